/- Walks, printed by a program (walkgen.py) from the spec specs_z. -/
import Derived.Test.YtphmcmkpcjlkfaaChecked
import Derived.Test.YtphmcmkpcjlkfaaRow
import Derived.Test.YtphmcmkpcjlkfaaPlay
import Derived.Test.YtphmcmkpcjlkfaaB1
import Derived.Test.YtphmcmkpcjlkfaaC1
import Derived.Test.YtphmcmkpcjlkfaaE1
import Derived.Test.YtphmcmkpcjlkfaaL1
import Derived.Test.YtphmcmkpcjlkfaaG1
import Derived.Test.YtphmcmkpcjlkfaaM1
import Derived.Test.YtphmcmkpcjlkfaaN1
import Derived.Test.YtphmcmkpcjlkfaaQ1
import Derived.Test.YtphmcmkpcjlkfaaW1
set_option maxRecDepth 20000
set_option maxHeartbeats 2000000
namespace Go.Proofs.Ytphmcmkpcjlkfaa
namespace Z1
open Go.RowKit Go.GL Go.Proofs
open Go.Proofs.Ytphmcmkpcjlkfaa.B1
open Go.Proofs.Ytphmcmkpcjlkfaa.C1
open Go.Proofs.Ytphmcmkpcjlkfaa.E1
open Go.Proofs.Ytphmcmkpcjlkfaa.L1
open Go.Proofs.Ytphmcmkpcjlkfaa.G1
open Go.Proofs.Ytphmcmkpcjlkfaa.M1
open Go.Proofs.Ytphmcmkpcjlkfaa.N1
open Go.Proofs.Ytphmcmkpcjlkfaa.Q1
open Go.Proofs.Ytphmcmkpcjlkfaa.W1
theorem ag24 : (Try.prog.underlying 24).map aggD = some true := by kernel_rfl
theorem ag26 : (Try.prog.underlying 26).map aggD = some true := by kernel_rfl
theorem ag30 : (Try.prog.underlying 30).map aggD = some true := by kernel_rfl
theorem nm10 : (Try.f10.name == "runtime.NumGoroutine") = false := by kernel_rfl
theorem nm11 : (Try.f11.name == "runtime.NumGoroutine") = false := by kernel_rfl
theorem nm12 : (Try.f12.name == "runtime.NumGoroutine") = false := by kernel_rfl
theorem nm5 : (Try.f5.name == "runtime.NumGoroutine") = false := by kernel_rfl
theorem nm6 : (Try.f6.name == "runtime.NumGoroutine") = false := by kernel_rfl
theorem nm7 : (Try.f7.name == "runtime.NumGoroutine") = false := by kernel_rfl
theorem nm8 : (Try.f8.name == "runtime.NumGoroutine") = false := by kernel_rfl
theorem nm9 : (Try.f9.name == "runtime.NumGoroutine") = false := by kernel_rfl
theorem sz24 : (Try.prog.info? 24).map (·.size) = some 2 := by kernel_rfl
theorem sz26 : (Try.prog.info? 26).map (·.size) = some 2 := by kernel_rfl
theorem sz30 : (Try.prog.info? 30).map (·.size) = some 2 := by kernel_rfl
theorem zr30 : (Try.prog.info? 30).bind (·.zero) = some (.agg #[(.slice none 0 0), (.bool false)]) := by kernel_rfl

theorem eqTable_same {w : World} {G : Pin} {u v : Value} {lf : Bool} {xs : List (List Nd)} (hP : Pins G w) (hu : RSl (eSl eNode) G u xs) (hv : RSl (eSl eNode) G v xs) :
    Calls Try.prog 10 [(.agg [u, .bool lf].toArray), (.agg [v, .bool lf].toArray)].toArray w fun e w' => ∃ G', e = .returned (.bool true) ∧ Ext noS G w G' w' := by
  refine (eqTable_spec hP hu hv).mono ?_
  rintro e w' ⟨G', rfl, hx⟩
  exact ⟨G', by simp, hx⟩
theorem iPlayMove_spec {w : World} {G : Pin} {v : Value} {lf : Bool} {fs : List (List Nd)} {p o : Int} (hP : Pins G w) (hv : RSl (eSl eNode) G v fs) :
    Calls Try.prog 9 [(.agg [v, .bool lf].toArray), (.agg [(.int .i64 p), (.int .i64 o)].toArray)].toArray w fun e w' => ∃ (u : Value) (G' : Pin), e = .returned (.tuple #[.agg [u, .bool (plB lf fs p o)].toArray, .bool (plOk lf fs p o)]) ∧ RSl (eSl eNode) G' u (plL lf fs p o) ∧ Ext noS G w G' w' := by
  refine (iPlayMove_dspec hP hv).mono ?_
  rintro e w' ⟨u, G', rfl, hd, hx⟩
  obtain ⟨G'', h1, h2⟩ := hd.give hx
  exact ⟨u, G'', rfl, h1, h2⟩

theorem law {w : World} {G : Pin} {v : Value} {lf : Bool} {fs : List (List Nd)} {p o : Int} (hP : Pins G w) (hv : RSl (eSl eNode) G v fs) :
    Calls Try.prog 3 [(.agg [v, (.bool lf)].toArray), (.agg [(.int .i64 p), (.int .i64 o)].toArray)].toArray w fun e w' => ∃ G', e = .returned (.bool true) ∧ Ext noS G w G' w' := by
  refine s_enter (n := 104) Try.func3 Try.ntmps3 rfl rfl ?_
  have hX0 : Ext noS G w G w := Ext.refl hP
  have htf := totF_nonneg fs
  have htg := totF_nonneg (plL lf fs p o)
  refine s_seq ?_
  refine c_reg ?_
  refine q1 rfl rfl rfl (o_box [v, (.bool lf)] (v := (.agg [v, (.bool lf)].toArray)) rfl rfl hX0.pins (fun b1 w2 hk3 hb4 hp5 hl6 => ?_))
  have hX7 := hX0.step hp5 hl6
  have hlo8 : w.heap.size ≤ b1 := by have := hX0.size; omega
  obtain ⟨G9, hle10, hX11, hbp12, hf13⟩ := hb4.shut hX7 hlo8
  refine q1 rfl rfl rfl (o_box [(.int .i64 p), (.int .i64 o)] (v := (.agg [(.int .i64 p), (.int .i64 o)].toArray)) rfl rfl hX11.pins (fun b14 w15 hk16 hb17 hp18 hl19 => ?_))
  have hX20 := hX11.step hp18 hl19
  have hlo21 : w.heap.size ≤ b14 := by have := hX11.size; omega
  obtain ⟨G22, hle23, hX24, hbp25, hf26⟩ := hb17.shut hX20 hlo21
  refine qd rfl rfl rfl (r_assign (v := (.bool false)) rfl) ?_
  refine qe ?_
  refine s_then ?_
  refine s_seq ?_
  refine c_reg ?_
  refine qd rfl rfl rfl (r_assign (v := (.int .i64 1048576)) rfl) ?_
  refine qe ?_
  refine s_then ?_
  refine s_seq ?_
  refine c_reg ?_
  refine qd rfl rfl rfl (r_ldpA (cs := [v, (.bool lf)]) ag24 sz24 rfl (fun j u hj => (Pins.of_le hX24.pins hle23) _ _ _ (hbp12 _ _ (by simpa using hj)))) ?_
  refine qd rfl rfl rfl (r_move (v := (.int .i64 1048576)) rfl) ?_
  refine q1 rfl rfl rfl (o_call (vs := [(.agg [v, (.bool lf)].toArray), (.int .i64 1048576)]) Try.func5 nm5 rfl rfl rfl ?_)
  refine Calls.mono (szTable_spec hX24.pins (hv.mono (Pin.le_trans hle10 hle23)) (by omega)) ?_
  rintro _ w29 ⟨z27, G28, rfl, hz30, hx31⟩
  refine ⟨_, rfl, ?_⟩
  have hX32 := hX24.tr hx31
  refine qd rfl rfl rfl (r_assign (v := (.int .i64 z27)) rfl) ?_
  refine qe ?_
  refine s_then ?_
  refine s_seq ?_
  refine s_seq ?_
  refine c_reg ?_
  refine qd rfl rfl rfl (r_move (v := (.int .i64 z27)) rfl) ?_
  refine qd rfl rfl rfl (r_lss rfl rfl) ?_
  refine qe ?_
  refine s_then ?_
  refine c_ifd (p := (z27 : Int) < 0) rfl rfl (fun h33 => ?_) (fun h33 => ?_)
  · skip
    refine s_seq ?_
    refine c_reg ?_
    refine qd rfl rfl rfl (r_assign (v := (.bool true)) rfl) ?_
    refine qe ?_
    refine s_then ?_
    refine wp_ret ?_
    refine s_ret ?_
    refine c_ret1 (v := (.bool true)) rfl rfl rfl ?_
    exact ⟨_, rfl, hX32⟩
  · skip
    refine wp_skip ?_
    refine s_then ?_
    refine s_seq ?_
    have hsf : SmallF fs := by rcases hz30 with h | h <;> first | omega | exact h.2.2
    refine c_cut (fun (en : Nat → Value) (W : World) => ∃ (env1 : Nat → Value) (c34 : Nat) (c35 : Value) (G36 : Pin), en = (upd (upd (upd (upd (upd env1 2 (.pointer (some ⟨b1, 0, none⟩))) 3 (.pointer (some ⟨b14, 0, none⟩))) 4 (.bool false)) 6 (.pointer (some ⟨c34, 0, none⟩))) 7 (.bool (plOk lf fs p o))) ∧ Ext noS G w G36 W ∧ Pin.le G28 G36 ∧ (RSl (eSl eNode) G36 c35 (plL lf fs p o)) ∧ (BxP G36 c34 [c35, (.bool (plB lf fs p o))])) ?_ ?_
    · rintro _ w37 ⟨env1, c34, c35, G36, rfl, hX40, hle41, hr38, hb39⟩
      refine s_then ?_
      refine s_seq ?_
      refine c_reg ?_
      refine qd rfl rfl rfl (r_ldpA (cs := [v, (.bool lf)]) ag24 sz24 rfl (fun j u hj => (Pins.of_le hX40.pins (Pin.le_trans (Pin.le_trans hle23 hx31.le) hle41)) _ _ _ (hbp12 _ _ (by simpa using hj)))) ?_
      refine q1 rfl rfl rfl (o_call (vs := [(.agg [v, (.bool lf)].toArray)]) Try.func7 nm7 rfl rfl rfl ?_)
      refine Calls.mono (toTable_dspec hX40.pins (hv.mono (Pin.le_trans (Pin.le_trans (Pin.le_trans hle10 hle23) hx31.le) hle41)) hsf) ?_
      rintro _ w44 ⟨u42, G43, rfl, hd45, hx46⟩
      refine ⟨_, rfl, ?_⟩
      have hX47 := hX40.tr hx46
      have hone48 := hd45.one
      refine q1 rfl rfl rfl (o_alloc [(.slice none 0 0), (.bool false)] zr30 rfl hX47.pins (fun b49 w50 hk51 hb52 hp53 hl54 => ?_))
      have hX55 := hX47.step hp53 hl54
      have hd56 := hd45.below hl54
      have hs57 := Nat.le_trans (Nat.le_refl w44.heap.size) hl54.size
      have ha58 : w44.heap.size ≤ b49 ∨ b49 < w37.heap.size := Or.inl (by have e := Option.some.inj (congrArg some hk51); have := (Nat.le_refl w44.heap.size); omega)
      have hlo59 : w.heap.size ≤ b49 := by have := hX47.size; omega
      refine q0 rfl rfl rfl (o_stp (cs' := [u42, (.bool lf)]) (us := [u42, (.bool lf)]) (v := (.agg [u42, (.bool lf)].toArray)) sz30 rfl rfl rfl (ones2 hone48 (by rfl)) hX55.pins hb52 (Nat.le_of_ble_eq_true rfl) rfl (fun w60 hb61 hp62 hg63 hz64 => ?_))
      have hX65 := hX55.write hp62 hg63 ((lo_box hlo59))
      have hd66 := hd56.kept hg63 ha58
      have hs67 := Nat.le_trans hs57 hg63.size
      obtain ⟨G68, hle69, hX70, hbp71, hf72⟩ := hb61.shut hX65 hlo59
      have hd73 := hd66.more hle69 hf72 ha58
      refine qe ?_
      refine s_then ?_
      refine s_seq ?_
      refine c_draw (S := fun w => Pins G68 w) (last := 10) (by kernel_rfl) rfl ?_
      have hl74 : Below w60.heap.size w60 w60.drew := (Below.refl _ _).drew
      have hp75 := hX70.pins.below hl74
      have hX76 := hX70.step hp75 hl74
      have hd77 := hd73.below hl74
      have hs78 := Nat.le_trans hs67 hl74.size
      refine dr_take (i := 0) rfl rfl rfl (want_none rfl _) (by kernel_rfl) (fun _ hS => r_ldpA (cs := [u42, (.bool lf)]) ag30 sz30 rfl (fun j u hj => hS _ _ _ (hbp71 _ _ (by simpa using hj)))) hX76.pins ?_
      refine dr_take (i := 1) rfl rfl rfl (want_none rfl _) (by kernel_rfl) (fun _ hS => r_ldpA (cs := [(.int .i64 p), (.int .i64 o)]) ag26 sz26 rfl (fun j u hj => (Pins.of_le hS (Pin.le_trans (Pin.le_trans (Pin.le_trans hx31.le hle41) hx46.le) hle69)) _ _ _ (hbp25 _ _ (by simpa using hj)))) hX76.pins ?_
      refine dr_two (i := 2) (j := 7) (by kernel_rfl) ?_ ?_
      · skip
        refine (drOp1 (i := 2) rfl rfl rfl (want_none rfl _) (o_call (vs := [(.agg [(.int .i64 p), (.int .i64 o)].toArray)]) Try.func8 nm8 rfl rfl rfl ?_))
        refine Calls.mono (toMove_spec (p := p) (o := o) hX76.pins) ?_
        rintro _ w80 ⟨G79, rfl, hx81⟩
        refine ⟨_, rfl, ?_⟩
        have hX82 := hX76.tr hx81
        have hd83 := hd77.ext hx81
        have hs84 := Nat.le_trans hs78 hx81.size
        refine ⟨fun _ => (Pins.of_le hX82.pins hx81.le), ?_⟩
        refine dr_two (i := 3) (j := 7) (by kernel_rfl) ?_ ?_
        · skip
          obtain ⟨G85, hle86, hp87, hr88, _⟩ := hd83.read hX82.pins
          refine (drOp1 (i := 3) rfl rfl rfl (want_none rfl _) (o_call (vs := [(.agg [u42, (.bool lf)].toArray), (.agg [(.int .i64 p), (.int .i64 o)].toArray)]) Try.func9 nm9 rfl rfl rfl ?_))
          refine Calls.mono (iPlayMove_dspec (lf := lf) (p := p) (o := o) hp87 hr88) ?_
          rintro _ w91 ⟨u89, G90, rfl, hd92, hx93⟩
          refine ⟨_, rfl, ?_⟩
          have hgx : w44.heap.size ≤ w80.heap.size := hs84
          have hx94 := deep_back hX82.pins hx93
          have hX95 := hX82.step hx94.pins hx94.below
          have hd96 := hd83.below hx94.below
          have hs97 := Nat.le_trans hs84 hx94.below.size
          have hd98 := hd92.anti (Pin.le_trans hle86 hx93.le)
          have hone99 := hd98.one
          refine ⟨fun _ => (Pins.of_le hX95.pins hx81.le), ?_⟩
          refine dr_take (i := 4) rfl rfl rfl (want_none rfl _) (by kernel_rfl) (fun _ _ => r_move (v := (.tuple #[(.agg [u89, (.bool (plB lf fs p o))].toArray), (.bool (plOk lf fs p o))])) rfl) (Pins.of_le hX95.pins hx81.le) ?_
          refine dr_take (i := 5) rfl rfl rfl (want_none rfl _) (by kernel_rfl) (fun _ _ => r_extract (v := (.agg [u89, (.bool (plB lf fs p o))].toArray)) rfl rfl) (Pins.of_le hX95.pins hx81.le) ?_
          refine dr_take (i := 6) rfl rfl rfl (want_none rfl _) (by kernel_rfl) (fun _ _ => r_extract (v := (.bool (plOk lf fs p o))) rfl rfl) (Pins.of_le hX95.pins hx81.le) ?_
          refine dr_one (i := 7) (by kernel_rfl) (drOp1 (i := 7) rfl rfl rfl (want_none rfl _) (o_alloc [(.slice none 0 0), (.bool false)] zr30 rfl hX95.pins (fun b100 w101 hk102 hb103 hp104 hl105 => ?_)))
          have hX106 := hX95.step hp104 hl105
          have hd107 := hd96.below hl105
          have hs108 := Nat.le_trans hs97 hl105.size
          have hd109 := hd98.below hl105
          have hs110 := Nat.le_trans (Nat.le_refl w91.heap.size) hl105.size
          have ha111 : w44.heap.size ≤ b100 ∨ b100 < w37.heap.size := Or.inl (by have e := Option.some.inj (congrArg some hk102); have := hs97; omega)
          have ha112 : w91.heap.size ≤ b100 ∨ b100 < w80.heap.size := Or.inl (by have e := Option.some.inj (congrArg some hk102); have := (Nat.le_refl w91.heap.size); omega)
          have hlo113 : w.heap.size ≤ b100 := by have := hX95.size; omega
          refine ⟨fun _ => (Pins.of_le hX106.pins hx81.le), ?_⟩
          refine dr_one (i := 8) (by kernel_rfl) (drOp0 (i := 8) rfl rfl rfl (want_none rfl _) (o_stp (cs' := [u89, (.bool (plB lf fs p o))]) (us := [u89, (.bool (plB lf fs p o))]) (v := (.agg [u89, (.bool (plB lf fs p o))].toArray)) sz30 rfl rfl rfl (ones2 hone99 (by rfl)) hX106.pins hb103 (Nat.le_of_ble_eq_true rfl) rfl (fun w114 hb115 hp116 hg117 hz118 => ?_)))
          have hX119 := hX106.write hp116 hg117 ((lo_box hlo113))
          have hd120 := hd107.kept hg117 ha111
          have hs121 := Nat.le_trans hs108 hg117.size
          have hd122 := hd109.kept hg117 ha112
          have hs123 := Nat.le_trans hs110 hg117.size
          obtain ⟨G124, hle125, hX126, hbp127, hf128⟩ := hb115.shut hX119 hlo113
          have hd129 := hd120.more hle125 hf128 ha111
          have hd130 := hd122.more hle125 hf128 ha112
          refine ⟨fun _ => (Pins.of_le hX126.pins (Pin.le_trans hx81.le hle125)), ?_⟩
          refine dr_take (i := 9) rfl rfl rfl (want_none rfl _) (by kernel_rfl) (fun _ _ => r_assign (v := (.bool (plOk lf fs p o))) rfl) (Pins.of_le hX126.pins (Pin.le_trans hx81.le hle125)) ?_
          refine dr_end (by kernel_rfl) ?_
          refine s_then ?_
          refine s_seq ?_
          refine s_seq ?_
          refine c_reg ?_
          refine qd rfl rfl rfl (r_ldpA (cs := [u89, (.bool (plB lf fs p o))]) ag30 sz30 rfl (fun j u hj => hX126.pins _ _ _ (hbp127 _ _ (by simpa using hj)))) ?_
          refine qd rfl rfl rfl (r_ldpA (cs := [c35, (.bool (plB lf fs p o))]) ag30 sz30 rfl (fun j u hj => (Pins.of_le hX126.pins (Pin.le_trans (Pin.le_trans (Pin.le_trans hx46.le hle69) hx81.le) hle125)) _ _ _ (hb39 _ _ (by simpa using hj)))) ?_
          obtain ⟨G134, hle135, hp136, hr137, _⟩ := hd130.read hX126.pins
          refine q1 rfl rfl rfl (o_call (vs := [(.agg [u89, (.bool (plB lf fs p o))].toArray), (.agg [c35, (.bool (plB lf fs p o))].toArray)]) Try.func10 nm10 rfl rfl rfl ?_)
          refine Calls.mono (eqTable_same hp136 hr137 ((hr38.mono (Pin.le_trans (Pin.le_trans (Pin.le_trans hx46.le hle69) hx81.le) hle125)).mono hle135)) ?_
          rintro _ w132 ⟨G131, rfl, hx133⟩
          refine ⟨_, rfl, ?_⟩
          have hx138 := deep_back hX126.pins hx133
          have hX139 := hX126.step hx138.pins hx138.below
          have hd140 := hd129.below hx138.below
          have hs141 := Nat.le_trans hs121 hx138.below.size
          have hd142 := hd130.below hx138.below
          have hs143 := Nat.le_trans hs123 hx138.below.size
          refine qd rfl rfl rfl (r_not rfl) ?_
          refine qd rfl rfl rfl (r_move (v := (.bool false)) rfl) ?_
          refine qdg rfl rfl rfl rfl rfl rfl (r_move (v := (.bool (plOk lf fs p o))) rfl) ?_
          refine qdg rfl rfl rfl rfl rfl rfl (r_move (v := (.bool (plOk lf fs p o))) rfl) ?_
          refine qdg rfl rfl rfl rfl rfl rfl (r_neqB_same Try.underlying4 rfl rfl) ?_
          refine qd rfl rfl rfl (r_pickF (v := (.bool false)) rfl rfl) ?_
          refine qe ?_
          refine s_then ?_
          refine c_ifF rfl rfl ?_
          refine wp_skip ?_
          refine s_then ?_
          refine s_seq ?_
          refine s_seq ?_
          refine c_draw (S := fun w => Pins G124 w) (last := 5) (by kernel_rfl) rfl ?_
          have hl144 : Below w132.heap.size w132 w132.drew := (Below.refl _ _).drew
          have hp145 := hX139.pins.below hl144
          have hX146 := hX139.step hp145 hl144
          have hd147 := hd140.below hl144
          have hs148 := Nat.le_trans hs141 hl144.size
          have hd149 := hd142.below hl144
          have hs150 := Nat.le_trans hs143 hl144.size
          refine dr_take (i := 0) rfl rfl rfl (want_none rfl _) (by kernel_rfl) (fun _ hS => r_ldpA (cs := [u42, (.bool lf)]) ag30 sz30 rfl (fun j u hj => (Pins.of_le hS (Pin.le_trans hx81.le hle125)) _ _ _ (hbp71 _ _ (by simpa using hj)))) hX146.pins ?_
          refine dr_take (i := 1) rfl rfl rfl (want_none rfl _) (by kernel_rfl) (fun _ hS => r_ldpA (cs := [v, (.bool lf)]) ag24 sz24 rfl (fun j u hj => (Pins.of_le hS (Pin.le_trans (Pin.le_trans (Pin.le_trans (Pin.le_trans (Pin.le_trans (Pin.le_trans hle23 hx31.le) hle41) hx46.le) hle69) hx81.le) hle125)) _ _ _ (hbp12 _ _ (by simpa using hj)))) hX146.pins ?_
          refine dr_one (i := 2) (by kernel_rfl) (drOp1 (i := 2) rfl rfl rfl (want_none rfl _) (o_call (vs := [(.agg [v, (.bool lf)].toArray)]) Try.func7 nm7 rfl rfl rfl ?_))
          refine Calls.mono (toTable_spec hX146.pins (hv.mono (Pin.le_trans (Pin.le_trans (Pin.le_trans (Pin.le_trans (Pin.le_trans (Pin.le_trans (Pin.le_trans hle10 hle23) hx31.le) hle41) hx46.le) hle69) hx81.le) hle125)) hsf) ?_
          rintro _ w153 ⟨u151, G152, rfl, hr154, hx155⟩
          refine ⟨_, rfl, ?_⟩
          have hX156 := hX146.tr hx155
          have hd157 := hd147.ext hx155
          have hs158 := Nat.le_trans hs148 hx155.size
          have hd159 := hd149.ext hx155
          have hs160 := Nat.le_trans hs150 hx155.size
          refine ⟨fun _ => (Pins.of_le hX156.pins hx155.le), ?_⟩
          obtain ⟨G164, hle165, hp166, hr167, _⟩ := hd157.read hX156.pins
          refine dr_one (i := 3) (by kernel_rfl) (drOp1 (i := 3) rfl rfl rfl (want_none rfl _) (o_call (vs := [(.agg [u42, (.bool lf)].toArray), (.agg [u151, (.bool lf)].toArray)]) Try.func10 nm10 rfl rfl rfl ?_))
          refine Calls.mono (eqTable_same hp166 hr167 (hr154.mono hle165)) ?_
          rintro _ w162 ⟨G161, rfl, hx163⟩
          refine ⟨_, rfl, ?_⟩
          have hx168 := deep_back hX156.pins hx163
          have hX169 := hX156.step hx168.pins hx168.below
          have hd170 := hd157.below hx168.below
          have hs171 := Nat.le_trans hs158 hx168.below.size
          have hd172 := hd159.below hx168.below
          have hs173 := Nat.le_trans hs160 hx168.below.size
          refine ⟨fun _ => (Pins.of_le hX169.pins hx155.le), ?_⟩
          refine dr_take (i := 4) rfl rfl rfl (want_none rfl _) (by kernel_rfl) (fun _ _ => r_not rfl) (Pins.of_le hX169.pins hx155.le) ?_
          refine dr_end (by kernel_rfl) ?_
          refine s_then ?_
          refine c_ifF rfl rfl ?_
          refine wp_skip ?_
          refine s_then ?_
          refine s_seq ?_
          refine c_reg ?_
          refine qd rfl rfl rfl (r_assign (v := (.int .i64 1)) rfl) ?_
          refine qe ?_
          refine s_then ?_
          refine s_seq ?_
          refine c_reg ?_
          refine qd rfl rfl rfl (r_ldpA (cs := [u42, (.bool lf)]) ag30 sz30 rfl (fun j u hj => (Pins.of_le hX169.pins (Pin.le_trans (Pin.le_trans hx81.le hle125) hx155.le)) _ _ _ (hbp71 _ _ (by simpa using hj)))) ?_
          refine qd rfl rfl rfl (r_move (v := (.int .i64 1)) rfl) ?_
          refine q1 rfl rfl rfl (o_call (vs := [(.agg [u42, (.bool lf)].toArray), (.int .i64 1)]) Try.func11 nm11 rfl rfl rfl ?_)
          refine Calls.mono (markTable_spec (kz := 1) (lf := lf) hX169.pins hd170 hs171 hsf (by omega)) ?_
          rintro _ w174 ⟨rfl, hd175, hx176⟩
          refine ⟨_, rfl, ?_⟩
          have hX177 := hX169.trans hx176 (fun i hi => Or.inl (Nat.le_trans hX40.size hi.1))
          have hd178 := hd172.extS hx176 (fun k h1 h2 h3 => by have := h3.2; omega)
          have hs179 := Nat.le_trans hs173 hx176.size
          refine qd rfl rfl rfl (r_assign (v := (.int .i64 (1 + totF fs))) rfl) ?_
          refine qe ?_
          refine s_then ?_
          refine s_seq ?_
          refine s_seq ?_
          refine c_reg ?_
          refine qd rfl rfl rfl (r_move (v := (.int .i64 (1 + totF fs))) rfl) ?_
          refine qd rfl rfl rfl (r_lss rfl rfl) ?_
          refine qd rfl rfl rfl (r_move (v := (.bool (decide ((1 + totF fs : Int) < 0)))) rfl) ?_
          refine qbd (p := (1 + totF fs : Int) < 0) (t := 57) rfl (fun h180 => ?_) (fun h180 => ?_)
          · skip
            refine qs rfl rfl rfl rfl rfl rfl ?_
            refine qs rfl rfl rfl rfl rfl rfl ?_
            refine qs rfl rfl rfl rfl rfl rfl ?_
            refine qs rfl rfl rfl rfl rfl rfl ?_
            refine qd rfl rfl rfl (r_pickT (v := (.bool true)) rfl rfl) ?_
            refine qd rfl rfl rfl (r_move (v := (.bool true)) rfl) ?_
            refine qs rfl rfl rfl rfl rfl rfl ?_
            refine qs rfl rfl rfl rfl rfl rfl ?_
            refine qs rfl rfl rfl rfl rfl rfl ?_
            refine qd rfl rfl rfl (r_pickT (v := (.bool true)) rfl rfl) ?_
            refine qe ?_
            refine s_then ?_
            refine c_ifT rfl rfl ?_
            refine s_seq ?_
            refine c_reg ?_
            refine qd rfl rfl rfl (r_assign (v := (.bool false)) rfl) ?_
            refine qe ?_
            refine s_then ?_
            refine wp_ret ?_
            refine s_ret ?_
            refine c_ret1 (v := (.bool false)) rfl rfl rfl ?_
            exfalso; omega
          · skip
            refine qdg rfl rfl rfl rfl rfl rfl (r_ldpA (cs := [u89, (.bool (plB lf fs p o))]) ag30 sz30 rfl (fun j u hj => (Pins.of_le hX177.pins hx155.le) _ _ _ (hbp127 _ _ (by simpa using hj)))) ?_
            refine qdg rfl rfl rfl rfl rfl rfl (r_ldpA (cs := [c35, (.bool (plB lf fs p o))]) ag30 sz30 rfl (fun j u hj => (Pins.of_le hX177.pins (Pin.le_trans (Pin.le_trans (Pin.le_trans (Pin.le_trans hx46.le hle69) hx81.le) hle125) hx155.le)) _ _ _ (hb39 _ _ (by simpa using hj)))) ?_
            obtain ⟨G184, hle185, hp186, hr187, _⟩ := hd178.read hX177.pins
            refine q1g rfl rfl rfl rfl rfl rfl (o_call (vs := [(.agg [u89, (.bool (plB lf fs p o))].toArray), (.agg [c35, (.bool (plB lf fs p o))].toArray)]) Try.func10 nm10 rfl rfl rfl ?_)
            refine Calls.mono (eqTable_same hp186 hr187 ((hr38.mono (Pin.le_trans (Pin.le_trans (Pin.le_trans (Pin.le_trans hx46.le hle69) hx81.le) hle125) hx155.le)).mono hle185)) ?_
            rintro _ w182 ⟨G181, rfl, hx183⟩
            refine ⟨_, rfl, ?_⟩
            have hx188 := deep_back hX177.pins hx183
            have hX189 := hX177.step hx188.pins hx188.below
            have hd190 := hd178.below hx188.below
            have hs191 := Nat.le_trans hs179 hx188.below.size
            refine qdg rfl rfl rfl rfl rfl rfl (r_not rfl) ?_
            refine qd rfl rfl rfl (r_pickF (v := (.bool false)) rfl rfl) ?_
            refine qd rfl rfl rfl (r_move (v := (.bool false)) rfl) ?_
            refine qdg rfl rfl rfl rfl rfl rfl (r_move (v := (.bool (plOk lf fs p o))) rfl) ?_
            refine qdg rfl rfl rfl rfl rfl rfl (r_move (v := (.bool (plOk lf fs p o))) rfl) ?_
            refine qdg rfl rfl rfl rfl rfl rfl (r_neqB_same Try.underlying4 rfl rfl) ?_
            refine qd rfl rfl rfl (r_pickF (v := (.bool false)) rfl rfl) ?_
            refine qe ?_
            refine s_then ?_
            refine c_ifF rfl rfl ?_
            refine wp_skip ?_
            refine s_then ?_
            refine s_seq ?_
            refine c_reg ?_
            refine qd rfl rfl rfl (r_assign (v := (.int .i64 1)) rfl) ?_
            refine qe ?_
            refine s_then ?_
            refine s_seq ?_
            refine c_reg ?_
            refine qd rfl rfl rfl (r_ldpA (cs := [u89, (.bool (plB lf fs p o))]) ag30 sz30 rfl (fun j u hj => (Pins.of_le hX189.pins hx155.le) _ _ _ (hbp127 _ _ (by simpa using hj)))) ?_
            refine qd rfl rfl rfl (r_move (v := (.int .i64 1)) rfl) ?_
            refine q1 rfl rfl rfl (o_call (vs := [(.agg [u89, (.bool (plB lf fs p o))].toArray), (.int .i64 1)]) Try.func11 nm11 rfl rfl rfl ?_)
            refine Calls.mono (markTable_spec (kz := 1) (lf := plB lf fs p o) hX189.pins hd190 hs191 (pl_small lf fs p o) (by omega)) ?_
            rintro _ w192 ⟨rfl, hd193, hx194⟩
            refine ⟨_, rfl, ?_⟩
            have hX195 := hX189.trans hx194 (fun i hi => Or.inl (Nat.le_trans hX82.size hi.1))
            obtain ⟨G197, hle198, hp199, hr200, hf201⟩ := hd193.read hX195.pins
            have hX196 := hX195.promise hle198 hp199 hf201 hX82.size
            refine qd rfl rfl rfl (r_assign (v := (.int .i64 (1 + totF (plL lf fs p o)))) rfl) ?_
            refine qe ?_
            refine s_then ?_
            refine s_seq ?_
            refine c_reg ?_
            refine qd rfl rfl rfl (r_assign (v := (.int .i64 1)) rfl) ?_
            refine qe ?_
            refine s_then ?_
            refine s_seq ?_
            refine c_reg ?_
            refine qd rfl rfl rfl (r_ldpA (cs := [u89, (.bool (plB lf fs p o))]) ag30 sz30 rfl (fun j u hj => (Pins.of_le hX196.pins (Pin.le_trans hx155.le hle198)) _ _ _ (hbp127 _ _ (by simpa using hj)))) ?_
            refine qd rfl rfl rfl (r_move (v := (.int .i64 1)) rfl) ?_
            refine q1 rfl rfl rfl (o_call (vs := [(.agg [u89, (.bool (plB lf fs p o))].toArray), (.int .i64 1)]) Try.func12 nm12 rfl rfl rfl ?_)
            refine Calls.mono (heldTable_spec (kz := 1) (fs := plL lf fs p o) hX196.pins hr200 (pl_small lf fs p o) (by omega)) ?_
            rintro _ w203 ⟨G202, rfl, hx204⟩
            refine ⟨_, rfl, ?_⟩
            have hX205 := hX196.tr hx204
            refine qd rfl rfl rfl (r_assign (v := (.int .i64 (1 + totF (plL lf fs p o)))) rfl) ?_
            refine qe ?_
            refine s_then ?_
            refine s_seq ?_
            refine s_seq ?_
            refine c_reg ?_
            refine qd rfl rfl rfl (r_move (v := (.int .i64 (1 + totF (plL lf fs p o)))) rfl) ?_
            refine qd rfl rfl rfl (r_lss rfl rfl) ?_
            refine qe ?_
            refine s_then ?_
            refine c_ifd (p := (1 + totF (plL lf fs p o) : Int) < 0) rfl rfl (fun h206 => ?_) (fun h206 => ?_)
            · skip
              refine s_seq ?_
              refine c_reg ?_
              refine qd rfl rfl rfl (r_assign (v := (.bool false)) rfl) ?_
              refine qe ?_
              refine s_then ?_
              refine wp_ret ?_
              refine s_ret ?_
              refine c_ret1 (v := (.bool false)) rfl rfl rfl ?_
              exfalso; omega
            · skip
              refine wp_skip ?_
              refine s_then ?_
              refine s_seq ?_
              refine s_seq ?_
              refine c_reg ?_
              refine qd rfl rfl rfl (r_move (v := (.int .i64 (1 + totF (plL lf fs p o)))) rfl) ?_
              refine qd rfl rfl rfl (r_move (v := (.int .i64 (1 + totF (plL lf fs p o)))) rfl) ?_
              refine qd rfl rfl rfl (r_neq rfl rfl) ?_
              refine qe ?_
              refine s_then ?_
              refine c_ifd (p := (1 + totF (plL lf fs p o) : Int) ≠ (1 + totF (plL lf fs p o))) rfl rfl (fun h207 => ?_) (fun h207 => ?_)
              · skip
                refine s_seq ?_
                refine c_reg ?_
                refine qd rfl rfl rfl (r_assign (v := (.bool false)) rfl) ?_
                refine qe ?_
                refine s_then ?_
                refine wp_ret ?_
                refine s_ret ?_
                refine c_ret1 (v := (.bool false)) rfl rfl rfl ?_
                exfalso; omega
              · skip
                refine wp_skip ?_
                refine s_then ?_
                refine s_seq ?_
                refine c_cut (fun (en : Nat → Value) (W : World) => ∃ (env1 : Nat → Value) (c208 : Nat) (c209 : Value) (G210 : Pin), en = (upd (upd (upd (upd (upd (upd (upd env1 4 (.bool false)) 6 (.pointer (some ⟨c34, 0, none⟩))) 7 (.bool (plOk lf fs p o))) 9 (.pointer (some ⟨b100, 0, none⟩))) 12 (.int .i64 (1 + totF (plL lf fs p o)))) 14 (.pointer (some ⟨c208, 0, none⟩))) 15 (.bool (plOk lf fs p o))) ∧ Ext noS G w G210 W ∧ Pin.le G202 G210 ∧ (RSl (eSl eNode) G210 c209 (plL lf fs p o)) ∧ (BxP G210 c208 [c209, (.bool (plB lf fs p o))])) ?_ ?_
                · rintro _ w211 ⟨env1, c208, c209, G210, rfl, hX214, hle215, hr212, hb213⟩
                  refine s_then ?_
                  refine s_seq ?_
                  refine s_seq ?_
                  refine c_reg ?_
                  refine qd rfl rfl rfl (r_ldpA (cs := [c209, (.bool (plB lf fs p o))]) ag30 sz30 rfl (fun j u hj => hX214.pins _ _ _ (hb213 _ _ (by simpa using hj)))) ?_
                  refine qd rfl rfl rfl (r_ldpA (cs := [c35, (.bool (plB lf fs p o))]) ag30 sz30 rfl (fun j u hj => (Pins.of_le hX214.pins (Pin.le_trans (Pin.le_trans (Pin.le_trans (Pin.le_trans (Pin.le_trans (Pin.le_trans (Pin.le_trans hx46.le hle69) hx81.le) hle125) hx155.le) hle198) hx204.le) hle215)) _ _ _ (hb39 _ _ (by simpa using hj)))) ?_
                  refine q1 rfl rfl rfl (o_call (vs := [(.agg [c209, (.bool (plB lf fs p o))].toArray), (.agg [c35, (.bool (plB lf fs p o))].toArray)]) Try.func10 nm10 rfl rfl rfl ?_)
                  refine Calls.mono (eqTable_same hX214.pins hr212 (hr38.mono (Pin.le_trans (Pin.le_trans (Pin.le_trans (Pin.le_trans (Pin.le_trans (Pin.le_trans (Pin.le_trans hx46.le hle69) hx81.le) hle125) hx155.le) hle198) hx204.le) hle215))) ?_
                  rintro _ w217 ⟨G216, rfl, hx218⟩
                  refine ⟨_, rfl, ?_⟩
                  have hX219 := hX214.tr hx218
                  refine qd rfl rfl rfl (r_not rfl) ?_
                  refine qd rfl rfl rfl (r_move (v := (.bool false)) rfl) ?_
                  refine qdg rfl rfl rfl rfl rfl rfl (r_move (v := (.bool (plOk lf fs p o))) rfl) ?_
                  refine qdg rfl rfl rfl rfl rfl rfl (r_move (v := (.bool (plOk lf fs p o))) rfl) ?_
                  refine qdg rfl rfl rfl rfl rfl rfl (r_neqB_same Try.underlying4 rfl rfl) ?_
                  refine qd rfl rfl rfl (r_pickF (v := (.bool false)) rfl rfl) ?_
                  refine qe ?_
                  refine s_then ?_
                  refine c_ifF rfl rfl ?_
                  refine wp_skip ?_
                  refine s_then ?_
                  refine s_seq ?_
                  refine c_reg ?_
                  refine qd rfl rfl rfl (r_assign (v := (.int .i64 1)) rfl) ?_
                  refine qe ?_
                  refine s_then ?_
                  refine s_seq ?_
                  refine c_reg ?_
                  refine qd rfl rfl rfl (r_ldpA (cs := [u89, (.bool (plB lf fs p o))]) ag30 sz30 rfl (fun j u hj => (Pins.of_le hX219.pins (Pin.le_trans (Pin.le_trans (Pin.le_trans (Pin.le_trans hx155.le hle198) hx204.le) hle215) hx218.le)) _ _ _ (hbp127 _ _ (by simpa using hj)))) ?_
                  refine qd rfl rfl rfl (r_move (v := (.int .i64 1)) rfl) ?_
                  refine q1 rfl rfl rfl (o_call (vs := [(.agg [u89, (.bool (plB lf fs p o))].toArray), (.int .i64 1)]) Try.func12 nm12 rfl rfl rfl ?_)
                  refine Calls.mono (heldTable_spec (kz := 1) (fs := plL lf fs p o) hX219.pins (hr200.mono (Pin.le_trans (Pin.le_trans hx204.le hle215) hx218.le)) (pl_small lf fs p o) (by omega)) ?_
                  rintro _ w221 ⟨G220, rfl, hx222⟩
                  refine ⟨_, rfl, ?_⟩
                  have hX223 := hX219.tr hx222
                  refine qd rfl rfl rfl (r_assign (v := (.int .i64 (1 + totF (plL lf fs p o)))) rfl) ?_
                  refine qe ?_
                  refine s_then ?_
                  refine s_seq ?_
                  refine s_seq ?_
                  refine c_reg ?_
                  refine qd rfl rfl rfl (r_move (v := (.int .i64 (1 + totF (plL lf fs p o)))) rfl) ?_
                  refine qd rfl rfl rfl (r_lss rfl rfl) ?_
                  refine qe ?_
                  refine s_then ?_
                  refine c_ifd (p := (1 + totF (plL lf fs p o) : Int) < 0) rfl rfl (fun h => absurd h h206) (fun _ => ?_)
                  refine wp_skip ?_
                  refine s_then ?_
                  refine s_seq ?_
                  refine s_seq ?_
                  refine c_reg ?_
                  refine qd rfl rfl rfl (r_move (v := (.int .i64 (1 + totF (plL lf fs p o)))) rfl) ?_
                  refine qd rfl rfl rfl (r_move (v := (.int .i64 (1 + totF (plL lf fs p o)))) rfl) ?_
                  refine qd rfl rfl rfl (r_neq rfl rfl) ?_
                  refine qe ?_
                  refine s_then ?_
                  refine c_ifd (p := (1 + totF (plL lf fs p o) : Int) ≠ (1 + totF (plL lf fs p o))) rfl rfl (fun h => absurd h h207) (fun _ => ?_)
                  refine wp_skip ?_
                  refine s_then ?_
                  refine s_seq ?_
                  refine c_reg ?_
                  refine qd rfl rfl rfl (r_assign (v := (.bool true)) rfl) ?_
                  refine qe ?_
                  refine s_then ?_
                  refine wp_ret ?_
                  refine s_ret ?_
                  refine c_ret1 (v := (.bool true)) rfl rfl rfl ?_
                  exact ⟨_, rfl, hX223⟩
                · skip
                  refine c_draw (S := fun w => Pins G202 w) (last := 11) (by kernel_rfl) rfl ?_
                  have hl226 : Below w203.heap.size w203 w203.drew := (Below.refl _ _).drew
                  have hp227 := hX205.pins.below hl226
                  have hX228 := hX205.step hp227 hl226
                  refine dr_take (i := 0) rfl rfl rfl (want_none rfl _) (by kernel_rfl) (fun _ hS => r_ldpA (cs := [v, (.bool lf)]) ag24 sz24 rfl (fun j u hj => (Pins.of_le hS (Pin.le_trans (Pin.le_trans (Pin.le_trans (Pin.le_trans (Pin.le_trans (Pin.le_trans (Pin.le_trans (Pin.le_trans (Pin.le_trans hle23 hx31.le) hle41) hx46.le) hle69) hx81.le) hle125) hx155.le) hle198) hx204.le)) _ _ _ (hbp12 _ _ (by simpa using hj)))) hX228.pins ?_
                  refine dr_take (i := 2) rfl rfl rfl (want_none rfl _) (by kernel_rfl) (fun _ hS => r_ldpA (cs := [(.int .i64 p), (.int .i64 o)]) ag26 sz26 rfl (fun j u hj => (Pins.of_le hS (Pin.le_trans (Pin.le_trans (Pin.le_trans (Pin.le_trans (Pin.le_trans (Pin.le_trans (Pin.le_trans (Pin.le_trans hx31.le hle41) hx46.le) hle69) hx81.le) hle125) hx155.le) hle198) hx204.le)) _ _ _ (hbp25 _ _ (by simpa using hj)))) hX228.pins ?_
                  refine dr_two (i := 1) (j := 8) (by kernel_rfl) ?_ ?_
                  · skip
                    refine (drOp1 (i := 1) rfl rfl rfl (want_none rfl _) (o_call (vs := [(.agg [v, (.bool lf)].toArray)]) Try.func7 nm7 rfl rfl rfl ?_))
                    refine Calls.mono (toTable_spec hX228.pins (hv.mono (Pin.le_trans (Pin.le_trans (Pin.le_trans (Pin.le_trans (Pin.le_trans (Pin.le_trans (Pin.le_trans (Pin.le_trans (Pin.le_trans (Pin.le_trans hle10 hle23) hx31.le) hle41) hx46.le) hle69) hx81.le) hle125) hx155.le) hle198) hx204.le)) hsf) ?_
                    rintro _ w231 ⟨u229, G230, rfl, hr232, hx233⟩
                    refine ⟨_, rfl, ?_⟩
                    have hX234 := hX228.tr hx233
                    refine ⟨fun _ => (Pins.of_le hX234.pins hx233.le), ?_⟩
                    refine dr_two (i := 3) (j := 8) (by kernel_rfl) ?_ ?_
                    · skip
                      refine (drOp1 (i := 3) rfl rfl rfl (want_none rfl _) (o_call (vs := [(.agg [(.int .i64 p), (.int .i64 o)].toArray)]) Try.func8 nm8 rfl rfl rfl ?_))
                      refine Calls.mono (toMove_spec (p := p) (o := o) hX234.pins) ?_
                      rintro _ w236 ⟨G235, rfl, hx237⟩
                      refine ⟨_, rfl, ?_⟩
                      have hX238 := hX234.tr hx237
                      refine ⟨fun _ => (Pins.of_le hX238.pins (Pin.le_trans hx233.le hx237.le)), ?_⟩
                      refine dr_two (i := 4) (j := 8) (by kernel_rfl) ?_ ?_
                      · skip
                        refine (drOp1 (i := 4) rfl rfl rfl (want_none rfl _) (o_call (vs := [(.agg [u229, (.bool lf)].toArray), (.agg [(.int .i64 p), (.int .i64 o)].toArray)]) Try.func9 nm9 rfl rfl rfl ?_))
                        refine Calls.mono (iPlayMove_spec (lf := lf) (p := p) (o := o) hX238.pins (hr232.mono hx237.le)) ?_
                        rintro _ w241 ⟨u239, G240, rfl, hr242, hx243⟩
                        refine ⟨_, rfl, ?_⟩
                        have hX244 := hX238.tr hx243
                        refine ⟨fun _ => (Pins.of_le hX244.pins (Pin.le_trans (Pin.le_trans hx233.le hx237.le) hx243.le)), ?_⟩
                        refine dr_take (i := 5) rfl rfl rfl (want_none rfl _) (by kernel_rfl) (fun _ _ => r_move (v := (.tuple #[(.agg [u239, (.bool (plB lf fs p o))].toArray), (.bool (plOk lf fs p o))])) rfl) (Pins.of_le hX244.pins (Pin.le_trans (Pin.le_trans hx233.le hx237.le) hx243.le)) ?_
                        refine dr_take (i := 6) rfl rfl rfl (want_none rfl _) (by kernel_rfl) (fun _ _ => r_extract (v := (.agg [u239, (.bool (plB lf fs p o))].toArray)) rfl rfl) (Pins.of_le hX244.pins (Pin.le_trans (Pin.le_trans hx233.le hx237.le) hx243.le)) ?_
                        refine dr_take (i := 7) rfl rfl rfl (want_none rfl _) (by kernel_rfl) (fun _ _ => r_extract (v := (.bool (plOk lf fs p o))) rfl rfl) (Pins.of_le hX244.pins (Pin.le_trans (Pin.le_trans hx233.le hx237.le) hx243.le)) ?_
                        refine dr_one (i := 8) (by kernel_rfl) (drOp1 (i := 8) rfl rfl rfl (want_none rfl _) (o_alloc [(.slice none 0 0), (.bool false)] zr30 rfl hX244.pins (fun b245 w246 hk247 hb248 hp249 hl250 => ?_)))
                        have hX251 := hX244.step hp249 hl250
                        have hlo252 : w.heap.size ≤ b245 := by have := hX244.size; omega
                        refine ⟨fun _ => (Pins.of_le hX251.pins (Pin.le_trans (Pin.le_trans hx233.le hx237.le) hx243.le)), ?_⟩
                        refine dr_one (i := 9) (by kernel_rfl) (drOp0 (i := 9) rfl rfl rfl (want_none rfl _) (o_stp (cs' := [u239, (.bool (plB lf fs p o))]) (us := [u239, (.bool (plB lf fs p o))]) (v := (.agg [u239, (.bool (plB lf fs p o))].toArray)) sz30 rfl rfl rfl (ones2 hr242.one (by rfl)) hX251.pins hb248 (Nat.le_of_ble_eq_true rfl) rfl (fun w253 hb254 hp255 hg256 hz257 => ?_)))
                        have hX258 := hX251.write hp255 hg256 ((lo_box hlo252))
                        obtain ⟨G259, hle260, hX261, hbp262, hf263⟩ := hb254.shut hX258 hlo252
                        refine ⟨fun _ => (Pins.of_le hX261.pins (Pin.le_trans (Pin.le_trans (Pin.le_trans hx233.le hx237.le) hx243.le) hle260)), ?_⟩
                        refine dr_take (i := 10) rfl rfl rfl (want_none rfl _) (by kernel_rfl) (fun _ _ => r_assign (v := (.bool (plOk lf fs p o))) rfl) (Pins.of_le hX261.pins (Pin.le_trans (Pin.le_trans (Pin.le_trans hx233.le hx237.le) hx243.le) hle260)) ?_
                        refine dr_end (by kernel_rfl) ?_
                        exact cut_in ⟨_, b245, u239, G259, (packS (x := 15) (packS (x := 14) (packS (x := 12) (packS (x := 9) (packS (x := 7) (packS (x := 6) (pack1 (x := 4) rfl) rfl) rfl) rfl) rfl) rfl) rfl), hX261, (Pin.le_trans (Pin.le_trans (Pin.le_trans hx233.le hx237.le) hx243.le) hle260), (hr242.mono hle260), (hbp262.mono (Pin.le_refl _))⟩
                      · skip
                        refine (drOp1 (i := 8) rfl rfl rfl (want_none rfl _) (o_alloc [(.slice none 0 0), (.bool false)] zr30 rfl hX238.pins (fun b264 w265 hk266 hb267 hp268 hl269 => ?_)))
                        have hX270 := hX238.step hp268 hl269
                        have hlo271 : w.heap.size ≤ b264 := by have := hX238.size; omega
                        refine ⟨fun _ => (Pins.of_le hX270.pins (Pin.le_trans hx233.le hx237.le)), ?_⟩
                        refine dr_one (i := 4) (by kernel_rfl) (drOp1 (i := 4) rfl rfl rfl (want_none rfl _) (o_call (vs := [(.agg [u229, (.bool lf)].toArray), (.agg [(.int .i64 p), (.int .i64 o)].toArray)]) Try.func9 nm9 rfl rfl rfl ?_))
                        refine Calls.mono (iPlayMove_spec (lf := lf) (p := p) (o := o) hX270.pins (hr232.mono hx237.le)) ?_
                        rintro _ w274 ⟨u272, G273, rfl, hr275, hx276⟩
                        refine ⟨_, rfl, ?_⟩
                        have hX277 := hX270.tr hx276
                        have hb278 := hb267.ext hx276
                        refine ⟨fun _ => (Pins.of_le hX277.pins (Pin.le_trans (Pin.le_trans hx233.le hx237.le) hx276.le)), ?_⟩
                        refine dr_take (i := 5) rfl rfl rfl (want_none rfl _) (by kernel_rfl) (fun _ _ => r_move (v := (.tuple #[(.agg [u272, (.bool (plB lf fs p o))].toArray), (.bool (plOk lf fs p o))])) rfl) (Pins.of_le hX277.pins (Pin.le_trans (Pin.le_trans hx233.le hx237.le) hx276.le)) ?_
                        refine dr_take (i := 6) rfl rfl rfl (want_none rfl _) (by kernel_rfl) (fun _ _ => r_extract (v := (.agg [u272, (.bool (plB lf fs p o))].toArray)) rfl rfl) (Pins.of_le hX277.pins (Pin.le_trans (Pin.le_trans hx233.le hx237.le) hx276.le)) ?_
                        refine dr_take (i := 7) rfl rfl rfl (want_none rfl _) (by kernel_rfl) (fun _ _ => r_extract (v := (.bool (plOk lf fs p o))) rfl rfl) (Pins.of_le hX277.pins (Pin.le_trans (Pin.le_trans hx233.le hx237.le) hx276.le)) ?_
                        refine dr_one (i := 9) (by kernel_rfl) (drOp0 (i := 9) rfl rfl rfl (want_none rfl _) (o_stp (cs' := [u272, (.bool (plB lf fs p o))]) (us := [u272, (.bool (plB lf fs p o))]) (v := (.agg [u272, (.bool (plB lf fs p o))].toArray)) sz30 rfl rfl rfl (ones2 hr275.one (by rfl)) hX277.pins hb278 (Nat.le_of_ble_eq_true rfl) rfl (fun w279 hb280 hp281 hg282 hz283 => ?_)))
                        have hX284 := hX277.write hp281 hg282 ((lo_box hlo271))
                        obtain ⟨G285, hle286, hX287, hbp288, hf289⟩ := hb280.shut hX284 hlo271
                        refine ⟨fun _ => (Pins.of_le hX287.pins (Pin.le_trans (Pin.le_trans (Pin.le_trans hx233.le hx237.le) hx276.le) hle286)), ?_⟩
                        refine dr_take (i := 10) rfl rfl rfl (want_none rfl _) (by kernel_rfl) (fun _ _ => r_assign (v := (.bool (plOk lf fs p o))) rfl) (Pins.of_le hX287.pins (Pin.le_trans (Pin.le_trans (Pin.le_trans hx233.le hx237.le) hx276.le) hle286)) ?_
                        refine dr_end (by kernel_rfl) ?_
                        exact cut_in ⟨_, b264, u272, G285, (packS (x := 15) (packS (x := 14) (packS (x := 12) (packS (x := 9) (packS (x := 7) (packS (x := 6) (pack1 (x := 4) rfl) rfl) rfl) rfl) rfl) rfl) rfl), hX287, (Pin.le_trans (Pin.le_trans (Pin.le_trans hx233.le hx237.le) hx276.le) hle286), (hr275.mono hle286), (hbp288.mono (Pin.le_refl _))⟩
                    · skip
                      refine (drOp1 (i := 8) rfl rfl rfl (want_none rfl _) (o_alloc [(.slice none 0 0), (.bool false)] zr30 rfl hX234.pins (fun b290 w291 hk292 hb293 hp294 hl295 => ?_)))
                      have hX296 := hX234.step hp294 hl295
                      have hlo297 : w.heap.size ≤ b290 := by have := hX234.size; omega
                      refine ⟨fun _ => (Pins.of_le hX296.pins hx233.le), ?_⟩
                      refine dr_one (i := 3) (by kernel_rfl) (drOp1 (i := 3) rfl rfl rfl (want_none rfl _) (o_call (vs := [(.agg [(.int .i64 p), (.int .i64 o)].toArray)]) Try.func8 nm8 rfl rfl rfl ?_))
                      refine Calls.mono (toMove_spec (p := p) (o := o) hX296.pins) ?_
                      rintro _ w299 ⟨G298, rfl, hx300⟩
                      refine ⟨_, rfl, ?_⟩
                      have hX301 := hX296.tr hx300
                      have hb302 := hb293.ext hx300
                      refine ⟨fun _ => (Pins.of_le hX301.pins (Pin.le_trans hx233.le hx300.le)), ?_⟩
                      refine dr_one (i := 4) (by kernel_rfl) (drOp1 (i := 4) rfl rfl rfl (want_none rfl _) (o_call (vs := [(.agg [u229, (.bool lf)].toArray), (.agg [(.int .i64 p), (.int .i64 o)].toArray)]) Try.func9 nm9 rfl rfl rfl ?_))
                      refine Calls.mono (iPlayMove_spec (lf := lf) (p := p) (o := o) hX301.pins (hr232.mono hx300.le)) ?_
                      rintro _ w305 ⟨u303, G304, rfl, hr306, hx307⟩
                      refine ⟨_, rfl, ?_⟩
                      have hX308 := hX301.tr hx307
                      have hb309 := hb302.ext hx307
                      refine ⟨fun _ => (Pins.of_le hX308.pins (Pin.le_trans (Pin.le_trans hx233.le hx300.le) hx307.le)), ?_⟩
                      refine dr_take (i := 5) rfl rfl rfl (want_none rfl _) (by kernel_rfl) (fun _ _ => r_move (v := (.tuple #[(.agg [u303, (.bool (plB lf fs p o))].toArray), (.bool (plOk lf fs p o))])) rfl) (Pins.of_le hX308.pins (Pin.le_trans (Pin.le_trans hx233.le hx300.le) hx307.le)) ?_
                      refine dr_take (i := 6) rfl rfl rfl (want_none rfl _) (by kernel_rfl) (fun _ _ => r_extract (v := (.agg [u303, (.bool (plB lf fs p o))].toArray)) rfl rfl) (Pins.of_le hX308.pins (Pin.le_trans (Pin.le_trans hx233.le hx300.le) hx307.le)) ?_
                      refine dr_take (i := 7) rfl rfl rfl (want_none rfl _) (by kernel_rfl) (fun _ _ => r_extract (v := (.bool (plOk lf fs p o))) rfl rfl) (Pins.of_le hX308.pins (Pin.le_trans (Pin.le_trans hx233.le hx300.le) hx307.le)) ?_
                      refine dr_one (i := 9) (by kernel_rfl) (drOp0 (i := 9) rfl rfl rfl (want_none rfl _) (o_stp (cs' := [u303, (.bool (plB lf fs p o))]) (us := [u303, (.bool (plB lf fs p o))]) (v := (.agg [u303, (.bool (plB lf fs p o))].toArray)) sz30 rfl rfl rfl (ones2 hr306.one (by rfl)) hX308.pins hb309 (Nat.le_of_ble_eq_true rfl) rfl (fun w310 hb311 hp312 hg313 hz314 => ?_)))
                      have hX315 := hX308.write hp312 hg313 ((lo_box hlo297))
                      obtain ⟨G316, hle317, hX318, hbp319, hf320⟩ := hb311.shut hX315 hlo297
                      refine ⟨fun _ => (Pins.of_le hX318.pins (Pin.le_trans (Pin.le_trans (Pin.le_trans hx233.le hx300.le) hx307.le) hle317)), ?_⟩
                      refine dr_take (i := 10) rfl rfl rfl (want_none rfl _) (by kernel_rfl) (fun _ _ => r_assign (v := (.bool (plOk lf fs p o))) rfl) (Pins.of_le hX318.pins (Pin.le_trans (Pin.le_trans (Pin.le_trans hx233.le hx300.le) hx307.le) hle317)) ?_
                      refine dr_end (by kernel_rfl) ?_
                      exact cut_in ⟨_, b290, u303, G316, (packS (x := 15) (packS (x := 14) (packS (x := 12) (packS (x := 9) (packS (x := 7) (packS (x := 6) (pack1 (x := 4) rfl) rfl) rfl) rfl) rfl) rfl) rfl), hX318, (Pin.le_trans (Pin.le_trans (Pin.le_trans hx233.le hx300.le) hx307.le) hle317), (hr306.mono hle317), (hbp319.mono (Pin.le_refl _))⟩
                  · skip
                    refine (drOp1 (i := 8) rfl rfl rfl (want_none rfl _) (o_alloc [(.slice none 0 0), (.bool false)] zr30 rfl hX228.pins (fun b321 w322 hk323 hb324 hp325 hl326 => ?_)))
                    have hX327 := hX228.step hp325 hl326
                    have hlo328 : w.heap.size ≤ b321 := by have := hX228.size; omega
                    refine ⟨fun _ => hX327.pins, ?_⟩
                    refine dr_one (i := 1) (by kernel_rfl) (drOp1 (i := 1) rfl rfl rfl (want_none rfl _) (o_call (vs := [(.agg [v, (.bool lf)].toArray)]) Try.func7 nm7 rfl rfl rfl ?_))
                    refine Calls.mono (toTable_spec hX327.pins (hv.mono (Pin.le_trans (Pin.le_trans (Pin.le_trans (Pin.le_trans (Pin.le_trans (Pin.le_trans (Pin.le_trans (Pin.le_trans (Pin.le_trans (Pin.le_trans hle10 hle23) hx31.le) hle41) hx46.le) hle69) hx81.le) hle125) hx155.le) hle198) hx204.le)) hsf) ?_
                    rintro _ w331 ⟨u329, G330, rfl, hr332, hx333⟩
                    refine ⟨_, rfl, ?_⟩
                    have hX334 := hX327.tr hx333
                    have hb335 := hb324.ext hx333
                    refine ⟨fun _ => (Pins.of_le hX334.pins hx333.le), ?_⟩
                    refine dr_one (i := 3) (by kernel_rfl) (drOp1 (i := 3) rfl rfl rfl (want_none rfl _) (o_call (vs := [(.agg [(.int .i64 p), (.int .i64 o)].toArray)]) Try.func8 nm8 rfl rfl rfl ?_))
                    refine Calls.mono (toMove_spec (p := p) (o := o) hX334.pins) ?_
                    rintro _ w337 ⟨G336, rfl, hx338⟩
                    refine ⟨_, rfl, ?_⟩
                    have hX339 := hX334.tr hx338
                    have hb340 := hb335.ext hx338
                    refine ⟨fun _ => (Pins.of_le hX339.pins (Pin.le_trans hx333.le hx338.le)), ?_⟩
                    refine dr_one (i := 4) (by kernel_rfl) (drOp1 (i := 4) rfl rfl rfl (want_none rfl _) (o_call (vs := [(.agg [u329, (.bool lf)].toArray), (.agg [(.int .i64 p), (.int .i64 o)].toArray)]) Try.func9 nm9 rfl rfl rfl ?_))
                    refine Calls.mono (iPlayMove_spec (lf := lf) (p := p) (o := o) hX339.pins (hr332.mono hx338.le)) ?_
                    rintro _ w343 ⟨u341, G342, rfl, hr344, hx345⟩
                    refine ⟨_, rfl, ?_⟩
                    have hX346 := hX339.tr hx345
                    have hb347 := hb340.ext hx345
                    refine ⟨fun _ => (Pins.of_le hX346.pins (Pin.le_trans (Pin.le_trans hx333.le hx338.le) hx345.le)), ?_⟩
                    refine dr_take (i := 5) rfl rfl rfl (want_none rfl _) (by kernel_rfl) (fun _ _ => r_move (v := (.tuple #[(.agg [u341, (.bool (plB lf fs p o))].toArray), (.bool (plOk lf fs p o))])) rfl) (Pins.of_le hX346.pins (Pin.le_trans (Pin.le_trans hx333.le hx338.le) hx345.le)) ?_
                    refine dr_take (i := 6) rfl rfl rfl (want_none rfl _) (by kernel_rfl) (fun _ _ => r_extract (v := (.agg [u341, (.bool (plB lf fs p o))].toArray)) rfl rfl) (Pins.of_le hX346.pins (Pin.le_trans (Pin.le_trans hx333.le hx338.le) hx345.le)) ?_
                    refine dr_take (i := 7) rfl rfl rfl (want_none rfl _) (by kernel_rfl) (fun _ _ => r_extract (v := (.bool (plOk lf fs p o))) rfl rfl) (Pins.of_le hX346.pins (Pin.le_trans (Pin.le_trans hx333.le hx338.le) hx345.le)) ?_
                    refine dr_one (i := 9) (by kernel_rfl) (drOp0 (i := 9) rfl rfl rfl (want_none rfl _) (o_stp (cs' := [u341, (.bool (plB lf fs p o))]) (us := [u341, (.bool (plB lf fs p o))]) (v := (.agg [u341, (.bool (plB lf fs p o))].toArray)) sz30 rfl rfl rfl (ones2 hr344.one (by rfl)) hX346.pins hb347 (Nat.le_of_ble_eq_true rfl) rfl (fun w348 hb349 hp350 hg351 hz352 => ?_)))
                    have hX353 := hX346.write hp350 hg351 ((lo_box hlo328))
                    obtain ⟨G354, hle355, hX356, hbp357, hf358⟩ := hb349.shut hX353 hlo328
                    refine ⟨fun _ => (Pins.of_le hX356.pins (Pin.le_trans (Pin.le_trans (Pin.le_trans hx333.le hx338.le) hx345.le) hle355)), ?_⟩
                    refine dr_take (i := 10) rfl rfl rfl (want_none rfl _) (by kernel_rfl) (fun _ _ => r_assign (v := (.bool (plOk lf fs p o))) rfl) (Pins.of_le hX356.pins (Pin.le_trans (Pin.le_trans (Pin.le_trans hx333.le hx338.le) hx345.le) hle355)) ?_
                    refine dr_end (by kernel_rfl) ?_
                    exact cut_in ⟨_, b321, u341, G354, (packS (x := 15) (packS (x := 14) (packS (x := 12) (packS (x := 9) (packS (x := 7) (packS (x := 6) (pack1 (x := 4) rfl) rfl) rfl) rfl) rfl) rfl) rfl), hX356, (Pin.le_trans (Pin.le_trans (Pin.le_trans hx333.le hx338.le) hx345.le) hle355), (hr344.mono hle355), (hbp357.mono (Pin.le_refl _))⟩
        · skip
          refine (drOp1 (i := 7) rfl rfl rfl (want_none rfl _) (o_alloc [(.slice none 0 0), (.bool false)] zr30 rfl hX82.pins (fun b359 w360 hk361 hb362 hp363 hl364 => ?_)))
          have hX365 := hX82.step hp363 hl364
          have hd366 := hd83.below hl364
          have hs367 := Nat.le_trans hs84 hl364.size
          have ha368 : w44.heap.size ≤ b359 ∨ b359 < w37.heap.size := Or.inl (by have e := Option.some.inj (congrArg some hk361); have := hs84; omega)
          have hlo369 : w.heap.size ≤ b359 := by have := hX82.size; omega
          refine ⟨fun _ => (Pins.of_le hX365.pins hx81.le), ?_⟩
          obtain ⟨G370, hle371, hp372, hr373, _⟩ := hd366.read hX365.pins
          refine dr_one (i := 3) (by kernel_rfl) (drOp1 (i := 3) rfl rfl rfl (want_none rfl _) (o_call (vs := [(.agg [u42, (.bool lf)].toArray), (.agg [(.int .i64 p), (.int .i64 o)].toArray)]) Try.func9 nm9 rfl rfl rfl ?_))
          refine Calls.mono (iPlayMove_dspec (lf := lf) (p := p) (o := o) hp372 hr373) ?_
          rintro _ w376 ⟨u374, G375, rfl, hd377, hx378⟩
          refine ⟨_, rfl, ?_⟩
          have hgx : w44.heap.size ≤ w360.heap.size := hs367
          have hx379 := deep_back hX365.pins hx378
          have hX380 := hX365.step hx379.pins hx379.below
          have hb381 := hb362.below hx379.below
          have hd382 := hd366.below hx379.below
          have hs383 := Nat.le_trans hs367 hx379.below.size
          have hd384 := hd377.anti (Pin.le_trans hle371 hx378.le)
          have hone385 := hd384.one
          refine ⟨fun _ => (Pins.of_le hX380.pins hx81.le), ?_⟩
          refine dr_take (i := 4) rfl rfl rfl (want_none rfl _) (by kernel_rfl) (fun _ _ => r_move (v := (.tuple #[(.agg [u374, (.bool (plB lf fs p o))].toArray), (.bool (plOk lf fs p o))])) rfl) (Pins.of_le hX380.pins hx81.le) ?_
          refine dr_take (i := 5) rfl rfl rfl (want_none rfl _) (by kernel_rfl) (fun _ _ => r_extract (v := (.agg [u374, (.bool (plB lf fs p o))].toArray)) rfl rfl) (Pins.of_le hX380.pins hx81.le) ?_
          refine dr_take (i := 6) rfl rfl rfl (want_none rfl _) (by kernel_rfl) (fun _ _ => r_extract (v := (.bool (plOk lf fs p o))) rfl rfl) (Pins.of_le hX380.pins hx81.le) ?_
          refine dr_one (i := 8) (by kernel_rfl) (drOp0 (i := 8) rfl rfl rfl (want_none rfl _) (o_stp (cs' := [u374, (.bool (plB lf fs p o))]) (us := [u374, (.bool (plB lf fs p o))]) (v := (.agg [u374, (.bool (plB lf fs p o))].toArray)) sz30 rfl rfl rfl (ones2 hone385 (by rfl)) hX380.pins hb381 (Nat.le_of_ble_eq_true rfl) rfl (fun w386 hb387 hp388 hg389 hz390 => ?_)))
          have hX391 := hX380.write hp388 hg389 ((lo_box hlo369))
          have hd392 := hd382.kept hg389 ha368
          have hs393 := Nat.le_trans hs383 hg389.size
          have hd394 := hd384.kept hg389 (Or.inr hb362.lt)
          have hs395 := Nat.le_trans (Nat.le_refl w376.heap.size) hg389.size
          obtain ⟨G396, hle397, hX398, hbp399, hf400⟩ := hb387.shut hX391 hlo369
          have hd401 := hd392.more hle397 hf400 ha368
          have hd402 := hd394.more hle397 hf400 (Or.inr hb362.lt)
          refine ⟨fun _ => (Pins.of_le hX398.pins (Pin.le_trans hx81.le hle397)), ?_⟩
          refine dr_take (i := 9) rfl rfl rfl (want_none rfl _) (by kernel_rfl) (fun _ _ => r_assign (v := (.bool (plOk lf fs p o))) rfl) (Pins.of_le hX398.pins (Pin.le_trans hx81.le hle397)) ?_
          refine dr_end (by kernel_rfl) ?_
          refine s_then ?_
          refine s_seq ?_
          refine s_seq ?_
          refine c_reg ?_
          refine qd rfl rfl rfl (r_ldpA (cs := [u374, (.bool (plB lf fs p o))]) ag30 sz30 rfl (fun j u hj => hX398.pins _ _ _ (hbp399 _ _ (by simpa using hj)))) ?_
          refine qd rfl rfl rfl (r_ldpA (cs := [c35, (.bool (plB lf fs p o))]) ag30 sz30 rfl (fun j u hj => (Pins.of_le hX398.pins (Pin.le_trans (Pin.le_trans (Pin.le_trans hx46.le hle69) hx81.le) hle397)) _ _ _ (hb39 _ _ (by simpa using hj)))) ?_
          obtain ⟨G406, hle407, hp408, hr409, _⟩ := hd402.read hX398.pins
          refine q1 rfl rfl rfl (o_call (vs := [(.agg [u374, (.bool (plB lf fs p o))].toArray), (.agg [c35, (.bool (plB lf fs p o))].toArray)]) Try.func10 nm10 rfl rfl rfl ?_)
          refine Calls.mono (eqTable_same hp408 hr409 ((hr38.mono (Pin.le_trans (Pin.le_trans (Pin.le_trans hx46.le hle69) hx81.le) hle397)).mono hle407)) ?_
          rintro _ w404 ⟨G403, rfl, hx405⟩
          refine ⟨_, rfl, ?_⟩
          have hx410 := deep_back hX398.pins hx405
          have hX411 := hX398.step hx410.pins hx410.below
          have hd412 := hd401.below hx410.below
          have hs413 := Nat.le_trans hs393 hx410.below.size
          have hd414 := hd402.below hx410.below
          have hs415 := Nat.le_trans hs395 hx410.below.size
          refine qd rfl rfl rfl (r_not rfl) ?_
          refine qd rfl rfl rfl (r_move (v := (.bool false)) rfl) ?_
          refine qdg rfl rfl rfl rfl rfl rfl (r_move (v := (.bool (plOk lf fs p o))) rfl) ?_
          refine qdg rfl rfl rfl rfl rfl rfl (r_move (v := (.bool (plOk lf fs p o))) rfl) ?_
          refine qdg rfl rfl rfl rfl rfl rfl (r_neqB_same Try.underlying4 rfl rfl) ?_
          refine qd rfl rfl rfl (r_pickF (v := (.bool false)) rfl rfl) ?_
          refine qe ?_
          refine s_then ?_
          refine c_ifF rfl rfl ?_
          refine wp_skip ?_
          refine s_then ?_
          refine s_seq ?_
          refine s_seq ?_
          refine c_draw (S := fun w => Pins G396 w) (last := 5) (by kernel_rfl) rfl ?_
          have hl416 : Below w404.heap.size w404 w404.drew := (Below.refl _ _).drew
          have hp417 := hX411.pins.below hl416
          have hX418 := hX411.step hp417 hl416
          have hd419 := hd412.below hl416
          have hs420 := Nat.le_trans hs413 hl416.size
          have hd421 := hd414.below hl416
          have hs422 := Nat.le_trans hs415 hl416.size
          refine dr_take (i := 0) rfl rfl rfl (want_none rfl _) (by kernel_rfl) (fun _ hS => r_ldpA (cs := [u42, (.bool lf)]) ag30 sz30 rfl (fun j u hj => (Pins.of_le hS (Pin.le_trans hx81.le hle397)) _ _ _ (hbp71 _ _ (by simpa using hj)))) hX418.pins ?_
          refine dr_take (i := 1) rfl rfl rfl (want_none rfl _) (by kernel_rfl) (fun _ hS => r_ldpA (cs := [v, (.bool lf)]) ag24 sz24 rfl (fun j u hj => (Pins.of_le hS (Pin.le_trans (Pin.le_trans (Pin.le_trans (Pin.le_trans (Pin.le_trans (Pin.le_trans hle23 hx31.le) hle41) hx46.le) hle69) hx81.le) hle397)) _ _ _ (hbp12 _ _ (by simpa using hj)))) hX418.pins ?_
          refine dr_one (i := 2) (by kernel_rfl) (drOp1 (i := 2) rfl rfl rfl (want_none rfl _) (o_call (vs := [(.agg [v, (.bool lf)].toArray)]) Try.func7 nm7 rfl rfl rfl ?_))
          refine Calls.mono (toTable_spec hX418.pins (hv.mono (Pin.le_trans (Pin.le_trans (Pin.le_trans (Pin.le_trans (Pin.le_trans (Pin.le_trans (Pin.le_trans hle10 hle23) hx31.le) hle41) hx46.le) hle69) hx81.le) hle397)) hsf) ?_
          rintro _ w425 ⟨u423, G424, rfl, hr426, hx427⟩
          refine ⟨_, rfl, ?_⟩
          have hX428 := hX418.tr hx427
          have hd429 := hd419.ext hx427
          have hs430 := Nat.le_trans hs420 hx427.size
          have hd431 := hd421.ext hx427
          have hs432 := Nat.le_trans hs422 hx427.size
          refine ⟨fun _ => (Pins.of_le hX428.pins hx427.le), ?_⟩
          obtain ⟨G436, hle437, hp438, hr439, _⟩ := hd429.read hX428.pins
          refine dr_one (i := 3) (by kernel_rfl) (drOp1 (i := 3) rfl rfl rfl (want_none rfl _) (o_call (vs := [(.agg [u42, (.bool lf)].toArray), (.agg [u423, (.bool lf)].toArray)]) Try.func10 nm10 rfl rfl rfl ?_))
          refine Calls.mono (eqTable_same hp438 hr439 (hr426.mono hle437)) ?_
          rintro _ w434 ⟨G433, rfl, hx435⟩
          refine ⟨_, rfl, ?_⟩
          have hx440 := deep_back hX428.pins hx435
          have hX441 := hX428.step hx440.pins hx440.below
          have hd442 := hd429.below hx440.below
          have hs443 := Nat.le_trans hs430 hx440.below.size
          have hd444 := hd431.below hx440.below
          have hs445 := Nat.le_trans hs432 hx440.below.size
          refine ⟨fun _ => (Pins.of_le hX441.pins hx427.le), ?_⟩
          refine dr_take (i := 4) rfl rfl rfl (want_none rfl _) (by kernel_rfl) (fun _ _ => r_not rfl) (Pins.of_le hX441.pins hx427.le) ?_
          refine dr_end (by kernel_rfl) ?_
          refine s_then ?_
          refine c_ifF rfl rfl ?_
          refine wp_skip ?_
          refine s_then ?_
          refine s_seq ?_
          refine c_reg ?_
          refine qd rfl rfl rfl (r_assign (v := (.int .i64 1)) rfl) ?_
          refine qe ?_
          refine s_then ?_
          refine s_seq ?_
          refine c_reg ?_
          refine qd rfl rfl rfl (r_ldpA (cs := [u42, (.bool lf)]) ag30 sz30 rfl (fun j u hj => (Pins.of_le hX441.pins (Pin.le_trans (Pin.le_trans hx81.le hle397) hx427.le)) _ _ _ (hbp71 _ _ (by simpa using hj)))) ?_
          refine qd rfl rfl rfl (r_move (v := (.int .i64 1)) rfl) ?_
          refine q1 rfl rfl rfl (o_call (vs := [(.agg [u42, (.bool lf)].toArray), (.int .i64 1)]) Try.func11 nm11 rfl rfl rfl ?_)
          refine Calls.mono (markTable_spec (kz := 1) (lf := lf) hX441.pins hd442 hs443 hsf (by omega)) ?_
          rintro _ w446 ⟨rfl, hd447, hx448⟩
          refine ⟨_, rfl, ?_⟩
          have hX449 := hX441.trans hx448 (fun i hi => Or.inl (Nat.le_trans hX40.size hi.1))
          have hd450 := hd444.extS hx448 (fun k h1 h2 h3 => by have := h3.2; omega)
          have hs451 := Nat.le_trans hs445 hx448.size
          refine qd rfl rfl rfl (r_assign (v := (.int .i64 (1 + totF fs))) rfl) ?_
          refine qe ?_
          refine s_then ?_
          refine s_seq ?_
          refine s_seq ?_
          refine c_reg ?_
          refine qd rfl rfl rfl (r_move (v := (.int .i64 (1 + totF fs))) rfl) ?_
          refine qd rfl rfl rfl (r_lss rfl rfl) ?_
          refine qd rfl rfl rfl (r_move (v := (.bool (decide ((1 + totF fs : Int) < 0)))) rfl) ?_
          refine qbd (p := (1 + totF fs : Int) < 0) (t := 57) rfl (fun h452 => ?_) (fun h452 => ?_)
          · skip
            refine qs rfl rfl rfl rfl rfl rfl ?_
            refine qs rfl rfl rfl rfl rfl rfl ?_
            refine qs rfl rfl rfl rfl rfl rfl ?_
            refine qs rfl rfl rfl rfl rfl rfl ?_
            refine qd rfl rfl rfl (r_pickT (v := (.bool true)) rfl rfl) ?_
            refine qd rfl rfl rfl (r_move (v := (.bool true)) rfl) ?_
            refine qs rfl rfl rfl rfl rfl rfl ?_
            refine qs rfl rfl rfl rfl rfl rfl ?_
            refine qs rfl rfl rfl rfl rfl rfl ?_
            refine qd rfl rfl rfl (r_pickT (v := (.bool true)) rfl rfl) ?_
            refine qe ?_
            refine s_then ?_
            refine c_ifT rfl rfl ?_
            refine s_seq ?_
            refine c_reg ?_
            refine qd rfl rfl rfl (r_assign (v := (.bool false)) rfl) ?_
            refine qe ?_
            refine s_then ?_
            refine wp_ret ?_
            refine s_ret ?_
            refine c_ret1 (v := (.bool false)) rfl rfl rfl ?_
            exfalso; omega
          · skip
            refine qdg rfl rfl rfl rfl rfl rfl (r_ldpA (cs := [u374, (.bool (plB lf fs p o))]) ag30 sz30 rfl (fun j u hj => (Pins.of_le hX449.pins hx427.le) _ _ _ (hbp399 _ _ (by simpa using hj)))) ?_
            refine qdg rfl rfl rfl rfl rfl rfl (r_ldpA (cs := [c35, (.bool (plB lf fs p o))]) ag30 sz30 rfl (fun j u hj => (Pins.of_le hX449.pins (Pin.le_trans (Pin.le_trans (Pin.le_trans (Pin.le_trans hx46.le hle69) hx81.le) hle397) hx427.le)) _ _ _ (hb39 _ _ (by simpa using hj)))) ?_
            obtain ⟨G456, hle457, hp458, hr459, _⟩ := hd450.read hX449.pins
            refine q1g rfl rfl rfl rfl rfl rfl (o_call (vs := [(.agg [u374, (.bool (plB lf fs p o))].toArray), (.agg [c35, (.bool (plB lf fs p o))].toArray)]) Try.func10 nm10 rfl rfl rfl ?_)
            refine Calls.mono (eqTable_same hp458 hr459 ((hr38.mono (Pin.le_trans (Pin.le_trans (Pin.le_trans (Pin.le_trans hx46.le hle69) hx81.le) hle397) hx427.le)).mono hle457)) ?_
            rintro _ w454 ⟨G453, rfl, hx455⟩
            refine ⟨_, rfl, ?_⟩
            have hx460 := deep_back hX449.pins hx455
            have hX461 := hX449.step hx460.pins hx460.below
            have hd462 := hd450.below hx460.below
            have hs463 := Nat.le_trans hs451 hx460.below.size
            refine qdg rfl rfl rfl rfl rfl rfl (r_not rfl) ?_
            refine qd rfl rfl rfl (r_pickF (v := (.bool false)) rfl rfl) ?_
            refine qd rfl rfl rfl (r_move (v := (.bool false)) rfl) ?_
            refine qdg rfl rfl rfl rfl rfl rfl (r_move (v := (.bool (plOk lf fs p o))) rfl) ?_
            refine qdg rfl rfl rfl rfl rfl rfl (r_move (v := (.bool (plOk lf fs p o))) rfl) ?_
            refine qdg rfl rfl rfl rfl rfl rfl (r_neqB_same Try.underlying4 rfl rfl) ?_
            refine qd rfl rfl rfl (r_pickF (v := (.bool false)) rfl rfl) ?_
            refine qe ?_
            refine s_then ?_
            refine c_ifF rfl rfl ?_
            refine wp_skip ?_
            refine s_then ?_
            refine s_seq ?_
            refine c_reg ?_
            refine qd rfl rfl rfl (r_assign (v := (.int .i64 1)) rfl) ?_
            refine qe ?_
            refine s_then ?_
            refine s_seq ?_
            refine c_reg ?_
            refine qd rfl rfl rfl (r_ldpA (cs := [u374, (.bool (plB lf fs p o))]) ag30 sz30 rfl (fun j u hj => (Pins.of_le hX461.pins hx427.le) _ _ _ (hbp399 _ _ (by simpa using hj)))) ?_
            refine qd rfl rfl rfl (r_move (v := (.int .i64 1)) rfl) ?_
            refine q1 rfl rfl rfl (o_call (vs := [(.agg [u374, (.bool (plB lf fs p o))].toArray), (.int .i64 1)]) Try.func11 nm11 rfl rfl rfl ?_)
            refine Calls.mono (markTable_spec (kz := 1) (lf := plB lf fs p o) hX461.pins hd462 hs463 (pl_small lf fs p o) (by omega)) ?_
            rintro _ w464 ⟨rfl, hd465, hx466⟩
            refine ⟨_, rfl, ?_⟩
            have hX467 := hX461.trans hx466 (fun i hi => Or.inl (Nat.le_trans hX365.size hi.1))
            obtain ⟨G469, hle470, hp471, hr472, hf473⟩ := hd465.read hX467.pins
            have hX468 := hX467.promise hle470 hp471 hf473 hX365.size
            refine qd rfl rfl rfl (r_assign (v := (.int .i64 (1 + totF (plL lf fs p o)))) rfl) ?_
            refine qe ?_
            refine s_then ?_
            refine s_seq ?_
            refine c_reg ?_
            refine qd rfl rfl rfl (r_assign (v := (.int .i64 1)) rfl) ?_
            refine qe ?_
            refine s_then ?_
            refine s_seq ?_
            refine c_reg ?_
            refine qd rfl rfl rfl (r_ldpA (cs := [u374, (.bool (plB lf fs p o))]) ag30 sz30 rfl (fun j u hj => (Pins.of_le hX468.pins (Pin.le_trans hx427.le hle470)) _ _ _ (hbp399 _ _ (by simpa using hj)))) ?_
            refine qd rfl rfl rfl (r_move (v := (.int .i64 1)) rfl) ?_
            refine q1 rfl rfl rfl (o_call (vs := [(.agg [u374, (.bool (plB lf fs p o))].toArray), (.int .i64 1)]) Try.func12 nm12 rfl rfl rfl ?_)
            refine Calls.mono (heldTable_spec (kz := 1) (fs := plL lf fs p o) hX468.pins hr472 (pl_small lf fs p o) (by omega)) ?_
            rintro _ w475 ⟨G474, rfl, hx476⟩
            refine ⟨_, rfl, ?_⟩
            have hX477 := hX468.tr hx476
            refine qd rfl rfl rfl (r_assign (v := (.int .i64 (1 + totF (plL lf fs p o)))) rfl) ?_
            refine qe ?_
            refine s_then ?_
            refine s_seq ?_
            refine s_seq ?_
            refine c_reg ?_
            refine qd rfl rfl rfl (r_move (v := (.int .i64 (1 + totF (plL lf fs p o)))) rfl) ?_
            refine qd rfl rfl rfl (r_lss rfl rfl) ?_
            refine qe ?_
            refine s_then ?_
            refine c_ifd (p := (1 + totF (plL lf fs p o) : Int) < 0) rfl rfl (fun h478 => ?_) (fun h478 => ?_)
            · skip
              refine s_seq ?_
              refine c_reg ?_
              refine qd rfl rfl rfl (r_assign (v := (.bool false)) rfl) ?_
              refine qe ?_
              refine s_then ?_
              refine wp_ret ?_
              refine s_ret ?_
              refine c_ret1 (v := (.bool false)) rfl rfl rfl ?_
              exfalso; omega
            · skip
              refine wp_skip ?_
              refine s_then ?_
              refine s_seq ?_
              refine s_seq ?_
              refine c_reg ?_
              refine qd rfl rfl rfl (r_move (v := (.int .i64 (1 + totF (plL lf fs p o)))) rfl) ?_
              refine qd rfl rfl rfl (r_move (v := (.int .i64 (1 + totF (plL lf fs p o)))) rfl) ?_
              refine qd rfl rfl rfl (r_neq rfl rfl) ?_
              refine qe ?_
              refine s_then ?_
              refine c_ifd (p := (1 + totF (plL lf fs p o) : Int) ≠ (1 + totF (plL lf fs p o))) rfl rfl (fun h479 => ?_) (fun h479 => ?_)
              · skip
                refine s_seq ?_
                refine c_reg ?_
                refine qd rfl rfl rfl (r_assign (v := (.bool false)) rfl) ?_
                refine qe ?_
                refine s_then ?_
                refine wp_ret ?_
                refine s_ret ?_
                refine c_ret1 (v := (.bool false)) rfl rfl rfl ?_
                exfalso; omega
              · skip
                refine wp_skip ?_
                refine s_then ?_
                refine s_seq ?_
                refine c_cut (fun (en : Nat → Value) (W : World) => ∃ (env1 : Nat → Value) (c480 : Nat) (c481 : Value) (G482 : Pin), en = (upd (upd (upd (upd (upd (upd (upd env1 4 (.bool false)) 6 (.pointer (some ⟨c34, 0, none⟩))) 7 (.bool (plOk lf fs p o))) 9 (.pointer (some ⟨b359, 0, none⟩))) 12 (.int .i64 (1 + totF (plL lf fs p o)))) 14 (.pointer (some ⟨c480, 0, none⟩))) 15 (.bool (plOk lf fs p o))) ∧ Ext noS G w G482 W ∧ Pin.le G474 G482 ∧ (RSl (eSl eNode) G482 c481 (plL lf fs p o)) ∧ (BxP G482 c480 [c481, (.bool (plB lf fs p o))])) ?_ ?_
                · rintro _ w483 ⟨env1, c480, c481, G482, rfl, hX486, hle487, hr484, hb485⟩
                  refine s_then ?_
                  refine s_seq ?_
                  refine s_seq ?_
                  refine c_reg ?_
                  refine qd rfl rfl rfl (r_ldpA (cs := [c481, (.bool (plB lf fs p o))]) ag30 sz30 rfl (fun j u hj => hX486.pins _ _ _ (hb485 _ _ (by simpa using hj)))) ?_
                  refine qd rfl rfl rfl (r_ldpA (cs := [c35, (.bool (plB lf fs p o))]) ag30 sz30 rfl (fun j u hj => (Pins.of_le hX486.pins (Pin.le_trans (Pin.le_trans (Pin.le_trans (Pin.le_trans (Pin.le_trans (Pin.le_trans (Pin.le_trans hx46.le hle69) hx81.le) hle397) hx427.le) hle470) hx476.le) hle487)) _ _ _ (hb39 _ _ (by simpa using hj)))) ?_
                  refine q1 rfl rfl rfl (o_call (vs := [(.agg [c481, (.bool (plB lf fs p o))].toArray), (.agg [c35, (.bool (plB lf fs p o))].toArray)]) Try.func10 nm10 rfl rfl rfl ?_)
                  refine Calls.mono (eqTable_same hX486.pins hr484 (hr38.mono (Pin.le_trans (Pin.le_trans (Pin.le_trans (Pin.le_trans (Pin.le_trans (Pin.le_trans (Pin.le_trans hx46.le hle69) hx81.le) hle397) hx427.le) hle470) hx476.le) hle487))) ?_
                  rintro _ w489 ⟨G488, rfl, hx490⟩
                  refine ⟨_, rfl, ?_⟩
                  have hX491 := hX486.tr hx490
                  refine qd rfl rfl rfl (r_not rfl) ?_
                  refine qd rfl rfl rfl (r_move (v := (.bool false)) rfl) ?_
                  refine qdg rfl rfl rfl rfl rfl rfl (r_move (v := (.bool (plOk lf fs p o))) rfl) ?_
                  refine qdg rfl rfl rfl rfl rfl rfl (r_move (v := (.bool (plOk lf fs p o))) rfl) ?_
                  refine qdg rfl rfl rfl rfl rfl rfl (r_neqB_same Try.underlying4 rfl rfl) ?_
                  refine qd rfl rfl rfl (r_pickF (v := (.bool false)) rfl rfl) ?_
                  refine qe ?_
                  refine s_then ?_
                  refine c_ifF rfl rfl ?_
                  refine wp_skip ?_
                  refine s_then ?_
                  refine s_seq ?_
                  refine c_reg ?_
                  refine qd rfl rfl rfl (r_assign (v := (.int .i64 1)) rfl) ?_
                  refine qe ?_
                  refine s_then ?_
                  refine s_seq ?_
                  refine c_reg ?_
                  refine qd rfl rfl rfl (r_ldpA (cs := [u374, (.bool (plB lf fs p o))]) ag30 sz30 rfl (fun j u hj => (Pins.of_le hX491.pins (Pin.le_trans (Pin.le_trans (Pin.le_trans (Pin.le_trans hx427.le hle470) hx476.le) hle487) hx490.le)) _ _ _ (hbp399 _ _ (by simpa using hj)))) ?_
                  refine qd rfl rfl rfl (r_move (v := (.int .i64 1)) rfl) ?_
                  refine q1 rfl rfl rfl (o_call (vs := [(.agg [u374, (.bool (plB lf fs p o))].toArray), (.int .i64 1)]) Try.func12 nm12 rfl rfl rfl ?_)
                  refine Calls.mono (heldTable_spec (kz := 1) (fs := plL lf fs p o) hX491.pins (hr472.mono (Pin.le_trans (Pin.le_trans hx476.le hle487) hx490.le)) (pl_small lf fs p o) (by omega)) ?_
                  rintro _ w493 ⟨G492, rfl, hx494⟩
                  refine ⟨_, rfl, ?_⟩
                  have hX495 := hX491.tr hx494
                  refine qd rfl rfl rfl (r_assign (v := (.int .i64 (1 + totF (plL lf fs p o)))) rfl) ?_
                  refine qe ?_
                  refine s_then ?_
                  refine s_seq ?_
                  refine s_seq ?_
                  refine c_reg ?_
                  refine qd rfl rfl rfl (r_move (v := (.int .i64 (1 + totF (plL lf fs p o)))) rfl) ?_
                  refine qd rfl rfl rfl (r_lss rfl rfl) ?_
                  refine qe ?_
                  refine s_then ?_
                  refine c_ifd (p := (1 + totF (plL lf fs p o) : Int) < 0) rfl rfl (fun h => absurd h h478) (fun _ => ?_)
                  refine wp_skip ?_
                  refine s_then ?_
                  refine s_seq ?_
                  refine s_seq ?_
                  refine c_reg ?_
                  refine qd rfl rfl rfl (r_move (v := (.int .i64 (1 + totF (plL lf fs p o)))) rfl) ?_
                  refine qd rfl rfl rfl (r_move (v := (.int .i64 (1 + totF (plL lf fs p o)))) rfl) ?_
                  refine qd rfl rfl rfl (r_neq rfl rfl) ?_
                  refine qe ?_
                  refine s_then ?_
                  refine c_ifd (p := (1 + totF (plL lf fs p o) : Int) ≠ (1 + totF (plL lf fs p o))) rfl rfl (fun h => absurd h h479) (fun _ => ?_)
                  refine wp_skip ?_
                  refine s_then ?_
                  refine s_seq ?_
                  refine c_reg ?_
                  refine qd rfl rfl rfl (r_assign (v := (.bool true)) rfl) ?_
                  refine qe ?_
                  refine s_then ?_
                  refine wp_ret ?_
                  refine s_ret ?_
                  refine c_ret1 (v := (.bool true)) rfl rfl rfl ?_
                  exact ⟨_, rfl, hX495⟩
                · skip
                  refine c_draw (S := fun w => Pins G474 w) (last := 11) (by kernel_rfl) rfl ?_
                  have hl498 : Below w475.heap.size w475 w475.drew := (Below.refl _ _).drew
                  have hp499 := hX477.pins.below hl498
                  have hX500 := hX477.step hp499 hl498
                  refine dr_take (i := 0) rfl rfl rfl (want_none rfl _) (by kernel_rfl) (fun _ hS => r_ldpA (cs := [v, (.bool lf)]) ag24 sz24 rfl (fun j u hj => (Pins.of_le hS (Pin.le_trans (Pin.le_trans (Pin.le_trans (Pin.le_trans (Pin.le_trans (Pin.le_trans (Pin.le_trans (Pin.le_trans (Pin.le_trans hle23 hx31.le) hle41) hx46.le) hle69) hx81.le) hle397) hx427.le) hle470) hx476.le)) _ _ _ (hbp12 _ _ (by simpa using hj)))) hX500.pins ?_
                  refine dr_take (i := 2) rfl rfl rfl (want_none rfl _) (by kernel_rfl) (fun _ hS => r_ldpA (cs := [(.int .i64 p), (.int .i64 o)]) ag26 sz26 rfl (fun j u hj => (Pins.of_le hS (Pin.le_trans (Pin.le_trans (Pin.le_trans (Pin.le_trans (Pin.le_trans (Pin.le_trans (Pin.le_trans (Pin.le_trans hx31.le hle41) hx46.le) hle69) hx81.le) hle397) hx427.le) hle470) hx476.le)) _ _ _ (hbp25 _ _ (by simpa using hj)))) hX500.pins ?_
                  refine dr_two (i := 1) (j := 8) (by kernel_rfl) ?_ ?_
                  · skip
                    refine (drOp1 (i := 1) rfl rfl rfl (want_none rfl _) (o_call (vs := [(.agg [v, (.bool lf)].toArray)]) Try.func7 nm7 rfl rfl rfl ?_))
                    refine Calls.mono (toTable_spec hX500.pins (hv.mono (Pin.le_trans (Pin.le_trans (Pin.le_trans (Pin.le_trans (Pin.le_trans (Pin.le_trans (Pin.le_trans (Pin.le_trans (Pin.le_trans (Pin.le_trans hle10 hle23) hx31.le) hle41) hx46.le) hle69) hx81.le) hle397) hx427.le) hle470) hx476.le)) hsf) ?_
                    rintro _ w503 ⟨u501, G502, rfl, hr504, hx505⟩
                    refine ⟨_, rfl, ?_⟩
                    have hX506 := hX500.tr hx505
                    refine ⟨fun _ => (Pins.of_le hX506.pins hx505.le), ?_⟩
                    refine dr_two (i := 3) (j := 8) (by kernel_rfl) ?_ ?_
                    · skip
                      refine (drOp1 (i := 3) rfl rfl rfl (want_none rfl _) (o_call (vs := [(.agg [(.int .i64 p), (.int .i64 o)].toArray)]) Try.func8 nm8 rfl rfl rfl ?_))
                      refine Calls.mono (toMove_spec (p := p) (o := o) hX506.pins) ?_
                      rintro _ w508 ⟨G507, rfl, hx509⟩
                      refine ⟨_, rfl, ?_⟩
                      have hX510 := hX506.tr hx509
                      refine ⟨fun _ => (Pins.of_le hX510.pins (Pin.le_trans hx505.le hx509.le)), ?_⟩
                      refine dr_two (i := 4) (j := 8) (by kernel_rfl) ?_ ?_
                      · skip
                        refine (drOp1 (i := 4) rfl rfl rfl (want_none rfl _) (o_call (vs := [(.agg [u501, (.bool lf)].toArray), (.agg [(.int .i64 p), (.int .i64 o)].toArray)]) Try.func9 nm9 rfl rfl rfl ?_))
                        refine Calls.mono (iPlayMove_spec (lf := lf) (p := p) (o := o) hX510.pins (hr504.mono hx509.le)) ?_
                        rintro _ w513 ⟨u511, G512, rfl, hr514, hx515⟩
                        refine ⟨_, rfl, ?_⟩
                        have hX516 := hX510.tr hx515
                        refine ⟨fun _ => (Pins.of_le hX516.pins (Pin.le_trans (Pin.le_trans hx505.le hx509.le) hx515.le)), ?_⟩
                        refine dr_take (i := 5) rfl rfl rfl (want_none rfl _) (by kernel_rfl) (fun _ _ => r_move (v := (.tuple #[(.agg [u511, (.bool (plB lf fs p o))].toArray), (.bool (plOk lf fs p o))])) rfl) (Pins.of_le hX516.pins (Pin.le_trans (Pin.le_trans hx505.le hx509.le) hx515.le)) ?_
                        refine dr_take (i := 6) rfl rfl rfl (want_none rfl _) (by kernel_rfl) (fun _ _ => r_extract (v := (.agg [u511, (.bool (plB lf fs p o))].toArray)) rfl rfl) (Pins.of_le hX516.pins (Pin.le_trans (Pin.le_trans hx505.le hx509.le) hx515.le)) ?_
                        refine dr_take (i := 7) rfl rfl rfl (want_none rfl _) (by kernel_rfl) (fun _ _ => r_extract (v := (.bool (plOk lf fs p o))) rfl rfl) (Pins.of_le hX516.pins (Pin.le_trans (Pin.le_trans hx505.le hx509.le) hx515.le)) ?_
                        refine dr_one (i := 8) (by kernel_rfl) (drOp1 (i := 8) rfl rfl rfl (want_none rfl _) (o_alloc [(.slice none 0 0), (.bool false)] zr30 rfl hX516.pins (fun b517 w518 hk519 hb520 hp521 hl522 => ?_)))
                        have hX523 := hX516.step hp521 hl522
                        have hlo524 : w.heap.size ≤ b517 := by have := hX516.size; omega
                        refine ⟨fun _ => (Pins.of_le hX523.pins (Pin.le_trans (Pin.le_trans hx505.le hx509.le) hx515.le)), ?_⟩
                        refine dr_one (i := 9) (by kernel_rfl) (drOp0 (i := 9) rfl rfl rfl (want_none rfl _) (o_stp (cs' := [u511, (.bool (plB lf fs p o))]) (us := [u511, (.bool (plB lf fs p o))]) (v := (.agg [u511, (.bool (plB lf fs p o))].toArray)) sz30 rfl rfl rfl (ones2 hr514.one (by rfl)) hX523.pins hb520 (Nat.le_of_ble_eq_true rfl) rfl (fun w525 hb526 hp527 hg528 hz529 => ?_)))
                        have hX530 := hX523.write hp527 hg528 ((lo_box hlo524))
                        obtain ⟨G531, hle532, hX533, hbp534, hf535⟩ := hb526.shut hX530 hlo524
                        refine ⟨fun _ => (Pins.of_le hX533.pins (Pin.le_trans (Pin.le_trans (Pin.le_trans hx505.le hx509.le) hx515.le) hle532)), ?_⟩
                        refine dr_take (i := 10) rfl rfl rfl (want_none rfl _) (by kernel_rfl) (fun _ _ => r_assign (v := (.bool (plOk lf fs p o))) rfl) (Pins.of_le hX533.pins (Pin.le_trans (Pin.le_trans (Pin.le_trans hx505.le hx509.le) hx515.le) hle532)) ?_
                        refine dr_end (by kernel_rfl) ?_
                        exact cut_in ⟨_, b517, u511, G531, (packS (x := 15) (packS (x := 14) (packS (x := 12) (packS (x := 9) (packS (x := 7) (packS (x := 6) (pack1 (x := 4) rfl) rfl) rfl) rfl) rfl) rfl) rfl), hX533, (Pin.le_trans (Pin.le_trans (Pin.le_trans hx505.le hx509.le) hx515.le) hle532), (hr514.mono hle532), (hbp534.mono (Pin.le_refl _))⟩
                      · skip
                        refine (drOp1 (i := 8) rfl rfl rfl (want_none rfl _) (o_alloc [(.slice none 0 0), (.bool false)] zr30 rfl hX510.pins (fun b536 w537 hk538 hb539 hp540 hl541 => ?_)))
                        have hX542 := hX510.step hp540 hl541
                        have hlo543 : w.heap.size ≤ b536 := by have := hX510.size; omega
                        refine ⟨fun _ => (Pins.of_le hX542.pins (Pin.le_trans hx505.le hx509.le)), ?_⟩
                        refine dr_one (i := 4) (by kernel_rfl) (drOp1 (i := 4) rfl rfl rfl (want_none rfl _) (o_call (vs := [(.agg [u501, (.bool lf)].toArray), (.agg [(.int .i64 p), (.int .i64 o)].toArray)]) Try.func9 nm9 rfl rfl rfl ?_))
                        refine Calls.mono (iPlayMove_spec (lf := lf) (p := p) (o := o) hX542.pins (hr504.mono hx509.le)) ?_
                        rintro _ w546 ⟨u544, G545, rfl, hr547, hx548⟩
                        refine ⟨_, rfl, ?_⟩
                        have hX549 := hX542.tr hx548
                        have hb550 := hb539.ext hx548
                        refine ⟨fun _ => (Pins.of_le hX549.pins (Pin.le_trans (Pin.le_trans hx505.le hx509.le) hx548.le)), ?_⟩
                        refine dr_take (i := 5) rfl rfl rfl (want_none rfl _) (by kernel_rfl) (fun _ _ => r_move (v := (.tuple #[(.agg [u544, (.bool (plB lf fs p o))].toArray), (.bool (plOk lf fs p o))])) rfl) (Pins.of_le hX549.pins (Pin.le_trans (Pin.le_trans hx505.le hx509.le) hx548.le)) ?_
                        refine dr_take (i := 6) rfl rfl rfl (want_none rfl _) (by kernel_rfl) (fun _ _ => r_extract (v := (.agg [u544, (.bool (plB lf fs p o))].toArray)) rfl rfl) (Pins.of_le hX549.pins (Pin.le_trans (Pin.le_trans hx505.le hx509.le) hx548.le)) ?_
                        refine dr_take (i := 7) rfl rfl rfl (want_none rfl _) (by kernel_rfl) (fun _ _ => r_extract (v := (.bool (plOk lf fs p o))) rfl rfl) (Pins.of_le hX549.pins (Pin.le_trans (Pin.le_trans hx505.le hx509.le) hx548.le)) ?_
                        refine dr_one (i := 9) (by kernel_rfl) (drOp0 (i := 9) rfl rfl rfl (want_none rfl _) (o_stp (cs' := [u544, (.bool (plB lf fs p o))]) (us := [u544, (.bool (plB lf fs p o))]) (v := (.agg [u544, (.bool (plB lf fs p o))].toArray)) sz30 rfl rfl rfl (ones2 hr547.one (by rfl)) hX549.pins hb550 (Nat.le_of_ble_eq_true rfl) rfl (fun w551 hb552 hp553 hg554 hz555 => ?_)))
                        have hX556 := hX549.write hp553 hg554 ((lo_box hlo543))
                        obtain ⟨G557, hle558, hX559, hbp560, hf561⟩ := hb552.shut hX556 hlo543
                        refine ⟨fun _ => (Pins.of_le hX559.pins (Pin.le_trans (Pin.le_trans (Pin.le_trans hx505.le hx509.le) hx548.le) hle558)), ?_⟩
                        refine dr_take (i := 10) rfl rfl rfl (want_none rfl _) (by kernel_rfl) (fun _ _ => r_assign (v := (.bool (plOk lf fs p o))) rfl) (Pins.of_le hX559.pins (Pin.le_trans (Pin.le_trans (Pin.le_trans hx505.le hx509.le) hx548.le) hle558)) ?_
                        refine dr_end (by kernel_rfl) ?_
                        exact cut_in ⟨_, b536, u544, G557, (packS (x := 15) (packS (x := 14) (packS (x := 12) (packS (x := 9) (packS (x := 7) (packS (x := 6) (pack1 (x := 4) rfl) rfl) rfl) rfl) rfl) rfl) rfl), hX559, (Pin.le_trans (Pin.le_trans (Pin.le_trans hx505.le hx509.le) hx548.le) hle558), (hr547.mono hle558), (hbp560.mono (Pin.le_refl _))⟩
                    · skip
                      refine (drOp1 (i := 8) rfl rfl rfl (want_none rfl _) (o_alloc [(.slice none 0 0), (.bool false)] zr30 rfl hX506.pins (fun b562 w563 hk564 hb565 hp566 hl567 => ?_)))
                      have hX568 := hX506.step hp566 hl567
                      have hlo569 : w.heap.size ≤ b562 := by have := hX506.size; omega
                      refine ⟨fun _ => (Pins.of_le hX568.pins hx505.le), ?_⟩
                      refine dr_one (i := 3) (by kernel_rfl) (drOp1 (i := 3) rfl rfl rfl (want_none rfl _) (o_call (vs := [(.agg [(.int .i64 p), (.int .i64 o)].toArray)]) Try.func8 nm8 rfl rfl rfl ?_))
                      refine Calls.mono (toMove_spec (p := p) (o := o) hX568.pins) ?_
                      rintro _ w571 ⟨G570, rfl, hx572⟩
                      refine ⟨_, rfl, ?_⟩
                      have hX573 := hX568.tr hx572
                      have hb574 := hb565.ext hx572
                      refine ⟨fun _ => (Pins.of_le hX573.pins (Pin.le_trans hx505.le hx572.le)), ?_⟩
                      refine dr_one (i := 4) (by kernel_rfl) (drOp1 (i := 4) rfl rfl rfl (want_none rfl _) (o_call (vs := [(.agg [u501, (.bool lf)].toArray), (.agg [(.int .i64 p), (.int .i64 o)].toArray)]) Try.func9 nm9 rfl rfl rfl ?_))
                      refine Calls.mono (iPlayMove_spec (lf := lf) (p := p) (o := o) hX573.pins (hr504.mono hx572.le)) ?_
                      rintro _ w577 ⟨u575, G576, rfl, hr578, hx579⟩
                      refine ⟨_, rfl, ?_⟩
                      have hX580 := hX573.tr hx579
                      have hb581 := hb574.ext hx579
                      refine ⟨fun _ => (Pins.of_le hX580.pins (Pin.le_trans (Pin.le_trans hx505.le hx572.le) hx579.le)), ?_⟩
                      refine dr_take (i := 5) rfl rfl rfl (want_none rfl _) (by kernel_rfl) (fun _ _ => r_move (v := (.tuple #[(.agg [u575, (.bool (plB lf fs p o))].toArray), (.bool (plOk lf fs p o))])) rfl) (Pins.of_le hX580.pins (Pin.le_trans (Pin.le_trans hx505.le hx572.le) hx579.le)) ?_
                      refine dr_take (i := 6) rfl rfl rfl (want_none rfl _) (by kernel_rfl) (fun _ _ => r_extract (v := (.agg [u575, (.bool (plB lf fs p o))].toArray)) rfl rfl) (Pins.of_le hX580.pins (Pin.le_trans (Pin.le_trans hx505.le hx572.le) hx579.le)) ?_
                      refine dr_take (i := 7) rfl rfl rfl (want_none rfl _) (by kernel_rfl) (fun _ _ => r_extract (v := (.bool (plOk lf fs p o))) rfl rfl) (Pins.of_le hX580.pins (Pin.le_trans (Pin.le_trans hx505.le hx572.le) hx579.le)) ?_
                      refine dr_one (i := 9) (by kernel_rfl) (drOp0 (i := 9) rfl rfl rfl (want_none rfl _) (o_stp (cs' := [u575, (.bool (plB lf fs p o))]) (us := [u575, (.bool (plB lf fs p o))]) (v := (.agg [u575, (.bool (plB lf fs p o))].toArray)) sz30 rfl rfl rfl (ones2 hr578.one (by rfl)) hX580.pins hb581 (Nat.le_of_ble_eq_true rfl) rfl (fun w582 hb583 hp584 hg585 hz586 => ?_)))
                      have hX587 := hX580.write hp584 hg585 ((lo_box hlo569))
                      obtain ⟨G588, hle589, hX590, hbp591, hf592⟩ := hb583.shut hX587 hlo569
                      refine ⟨fun _ => (Pins.of_le hX590.pins (Pin.le_trans (Pin.le_trans (Pin.le_trans hx505.le hx572.le) hx579.le) hle589)), ?_⟩
                      refine dr_take (i := 10) rfl rfl rfl (want_none rfl _) (by kernel_rfl) (fun _ _ => r_assign (v := (.bool (plOk lf fs p o))) rfl) (Pins.of_le hX590.pins (Pin.le_trans (Pin.le_trans (Pin.le_trans hx505.le hx572.le) hx579.le) hle589)) ?_
                      refine dr_end (by kernel_rfl) ?_
                      exact cut_in ⟨_, b562, u575, G588, (packS (x := 15) (packS (x := 14) (packS (x := 12) (packS (x := 9) (packS (x := 7) (packS (x := 6) (pack1 (x := 4) rfl) rfl) rfl) rfl) rfl) rfl) rfl), hX590, (Pin.le_trans (Pin.le_trans (Pin.le_trans hx505.le hx572.le) hx579.le) hle589), (hr578.mono hle589), (hbp591.mono (Pin.le_refl _))⟩
                  · skip
                    refine (drOp1 (i := 8) rfl rfl rfl (want_none rfl _) (o_alloc [(.slice none 0 0), (.bool false)] zr30 rfl hX500.pins (fun b593 w594 hk595 hb596 hp597 hl598 => ?_)))
                    have hX599 := hX500.step hp597 hl598
                    have hlo600 : w.heap.size ≤ b593 := by have := hX500.size; omega
                    refine ⟨fun _ => hX599.pins, ?_⟩
                    refine dr_one (i := 1) (by kernel_rfl) (drOp1 (i := 1) rfl rfl rfl (want_none rfl _) (o_call (vs := [(.agg [v, (.bool lf)].toArray)]) Try.func7 nm7 rfl rfl rfl ?_))
                    refine Calls.mono (toTable_spec hX599.pins (hv.mono (Pin.le_trans (Pin.le_trans (Pin.le_trans (Pin.le_trans (Pin.le_trans (Pin.le_trans (Pin.le_trans (Pin.le_trans (Pin.le_trans (Pin.le_trans hle10 hle23) hx31.le) hle41) hx46.le) hle69) hx81.le) hle397) hx427.le) hle470) hx476.le)) hsf) ?_
                    rintro _ w603 ⟨u601, G602, rfl, hr604, hx605⟩
                    refine ⟨_, rfl, ?_⟩
                    have hX606 := hX599.tr hx605
                    have hb607 := hb596.ext hx605
                    refine ⟨fun _ => (Pins.of_le hX606.pins hx605.le), ?_⟩
                    refine dr_one (i := 3) (by kernel_rfl) (drOp1 (i := 3) rfl rfl rfl (want_none rfl _) (o_call (vs := [(.agg [(.int .i64 p), (.int .i64 o)].toArray)]) Try.func8 nm8 rfl rfl rfl ?_))
                    refine Calls.mono (toMove_spec (p := p) (o := o) hX606.pins) ?_
                    rintro _ w609 ⟨G608, rfl, hx610⟩
                    refine ⟨_, rfl, ?_⟩
                    have hX611 := hX606.tr hx610
                    have hb612 := hb607.ext hx610
                    refine ⟨fun _ => (Pins.of_le hX611.pins (Pin.le_trans hx605.le hx610.le)), ?_⟩
                    refine dr_one (i := 4) (by kernel_rfl) (drOp1 (i := 4) rfl rfl rfl (want_none rfl _) (o_call (vs := [(.agg [u601, (.bool lf)].toArray), (.agg [(.int .i64 p), (.int .i64 o)].toArray)]) Try.func9 nm9 rfl rfl rfl ?_))
                    refine Calls.mono (iPlayMove_spec (lf := lf) (p := p) (o := o) hX611.pins (hr604.mono hx610.le)) ?_
                    rintro _ w615 ⟨u613, G614, rfl, hr616, hx617⟩
                    refine ⟨_, rfl, ?_⟩
                    have hX618 := hX611.tr hx617
                    have hb619 := hb612.ext hx617
                    refine ⟨fun _ => (Pins.of_le hX618.pins (Pin.le_trans (Pin.le_trans hx605.le hx610.le) hx617.le)), ?_⟩
                    refine dr_take (i := 5) rfl rfl rfl (want_none rfl _) (by kernel_rfl) (fun _ _ => r_move (v := (.tuple #[(.agg [u613, (.bool (plB lf fs p o))].toArray), (.bool (plOk lf fs p o))])) rfl) (Pins.of_le hX618.pins (Pin.le_trans (Pin.le_trans hx605.le hx610.le) hx617.le)) ?_
                    refine dr_take (i := 6) rfl rfl rfl (want_none rfl _) (by kernel_rfl) (fun _ _ => r_extract (v := (.agg [u613, (.bool (plB lf fs p o))].toArray)) rfl rfl) (Pins.of_le hX618.pins (Pin.le_trans (Pin.le_trans hx605.le hx610.le) hx617.le)) ?_
                    refine dr_take (i := 7) rfl rfl rfl (want_none rfl _) (by kernel_rfl) (fun _ _ => r_extract (v := (.bool (plOk lf fs p o))) rfl rfl) (Pins.of_le hX618.pins (Pin.le_trans (Pin.le_trans hx605.le hx610.le) hx617.le)) ?_
                    refine dr_one (i := 9) (by kernel_rfl) (drOp0 (i := 9) rfl rfl rfl (want_none rfl _) (o_stp (cs' := [u613, (.bool (plB lf fs p o))]) (us := [u613, (.bool (plB lf fs p o))]) (v := (.agg [u613, (.bool (plB lf fs p o))].toArray)) sz30 rfl rfl rfl (ones2 hr616.one (by rfl)) hX618.pins hb619 (Nat.le_of_ble_eq_true rfl) rfl (fun w620 hb621 hp622 hg623 hz624 => ?_)))
                    have hX625 := hX618.write hp622 hg623 ((lo_box hlo600))
                    obtain ⟨G626, hle627, hX628, hbp629, hf630⟩ := hb621.shut hX625 hlo600
                    refine ⟨fun _ => (Pins.of_le hX628.pins (Pin.le_trans (Pin.le_trans (Pin.le_trans hx605.le hx610.le) hx617.le) hle627)), ?_⟩
                    refine dr_take (i := 10) rfl rfl rfl (want_none rfl _) (by kernel_rfl) (fun _ _ => r_assign (v := (.bool (plOk lf fs p o))) rfl) (Pins.of_le hX628.pins (Pin.le_trans (Pin.le_trans (Pin.le_trans hx605.le hx610.le) hx617.le) hle627)) ?_
                    refine dr_end (by kernel_rfl) ?_
                    exact cut_in ⟨_, b593, u613, G626, (packS (x := 15) (packS (x := 14) (packS (x := 12) (packS (x := 9) (packS (x := 7) (packS (x := 6) (pack1 (x := 4) rfl) rfl) rfl) rfl) rfl) rfl) rfl), hX628, (Pin.le_trans (Pin.le_trans (Pin.le_trans hx605.le hx610.le) hx617.le) hle627), (hr616.mono hle627), (hbp629.mono (Pin.le_refl _))⟩
      · skip
        refine (drOp1 (i := 7) rfl rfl rfl (want_none rfl _) (o_alloc [(.slice none 0 0), (.bool false)] zr30 rfl hX76.pins (fun b631 w632 hk633 hb634 hp635 hl636 => ?_)))
        have hX637 := hX76.step hp635 hl636
        have hd638 := hd77.below hl636
        have hs639 := Nat.le_trans hs78 hl636.size
        have ha640 : w44.heap.size ≤ b631 ∨ b631 < w37.heap.size := Or.inl (by have e := Option.some.inj (congrArg some hk633); have := hs78; omega)
        have hlo641 : w.heap.size ≤ b631 := by have := hX76.size; omega
        refine ⟨fun _ => hX637.pins, ?_⟩
        refine dr_one (i := 2) (by kernel_rfl) (drOp1 (i := 2) rfl rfl rfl (want_none rfl _) (o_call (vs := [(.agg [(.int .i64 p), (.int .i64 o)].toArray)]) Try.func8 nm8 rfl rfl rfl ?_))
        refine Calls.mono (toMove_spec (p := p) (o := o) hX637.pins) ?_
        rintro _ w643 ⟨G642, rfl, hx644⟩
        refine ⟨_, rfl, ?_⟩
        have hX645 := hX637.tr hx644
        have hb646 := hb634.ext hx644
        have hd647 := hd638.ext hx644
        have hs648 := Nat.le_trans hs639 hx644.size
        refine ⟨fun _ => (Pins.of_le hX645.pins hx644.le), ?_⟩
        obtain ⟨G649, hle650, hp651, hr652, _⟩ := hd647.read hX645.pins
        refine dr_one (i := 3) (by kernel_rfl) (drOp1 (i := 3) rfl rfl rfl (want_none rfl _) (o_call (vs := [(.agg [u42, (.bool lf)].toArray), (.agg [(.int .i64 p), (.int .i64 o)].toArray)]) Try.func9 nm9 rfl rfl rfl ?_))
        refine Calls.mono (iPlayMove_dspec (lf := lf) (p := p) (o := o) hp651 hr652) ?_
        rintro _ w655 ⟨u653, G654, rfl, hd656, hx657⟩
        refine ⟨_, rfl, ?_⟩
        have hgx : w44.heap.size ≤ w643.heap.size := hs648
        have hx658 := deep_back hX645.pins hx657
        have hX659 := hX645.step hx658.pins hx658.below
        have hb660 := hb646.below hx658.below
        have hd661 := hd647.below hx658.below
        have hs662 := Nat.le_trans hs648 hx658.below.size
        have hd663 := hd656.anti (Pin.le_trans hle650 hx657.le)
        have hone664 := hd663.one
        refine ⟨fun _ => (Pins.of_le hX659.pins hx644.le), ?_⟩
        refine dr_take (i := 4) rfl rfl rfl (want_none rfl _) (by kernel_rfl) (fun _ _ => r_move (v := (.tuple #[(.agg [u653, (.bool (plB lf fs p o))].toArray), (.bool (plOk lf fs p o))])) rfl) (Pins.of_le hX659.pins hx644.le) ?_
        refine dr_take (i := 5) rfl rfl rfl (want_none rfl _) (by kernel_rfl) (fun _ _ => r_extract (v := (.agg [u653, (.bool (plB lf fs p o))].toArray)) rfl rfl) (Pins.of_le hX659.pins hx644.le) ?_
        refine dr_take (i := 6) rfl rfl rfl (want_none rfl _) (by kernel_rfl) (fun _ _ => r_extract (v := (.bool (plOk lf fs p o))) rfl rfl) (Pins.of_le hX659.pins hx644.le) ?_
        refine dr_one (i := 8) (by kernel_rfl) (drOp0 (i := 8) rfl rfl rfl (want_none rfl _) (o_stp (cs' := [u653, (.bool (plB lf fs p o))]) (us := [u653, (.bool (plB lf fs p o))]) (v := (.agg [u653, (.bool (plB lf fs p o))].toArray)) sz30 rfl rfl rfl (ones2 hone664 (by rfl)) hX659.pins hb660 (Nat.le_of_ble_eq_true rfl) rfl (fun w665 hb666 hp667 hg668 hz669 => ?_)))
        have hX670 := hX659.write hp667 hg668 ((lo_box hlo641))
        have hd671 := hd661.kept hg668 ha640
        have hs672 := Nat.le_trans hs662 hg668.size
        have hd673 := hd663.kept hg668 (Or.inr hb646.lt)
        have hs674 := Nat.le_trans (Nat.le_refl w655.heap.size) hg668.size
        obtain ⟨G675, hle676, hX677, hbp678, hf679⟩ := hb666.shut hX670 hlo641
        have hd680 := hd671.more hle676 hf679 ha640
        have hd681 := hd673.more hle676 hf679 (Or.inr hb646.lt)
        refine ⟨fun _ => (Pins.of_le hX677.pins (Pin.le_trans hx644.le hle676)), ?_⟩
        refine dr_take (i := 9) rfl rfl rfl (want_none rfl _) (by kernel_rfl) (fun _ _ => r_assign (v := (.bool (plOk lf fs p o))) rfl) (Pins.of_le hX677.pins (Pin.le_trans hx644.le hle676)) ?_
        refine dr_end (by kernel_rfl) ?_
        refine s_then ?_
        refine s_seq ?_
        refine s_seq ?_
        refine c_reg ?_
        refine qd rfl rfl rfl (r_ldpA (cs := [u653, (.bool (plB lf fs p o))]) ag30 sz30 rfl (fun j u hj => hX677.pins _ _ _ (hbp678 _ _ (by simpa using hj)))) ?_
        refine qd rfl rfl rfl (r_ldpA (cs := [c35, (.bool (plB lf fs p o))]) ag30 sz30 rfl (fun j u hj => (Pins.of_le hX677.pins (Pin.le_trans (Pin.le_trans (Pin.le_trans hx46.le hle69) hx644.le) hle676)) _ _ _ (hb39 _ _ (by simpa using hj)))) ?_
        obtain ⟨G685, hle686, hp687, hr688, _⟩ := hd681.read hX677.pins
        refine q1 rfl rfl rfl (o_call (vs := [(.agg [u653, (.bool (plB lf fs p o))].toArray), (.agg [c35, (.bool (plB lf fs p o))].toArray)]) Try.func10 nm10 rfl rfl rfl ?_)
        refine Calls.mono (eqTable_same hp687 hr688 ((hr38.mono (Pin.le_trans (Pin.le_trans (Pin.le_trans hx46.le hle69) hx644.le) hle676)).mono hle686)) ?_
        rintro _ w683 ⟨G682, rfl, hx684⟩
        refine ⟨_, rfl, ?_⟩
        have hx689 := deep_back hX677.pins hx684
        have hX690 := hX677.step hx689.pins hx689.below
        have hd691 := hd680.below hx689.below
        have hs692 := Nat.le_trans hs672 hx689.below.size
        have hd693 := hd681.below hx689.below
        have hs694 := Nat.le_trans hs674 hx689.below.size
        refine qd rfl rfl rfl (r_not rfl) ?_
        refine qd rfl rfl rfl (r_move (v := (.bool false)) rfl) ?_
        refine qdg rfl rfl rfl rfl rfl rfl (r_move (v := (.bool (plOk lf fs p o))) rfl) ?_
        refine qdg rfl rfl rfl rfl rfl rfl (r_move (v := (.bool (plOk lf fs p o))) rfl) ?_
        refine qdg rfl rfl rfl rfl rfl rfl (r_neqB_same Try.underlying4 rfl rfl) ?_
        refine qd rfl rfl rfl (r_pickF (v := (.bool false)) rfl rfl) ?_
        refine qe ?_
        refine s_then ?_
        refine c_ifF rfl rfl ?_
        refine wp_skip ?_
        refine s_then ?_
        refine s_seq ?_
        refine s_seq ?_
        refine c_draw (S := fun w => Pins G675 w) (last := 5) (by kernel_rfl) rfl ?_
        have hl695 : Below w683.heap.size w683 w683.drew := (Below.refl _ _).drew
        have hp696 := hX690.pins.below hl695
        have hX697 := hX690.step hp696 hl695
        have hd698 := hd691.below hl695
        have hs699 := Nat.le_trans hs692 hl695.size
        have hd700 := hd693.below hl695
        have hs701 := Nat.le_trans hs694 hl695.size
        refine dr_take (i := 0) rfl rfl rfl (want_none rfl _) (by kernel_rfl) (fun _ hS => r_ldpA (cs := [u42, (.bool lf)]) ag30 sz30 rfl (fun j u hj => (Pins.of_le hS (Pin.le_trans hx644.le hle676)) _ _ _ (hbp71 _ _ (by simpa using hj)))) hX697.pins ?_
        refine dr_take (i := 1) rfl rfl rfl (want_none rfl _) (by kernel_rfl) (fun _ hS => r_ldpA (cs := [v, (.bool lf)]) ag24 sz24 rfl (fun j u hj => (Pins.of_le hS (Pin.le_trans (Pin.le_trans (Pin.le_trans (Pin.le_trans (Pin.le_trans (Pin.le_trans hle23 hx31.le) hle41) hx46.le) hle69) hx644.le) hle676)) _ _ _ (hbp12 _ _ (by simpa using hj)))) hX697.pins ?_
        refine dr_one (i := 2) (by kernel_rfl) (drOp1 (i := 2) rfl rfl rfl (want_none rfl _) (o_call (vs := [(.agg [v, (.bool lf)].toArray)]) Try.func7 nm7 rfl rfl rfl ?_))
        refine Calls.mono (toTable_spec hX697.pins (hv.mono (Pin.le_trans (Pin.le_trans (Pin.le_trans (Pin.le_trans (Pin.le_trans (Pin.le_trans (Pin.le_trans hle10 hle23) hx31.le) hle41) hx46.le) hle69) hx644.le) hle676)) hsf) ?_
        rintro _ w704 ⟨u702, G703, rfl, hr705, hx706⟩
        refine ⟨_, rfl, ?_⟩
        have hX707 := hX697.tr hx706
        have hd708 := hd698.ext hx706
        have hs709 := Nat.le_trans hs699 hx706.size
        have hd710 := hd700.ext hx706
        have hs711 := Nat.le_trans hs701 hx706.size
        refine ⟨fun _ => (Pins.of_le hX707.pins hx706.le), ?_⟩
        obtain ⟨G715, hle716, hp717, hr718, _⟩ := hd708.read hX707.pins
        refine dr_one (i := 3) (by kernel_rfl) (drOp1 (i := 3) rfl rfl rfl (want_none rfl _) (o_call (vs := [(.agg [u42, (.bool lf)].toArray), (.agg [u702, (.bool lf)].toArray)]) Try.func10 nm10 rfl rfl rfl ?_))
        refine Calls.mono (eqTable_same hp717 hr718 (hr705.mono hle716)) ?_
        rintro _ w713 ⟨G712, rfl, hx714⟩
        refine ⟨_, rfl, ?_⟩
        have hx719 := deep_back hX707.pins hx714
        have hX720 := hX707.step hx719.pins hx719.below
        have hd721 := hd708.below hx719.below
        have hs722 := Nat.le_trans hs709 hx719.below.size
        have hd723 := hd710.below hx719.below
        have hs724 := Nat.le_trans hs711 hx719.below.size
        refine ⟨fun _ => (Pins.of_le hX720.pins hx706.le), ?_⟩
        refine dr_take (i := 4) rfl rfl rfl (want_none rfl _) (by kernel_rfl) (fun _ _ => r_not rfl) (Pins.of_le hX720.pins hx706.le) ?_
        refine dr_end (by kernel_rfl) ?_
        refine s_then ?_
        refine c_ifF rfl rfl ?_
        refine wp_skip ?_
        refine s_then ?_
        refine s_seq ?_
        refine c_reg ?_
        refine qd rfl rfl rfl (r_assign (v := (.int .i64 1)) rfl) ?_
        refine qe ?_
        refine s_then ?_
        refine s_seq ?_
        refine c_reg ?_
        refine qd rfl rfl rfl (r_ldpA (cs := [u42, (.bool lf)]) ag30 sz30 rfl (fun j u hj => (Pins.of_le hX720.pins (Pin.le_trans (Pin.le_trans hx644.le hle676) hx706.le)) _ _ _ (hbp71 _ _ (by simpa using hj)))) ?_
        refine qd rfl rfl rfl (r_move (v := (.int .i64 1)) rfl) ?_
        refine q1 rfl rfl rfl (o_call (vs := [(.agg [u42, (.bool lf)].toArray), (.int .i64 1)]) Try.func11 nm11 rfl rfl rfl ?_)
        refine Calls.mono (markTable_spec (kz := 1) (lf := lf) hX720.pins hd721 hs722 hsf (by omega)) ?_
        rintro _ w725 ⟨rfl, hd726, hx727⟩
        refine ⟨_, rfl, ?_⟩
        have hX728 := hX720.trans hx727 (fun i hi => Or.inl (Nat.le_trans hX40.size hi.1))
        have hd729 := hd723.extS hx727 (fun k h1 h2 h3 => by have := h3.2; omega)
        have hs730 := Nat.le_trans hs724 hx727.size
        refine qd rfl rfl rfl (r_assign (v := (.int .i64 (1 + totF fs))) rfl) ?_
        refine qe ?_
        refine s_then ?_
        refine s_seq ?_
        refine s_seq ?_
        refine c_reg ?_
        refine qd rfl rfl rfl (r_move (v := (.int .i64 (1 + totF fs))) rfl) ?_
        refine qd rfl rfl rfl (r_lss rfl rfl) ?_
        refine qd rfl rfl rfl (r_move (v := (.bool (decide ((1 + totF fs : Int) < 0)))) rfl) ?_
        refine qbd (p := (1 + totF fs : Int) < 0) (t := 57) rfl (fun h731 => ?_) (fun h731 => ?_)
        · skip
          refine qs rfl rfl rfl rfl rfl rfl ?_
          refine qs rfl rfl rfl rfl rfl rfl ?_
          refine qs rfl rfl rfl rfl rfl rfl ?_
          refine qs rfl rfl rfl rfl rfl rfl ?_
          refine qd rfl rfl rfl (r_pickT (v := (.bool true)) rfl rfl) ?_
          refine qd rfl rfl rfl (r_move (v := (.bool true)) rfl) ?_
          refine qs rfl rfl rfl rfl rfl rfl ?_
          refine qs rfl rfl rfl rfl rfl rfl ?_
          refine qs rfl rfl rfl rfl rfl rfl ?_
          refine qd rfl rfl rfl (r_pickT (v := (.bool true)) rfl rfl) ?_
          refine qe ?_
          refine s_then ?_
          refine c_ifT rfl rfl ?_
          refine s_seq ?_
          refine c_reg ?_
          refine qd rfl rfl rfl (r_assign (v := (.bool false)) rfl) ?_
          refine qe ?_
          refine s_then ?_
          refine wp_ret ?_
          refine s_ret ?_
          refine c_ret1 (v := (.bool false)) rfl rfl rfl ?_
          exfalso; omega
        · skip
          refine qdg rfl rfl rfl rfl rfl rfl (r_ldpA (cs := [u653, (.bool (plB lf fs p o))]) ag30 sz30 rfl (fun j u hj => (Pins.of_le hX728.pins hx706.le) _ _ _ (hbp678 _ _ (by simpa using hj)))) ?_
          refine qdg rfl rfl rfl rfl rfl rfl (r_ldpA (cs := [c35, (.bool (plB lf fs p o))]) ag30 sz30 rfl (fun j u hj => (Pins.of_le hX728.pins (Pin.le_trans (Pin.le_trans (Pin.le_trans (Pin.le_trans hx46.le hle69) hx644.le) hle676) hx706.le)) _ _ _ (hb39 _ _ (by simpa using hj)))) ?_
          obtain ⟨G735, hle736, hp737, hr738, _⟩ := hd729.read hX728.pins
          refine q1g rfl rfl rfl rfl rfl rfl (o_call (vs := [(.agg [u653, (.bool (plB lf fs p o))].toArray), (.agg [c35, (.bool (plB lf fs p o))].toArray)]) Try.func10 nm10 rfl rfl rfl ?_)
          refine Calls.mono (eqTable_same hp737 hr738 ((hr38.mono (Pin.le_trans (Pin.le_trans (Pin.le_trans (Pin.le_trans hx46.le hle69) hx644.le) hle676) hx706.le)).mono hle736)) ?_
          rintro _ w733 ⟨G732, rfl, hx734⟩
          refine ⟨_, rfl, ?_⟩
          have hx739 := deep_back hX728.pins hx734
          have hX740 := hX728.step hx739.pins hx739.below
          have hd741 := hd729.below hx739.below
          have hs742 := Nat.le_trans hs730 hx739.below.size
          refine qdg rfl rfl rfl rfl rfl rfl (r_not rfl) ?_
          refine qd rfl rfl rfl (r_pickF (v := (.bool false)) rfl rfl) ?_
          refine qd rfl rfl rfl (r_move (v := (.bool false)) rfl) ?_
          refine qdg rfl rfl rfl rfl rfl rfl (r_move (v := (.bool (plOk lf fs p o))) rfl) ?_
          refine qdg rfl rfl rfl rfl rfl rfl (r_move (v := (.bool (plOk lf fs p o))) rfl) ?_
          refine qdg rfl rfl rfl rfl rfl rfl (r_neqB_same Try.underlying4 rfl rfl) ?_
          refine qd rfl rfl rfl (r_pickF (v := (.bool false)) rfl rfl) ?_
          refine qe ?_
          refine s_then ?_
          refine c_ifF rfl rfl ?_
          refine wp_skip ?_
          refine s_then ?_
          refine s_seq ?_
          refine c_reg ?_
          refine qd rfl rfl rfl (r_assign (v := (.int .i64 1)) rfl) ?_
          refine qe ?_
          refine s_then ?_
          refine s_seq ?_
          refine c_reg ?_
          refine qd rfl rfl rfl (r_ldpA (cs := [u653, (.bool (plB lf fs p o))]) ag30 sz30 rfl (fun j u hj => (Pins.of_le hX740.pins hx706.le) _ _ _ (hbp678 _ _ (by simpa using hj)))) ?_
          refine qd rfl rfl rfl (r_move (v := (.int .i64 1)) rfl) ?_
          refine q1 rfl rfl rfl (o_call (vs := [(.agg [u653, (.bool (plB lf fs p o))].toArray), (.int .i64 1)]) Try.func11 nm11 rfl rfl rfl ?_)
          refine Calls.mono (markTable_spec (kz := 1) (lf := plB lf fs p o) hX740.pins hd741 hs742 (pl_small lf fs p o) (by omega)) ?_
          rintro _ w743 ⟨rfl, hd744, hx745⟩
          refine ⟨_, rfl, ?_⟩
          have hX746 := hX740.trans hx745 (fun i hi => Or.inl (Nat.le_trans hX645.size hi.1))
          obtain ⟨G748, hle749, hp750, hr751, hf752⟩ := hd744.read hX746.pins
          have hX747 := hX746.promise hle749 hp750 hf752 hX645.size
          refine qd rfl rfl rfl (r_assign (v := (.int .i64 (1 + totF (plL lf fs p o)))) rfl) ?_
          refine qe ?_
          refine s_then ?_
          refine s_seq ?_
          refine c_reg ?_
          refine qd rfl rfl rfl (r_assign (v := (.int .i64 1)) rfl) ?_
          refine qe ?_
          refine s_then ?_
          refine s_seq ?_
          refine c_reg ?_
          refine qd rfl rfl rfl (r_ldpA (cs := [u653, (.bool (plB lf fs p o))]) ag30 sz30 rfl (fun j u hj => (Pins.of_le hX747.pins (Pin.le_trans hx706.le hle749)) _ _ _ (hbp678 _ _ (by simpa using hj)))) ?_
          refine qd rfl rfl rfl (r_move (v := (.int .i64 1)) rfl) ?_
          refine q1 rfl rfl rfl (o_call (vs := [(.agg [u653, (.bool (plB lf fs p o))].toArray), (.int .i64 1)]) Try.func12 nm12 rfl rfl rfl ?_)
          refine Calls.mono (heldTable_spec (kz := 1) (fs := plL lf fs p o) hX747.pins hr751 (pl_small lf fs p o) (by omega)) ?_
          rintro _ w754 ⟨G753, rfl, hx755⟩
          refine ⟨_, rfl, ?_⟩
          have hX756 := hX747.tr hx755
          refine qd rfl rfl rfl (r_assign (v := (.int .i64 (1 + totF (plL lf fs p o)))) rfl) ?_
          refine qe ?_
          refine s_then ?_
          refine s_seq ?_
          refine s_seq ?_
          refine c_reg ?_
          refine qd rfl rfl rfl (r_move (v := (.int .i64 (1 + totF (plL lf fs p o)))) rfl) ?_
          refine qd rfl rfl rfl (r_lss rfl rfl) ?_
          refine qe ?_
          refine s_then ?_
          refine c_ifd (p := (1 + totF (plL lf fs p o) : Int) < 0) rfl rfl (fun h757 => ?_) (fun h757 => ?_)
          · skip
            refine s_seq ?_
            refine c_reg ?_
            refine qd rfl rfl rfl (r_assign (v := (.bool false)) rfl) ?_
            refine qe ?_
            refine s_then ?_
            refine wp_ret ?_
            refine s_ret ?_
            refine c_ret1 (v := (.bool false)) rfl rfl rfl ?_
            exfalso; omega
          · skip
            refine wp_skip ?_
            refine s_then ?_
            refine s_seq ?_
            refine s_seq ?_
            refine c_reg ?_
            refine qd rfl rfl rfl (r_move (v := (.int .i64 (1 + totF (plL lf fs p o)))) rfl) ?_
            refine qd rfl rfl rfl (r_move (v := (.int .i64 (1 + totF (plL lf fs p o)))) rfl) ?_
            refine qd rfl rfl rfl (r_neq rfl rfl) ?_
            refine qe ?_
            refine s_then ?_
            refine c_ifd (p := (1 + totF (plL lf fs p o) : Int) ≠ (1 + totF (plL lf fs p o))) rfl rfl (fun h758 => ?_) (fun h758 => ?_)
            · skip
              refine s_seq ?_
              refine c_reg ?_
              refine qd rfl rfl rfl (r_assign (v := (.bool false)) rfl) ?_
              refine qe ?_
              refine s_then ?_
              refine wp_ret ?_
              refine s_ret ?_
              refine c_ret1 (v := (.bool false)) rfl rfl rfl ?_
              exfalso; omega
            · skip
              refine wp_skip ?_
              refine s_then ?_
              refine s_seq ?_
              refine c_cut (fun (en : Nat → Value) (W : World) => ∃ (env1 : Nat → Value) (c759 : Nat) (c760 : Value) (G761 : Pin), en = (upd (upd (upd (upd (upd (upd (upd env1 4 (.bool false)) 6 (.pointer (some ⟨c34, 0, none⟩))) 7 (.bool (plOk lf fs p o))) 9 (.pointer (some ⟨b631, 0, none⟩))) 12 (.int .i64 (1 + totF (plL lf fs p o)))) 14 (.pointer (some ⟨c759, 0, none⟩))) 15 (.bool (plOk lf fs p o))) ∧ Ext noS G w G761 W ∧ Pin.le G753 G761 ∧ (RSl (eSl eNode) G761 c760 (plL lf fs p o)) ∧ (BxP G761 c759 [c760, (.bool (plB lf fs p o))])) ?_ ?_
              · rintro _ w762 ⟨env1, c759, c760, G761, rfl, hX765, hle766, hr763, hb764⟩
                refine s_then ?_
                refine s_seq ?_
                refine s_seq ?_
                refine c_reg ?_
                refine qd rfl rfl rfl (r_ldpA (cs := [c760, (.bool (plB lf fs p o))]) ag30 sz30 rfl (fun j u hj => hX765.pins _ _ _ (hb764 _ _ (by simpa using hj)))) ?_
                refine qd rfl rfl rfl (r_ldpA (cs := [c35, (.bool (plB lf fs p o))]) ag30 sz30 rfl (fun j u hj => (Pins.of_le hX765.pins (Pin.le_trans (Pin.le_trans (Pin.le_trans (Pin.le_trans (Pin.le_trans (Pin.le_trans (Pin.le_trans hx46.le hle69) hx644.le) hle676) hx706.le) hle749) hx755.le) hle766)) _ _ _ (hb39 _ _ (by simpa using hj)))) ?_
                refine q1 rfl rfl rfl (o_call (vs := [(.agg [c760, (.bool (plB lf fs p o))].toArray), (.agg [c35, (.bool (plB lf fs p o))].toArray)]) Try.func10 nm10 rfl rfl rfl ?_)
                refine Calls.mono (eqTable_same hX765.pins hr763 (hr38.mono (Pin.le_trans (Pin.le_trans (Pin.le_trans (Pin.le_trans (Pin.le_trans (Pin.le_trans (Pin.le_trans hx46.le hle69) hx644.le) hle676) hx706.le) hle749) hx755.le) hle766))) ?_
                rintro _ w768 ⟨G767, rfl, hx769⟩
                refine ⟨_, rfl, ?_⟩
                have hX770 := hX765.tr hx769
                refine qd rfl rfl rfl (r_not rfl) ?_
                refine qd rfl rfl rfl (r_move (v := (.bool false)) rfl) ?_
                refine qdg rfl rfl rfl rfl rfl rfl (r_move (v := (.bool (plOk lf fs p o))) rfl) ?_
                refine qdg rfl rfl rfl rfl rfl rfl (r_move (v := (.bool (plOk lf fs p o))) rfl) ?_
                refine qdg rfl rfl rfl rfl rfl rfl (r_neqB_same Try.underlying4 rfl rfl) ?_
                refine qd rfl rfl rfl (r_pickF (v := (.bool false)) rfl rfl) ?_
                refine qe ?_
                refine s_then ?_
                refine c_ifF rfl rfl ?_
                refine wp_skip ?_
                refine s_then ?_
                refine s_seq ?_
                refine c_reg ?_
                refine qd rfl rfl rfl (r_assign (v := (.int .i64 1)) rfl) ?_
                refine qe ?_
                refine s_then ?_
                refine s_seq ?_
                refine c_reg ?_
                refine qd rfl rfl rfl (r_ldpA (cs := [u653, (.bool (plB lf fs p o))]) ag30 sz30 rfl (fun j u hj => (Pins.of_le hX770.pins (Pin.le_trans (Pin.le_trans (Pin.le_trans (Pin.le_trans hx706.le hle749) hx755.le) hle766) hx769.le)) _ _ _ (hbp678 _ _ (by simpa using hj)))) ?_
                refine qd rfl rfl rfl (r_move (v := (.int .i64 1)) rfl) ?_
                refine q1 rfl rfl rfl (o_call (vs := [(.agg [u653, (.bool (plB lf fs p o))].toArray), (.int .i64 1)]) Try.func12 nm12 rfl rfl rfl ?_)
                refine Calls.mono (heldTable_spec (kz := 1) (fs := plL lf fs p o) hX770.pins (hr751.mono (Pin.le_trans (Pin.le_trans hx755.le hle766) hx769.le)) (pl_small lf fs p o) (by omega)) ?_
                rintro _ w772 ⟨G771, rfl, hx773⟩
                refine ⟨_, rfl, ?_⟩
                have hX774 := hX770.tr hx773
                refine qd rfl rfl rfl (r_assign (v := (.int .i64 (1 + totF (plL lf fs p o)))) rfl) ?_
                refine qe ?_
                refine s_then ?_
                refine s_seq ?_
                refine s_seq ?_
                refine c_reg ?_
                refine qd rfl rfl rfl (r_move (v := (.int .i64 (1 + totF (plL lf fs p o)))) rfl) ?_
                refine qd rfl rfl rfl (r_lss rfl rfl) ?_
                refine qe ?_
                refine s_then ?_
                refine c_ifd (p := (1 + totF (plL lf fs p o) : Int) < 0) rfl rfl (fun h => absurd h h757) (fun _ => ?_)
                refine wp_skip ?_
                refine s_then ?_
                refine s_seq ?_
                refine s_seq ?_
                refine c_reg ?_
                refine qd rfl rfl rfl (r_move (v := (.int .i64 (1 + totF (plL lf fs p o)))) rfl) ?_
                refine qd rfl rfl rfl (r_move (v := (.int .i64 (1 + totF (plL lf fs p o)))) rfl) ?_
                refine qd rfl rfl rfl (r_neq rfl rfl) ?_
                refine qe ?_
                refine s_then ?_
                refine c_ifd (p := (1 + totF (plL lf fs p o) : Int) ≠ (1 + totF (plL lf fs p o))) rfl rfl (fun h => absurd h h758) (fun _ => ?_)
                refine wp_skip ?_
                refine s_then ?_
                refine s_seq ?_
                refine c_reg ?_
                refine qd rfl rfl rfl (r_assign (v := (.bool true)) rfl) ?_
                refine qe ?_
                refine s_then ?_
                refine wp_ret ?_
                refine s_ret ?_
                refine c_ret1 (v := (.bool true)) rfl rfl rfl ?_
                exact ⟨_, rfl, hX774⟩
              · skip
                refine c_draw (S := fun w => Pins G753 w) (last := 11) (by kernel_rfl) rfl ?_
                have hl777 : Below w754.heap.size w754 w754.drew := (Below.refl _ _).drew
                have hp778 := hX756.pins.below hl777
                have hX779 := hX756.step hp778 hl777
                refine dr_take (i := 0) rfl rfl rfl (want_none rfl _) (by kernel_rfl) (fun _ hS => r_ldpA (cs := [v, (.bool lf)]) ag24 sz24 rfl (fun j u hj => (Pins.of_le hS (Pin.le_trans (Pin.le_trans (Pin.le_trans (Pin.le_trans (Pin.le_trans (Pin.le_trans (Pin.le_trans (Pin.le_trans (Pin.le_trans hle23 hx31.le) hle41) hx46.le) hle69) hx644.le) hle676) hx706.le) hle749) hx755.le)) _ _ _ (hbp12 _ _ (by simpa using hj)))) hX779.pins ?_
                refine dr_take (i := 2) rfl rfl rfl (want_none rfl _) (by kernel_rfl) (fun _ hS => r_ldpA (cs := [(.int .i64 p), (.int .i64 o)]) ag26 sz26 rfl (fun j u hj => (Pins.of_le hS (Pin.le_trans (Pin.le_trans (Pin.le_trans (Pin.le_trans (Pin.le_trans (Pin.le_trans (Pin.le_trans (Pin.le_trans hx31.le hle41) hx46.le) hle69) hx644.le) hle676) hx706.le) hle749) hx755.le)) _ _ _ (hbp25 _ _ (by simpa using hj)))) hX779.pins ?_
                refine dr_two (i := 1) (j := 8) (by kernel_rfl) ?_ ?_
                · skip
                  refine (drOp1 (i := 1) rfl rfl rfl (want_none rfl _) (o_call (vs := [(.agg [v, (.bool lf)].toArray)]) Try.func7 nm7 rfl rfl rfl ?_))
                  refine Calls.mono (toTable_spec hX779.pins (hv.mono (Pin.le_trans (Pin.le_trans (Pin.le_trans (Pin.le_trans (Pin.le_trans (Pin.le_trans (Pin.le_trans (Pin.le_trans (Pin.le_trans (Pin.le_trans hle10 hle23) hx31.le) hle41) hx46.le) hle69) hx644.le) hle676) hx706.le) hle749) hx755.le)) hsf) ?_
                  rintro _ w782 ⟨u780, G781, rfl, hr783, hx784⟩
                  refine ⟨_, rfl, ?_⟩
                  have hX785 := hX779.tr hx784
                  refine ⟨fun _ => (Pins.of_le hX785.pins hx784.le), ?_⟩
                  refine dr_two (i := 3) (j := 8) (by kernel_rfl) ?_ ?_
                  · skip
                    refine (drOp1 (i := 3) rfl rfl rfl (want_none rfl _) (o_call (vs := [(.agg [(.int .i64 p), (.int .i64 o)].toArray)]) Try.func8 nm8 rfl rfl rfl ?_))
                    refine Calls.mono (toMove_spec (p := p) (o := o) hX785.pins) ?_
                    rintro _ w787 ⟨G786, rfl, hx788⟩
                    refine ⟨_, rfl, ?_⟩
                    have hX789 := hX785.tr hx788
                    refine ⟨fun _ => (Pins.of_le hX789.pins (Pin.le_trans hx784.le hx788.le)), ?_⟩
                    refine dr_two (i := 4) (j := 8) (by kernel_rfl) ?_ ?_
                    · skip
                      refine (drOp1 (i := 4) rfl rfl rfl (want_none rfl _) (o_call (vs := [(.agg [u780, (.bool lf)].toArray), (.agg [(.int .i64 p), (.int .i64 o)].toArray)]) Try.func9 nm9 rfl rfl rfl ?_))
                      refine Calls.mono (iPlayMove_spec (lf := lf) (p := p) (o := o) hX789.pins (hr783.mono hx788.le)) ?_
                      rintro _ w792 ⟨u790, G791, rfl, hr793, hx794⟩
                      refine ⟨_, rfl, ?_⟩
                      have hX795 := hX789.tr hx794
                      refine ⟨fun _ => (Pins.of_le hX795.pins (Pin.le_trans (Pin.le_trans hx784.le hx788.le) hx794.le)), ?_⟩
                      refine dr_take (i := 5) rfl rfl rfl (want_none rfl _) (by kernel_rfl) (fun _ _ => r_move (v := (.tuple #[(.agg [u790, (.bool (plB lf fs p o))].toArray), (.bool (plOk lf fs p o))])) rfl) (Pins.of_le hX795.pins (Pin.le_trans (Pin.le_trans hx784.le hx788.le) hx794.le)) ?_
                      refine dr_take (i := 6) rfl rfl rfl (want_none rfl _) (by kernel_rfl) (fun _ _ => r_extract (v := (.agg [u790, (.bool (plB lf fs p o))].toArray)) rfl rfl) (Pins.of_le hX795.pins (Pin.le_trans (Pin.le_trans hx784.le hx788.le) hx794.le)) ?_
                      refine dr_take (i := 7) rfl rfl rfl (want_none rfl _) (by kernel_rfl) (fun _ _ => r_extract (v := (.bool (plOk lf fs p o))) rfl rfl) (Pins.of_le hX795.pins (Pin.le_trans (Pin.le_trans hx784.le hx788.le) hx794.le)) ?_
                      refine dr_one (i := 8) (by kernel_rfl) (drOp1 (i := 8) rfl rfl rfl (want_none rfl _) (o_alloc [(.slice none 0 0), (.bool false)] zr30 rfl hX795.pins (fun b796 w797 hk798 hb799 hp800 hl801 => ?_)))
                      have hX802 := hX795.step hp800 hl801
                      have hlo803 : w.heap.size ≤ b796 := by have := hX795.size; omega
                      refine ⟨fun _ => (Pins.of_le hX802.pins (Pin.le_trans (Pin.le_trans hx784.le hx788.le) hx794.le)), ?_⟩
                      refine dr_one (i := 9) (by kernel_rfl) (drOp0 (i := 9) rfl rfl rfl (want_none rfl _) (o_stp (cs' := [u790, (.bool (plB lf fs p o))]) (us := [u790, (.bool (plB lf fs p o))]) (v := (.agg [u790, (.bool (plB lf fs p o))].toArray)) sz30 rfl rfl rfl (ones2 hr793.one (by rfl)) hX802.pins hb799 (Nat.le_of_ble_eq_true rfl) rfl (fun w804 hb805 hp806 hg807 hz808 => ?_)))
                      have hX809 := hX802.write hp806 hg807 ((lo_box hlo803))
                      obtain ⟨G810, hle811, hX812, hbp813, hf814⟩ := hb805.shut hX809 hlo803
                      refine ⟨fun _ => (Pins.of_le hX812.pins (Pin.le_trans (Pin.le_trans (Pin.le_trans hx784.le hx788.le) hx794.le) hle811)), ?_⟩
                      refine dr_take (i := 10) rfl rfl rfl (want_none rfl _) (by kernel_rfl) (fun _ _ => r_assign (v := (.bool (plOk lf fs p o))) rfl) (Pins.of_le hX812.pins (Pin.le_trans (Pin.le_trans (Pin.le_trans hx784.le hx788.le) hx794.le) hle811)) ?_
                      refine dr_end (by kernel_rfl) ?_
                      exact cut_in ⟨_, b796, u790, G810, (packS (x := 15) (packS (x := 14) (packS (x := 12) (packS (x := 9) (packS (x := 7) (packS (x := 6) (pack1 (x := 4) rfl) rfl) rfl) rfl) rfl) rfl) rfl), hX812, (Pin.le_trans (Pin.le_trans (Pin.le_trans hx784.le hx788.le) hx794.le) hle811), (hr793.mono hle811), (hbp813.mono (Pin.le_refl _))⟩
                    · skip
                      refine (drOp1 (i := 8) rfl rfl rfl (want_none rfl _) (o_alloc [(.slice none 0 0), (.bool false)] zr30 rfl hX789.pins (fun b815 w816 hk817 hb818 hp819 hl820 => ?_)))
                      have hX821 := hX789.step hp819 hl820
                      have hlo822 : w.heap.size ≤ b815 := by have := hX789.size; omega
                      refine ⟨fun _ => (Pins.of_le hX821.pins (Pin.le_trans hx784.le hx788.le)), ?_⟩
                      refine dr_one (i := 4) (by kernel_rfl) (drOp1 (i := 4) rfl rfl rfl (want_none rfl _) (o_call (vs := [(.agg [u780, (.bool lf)].toArray), (.agg [(.int .i64 p), (.int .i64 o)].toArray)]) Try.func9 nm9 rfl rfl rfl ?_))
                      refine Calls.mono (iPlayMove_spec (lf := lf) (p := p) (o := o) hX821.pins (hr783.mono hx788.le)) ?_
                      rintro _ w825 ⟨u823, G824, rfl, hr826, hx827⟩
                      refine ⟨_, rfl, ?_⟩
                      have hX828 := hX821.tr hx827
                      have hb829 := hb818.ext hx827
                      refine ⟨fun _ => (Pins.of_le hX828.pins (Pin.le_trans (Pin.le_trans hx784.le hx788.le) hx827.le)), ?_⟩
                      refine dr_take (i := 5) rfl rfl rfl (want_none rfl _) (by kernel_rfl) (fun _ _ => r_move (v := (.tuple #[(.agg [u823, (.bool (plB lf fs p o))].toArray), (.bool (plOk lf fs p o))])) rfl) (Pins.of_le hX828.pins (Pin.le_trans (Pin.le_trans hx784.le hx788.le) hx827.le)) ?_
                      refine dr_take (i := 6) rfl rfl rfl (want_none rfl _) (by kernel_rfl) (fun _ _ => r_extract (v := (.agg [u823, (.bool (plB lf fs p o))].toArray)) rfl rfl) (Pins.of_le hX828.pins (Pin.le_trans (Pin.le_trans hx784.le hx788.le) hx827.le)) ?_
                      refine dr_take (i := 7) rfl rfl rfl (want_none rfl _) (by kernel_rfl) (fun _ _ => r_extract (v := (.bool (plOk lf fs p o))) rfl rfl) (Pins.of_le hX828.pins (Pin.le_trans (Pin.le_trans hx784.le hx788.le) hx827.le)) ?_
                      refine dr_one (i := 9) (by kernel_rfl) (drOp0 (i := 9) rfl rfl rfl (want_none rfl _) (o_stp (cs' := [u823, (.bool (plB lf fs p o))]) (us := [u823, (.bool (plB lf fs p o))]) (v := (.agg [u823, (.bool (plB lf fs p o))].toArray)) sz30 rfl rfl rfl (ones2 hr826.one (by rfl)) hX828.pins hb829 (Nat.le_of_ble_eq_true rfl) rfl (fun w830 hb831 hp832 hg833 hz834 => ?_)))
                      have hX835 := hX828.write hp832 hg833 ((lo_box hlo822))
                      obtain ⟨G836, hle837, hX838, hbp839, hf840⟩ := hb831.shut hX835 hlo822
                      refine ⟨fun _ => (Pins.of_le hX838.pins (Pin.le_trans (Pin.le_trans (Pin.le_trans hx784.le hx788.le) hx827.le) hle837)), ?_⟩
                      refine dr_take (i := 10) rfl rfl rfl (want_none rfl _) (by kernel_rfl) (fun _ _ => r_assign (v := (.bool (plOk lf fs p o))) rfl) (Pins.of_le hX838.pins (Pin.le_trans (Pin.le_trans (Pin.le_trans hx784.le hx788.le) hx827.le) hle837)) ?_
                      refine dr_end (by kernel_rfl) ?_
                      exact cut_in ⟨_, b815, u823, G836, (packS (x := 15) (packS (x := 14) (packS (x := 12) (packS (x := 9) (packS (x := 7) (packS (x := 6) (pack1 (x := 4) rfl) rfl) rfl) rfl) rfl) rfl) rfl), hX838, (Pin.le_trans (Pin.le_trans (Pin.le_trans hx784.le hx788.le) hx827.le) hle837), (hr826.mono hle837), (hbp839.mono (Pin.le_refl _))⟩
                  · skip
                    refine (drOp1 (i := 8) rfl rfl rfl (want_none rfl _) (o_alloc [(.slice none 0 0), (.bool false)] zr30 rfl hX785.pins (fun b841 w842 hk843 hb844 hp845 hl846 => ?_)))
                    have hX847 := hX785.step hp845 hl846
                    have hlo848 : w.heap.size ≤ b841 := by have := hX785.size; omega
                    refine ⟨fun _ => (Pins.of_le hX847.pins hx784.le), ?_⟩
                    refine dr_one (i := 3) (by kernel_rfl) (drOp1 (i := 3) rfl rfl rfl (want_none rfl _) (o_call (vs := [(.agg [(.int .i64 p), (.int .i64 o)].toArray)]) Try.func8 nm8 rfl rfl rfl ?_))
                    refine Calls.mono (toMove_spec (p := p) (o := o) hX847.pins) ?_
                    rintro _ w850 ⟨G849, rfl, hx851⟩
                    refine ⟨_, rfl, ?_⟩
                    have hX852 := hX847.tr hx851
                    have hb853 := hb844.ext hx851
                    refine ⟨fun _ => (Pins.of_le hX852.pins (Pin.le_trans hx784.le hx851.le)), ?_⟩
                    refine dr_one (i := 4) (by kernel_rfl) (drOp1 (i := 4) rfl rfl rfl (want_none rfl _) (o_call (vs := [(.agg [u780, (.bool lf)].toArray), (.agg [(.int .i64 p), (.int .i64 o)].toArray)]) Try.func9 nm9 rfl rfl rfl ?_))
                    refine Calls.mono (iPlayMove_spec (lf := lf) (p := p) (o := o) hX852.pins (hr783.mono hx851.le)) ?_
                    rintro _ w856 ⟨u854, G855, rfl, hr857, hx858⟩
                    refine ⟨_, rfl, ?_⟩
                    have hX859 := hX852.tr hx858
                    have hb860 := hb853.ext hx858
                    refine ⟨fun _ => (Pins.of_le hX859.pins (Pin.le_trans (Pin.le_trans hx784.le hx851.le) hx858.le)), ?_⟩
                    refine dr_take (i := 5) rfl rfl rfl (want_none rfl _) (by kernel_rfl) (fun _ _ => r_move (v := (.tuple #[(.agg [u854, (.bool (plB lf fs p o))].toArray), (.bool (plOk lf fs p o))])) rfl) (Pins.of_le hX859.pins (Pin.le_trans (Pin.le_trans hx784.le hx851.le) hx858.le)) ?_
                    refine dr_take (i := 6) rfl rfl rfl (want_none rfl _) (by kernel_rfl) (fun _ _ => r_extract (v := (.agg [u854, (.bool (plB lf fs p o))].toArray)) rfl rfl) (Pins.of_le hX859.pins (Pin.le_trans (Pin.le_trans hx784.le hx851.le) hx858.le)) ?_
                    refine dr_take (i := 7) rfl rfl rfl (want_none rfl _) (by kernel_rfl) (fun _ _ => r_extract (v := (.bool (plOk lf fs p o))) rfl rfl) (Pins.of_le hX859.pins (Pin.le_trans (Pin.le_trans hx784.le hx851.le) hx858.le)) ?_
                    refine dr_one (i := 9) (by kernel_rfl) (drOp0 (i := 9) rfl rfl rfl (want_none rfl _) (o_stp (cs' := [u854, (.bool (plB lf fs p o))]) (us := [u854, (.bool (plB lf fs p o))]) (v := (.agg [u854, (.bool (plB lf fs p o))].toArray)) sz30 rfl rfl rfl (ones2 hr857.one (by rfl)) hX859.pins hb860 (Nat.le_of_ble_eq_true rfl) rfl (fun w861 hb862 hp863 hg864 hz865 => ?_)))
                    have hX866 := hX859.write hp863 hg864 ((lo_box hlo848))
                    obtain ⟨G867, hle868, hX869, hbp870, hf871⟩ := hb862.shut hX866 hlo848
                    refine ⟨fun _ => (Pins.of_le hX869.pins (Pin.le_trans (Pin.le_trans (Pin.le_trans hx784.le hx851.le) hx858.le) hle868)), ?_⟩
                    refine dr_take (i := 10) rfl rfl rfl (want_none rfl _) (by kernel_rfl) (fun _ _ => r_assign (v := (.bool (plOk lf fs p o))) rfl) (Pins.of_le hX869.pins (Pin.le_trans (Pin.le_trans (Pin.le_trans hx784.le hx851.le) hx858.le) hle868)) ?_
                    refine dr_end (by kernel_rfl) ?_
                    exact cut_in ⟨_, b841, u854, G867, (packS (x := 15) (packS (x := 14) (packS (x := 12) (packS (x := 9) (packS (x := 7) (packS (x := 6) (pack1 (x := 4) rfl) rfl) rfl) rfl) rfl) rfl) rfl), hX869, (Pin.le_trans (Pin.le_trans (Pin.le_trans hx784.le hx851.le) hx858.le) hle868), (hr857.mono hle868), (hbp870.mono (Pin.le_refl _))⟩
                · skip
                  refine (drOp1 (i := 8) rfl rfl rfl (want_none rfl _) (o_alloc [(.slice none 0 0), (.bool false)] zr30 rfl hX779.pins (fun b872 w873 hk874 hb875 hp876 hl877 => ?_)))
                  have hX878 := hX779.step hp876 hl877
                  have hlo879 : w.heap.size ≤ b872 := by have := hX779.size; omega
                  refine ⟨fun _ => hX878.pins, ?_⟩
                  refine dr_one (i := 1) (by kernel_rfl) (drOp1 (i := 1) rfl rfl rfl (want_none rfl _) (o_call (vs := [(.agg [v, (.bool lf)].toArray)]) Try.func7 nm7 rfl rfl rfl ?_))
                  refine Calls.mono (toTable_spec hX878.pins (hv.mono (Pin.le_trans (Pin.le_trans (Pin.le_trans (Pin.le_trans (Pin.le_trans (Pin.le_trans (Pin.le_trans (Pin.le_trans (Pin.le_trans (Pin.le_trans hle10 hle23) hx31.le) hle41) hx46.le) hle69) hx644.le) hle676) hx706.le) hle749) hx755.le)) hsf) ?_
                  rintro _ w882 ⟨u880, G881, rfl, hr883, hx884⟩
                  refine ⟨_, rfl, ?_⟩
                  have hX885 := hX878.tr hx884
                  have hb886 := hb875.ext hx884
                  refine ⟨fun _ => (Pins.of_le hX885.pins hx884.le), ?_⟩
                  refine dr_one (i := 3) (by kernel_rfl) (drOp1 (i := 3) rfl rfl rfl (want_none rfl _) (o_call (vs := [(.agg [(.int .i64 p), (.int .i64 o)].toArray)]) Try.func8 nm8 rfl rfl rfl ?_))
                  refine Calls.mono (toMove_spec (p := p) (o := o) hX885.pins) ?_
                  rintro _ w888 ⟨G887, rfl, hx889⟩
                  refine ⟨_, rfl, ?_⟩
                  have hX890 := hX885.tr hx889
                  have hb891 := hb886.ext hx889
                  refine ⟨fun _ => (Pins.of_le hX890.pins (Pin.le_trans hx884.le hx889.le)), ?_⟩
                  refine dr_one (i := 4) (by kernel_rfl) (drOp1 (i := 4) rfl rfl rfl (want_none rfl _) (o_call (vs := [(.agg [u880, (.bool lf)].toArray), (.agg [(.int .i64 p), (.int .i64 o)].toArray)]) Try.func9 nm9 rfl rfl rfl ?_))
                  refine Calls.mono (iPlayMove_spec (lf := lf) (p := p) (o := o) hX890.pins (hr883.mono hx889.le)) ?_
                  rintro _ w894 ⟨u892, G893, rfl, hr895, hx896⟩
                  refine ⟨_, rfl, ?_⟩
                  have hX897 := hX890.tr hx896
                  have hb898 := hb891.ext hx896
                  refine ⟨fun _ => (Pins.of_le hX897.pins (Pin.le_trans (Pin.le_trans hx884.le hx889.le) hx896.le)), ?_⟩
                  refine dr_take (i := 5) rfl rfl rfl (want_none rfl _) (by kernel_rfl) (fun _ _ => r_move (v := (.tuple #[(.agg [u892, (.bool (plB lf fs p o))].toArray), (.bool (plOk lf fs p o))])) rfl) (Pins.of_le hX897.pins (Pin.le_trans (Pin.le_trans hx884.le hx889.le) hx896.le)) ?_
                  refine dr_take (i := 6) rfl rfl rfl (want_none rfl _) (by kernel_rfl) (fun _ _ => r_extract (v := (.agg [u892, (.bool (plB lf fs p o))].toArray)) rfl rfl) (Pins.of_le hX897.pins (Pin.le_trans (Pin.le_trans hx884.le hx889.le) hx896.le)) ?_
                  refine dr_take (i := 7) rfl rfl rfl (want_none rfl _) (by kernel_rfl) (fun _ _ => r_extract (v := (.bool (plOk lf fs p o))) rfl rfl) (Pins.of_le hX897.pins (Pin.le_trans (Pin.le_trans hx884.le hx889.le) hx896.le)) ?_
                  refine dr_one (i := 9) (by kernel_rfl) (drOp0 (i := 9) rfl rfl rfl (want_none rfl _) (o_stp (cs' := [u892, (.bool (plB lf fs p o))]) (us := [u892, (.bool (plB lf fs p o))]) (v := (.agg [u892, (.bool (plB lf fs p o))].toArray)) sz30 rfl rfl rfl (ones2 hr895.one (by rfl)) hX897.pins hb898 (Nat.le_of_ble_eq_true rfl) rfl (fun w899 hb900 hp901 hg902 hz903 => ?_)))
                  have hX904 := hX897.write hp901 hg902 ((lo_box hlo879))
                  obtain ⟨G905, hle906, hX907, hbp908, hf909⟩ := hb900.shut hX904 hlo879
                  refine ⟨fun _ => (Pins.of_le hX907.pins (Pin.le_trans (Pin.le_trans (Pin.le_trans hx884.le hx889.le) hx896.le) hle906)), ?_⟩
                  refine dr_take (i := 10) rfl rfl rfl (want_none rfl _) (by kernel_rfl) (fun _ _ => r_assign (v := (.bool (plOk lf fs p o))) rfl) (Pins.of_le hX907.pins (Pin.le_trans (Pin.le_trans (Pin.le_trans hx884.le hx889.le) hx896.le) hle906)) ?_
                  refine dr_end (by kernel_rfl) ?_
                  exact cut_in ⟨_, b872, u892, G905, (packS (x := 15) (packS (x := 14) (packS (x := 12) (packS (x := 9) (packS (x := 7) (packS (x := 6) (pack1 (x := 4) rfl) rfl) rfl) rfl) rfl) rfl) rfl), hX907, (Pin.le_trans (Pin.le_trans (Pin.le_trans hx884.le hx889.le) hx896.le) hle906), (hr895.mono hle906), (hbp908.mono (Pin.le_refl _))⟩
    · skip
      refine c_draw (S := fun w => Pins G28 w) (last := 11) (by kernel_rfl) rfl ?_
      have hl910 : Below w29.heap.size w29 w29.drew := (Below.refl _ _).drew
      have hp911 := hX32.pins.below hl910
      have hX912 := hX32.step hp911 hl910
      refine dr_take (i := 0) rfl rfl rfl (want_none rfl _) (by kernel_rfl) (fun _ hS => r_ldpA (cs := [v, (.bool lf)]) ag24 sz24 rfl (fun j u hj => (Pins.of_le hS (Pin.le_trans hle23 hx31.le)) _ _ _ (hbp12 _ _ (by simpa using hj)))) hX912.pins ?_
      refine dr_take (i := 2) rfl rfl rfl (want_none rfl _) (by kernel_rfl) (fun _ hS => r_ldpA (cs := [(.int .i64 p), (.int .i64 o)]) ag26 sz26 rfl (fun j u hj => (Pins.of_le hS hx31.le) _ _ _ (hbp25 _ _ (by simpa using hj)))) hX912.pins ?_
      refine dr_two (i := 1) (j := 8) (by kernel_rfl) ?_ ?_
      · skip
        refine (drOp1 (i := 1) rfl rfl rfl (want_none rfl _) (o_call (vs := [(.agg [v, (.bool lf)].toArray)]) Try.func7 nm7 rfl rfl rfl ?_))
        refine Calls.mono (toTable_spec hX912.pins (hv.mono (Pin.le_trans (Pin.le_trans hle10 hle23) hx31.le)) hsf) ?_
        rintro _ w915 ⟨u913, G914, rfl, hr916, hx917⟩
        refine ⟨_, rfl, ?_⟩
        have hX918 := hX912.tr hx917
        refine ⟨fun _ => (Pins.of_le hX918.pins hx917.le), ?_⟩
        refine dr_two (i := 3) (j := 8) (by kernel_rfl) ?_ ?_
        · skip
          refine (drOp1 (i := 3) rfl rfl rfl (want_none rfl _) (o_call (vs := [(.agg [(.int .i64 p), (.int .i64 o)].toArray)]) Try.func8 nm8 rfl rfl rfl ?_))
          refine Calls.mono (toMove_spec (p := p) (o := o) hX918.pins) ?_
          rintro _ w920 ⟨G919, rfl, hx921⟩
          refine ⟨_, rfl, ?_⟩
          have hX922 := hX918.tr hx921
          refine ⟨fun _ => (Pins.of_le hX922.pins (Pin.le_trans hx917.le hx921.le)), ?_⟩
          refine dr_two (i := 4) (j := 8) (by kernel_rfl) ?_ ?_
          · skip
            refine (drOp1 (i := 4) rfl rfl rfl (want_none rfl _) (o_call (vs := [(.agg [u913, (.bool lf)].toArray), (.agg [(.int .i64 p), (.int .i64 o)].toArray)]) Try.func6 nm6 rfl rfl rfl ?_))
            refine Calls.mono (sPlayMove_spec (lf := lf) (p := p) (o := o) hX922.pins (hr916.mono hx921.le)) ?_
            rintro _ w925 ⟨u923, G924, rfl, hr926, hx927⟩
            refine ⟨_, rfl, ?_⟩
            have hX928 := hX922.tr hx927
            refine ⟨fun _ => (Pins.of_le hX928.pins (Pin.le_trans (Pin.le_trans hx917.le hx921.le) hx927.le)), ?_⟩
            refine dr_take (i := 5) rfl rfl rfl (want_none rfl _) (by kernel_rfl) (fun _ _ => r_move (v := (.tuple #[(.agg [u923, (.bool (plB lf fs p o))].toArray), (.bool (plOk lf fs p o))])) rfl) (Pins.of_le hX928.pins (Pin.le_trans (Pin.le_trans hx917.le hx921.le) hx927.le)) ?_
            refine dr_take (i := 6) rfl rfl rfl (want_none rfl _) (by kernel_rfl) (fun _ _ => r_extract (v := (.agg [u923, (.bool (plB lf fs p o))].toArray)) rfl rfl) (Pins.of_le hX928.pins (Pin.le_trans (Pin.le_trans hx917.le hx921.le) hx927.le)) ?_
            refine dr_take (i := 7) rfl rfl rfl (want_none rfl _) (by kernel_rfl) (fun _ _ => r_extract (v := (.bool (plOk lf fs p o))) rfl rfl) (Pins.of_le hX928.pins (Pin.le_trans (Pin.le_trans hx917.le hx921.le) hx927.le)) ?_
            refine dr_one (i := 8) (by kernel_rfl) (drOp1 (i := 8) rfl rfl rfl (want_none rfl _) (o_alloc [(.slice none 0 0), (.bool false)] zr30 rfl hX928.pins (fun b929 w930 hk931 hb932 hp933 hl934 => ?_)))
            have hX935 := hX928.step hp933 hl934
            have hlo936 : w.heap.size ≤ b929 := by have := hX928.size; omega
            refine ⟨fun _ => (Pins.of_le hX935.pins (Pin.le_trans (Pin.le_trans hx917.le hx921.le) hx927.le)), ?_⟩
            refine dr_one (i := 9) (by kernel_rfl) (drOp0 (i := 9) rfl rfl rfl (want_none rfl _) (o_stp (cs' := [u923, (.bool (plB lf fs p o))]) (us := [u923, (.bool (plB lf fs p o))]) (v := (.agg [u923, (.bool (plB lf fs p o))].toArray)) sz30 rfl rfl rfl (ones2 hr926.one (by rfl)) hX935.pins hb932 (Nat.le_of_ble_eq_true rfl) rfl (fun w937 hb938 hp939 hg940 hz941 => ?_)))
            have hX942 := hX935.write hp939 hg940 ((lo_box hlo936))
            obtain ⟨G943, hle944, hX945, hbp946, hf947⟩ := hb938.shut hX942 hlo936
            refine ⟨fun _ => (Pins.of_le hX945.pins (Pin.le_trans (Pin.le_trans (Pin.le_trans hx917.le hx921.le) hx927.le) hle944)), ?_⟩
            refine dr_take (i := 10) rfl rfl rfl (want_none rfl _) (by kernel_rfl) (fun _ _ => r_assign (v := (.bool (plOk lf fs p o))) rfl) (Pins.of_le hX945.pins (Pin.le_trans (Pin.le_trans (Pin.le_trans hx917.le hx921.le) hx927.le) hle944)) ?_
            refine dr_end (by kernel_rfl) ?_
            exact cut_in ⟨_, b929, u923, G943, (packS (x := 7) (packS (x := 6) (packS (x := 4) (packS (x := 3) (pack1 (x := 2) rfl) rfl) rfl) rfl) rfl), hX945, (Pin.le_trans (Pin.le_trans (Pin.le_trans hx917.le hx921.le) hx927.le) hle944), (hr926.mono hle944), (hbp946.mono (Pin.le_refl _))⟩
          · skip
            refine (drOp1 (i := 8) rfl rfl rfl (want_none rfl _) (o_alloc [(.slice none 0 0), (.bool false)] zr30 rfl hX922.pins (fun b948 w949 hk950 hb951 hp952 hl953 => ?_)))
            have hX954 := hX922.step hp952 hl953
            have hlo955 : w.heap.size ≤ b948 := by have := hX922.size; omega
            refine ⟨fun _ => (Pins.of_le hX954.pins (Pin.le_trans hx917.le hx921.le)), ?_⟩
            refine dr_one (i := 4) (by kernel_rfl) (drOp1 (i := 4) rfl rfl rfl (want_none rfl _) (o_call (vs := [(.agg [u913, (.bool lf)].toArray), (.agg [(.int .i64 p), (.int .i64 o)].toArray)]) Try.func6 nm6 rfl rfl rfl ?_))
            refine Calls.mono (sPlayMove_spec (lf := lf) (p := p) (o := o) hX954.pins (hr916.mono hx921.le)) ?_
            rintro _ w958 ⟨u956, G957, rfl, hr959, hx960⟩
            refine ⟨_, rfl, ?_⟩
            have hX961 := hX954.tr hx960
            have hb962 := hb951.ext hx960
            refine ⟨fun _ => (Pins.of_le hX961.pins (Pin.le_trans (Pin.le_trans hx917.le hx921.le) hx960.le)), ?_⟩
            refine dr_take (i := 5) rfl rfl rfl (want_none rfl _) (by kernel_rfl) (fun _ _ => r_move (v := (.tuple #[(.agg [u956, (.bool (plB lf fs p o))].toArray), (.bool (plOk lf fs p o))])) rfl) (Pins.of_le hX961.pins (Pin.le_trans (Pin.le_trans hx917.le hx921.le) hx960.le)) ?_
            refine dr_take (i := 6) rfl rfl rfl (want_none rfl _) (by kernel_rfl) (fun _ _ => r_extract (v := (.agg [u956, (.bool (plB lf fs p o))].toArray)) rfl rfl) (Pins.of_le hX961.pins (Pin.le_trans (Pin.le_trans hx917.le hx921.le) hx960.le)) ?_
            refine dr_take (i := 7) rfl rfl rfl (want_none rfl _) (by kernel_rfl) (fun _ _ => r_extract (v := (.bool (plOk lf fs p o))) rfl rfl) (Pins.of_le hX961.pins (Pin.le_trans (Pin.le_trans hx917.le hx921.le) hx960.le)) ?_
            refine dr_one (i := 9) (by kernel_rfl) (drOp0 (i := 9) rfl rfl rfl (want_none rfl _) (o_stp (cs' := [u956, (.bool (plB lf fs p o))]) (us := [u956, (.bool (plB lf fs p o))]) (v := (.agg [u956, (.bool (plB lf fs p o))].toArray)) sz30 rfl rfl rfl (ones2 hr959.one (by rfl)) hX961.pins hb962 (Nat.le_of_ble_eq_true rfl) rfl (fun w963 hb964 hp965 hg966 hz967 => ?_)))
            have hX968 := hX961.write hp965 hg966 ((lo_box hlo955))
            obtain ⟨G969, hle970, hX971, hbp972, hf973⟩ := hb964.shut hX968 hlo955
            refine ⟨fun _ => (Pins.of_le hX971.pins (Pin.le_trans (Pin.le_trans (Pin.le_trans hx917.le hx921.le) hx960.le) hle970)), ?_⟩
            refine dr_take (i := 10) rfl rfl rfl (want_none rfl _) (by kernel_rfl) (fun _ _ => r_assign (v := (.bool (plOk lf fs p o))) rfl) (Pins.of_le hX971.pins (Pin.le_trans (Pin.le_trans (Pin.le_trans hx917.le hx921.le) hx960.le) hle970)) ?_
            refine dr_end (by kernel_rfl) ?_
            exact cut_in ⟨_, b948, u956, G969, (packS (x := 7) (packS (x := 6) (packS (x := 4) (packS (x := 3) (pack1 (x := 2) rfl) rfl) rfl) rfl) rfl), hX971, (Pin.le_trans (Pin.le_trans (Pin.le_trans hx917.le hx921.le) hx960.le) hle970), (hr959.mono hle970), (hbp972.mono (Pin.le_refl _))⟩
        · skip
          refine (drOp1 (i := 8) rfl rfl rfl (want_none rfl _) (o_alloc [(.slice none 0 0), (.bool false)] zr30 rfl hX918.pins (fun b974 w975 hk976 hb977 hp978 hl979 => ?_)))
          have hX980 := hX918.step hp978 hl979
          have hlo981 : w.heap.size ≤ b974 := by have := hX918.size; omega
          refine ⟨fun _ => (Pins.of_le hX980.pins hx917.le), ?_⟩
          refine dr_one (i := 3) (by kernel_rfl) (drOp1 (i := 3) rfl rfl rfl (want_none rfl _) (o_call (vs := [(.agg [(.int .i64 p), (.int .i64 o)].toArray)]) Try.func8 nm8 rfl rfl rfl ?_))
          refine Calls.mono (toMove_spec (p := p) (o := o) hX980.pins) ?_
          rintro _ w983 ⟨G982, rfl, hx984⟩
          refine ⟨_, rfl, ?_⟩
          have hX985 := hX980.tr hx984
          have hb986 := hb977.ext hx984
          refine ⟨fun _ => (Pins.of_le hX985.pins (Pin.le_trans hx917.le hx984.le)), ?_⟩
          refine dr_one (i := 4) (by kernel_rfl) (drOp1 (i := 4) rfl rfl rfl (want_none rfl _) (o_call (vs := [(.agg [u913, (.bool lf)].toArray), (.agg [(.int .i64 p), (.int .i64 o)].toArray)]) Try.func6 nm6 rfl rfl rfl ?_))
          refine Calls.mono (sPlayMove_spec (lf := lf) (p := p) (o := o) hX985.pins (hr916.mono hx984.le)) ?_
          rintro _ w989 ⟨u987, G988, rfl, hr990, hx991⟩
          refine ⟨_, rfl, ?_⟩
          have hX992 := hX985.tr hx991
          have hb993 := hb986.ext hx991
          refine ⟨fun _ => (Pins.of_le hX992.pins (Pin.le_trans (Pin.le_trans hx917.le hx984.le) hx991.le)), ?_⟩
          refine dr_take (i := 5) rfl rfl rfl (want_none rfl _) (by kernel_rfl) (fun _ _ => r_move (v := (.tuple #[(.agg [u987, (.bool (plB lf fs p o))].toArray), (.bool (plOk lf fs p o))])) rfl) (Pins.of_le hX992.pins (Pin.le_trans (Pin.le_trans hx917.le hx984.le) hx991.le)) ?_
          refine dr_take (i := 6) rfl rfl rfl (want_none rfl _) (by kernel_rfl) (fun _ _ => r_extract (v := (.agg [u987, (.bool (plB lf fs p o))].toArray)) rfl rfl) (Pins.of_le hX992.pins (Pin.le_trans (Pin.le_trans hx917.le hx984.le) hx991.le)) ?_
          refine dr_take (i := 7) rfl rfl rfl (want_none rfl _) (by kernel_rfl) (fun _ _ => r_extract (v := (.bool (plOk lf fs p o))) rfl rfl) (Pins.of_le hX992.pins (Pin.le_trans (Pin.le_trans hx917.le hx984.le) hx991.le)) ?_
          refine dr_one (i := 9) (by kernel_rfl) (drOp0 (i := 9) rfl rfl rfl (want_none rfl _) (o_stp (cs' := [u987, (.bool (plB lf fs p o))]) (us := [u987, (.bool (plB lf fs p o))]) (v := (.agg [u987, (.bool (plB lf fs p o))].toArray)) sz30 rfl rfl rfl (ones2 hr990.one (by rfl)) hX992.pins hb993 (Nat.le_of_ble_eq_true rfl) rfl (fun w994 hb995 hp996 hg997 hz998 => ?_)))
          have hX999 := hX992.write hp996 hg997 ((lo_box hlo981))
          obtain ⟨G1000, hle1001, hX1002, hbp1003, hf1004⟩ := hb995.shut hX999 hlo981
          refine ⟨fun _ => (Pins.of_le hX1002.pins (Pin.le_trans (Pin.le_trans (Pin.le_trans hx917.le hx984.le) hx991.le) hle1001)), ?_⟩
          refine dr_take (i := 10) rfl rfl rfl (want_none rfl _) (by kernel_rfl) (fun _ _ => r_assign (v := (.bool (plOk lf fs p o))) rfl) (Pins.of_le hX1002.pins (Pin.le_trans (Pin.le_trans (Pin.le_trans hx917.le hx984.le) hx991.le) hle1001)) ?_
          refine dr_end (by kernel_rfl) ?_
          exact cut_in ⟨_, b974, u987, G1000, (packS (x := 7) (packS (x := 6) (packS (x := 4) (packS (x := 3) (pack1 (x := 2) rfl) rfl) rfl) rfl) rfl), hX1002, (Pin.le_trans (Pin.le_trans (Pin.le_trans hx917.le hx984.le) hx991.le) hle1001), (hr990.mono hle1001), (hbp1003.mono (Pin.le_refl _))⟩
      · skip
        refine (drOp1 (i := 8) rfl rfl rfl (want_none rfl _) (o_alloc [(.slice none 0 0), (.bool false)] zr30 rfl hX912.pins (fun b1005 w1006 hk1007 hb1008 hp1009 hl1010 => ?_)))
        have hX1011 := hX912.step hp1009 hl1010
        have hlo1012 : w.heap.size ≤ b1005 := by have := hX912.size; omega
        refine ⟨fun _ => hX1011.pins, ?_⟩
        refine dr_one (i := 1) (by kernel_rfl) (drOp1 (i := 1) rfl rfl rfl (want_none rfl _) (o_call (vs := [(.agg [v, (.bool lf)].toArray)]) Try.func7 nm7 rfl rfl rfl ?_))
        refine Calls.mono (toTable_spec hX1011.pins (hv.mono (Pin.le_trans (Pin.le_trans hle10 hle23) hx31.le)) hsf) ?_
        rintro _ w1015 ⟨u1013, G1014, rfl, hr1016, hx1017⟩
        refine ⟨_, rfl, ?_⟩
        have hX1018 := hX1011.tr hx1017
        have hb1019 := hb1008.ext hx1017
        refine ⟨fun _ => (Pins.of_le hX1018.pins hx1017.le), ?_⟩
        refine dr_one (i := 3) (by kernel_rfl) (drOp1 (i := 3) rfl rfl rfl (want_none rfl _) (o_call (vs := [(.agg [(.int .i64 p), (.int .i64 o)].toArray)]) Try.func8 nm8 rfl rfl rfl ?_))
        refine Calls.mono (toMove_spec (p := p) (o := o) hX1018.pins) ?_
        rintro _ w1021 ⟨G1020, rfl, hx1022⟩
        refine ⟨_, rfl, ?_⟩
        have hX1023 := hX1018.tr hx1022
        have hb1024 := hb1019.ext hx1022
        refine ⟨fun _ => (Pins.of_le hX1023.pins (Pin.le_trans hx1017.le hx1022.le)), ?_⟩
        refine dr_one (i := 4) (by kernel_rfl) (drOp1 (i := 4) rfl rfl rfl (want_none rfl _) (o_call (vs := [(.agg [u1013, (.bool lf)].toArray), (.agg [(.int .i64 p), (.int .i64 o)].toArray)]) Try.func6 nm6 rfl rfl rfl ?_))
        refine Calls.mono (sPlayMove_spec (lf := lf) (p := p) (o := o) hX1023.pins (hr1016.mono hx1022.le)) ?_
        rintro _ w1027 ⟨u1025, G1026, rfl, hr1028, hx1029⟩
        refine ⟨_, rfl, ?_⟩
        have hX1030 := hX1023.tr hx1029
        have hb1031 := hb1024.ext hx1029
        refine ⟨fun _ => (Pins.of_le hX1030.pins (Pin.le_trans (Pin.le_trans hx1017.le hx1022.le) hx1029.le)), ?_⟩
        refine dr_take (i := 5) rfl rfl rfl (want_none rfl _) (by kernel_rfl) (fun _ _ => r_move (v := (.tuple #[(.agg [u1025, (.bool (plB lf fs p o))].toArray), (.bool (plOk lf fs p o))])) rfl) (Pins.of_le hX1030.pins (Pin.le_trans (Pin.le_trans hx1017.le hx1022.le) hx1029.le)) ?_
        refine dr_take (i := 6) rfl rfl rfl (want_none rfl _) (by kernel_rfl) (fun _ _ => r_extract (v := (.agg [u1025, (.bool (plB lf fs p o))].toArray)) rfl rfl) (Pins.of_le hX1030.pins (Pin.le_trans (Pin.le_trans hx1017.le hx1022.le) hx1029.le)) ?_
        refine dr_take (i := 7) rfl rfl rfl (want_none rfl _) (by kernel_rfl) (fun _ _ => r_extract (v := (.bool (plOk lf fs p o))) rfl rfl) (Pins.of_le hX1030.pins (Pin.le_trans (Pin.le_trans hx1017.le hx1022.le) hx1029.le)) ?_
        refine dr_one (i := 9) (by kernel_rfl) (drOp0 (i := 9) rfl rfl rfl (want_none rfl _) (o_stp (cs' := [u1025, (.bool (plB lf fs p o))]) (us := [u1025, (.bool (plB lf fs p o))]) (v := (.agg [u1025, (.bool (plB lf fs p o))].toArray)) sz30 rfl rfl rfl (ones2 hr1028.one (by rfl)) hX1030.pins hb1031 (Nat.le_of_ble_eq_true rfl) rfl (fun w1032 hb1033 hp1034 hg1035 hz1036 => ?_)))
        have hX1037 := hX1030.write hp1034 hg1035 ((lo_box hlo1012))
        obtain ⟨G1038, hle1039, hX1040, hbp1041, hf1042⟩ := hb1033.shut hX1037 hlo1012
        refine ⟨fun _ => (Pins.of_le hX1040.pins (Pin.le_trans (Pin.le_trans (Pin.le_trans hx1017.le hx1022.le) hx1029.le) hle1039)), ?_⟩
        refine dr_take (i := 10) rfl rfl rfl (want_none rfl _) (by kernel_rfl) (fun _ _ => r_assign (v := (.bool (plOk lf fs p o))) rfl) (Pins.of_le hX1040.pins (Pin.le_trans (Pin.le_trans (Pin.le_trans hx1017.le hx1022.le) hx1029.le) hle1039)) ?_
        refine dr_end (by kernel_rfl) ?_
        exact cut_in ⟨_, b1005, u1025, G1038, (packS (x := 7) (packS (x := 6) (packS (x := 4) (packS (x := 3) (pack1 (x := 2) rfl) rfl) rfl) rfl) rfl), hX1040, (Pin.le_trans (Pin.le_trans (Pin.le_trans hx1017.le hx1022.le) hx1029.le) hle1039), (hr1028.mono hle1039), (hbp1041.mono (Pin.le_refl _))⟩

end Z1
end Go.Proofs.Ytphmcmkpcjlkfaa
