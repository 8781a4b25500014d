/- Walks, printed by a program (walkgen.py) from the spec specs_pf. -/
import Derived.Test.YtndhhpaldhlghaaDoorChecked
import Derived.Test.YtndhhpaldhlghaaDoorRow
import Derived.Test.YtndhhpaldhlghaaDoorLoad
import Derived.Test.YtndhhpaldhlghaaDoorShelf
import Derived.Test.YtndhhpaldhlghaaDoorB1
import Derived.Test.YtndhhpaldhlghaaDoorK1
import Derived.Test.YtndhhpaldhlghaaDoorPO1
import Derived.Test.YtndhhpaldhlghaaDoorPL1
set_option maxRecDepth 20000
set_option maxHeartbeats 2000000
namespace Go.Proofs.YtndhhpaldhlghaaDoor
namespace PF1
open Go.RowKit Go.GL Go.Proofs
open Go.Proofs.YtndhhpaldhlghaaDoor.B1
open Go.Proofs.YtndhhpaldhlghaaDoor.K1
open Go.Proofs.YtndhhpaldhlghaaDoor.PO1
open Go.Proofs.YtndhhpaldhlghaaDoor.PL1
theorem ag30 : (Tryd.prog.underlying 30).map aggD = some true := by kernel_rfl
theorem nm17 : (Tryd.f17.name == "runtime.NumGoroutine") = false := by kernel_rfl
theorem nm36 : (Tryd.f36.name == "runtime.NumGoroutine") = false := by kernel_rfl
theorem nm37 : (Tryd.f37.name == "runtime.NumGoroutine") = false := by kernel_rfl
theorem nm38 : (Tryd.f38.name == "runtime.NumGoroutine") = false := by kernel_rfl
theorem nm39 : (Tryd.f39.name == "runtime.NumGoroutine") = false := by kernel_rfl
theorem nm43 : (Tryd.f43.name == "runtime.NumGoroutine") = false := by kernel_rfl
theorem sz30 : (Tryd.prog.info? 30).map (·.size) = some 1 := by kernel_rfl

theorem iAtLeast_spec {w : World} {G : Pin} {u v : Value} {ax bs : List Nd} (hP : Pins G w) (hu : RSl eNode G u ax) (hv : RSl eNode G v bs) :
    Calls Tryd.prog 12 [(.agg [u].toArray), (.agg [v].toArray)].toArray w fun e w' => ∃ G', e = .returned (.tuple #[.bool (alB ax bs), .bool (goodB ax && goodB bs)]) ∧ Ext noS G w G' w' := by
  refine s_enter (n := 24) Tryd.func12 Tryd.ntmps12 rfl rfl ?_
  have hX0 : Ext noS G w G w := Ext.refl hP
  refine s_seq ?_
  refine c_reg ?_
  refine q1 rfl rfl rfl (o_box [u] (v := (.agg [u].toArray)) rfl rfl hX0.pins (fun b1 w2 hk3 hb4 hp5 hl6 => ?_))
  have hX7 := hX0.step hp5 hl6
  have hlo8 : w.heap.size ≤ b1 := by have := hX0.size; omega
  obtain ⟨G9, hle10, hX11, hbp12, hf13⟩ := hb4.shut hX7 hlo8
  refine q1 rfl rfl rfl (o_box [v] (v := (.agg [v].toArray)) rfl rfl hX11.pins (fun b14 w15 hk16 hb17 hp18 hl19 => ?_))
  have hX20 := hX11.step hp18 hl19
  have hlo21 : w.heap.size ≤ b14 := by have := hX11.size; omega
  obtain ⟨G22, hle23, hX24, hbp25, hf26⟩ := hb17.shut hX20 hlo21
  refine qd rfl rfl rfl (r_assign (v := (.bool false)) rfl) ?_
  refine qd rfl rfl rfl (r_assign (v := (.bool false)) rfl) ?_
  refine qe ?_
  refine s_then ?_
  refine s_seq ?_
  refine s_seq ?_
  refine c_reg ?_
  refine qd rfl rfl rfl (r_ldpA (cs := [u]) ag30 sz30 rfl (fun j u hj => (Pins.of_le hX24.pins hle23) _ _ _ (hbp12 _ _ (by simpa using hj)))) ?_
  refine q1 rfl rfl rfl (o_call (vs := [(.agg [u].toArray)]) Tryd.func36 nm36 rfl rfl rfl ?_)
  refine Calls.mono (goodForm_spec hX24.pins (hu.mono (Pin.le_trans hle10 hle23))) ?_
  rintro _ w28 ⟨G27, rfl, hx29⟩
  refine ⟨_, rfl, ?_⟩
  have hX30 := hX24.tr hx29
  refine qd rfl rfl rfl (r_not rfl) ?_
  refine qd rfl rfl rfl (r_move (v := (.bool (!(goodB ax)))) rfl) ?_
  refine qbn (t := 10) rfl (fun h31 => ?_) (fun h31 => ?_)
  · skip
    refine qdg rfl rfl rfl rfl rfl rfl (r_ldpA (cs := [v]) ag30 sz30 rfl (fun j u hj => (Pins.of_le hX30.pins hx29.le) _ _ _ (hbp25 _ _ (by simpa using hj)))) ?_
    refine q1g rfl rfl rfl rfl rfl rfl (o_call (vs := [(.agg [v].toArray)]) Tryd.func36 nm36 rfl rfl rfl ?_)
    refine Calls.mono (goodForm_spec hX30.pins (hv.mono (Pin.le_trans (Pin.le_trans hle10 hle23) hx29.le))) ?_
    rintro _ w33 ⟨G32, rfl, hx34⟩
    refine ⟨_, rfl, ?_⟩
    have hX35 := hX30.tr hx34
    refine qdg rfl rfl rfl rfl rfl rfl (r_not rfl) ?_
    refine qd rfl rfl rfl (r_pickF (v := (.bool (!(goodB bs)))) rfl rfl) ?_
    refine qe ?_
    refine s_then ?_
    refine c_ifn rfl rfl (fun h36 => ?_) (fun h36 => ?_)
    · skip
      refine wp_skip ?_
      refine s_then ?_
      refine s_seq ?_
      refine c_reg ?_
      have hga : GoodP ax := goodB_true.1 h31
      have hgb : GoodP bs := goodB_true.1 h36
      have hla := hga.lo
      have hlb := hgb.lo
      have hha := hga.hi
      have hhb := hgb.hi
      refine q1 rfl rfl rfl (o_call (vs := []) Tryd.func37 nm37 rfl rfl rfl ?_)
      refine Calls.mono (newPool_spec hX35.pins) ?_
      rintro _ w40 ⟨p37, mm38, G39, rfl, hpk41, hfr42, hx43⟩
      refine ⟨_, rfl, ?_⟩
      have hX47 := hX35.tr hx43
      have hpin48 : PIn w (noS) p37 (.slice none 0 0) (.slice none 0 0) (.slice none 0 0) mm38 := PIn.fresh hfr42 hX35.size
      obtain ⟨q44, hq45⟩ : ∃ q, q = (⟨[], [], [], [], [], [], []⟩ : PSt) := ⟨_, rfl⟩
      rw [← hq45] at hpk41
      have hok46 : PoolOk q44 := by rw [hq45]; exact PoolOk.empty
      have hq45l : q44.ns.length = 0 := by rw [hq45]; rfl
      obtain ⟨L49, R50, B51, eL49, eR50, eB51⟩ : ∃ (l r b : Value), l = .slice none 0 0 ∧ r = .slice none 0 0 ∧ b = .slice none 0 0 := ⟨_, _, _, rfl, rfl, rfl⟩
      have hpk412 : Pk 38 3 G39 w40 p37 L49 R50 B51 mm38 q44 := by rw [eL49, eR50, eB51]; exact hpk41
      have hpin482 : PIn w (noS) p37 L49 R50 B51 mm38 := by rw [eL49, eR50, eB51]; exact hpin48
      have hml52 : (q44.ns.map Nd.l).length = q44.ns.length ∧ (q44.ns.map Nd.r).length = q44.ns.length := ⟨List.length_map .., List.length_map ..⟩
      have hml53 : q44.bs.length = q44.ns.length ∧ q44.ns.length ≤ 1048576 := ⟨hok46.ar.ok.len, hok46.ar.ok.lim⟩
      refine qd rfl rfl rfl (r_assign (v := (.pointer (some ⟨p37, 0, none⟩))) rfl) ?_
      refine qe ?_
      refine s_then ?_
      refine s_seq ?_
      refine c_draw (S := fun wz => Pins G39 wz) (last := 10) (by kernel_rfl) rfl ?_
      have hl54 : Below w40.heap.size w40 w40.drew := (Below.refl _ _).drew
      have hp55 := hX47.pins.below hl54
      have hX56 := hX47.step hp55 hl54
      have hpk57 := hpk412.below hl54 hp55
      refine dr_take (i := 0) rfl rfl rfl (want_none rfl _) (by kernel_rfl) (fun _ _ => r_move (v := (.pointer (some ⟨p37, 0, none⟩))) rfl) hX56.pins ?_
      refine dr_take (i := 1) rfl rfl rfl (want_none rfl _) (by kernel_rfl) (fun _ _ => r_move (v := (.pointer (some ⟨p37, 0, none⟩))) rfl) hX56.pins ?_
      refine dr_take (i := 2) rfl rfl rfl (want_none rfl _) (by kernel_rfl) (fun _ hS => r_ldpA (cs := [u]) ag30 sz30 rfl (fun j u hj => (Pins.of_le hS (Pin.le_trans (Pin.le_trans (Pin.le_trans hle23 hx29.le) hx34.le) hx43.le)) _ _ _ (hbp12 _ _ (by simpa using hj)))) hX56.pins ?_
      refine dr_take (i := 4) rfl rfl rfl (want_none rfl _) (by kernel_rfl) (fun _ _ => r_move (v := (.pointer (some ⟨p37, 0, none⟩))) rfl) hX56.pins ?_
      refine dr_take (i := 5) rfl rfl rfl (want_none rfl _) (by kernel_rfl) (fun _ hS => r_ldpA (cs := [v]) ag30 sz30 rfl (fun j u hj => (Pins.of_le hS (Pin.le_trans (Pin.le_trans hx29.le hx34.le) hx43.le)) _ _ _ (hbp25 _ _ (by simpa using hj)))) hX56.pins ?_
      refine dr_one (i := 3) (by kernel_rfl) (drOp1 (i := 3) rfl rfl rfl (want_none rfl _) (o_call (vs := [(.pointer (some ⟨p37, 0, none⟩)), (.agg [u].toArray)]) Tryd.func39 nm39 rfl rfl rfl ?_))
      refine Calls.mono (root_spec hX56.pins hpk57 hok46 (hu.mono (Pin.le_trans (Pin.le_trans (Pin.le_trans (Pin.le_trans hle10 hle23) hx29.le) hx34.le) hx43.le)) (good_form hga) (by omega) hla) ?_
      rintro _ w67 ⟨z58, L62, R63, B64, q65, G66, rfl, hpk68, hok69, hpx70, hlo71, hx72, hpl59, hpd60, hqn61⟩
      refine ⟨_, rfl, ?_⟩
      have hX73 := hX56.trans hx72 hpin482
      have hpin74 := PIn.call hpin482 hlo71 hX56.size
      have hql75 := hpx70.len
      have hml76 : (q65.ns.map Nd.l).length = q65.ns.length ∧ (q65.ns.map Nd.r).length = q65.ns.length := ⟨List.length_map .., List.length_map ..⟩
      have hml77 : q65.bs.length = q65.ns.length ∧ q65.ns.length ≤ 1048576 := ⟨hok69.ar.ok.len, hok69.ar.ok.lim⟩
      refine ⟨fun _ => (Pins.of_le hX73.pins hx72.le), ?_⟩
      refine dr_one (i := 6) (by kernel_rfl) (drOp1 (i := 6) rfl rfl rfl (want_none rfl _) (o_call (vs := [(.pointer (some ⟨p37, 0, none⟩)), (.agg [v].toArray)]) Tryd.func39 nm39 rfl rfl rfl ?_))
      refine Calls.mono (root_spec hX73.pins hpk68 hok69 (hv.mono (Pin.le_trans (Pin.le_trans (Pin.le_trans (Pin.le_trans (Pin.le_trans hle10 hle23) hx29.le) hx34.le) hx43.le) hx72.le)) (good_form hgb) (by omega) hlb) ?_
      rintro _ w87 ⟨z78, L82, R83, B84, q85, G86, rfl, hpk88, hok89, hpx90, hlo91, hx92, hpl79, hpd80, hqn81⟩
      refine ⟨_, rfl, ?_⟩
      have hX93 := hX73.trans hx92 hpin74
      have hpin94 := PIn.call hpin74 hlo91 hX73.size
      have hql95 := hpx90.len
      have hml96 : (q85.ns.map Nd.l).length = q85.ns.length ∧ (q85.ns.map Nd.r).length = q85.ns.length := ⟨List.length_map .., List.length_map ..⟩
      have hml97 : q85.bs.length = q85.ns.length ∧ q85.ns.length ≤ 1048576 := ⟨hok89.ar.ok.len, hok89.ar.ok.lim⟩
      refine ⟨fun _ => (Pins.of_le hX93.pins (Pin.le_trans hx72.le hx92.le)), ?_⟩
      refine dr_one (i := 7) (by kernel_rfl) (drOp1 (i := 7) rfl rfl rfl (want_none rfl _) (o_call (vs := [(.pointer (some ⟨p37, 0, none⟩)), (.int .i64 z58), (.int .i64 z78)]) Tryd.func38 nm38 rfl rfl rfl ?_))
      refine Calls.mono (ge_spec hX93.pins hpk88 hok89 (hpx90.place hpl59) hpl79) ?_
      rintro _ w100 ⟨q98, G99, rfl, hpk101, hok102, hpx103, hqn104, hx105⟩
      refine ⟨_, rfl, ?_⟩
      have hX106 := hX93.trans hx105 (fun i hi => (PIn.o hpin94) i hi)
      have hql107 := hpx103.len
      have hml108 : (q98.ns.map Nd.l).length = q98.ns.length ∧ (q98.ns.map Nd.r).length = q98.ns.length := ⟨List.length_map .., List.length_map ..⟩
      have hml109 : q98.bs.length = q98.ns.length ∧ q98.ns.length ≤ 1048576 := ⟨hok102.ar.ok.len, hok102.ar.ok.lim⟩
      have hql110 := congrArg List.length hqn104.1
      refine ⟨fun _ => (Pins.of_le hX106.pins (Pin.le_trans (Pin.le_trans hx72.le hx92.le) hx105.le)), ?_⟩
      refine dr_take (i := 8) rfl rfl rfl (want_none rfl _) (by kernel_rfl) (fun _ _ => r_assign (v := (.bool (geB q85.ns z58 z78))) rfl) (Pins.of_le hX106.pins (Pin.le_trans (Pin.le_trans hx72.le hx92.le) hx105.le)) ?_
      refine dr_take (i := 9) rfl rfl rfl (want_none rfl _) (by kernel_rfl) (fun _ _ => r_assign (v := (.bool true)) rfl) (Pins.of_le hX106.pins (Pin.le_trans (Pin.le_trans hx72.le hx92.le) hx105.le)) ?_
      refine dr_end (by kernel_rfl) ?_
      refine s_then ?_
      refine wp_ret ?_
      refine s_ret ?_
      refine c_ret2 (v := (.bool (geB q85.ns z58 z78))) (u := (.bool true)) rfl rfl rfl rfl rfl ?_
      have hr1 := (hpx90.pd hok69 hok89 hpl59).trans hpd60
      have hr2 := hpd80
      obtain ⟨e1, e2⟩ := alB_good hga hgb
      rw [e1, e2]
      exact ⟨_, congrArg (fun z => Ending.returned (Value.tuple #[Value.bool z, Value.bool true])) (geB_roots hr1 hr2), hX106⟩
    refine s_seq ?_
    refine c_reg ?_
    refine qd rfl rfl rfl (r_assign (v := (.bool false)) rfl) ?_
    refine qd rfl rfl rfl (r_assign (v := (.bool false)) rfl) ?_
    refine qe ?_
    refine s_then ?_
    refine wp_ret ?_
    refine s_ret ?_
    refine c_ret2 (v := (.bool false)) (u := (.bool false)) rfl rfl rfl rfl rfl ?_
    obtain ⟨e1, e2⟩ := alB_bad (Or.inr h36)
    rw [e1, e2]
    exact ⟨_, rfl, hX35⟩
  refine qs rfl rfl rfl rfl rfl rfl ?_
  refine qs rfl rfl rfl rfl rfl rfl ?_
  refine qs rfl rfl rfl rfl rfl rfl ?_
  refine qd rfl rfl rfl (r_pickT (v := (.bool true)) rfl rfl) ?_
  refine qe ?_
  refine s_then ?_
  refine c_ifT rfl rfl ?_
  refine s_seq ?_
  refine c_reg ?_
  refine qd rfl rfl rfl (r_assign (v := (.bool false)) rfl) ?_
  refine qd rfl rfl rfl (r_assign (v := (.bool false)) rfl) ?_
  refine qe ?_
  refine s_then ?_
  refine wp_ret ?_
  refine s_ret ?_
  refine c_ret2 (v := (.bool false)) (u := (.bool false)) rfl rfl rfl rfl rfl ?_
  obtain ⟨e1, e2⟩ := alB_bad (Or.inl h31)
  rw [e1, e2]
  exact ⟨_, rfl, hX30⟩

theorem iCompareForms_spec {w : World} {G : Pin} {u v : Value} {ax bs : List Nd} (hP : Pins G w) (hu : RSl eNode G u ax) (hv : RSl eNode G v bs) :
    Calls Tryd.prog 17 [(.agg [u].toArray), (.agg [v].toArray)].toArray w fun e w' => ∃ G', e = .returned (.tuple #[.int .i64 (cfI ax bs), .bool (goodB ax && goodB bs)]) ∧ Ext noS G w G' w' := by
  refine s_enter (n := 24) Tryd.func17 Tryd.ntmps17 rfl rfl ?_
  have hX0 : Ext noS G w G w := Ext.refl hP
  refine s_seq ?_
  refine c_reg ?_
  refine q1 rfl rfl rfl (o_box [u] (v := (.agg [u].toArray)) rfl rfl hX0.pins (fun b1 w2 hk3 hb4 hp5 hl6 => ?_))
  have hX7 := hX0.step hp5 hl6
  have hlo8 : w.heap.size ≤ b1 := by have := hX0.size; omega
  obtain ⟨G9, hle10, hX11, hbp12, hf13⟩ := hb4.shut hX7 hlo8
  refine q1 rfl rfl rfl (o_box [v] (v := (.agg [v].toArray)) rfl rfl hX11.pins (fun b14 w15 hk16 hb17 hp18 hl19 => ?_))
  have hX20 := hX11.step hp18 hl19
  have hlo21 : w.heap.size ≤ b14 := by have := hX11.size; omega
  obtain ⟨G22, hle23, hX24, hbp25, hf26⟩ := hb17.shut hX20 hlo21
  refine qd rfl rfl rfl (r_assign (v := (.int .i64 0)) rfl) ?_
  refine qd rfl rfl rfl (r_assign (v := (.bool false)) rfl) ?_
  refine qe ?_
  refine s_then ?_
  refine s_seq ?_
  refine s_seq ?_
  refine c_reg ?_
  refine qd rfl rfl rfl (r_ldpA (cs := [u]) ag30 sz30 rfl (fun j u hj => (Pins.of_le hX24.pins hle23) _ _ _ (hbp12 _ _ (by simpa using hj)))) ?_
  refine q1 rfl rfl rfl (o_call (vs := [(.agg [u].toArray)]) Tryd.func36 nm36 rfl rfl rfl ?_)
  refine Calls.mono (goodForm_spec hX24.pins (hu.mono (Pin.le_trans hle10 hle23))) ?_
  rintro _ w28 ⟨G27, rfl, hx29⟩
  refine ⟨_, rfl, ?_⟩
  have hX30 := hX24.tr hx29
  refine qd rfl rfl rfl (r_not rfl) ?_
  refine qd rfl rfl rfl (r_move (v := (.bool (!(goodB ax)))) rfl) ?_
  refine qbn (t := 10) rfl (fun h31 => ?_) (fun h31 => ?_)
  · skip
    refine qdg rfl rfl rfl rfl rfl rfl (r_ldpA (cs := [v]) ag30 sz30 rfl (fun j u hj => (Pins.of_le hX30.pins hx29.le) _ _ _ (hbp25 _ _ (by simpa using hj)))) ?_
    refine q1g rfl rfl rfl rfl rfl rfl (o_call (vs := [(.agg [v].toArray)]) Tryd.func36 nm36 rfl rfl rfl ?_)
    refine Calls.mono (goodForm_spec hX30.pins (hv.mono (Pin.le_trans (Pin.le_trans hle10 hle23) hx29.le))) ?_
    rintro _ w33 ⟨G32, rfl, hx34⟩
    refine ⟨_, rfl, ?_⟩
    have hX35 := hX30.tr hx34
    refine qdg rfl rfl rfl rfl rfl rfl (r_not rfl) ?_
    refine qd rfl rfl rfl (r_pickF (v := (.bool (!(goodB bs)))) rfl rfl) ?_
    refine qe ?_
    refine s_then ?_
    refine c_ifn rfl rfl (fun h36 => ?_) (fun h36 => ?_)
    · skip
      refine wp_skip ?_
      refine s_then ?_
      refine s_seq ?_
      refine c_reg ?_
      have hga : GoodP ax := goodB_true.1 h31
      have hgb : GoodP bs := goodB_true.1 h36
      have hla := hga.lo
      have hlb := hgb.lo
      have hha := hga.hi
      have hhb := hgb.hi
      refine q1 rfl rfl rfl (o_call (vs := []) Tryd.func37 nm37 rfl rfl rfl ?_)
      refine Calls.mono (newPool_spec hX35.pins) ?_
      rintro _ w40 ⟨p37, mm38, G39, rfl, hpk41, hfr42, hx43⟩
      refine ⟨_, rfl, ?_⟩
      have hX47 := hX35.tr hx43
      have hpin48 : PIn w (noS) p37 (.slice none 0 0) (.slice none 0 0) (.slice none 0 0) mm38 := PIn.fresh hfr42 hX35.size
      obtain ⟨q44, hq45⟩ : ∃ q, q = (⟨[], [], [], [], [], [], []⟩ : PSt) := ⟨_, rfl⟩
      rw [← hq45] at hpk41
      have hok46 : PoolOk q44 := by rw [hq45]; exact PoolOk.empty
      have hq45l : q44.ns.length = 0 := by rw [hq45]; rfl
      obtain ⟨L49, R50, B51, eL49, eR50, eB51⟩ : ∃ (l r b : Value), l = .slice none 0 0 ∧ r = .slice none 0 0 ∧ b = .slice none 0 0 := ⟨_, _, _, rfl, rfl, rfl⟩
      have hpk412 : Pk 38 3 G39 w40 p37 L49 R50 B51 mm38 q44 := by rw [eL49, eR50, eB51]; exact hpk41
      have hpin482 : PIn w (noS) p37 L49 R50 B51 mm38 := by rw [eL49, eR50, eB51]; exact hpin48
      have hml52 : (q44.ns.map Nd.l).length = q44.ns.length ∧ (q44.ns.map Nd.r).length = q44.ns.length := ⟨List.length_map .., List.length_map ..⟩
      have hml53 : q44.bs.length = q44.ns.length ∧ q44.ns.length ≤ 1048576 := ⟨hok46.ar.ok.len, hok46.ar.ok.lim⟩
      refine qd rfl rfl rfl (r_assign (v := (.pointer (some ⟨p37, 0, none⟩))) rfl) ?_
      refine qe ?_
      refine s_then ?_
      refine s_seq ?_
      refine c_draw (S := fun wz => Pins G39 wz) (last := 10) (by kernel_rfl) rfl ?_
      have hl54 : Below w40.heap.size w40 w40.drew := (Below.refl _ _).drew
      have hp55 := hX47.pins.below hl54
      have hX56 := hX47.step hp55 hl54
      have hpk57 := hpk412.below hl54 hp55
      refine dr_take (i := 0) rfl rfl rfl (want_none rfl _) (by kernel_rfl) (fun _ _ => r_move (v := (.pointer (some ⟨p37, 0, none⟩))) rfl) hX56.pins ?_
      refine dr_take (i := 1) rfl rfl rfl (want_none rfl _) (by kernel_rfl) (fun _ _ => r_move (v := (.pointer (some ⟨p37, 0, none⟩))) rfl) hX56.pins ?_
      refine dr_take (i := 2) rfl rfl rfl (want_none rfl _) (by kernel_rfl) (fun _ hS => r_ldpA (cs := [u]) ag30 sz30 rfl (fun j u hj => (Pins.of_le hS (Pin.le_trans (Pin.le_trans (Pin.le_trans hle23 hx29.le) hx34.le) hx43.le)) _ _ _ (hbp12 _ _ (by simpa using hj)))) hX56.pins ?_
      refine dr_take (i := 4) rfl rfl rfl (want_none rfl _) (by kernel_rfl) (fun _ _ => r_move (v := (.pointer (some ⟨p37, 0, none⟩))) rfl) hX56.pins ?_
      refine dr_take (i := 5) rfl rfl rfl (want_none rfl _) (by kernel_rfl) (fun _ hS => r_ldpA (cs := [v]) ag30 sz30 rfl (fun j u hj => (Pins.of_le hS (Pin.le_trans (Pin.le_trans hx29.le hx34.le) hx43.le)) _ _ _ (hbp25 _ _ (by simpa using hj)))) hX56.pins ?_
      refine dr_one (i := 3) (by kernel_rfl) (drOp1 (i := 3) rfl rfl rfl (want_none rfl _) (o_call (vs := [(.pointer (some ⟨p37, 0, none⟩)), (.agg [u].toArray)]) Tryd.func39 nm39 rfl rfl rfl ?_))
      refine Calls.mono (root_spec hX56.pins hpk57 hok46 (hu.mono (Pin.le_trans (Pin.le_trans (Pin.le_trans (Pin.le_trans hle10 hle23) hx29.le) hx34.le) hx43.le)) (good_form hga) (by omega) hla) ?_
      rintro _ w67 ⟨z58, L62, R63, B64, q65, G66, rfl, hpk68, hok69, hpx70, hlo71, hx72, hpl59, hpd60, hqn61⟩
      refine ⟨_, rfl, ?_⟩
      have hX73 := hX56.trans hx72 hpin482
      have hpin74 := PIn.call hpin482 hlo71 hX56.size
      have hql75 := hpx70.len
      have hml76 : (q65.ns.map Nd.l).length = q65.ns.length ∧ (q65.ns.map Nd.r).length = q65.ns.length := ⟨List.length_map .., List.length_map ..⟩
      have hml77 : q65.bs.length = q65.ns.length ∧ q65.ns.length ≤ 1048576 := ⟨hok69.ar.ok.len, hok69.ar.ok.lim⟩
      refine ⟨fun _ => (Pins.of_le hX73.pins hx72.le), ?_⟩
      refine dr_one (i := 6) (by kernel_rfl) (drOp1 (i := 6) rfl rfl rfl (want_none rfl _) (o_call (vs := [(.pointer (some ⟨p37, 0, none⟩)), (.agg [v].toArray)]) Tryd.func39 nm39 rfl rfl rfl ?_))
      refine Calls.mono (root_spec hX73.pins hpk68 hok69 (hv.mono (Pin.le_trans (Pin.le_trans (Pin.le_trans (Pin.le_trans (Pin.le_trans hle10 hle23) hx29.le) hx34.le) hx43.le) hx72.le)) (good_form hgb) (by omega) hlb) ?_
      rintro _ w87 ⟨z78, L82, R83, B84, q85, G86, rfl, hpk88, hok89, hpx90, hlo91, hx92, hpl79, hpd80, hqn81⟩
      refine ⟨_, rfl, ?_⟩
      have hX93 := hX73.trans hx92 hpin74
      have hpin94 := PIn.call hpin74 hlo91 hX73.size
      have hql95 := hpx90.len
      have hml96 : (q85.ns.map Nd.l).length = q85.ns.length ∧ (q85.ns.map Nd.r).length = q85.ns.length := ⟨List.length_map .., List.length_map ..⟩
      have hml97 : q85.bs.length = q85.ns.length ∧ q85.ns.length ≤ 1048576 := ⟨hok89.ar.ok.len, hok89.ar.ok.lim⟩
      refine ⟨fun _ => (Pins.of_le hX93.pins (Pin.le_trans hx72.le hx92.le)), ?_⟩
      refine dr_one (i := 7) (by kernel_rfl) (drOp1 (i := 7) rfl rfl rfl (want_none rfl _) (o_call (vs := [(.pointer (some ⟨p37, 0, none⟩)), (.int .i64 z58), (.int .i64 z78)]) Tryd.func43 nm43 rfl rfl rfl ?_))
      refine Calls.mono (outcome_spec hX93.pins hpk88 hok89 (hpx90.place hpl59) hpl79) ?_
      rintro _ w100 ⟨q98, G99, rfl, hpk101, hok102, hpx103, hqn104, hx105⟩
      refine ⟨_, rfl, ?_⟩
      have hX106 := hX93.trans hx105 (fun i hi => (PIn.o hpin94) i hi)
      have hql107 := hpx103.len
      have hml108 : (q98.ns.map Nd.l).length = q98.ns.length ∧ (q98.ns.map Nd.r).length = q98.ns.length := ⟨List.length_map .., List.length_map ..⟩
      have hml109 : q98.bs.length = q98.ns.length ∧ q98.ns.length ≤ 1048576 := ⟨hok102.ar.ok.len, hok102.ar.ok.lim⟩
      have hql110 := congrArg List.length hqn104.1
      refine ⟨fun _ => (Pins.of_le hX106.pins (Pin.le_trans (Pin.le_trans hx72.le hx92.le) hx105.le)), ?_⟩
      refine dr_take (i := 8) rfl rfl rfl (want_none rfl _) (by kernel_rfl) (fun _ _ => r_assign (v := (.int .i64 (codeI (geB q85.ns z58 z78) (geB q85.ns z78 z58)))) rfl) (Pins.of_le hX106.pins (Pin.le_trans (Pin.le_trans hx72.le hx92.le) hx105.le)) ?_
      refine dr_take (i := 9) rfl rfl rfl (want_none rfl _) (by kernel_rfl) (fun _ _ => r_assign (v := (.bool true)) rfl) (Pins.of_le hX106.pins (Pin.le_trans (Pin.le_trans hx72.le hx92.le) hx105.le)) ?_
      refine dr_end (by kernel_rfl) ?_
      refine s_then ?_
      refine wp_ret ?_
      refine s_ret ?_
      refine c_ret2 (v := (.int .i64 (codeI (geB q85.ns z58 z78) (geB q85.ns z78 z58)))) (u := (.bool true)) rfl rfl rfl rfl rfl ?_
      have hr1 := (hpx90.pd hok69 hok89 hpl59).trans hpd60
      have hr2 := hpd80
      obtain ⟨e1, e2⟩ := cfI_good hga hgb
      rw [e1, e2]
      exact ⟨_, congrArg (fun z => Ending.returned (Value.tuple #[Value.int .i64 z, Value.bool true])) (by rw [geB_roots hr1 hr2, geB_roots hr2 hr1]), hX106⟩
    refine s_seq ?_
    refine c_reg ?_
    refine qd rfl rfl rfl (r_assign (v := (.int .i64 0)) rfl) ?_
    refine qd rfl rfl rfl (r_assign (v := (.bool false)) rfl) ?_
    refine qe ?_
    refine s_then ?_
    refine wp_ret ?_
    refine s_ret ?_
    refine c_ret2 (v := (.int .i64 0)) (u := (.bool false)) rfl rfl rfl rfl rfl ?_
    obtain ⟨e1, e2⟩ := cfI_bad (Or.inr h36)
    rw [e1, e2]
    exact ⟨_, rfl, hX35⟩
  refine qs rfl rfl rfl rfl rfl rfl ?_
  refine qs rfl rfl rfl rfl rfl rfl ?_
  refine qs rfl rfl rfl rfl rfl rfl ?_
  refine qd rfl rfl rfl (r_pickT (v := (.bool true)) rfl rfl) ?_
  refine qe ?_
  refine s_then ?_
  refine c_ifT rfl rfl ?_
  refine s_seq ?_
  refine c_reg ?_
  refine qd rfl rfl rfl (r_assign (v := (.int .i64 0)) rfl) ?_
  refine qd rfl rfl rfl (r_assign (v := (.bool false)) rfl) ?_
  refine qe ?_
  refine s_then ?_
  refine wp_ret ?_
  refine s_ret ?_
  refine c_ret2 (v := (.int .i64 0)) (u := (.bool false)) rfl rfl rfl rfl rfl ?_
  obtain ⟨e1, e2⟩ := cfI_bad (Or.inl h31)
  rw [e1, e2]
  exact ⟨_, rfl, hX30⟩

theorem iEqualForms_spec {w : World} {G : Pin} {u v : Value} {ax bs : List Nd} (hP : Pins G w) (hu : RSl eNode G u ax) (hv : RSl eNode G v bs) :
    Calls Tryd.prog 15 [(.agg [u].toArray), (.agg [v].toArray)].toArray w fun e w' => ∃ G', e = .returned (.tuple #[.bool (efB ax bs), .bool (goodB ax && goodB bs)]) ∧ Ext noS G w G' w' := by
  refine s_enter (n := 17) Tryd.func15 Tryd.ntmps15 rfl rfl ?_
  have hX0 : Ext noS G w G w := Ext.refl hP
  refine s_seq ?_
  refine c_reg ?_
  refine q1 rfl rfl rfl (o_box [u] (v := (.agg [u].toArray)) rfl rfl hX0.pins (fun b1 w2 hk3 hb4 hp5 hl6 => ?_))
  have hX7 := hX0.step hp5 hl6
  have hlo8 : w.heap.size ≤ b1 := by have := hX0.size; omega
  obtain ⟨G9, hle10, hX11, hbp12, hf13⟩ := hb4.shut hX7 hlo8
  refine q1 rfl rfl rfl (o_box [v] (v := (.agg [v].toArray)) rfl rfl hX11.pins (fun b14 w15 hk16 hb17 hp18 hl19 => ?_))
  have hX20 := hX11.step hp18 hl19
  have hlo21 : w.heap.size ≤ b14 := by have := hX11.size; omega
  obtain ⟨G22, hle23, hX24, hbp25, hf26⟩ := hb17.shut hX20 hlo21
  refine qd rfl rfl rfl (r_assign (v := (.bool false)) rfl) ?_
  refine qd rfl rfl rfl (r_assign (v := (.bool false)) rfl) ?_
  refine qe ?_
  refine s_then ?_
  refine s_seq ?_
  refine c_reg ?_
  refine qd rfl rfl rfl (r_ldpA (cs := [u]) ag30 sz30 rfl (fun j u hj => (Pins.of_le hX24.pins hle23) _ _ _ (hbp12 _ _ (by simpa using hj)))) ?_
  refine qd rfl rfl rfl (r_ldpA (cs := [v]) ag30 sz30 rfl (fun j u hj => hX24.pins _ _ _ (hbp25 _ _ (by simpa using hj)))) ?_
  refine q1 rfl rfl rfl (o_call (vs := [(.agg [u].toArray), (.agg [v].toArray)]) Tryd.func17 nm17 rfl rfl rfl ?_)
  refine Calls.mono (iCompareForms_spec hX24.pins (hu.mono (Pin.le_trans hle10 hle23)) (hv.mono (Pin.le_trans hle10 hle23))) ?_
  rintro _ w28 ⟨G27, rfl, hx29⟩
  refine ⟨_, rfl, ?_⟩
  have hX30 := hX24.tr hx29
  refine qd rfl rfl rfl (r_move (v := (.tuple #[(.int .i64 (cfI ax bs)), (.bool (goodB ax && goodB bs))])) rfl) ?_
  refine qd rfl rfl rfl (r_extract (v := (.int .i64 (cfI ax bs))) rfl rfl) ?_
  refine qd rfl rfl rfl (r_extract (v := (.bool (goodB ax && goodB bs))) rfl rfl) ?_
  refine qd rfl rfl rfl (r_assign (v := (.int .i64 (cfI ax bs))) rfl) ?_
  refine qd rfl rfl rfl (r_assign (v := (.bool (goodB ax && goodB bs))) rfl) ?_
  refine qe ?_
  refine s_then ?_
  refine s_seq ?_
  refine c_reg ?_
  refine qd rfl rfl rfl (r_move (v := (.int .i64 (cfI ax bs))) rfl) ?_
  refine qd rfl rfl rfl (r_eql rfl rfl) ?_
  refine qd rfl rfl rfl (r_move (v := (.bool (goodB ax && goodB bs))) rfl) ?_
  refine qd rfl rfl rfl (r_assign (v := (.bool (decide ((cfI ax bs : Int) = 4)))) rfl) ?_
  refine qd rfl rfl rfl (r_assign (v := (.bool (goodB ax && goodB bs))) rfl) ?_
  refine qe ?_
  refine s_then ?_
  refine wp_ret ?_
  refine s_ret ?_
  refine c_ret2 (v := (.bool (decide ((cfI ax bs : Int) = 4)))) (u := (.bool (goodB ax && goodB bs))) rfl rfl rfl rfl rfl ?_
  exact ⟨_, congrArg (fun z => Ending.returned (Value.tuple #[Value.bool z, Value.bool _])) ef_cf, hX30⟩

end PF1
end Go.Proofs.YtndhhpaldhlghaaDoor
