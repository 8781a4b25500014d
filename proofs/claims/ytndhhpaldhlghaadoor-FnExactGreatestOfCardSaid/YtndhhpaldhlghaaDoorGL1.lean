/- Walks, printed by a program (walkgen.py) from the spec specs_gl. -/
import Derived.Test.YtndhhpaldhlghaaDoorChecked
import Derived.Test.YtndhhpaldhlghaaDoorRow
import Derived.Test.YtndhhpaldhlghaaDoorTable
import Derived.Test.YtndhhpaldhlghaaDoorGreat
import Derived.Test.YtndhhpaldhlghaaDoorShelf
import Derived.Test.YtndhhpaldhlghaaDoorLaw
import Derived.Test.YtndhhpaldhlghaaDoorB1
import Derived.Test.YtndhhpaldhlghaaDoorC1
import Derived.Test.YtndhhpaldhlghaaDoorD1
import Derived.Test.YtndhhpaldhlghaaDoorE1
import Derived.Test.YtndhhpaldhlghaaDoorOR1
import Derived.Test.YtndhhpaldhlghaaDoorSF1
import Derived.Test.YtndhhpaldhlghaaDoorGS1
import Derived.Test.YtndhhpaldhlghaaDoorL1
import Derived.Test.YtndhhpaldhlghaaDoorG1
import Derived.Test.YtndhhpaldhlghaaDoorM1
import Derived.Test.YtndhhpaldhlghaaDoorK1
import Derived.Test.YtndhhpaldhlghaaDoorPO1
import Derived.Test.YtndhhpaldhlghaaDoorPL1
import Derived.Test.YtndhhpaldhlghaaDoorGI1
set_option maxRecDepth 20000
set_option maxHeartbeats 2000000
namespace Go.Proofs.YtndhhpaldhlghaaDoor
namespace GL1
open Go.RowKit Go.GL Go.Proofs
open Go.Proofs.YtndhhpaldhlghaaDoor.B1
open Go.Proofs.YtndhhpaldhlghaaDoor.C1
open Go.Proofs.YtndhhpaldhlghaaDoor.D1
open Go.Proofs.YtndhhpaldhlghaaDoor.E1
open Go.Proofs.YtndhhpaldhlghaaDoor.OR1
open Go.Proofs.YtndhhpaldhlghaaDoor.SF1
open Go.Proofs.YtndhhpaldhlghaaDoor.GS1
open Go.Proofs.YtndhhpaldhlghaaDoor.L1
open Go.Proofs.YtndhhpaldhlghaaDoor.G1
open Go.Proofs.YtndhhpaldhlghaaDoor.M1
open Go.Proofs.YtndhhpaldhlghaaDoor.K1
open Go.Proofs.YtndhhpaldhlghaaDoor.PO1
open Go.Proofs.YtndhhpaldhlghaaDoor.PL1
open Go.Proofs.YtndhhpaldhlghaaDoor.GI1
theorem nm18 : (Tryd.f18.name == "runtime.NumGoroutine") = false := by kernel_rfl
theorem nm19 : (Tryd.f19.name == "runtime.NumGoroutine") = false := by kernel_rfl
theorem nm20 : (Tryd.f20.name == "runtime.NumGoroutine") = false := by kernel_rfl
theorem nm21 : (Tryd.f21.name == "runtime.NumGoroutine") = false := by kernel_rfl
theorem nm22 : (Tryd.f22.name == "runtime.NumGoroutine") = false := by kernel_rfl
theorem nm23 : (Tryd.f23.name == "runtime.NumGoroutine") = false := by kernel_rfl
theorem nm24 : (Tryd.f24.name == "runtime.NumGoroutine") = false := by kernel_rfl
theorem nm25 : (Tryd.f25.name == "runtime.NumGoroutine") = false := by kernel_rfl
theorem nm26 : (Tryd.f26.name == "runtime.NumGoroutine") = false := by kernel_rfl

theorem toFormS_spec {w : World} {G : Pin} {v : Value} {fs : List (List Nd)} (hP : Pins G w) (hv : RSl (eSl eNode) G v fs) (hsf : SmallF fs) :
    Calls Tryd.prog 20 [v].toArray w fun e w' => ∃ (u : Value) (G' : Pin), e = .returned u ∧ RSl (eSl eNode) G' u fs ∧ Ext noS G w G' w' := by
  refine (toFormS_dspec hP hv hsf).mono ?_
  rintro e w' ⟨u, G', rfl, hd, hx⟩
  obtain ⟨G'', h1, h2⟩ := hd.give hx
  exact ⟨u, G'', rfl, h1, h2⟩
theorem eqIntS_same {w : World} {G : Pin} {u v : Value} {xs : List Int} (hP : Pins G w) (hu : RSl eInt G u xs) (hv : RSl eInt G v xs) :
    Calls Tryd.prog 22 [u, v].toArray w fun e w' => ∃ G', e = .returned (.bool true) ∧ Ext noS G w G' w' := by
  refine (eqIntS_spec hP hu hv).mono ?_
  rintro e w' ⟨rfl, hx⟩
  exact ⟨G, by simp, hx⟩
theorem eqFormS_same {w : World} {G : Pin} {u v : Value} {xs : List (List Nd)} (hP : Pins G w) (hu : RSl (eSl eNode) G u xs) (hv : RSl (eSl eNode) G v xs) :
    Calls Tryd.prog 23 [u, v].toArray w fun e w' => ∃ G', e = .returned (.bool true) ∧ Ext noS G w G' w' := by
  refine (eqFormS_spec hP hu hv).mono ?_
  rintro e w' ⟨G', rfl, hx⟩
  exact ⟨G', by simp, hx⟩

theorem law {w : World} {G : Pin} {v : Value} {fs : List (List Nd)} (hP : Pins G w) (hv : RSl (eSl eNode) G v fs) :
    Calls Tryd.prog 6 [v].toArray w fun e w' => ∃ G', e = .returned (.bool true) ∧ Ext noS G w G' w' := by
  refine s_enter (n := 96) Tryd.func6 Tryd.ntmps6 rfl rfl ?_
  have hX0 : Ext noS G w G w := Ext.refl hP
  have hgl := grF_len (fs := fs)
  have htf := totF_nonneg fs
  refine s_seq ?_
  refine c_reg ?_
  refine qd rfl rfl rfl (r_assign (v := (.bool false)) rfl) ?_
  refine qe ?_
  refine s_then ?_
  refine s_seq ?_
  refine c_reg ?_
  refine qd rfl rfl rfl (r_assign (v := (.int .i64 1048576)) rfl) ?_
  refine qe ?_
  refine s_then ?_
  refine s_seq ?_
  refine c_reg ?_
  refine qd rfl rfl rfl (r_move (v := v) rfl) ?_
  refine qd rfl rfl rfl (r_move (v := (.int .i64 1048576)) rfl) ?_
  refine q1 rfl rfl rfl (o_call (vs := [v, (.int .i64 1048576)]) Tryd.func18 nm18 rfl rfl rfl ?_)
  refine Calls.mono (szFormS_spec hX0.pins hv (by omega)) ?_
  rintro _ w3 ⟨z1, G2, rfl, hz4, hx5⟩
  refine ⟨_, rfl, ?_⟩
  have hX6 := hX0.tr hx5
  refine qd rfl rfl rfl (r_assign (v := (.int .i64 z1)) rfl) ?_
  refine qe ?_
  refine s_then ?_
  refine s_seq ?_
  refine s_seq ?_
  refine c_reg ?_
  refine qd rfl rfl rfl (r_move (v := (.int .i64 z1)) rfl) ?_
  refine qd rfl rfl rfl (r_lss rfl rfl) ?_
  refine qe ?_
  refine s_then ?_
  refine c_ifd (p := (z1 : Int) < 0) rfl rfl (fun h7 => ?_) (fun h7 => ?_)
  · skip
    refine s_seq ?_
    refine c_reg ?_
    refine qd rfl rfl rfl (r_assign (v := (.bool true)) rfl) ?_
    refine qe ?_
    refine s_then ?_
    refine wp_ret ?_
    refine s_ret ?_
    refine c_ret1 (v := (.bool true)) rfl rfl rfl ?_
    exact ⟨_, rfl, hX6⟩
  refine wp_skip ?_
  refine s_then ?_
  refine s_seq ?_
  refine c_reg ?_
  have hsf : SmallF fs := by rcases hz4 with h | h <;> first | omega | exact h.2.2
  have hst := hsf.tot
  refine qd rfl rfl rfl (r_move (v := v) rfl) ?_
  refine q1 rfl rfl rfl (o_call (vs := [v]) Tryd.func20 nm20 rfl rfl rfl ?_)
  refine Calls.mono (toFormS_spec hX6.pins (hv.mono hx5.le) hsf) ?_
  rintro _ w10 ⟨u8, G9, rfl, hr11, hx12⟩
  refine ⟨_, rfl, ?_⟩
  have hX13 := hX6.tr hx12
  refine q1 rfl rfl rfl (o_call (vs := [u8]) Tryd.func19 nm19 rfl rfl rfl ?_)
  refine Calls.mono (sGreatestOf_spec hX13.pins hr11) ?_
  rintro _ w16 ⟨u14, G15, rfl, ho17, hx18⟩
  refine ⟨_, rfl, ?_⟩
  obtain ⟨G20, ho17r, hx19⟩ := row_give ho17 hx18
  have hX21 := hX13.tr hx19
  refine qd rfl rfl rfl (r_move (v := (.tuple #[u14, (.bool (decP (AllG fs)))])) rfl) ?_
  refine qd rfl rfl rfl (r_extract (v := u14) rfl rfl) ?_
  refine qd rfl rfl rfl (r_extract (v := (.bool (decP (AllG fs)))) rfl rfl) ?_
  refine qd rfl rfl rfl (r_assign (v := u14) rfl) ?_
  refine qd rfl rfl rfl (r_assign (v := (.bool (decP (AllG fs)))) rfl) ?_
  refine qe ?_
  refine s_then ?_
  refine s_seq ?_
  refine c_reg ?_
  refine qd rfl rfl rfl (r_move (v := v) rfl) ?_
  refine q1 rfl rfl rfl (o_call (vs := [v]) Tryd.func20 nm20 rfl rfl rfl ?_)
  refine Calls.mono (toFormS_dspec hX21.pins (hv.mono (Pin.le_trans (Pin.le_trans hx5.le hx12.le) hx19.le)) hsf) ?_
  rintro _ w24 ⟨u22, G23, rfl, hd25, hx26⟩
  refine ⟨_, rfl, ?_⟩
  have hX27 := hX21.tr hx26
  have hone28 := hd25.one
  refine qd rfl rfl rfl (r_assign (v := u22) rfl) ?_
  refine qe ?_
  refine s_then ?_
  refine s_seq ?_
  refine c_reg ?_
  refine qd rfl rfl rfl (r_move (v := u22) rfl) ?_
  obtain ⟨G29, hle30, hp31, hr32, _⟩ := hd25.read hX27.pins
  refine q1 rfl rfl rfl (o_call (vs := [u22]) Tryd.func21 nm21 rfl rfl rfl ?_)
  refine Calls.mono (iGreatestOf_spec hp31 hr32) ?_
  rintro _ w35 ⟨u33, G34, rfl, ho36, hx37⟩
  refine ⟨_, rfl, ?_⟩
  have hgx : w24.heap.size ≤ w24.heap.size := (Nat.le_refl w24.heap.size)
  have hx38 := deep_back hX27.pins hx37
  have hX39 := hX27.step hx38.pins hx38.below
  have hd40 := hd25.below hx38.below
  have hs41 := Nat.le_trans (Nat.le_refl w24.heap.size) hx38.below.size
  have hd42 : DRow eInt 3 G23 w35 w24.heap.size w35.heap.size u33 (grF fs) := ⟨ho36.anti flat_int (Pin.le_trans hle30 hx37.le), fun k hk => (ho36.lt k hk).2⟩
  have hone43 := hd42.one
  refine qd rfl rfl rfl (r_move (v := (.tuple #[u33, (.bool (decP (AllG fs)))])) rfl) ?_
  refine qd rfl rfl rfl (r_extract (v := u33) rfl rfl) ?_
  refine qd rfl rfl rfl (r_extract (v := (.bool (decP (AllG fs)))) rfl rfl) ?_
  refine qd rfl rfl rfl (r_assign (v := u33) rfl) ?_
  refine qd rfl rfl rfl (r_assign (v := (.bool (decP (AllG fs)))) rfl) ?_
  refine qe ?_
  refine s_then ?_
  refine s_seq ?_
  refine s_seq ?_
  refine c_reg ?_
  refine qd rfl rfl rfl (r_move (v := u33) rfl) ?_
  refine qd rfl rfl rfl (r_move (v := u14) rfl) ?_
  obtain ⟨G47, hle48, hp49, hr50, _⟩ := hd42.read hX39.pins
  refine q1 rfl rfl rfl (o_call (vs := [u33, u14]) Tryd.func22 nm22 rfl rfl rfl ?_)
  refine Calls.mono (eqIntS_same hp49 hr50 ((ho17r.mono hx26.le).mono hle48)) ?_
  rintro _ w45 ⟨G44, rfl, hx46⟩
  refine ⟨_, rfl, ?_⟩
  have hx51 := deep_back hX39.pins hx46
  have hX52 := hX39.step hx51.pins hx51.below
  have hd53 := hd40.below hx51.below
  have hs54 := Nat.le_trans hs41 hx51.below.size
  have hd55 := hd42.below hx51.below
  have hs56 := Nat.le_trans (Nat.le_refl w35.heap.size) hx51.below.size
  refine qd rfl rfl rfl (r_not rfl) ?_
  refine qd rfl rfl rfl (r_move (v := (.bool false)) rfl) ?_
  refine qdg rfl rfl rfl rfl rfl rfl (r_move (v := (.bool (decP (AllG fs)))) rfl) ?_
  refine qdg rfl rfl rfl rfl rfl rfl (r_move (v := (.bool (decP (AllG fs)))) rfl) ?_
  refine qdg rfl rfl rfl rfl rfl rfl (r_neqB_same Tryd.underlying4 rfl rfl) ?_
  refine qd rfl rfl rfl (r_pickF (v := (.bool false)) rfl rfl) ?_
  refine qe ?_
  refine s_then ?_
  refine c_ifF rfl rfl ?_
  refine wp_skip ?_
  refine s_then ?_
  refine s_seq ?_
  refine s_seq ?_
  refine c_reg ?_
  refine qd rfl rfl rfl (r_move (v := u22) rfl) ?_
  refine qd rfl rfl rfl (r_move (v := v) rfl) ?_
  refine q1 rfl rfl rfl (o_call (vs := [v]) Tryd.func20 nm20 rfl rfl rfl ?_)
  refine Calls.mono (toFormS_spec hX52.pins (hv.mono (Pin.le_trans (Pin.le_trans (Pin.le_trans hx5.le hx12.le) hx19.le) hx26.le)) hsf) ?_
  rintro _ w59 ⟨u57, G58, rfl, hr60, hx61⟩
  refine ⟨_, rfl, ?_⟩
  have hX62 := hX52.tr hx61
  have hd63 := hd53.ext hx61
  have hs64 := Nat.le_trans hs54 hx61.size
  have hd65 := hd55.ext hx61
  have hs66 := Nat.le_trans hs56 hx61.size
  obtain ⟨G70, hle71, hp72, hr73, _⟩ := hd63.read hX62.pins
  refine q1 rfl rfl rfl (o_call (vs := [u22, u57]) Tryd.func23 nm23 rfl rfl rfl ?_)
  refine Calls.mono (eqFormS_same hp72 hr73 (hr60.mono hle71)) ?_
  rintro _ w68 ⟨G67, rfl, hx69⟩
  refine ⟨_, rfl, ?_⟩
  have hx74 := deep_back hX62.pins hx69
  have hX75 := hX62.step hx74.pins hx74.below
  have hd76 := hd63.below hx74.below
  have hs77 := Nat.le_trans hs64 hx74.below.size
  have hd78 := hd65.below hx74.below
  have hs79 := Nat.le_trans hs66 hx74.below.size
  refine qd rfl rfl rfl (r_not rfl) ?_
  refine qe ?_
  refine s_then ?_
  refine c_ifF rfl rfl ?_
  refine wp_skip ?_
  refine s_then ?_
  refine s_seq ?_
  refine c_reg ?_
  refine qd rfl rfl rfl (r_assign (v := (.int .i64 1)) rfl) ?_
  refine qe ?_
  refine s_then ?_
  refine s_seq ?_
  refine c_reg ?_
  refine qd rfl rfl rfl (r_move (v := u22) rfl) ?_
  refine qd rfl rfl rfl (r_move (v := (.int .i64 1)) rfl) ?_
  obtain ⟨us80, ho81, hul82, hC83, hst84⟩ := hd76.mark
  refine q1 rfl rfl rfl (o_call (vs := [u22, (.int .i64 1)]) Tryd.func24 nm24 rfl rfl rfl ?_)
  refine Calls.mono (markFormS_spec hX75.pins ho81 hC83 hsf (by omega)) ?_
  rintro _ w85 ⟨rfl, hC86, hx87⟩
  refine ⟨_, rfl, ?_⟩
  have hX88 := hX75.trans hx87 (fun i hi => Or.inl (Nat.le_trans hX21.size hi.1))
  have hd89 := hd78.extS hx87 (fun k h1 h2 h3 => by have h4 := h3.1; have h5 := h3.2.1; omega)
  have hs90 := Nat.le_trans hs79 hx87.size
  refine qd rfl rfl rfl (r_assign (v := (.int .i64 (1 + totF fs))) rfl) ?_
  refine qe ?_
  refine s_then ?_
  refine s_seq ?_
  refine s_seq ?_
  refine c_reg ?_
  refine qd rfl rfl rfl (r_move (v := (.int .i64 (1 + totF fs))) rfl) ?_
  refine qd rfl rfl rfl (r_lss rfl rfl) ?_
  refine qd rfl rfl rfl (r_move (v := (.bool (decide ((1 + totF fs : Int) < 0)))) rfl) ?_
  refine qbd (p := (1 + totF fs : Int) < 0) (t := 51) rfl (fun h91 => ?_) (fun h91 => ?_)
  · skip
    refine qs rfl rfl rfl rfl rfl rfl ?_
    refine qs rfl rfl rfl rfl rfl rfl ?_
    refine qs rfl rfl rfl rfl rfl rfl ?_
    refine qs rfl rfl rfl rfl rfl rfl ?_
    refine qd rfl rfl rfl (r_pickT (v := (.bool true)) rfl rfl) ?_
    refine qd rfl rfl rfl (r_move (v := (.bool true)) rfl) ?_
    refine qs rfl rfl rfl rfl rfl rfl ?_
    refine qs rfl rfl rfl rfl rfl rfl ?_
    refine qs rfl rfl rfl rfl rfl rfl ?_
    refine qd rfl rfl rfl (r_pickT (v := (.bool true)) rfl rfl) ?_
    refine qe ?_
    refine s_then ?_
    refine c_ifT rfl rfl ?_
    refine s_seq ?_
    refine c_reg ?_
    refine qd rfl rfl rfl (r_assign (v := (.bool false)) rfl) ?_
    refine qe ?_
    refine s_then ?_
    refine wp_ret ?_
    refine s_ret ?_
    refine c_ret1 (v := (.bool false)) rfl rfl rfl ?_
    exfalso; omega
  refine qdg rfl rfl rfl rfl rfl rfl (r_move (v := u33) rfl) ?_
  refine qdg rfl rfl rfl rfl rfl rfl (r_move (v := u14) rfl) ?_
  obtain ⟨G95, hle96, hp97, hr98, _⟩ := hd89.read hX88.pins
  refine q1g rfl rfl rfl rfl rfl rfl (o_call (vs := [u33, u14]) Tryd.func22 nm22 rfl rfl rfl ?_)
  refine Calls.mono (eqIntS_same hp97 hr98 ((ho17r.mono (Pin.le_trans hx26.le hx61.le)).mono hle96)) ?_
  rintro _ w93 ⟨G92, rfl, hx94⟩
  refine ⟨_, rfl, ?_⟩
  have hx99 := deep_back hX88.pins hx94
  have hX100 := hX88.step hx99.pins hx99.below
  have hd101 := hd89.below hx99.below
  have hs102 := Nat.le_trans hs90 hx99.below.size
  refine qdg rfl rfl rfl rfl rfl rfl (r_not rfl) ?_
  refine qd rfl rfl rfl (r_pickF (v := (.bool false)) rfl rfl) ?_
  refine qd rfl rfl rfl (r_move (v := (.bool false)) rfl) ?_
  refine qdg rfl rfl rfl rfl rfl rfl (r_move (v := (.bool (decP (AllG fs)))) rfl) ?_
  refine qdg rfl rfl rfl rfl rfl rfl (r_move (v := (.bool (decP (AllG fs)))) rfl) ?_
  refine qdg rfl rfl rfl rfl rfl rfl (r_neqB_same Tryd.underlying4 rfl rfl) ?_
  refine qd rfl rfl rfl (r_pickF (v := (.bool false)) rfl rfl) ?_
  refine qe ?_
  refine s_then ?_
  refine c_ifF rfl rfl ?_
  refine wp_skip ?_
  refine s_then ?_
  refine s_seq ?_
  refine c_reg ?_
  refine qd rfl rfl rfl (r_assign (v := (.int .i64 1)) rfl) ?_
  refine qe ?_
  refine s_then ?_
  refine s_seq ?_
  refine c_reg ?_
  refine qd rfl rfl rfl (r_move (v := u33) rfl) ?_
  refine qd rfl rfl rfl (r_move (v := (.int .i64 1)) rfl) ?_
  refine q1 rfl rfl rfl (o_call (vs := [u33, (.int .i64 1)]) Tryd.func25 nm25 rfl rfl rfl ?_)
  refine Calls.mono (markIntS_spec hX100.pins (hd101.row.weaken (Nat.zero_le _)) (by omega) (by omega)) ?_
  rintro _ w103 ⟨rfl, ho104, hx105⟩
  refine ⟨_, rfl, ?_⟩
  have hX106 := hX100.trans hx105 (fun i hi => Or.inl (by obtain ⟨u, hu, hk⟩ := hi; simp at hu; subst hu; exact Nat.le_trans hX27.size (hd101.row.lt _ hk).1))
  obtain ⟨G108, hle109, hp110, hr111, hf112⟩ := DRow.read ⟨ho104.up (fun k hk => (hd101.row.lt k hk).1), hd101.top⟩ hX106.pins
  have hX107 := hX106.promise hle109 hp110 hf112 hX27.size
  refine qd rfl rfl rfl (r_assign (v := (.int .i64 (1 + ((grF fs).length : Int)))) rfl) ?_
  refine qe ?_
  refine s_then ?_
  refine s_seq ?_
  refine c_reg ?_
  refine qd rfl rfl rfl (r_assign (v := (.int .i64 1)) rfl) ?_
  refine qe ?_
  refine s_then ?_
  refine s_seq ?_
  refine c_reg ?_
  refine qd rfl rfl rfl (r_move (v := u33) rfl) ?_
  refine qd rfl rfl rfl (r_move (v := (.int .i64 1)) rfl) ?_
  refine q1 rfl rfl rfl (o_call (vs := [u33, (.int .i64 1)]) Tryd.func26 nm26 rfl rfl rfl ?_)
  refine Calls.mono (heldIntS_spec (n := (grF fs).length) (kz := 1) hX107.pins hr111 (by omega) (by omega)) ?_
  rintro _ _ ⟨rfl, rfl⟩
  refine ⟨_, rfl, ?_⟩
  refine qd rfl rfl rfl (r_assign (v := (.int .i64 (1 + ((grF fs).length : Int)))) rfl) ?_
  refine qe ?_
  refine s_then ?_
  refine s_seq ?_
  refine s_seq ?_
  refine c_reg ?_
  refine qd rfl rfl rfl (r_move (v := (.int .i64 (1 + ((grF fs).length : Int)))) rfl) ?_
  refine qd rfl rfl rfl (r_lss rfl rfl) ?_
  refine qe ?_
  refine s_then ?_
  refine c_ifd (p := (1 + ((grF fs).length : Int) : Int) < 0) rfl rfl (fun h113 => ?_) (fun h113 => ?_)
  · skip
    refine s_seq ?_
    refine c_reg ?_
    refine qd rfl rfl rfl (r_assign (v := (.bool false)) rfl) ?_
    refine qe ?_
    refine s_then ?_
    refine wp_ret ?_
    refine s_ret ?_
    refine c_ret1 (v := (.bool false)) rfl rfl rfl ?_
    exfalso; omega
  refine wp_skip ?_
  refine s_then ?_
  refine s_seq ?_
  refine s_seq ?_
  refine c_reg ?_
  refine qd rfl rfl rfl (r_move (v := (.int .i64 (1 + ((grF fs).length : Int)))) rfl) ?_
  refine qd rfl rfl rfl (r_move (v := (.int .i64 (1 + ((grF fs).length : Int)))) rfl) ?_
  refine qd rfl rfl rfl (r_neq rfl rfl) ?_
  refine qe ?_
  refine s_then ?_
  refine c_ifd (p := (1 + ((grF fs).length : Int) : Int) ≠ (1 + ((grF fs).length : Int))) rfl rfl (fun h114 => ?_) (fun h114 => ?_)
  · skip
    refine s_seq ?_
    refine c_reg ?_
    refine qd rfl rfl rfl (r_assign (v := (.bool false)) rfl) ?_
    refine qe ?_
    refine s_then ?_
    refine wp_ret ?_
    refine s_ret ?_
    refine c_ret1 (v := (.bool false)) rfl rfl rfl ?_
    exfalso; omega
  refine wp_skip ?_
  refine s_then ?_
  refine s_seq ?_
  refine c_reg ?_
  refine qd rfl rfl rfl (r_move (v := v) rfl) ?_
  refine q1 rfl rfl rfl (o_call (vs := [v]) Tryd.func20 nm20 rfl rfl rfl ?_)
  refine Calls.mono (toFormS_spec hX107.pins (hv.mono (Pin.le_trans (Pin.le_trans (Pin.le_trans (Pin.le_trans (Pin.le_trans hx5.le hx12.le) hx19.le) hx26.le) hx61.le) hle109)) hsf) ?_
  rintro _ w117 ⟨u115, G116, rfl, hr118, hx119⟩
  refine ⟨_, rfl, ?_⟩
  have hX120 := hX107.tr hx119
  refine q1 rfl rfl rfl (o_call (vs := [u115]) Tryd.func21 nm21 rfl rfl rfl ?_)
  refine Calls.mono (iGreatestOf_spec hX120.pins hr118) ?_
  rintro _ w123 ⟨u121, G122, rfl, ho124, hx125⟩
  refine ⟨_, rfl, ?_⟩
  obtain ⟨G127, ho124r, hx126⟩ := row_give ho124 hx125
  have hX128 := hX120.tr hx126
  refine qd rfl rfl rfl (r_move (v := (.tuple #[u121, (.bool (decP (AllG fs)))])) rfl) ?_
  refine qd rfl rfl rfl (r_extract (v := u121) rfl rfl) ?_
  refine qd rfl rfl rfl (r_extract (v := (.bool (decP (AllG fs)))) rfl rfl) ?_
  refine qd rfl rfl rfl (r_assign (v := u121) rfl) ?_
  refine qd rfl rfl rfl (r_assign (v := (.bool (decP (AllG fs)))) rfl) ?_
  refine qe ?_
  refine s_then ?_
  refine s_seq ?_
  refine s_seq ?_
  refine c_reg ?_
  refine qd rfl rfl rfl (r_move (v := u121) rfl) ?_
  refine qd rfl rfl rfl (r_move (v := u14) rfl) ?_
  refine q1 rfl rfl rfl (o_call (vs := [u121, u14]) Tryd.func22 nm22 rfl rfl rfl ?_)
  refine Calls.mono (eqIntS_same hX128.pins ho124r (ho17r.mono (Pin.le_trans (Pin.le_trans (Pin.le_trans (Pin.le_trans hx26.le hx61.le) hle109) hx119.le) hx126.le))) ?_
  rintro _ w130 ⟨G129, rfl, hx131⟩
  refine ⟨_, rfl, ?_⟩
  have hX132 := hX128.tr hx131
  refine qd rfl rfl rfl (r_not rfl) ?_
  refine qd rfl rfl rfl (r_move (v := (.bool false)) rfl) ?_
  refine qdg rfl rfl rfl rfl rfl rfl (r_move (v := (.bool (decP (AllG fs)))) rfl) ?_
  refine qdg rfl rfl rfl rfl rfl rfl (r_move (v := (.bool (decP (AllG fs)))) rfl) ?_
  refine qdg rfl rfl rfl rfl rfl rfl (r_neqB_same Tryd.underlying4 rfl rfl) ?_
  refine qd rfl rfl rfl (r_pickF (v := (.bool false)) rfl rfl) ?_
  refine qe ?_
  refine s_then ?_
  refine c_ifF rfl rfl ?_
  refine wp_skip ?_
  refine s_then ?_
  refine s_seq ?_
  refine c_reg ?_
  refine qd rfl rfl rfl (r_assign (v := (.int .i64 1)) rfl) ?_
  refine qe ?_
  refine s_then ?_
  refine s_seq ?_
  refine c_reg ?_
  refine qd rfl rfl rfl (r_move (v := u33) rfl) ?_
  refine qd rfl rfl rfl (r_move (v := (.int .i64 1)) rfl) ?_
  refine q1 rfl rfl rfl (o_call (vs := [u33, (.int .i64 1)]) Tryd.func26 nm26 rfl rfl rfl ?_)
  refine Calls.mono (heldIntS_spec (n := (grF fs).length) (kz := 1) hX132.pins (hr111.mono (Pin.le_trans (Pin.le_trans hx119.le hx126.le) hx131.le)) (by omega) (by omega)) ?_
  rintro _ _ ⟨rfl, rfl⟩
  refine ⟨_, rfl, ?_⟩
  refine qd rfl rfl rfl (r_assign (v := (.int .i64 (1 + ((grF fs).length : Int)))) rfl) ?_
  refine qe ?_
  refine s_then ?_
  refine s_seq ?_
  refine s_seq ?_
  refine c_reg ?_
  refine qd rfl rfl rfl (r_move (v := (.int .i64 (1 + ((grF fs).length : Int)))) rfl) ?_
  refine qd rfl rfl rfl (r_lss rfl rfl) ?_
  refine qe ?_
  refine s_then ?_
  refine c_ifd (p := (1 + ((grF fs).length : Int) : Int) < 0) rfl rfl (fun h => absurd h h113) (fun _ => ?_)
  refine wp_skip ?_
  refine s_then ?_
  refine s_seq ?_
  refine s_seq ?_
  refine c_reg ?_
  refine qd rfl rfl rfl (r_move (v := (.int .i64 (1 + ((grF fs).length : Int)))) rfl) ?_
  refine qd rfl rfl rfl (r_move (v := (.int .i64 (1 + ((grF fs).length : Int)))) rfl) ?_
  refine qd rfl rfl rfl (r_neq rfl rfl) ?_
  refine qe ?_
  refine s_then ?_
  refine c_ifd (p := (1 + ((grF fs).length : Int) : Int) ≠ (1 + ((grF fs).length : Int))) rfl rfl (fun h => absurd h h114) (fun _ => ?_)
  refine wp_skip ?_
  refine s_then ?_
  refine s_seq ?_
  refine c_reg ?_
  refine qd rfl rfl rfl (r_assign (v := (.bool true)) rfl) ?_
  refine qe ?_
  refine s_then ?_
  refine wp_ret ?_
  refine s_ret ?_
  refine c_ret1 (v := (.bool true)) rfl rfl rfl ?_
  exact ⟨_, rfl, hX132⟩

end GL1
end Go.Proofs.YtndhhpaldhlghaaDoor
