/- Walks, printed by a program (walkgen.py) from the spec specs_n. -/
import Derived.Test.YtpninmgcgmpmoaaChecked
import Derived.Test.YtpninmgcgmpmoaaRow
import Derived.Test.YtpninmgcgmpmoaaTable
import Derived.Test.YtpninmgcgmpmoaaB1
import Derived.Test.YtpninmgcgmpmoaaC1
import Derived.Test.YtpninmgcgmpmoaaE1
import Derived.Test.YtpninmgcgmpmoaaL1
import Derived.Test.YtpninmgcgmpmoaaG1
import Derived.Test.YtpninmgcgmpmoaaM1
set_option maxRecDepth 20000
set_option maxHeartbeats 2000000
namespace Go.Proofs.Ytpninmgcgmpmoaa
namespace N1
open Go.RowKit Go.GL Go.Proofs
open Go.Proofs.Ytpninmgcgmpmoaa.B1
open Go.Proofs.Ytpninmgcgmpmoaa.C1
open Go.Proofs.Ytpninmgcgmpmoaa.E1
open Go.Proofs.Ytpninmgcgmpmoaa.L1
open Go.Proofs.Ytpninmgcgmpmoaa.G1
open Go.Proofs.Ytpninmgcgmpmoaa.M1
theorem ag24 : (Try.prog.underlying 24).map aggD = some false := by kernel_rfl
theorem ag26 : (Try.prog.underlying 26).map aggD = some true := by kernel_rfl
theorem ag29 : (Try.prog.underlying 29).map aggD = some false := by kernel_rfl
theorem ag3 : (Try.prog.underlying 3).map aggD = some false := by kernel_rfl
theorem ag35 : (Try.prog.underlying 35).map aggD = some false := by kernel_rfl
theorem ag4 : (Try.prog.underlying 4).map aggD = some false := by kernel_rfl
theorem ag70 : (Try.prog.underlying 70).map aggD = some true := by kernel_rfl
theorem ag82 : (Try.prog.underlying 82).map aggD = some true := by kernel_rfl
theorem ap120 : (Try.prog.info? 120).map (fun i => (i.size, i.bytes, (i.zero.map (·.cells.size)))) = some (2, 16, some 2) := by kernel_rfl
theorem ap26 : (Try.prog.info? 26).map (fun i => (i.size, i.bytes, (i.zero.map (·.cells.size)))) = some (1, 24, some 1) := by kernel_rfl
theorem nm113 : (Try.f113.name == "runtime.NumGoroutine") = false := by kernel_rfl
theorem nm114 : (Try.f114.name == "runtime.NumGoroutine") = false := by kernel_rfl
theorem nm115 : (Try.f115.name == "runtime.NumGoroutine") = false := by kernel_rfl
theorem nm124 : (Try.f124.name == "runtime.NumGoroutine") = false := by kernel_rfl
theorem nm46 : (Try.f46.name == "runtime.NumGoroutine") = false := by kernel_rfl
theorem nm48 : (Try.f48.name == "runtime.NumGoroutine") = false := by kernel_rfl
theorem nm49 : (Try.f49.name == "runtime.NumGoroutine") = false := by kernel_rfl
theorem nm51 : (Try.f51.name == "runtime.NumGoroutine") = false := by kernel_rfl
theorem nm73 : (Try.f73.name == "runtime.NumGoroutine") = false := by kernel_rfl
theorem nm74 : (Try.f74.name == "runtime.NumGoroutine") = false := by kernel_rfl
theorem nm76 : (Try.f76.name == "runtime.NumGoroutine") = false := by kernel_rfl
theorem nm77 : (Try.f77.name == "runtime.NumGoroutine") = false := by kernel_rfl
theorem nm89 : (Try.f89.name == "runtime.NumGoroutine") = false := by kernel_rfl
theorem nm91 : (Try.f91.name == "runtime.NumGoroutine") = false := by kernel_rfl
theorem nz24 : (Try.prog.info? 24).map (·.size == 0) = some false := by kernel_rfl
theorem nz29 : (Try.prog.info? 29).map (·.size == 0) = some false := by kernel_rfl
theorem nz35 : (Try.prog.info? 35).map (·.size == 0) = some false := by kernel_rfl
theorem nz4 : (Try.prog.info? 4).map (·.size == 0) = some false := by kernel_rfl
theorem pl120 : (Try.prog.underlying 120).bind (placesD Try.prog) = some [(0, 1), (1, 1)] := by kernel_rfl
theorem pl131 : (Try.prog.underlying 131).bind (placesD Try.prog) = some [(0, 1), (1, 1)] := by kernel_rfl
theorem sz120 : (Try.prog.info? 120).map (·.size) = some 2 := by kernel_rfl
theorem sz26 : (Try.prog.info? 26).map (·.size) = some 1 := by kernel_rfl
theorem sz3 : (Try.prog.info? 3).map (·.size) = some 1 := by kernel_rfl
theorem sz70 : (Try.prog.info? 70).map (·.size) = some 2 := by kernel_rfl
theorem sz82 : (Try.prog.info? 82).map (·.size) = some 2 := by kernel_rfl
theorem zr120 : (Try.prog.info? 120).bind (·.zero) = some (.agg #[(.int .i64 0), (.int .i64 0)]) := by kernel_rfl
theorem zr131 : (Try.prog.info? 131).bind (·.zero) = some (.agg #[(.slice none 0 0), (.slice none 0 0)]) := by kernel_rfl
theorem zr26 : (Try.prog.info? 26).bind (·.zero) = some (.agg #[(.slice none 0 0)]) := by kernel_rfl
theorem zr82 : (Try.prog.info? 82).bind (·.zero) = some (.agg #[(.slice none 0 0), (.slice none 0 0)]) := by kernel_rfl

theorem top_spec {w : World} {G : Pin} {v : Value} {ns : List Nd} (hP : Pins G w) (hv : RSl eNode G v ns) (hn : 1 ≤ ns.length) :
    Calls Try.prog 48 [(.agg [v].toArray)].toArray w fun e w' => ∃ (u v : Value) (G' : Pin), e = .returned (.agg [u, v].toArray) ∧ RSl eInt G' u (lastN ns).l ∧ RSl eInt G' v (lastN ns).r ∧ Ext noS G w G' w' := by
  refine s_enter (n := 11) Try.func48 Try.ntmps48 rfl rfl ?_
  have hX0 : Ext noS G w G w := Ext.refl hP
  have hm := hv.max
  have hlast : ((ns.length : Int) - 1).toNat = ns.length - 1 := by omega
  refine s_seq ?_
  refine c_reg ?_
  refine q1 rfl rfl rfl (o_box [v] (v := (.agg [v].toArray)) rfl rfl hX0.pins (fun b1 w2 hk3 hb4 hp5 hl6 => ?_))
  have hX7 := hX0.step hp5 hl6
  have hlo8 : w.heap.size ≤ b1 := by have := hX0.size; omega
  obtain ⟨G9, hle10, hX11, hbp12, hf13⟩ := hb4.shut hX7 hlo8
  refine q1 rfl rfl rfl (o_alloc [(.slice none 0 0), (.slice none 0 0)] zr82 rfl hX11.pins (fun b14 w15 hk16 hb17 hp18 hl19 => ?_))
  have hX20 := hX11.step hp18 hl19
  have hlo21 : w.heap.size ≤ b14 := by have := hX11.size; omega
  refine qe ?_
  refine s_then ?_
  refine s_seq ?_
  refine c_reg ?_
  refine qd rfl rfl rfl (r_fldp (k := 0) rfl Try.underlying26 rfl nz24 rfl) ?_
  refine qd rfl rfl rfl (r_ldp1 (u := v) ag24 rfl (hX20.pins _ _ _ (hbp12 0 _ rfl))) ?_
  refine qd rfl rfl rfl (r_fldp (k := 0) rfl Try.underlying26 rfl nz24 rfl) ?_
  refine qd rfl rfl rfl (r_ldp1 (u := v) ag24 rfl (hX20.pins _ _ _ (hbp12 0 _ rfl))) ?_
  refine qd rfl rfl rfl (run_len Try.underlying24 (v := v) rfl hv) ?_
  refine qd rfl rfl rfl (r_sub rfl rfl (by omega)) ?_
  refine qd rfl rfl rfl (run_idx Try.underlying24 sz82 (v := v) rfl rfl hv (by omega) (by omega)) ?_
  obtain ⟨u22, u23, hr24, hr25, hl26⟩ := nm_node (hv.at (z := ((ns.length : Int) - 1)) (by omega) (by omega)) (j := ((ns.length : Int) - 1).toNat) rfl
  have hm27 := hr24.max
  have hm28 := hr25.max
  refine qd rfl rfl rfl (hl26 ag82 sz82 rfl (Pins.of_le hX20.pins hle10)) ?_
  refine q0 rfl rfl rfl (o_stp (cs' := [u22, u23]) (us := [u22, u23]) (v := (.agg [u22, u23].toArray)) sz82 rfl rfl rfl (ones2 hr24.one hr25.one) hX20.pins hb17 (Nat.le_of_ble_eq_true rfl) rfl (fun w29 hb30 hp31 hg32 hz33 => ?_))
  have hX34 := hX20.write hp31 hg32 ((lo_box hlo21))
  refine qe ?_
  refine s_then ?_
  refine wp_ret ?_
  refine s_ret ?_
  refine c_retc (cs := [u22, u23]) rfl rfl rfl ag82 sz82 (fun j u hj => by rw [Nat.zero_add]; exact hb30.cell hj) ?_
  unfold lastN
  rw [← hlast]
  exact ⟨_, _, _, rfl, (hr24.mono hle10), (hr25.mono hle10), hX34⟩

theorem options_spec {w : World} {G : Pin} {v : Value} {lf : Bool} {fs : List (List Nd)} {j : Nat} (hP : Pins G w) (hv : RSl (eSl eNode) G v fs) (hj : j < fs.length) (hn : 1 ≤ (fs.getD j []).length) :
    Calls Try.prog 115 [(.agg [v, (.bool lf)].toArray), (.int .i64 (j : Int))].toArray w fun e w' => ∃ (u : Value) (G' : Pin), e = .returned u ∧ RSl eInt G' u (optL lf (fs.getD j [])) ∧ Ext noS G w G' w' := by
  refine s_enter (n := 21) Try.func115 Try.ntmps115 rfl rfl ?_
  have hX0 : Ext noS G w G w := Ext.refl hP
  refine s_seq ?_
  refine c_reg ?_
  refine q1 rfl rfl rfl (o_box [v, (.bool lf)] (v := (.agg [v, (.bool lf)].toArray)) rfl rfl hX0.pins (fun b1 w2 hk3 hb4 hp5 hl6 => ?_))
  have hX7 := hX0.step hp5 hl6
  have hlo8 : w.heap.size ≤ b1 := by have := hX0.size; omega
  obtain ⟨G9, hle10, hX11, hbp12, hf13⟩ := hb4.shut hX7 hlo8
  refine qd rfl rfl rfl (r_assign (v := (.slice none 0 0)) rfl) ?_
  refine qe ?_
  refine s_then ?_
  refine s_seq ?_
  refine s_seq ?_
  refine c_reg ?_
  refine qd rfl rfl rfl (r_fldp (k := 1) rfl Try.underlying70 rfl nz4 rfl) ?_
  refine qd rfl rfl rfl (r_ldp1 (u := (.bool lf)) ag4 rfl (hX11.pins _ _ _ (hbp12 1 _ rfl))) ?_
  refine qe ?_
  refine s_then ?_
  refine c_if rfl rfl (fun h14 => ?_) (fun h14 => ?_)
  · skip
    refine s_seq ?_
    refine c_reg ?_
    refine qd rfl rfl rfl (r_fldp (k := 0) rfl Try.underlying70 rfl nz35 rfl) ?_
    refine qd rfl rfl rfl (r_ldp1 (u := v) ag35 rfl (hX11.pins _ _ _ (hbp12 0 _ rfl))) ?_
    refine qd rfl rfl rfl (r_move (v := (.int .i64 (j : Int))) rfl) ?_
    refine qd rfl rfl rfl (run_idx Try.underlying35 sz26 (v := v) rfl rfl hv (by omega) (by omega)) ?_
    obtain ⟨u15, hr16, hl17⟩ := nm_form (hv.at (z := (j : Int)) (by omega) (by omega)) (j := j) rfl
    have hm18 := hr16.max
    refine qd rfl rfl rfl (hl17 ag26 sz26 rfl (Pins.of_le hX11.pins hle10)) ?_
    refine q1 rfl rfl rfl (o_call (vs := [(.agg [u15].toArray)]) Try.func48 nm48 rfl rfl rfl ?_)
    refine Calls.mono (top_spec hX11.pins (hr16.mono hle10) (by omega)) ?_
    rintro _ w22 ⟨u19, v20, G21, rfl, hr23, hr24, hx25⟩
    refine ⟨_, rfl, ?_⟩
    have hX26 := hX11.tr hx25
    refine qd rfl rfl rfl (r_field1 (v := u19) Try.underlying82 rfl ag29 rfl rfl) ?_
    refine qd rfl rfl rfl (r_assign (v := u19) rfl) ?_
    refine qe ?_
    refine s_then ?_
    refine wp_ret ?_
    refine s_ret ?_
    refine c_ret1 (v := u19) rfl rfl rfl ?_
    exact ⟨_, _, rfl, (by unfold optL; rw [if_pos h14]; exact hr23), hX26⟩
  · skip
    refine wp_skip ?_
    refine s_then ?_
    refine s_seq ?_
    refine c_reg ?_
    refine qd rfl rfl rfl (r_fldp (k := 0) rfl Try.underlying70 rfl nz35 rfl) ?_
    refine qd rfl rfl rfl (r_ldp1 (u := v) ag35 rfl (hX11.pins _ _ _ (hbp12 0 _ rfl))) ?_
    refine qd rfl rfl rfl (r_move (v := (.int .i64 (j : Int))) rfl) ?_
    refine qd rfl rfl rfl (run_idx Try.underlying35 sz26 (v := v) rfl rfl hv (by omega) (by omega)) ?_
    obtain ⟨u27, hr28, hl29⟩ := nm_form (hv.at (z := (j : Int)) (by omega) (by omega)) (j := j) rfl
    have hm30 := hr28.max
    refine qd rfl rfl rfl (hl29 ag26 sz26 rfl (Pins.of_le hX11.pins hle10)) ?_
    refine q1 rfl rfl rfl (o_call (vs := [(.agg [u27].toArray)]) Try.func48 nm48 rfl rfl rfl ?_)
    refine Calls.mono (top_spec hX11.pins (hr28.mono hle10) (by omega)) ?_
    rintro _ w34 ⟨u31, v32, G33, rfl, hr35, hr36, hx37⟩
    refine ⟨_, rfl, ?_⟩
    have hX38 := hX11.tr hx37
    refine qd rfl rfl rfl (r_field1 (v := v32) Try.underlying82 rfl ag29 rfl rfl) ?_
    refine qd rfl rfl rfl (r_assign (v := v32) rfl) ?_
    refine qe ?_
    refine s_then ?_
    refine wp_ret ?_
    refine s_ret ?_
    refine c_ret1 (v := v32) rfl rfl rfl ?_
    exact ⟨_, _, rfl, (by unfold optL; rw [if_neg (by rw [h14]; decide)]; exact hr36), hX38⟩

theorem imoves_spec {w : World} {G : Pin} {v : Value} {lf : Bool} {fs : List (List Nd)} (hP : Pins G w) (hv : RSl (eSl eNode) G v fs) (hgt : fs.length ≤ 6 ∧ ∀ i, i < fs.length → goodB (fs.getD i []) = true) :
    Calls Try.prog 77 [(.agg [v, (.bool lf)].toArray)].toArray w fun e w' => ∃ (u : Value) (G' : Pin), e = .returned u ∧ Own eP2 120 G' w' w.heap.size u (movesL lf fs fs.length) ∧ Ext noS G w G' w' := by
  refine s_enter (n := 29) Try.func77 Try.ntmps77 rfl rfl ?_
  have hX0 : Ext noS G w G w := Ext.refl hP
  refine s_seq ?_
  refine c_reg ?_
  refine q1 rfl rfl rfl (o_box [v, (.bool lf)] (v := (.agg [v, (.bool lf)].toArray)) rfl rfl hX0.pins (fun b1 w2 hk3 hb4 hp5 hl6 => ?_))
  have hX7 := hX0.step hp5 hl6
  have hlo8 : w.heap.size ≤ b1 := by have := hX0.size; omega
  obtain ⟨G9, hle10, hX11, hbp12, hf13⟩ := hb4.shut hX7 hlo8
  refine qd rfl rfl rfl (r_assign (v := (.slice none 0 0)) rfl) ?_
  refine qe ?_
  refine s_then ?_
  refine s_seq ?_
  refine c_reg ?_
  refine q1 rfl rfl rfl (o_build0 (E := eP2) (e := 120) Try.underlying66 sz120 hX11.pins (fun u14 w15 ho16 hp17 hl18 hk19 => ?_))
  have hX20 := hX11.step hp17 hl18
  have ho21 : Own eP2 120 G9 w15 w.heap.size u14 ([]) := ho16.weaken hX11.size
  refine qd rfl rfl rfl (r_assign (v := u14) rfl) ?_
  refine qe ?_
  refine s_then ?_
  refine s_seq ?_
  refine s_seq ?_
  refine c_reg ?_
  refine qd rfl rfl rfl (r_fldp (k := 0) rfl Try.underlying70 rfl nz35 rfl) ?_
  refine qd rfl rfl rfl (r_ldp1 (u := v) ag35 rfl (hX20.pins _ _ _ (hbp12 0 _ rfl))) ?_
  refine qd rfl rfl rfl (run_len Try.underlying35 (v := v) rfl hv) ?_
  refine qd rfl rfl rfl (r_move (v := (.int .i64 0)) rfl) ?_
  refine qe ?_
  refine s_then ?_
  refine s_blk ?_
  refine s_loop (fun (k : Nat) (en : Nat → Value) (W : World) => ∃ (env1 : Nat → Value) (j : Nat) (ov : Value) (os : List (Int × Int)) (GL1 : Pin), en = (upd (upd (upd (upd (upd env1 1 (.pointer (some ⟨b1, 0, none⟩))) 2 (.slice none 0 0)) 3 ov) 9 (.int .i64 (fs.length : Int))) 10 (.int .i64 (j : Int))) ∧ k = fs.length - j ∧ Ext noS G w GL1 W ∧ Pin.le G9 GL1 ∧ (j ≤ fs.length) ∧ (os = movesL lf fs j) ∧ (os.length ≤ 24 * j) ∧ (Own eP2 120 GL1 W w.heap.size ov (os))) _ ⟨_, 0, u14, [], G9, (packS (x := 10) (packS (x := 9) (packS (x := 3) (packS (x := 2) (pack1 (x := 1) rfl) rfl) rfl) rfl) rfl), rfl, hX20, Pin.le_refl _, Nat.zero_le _, rfl, Nat.zero_le _, ho21⟩ ?_
  rintro k22 _ w23 ⟨env1, j, ov, os, GL1, rfl, hk24, hX25, hlek22, hj, hos, hol, hw26⟩
  refine s_seq ?_
  refine c_reg ?_
  refine qd rfl rfl rfl (r_lss rfl rfl) ?_
  refine qe ?_
  refine s_then ?_
  refine s_seq ?_
  refine c_ifd (p := ((j : Int) : Int) < (fs.length : Int)) rfl rfl (fun h27 => ?_) (fun h27 => ?_)
  · skip
    have hgj := goodB_true.1 (hgt.2 j (by omega))
    have hob := optL_len (left := lf) hgj
    have hsl := sideS_len lf (fs.getD j [])
    refine wp_skip ?_
    refine s_then ?_
    refine s_seq ?_
    refine s_blk ?_
    refine s_seq ?_
    refine c_reg ?_
    refine qd rfl rfl rfl (r_move (v := (.int .i64 (j : Int))) rfl) ?_
    refine qd rfl rfl rfl (r_assign (v := (.int .i64 (j : Int))) rfl) ?_
    refine qe ?_
    refine s_then ?_
    refine s_seq ?_
    refine c_reg ?_
    refine qd rfl rfl rfl (r_ldpA (cs := [v, (.bool lf)]) ag70 sz70 rfl (fun j u hj => (Pins.of_le hX25.pins hlek22) _ _ _ (hbp12 _ _ (by simpa using hj)))) ?_
    refine qd rfl rfl rfl (r_move (v := (.int .i64 (j : Int))) rfl) ?_
    refine q1 rfl rfl rfl (o_call (vs := [(.agg [v, (.bool lf)].toArray), (.int .i64 (j : Int))]) Try.func115 nm115 rfl rfl rfl ?_)
    refine Calls.mono (options_spec hX25.pins (hv.mono (Pin.le_trans hle10 hlek22)) (by omega) (by have := hgj.lo; first | exact this | simpa using this)) ?_
    rintro _ w30 ⟨u28, G29, rfl, hr31, hx32⟩
    refine ⟨_, rfl, ?_⟩
    have hX33 := hX25.tr hx32
    have ho34 := hw26.ext hx32
    refine qd rfl rfl rfl (run_len Try.underlying29 (v := u28) rfl hr31) ?_
    refine qd rfl rfl rfl (r_move (v := (.int .i64 0)) rfl) ?_
    refine qe ?_
    refine s_then ?_
    refine s_blk ?_
    refine s_loop (fun (k : Nat) (en : Nat → Value) (W : World) => ∃ (env1 : Nat → Value) (i : Nat) (ov2 : Value) (os2 : List (Int × Int)), en = (upd (upd (upd (upd (upd (upd (upd (upd env1 1 (.pointer (some ⟨b1, 0, none⟩))) 2 (.slice none 0 0)) 3 ov2) 4 (.int .i64 (j : Int))) 9 (.int .i64 (fs.length : Int))) 10 (.int .i64 (j : Int))) 16 (.int .i64 ((optL lf (fs.getD j [])).length : Int))) 17 (.int .i64 (i : Int))) ∧ k = (optL lf (fs.getD j [])).length - i ∧ Ext noS G w G29 W ∧ (i ≤ (optL lf (fs.getD j [])).length) ∧ (os2 = movesL lf fs j ++ mvRow j i) ∧ (os2.length ≤ 24 * j + i) ∧ (Own eP2 120 G29 W w.heap.size ov2 (os2))) _ ⟨_, 0, ov, os, (packS (x := 17) (packS (x := 16) (packS (x := 10) (packS (x := 9) (packS (x := 4) (packS (x := 3) (packS (x := 2) (pack1 (x := 1) rfl) rfl) rfl) rfl) rfl) rfl) rfl) rfl), rfl, hX33, Nat.zero_le _, (by rw [hos]; simp [mvRow]), hol, ho34⟩ ?_
    rintro k35 _ w36 ⟨env1, i, ov2, os2, rfl, hk37, hX38, hi, hos2, hol2, hw39⟩
    refine s_seq ?_
    refine c_reg ?_
    refine qd rfl rfl rfl (r_lss rfl rfl) ?_
    refine qe ?_
    refine s_then ?_
    refine s_seq ?_
    refine c_ifd (p := ((i : Int) : Int) < ((optL lf (fs.getD j [])).length : Int)) rfl rfl (fun h40 => ?_) (fun h40 => ?_)
    · skip
      refine wp_skip ?_
      refine s_then ?_
      refine s_seq ?_
      refine s_blk ?_
      refine s_seq ?_
      refine c_reg ?_
      refine qd rfl rfl rfl (r_move (v := (.int .i64 (i : Int))) rfl) ?_
      refine qd rfl rfl rfl (r_assign (v := (.int .i64 (i : Int))) rfl) ?_
      refine qe ?_
      refine s_then ?_
      refine c_reg ?_
      refine qd rfl rfl rfl (r_move (v := ov2) rfl) ?_
      refine qd rfl rfl rfl (r_move (v := (.int .i64 (j : Int))) rfl) ?_
      refine qd rfl rfl rfl (r_move (v := (.int .i64 (i : Int))) rfl) ?_
      refine qd rfl rfl rfl (r_build [(.int .i64 0), (.int .i64 0)] [(.int .i64 (j : Int)), (.int .i64 (i : Int))] [(0, (.int .i64 (j : Int)), [(.int .i64 (j : Int))]), (1, (.int .i64 (i : Int)), [(.int .i64 (i : Int))])] Try.underlying120 zr120 rfl pl120 rfl (List.forall_mem_cons.2 ⟨rfl, (List.forall_mem_cons.2 ⟨rfl, (fun _ h => by cases h)⟩)⟩) rfl) ?_
      refine q1 rfl rfl rfl (o_build1 (E := eP2) (e := 120) [(.int .i64 (j : Int)), (.int .i64 (i : Int))] ((j : Int), (i : Int)) Try.underlying66 sz120 zr120 rfl rfl (by decide) hX38.pins (fun u41 w42 ho43 hp44 hl45 hk46 => ?_))
      have hX47 := hX38.step hp44 hl45
      have ho48 := hw39.below hl45
      have ha49 : Apart u41.ownBlock ov2.ownBlock := new_ne_own hk46 hw39.lt
      have ho50 : Own eP2 120 G29 w42 w.heap.size u41 ([((j : Int), (i : Int))]) := ho43.weaken hX38.size
      refine q1 rfl rfl rfl (o_append (E := eP2) (v := ov2) (u := u41) 16 Try.underlying66 ap120 (by decide) rfl rfl hX47.pins ho48 ho50.src (by first | omega | (rw [List.nil_append]; omega) | (rw [List.length_nil]; omega) | (rw [List.length_append]; omega) | (simp; done) | (simp; omega)) (by first | omega | (rw [List.nil_append]; omega) | (rw [List.length_nil]; omega) | (rw [List.length_append]; omega) | (simp; done) | (simp; omega)) (hX47.size) (fun u51 w52 ho53 hp54 hg55 hw56 => ?_))
      have hX57 := hX47.write hp54 hg55 ((lo_own ho48))
      have ho58 := ho50.keptA hg55 ha49
      have ha59 : Apart u41.ownBlock u51.ownBlock := app_ne_own ha49 hw56 ho50.lt
      have hm60 : (os2 ++ ([((j : Int), (i : Int))])).length = os2.length + 1 := by simp
      refine qd rfl rfl rfl (r_assign (v := u51) rfl) ?_
      refine qe ?_
      refine s_blkN ?_
      refine s_then ?_
      refine c_reg ?_
      refine qd rfl rfl rfl (r_add rfl rfl (by omega)) ?_
      refine qd rfl rfl rfl (r_move (v := (.int .i64 ((i : Int) + 1))) rfl) ?_
      refine qe ?_
      refine s_lopN ?_
      refine ⟨_, ?_, _, rfl, _, i + 1, u51, os2 ++ [((j : Int), (i : Int))], (packS (x := 17) (packS (x := 16) (packS (x := 10) (packS (x := 9) (packS (x := 4) (packS (x := 3) (packS (x := 2) (pack1 (x := 1) rfl) rfl) rfl) rfl) rfl) rfl) rfl) rfl), rfl, hX57, (by omega), (by rw [hos2, List.append_assoc, mvRow_next]), (by simp; omega), ho53⟩
      omega
    · skip
      refine wp_exit ?_
      refine s_thenE ?_
      refine s_lopE ?_
      refine s_blkE ?_
      refine s_blkN ?_
      refine s_then ?_
      refine c_reg ?_
      refine qd rfl rfl rfl (r_add rfl rfl (by omega)) ?_
      refine qd rfl rfl rfl (r_move (v := (.int .i64 ((j : Int) + 1))) rfl) ?_
      refine qe ?_
      refine s_lopN ?_
      refine ⟨_, ?_, _, rfl, _, j + 1, ov2, os2, G29, (packS (x := 10) (packS (x := 9) (packS (x := 3) (packS (x := 2) (pack1 (x := 1) rfl) rfl) rfl) rfl) rfl), rfl, hX38, (Pin.le_trans hlek22 hx32.le), (by omega), (by rw [hos2, movesL_next, show i = (optL lf (fs.getD j [])).length by omega]), (by omega), hw39⟩
      omega
  · skip
    refine wp_exit ?_
    refine s_thenE ?_
    refine s_lopE ?_
    refine s_blkE ?_
    refine s_then ?_
    refine s_seq ?_
    refine c_reg ?_
    refine qd rfl rfl rfl (r_move (v := ov) rfl) ?_
    refine qd rfl rfl rfl (r_assign (v := ov) rfl) ?_
    refine qe ?_
    refine s_then ?_
    refine wp_ret ?_
    refine s_ret ?_
    refine c_ret1 (v := ov) rfl rfl rfl ?_
    rw [show j = fs.length by omega] at hos
    exact ⟨_, _, rfl, (by rw [← hos]; exact hw26), hX25⟩

theorem iGoodTable_spec {w : World} {G : Pin} {v : Value} {lf : Bool} {fs : List (List Nd)} (hP : Pins G w) (hv : RSl (eSl eNode) G v fs) :
    Calls Try.prog 76 [(.agg [v, (.bool lf)].toArray)].toArray w fun e w' => ∃ G', e = .returned (.bool (goodT fs)) ∧ Ext noS G w G' w' := by
  refine s_enter (n := 20) Try.func76 Try.ntmps76 rfl rfl ?_
  have hX0 : Ext noS G w G w := Ext.refl hP
  have hm := hv.max
  refine s_seq ?_
  refine c_reg ?_
  refine q1 rfl rfl rfl (o_box [v, (.bool lf)] (v := (.agg [v, (.bool lf)].toArray)) rfl rfl hX0.pins (fun b1 w2 hk3 hb4 hp5 hl6 => ?_))
  have hX7 := hX0.step hp5 hl6
  have hlo8 : w.heap.size ≤ b1 := by have := hX0.size; omega
  obtain ⟨G9, hle10, hX11, hbp12, hf13⟩ := hb4.shut hX7 hlo8
  refine qd rfl rfl rfl (r_assign (v := (.bool false)) rfl) ?_
  refine qe ?_
  refine s_then ?_
  refine s_seq ?_
  refine s_seq ?_
  refine c_reg ?_
  refine qd rfl rfl rfl (r_fldp (k := 0) rfl Try.underlying70 rfl nz35 rfl) ?_
  refine qd rfl rfl rfl (r_ldp1 (u := v) ag35 rfl (hX11.pins _ _ _ (hbp12 0 _ rfl))) ?_
  refine qd rfl rfl rfl (run_len Try.underlying35 (v := v) rfl hv) ?_
  refine qd rfl rfl rfl (r_gtr rfl rfl) ?_
  refine qe ?_
  refine s_then ?_
  refine c_ifd (p := (6 : Int) < (fs.length : Int)) rfl rfl (fun h14 => ?_) (fun h14 => ?_)
  · skip
    refine s_seq ?_
    refine c_reg ?_
    refine qd rfl rfl rfl (r_assign (v := (.bool false)) rfl) ?_
    refine qe ?_
    refine s_then ?_
    refine wp_ret ?_
    refine s_ret ?_
    refine c_ret1 (v := (.bool false)) rfl rfl rfl ?_
    exact ⟨_, congrArg (fun z => Ending.returned (Value.bool z)) (decP_false.2 (fun g => by have := g.1; omega)).symm, hX11⟩
  · skip
    refine wp_skip ?_
    refine s_then ?_
    refine s_seq ?_
    refine s_seq ?_
    refine c_reg ?_
    refine qd rfl rfl rfl (r_fldp (k := 0) rfl Try.underlying70 rfl nz35 rfl) ?_
    refine qd rfl rfl rfl (r_ldp1 (u := v) ag35 rfl (hX11.pins _ _ _ (hbp12 0 _ rfl))) ?_
    refine qd rfl rfl rfl (run_len Try.underlying35 (v := v) rfl hv) ?_
    refine qd rfl rfl rfl (r_move (v := (.int .i64 0)) rfl) ?_
    refine qe ?_
    refine s_then ?_
    refine s_blk ?_
    refine s_loop (fun (k : Nat) (en : Nat → Value) (W : World) => ∃ (env1 : Nat → Value) (j : Nat) (GL1 : Pin), en = (upd (upd (upd env1 10 v) 11 (.int .i64 (fs.length : Int))) 12 (.int .i64 (j : Int))) ∧ k = fs.length - j ∧ Ext noS G w GL1 W ∧ Pin.le G9 GL1 ∧ (j ≤ fs.length) ∧ (∀ i, i < j → goodB (fs.getD i []) = true)) _ ⟨_, 0, G9, (packS (x := 12) (packS (x := 11) (pack1 (x := 10) rfl) rfl) rfl), rfl, hX11, Pin.le_refl _, Nat.zero_le _, (fun i hi => absurd hi (Nat.not_lt_zero i))⟩ ?_
    rintro k15 _ w16 ⟨env1, j, GL1, rfl, hk17, hX18, hlek15, hj, hp⟩
    refine s_seq ?_
    refine c_reg ?_
    refine qd rfl rfl rfl (r_lss rfl rfl) ?_
    refine qe ?_
    refine s_then ?_
    refine s_seq ?_
    refine c_ifd (p := ((j : Int) : Int) < (fs.length : Int)) rfl rfl (fun h19 => ?_) (fun h19 => ?_)
    · skip
      refine wp_skip ?_
      refine s_then ?_
      refine s_seq ?_
      refine s_blk ?_
      refine s_seq ?_
      refine c_reg ?_
      refine qd rfl rfl rfl (run_idx Try.underlying35 sz26 (v := v) rfl rfl hv (by omega) (by omega)) ?_
      obtain ⟨u20, hr21, hl22⟩ := nm_form (hv.at (z := (j : Int)) (by omega) (by omega)) (j := j) rfl
      have hm23 := hr21.max
      refine qd rfl rfl rfl (hl22 ag26 sz26 rfl (Pins.of_le hX18.pins (Pin.le_trans hle10 hlek15))) ?_
      refine q1 rfl rfl rfl (o_alloc [(.slice none 0 0)] zr26 rfl hX18.pins (fun b24 w25 hk26 hb27 hp28 hl29 => ?_))
      have hX30 := hX18.step hp28 hl29
      have hlo31 : w.heap.size ≤ b24 := by have := hX18.size; omega
      refine q0 rfl rfl rfl (o_stp (cs' := [u20]) (us := [u20]) (v := (.agg [u20].toArray)) sz26 rfl rfl rfl (ones1 hr21.one) hX30.pins hb27 (Nat.le_of_ble_eq_true rfl) rfl (fun w32 hb33 hp34 hg35 hz36 => ?_))
      have hX37 := hX30.write hp34 hg35 ((lo_box hlo31))
      obtain ⟨G38, hle39, hX40, hbp41, hf42⟩ := hb33.shut hX37 hlo31
      refine qe ?_
      refine s_then ?_
      refine s_seq ?_
      refine c_reg ?_
      refine qd rfl rfl rfl (r_ldpA (cs := [u20]) ag26 sz26 rfl (fun j u hj => hX40.pins _ _ _ (hbp41 _ _ (by simpa using hj)))) ?_
      refine q1 rfl rfl rfl (o_call (vs := [(.agg [u20].toArray)]) Try.func46 nm46 rfl rfl rfl ?_)
      refine Calls.mono (goodForm_spec hX40.pins (hr21.mono (Pin.le_trans (Pin.le_trans hle10 hlek15) hle39))) ?_
      rintro _ w44 ⟨G43, rfl, hx45⟩
      refine ⟨_, rfl, ?_⟩
      have hX46 := hX40.tr hx45
      refine qd rfl rfl rfl (r_not rfl) ?_
      refine qe ?_
      refine s_then ?_
      refine c_ifn rfl rfl (fun h47 => ?_) (fun h47 => ?_)
      · skip
        refine wp_skip ?_
        refine s_blkN ?_
        refine s_then ?_
        refine c_reg ?_
        refine qd rfl rfl rfl (r_add rfl rfl (by omega)) ?_
        refine qd rfl rfl rfl (r_move (v := (.int .i64 ((j : Int) + 1))) rfl) ?_
        refine qe ?_
        refine s_lopN ?_
        refine ⟨_, ?_, _, rfl, _, j + 1, G43, (packS (x := 12) (packS (x := 11) (pack1 (x := 10) rfl) rfl) rfl), rfl, hX46, (Pin.le_trans (Pin.le_trans hlek15 hle39) hx45.le), (by omega), (fun i hi => if h3 : i = j then h3 ▸ h47 else hp i (by omega))⟩
        omega
      · skip
        refine s_seq ?_
        refine c_reg ?_
        refine qd rfl rfl rfl (r_assign (v := (.bool false)) rfl) ?_
        refine qe ?_
        refine s_then ?_
        refine wp_ret ?_
        refine s_ret ?_
        refine c_ret1 (v := (.bool false)) rfl rfl rfl ?_
        exact ⟨_, congrArg (fun z => Ending.returned (Value.bool z)) (decP_false.2 (fun g => by have := g.2 j (by omega); rw [h47] at this; cases this)).symm, hX46⟩
    · skip
      refine wp_exit ?_
      refine s_thenE ?_
      refine s_lopE ?_
      refine s_blkE ?_
      refine s_then ?_
      refine s_seq ?_
      refine c_reg ?_
      refine qd rfl rfl rfl (r_assign (v := (.bool true)) rfl) ?_
      refine qe ?_
      refine s_then ?_
      refine wp_ret ?_
      refine s_ret ?_
      refine c_ret1 (v := (.bool true)) rfl rfl rfl ?_
      exact ⟨_, congrArg (fun z => Ending.returned (Value.bool z)) (decP_true.2 ⟨by omega, fun i hi => hp i (by omega)⟩).symm, hX18⟩

theorem iMovesOf_dspec {w : World} {G : Pin} {v : Value} {lf : Bool} {fs : List (List Nd)} (hP : Pins G w) (hv : RSl (eSl eNode) G v fs) :
    Calls Try.prog 39 [(.agg [v, (.bool lf)].toArray)].toArray w fun e w' => ∃ (u : Value) (G' : Pin), e = .returned (.tuple #[u, .bool (goodT fs)]) ∧ Own eP2 120 G' w' w.heap.size u (mvL lf fs) ∧ Ext noS G w G' w' := by
  refine s_enter (n := 10) Try.func39 Try.ntmps39 rfl rfl ?_
  have hX0 : Ext noS G w G w := Ext.refl hP
  refine s_seq ?_
  refine c_reg ?_
  refine q1 rfl rfl rfl (o_box [v, (.bool lf)] (v := (.agg [v, (.bool lf)].toArray)) rfl rfl hX0.pins (fun b1 w2 hk3 hb4 hp5 hl6 => ?_))
  have hX7 := hX0.step hp5 hl6
  have hlo8 : w.heap.size ≤ b1 := by have := hX0.size; omega
  obtain ⟨G9, hle10, hX11, hbp12, hf13⟩ := hb4.shut hX7 hlo8
  refine qd rfl rfl rfl (r_assign (v := (.slice none 0 0)) rfl) ?_
  refine qd rfl rfl rfl (r_assign (v := (.bool false)) rfl) ?_
  refine qe ?_
  refine s_then ?_
  refine s_seq ?_
  refine s_seq ?_
  refine c_reg ?_
  refine qd rfl rfl rfl (r_ldpA (cs := [v, (.bool lf)]) ag70 sz70 rfl (fun j u hj => hX11.pins _ _ _ (hbp12 _ _ (by simpa using hj)))) ?_
  refine q1 rfl rfl rfl (o_call (vs := [(.agg [v, (.bool lf)].toArray)]) Try.func76 nm76 rfl rfl rfl ?_)
  refine Calls.mono (iGoodTable_spec hX11.pins (hv.mono hle10)) ?_
  rintro _ w15 ⟨G14, rfl, hx16⟩
  refine ⟨_, rfl, ?_⟩
  have hX17 := hX11.tr hx16
  refine qd rfl rfl rfl (r_not rfl) ?_
  refine qe ?_
  refine s_then ?_
  refine c_ifn rfl rfl (fun h18 => ?_) (fun h18 => ?_)
  · skip
    refine wp_skip ?_
    refine s_then ?_
    refine s_seq ?_
    refine c_reg ?_
    refine qd rfl rfl rfl (r_ldpA (cs := [v, (.bool lf)]) ag70 sz70 rfl (fun j u hj => (Pins.of_le hX17.pins hx16.le) _ _ _ (hbp12 _ _ (by simpa using hj)))) ?_
    refine q1 rfl rfl rfl (o_call (vs := [(.agg [v, (.bool lf)].toArray)]) Try.func77 nm77 rfl rfl rfl ?_)
    refine Calls.mono (imoves_spec hX17.pins (hv.mono (Pin.le_trans hle10 hx16.le)) (decP_true.1 (show goodT fs = true by simpa using h18))) ?_
    rintro _ w21 ⟨u19, G20, rfl, ho22, hx23⟩
    refine ⟨_, rfl, ?_⟩
    have hX24 := hX17.tr hx23
    have ho25 : Own eP2 120 G20 w21 w.heap.size u19 (movesL lf fs fs.length) := ho22.weaken hX17.size
    refine qd rfl rfl rfl (r_assign (v := u19) rfl) ?_
    refine qd rfl rfl rfl (r_assign (v := (.bool true)) rfl) ?_
    refine qe ?_
    refine s_then ?_
    refine wp_ret ?_
    refine s_ret ?_
    refine c_ret2 (v := u19) (u := (.bool true)) rfl rfl rfl rfl rfl ?_
    have hgf : goodT fs = true := by simpa using h18
    rw [hgf, mv_yes hgf]
    exact ⟨_, _, rfl, ho25, hX24⟩
  · skip
    refine s_seq ?_
    refine c_reg ?_
    refine q1 rfl rfl rfl (o_build0 (E := eP2) (e := 120) Try.underlying66 sz120 hX17.pins (fun u26 w27 ho28 hp29 hl30 hk31 => ?_))
    have hX32 := hX17.step hp29 hl30
    have ho33 : Own eP2 120 G14 w27 w.heap.size u26 ([]) := ho28.weaken hX17.size
    refine qd rfl rfl rfl (r_assign (v := u26) rfl) ?_
    refine qd rfl rfl rfl (r_assign (v := (.bool false)) rfl) ?_
    refine qe ?_
    refine s_then ?_
    refine wp_ret ?_
    refine s_ret ?_
    refine c_ret2 (v := u26) (u := (.bool false)) rfl rfl rfl rfl rfl ?_
    have hgf : goodT fs = false := by simpa using h18
    rw [hgf, mv_no hgf]
    exact ⟨_, _, rfl, ho33, hX32⟩

theorem l3All_spec {w : World} {G : Pin} {v : Value} {fs : List (List Nd)} {most : Int} (hP : Pins G w) (hv : RSl (eSl eNode) G v fs) :
    Calls Try.prog 113 [v, (.int .i64 most)].toArray w fun e w' => ∃ G', e = .returned (.bool (decP (((fs.length : Int) ≤ most) ∧ ∀ i, i < fs.length → GoodS (fs.getD i [])))) ∧ Ext noS G w G' w' := by
  refine s_enter (n := 27) Try.func113 Try.ntmps113 rfl rfl ?_
  have hX0 : Ext noS G w G w := Ext.refl hP
  have hm := hv.max
  refine s_seq ?_
  refine c_reg ?_
  refine qd rfl rfl rfl (r_assign (v := (.bool false)) rfl) ?_
  refine qe ?_
  refine s_then ?_
  refine s_seq ?_
  refine s_seq ?_
  refine c_reg ?_
  refine qd rfl rfl rfl (r_assign (v := (.int .i64 0)) rfl) ?_
  refine qe ?_
  refine s_then ?_
  refine s_blk ?_
  refine s_loop (fun (k : Nat) (en : Nat → Value) (W : World) => ∃ (env1 : Nat → Value) (j : Nat) (GL1 : Pin), en = (upd (upd (upd env1 0 v) 1 (.int .i64 most)) 5 (.int .i64 (j : Int))) ∧ k = fs.length - j ∧ Ext noS G w GL1 W ∧ Pin.le G GL1 ∧ (j ≤ fs.length) ∧ (∀ i, i < j → GoodS (fs.getD i []))) _ ⟨_, 0, G, (packS (x := 5) (packS (x := 1) (pack1 (x := 0) rfl) rfl) rfl), rfl, hX0, Pin.le_refl _, Nat.zero_le _, (fun i hi => absurd hi (Nat.not_lt_zero i))⟩ ?_
  rintro k1 _ w2 ⟨env1, j, GL1, rfl, hk3, hX4, hlek1, hj, hp⟩
  refine s_seq ?_
  refine s_seq ?_
  refine c_reg ?_
  refine qd rfl rfl rfl (r_move (v := (.int .i64 (j : Int))) rfl) ?_
  refine qd rfl rfl rfl (r_move (v := v) rfl) ?_
  refine qd rfl rfl rfl (run_len Try.underlying35 (v := v) rfl hv) ?_
  refine qd rfl rfl rfl (r_lss rfl rfl) ?_
  refine qd rfl rfl rfl (r_move (v := (.bool (decide (((j : Int) : Int) < (fs.length : Int))))) rfl) ?_
  refine qbd (p := ((j : Int) : Int) < (fs.length : Int)) (t := 10) rfl (fun h5 => ?_) (fun h5 => ?_)
  · skip
    refine qdg rfl rfl rfl rfl rfl rfl (r_move (v := (.int .i64 (j : Int))) rfl) ?_
    refine qdg rfl rfl rfl rfl rfl rfl (r_move (v := (.int .i64 most)) rfl) ?_
    refine qdg rfl rfl rfl rfl rfl rfl (r_leq rfl rfl) ?_
    refine qd rfl rfl rfl (r_pickT (v := (.bool (decide (((j : Int) : Int) ≤ most)))) rfl rfl) ?_
    refine qe ?_
    refine s_then ?_
    refine c_ifd (p := ((j : Int) : Int) ≤ most) rfl rfl (fun h6 => ?_) (fun h6 => ?_)
    · skip
      refine wp_skip ?_
      refine s_then ?_
      refine s_seq ?_
      refine s_blk ?_
      refine s_seq ?_
      refine c_reg ?_
      refine qd rfl rfl rfl (r_move (v := v) rfl) ?_
      refine qd rfl rfl rfl (r_move (v := (.int .i64 (j : Int))) rfl) ?_
      refine qd rfl rfl rfl (run_idx Try.underlying35 sz26 (v := v) rfl rfl hv (by omega) (by omega)) ?_
      obtain ⟨u7, hr8, hl9⟩ := nm_form (hv.at (z := (j : Int)) (by omega) (by omega)) (j := j) rfl
      have hm10 := hr8.max
      refine qd rfl rfl rfl (hl9 ag26 sz26 rfl (Pins.of_le hX4.pins hlek1)) ?_
      refine q1 rfl rfl rfl (o_call (vs := [(.agg [u7].toArray)]) Try.func49 nm49 rfl rfl rfl ?_)
      refine Calls.mono (l3Good_spec hX4.pins (hr8.mono hlek1)) ?_
      rintro _ w12 ⟨G11, rfl, hx13⟩
      refine ⟨_, rfl, ?_⟩
      have hX14 := hX4.tr hx13
      refine qd rfl rfl rfl (r_not rfl) ?_
      refine qe ?_
      refine s_then ?_
      refine c_ifn rfl rfl (fun h15 => ?_) (fun h15 => ?_)
      · skip
        refine wp_skip ?_
        refine s_blkN ?_
        refine s_then ?_
        refine c_reg ?_
        refine qd rfl rfl rfl (r_move (v := (.int .i64 (j : Int))) rfl) ?_
        refine qd rfl rfl rfl (r_add rfl rfl (by omega)) ?_
        refine qd rfl rfl rfl (r_assign (v := (.int .i64 ((j : Int) + 1))) rfl) ?_
        refine qe ?_
        refine s_lopN ?_
        refine ⟨_, ?_, _, rfl, _, j + 1, G11, (packS (x := 5) (packS (x := 1) (pack1 (x := 0) rfl) rfl) rfl), rfl, hX14, (Pin.le_trans hlek1 hx13.le), (by omega), (fun i hi => if h3 : i = j then h3 ▸ decP_true.1 h15 else hp i (by omega))⟩
        omega
      · skip
        refine s_seq ?_
        refine c_reg ?_
        refine qd rfl rfl rfl (r_assign (v := (.bool false)) rfl) ?_
        refine qe ?_
        refine s_then ?_
        refine wp_ret ?_
        refine s_ret ?_
        refine c_ret1 (v := (.bool false)) rfl rfl rfl ?_
        exact ⟨_, congrArg (fun z => Ending.returned (Value.bool z)) (decP_false.2 (fun g => by have := g.2 j (by omega); rw [decP_true.2 this] at h15; cases h15)).symm, hX14⟩
    · skip
      refine wp_exit ?_
      refine s_thenE ?_
      refine s_lopE ?_
      refine s_blkE ?_
      refine s_then ?_
      refine s_seq ?_
      refine c_reg ?_
      refine qd rfl rfl rfl (r_move (v := v) rfl) ?_
      refine qd rfl rfl rfl (run_len Try.underlying35 (v := v) rfl hv) ?_
      refine qd rfl rfl rfl (r_move (v := (.int .i64 most)) rfl) ?_
      refine qd rfl rfl rfl (r_leq rfl rfl) ?_
      refine qd rfl rfl rfl (r_assign (v := (.bool (decide (((fs.length : Int) : Int) ≤ most)))) rfl) ?_
      refine qe ?_
      refine s_then ?_
      refine wp_ret ?_
      refine s_ret ?_
      refine c_ret1 (v := (.bool (decide (((fs.length : Int) : Int) ≤ most)))) rfl rfl rfl ?_
      exact ⟨_, congrArg (fun z => Ending.returned (Value.bool z)) (decP_dec.symm.trans (decP_iff ⟨fun h => ⟨h, fun i hi => hp i (by omega)⟩, fun h => h.1⟩)), hX4⟩
  · skip
    refine qs rfl rfl rfl rfl rfl rfl ?_
    refine qs rfl rfl rfl rfl rfl rfl ?_
    refine qs rfl rfl rfl rfl rfl rfl ?_
    refine qd rfl rfl rfl (r_pickF (v := (.bool false)) rfl rfl) ?_
    refine qe ?_
    refine s_then ?_
    refine c_ifF rfl rfl ?_
    refine wp_exit ?_
    refine s_thenE ?_
    refine s_lopE ?_
    refine s_blkE ?_
    refine s_then ?_
    refine s_seq ?_
    refine c_reg ?_
    refine qd rfl rfl rfl (r_move (v := v) rfl) ?_
    refine qd rfl rfl rfl (run_len Try.underlying35 (v := v) rfl hv) ?_
    refine qd rfl rfl rfl (r_move (v := (.int .i64 most)) rfl) ?_
    refine qd rfl rfl rfl (r_leq rfl rfl) ?_
    refine qd rfl rfl rfl (r_assign (v := (.bool (decide (((fs.length : Int) : Int) ≤ most)))) rfl) ?_
    refine qe ?_
    refine s_then ?_
    refine wp_ret ?_
    refine s_ret ?_
    refine c_ret1 (v := (.bool (decide (((fs.length : Int) : Int) ≤ most)))) rfl rfl rfl ?_
    exact ⟨_, congrArg (fun z => Ending.returned (Value.bool z)) (decP_dec.symm.trans (decP_iff ⟨fun h => ⟨h, fun i hi => hp i (by omega)⟩, fun h => h.1⟩)), hX4⟩

theorem l14Good_spec {w : World} {G : Pin} {v : Value} {lf : Bool} {fs : List (List Nd)} (hP : Pins G w) (hv : RSl (eSl eNode) G v fs) :
    Calls Try.prog 73 [(.agg [v, (.bool lf)].toArray)].toArray w fun e w' => ∃ G', e = .returned (.bool (goodT fs)) ∧ Ext noS G w G' w' := by
  refine s_enter (n := 6) Try.func73 Try.ntmps73 rfl rfl ?_
  have hX0 : Ext noS G w G w := Ext.refl hP
  refine s_seq ?_
  refine c_reg ?_
  refine q1 rfl rfl rfl (o_box [v, (.bool lf)] (v := (.agg [v, (.bool lf)].toArray)) rfl rfl hX0.pins (fun b1 w2 hk3 hb4 hp5 hl6 => ?_))
  have hX7 := hX0.step hp5 hl6
  have hlo8 : w.heap.size ≤ b1 := by have := hX0.size; omega
  obtain ⟨G9, hle10, hX11, hbp12, hf13⟩ := hb4.shut hX7 hlo8
  refine qd rfl rfl rfl (r_assign (v := (.bool false)) rfl) ?_
  refine qe ?_
  refine s_then ?_
  refine s_seq ?_
  refine c_reg ?_
  refine qd rfl rfl rfl (r_fldp (k := 0) rfl Try.underlying70 rfl nz35 rfl) ?_
  refine qd rfl rfl rfl (r_ldp1 (u := v) ag35 rfl (hX11.pins _ _ _ (hbp12 0 _ rfl))) ?_
  refine q1 rfl rfl rfl (o_call (vs := [v, (.int .i64 6)]) Try.func113 nm113 rfl rfl rfl ?_)
  refine Calls.mono (l3All_spec hX11.pins (hv.mono hle10)) ?_
  rintro _ w15 ⟨G14, rfl, hx16⟩
  refine ⟨_, rfl, ?_⟩
  have hX17 := hX11.tr hx16
  refine qd rfl rfl rfl (r_assign (v := (.bool (decP (((fs.length : Int) ≤ 6) ∧ ∀ i, i < fs.length → GoodS (fs.getD i []))))) rfl) ?_
  refine qe ?_
  refine s_then ?_
  refine wp_ret ?_
  refine s_ret ?_
  refine c_ret1 (v := (.bool (decP (((fs.length : Int) ≤ 6) ∧ ∀ i, i < fs.length → GoodS (fs.getD i []))))) rfl rfl rfl ?_
  exact ⟨_, congrArg (fun z => Ending.returned (Value.bool z)) goodT_of.symm, hX17⟩

theorem l3Part_spec {w : World} {G : Pin} {v : Value} {ns : List Nd} {z : Int} (hP : Pins G w) (hv : RSl eNode G v ns) (hf : FormOk ns) (hz : 0 ≤ z ∧ z < ns.length) :
    Calls Try.prog 91 [(.agg [v].toArray), (.int .i64 z)].toArray w fun e w' => ∃ (u : Value) (G' : Pin), e = .returned (.agg [u].toArray) ∧ RSl eNode G' u (partS ns z) ∧ Ext noS G w G' w' := by
  refine s_enter (n := 18) Try.func91 Try.ntmps91 rfl rfl ?_
  have hX0 : Ext noS G w G w := Ext.refl hP
  have hfl := hf.len
  have hao := addM_all book_empty hf (by simp; omega)
  have hal := hao.len
  refine s_seq ?_
  refine c_reg ?_
  refine q1 rfl rfl rfl (o_box [v] (v := (.agg [v].toArray)) rfl rfl hX0.pins (fun b1 w2 hk3 hb4 hp5 hl6 => ?_))
  have hX7 := hX0.step hp5 hl6
  have hlo8 : w.heap.size ≤ b1 := by have := hX0.size; omega
  obtain ⟨G9, hle10, hX11, hbp12, hf13⟩ := hb4.shut hX7 hlo8
  refine q1 rfl rfl rfl (o_alloc [(.slice none 0 0)] zr26 rfl hX11.pins (fun b14 w15 hk16 hb17 hp18 hl19 => ?_))
  have hX20 := hX11.step hp18 hl19
  have hlo21 : w.heap.size ≤ b14 := by have := hX11.size; omega
  refine qe ?_
  refine s_then ?_
  refine s_seq ?_
  refine c_reg ?_
  refine qd rfl rfl rfl (r_build [(.slice none 0 0), (.slice none 0 0)] [(.slice none 0 0), (.slice none 0 0)] [] Try.underlying131 zr131 rfl pl131 rfl (fun _ h => by cases h) rfl) ?_
  refine q1 rfl rfl rfl (o_box [(.slice none 0 0), (.slice none 0 0)] (v := (.agg [(.slice none 0 0), (.slice none 0 0)].toArray)) rfl rfl hX20.pins (fun b22 w23 hk24 hb25 hp26 hl27 => ?_))
  have hX28 := hX20.step hp26 hl27
  have hb29 := hb17.below hl27
  have ha30 : Apart (some b22) (some b14) := new_ne_box (congrArg some hk24) hb17.lt
  have hlo31 : w.heap.size ≤ b22 := by have := hX20.size; omega
  refine qd rfl rfl rfl (r_assign (v := (.pointer (some ⟨b22, 0, none⟩))) rfl) ?_
  refine qe ?_
  refine s_then ?_
  refine s_seq ?_
  refine c_reg ?_
  refine qd rfl rfl rfl (r_move (v := (.pointer (some ⟨b22, 0, none⟩))) rfl) ?_
  refine qd rfl rfl rfl (r_ldpA (cs := [v]) ag26 sz26 rfl (fun j u hj => hX28.pins _ _ _ (hbp12 _ _ (by simpa using hj)))) ?_
  refine q1 rfl rfl rfl (o_call (vs := [(.pointer (some ⟨b22, 0, none⟩)), (.agg [v].toArray)]) Try.func124 nm124 rfl rfl rfl ?_)
  refine Calls.mono (add_spec hX28.pins ⟨hb25, (Own.nil _ _ _ _ _), (Own.nil _ _ _ _ _), apart_none.symm, apart_none.symm, apart_none⟩ book_empty (hv.mono hle10) hf (by first | omega | (simp; omega))) ?_
  rintro _ w35 ⟨u40, u32, v33, G34, rfl, hr41, hbk36, hx37, hlu38, hlv39⟩
  refine ⟨_, rfl, ?_⟩
  have hin42 : ∀ i, inS b22 (.slice none 0 0) (.slice none 0 0) i → w.heap.size ≤ i ∨ noS i := inS_lo (lo_box hlo31) (lo_none _ _) (lo_none _ _)
  have hX43 := hX28.trans hx37 hin42
  have hn44 := notS (u := (.slice none 0 0)) (v := (.slice none 0 0)) ha30.symm apart_none.symm apart_none.symm
  have ho45 := hb29.extS hx37 (notSb hn44)
  have ha46 : Apart (some b14) u32.ownBlock := ap_call hlu38 hn44 (box_lt hb29)
  have ha47 : Apart (some b14) v33.ownBlock := ap_call hlv39 hn44 (box_lt hb29)
  have hb48 := hbk36.bx
  have ho49 := hbk36.ou
  have ho50 := hbk36.ov
  have ha51 := hbk36.abu
  have ha52 := hbk36.abv
  have ha53 := hbk36.auv
  have hlo54 := lo_call hlu38 hin42 hX28.size
  have hlo55 := lo_call hlv39 hin42 hX28.size
  refine qd rfl rfl rfl (r_assign (v := u40) rfl) ?_
  refine qe ?_
  refine s_then ?_
  refine s_seq ?_
  refine c_reg ?_
  refine qd rfl rfl rfl (r_move (v := (.pointer (some ⟨b22, 0, none⟩))) rfl) ?_
  refine qd rfl rfl rfl (r_move (v := u40) rfl) ?_
  refine qd rfl rfl rfl (r_move (v := (.int .i64 z)) rfl) ?_
  refine qd rfl rfl rfl (run_idx Try.underlying29 sz3 (v := u40) rfl rfl hr41 (by omega) (by omega)) ?_
  refine qd rfl rfl rfl (run_load_int (r := ((addM ([]) ([]) ns).1).getD (z).toNat 0) rfl ag3 (z := z) rfl hr41 hX43.pins (by omega) (by omega)) ?_
  refine q1 rfl rfl rfl (o_call (vs := [(.pointer (some ⟨b22, 0, none⟩)), (.int .i64 (((addM ([]) ([]) ns).1).getD (z).toNat 0))]) Try.func89 nm89 rfl rfl rfl ?_)
  refine Calls.mono (form_spec hX43.pins ⟨hb48, ho49, ho50, ha51, ha52, ha53⟩ hao.book (hao.places _ (by omega))) ?_
  rintro _ w58 ⟨u56, G57, rfl, hr59, hx60⟩
  refine ⟨_, rfl, ?_⟩
  have hX61 := hX43.tr hx60
  have ho62 := ho49.ext hx60
  have ho63 := ho50.ext hx60
  have hb64 := ho45.ext hx60
  have hb65 := hb48.ext hx60
  refine q0 rfl rfl rfl (o_stp (cs' := [u56]) (us := [u56]) (v := (.agg [u56].toArray)) sz26 rfl rfl rfl (ones1 hr59.one) hX61.pins hb64 (Nat.le_of_ble_eq_true rfl) rfl (fun w66 hb67 hp68 hg69 hz70 => ?_))
  have hX71 := hX61.write hp68 hg69 ((lo_box hlo21))
  have ho72 := ho62.keptA hg69 ha46.symm
  have ho73 := ho63.keptA hg69 ha47.symm
  have hb74 := hb65.keptA hg69 ha30
  refine qe ?_
  refine s_then ?_
  refine wp_ret ?_
  refine s_ret ?_
  refine c_retc (cs := [u56]) rfl rfl rfl ag26 sz26 (fun j u hj => by rw [Nat.zero_add]; exact hb67.cell hj) ?_
  exact ⟨_, _, rfl, hr59, hX71⟩

theorem l3Opts_spec {w : World} {G : Pin} {v : Value} {ns : List Nd} (hP : Pins G w) (hv : RSl eNode G v ns) (hg : GoodP ns) :
    Calls Try.prog 51 [(.agg [v].toArray)].toArray w fun e w' => ∃ (u v : Value) (G' : Pin), e = .returned (.tuple #[u, v]) ∧ RSl (eSl eNode) G' u (optsS ns (lastN ns).l) ∧ RSl (eSl eNode) G' v (optsS ns (lastN ns).r) ∧ Ext noS G w G' w' := by
  refine s_enter (n := 55) Try.func51 Try.ntmps51 rfl rfl ?_
  have hX0 : Ext noS G w G w := Ext.refl hP
  have hlo := hg.lo
  have hhi := hg.hi
  have hlast : ((ns.length : Int) - 1).toNat = ns.length - 1 := by omega
  have hL := optL_at hg true
  have hR := optL_at hg false
  have hLl := optL_len (left := true) hg
  have hRl := optL_len (left := false) hg
  rw [show optL true ns = (lastN ns).l from rfl] at hL hLl
  rw [show optL false ns = (lastN ns).r from rfl] at hR hRl
  have elast : lastN ns = ns.getD ((ns.length : Int) - 1).toNat default := by unfold lastN; rw [hlast]
  rw [elast] at hL hR hLl hRl
  refine s_seq ?_
  refine c_reg ?_
  refine q1 rfl rfl rfl (o_box [v] (v := (.agg [v].toArray)) rfl rfl hX0.pins (fun b1 w2 hk3 hb4 hp5 hl6 => ?_))
  have hX7 := hX0.step hp5 hl6
  have hlo8 : w.heap.size ≤ b1 := by have := hX0.size; omega
  obtain ⟨G9, hle10, hX11, hbp12, hf13⟩ := hb4.shut hX7 hlo8
  refine qd rfl rfl rfl (r_assign (v := (.slice none 0 0)) rfl) ?_
  refine qd rfl rfl rfl (r_assign (v := (.slice none 0 0)) rfl) ?_
  refine qe ?_
  refine s_then ?_
  refine s_seq ?_
  refine c_reg ?_
  refine q1 rfl rfl rfl (o_build0 (E := (eSl eNode)) (e := 26) Try.underlying35 sz26 hX11.pins (fun u14 w15 ho16 hp17 hl18 hk19 => ?_))
  have hX20 := hX11.step hp17 hl18
  have ho21 : Own (eSl eNode) 26 G9 w15 w.heap.size u14 ([]) := ho16.weaken hX11.size
  refine q1 rfl rfl rfl (o_build0 (E := (eSl eNode)) (e := 26) Try.underlying35 sz26 hX20.pins (fun u22 w23 ho24 hp25 hl26 hk27 => ?_))
  have hX28 := hX20.step hp25 hl26
  have ho29 := ho21.below hl26
  have ha30 : Apart u22.ownBlock u14.ownBlock := new_ne_own hk27 ho21.lt
  have ho31 : Own (eSl eNode) 26 G9 w23 w.heap.size u22 ([]) := ho24.weaken hX20.size
  refine qd rfl rfl rfl (r_assign (v := u14) rfl) ?_
  refine qd rfl rfl rfl (r_assign (v := u22) rfl) ?_
  refine qe ?_
  refine s_then ?_
  refine s_seq ?_
  refine c_reg ?_
  refine qd rfl rfl rfl (r_fldp (k := 0) rfl Try.underlying26 rfl nz24 rfl) ?_
  refine qd rfl rfl rfl (r_ldp1 (u := v) ag24 rfl (hX28.pins _ _ _ (hbp12 0 _ rfl))) ?_
  refine qd rfl rfl rfl (r_fldp (k := 0) rfl Try.underlying26 rfl nz24 rfl) ?_
  refine qd rfl rfl rfl (r_ldp1 (u := v) ag24 rfl (hX28.pins _ _ _ (hbp12 0 _ rfl))) ?_
  refine qd rfl rfl rfl (run_len Try.underlying24 (v := v) rfl hv) ?_
  refine qd rfl rfl rfl (r_sub rfl rfl (by omega)) ?_
  refine qd rfl rfl rfl (run_idx Try.underlying24 sz82 (v := v) rfl rfl hv (by omega) (by omega)) ?_
  obtain ⟨u32, u33, hr34, hr35, hl36⟩ := nm_node (hv.at (z := ((ns.length : Int) - 1)) (by omega) (by omega)) (j := ((ns.length : Int) - 1).toNat) rfl
  have hm37 := hr34.max
  have hm38 := hr35.max
  refine qd rfl rfl rfl (hl36 ag82 sz82 rfl (Pins.of_le hX28.pins hle10)) ?_
  refine q1 rfl rfl rfl (o_alloc [(.slice none 0 0), (.slice none 0 0)] zr82 rfl hX28.pins (fun b39 w40 hk41 hb42 hp43 hl44 => ?_))
  have hX45 := hX28.step hp43 hl44
  have ho46 := ho29.below hl44
  have ho47 := ho31.below hl44
  have ha48 : Apart (some b39) u14.ownBlock := new_ne_own (congrArg some hk41) ho29.lt
  have ha49 : Apart (some b39) u22.ownBlock := new_ne_own (congrArg some hk41) ho31.lt
  have hlo50 : w.heap.size ≤ b39 := by have := hX28.size; omega
  refine q0 rfl rfl rfl (o_stp (cs' := [u32, u33]) (us := [u32, u33]) (v := (.agg [u32, u33].toArray)) sz82 rfl rfl rfl (ones2 hr34.one hr35.one) hX45.pins hb42 (Nat.le_of_ble_eq_true rfl) rfl (fun w51 hb52 hp53 hg54 hz55 => ?_))
  have hX56 := hX45.write hp53 hg54 ((lo_box hlo50))
  have ho57 := ho46.keptA hg54 ha48.symm
  have ho58 := ho47.keptA hg54 ha49.symm
  obtain ⟨G59, hle60, hX61, hbp62, hf63⟩ := hb52.shut hX56 hlo50
  have ho64 := ho57.moreA hle60 hf63 ha48.symm
  have ho65 := ho58.moreA hle60 hf63 ha49.symm
  refine qe ?_
  refine s_then ?_
  refine s_seq ?_
  refine s_seq ?_
  refine c_reg ?_
  refine qd rfl rfl rfl (r_assign (v := (.int .i64 0)) rfl) ?_
  refine qe ?_
  refine s_then ?_
  refine s_blk ?_
  refine s_loop (fun (k : Nat) (en : Nat → Value) (W : World) => ∃ (env1 : Nat → Value) (j : Nat) (ovA : Value) (osA : List (List Nd)) (GA : Pin), en = (upd (upd (upd (upd (upd (upd (upd env1 1 (.pointer (some ⟨b1, 0, none⟩))) 2 (.slice none 0 0)) 3 (.slice none 0 0)) 4 ovA) 5 u22) 6 (.pointer (some ⟨b39, 0, none⟩))) 7 (.int .i64 (j : Int))) ∧ k = (ns.getD ((ns.length : Int) - 1).toNat default).l.length - j ∧ Ext noS G w GA W ∧ Pin.le G59 GA ∧ (j ≤ (ns.getD ((ns.length : Int) - 1).toNat default).l.length) ∧ (osA = optsS ns ((ns.getD ((ns.length : Int) - 1).toNat default).l.take j)) ∧ (osA.length = j) ∧ (Own (eSl eNode) 26 GA W w.heap.size ovA (osA)) ∧ (Own (eSl eNode) 26 GA W w.heap.size u22 ([])) ∧ (Apart ovA.ownBlock u22.ownBlock)) _ ⟨_, 0, u14, [], G59, (packS (x := 7) (packS (x := 6) (packS (x := 5) (packS (x := 4) (packS (x := 3) (packS (x := 2) (pack1 (x := 1) rfl) rfl) rfl) rfl) rfl) rfl) rfl), rfl, hX61, Pin.le_refl _, Nat.zero_le _, rfl, rfl, ho64, ho65, ha30.symm⟩ ?_
  rintro k66 _ w67 ⟨env1, j, ovA, osA, GA, rfl, hk68, hX69, hlek66, hjA, hosA, holA, hw70, hw71, ha72⟩
  refine s_seq ?_
  refine s_seq ?_
  refine c_reg ?_
  refine qd rfl rfl rfl (r_move (v := (.int .i64 (j : Int))) rfl) ?_
  refine qd rfl rfl rfl (r_fldp (k := 0) rfl Try.underlying82 rfl nz29 rfl) ?_
  refine qd rfl rfl rfl (r_ldp1 (u := u32) ag29 rfl ((Pins.of_le hX69.pins hlek66) _ _ _ (hbp62 0 _ rfl))) ?_
  refine qd rfl rfl rfl (run_len Try.underlying29 (v := u32) rfl hr34) ?_
  refine qd rfl rfl rfl (r_lss rfl rfl) ?_
  refine qe ?_
  refine s_then ?_
  refine c_ifd (p := ((j : Int) : Int) < (((ns.getD ((ns.length : Int) - 1).toNat default).l).length : Int)) rfl rfl (fun h73 => ?_) (fun h73 => ?_)
  · skip
    refine wp_skip ?_
    refine s_then ?_
    refine s_seq ?_
    refine s_blk ?_
    refine c_draw (S := fun w => Pins GA w) (last := 11) (by kernel_rfl) rfl ?_
    have hl74 : Below w67.heap.size w67 w67.drew := (Below.refl _ _).drew
    have hp75 := hX69.pins.below hl74
    have hX76 := hX69.step hp75 hl74
    have ho77 := hw70.below hl74
    have ho78 := hw71.below hl74
    refine dr_take (i := 0) rfl rfl rfl (want_none rfl _) (by kernel_rfl) (fun _ _ => r_move (v := ovA) rfl) hX76.pins ?_
    refine dr_take (i := 1) rfl rfl rfl (want_none rfl _) (by kernel_rfl) (fun _ hS => r_ldpA (cs := [v]) ag26 sz26 rfl (fun j u hj => (Pins.of_le hS (Pin.le_trans hle60 hlek66)) _ _ _ (hbp12 _ _ (by simpa using hj)))) hX76.pins ?_
    refine dr_take (i := 2) rfl rfl rfl (want_none rfl _) (by kernel_rfl) (fun _ _ => r_fldp (k := 0) rfl Try.underlying82 rfl nz29 rfl) hX76.pins ?_
    refine dr_take (i := 3) rfl rfl rfl (want_none rfl _) (by kernel_rfl) (fun _ hS => r_ldp1 (u := u32) ag29 rfl ((Pins.of_le hS hlek66) _ _ _ (hbp62 0 _ rfl))) hX76.pins ?_
    refine dr_take (i := 4) rfl rfl rfl (want_none rfl _) (by kernel_rfl) (fun _ _ => r_move (v := (.int .i64 (j : Int))) rfl) hX76.pins ?_
    refine dr_take (i := 5) rfl rfl rfl (want_none rfl _) (by kernel_rfl) (fun _ _ => run_idx Try.underlying29 sz3 (v := u32) rfl rfl hr34 (by omega) (by omega)) hX76.pins ?_
    refine dr_take (i := 6) rfl rfl rfl (want_none rfl _) (by kernel_rfl) (fun _ hS => run_load_int (r := ((ns.getD ((ns.length : Int) - 1).toNat default).l).getD j 0) rfl ag3 (z := (j : Int)) rfl hr34 (Pins.of_le hS (Pin.le_trans (Pin.le_trans hle10 hle60) hlek66)) (by omega) (by omega)) hX76.pins ?_
    refine dr_one (i := 7) (by kernel_rfl) (drOp1 (i := 7) rfl rfl rfl (want_none rfl _) (o_call (vs := [(.agg [v].toArray), (.int .i64 (((ns.getD ((ns.length : Int) - 1).toNat default).l).getD j 0))]) Try.func91 nm91 rfl rfl rfl ?_))
    refine Calls.mono (l3Part_spec hX76.pins (hv.mono (Pin.le_trans (Pin.le_trans hle10 hle60) hlek66)) (good_form hg) (hL _ (by omega))) ?_
    rintro _ w81 ⟨u79, G80, rfl, hr82, hx83⟩
    refine ⟨_, rfl, ?_⟩
    have hX84 := hX76.tr hx83
    have ho85 := ho77.ext hx83
    have ho86 := ho78.ext hx83
    refine ⟨fun _ => (Pins.of_le hX84.pins hx83.le), ?_⟩
    refine dr_one (i := 8) (by kernel_rfl) (drOp1 (i := 8) rfl rfl rfl (want_none rfl _) (o_build1 (E := (eSl eNode)) (e := 26) [u79] (partS ns (((ns.getD ((ns.length : Int) - 1).toNat default).l).getD j 0)) Try.underlying35 sz26 zr26 ⟨_, rfl, hr82⟩ rfl (by decide) hX84.pins (fun u87 w88 ho89 hp90 hl91 hk92 => ?_)))
    have hX93 := hX84.step hp90 hl91
    have ho94 := ho85.below hl91
    have ho95 := ho86.below hl91
    have ha96 : Apart u87.ownBlock ovA.ownBlock := new_ne_own hk92 ho85.lt
    have ha97 : Apart u87.ownBlock u22.ownBlock := new_ne_own hk92 ho86.lt
    have ho98 : Own (eSl eNode) 26 G80 w88 w.heap.size u87 ([partS ns (((ns.getD ((ns.length : Int) - 1).toNat default).l).getD j 0)]) := ho89.weaken hX84.size
    refine ⟨fun _ => (Pins.of_le hX93.pins hx83.le), ?_⟩
    refine dr_one (i := 9) (by kernel_rfl) (drOp1 (i := 9) rfl rfl rfl (want_none rfl _) (o_append (E := (eSl eNode)) (v := ovA) (u := u87) 24 Try.underlying35 ap26 (by decide) rfl rfl hX93.pins ho94 ho98.src (by first | omega | (rw [List.nil_append]; omega) | (rw [List.length_nil]; omega) | (rw [List.length_append]; omega) | (simp; done) | (simp; omega)) (by first | omega | (rw [List.nil_append]; omega) | (rw [List.length_nil]; omega) | (rw [List.length_append]; omega) | (simp; done) | (simp; omega)) (hX93.size) (fun u99 w100 ho101 hp102 hg103 hw104 => ?_)))
    have hX105 := hX93.write hp102 hg103 ((lo_own ho94))
    have ho106 := ho95.keptA hg103 ha72.symm
    have ho107 := ho98.keptA hg103 ha96
    have ha108 : Apart u22.ownBlock u99.ownBlock := app_ne_own ha72.symm hw104 ho95.lt
    have ha109 : Apart u87.ownBlock u99.ownBlock := app_ne_own ha96 hw104 ho98.lt
    have hm110 : (osA ++ ([partS ns (((ns.getD ((ns.length : Int) - 1).toNat default).l).getD j 0)])).length = osA.length + 1 := by simp
    refine ⟨fun _ => (Pins.of_le hX105.pins hx83.le), ?_⟩
    refine dr_take (i := 10) rfl rfl rfl (want_none rfl _) (by kernel_rfl) (fun _ _ => r_assign (v := u99) rfl) (Pins.of_le hX105.pins hx83.le) ?_
    refine dr_end (by kernel_rfl) ?_
    refine s_blkN ?_
    refine s_then ?_
    refine c_reg ?_
    refine qd rfl rfl rfl (r_move (v := (.int .i64 (j : Int))) rfl) ?_
    refine qd rfl rfl rfl (r_add rfl rfl (by omega)) ?_
    refine qd rfl rfl rfl (r_assign (v := (.int .i64 ((j : Int) + 1))) rfl) ?_
    refine qe ?_
    refine s_lopN ?_
    refine ⟨_, ?_, _, rfl, _, j + 1, u99, osA ++ [partS ns ((ns.getD ((ns.length : Int) - 1).toNat default).l.getD j 0)], G80, (packS (x := 7) (packS (x := 6) (packS (x := 5) (packS (x := 4) (packS (x := 3) (packS (x := 2) (pack1 (x := 1) rfl) rfl) rfl) rfl) rfl) rfl) rfl), rfl, hX105, (Pin.le_trans hlek66 hx83.le), (by omega), (by rw [hosA]; exact optsS_next (by omega)), (by simp; omega), ho101, ho106, ha108.symm⟩
    omega
  · skip
    refine wp_exit ?_
    refine s_thenE ?_
    refine s_lopE ?_
    refine s_blkE ?_
    refine s_then ?_
    refine s_seq ?_
    refine s_seq ?_
    refine c_reg ?_
    refine qd rfl rfl rfl (r_assign (v := (.int .i64 0)) rfl) ?_
    refine qe ?_
    refine s_then ?_
    refine s_blk ?_
    refine s_loop (fun (k : Nat) (en : Nat → Value) (W : World) => ∃ (env1 : Nat → Value) (i : Nat) (ovB : Value) (osB : List (List Nd)) (GB : Pin), en = (upd (upd (upd (upd (upd (upd (upd env1 1 (.pointer (some ⟨b1, 0, none⟩))) 2 (.slice none 0 0)) 3 (.slice none 0 0)) 4 ovA) 5 ovB) 6 (.pointer (some ⟨b39, 0, none⟩))) 8 (.int .i64 (i : Int))) ∧ k = (ns.getD ((ns.length : Int) - 1).toNat default).r.length - i ∧ Ext noS G w GB W ∧ Pin.le GA GB ∧ (i ≤ (ns.getD ((ns.length : Int) - 1).toNat default).r.length) ∧ (osB = optsS ns ((ns.getD ((ns.length : Int) - 1).toNat default).r.take i)) ∧ (osB.length = i) ∧ (Own (eSl eNode) 26 GB W w.heap.size ovB (osB)) ∧ (Own (eSl eNode) 26 GB W w.heap.size ovA (osA)) ∧ (Apart ovB.ownBlock ovA.ownBlock)) _ ⟨_, 0, u22, [], GA, (packS (x := 8) (packS (x := 6) (packS (x := 5) (packS (x := 4) (packS (x := 3) (packS (x := 2) (pack1 (x := 1) rfl) rfl) rfl) rfl) rfl) rfl) rfl), rfl, hX69, Pin.le_refl _, Nat.zero_le _, rfl, rfl, hw71, hw70, ha72.symm⟩ ?_
    rintro k111 _ w112 ⟨env1, i, ovB, osB, GB, rfl, hk113, hX114, hlek111, hjB, hosB, holB, hw115, hw116, ha117⟩
    refine s_seq ?_
    refine s_seq ?_
    refine c_reg ?_
    refine qd rfl rfl rfl (r_move (v := (.int .i64 (i : Int))) rfl) ?_
    refine qd rfl rfl rfl (r_fldp (k := 1) rfl Try.underlying82 rfl nz29 rfl) ?_
    refine qd rfl rfl rfl (r_ldp1 (u := u33) ag29 rfl ((Pins.of_le hX114.pins (Pin.le_trans hlek66 hlek111)) _ _ _ (hbp62 1 _ rfl))) ?_
    refine qd rfl rfl rfl (run_len Try.underlying29 (v := u33) rfl hr35) ?_
    refine qd rfl rfl rfl (r_lss rfl rfl) ?_
    refine qe ?_
    refine s_then ?_
    refine c_ifd (p := ((i : Int) : Int) < (((ns.getD ((ns.length : Int) - 1).toNat default).r).length : Int)) rfl rfl (fun h118 => ?_) (fun h118 => ?_)
    · skip
      refine wp_skip ?_
      refine s_then ?_
      refine s_seq ?_
      refine s_blk ?_
      refine c_draw (S := fun w => Pins GB w) (last := 11) (by kernel_rfl) rfl ?_
      have hl119 : Below w112.heap.size w112 w112.drew := (Below.refl _ _).drew
      have hp120 := hX114.pins.below hl119
      have hX121 := hX114.step hp120 hl119
      have ho122 := hw115.below hl119
      have ho123 := hw116.below hl119
      refine dr_take (i := 0) rfl rfl rfl (want_none rfl _) (by kernel_rfl) (fun _ _ => r_move (v := ovB) rfl) hX121.pins ?_
      refine dr_take (i := 1) rfl rfl rfl (want_none rfl _) (by kernel_rfl) (fun _ hS => r_ldpA (cs := [v]) ag26 sz26 rfl (fun j u hj => (Pins.of_le hS (Pin.le_trans (Pin.le_trans hle60 hlek66) hlek111)) _ _ _ (hbp12 _ _ (by simpa using hj)))) hX121.pins ?_
      refine dr_take (i := 2) rfl rfl rfl (want_none rfl _) (by kernel_rfl) (fun _ _ => r_fldp (k := 1) rfl Try.underlying82 rfl nz29 rfl) hX121.pins ?_
      refine dr_take (i := 3) rfl rfl rfl (want_none rfl _) (by kernel_rfl) (fun _ hS => r_ldp1 (u := u33) ag29 rfl ((Pins.of_le hS (Pin.le_trans hlek66 hlek111)) _ _ _ (hbp62 1 _ rfl))) hX121.pins ?_
      refine dr_take (i := 4) rfl rfl rfl (want_none rfl _) (by kernel_rfl) (fun _ _ => r_move (v := (.int .i64 (i : Int))) rfl) hX121.pins ?_
      refine dr_take (i := 5) rfl rfl rfl (want_none rfl _) (by kernel_rfl) (fun _ _ => run_idx Try.underlying29 sz3 (v := u33) rfl rfl hr35 (by omega) (by omega)) hX121.pins ?_
      refine dr_take (i := 6) rfl rfl rfl (want_none rfl _) (by kernel_rfl) (fun _ hS => run_load_int (r := ((ns.getD ((ns.length : Int) - 1).toNat default).r).getD i 0) rfl ag3 (z := (i : Int)) rfl hr35 (Pins.of_le hS (Pin.le_trans (Pin.le_trans (Pin.le_trans hle10 hle60) hlek66) hlek111)) (by omega) (by omega)) hX121.pins ?_
      refine dr_one (i := 7) (by kernel_rfl) (drOp1 (i := 7) rfl rfl rfl (want_none rfl _) (o_call (vs := [(.agg [v].toArray), (.int .i64 (((ns.getD ((ns.length : Int) - 1).toNat default).r).getD i 0))]) Try.func91 nm91 rfl rfl rfl ?_))
      refine Calls.mono (l3Part_spec hX121.pins (hv.mono (Pin.le_trans (Pin.le_trans (Pin.le_trans hle10 hle60) hlek66) hlek111)) (good_form hg) (hR _ (by omega))) ?_
      rintro _ w126 ⟨u124, G125, rfl, hr127, hx128⟩
      refine ⟨_, rfl, ?_⟩
      have hX129 := hX121.tr hx128
      have ho130 := ho122.ext hx128
      have ho131 := ho123.ext hx128
      refine ⟨fun _ => (Pins.of_le hX129.pins hx128.le), ?_⟩
      refine dr_one (i := 8) (by kernel_rfl) (drOp1 (i := 8) rfl rfl rfl (want_none rfl _) (o_build1 (E := (eSl eNode)) (e := 26) [u124] (partS ns (((ns.getD ((ns.length : Int) - 1).toNat default).r).getD i 0)) Try.underlying35 sz26 zr26 ⟨_, rfl, hr127⟩ rfl (by decide) hX129.pins (fun u132 w133 ho134 hp135 hl136 hk137 => ?_)))
      have hX138 := hX129.step hp135 hl136
      have ho139 := ho130.below hl136
      have ho140 := ho131.below hl136
      have ha141 : Apart u132.ownBlock ovB.ownBlock := new_ne_own hk137 ho130.lt
      have ha142 : Apart u132.ownBlock ovA.ownBlock := new_ne_own hk137 ho131.lt
      have ho143 : Own (eSl eNode) 26 G125 w133 w.heap.size u132 ([partS ns (((ns.getD ((ns.length : Int) - 1).toNat default).r).getD i 0)]) := ho134.weaken hX129.size
      refine ⟨fun _ => (Pins.of_le hX138.pins hx128.le), ?_⟩
      refine dr_one (i := 9) (by kernel_rfl) (drOp1 (i := 9) rfl rfl rfl (want_none rfl _) (o_append (E := (eSl eNode)) (v := ovB) (u := u132) 24 Try.underlying35 ap26 (by decide) rfl rfl hX138.pins ho139 ho143.src (by first | omega | (rw [List.nil_append]; omega) | (rw [List.length_nil]; omega) | (rw [List.length_append]; omega) | (simp; done) | (simp; omega)) (by first | omega | (rw [List.nil_append]; omega) | (rw [List.length_nil]; omega) | (rw [List.length_append]; omega) | (simp; done) | (simp; omega)) (hX138.size) (fun u144 w145 ho146 hp147 hg148 hw149 => ?_)))
      have hX150 := hX138.write hp147 hg148 ((lo_own ho139))
      have ho151 := ho140.keptA hg148 ha117.symm
      have ho152 := ho143.keptA hg148 ha141
      have ha153 : Apart ovA.ownBlock u144.ownBlock := app_ne_own ha117.symm hw149 ho140.lt
      have ha154 : Apart u132.ownBlock u144.ownBlock := app_ne_own ha141 hw149 ho143.lt
      have hm155 : (osB ++ ([partS ns (((ns.getD ((ns.length : Int) - 1).toNat default).r).getD i 0)])).length = osB.length + 1 := by simp
      refine ⟨fun _ => (Pins.of_le hX150.pins hx128.le), ?_⟩
      refine dr_take (i := 10) rfl rfl rfl (want_none rfl _) (by kernel_rfl) (fun _ _ => r_assign (v := u144) rfl) (Pins.of_le hX150.pins hx128.le) ?_
      refine dr_end (by kernel_rfl) ?_
      refine s_blkN ?_
      refine s_then ?_
      refine c_reg ?_
      refine qd rfl rfl rfl (r_move (v := (.int .i64 (i : Int))) rfl) ?_
      refine qd rfl rfl rfl (r_add rfl rfl (by omega)) ?_
      refine qd rfl rfl rfl (r_assign (v := (.int .i64 ((i : Int) + 1))) rfl) ?_
      refine qe ?_
      refine s_lopN ?_
      refine ⟨_, ?_, _, rfl, _, i + 1, u144, osB ++ [partS ns ((ns.getD ((ns.length : Int) - 1).toNat default).r.getD i 0)], G125, (packS (x := 8) (packS (x := 6) (packS (x := 5) (packS (x := 4) (packS (x := 3) (packS (x := 2) (pack1 (x := 1) rfl) rfl) rfl) rfl) rfl) rfl) rfl), rfl, hX150, (Pin.le_trans hlek111 hx128.le), (by omega), (by rw [hosB]; exact optsS_next (by omega)), (by simp; omega), ho146, ho151, ha153.symm⟩
      omega
    · skip
      refine wp_exit ?_
      refine s_thenE ?_
      refine s_lopE ?_
      refine s_blkE ?_
      refine s_then ?_
      refine s_seq ?_
      refine c_reg ?_
      refine qd rfl rfl rfl (r_move (v := ovA) rfl) ?_
      refine qd rfl rfl rfl (r_move (v := ovB) rfl) ?_
      refine qd rfl rfl rfl (r_assign (v := ovA) rfl) ?_
      refine qd rfl rfl rfl (r_assign (v := ovB) rfl) ?_
      refine qe ?_
      refine s_then ?_
      refine wp_ret ?_
      refine s_ret ?_
      refine c_ret2 (v := ovA) (u := ovB) rfl rfl rfl rfl rfl ?_
      obtain ⟨G156, hle159, hX158, hr157, hf160⟩ := hw116.sealed hX114
      have ho161 := hw115.moreO hle159 hf160 ha117
      obtain ⟨G162, hle165, hX164, hr163, hf166⟩ := ho161.sealed hX158
      rw [take_all (by omega)] at hosA hosB
      rw [elast, ← hosA, ← hosB]
      exact ⟨_, _, _, rfl, (hr157.mono hle165), hr163, hX164⟩

theorem l14Side_spec {w : World} {G : Pin} {v : Value} {ns : List Nd} {lf : Bool} (hP : Pins G w) (hv : RSl eNode G v ns) (hg : GoodP ns) :
    Calls Try.prog 114 [(.agg [v].toArray), (.bool lf)].toArray w fun e w' => ∃ (u : Value) (G' : Pin), e = .returned u ∧ RSl (eSl eNode) G' u (sideS lf ns) ∧ Ext noS G w G' w' := by
  refine s_enter (n := 15) Try.func114 Try.ntmps114 rfl rfl ?_
  have hX0 : Ext noS G w G w := Ext.refl hP
  refine s_seq ?_
  refine c_reg ?_
  refine q1 rfl rfl rfl (o_box [v] (v := (.agg [v].toArray)) rfl rfl hX0.pins (fun b1 w2 hk3 hb4 hp5 hl6 => ?_))
  have hX7 := hX0.step hp5 hl6
  have hlo8 : w.heap.size ≤ b1 := by have := hX0.size; omega
  obtain ⟨G9, hle10, hX11, hbp12, hf13⟩ := hb4.shut hX7 hlo8
  refine qd rfl rfl rfl (r_assign (v := (.slice none 0 0)) rfl) ?_
  refine qe ?_
  refine s_then ?_
  refine s_seq ?_
  refine c_reg ?_
  refine qd rfl rfl rfl (r_ldpA (cs := [v]) ag26 sz26 rfl (fun j u hj => hX11.pins _ _ _ (hbp12 _ _ (by simpa using hj)))) ?_
  refine q1 rfl rfl rfl (o_call (vs := [(.agg [v].toArray)]) Try.func51 nm51 rfl rfl rfl ?_)
  refine Calls.mono (l3Opts_spec hX11.pins (hv.mono hle10) hg) ?_
  rintro _ w17 ⟨u14, v15, G16, rfl, hr18, hr19, hx20⟩
  refine ⟨_, rfl, ?_⟩
  have hX21 := hX11.tr hx20
  refine qd rfl rfl rfl (r_move (v := (.tuple #[u14, v15])) rfl) ?_
  refine qd rfl rfl rfl (r_extract (v := u14) rfl rfl) ?_
  refine qd rfl rfl rfl (r_extract (v := v15) rfl rfl) ?_
  refine qd rfl rfl rfl (r_assign (v := u14) rfl) ?_
  refine qd rfl rfl rfl (r_assign (v := v15) rfl) ?_
  refine qe ?_
  refine s_then ?_
  refine s_seq ?_
  refine s_seq ?_
  refine c_reg ?_
  refine qd rfl rfl rfl (r_move (v := (.bool lf)) rfl) ?_
  refine qe ?_
  refine s_then ?_
  refine c_if rfl rfl (fun h22 => ?_) (fun h22 => ?_)
  · skip
    refine s_seq ?_
    refine c_reg ?_
    refine qd rfl rfl rfl (r_move (v := u14) rfl) ?_
    refine qd rfl rfl rfl (r_assign (v := u14) rfl) ?_
    refine qe ?_
    refine s_then ?_
    refine wp_ret ?_
    refine s_ret ?_
    refine c_ret1 (v := u14) rfl rfl rfl ?_
    exact ⟨_, _, rfl, (by unfold sideS optL; rw [if_pos h22]; exact hr18), hX21⟩
  · skip
    refine wp_skip ?_
    refine s_then ?_
    refine s_seq ?_
    refine c_reg ?_
    refine qd rfl rfl rfl (r_move (v := v15) rfl) ?_
    refine qd rfl rfl rfl (r_assign (v := v15) rfl) ?_
    refine qe ?_
    refine s_then ?_
    refine wp_ret ?_
    refine s_ret ?_
    refine c_ret1 (v := v15) rfl rfl rfl ?_
    exact ⟨_, _, rfl, (by unfold sideS optL; rw [if_neg (by rw [h22]; decide)]; exact hr19), hX21⟩

theorem smoves_spec {w : World} {G : Pin} {v : Value} {lf : Bool} {fs : List (List Nd)} (hP : Pins G w) (hv : RSl (eSl eNode) G v fs) (hgt : fs.length ≤ 6 ∧ ∀ i, i < fs.length → goodB (fs.getD i []) = true) :
    Calls Try.prog 74 [(.agg [v, (.bool lf)].toArray)].toArray w fun e w' => ∃ (u : Value) (G' : Pin), e = .returned u ∧ Own eP2 120 G' w' w.heap.size u (movesL lf fs fs.length) ∧ Ext noS G w G' w' := by
  refine s_enter (n := 36) Try.func74 Try.ntmps74 rfl rfl ?_
  have hX0 : Ext noS G w G w := Ext.refl hP
  refine s_seq ?_
  refine c_reg ?_
  refine q1 rfl rfl rfl (o_box [v, (.bool lf)] (v := (.agg [v, (.bool lf)].toArray)) rfl rfl hX0.pins (fun b1 w2 hk3 hb4 hp5 hl6 => ?_))
  have hX7 := hX0.step hp5 hl6
  have hlo8 : w.heap.size ≤ b1 := by have := hX0.size; omega
  obtain ⟨G9, hle10, hX11, hbp12, hf13⟩ := hb4.shut hX7 hlo8
  refine qd rfl rfl rfl (r_assign (v := (.slice none 0 0)) rfl) ?_
  refine qe ?_
  refine s_then ?_
  refine s_seq ?_
  refine c_reg ?_
  refine q1 rfl rfl rfl (o_build0 (E := eP2) (e := 120) Try.underlying66 sz120 hX11.pins (fun u14 w15 ho16 hp17 hl18 hk19 => ?_))
  have hX20 := hX11.step hp17 hl18
  have ho21 : Own eP2 120 G9 w15 w.heap.size u14 ([]) := ho16.weaken hX11.size
  refine qd rfl rfl rfl (r_assign (v := u14) rfl) ?_
  refine qe ?_
  refine s_then ?_
  refine s_seq ?_
  refine s_seq ?_
  refine c_reg ?_
  refine qd rfl rfl rfl (r_assign (v := (.int .i64 0)) rfl) ?_
  refine qe ?_
  refine s_then ?_
  refine s_blk ?_
  refine s_loop (fun (k : Nat) (en : Nat → Value) (W : World) => ∃ (env1 : Nat → Value) (j : Nat) (ov : Value) (os : List (Int × Int)) (GL1 : Pin), en = (upd (upd (upd (upd env1 1 (.pointer (some ⟨b1, 0, none⟩))) 2 (.slice none 0 0)) 3 ov) 4 (.int .i64 (j : Int))) ∧ k = fs.length - j ∧ Ext noS G w GL1 W ∧ Pin.le G9 GL1 ∧ (j ≤ fs.length) ∧ (os = movesL lf fs j) ∧ (os.length ≤ 24 * j) ∧ (Own eP2 120 GL1 W w.heap.size ov (os))) _ ⟨_, 0, u14, [], G9, (packS (x := 4) (packS (x := 3) (packS (x := 2) (pack1 (x := 1) rfl) rfl) rfl) rfl), rfl, hX20, Pin.le_refl _, Nat.zero_le _, rfl, Nat.zero_le _, ho21⟩ ?_
  rintro k22 _ w23 ⟨env1, j, ov, os, GL1, rfl, hk24, hX25, hlek22, hj, hos, hol, hw26⟩
  refine s_seq ?_
  refine s_seq ?_
  refine c_reg ?_
  refine qd rfl rfl rfl (r_move (v := (.int .i64 (j : Int))) rfl) ?_
  refine qd rfl rfl rfl (r_fldp (k := 0) rfl Try.underlying70 rfl nz35 rfl) ?_
  refine qd rfl rfl rfl (r_ldp1 (u := v) ag35 rfl ((Pins.of_le hX25.pins hlek22) _ _ _ (hbp12 0 _ rfl))) ?_
  refine qd rfl rfl rfl (run_len Try.underlying35 (v := v) rfl hv) ?_
  refine qd rfl rfl rfl (r_lss rfl rfl) ?_
  refine qe ?_
  refine s_then ?_
  refine c_ifd (p := ((j : Int) : Int) < (fs.length : Int)) rfl rfl (fun h27 => ?_) (fun h27 => ?_)
  · skip
    have hgj := goodB_true.1 (hgt.2 j (by omega))
    have hob := optL_len (left := lf) hgj
    have hsl := sideS_len lf (fs.getD j [])
    refine wp_skip ?_
    refine s_then ?_
    refine s_seq ?_
    refine s_blk ?_
    refine s_seq ?_
    refine c_draw (S := fun w => Pins GL1 w) (last := 10) (by kernel_rfl) rfl ?_
    have hl28 : Below w23.heap.size w23 w23.drew := (Below.refl _ _).drew
    have hp29 := hX25.pins.below hl28
    have hX30 := hX25.step hp29 hl28
    have ho31 := hw26.below hl28
    refine dr_take (i := 0) rfl rfl rfl (want_none rfl _) (by kernel_rfl) (fun _ _ => r_fldp (k := 0) rfl Try.underlying70 rfl nz35 rfl) hX30.pins ?_
    refine dr_take (i := 1) rfl rfl rfl (want_none rfl _) (by kernel_rfl) (fun _ hS => r_ldp1 (u := v) ag35 rfl ((Pins.of_le hS hlek22) _ _ _ (hbp12 0 _ rfl))) hX30.pins ?_
    refine dr_take (i := 2) rfl rfl rfl (want_none rfl _) (by kernel_rfl) (fun _ _ => r_move (v := (.int .i64 (j : Int))) rfl) hX30.pins ?_
    refine dr_take (i := 3) rfl rfl rfl (want_none rfl _) (by kernel_rfl) (fun _ _ => run_idx Try.underlying35 sz26 (v := v) rfl rfl hv (by omega) (by omega)) hX30.pins ?_
    obtain ⟨u32, hr33, hl34⟩ := nm_form (hv.at (z := (j : Int)) (by omega) (by omega)) (j := j) rfl
    have hm35 := hr33.max
    refine dr_take (i := 4) rfl rfl rfl (want_none rfl _) (by kernel_rfl) (fun _ hS => hl34 ag26 sz26 rfl (Pins.of_le hS (Pin.le_trans hle10 hlek22))) hX30.pins ?_
    refine dr_take (i := 5) rfl rfl rfl (want_none rfl _) (by kernel_rfl) (fun _ _ => r_fldp (k := 1) rfl Try.underlying70 rfl nz4 rfl) hX30.pins ?_
    refine dr_take (i := 6) rfl rfl rfl (want_none rfl _) (by kernel_rfl) (fun _ hS => r_ldp1 (u := (.bool lf)) ag4 rfl ((Pins.of_le hS hlek22) _ _ _ (hbp12 1 _ rfl))) hX30.pins ?_
    refine dr_one (i := 7) (by kernel_rfl) (drOp1 (i := 7) rfl rfl rfl (want_none rfl _) (o_call (vs := [(.agg [u32].toArray), (.bool lf)]) Try.func114 nm114 rfl rfl rfl ?_))
    refine Calls.mono (l14Side_spec hX30.pins (hr33.mono (Pin.le_trans hle10 hlek22)) hgj) ?_
    rintro _ w38 ⟨u36, G37, rfl, hr39, hx40⟩
    refine ⟨_, rfl, ?_⟩
    have hX41 := hX30.tr hx40
    have ho42 := ho31.ext hx40
    refine ⟨fun _ => (Pins.of_le hX41.pins hx40.le), ?_⟩
    refine dr_take (i := 8) rfl rfl rfl (want_none rfl _) (by kernel_rfl) (fun _ _ => run_len Try.underlying35 (v := u36) rfl hr39) (Pins.of_le hX41.pins hx40.le) ?_
    refine dr_take (i := 9) rfl rfl rfl (want_none rfl _) (by kernel_rfl) (fun _ _ => r_assign (v := (.int .i64 ((sideS lf (fs.getD j [])).length : Int))) rfl) (Pins.of_le hX41.pins hx40.le) ?_
    refine dr_end (by kernel_rfl) ?_
    refine s_then ?_
    refine s_seq ?_
    refine c_reg ?_
    refine qd rfl rfl rfl (r_assign (v := (.int .i64 0)) rfl) ?_
    refine qe ?_
    refine s_then ?_
    refine s_blk ?_
    refine s_loop (fun (k : Nat) (en : Nat → Value) (W : World) => ∃ (env1 : Nat → Value) (i : Nat) (ov2 : Value) (os2 : List (Int × Int)), en = (upd (upd (upd (upd (upd (upd env1 1 (.pointer (some ⟨b1, 0, none⟩))) 2 (.slice none 0 0)) 3 ov2) 4 (.int .i64 (j : Int))) 5 (.int .i64 ((sideS lf (fs.getD j [])).length : Int))) 6 (.int .i64 (i : Int))) ∧ k = (optL lf (fs.getD j [])).length - i ∧ Ext noS G w G37 W ∧ (i ≤ (optL lf (fs.getD j [])).length) ∧ (os2 = movesL lf fs j ++ mvRow j i) ∧ (os2.length ≤ 24 * j + i) ∧ (Own eP2 120 G37 W w.heap.size ov2 (os2))) _ ⟨_, 0, ov, os, (packS (x := 6) (packS (x := 5) (packS (x := 4) (packS (x := 3) (packS (x := 2) (pack1 (x := 1) rfl) rfl) rfl) rfl) rfl) rfl), rfl, hX41, Nat.zero_le _, (by rw [hos]; simp [mvRow]), hol, ho42⟩ ?_
    rintro k43 _ w44 ⟨env1, i, ov2, os2, rfl, hk45, hX46, hi, hos2, hol2, hw47⟩
    refine s_seq ?_
    refine s_seq ?_
    refine c_reg ?_
    refine qd rfl rfl rfl (r_move (v := (.int .i64 (i : Int))) rfl) ?_
    refine qd rfl rfl rfl (r_move (v := (.int .i64 ((sideS lf (fs.getD j [])).length : Int))) rfl) ?_
    refine qd rfl rfl rfl (r_lss rfl rfl) ?_
    refine qe ?_
    refine s_then ?_
    refine c_ifd (p := ((i : Int) : Int) < ((sideS lf (fs.getD j [])).length : Int)) rfl rfl (fun h48 => ?_) (fun h48 => ?_)
    · skip
      refine wp_skip ?_
      refine s_then ?_
      refine s_seq ?_
      refine s_blk ?_
      refine c_reg ?_
      refine qd rfl rfl rfl (r_move (v := ov2) rfl) ?_
      refine qd rfl rfl rfl (r_move (v := (.int .i64 (j : Int))) rfl) ?_
      refine qd rfl rfl rfl (r_move (v := (.int .i64 (i : Int))) rfl) ?_
      refine qd rfl rfl rfl (r_build [(.int .i64 0), (.int .i64 0)] [(.int .i64 (j : Int)), (.int .i64 (i : Int))] [(0, (.int .i64 (j : Int)), [(.int .i64 (j : Int))]), (1, (.int .i64 (i : Int)), [(.int .i64 (i : Int))])] Try.underlying120 zr120 rfl pl120 rfl (List.forall_mem_cons.2 ⟨rfl, (List.forall_mem_cons.2 ⟨rfl, (fun _ h => by cases h)⟩)⟩) rfl) ?_
      refine q1 rfl rfl rfl (o_build1 (E := eP2) (e := 120) [(.int .i64 (j : Int)), (.int .i64 (i : Int))] ((j : Int), (i : Int)) Try.underlying66 sz120 zr120 rfl rfl (by decide) hX46.pins (fun u49 w50 ho51 hp52 hl53 hk54 => ?_))
      have hX55 := hX46.step hp52 hl53
      have ho56 := hw47.below hl53
      have ha57 : Apart u49.ownBlock ov2.ownBlock := new_ne_own hk54 hw47.lt
      have ho58 : Own eP2 120 G37 w50 w.heap.size u49 ([((j : Int), (i : Int))]) := ho51.weaken hX46.size
      refine q1 rfl rfl rfl (o_append (E := eP2) (v := ov2) (u := u49) 16 Try.underlying66 ap120 (by decide) rfl rfl hX55.pins ho56 ho58.src (by first | omega | (rw [List.nil_append]; omega) | (rw [List.length_nil]; omega) | (rw [List.length_append]; omega) | (simp; done) | (simp; omega)) (by first | omega | (rw [List.nil_append]; omega) | (rw [List.length_nil]; omega) | (rw [List.length_append]; omega) | (simp; done) | (simp; omega)) (hX55.size) (fun u59 w60 ho61 hp62 hg63 hw64 => ?_))
      have hX65 := hX55.write hp62 hg63 ((lo_own ho56))
      have ho66 := ho58.keptA hg63 ha57
      have ha67 : Apart u49.ownBlock u59.ownBlock := app_ne_own ha57 hw64 ho58.lt
      have hm68 : (os2 ++ ([((j : Int), (i : Int))])).length = os2.length + 1 := by simp
      refine qd rfl rfl rfl (r_assign (v := u59) rfl) ?_
      refine qe ?_
      refine s_blkN ?_
      refine s_then ?_
      refine c_reg ?_
      refine qd rfl rfl rfl (r_move (v := (.int .i64 (i : Int))) rfl) ?_
      refine qd rfl rfl rfl (r_add rfl rfl (by omega)) ?_
      refine qd rfl rfl rfl (r_assign (v := (.int .i64 ((i : Int) + 1))) rfl) ?_
      refine qe ?_
      refine s_lopN ?_
      refine ⟨_, ?_, _, rfl, _, i + 1, u59, os2 ++ [((j : Int), (i : Int))], (packS (x := 6) (packS (x := 5) (packS (x := 4) (packS (x := 3) (packS (x := 2) (pack1 (x := 1) rfl) rfl) rfl) rfl) rfl) rfl), rfl, hX65, (by omega), (by rw [hos2, List.append_assoc, mvRow_next]), (by simp; omega), ho61⟩
      omega
    · skip
      refine wp_exit ?_
      refine s_thenE ?_
      refine s_lopE ?_
      refine s_blkE ?_
      refine s_blkN ?_
      refine s_then ?_
      refine c_reg ?_
      refine qd rfl rfl rfl (r_move (v := (.int .i64 (j : Int))) rfl) ?_
      refine qd rfl rfl rfl (r_add rfl rfl (by omega)) ?_
      refine qd rfl rfl rfl (r_assign (v := (.int .i64 ((j : Int) + 1))) rfl) ?_
      refine qe ?_
      refine s_lopN ?_
      refine ⟨_, ?_, _, rfl, _, j + 1, ov2, os2, G37, (packS (x := 4) (packS (x := 3) (packS (x := 2) (pack1 (x := 1) rfl) rfl) rfl) rfl), rfl, hX46, (Pin.le_trans hlek22 hx40.le), (by omega), (by rw [hos2, movesL_next, show i = (optL lf (fs.getD j [])).length by omega]), (by omega), hw47⟩
      omega
  · skip
    refine wp_exit ?_
    refine s_thenE ?_
    refine s_lopE ?_
    refine s_blkE ?_
    refine s_then ?_
    refine s_seq ?_
    refine c_reg ?_
    refine qd rfl rfl rfl (r_move (v := ov) rfl) ?_
    refine qd rfl rfl rfl (r_assign (v := ov) rfl) ?_
    refine qe ?_
    refine s_then ?_
    refine wp_ret ?_
    refine s_ret ?_
    refine c_ret1 (v := ov) rfl rfl rfl ?_
    rw [show j = fs.length by omega] at hos
    exact ⟨_, _, rfl, (by rw [← hos]; exact hw26), hX25⟩

theorem sMovesOf_spec {w : World} {G : Pin} {v : Value} {lf : Bool} {fs : List (List Nd)} (hP : Pins G w) (hv : RSl (eSl eNode) G v fs) :
    Calls Try.prog 37 [(.agg [v, (.bool lf)].toArray)].toArray w fun e w' => ∃ (u : Value) (G' : Pin), e = .returned (.tuple #[u, .bool (goodT fs)]) ∧ RSl eP2 G' u (mvL lf fs) ∧ Ext noS G w G' w' := by
  refine s_enter (n := 10) Try.func37 Try.ntmps37 rfl rfl ?_
  have hX0 : Ext noS G w G w := Ext.refl hP
  refine s_seq ?_
  refine c_reg ?_
  refine q1 rfl rfl rfl (o_box [v, (.bool lf)] (v := (.agg [v, (.bool lf)].toArray)) rfl rfl hX0.pins (fun b1 w2 hk3 hb4 hp5 hl6 => ?_))
  have hX7 := hX0.step hp5 hl6
  have hlo8 : w.heap.size ≤ b1 := by have := hX0.size; omega
  obtain ⟨G9, hle10, hX11, hbp12, hf13⟩ := hb4.shut hX7 hlo8
  refine qd rfl rfl rfl (r_assign (v := (.slice none 0 0)) rfl) ?_
  refine qd rfl rfl rfl (r_assign (v := (.bool false)) rfl) ?_
  refine qe ?_
  refine s_then ?_
  refine s_seq ?_
  refine s_seq ?_
  refine c_reg ?_
  refine qd rfl rfl rfl (r_ldpA (cs := [v, (.bool lf)]) ag70 sz70 rfl (fun j u hj => hX11.pins _ _ _ (hbp12 _ _ (by simpa using hj)))) ?_
  refine q1 rfl rfl rfl (o_call (vs := [(.agg [v, (.bool lf)].toArray)]) Try.func73 nm73 rfl rfl rfl ?_)
  refine Calls.mono (l14Good_spec hX11.pins (hv.mono hle10)) ?_
  rintro _ w15 ⟨G14, rfl, hx16⟩
  refine ⟨_, rfl, ?_⟩
  have hX17 := hX11.tr hx16
  refine qd rfl rfl rfl (r_not rfl) ?_
  refine qe ?_
  refine s_then ?_
  refine c_ifn rfl rfl (fun h18 => ?_) (fun h18 => ?_)
  · skip
    refine wp_skip ?_
    refine s_then ?_
    refine s_seq ?_
    refine c_reg ?_
    refine qd rfl rfl rfl (r_ldpA (cs := [v, (.bool lf)]) ag70 sz70 rfl (fun j u hj => (Pins.of_le hX17.pins hx16.le) _ _ _ (hbp12 _ _ (by simpa using hj)))) ?_
    refine q1 rfl rfl rfl (o_call (vs := [(.agg [v, (.bool lf)].toArray)]) Try.func74 nm74 rfl rfl rfl ?_)
    refine Calls.mono (smoves_spec hX17.pins (hv.mono (Pin.le_trans hle10 hx16.le)) (decP_true.1 (show goodT fs = true by simpa using h18))) ?_
    rintro _ w21 ⟨u19, G20, rfl, ho22, hx23⟩
    refine ⟨_, rfl, ?_⟩
    have hX24 := hX17.tr hx23
    have ho25 : Own eP2 120 G20 w21 w.heap.size u19 (movesL lf fs fs.length) := ho22.weaken hX17.size
    refine qd rfl rfl rfl (r_assign (v := u19) rfl) ?_
    refine qd rfl rfl rfl (r_assign (v := (.bool true)) rfl) ?_
    refine qe ?_
    refine s_then ?_
    refine wp_ret ?_
    refine s_ret ?_
    refine c_ret2 (v := u19) (u := (.bool true)) rfl rfl rfl rfl rfl ?_
    have hgf : goodT fs = true := by simpa using h18
    rw [hgf, mv_yes hgf]
    obtain ⟨G26, hle29, hX28, hr27, hf30⟩ := ho25.sealed hX24
    exact ⟨_, _, rfl, hr27, hX28⟩
  · skip
    refine s_seq ?_
    refine c_reg ?_
    refine q1 rfl rfl rfl (o_build0 (E := eP2) (e := 120) Try.underlying66 sz120 hX17.pins (fun u31 w32 ho33 hp34 hl35 hk36 => ?_))
    have hX37 := hX17.step hp34 hl35
    have ho38 : Own eP2 120 G14 w32 w.heap.size u31 ([]) := ho33.weaken hX17.size
    refine qd rfl rfl rfl (r_assign (v := u31) rfl) ?_
    refine qd rfl rfl rfl (r_assign (v := (.bool false)) rfl) ?_
    refine qe ?_
    refine s_then ?_
    refine wp_ret ?_
    refine s_ret ?_
    refine c_ret2 (v := u31) (u := (.bool false)) rfl rfl rfl rfl rfl ?_
    have hgf : goodT fs = false := by simpa using h18
    rw [hgf, mv_no hgf]
    obtain ⟨G39, hle42, hX41, hr40, hf43⟩ := ho38.sealed hX37
    exact ⟨_, _, rfl, hr40, hX41⟩

end N1
end Go.Proofs.Ytpninmgcgmpmoaa
