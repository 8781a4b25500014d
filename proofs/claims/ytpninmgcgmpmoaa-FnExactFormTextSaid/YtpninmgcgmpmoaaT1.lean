/- Walks, printed by a program (walkgen.py) from the spec specs_t. -/
import Derived.Test.YtpninmgcgmpmoaaChecked
import Derived.Test.YtpninmgcgmpmoaaRow
import Derived.Test.YtpninmgcgmpmoaaText2
import Derived.Test.YtpninmgcgmpmoaaShelf
import Derived.Test.YtpninmgcgmpmoaaB1
import Derived.Test.YtpninmgcgmpmoaaC1
import Derived.Test.YtpninmgcgmpmoaaE1
set_option maxRecDepth 20000
set_option maxHeartbeats 2000000
namespace Go.Proofs.Ytpninmgcgmpmoaa
namespace T1
open Go.RowKit Go.GL Go.Proofs
open Go.Proofs.Ytpninmgcgmpmoaa.B1
open Go.Proofs.Ytpninmgcgmpmoaa.C1
open Go.Proofs.Ytpninmgcgmpmoaa.E1
theorem ag24 : (Try.prog.underlying 24).map aggD = some false := by kernel_rfl
theorem ag26 : (Try.prog.underlying 26).map aggD = some true := by kernel_rfl
theorem ag29 : (Try.prog.underlying 29).map aggD = some false := by kernel_rfl
theorem ag3 : (Try.prog.underlying 3).map aggD = some false := by kernel_rfl
theorem ag82 : (Try.prog.underlying 82).map aggD = some true := by kernel_rfl
theorem ag9 : (Try.prog.underlying 9).map aggD = some false := by kernel_rfl
theorem ap9 : (Try.prog.info? 9).map (fun i => (i.size, i.bytes, (i.zero.map (·.cells.size)))) = some (1, 16, some 1) := by kernel_rfl
theorem mk3 : (Try.prog.info? 3).map (fun i => (i.size, i.bytes, i.zero)) = some (1, 8, some (.int .i64 0)) := by kernel_rfl
theorem mk9 : (Try.prog.info? 9).map (fun i => (i.size, i.bytes, i.zero)) = some (1, 16, some (.string ByteArray.empty)) := by kernel_rfl
theorem nm46 : (Try.f46.name == "runtime.NumGoroutine") = false := by kernel_rfl
theorem nm49 : (Try.f49.name == "runtime.NumGoroutine") = false := by kernel_rfl
theorem nm61 : (Try.f61.name == "runtime.NumGoroutine") = false := by kernel_rfl
theorem nm62 : (Try.f62.name == "runtime.NumGoroutine") = false := by kernel_rfl
theorem nm98 : (Try.f98.name == "runtime.NumGoroutine") = false := by kernel_rfl
theorem nz24 : (Try.prog.info? 24).map (·.size == 0) = some false := by kernel_rfl
theorem nz29 : (Try.prog.info? 29).map (·.size == 0) = some false := by kernel_rfl
theorem sz26 : (Try.prog.info? 26).map (·.size) = some 1 := by kernel_rfl
theorem sz29 : (Try.prog.info? 29).map (·.size) = some 1 := by kernel_rfl
theorem sz3 : (Try.prog.info? 3).map (·.size) = some 1 := by kernel_rfl
theorem sz82 : (Try.prog.info? 82).map (·.size) = some 2 := by kernel_rfl
theorem sz9 : (Try.prog.info? 9).map (·.size) = some 1 := by kernel_rfl
theorem sz96 : (Try.prog.info? 96).map (·.size) = some 2 := by kernel_rfl
theorem zr82 : (Try.prog.info? 82).bind (·.zero) = some (.agg #[(.slice none 0 0), (.slice none 0 0)]) := by kernel_rfl
theorem zr9 : (Try.prog.info? 9).bind (·.zero) = some (.string ByteArray.empty) := by kernel_rfl
theorem zr95 : (Try.prog.info? 95).bind (·.zero) = some (.agg #[(.slice none 0 0), (.slice none 0 0)]) := by kernel_rfl
theorem zr96 : (Try.prog.info? 96).bind (·.zero) = some (.agg #[(.string ByteArray.empty), (.string ByteArray.empty)]) := by kernel_rfl

theorem join_spec {w : World} {G : Pin} {v : Value} {xs : List ByteArray} (hP : Pins G w) (hv : RSl eStr G v xs) (hs : (joinW xs).size ≤ 140737488355328 ∧ xs.length ≤ 1048576) :
    Calls Try.prog 62 [v, .string (⟨#[44]⟩ : ByteArray)].toArray w fun e w' => e = .returned (.string (joinW xs)) ∧ Ext noS G w G w' := by
  have hX : Ext noS G w G w := Ext.refl hP
  match xs, hv, hs with
  | [], hv, _ =>
    obtain ⟨a, c, rfl, _⟩ := hv.sl
    refine (Try.strings_Join_none a c _ w).mono ?_
    rintro e w' ⟨rfl, rfl⟩
    exact ⟨rfl, hX⟩
  | x :: r, hv, hs =>
    obtain ⟨b, o, c, rfl, hc, hb, hcells⟩ := hv.strs hP (by simp)
    refine (Try.strings_Join b o c (x :: r) _ w hcells hb (by omega) hc ?_).mono ?_
    · have := hs.1
      unfold joinW at this
      simpa [ByteArray.size] using this
    · rintro e w' ⟨rfl, hbl⟩
      exact ⟨rfl, hX.step (hP.below hbl) hbl⟩

theorem l3Join_spec {w : World} {G Gr : Pin} {u v : Value} {ts : List ByteArray} {l : List Int} (hP : Pins G w) (hPr : Pins Gr w) (hu : RSl eStr Gr u ts) (hv : RSl eInt G v l) (hk : ∀ i, i < l.length → 0 ≤ l.getD i 0 ∧ l.getD i 0 < ts.length) (ht : Texts ts) (hn : l.length ≤ 24) :
    Calls Try.prog 98 [u, v].toArray w fun e w' => e = .returned (.string (joinP ts l)) ∧ w' = w := by
  refine s_enter (n := 27) Try.func98 Try.ntmps98 rfl rfl ?_
  have hX0 : Ext noS G w G w := Ext.refl hP
  refine s_seq ?_
  refine c_reg ?_
  refine qd rfl rfl rfl (r_assign (v := (.string (⟨#[]⟩ : ByteArray))) rfl) ?_
  refine qe ?_
  refine s_then ?_
  refine s_seq ?_
  refine c_reg ?_
  refine qd rfl rfl rfl (r_assign (v := (.string (⟨#[]⟩ : ByteArray))) rfl) ?_
  refine qe ?_
  refine s_then ?_
  refine s_seq ?_
  refine s_seq ?_
  refine c_reg ?_
  refine qd rfl rfl rfl (r_assign (v := (.int .i64 0)) rfl) ?_
  refine qe ?_
  refine s_then ?_
  refine s_blk ?_
  refine s_loop (fun (k : Nat) (en : Nat → Value) (W : World) => ∃ (env1 : Nat → Value) (j : Nat) (s : ByteArray), en = (upd (upd (upd (upd (upd env1 0 u) 1 v) 4 (.string (⟨#[]⟩ : ByteArray))) 5 (.string s)) 6 (.int .i64 (j : Int))) ∧ k = l.length - j ∧ Ext noS G w G W ∧ (j ≤ l.length) ∧ (W = w) ∧ (s = joinN ts l j)) _ ⟨_, 0, (⟨#[]⟩ : ByteArray), (packS (x := 6) (packS (x := 5) (packS (x := 4) (packS (x := 1) (pack1 (x := 0) rfl) rfl) rfl) rfl) rfl), rfl, hX0, Nat.zero_le _, rfl, rfl⟩ ?_
  rintro k1 _ w2 ⟨env1, j, s, rfl, hk3, hX4, hj, hw, hq⟩
  subst hw
  have hqs := joinN_size ht l j
  rw [← hq] at hqs
  refine s_seq ?_
  refine s_seq ?_
  refine c_reg ?_
  refine qd rfl rfl rfl (r_move (v := (.int .i64 (j : Int))) rfl) ?_
  refine qd rfl rfl rfl (r_move (v := v) rfl) ?_
  refine qd rfl rfl rfl (run_len Try.underlying29 (v := v) rfl hv) ?_
  refine qd rfl rfl rfl (r_lss rfl rfl) ?_
  refine qe ?_
  refine s_then ?_
  refine c_ifd (p := ((j : Int) : Int) < (l.length : Int)) rfl rfl (fun h5 => ?_) (fun h5 => ?_)
  · skip
    have hkj := hk j (by omega)
    have hsj := ht (l.getD j 0).toNat
    refine wp_skip ?_
    refine s_then ?_
    refine s_seq ?_
    refine s_blk ?_
    refine s_seq ?_
    refine s_seq ?_
    refine c_reg ?_
    refine qd rfl rfl rfl (r_move (v := (.int .i64 (j : Int))) rfl) ?_
    refine qd rfl rfl rfl (r_gtr rfl rfl) ?_
    refine qe ?_
    refine s_then ?_
    refine c_ifd (p := (0 : Int) < (j : Int)) rfl rfl (fun h6 => ?_) (fun h6 => ?_)
    · skip
      refine c_reg ?_
      refine qd rfl rfl rfl (r_move (v := (.string s)) rfl) ?_
      have hm7 : (⟨#[44]⟩ : ByteArray).size = 1 := rfl
      have hm8 : (s ++ (⟨#[44]⟩ : ByteArray)).size = s.size + (⟨#[44]⟩ : ByteArray).size := ByteArray.size_append
      refine qd rfl rfl rfl (r_addS rfl rfl (by omega)) ?_
      refine qd rfl rfl rfl (r_assign (v := (.string (s ++ (⟨#[44]⟩ : ByteArray)))) rfl) ?_
      refine qe ?_
      refine s_then ?_
      refine c_reg ?_
      refine qd rfl rfl rfl (r_move (v := (.string (s ++ (⟨#[44]⟩ : ByteArray)))) rfl) ?_
      refine qd rfl rfl rfl (r_move (v := u) rfl) ?_
      refine qd rfl rfl rfl (r_move (v := v) rfl) ?_
      refine qd rfl rfl rfl (r_move (v := (.int .i64 (j : Int))) rfl) ?_
      refine qd rfl rfl rfl (run_idx Try.underlying29 sz3 (v := v) rfl rfl hv (by omega) (by omega)) ?_
      refine qd rfl rfl rfl (run_load_int (r := l.getD j 0) rfl ag3 (z := (j : Int)) rfl hv hX4.pins (by omega) (by omega)) ?_
      refine qd rfl rfl rfl (run_idx Try.underlying94 sz9 (v := u) rfl rfl hu (by omega) (by omega)) ?_
      refine qd rfl rfl rfl (run_load_str (r := ts.getD (l.getD j 0).toNat ByteArray.empty) rfl ag9 (z := (l.getD j 0)) rfl hu (hPr.ext0 hX4) (by omega) (by omega)) ?_
      have hm9 : ((s ++ (⟨#[44]⟩ : ByteArray)) ++ (ts.getD (l.getD j 0).toNat ByteArray.empty)).size = (s ++ (⟨#[44]⟩ : ByteArray)).size + (ts.getD (l.getD j 0).toNat ByteArray.empty).size := ByteArray.size_append
      refine qd rfl rfl rfl (r_addS rfl rfl (by omega)) ?_
      refine qd rfl rfl rfl (r_assign (v := (.string ((s ++ (⟨#[44]⟩ : ByteArray)) ++ (ts.getD (l.getD j 0).toNat ByteArray.empty)))) rfl) ?_
      refine qe ?_
      refine s_blkN ?_
      refine s_then ?_
      refine c_reg ?_
      refine qd rfl rfl rfl (r_move (v := (.int .i64 (j : Int))) rfl) ?_
      refine qd rfl rfl rfl (r_add rfl rfl (by omega)) ?_
      refine qd rfl rfl rfl (r_assign (v := (.int .i64 ((j : Int) + 1))) rfl) ?_
      refine qe ?_
      refine s_lopN ?_
      refine ⟨_, ?_, _, rfl, _, j + 1, (s ++ (⟨#[44]⟩ : ByteArray)) ++ (ts.getD (l.getD j 0).toNat ByteArray.empty), (packS (x := 6) (packS (x := 5) (packS (x := 4) (packS (x := 1) (pack1 (x := 0) rfl) rfl) rfl) rfl) rfl), rfl, hX4, (by omega), rfl, (by unfold joinN; rw [if_pos (by omega), ← hq])⟩
      omega
    · skip
      refine wp_skip ?_
      refine s_then ?_
      refine c_reg ?_
      refine qd rfl rfl rfl (r_move (v := (.string s)) rfl) ?_
      refine qd rfl rfl rfl (r_move (v := u) rfl) ?_
      refine qd rfl rfl rfl (r_move (v := v) rfl) ?_
      refine qd rfl rfl rfl (r_move (v := (.int .i64 (j : Int))) rfl) ?_
      refine qd rfl rfl rfl (run_idx Try.underlying29 sz3 (v := v) rfl rfl hv (by omega) (by omega)) ?_
      refine qd rfl rfl rfl (run_load_int (r := l.getD j 0) rfl ag3 (z := (j : Int)) rfl hv hX4.pins (by omega) (by omega)) ?_
      refine qd rfl rfl rfl (run_idx Try.underlying94 sz9 (v := u) rfl rfl hu (by omega) (by omega)) ?_
      refine qd rfl rfl rfl (run_load_str (r := ts.getD (l.getD j 0).toNat ByteArray.empty) rfl ag9 (z := (l.getD j 0)) rfl hu (hPr.ext0 hX4) (by omega) (by omega)) ?_
      have hm10 : (s ++ (ts.getD (l.getD j 0).toNat ByteArray.empty)).size = s.size + (ts.getD (l.getD j 0).toNat ByteArray.empty).size := ByteArray.size_append
      refine qd rfl rfl rfl (r_addS rfl rfl (by omega)) ?_
      refine qd rfl rfl rfl (r_assign (v := (.string (s ++ (ts.getD (l.getD j 0).toNat ByteArray.empty)))) rfl) ?_
      refine qe ?_
      refine s_blkN ?_
      refine s_then ?_
      refine c_reg ?_
      refine qd rfl rfl rfl (r_move (v := (.int .i64 (j : Int))) rfl) ?_
      refine qd rfl rfl rfl (r_add rfl rfl (by omega)) ?_
      refine qd rfl rfl rfl (r_assign (v := (.int .i64 ((j : Int) + 1))) rfl) ?_
      refine qe ?_
      refine s_lopN ?_
      refine ⟨_, ?_, _, rfl, _, j + 1, s ++ (ts.getD (l.getD j 0).toNat ByteArray.empty), (packS (x := 6) (packS (x := 5) (packS (x := 4) (packS (x := 1) (pack1 (x := 0) rfl) rfl) rfl) rfl) rfl), rfl, hX4, (by omega), rfl, (by unfold joinN; rw [if_neg (by omega), ← hq])⟩
      omega
  · skip
    refine wp_exit ?_
    refine s_thenE ?_
    refine s_lopE ?_
    refine s_blkE ?_
    refine s_then ?_
    refine s_seq ?_
    refine c_reg ?_
    refine qd rfl rfl rfl (r_move (v := (.string s)) rfl) ?_
    refine qd rfl rfl rfl (r_assign (v := (.string s)) rfl) ?_
    refine qe ?_
    refine s_then ?_
    refine wp_ret ?_
    refine s_ret ?_
    refine c_ret1 (v := (.string s)) rfl rfl rfl ?_
    exact ⟨congrArg (fun z => Ending.returned (Value.string z)) (by rw [hq, show j = l.length by omega]; rfl), rfl⟩

theorem l3Text_spec {w : World} {G : Pin} {v : Value} {ns : List Nd} (hP : Pins G w) (hv : RSl eNode G v ns) (hg : GoodP ns) :
    Calls Try.prog 61 [(.agg [v].toArray)].toArray w fun e w' => ∃ G', e = .returned (.string (textOf ns)) ∧ Ext noS G w G' w' := by
  refine s_enter (n := 49) Try.func61 Try.ntmps61 rfl rfl ?_
  have hX0 : Ext noS G w G w := Ext.refl hP
  have hm := hv.max
  have hlo := hg.lo
  have hhi := hg.hi
  refine s_seq ?_
  refine c_reg ?_
  refine q1 rfl rfl rfl (o_box [v] (v := (.agg [v].toArray)) rfl rfl hX0.pins (fun b1 w2 hk3 hb4 hp5 hl6 => ?_))
  have hX7 := hX0.step hp5 hl6
  have hlo8 : w.heap.size ≤ b1 := by have := hX0.size; omega
  obtain ⟨G9, hle10, hX11, hbp12, hf13⟩ := hb4.shut hX7 hlo8
  refine qd rfl rfl rfl (r_assign (v := (.string (⟨#[]⟩ : ByteArray))) rfl) ?_
  refine qe ?_
  refine s_then ?_
  refine s_seq ?_
  refine c_reg ?_
  refine q1 rfl rfl rfl (o_build0 (E := eStr) (e := 9) Try.underlying94 sz9 hX11.pins (fun u14 w15 ho16 hp17 hl18 hk19 => ?_))
  have hX20 := hX11.step hp17 hl18
  have ho21 : Own eStr 9 G9 w15 w.heap.size u14 ([]) := ho16.weaken hX11.size
  refine qd rfl rfl rfl (r_assign (v := u14) rfl) ?_
  refine qe ?_
  refine s_then ?_
  refine s_seq ?_
  refine s_seq ?_
  refine c_reg ?_
  refine qd rfl rfl rfl (r_assign (v := (.int .i64 0)) rfl) ?_
  refine qe ?_
  refine s_then ?_
  refine s_blk ?_
  refine s_loop (fun (k : Nat) (en : Nat → Value) (W : World) => ∃ (env1 : Nat → Value) (j : Nat) (o : Value) (ts : List ByteArray) (GL1 : Pin), en = (upd (upd (upd (upd env1 1 (.pointer (some ⟨b1, 0, none⟩))) 2 (.string (⟨#[]⟩ : ByteArray))) 3 o) 4 (.int .i64 (j : Int))) ∧ k = ns.length - j ∧ Ext noS G w GL1 W ∧ Pin.le G9 GL1 ∧ (j ≤ ns.length) ∧ (ts = txts ns j) ∧ (ts.length = j) ∧ (Own eStr 9 GL1 W w.heap.size o (ts))) _ ⟨_, 0, u14, [], G9, (packS (x := 4) (packS (x := 3) (packS (x := 2) (pack1 (x := 1) rfl) rfl) rfl) rfl), rfl, hX20, Pin.le_refl _, Nat.zero_le _, rfl, rfl, ho21⟩ ?_
  rintro k22 _ w23 ⟨env1, j, o, ts, GL1, rfl, hk24, hX25, hlek22, hj, ht, htl, hw26⟩
  refine s_seq ?_
  refine s_seq ?_
  refine c_reg ?_
  refine qd rfl rfl rfl (r_move (v := (.int .i64 (j : Int))) rfl) ?_
  refine qd rfl rfl rfl (r_fldp (k := 0) rfl Try.underlying26 rfl nz24 rfl) ?_
  refine qd rfl rfl rfl (r_ldp1 (u := v) ag24 rfl ((Pins.of_le hX25.pins hlek22) _ _ _ (hbp12 0 _ rfl))) ?_
  refine qd rfl rfl rfl (run_len Try.underlying24 (v := v) rfl hv) ?_
  refine qd rfl rfl rfl (r_lss rfl rfl) ?_
  refine qe ?_
  refine s_then ?_
  refine c_ifd (p := ((j : Int) : Int) < (ns.length : Int)) rfl rfl (fun h27 => ?_) (fun h27 => ?_)
  · skip
    have hjl := joinP_size (Texts.of ht) (hg.lenl (i := j) (by omega))
    have hjr := joinP_size (Texts.of ht) (hg.lenr (i := j) (by omega))
    refine wp_skip ?_
    refine s_then ?_
    refine s_seq ?_
    refine s_blk ?_
    refine s_seq ?_
    refine c_draw (S := fun w => Pins GL1 w) (last := 21) (by kernel_rfl) rfl ?_
    have hl28 : Below w23.heap.size w23 w23.drew := (Below.refl _ _).drew
    have hp29 := hX25.pins.below hl28
    have hX30 := hX25.step hp29 hl28
    have ho31 := hw26.below hl28
    refine dr_take (i := 0) rfl rfl rfl (want_none rfl _) (by kernel_rfl) (fun _ _ => r_move (v := o) rfl) hX30.pins ?_
    refine dr_take (i := 1) rfl rfl rfl (want_none rfl _) (by kernel_rfl) (fun _ _ => r_fldp (k := 0) rfl Try.underlying26 rfl nz24 rfl) hX30.pins ?_
    refine dr_take (i := 2) rfl rfl rfl (want_none rfl _) (by kernel_rfl) (fun _ hS => r_ldp1 (u := v) ag24 rfl ((Pins.of_le hS hlek22) _ _ _ (hbp12 0 _ rfl))) hX30.pins ?_
    refine dr_take (i := 3) rfl rfl rfl (want_none rfl _) (by kernel_rfl) (fun _ _ => r_move (v := (.int .i64 (j : Int))) rfl) hX30.pins ?_
    refine dr_take (i := 4) rfl rfl rfl (want_none rfl _) (by kernel_rfl) (fun _ _ => run_idx Try.underlying24 sz82 (v := v) rfl rfl hv (by omega) (by omega)) hX30.pins ?_
    refine dr_take (i := 5) rfl rfl rfl (want_none rfl _) (by kernel_rfl) (fun _ _ => run_fld (off := 0) Try.underlying82 rfl rfl nz29 (z := (j : Int)) (k := 0) rfl hv (by omega) (by omega)) hX30.pins ?_
    obtain ⟨u32, hr33, hl34⟩ := nm_nl (hv.at (z := (j : Int)) (by omega) (by omega)) (j := j) rfl
    have hm35 := hr33.max
    refine dr_take (i := 6) rfl rfl rfl (want_none rfl _) (by kernel_rfl) (fun _ hS => hl34 ag29 rfl (Pins.of_le hS (Pin.le_trans hle10 hlek22))) hX30.pins ?_
    refine dr_take (i := 10) rfl rfl rfl (want_none rfl _) (by kernel_rfl) (fun _ _ => r_move (v := o) rfl) hX30.pins ?_
    refine dr_take (i := 11) rfl rfl rfl (want_none rfl _) (by kernel_rfl) (fun _ _ => r_fldp (k := 0) rfl Try.underlying26 rfl nz24 rfl) hX30.pins ?_
    refine dr_take (i := 12) rfl rfl rfl (want_none rfl _) (by kernel_rfl) (fun _ hS => r_ldp1 (u := v) ag24 rfl ((Pins.of_le hS hlek22) _ _ _ (hbp12 0 _ rfl))) hX30.pins ?_
    refine dr_take (i := 13) rfl rfl rfl (want_none rfl _) (by kernel_rfl) (fun _ _ => r_move (v := (.int .i64 (j : Int))) rfl) hX30.pins ?_
    refine dr_take (i := 14) rfl rfl rfl (want_none rfl _) (by kernel_rfl) (fun _ _ => run_idx Try.underlying24 sz82 (v := v) rfl rfl hv (by omega) (by omega)) hX30.pins ?_
    refine dr_take (i := 15) rfl rfl rfl (want_none rfl _) (by kernel_rfl) (fun _ _ => run_fld (off := 1) Try.underlying82 rfl rfl nz29 (z := (j : Int)) (k := 0) rfl hv (by omega) (by omega)) hX30.pins ?_
    obtain ⟨u36, hr37, hl38⟩ := nm_nr (hv.at (z := (j : Int)) (by omega) (by omega)) (j := j) rfl
    have hm39 := hr37.max
    refine dr_take (i := 16) rfl rfl rfl (want_none rfl _) (by kernel_rfl) (fun _ hS => hl38 ag29 rfl (Pins.of_le hS (Pin.le_trans hle10 hlek22))) hX30.pins ?_
    refine dr_one (i := 7) (by kernel_rfl) (drOp1 (i := 7) rfl rfl rfl (want_none rfl _) (o_call (vs := [o, u32]) Try.func98 nm98 rfl rfl rfl (Calls.mono (l3Join_spec hX30.pins (Gadd.pins hX30.pins o) ho31.read (hr33.mono (Pin.le_trans hle10 hlek22)) (hg.atl (by omega) htl) (Texts.of ht) (hg.lenl (by omega))) ?_)))
    rintro _ _ ⟨rfl, rfl⟩
    refine ⟨_, rfl, ?_⟩
    refine ⟨fun _ => hX30.pins, ?_⟩
    have hm40 : (⟨#[123]⟩ : ByteArray).size = 1 := rfl
    have hm41 : ((⟨#[123]⟩ : ByteArray) ++ (joinP ts ((ns.getD j default).l))).size = (⟨#[123]⟩ : ByteArray).size + (joinP ts ((ns.getD j default).l)).size := ByteArray.size_append
    refine dr_take (i := 8) rfl rfl rfl (want_none rfl _) (by kernel_rfl) (fun _ _ => r_addS rfl rfl (by omega)) hX30.pins ?_
    have hm42 : (⟨#[124]⟩ : ByteArray).size = 1 := rfl
    have hm43 : (((⟨#[123]⟩ : ByteArray) ++ (joinP ts ((ns.getD j default).l))) ++ (⟨#[124]⟩ : ByteArray)).size = ((⟨#[123]⟩ : ByteArray) ++ (joinP ts ((ns.getD j default).l))).size + (⟨#[124]⟩ : ByteArray).size := ByteArray.size_append
    refine dr_take (i := 9) rfl rfl rfl (want_none rfl _) (by kernel_rfl) (fun _ _ => r_addS rfl rfl (by omega)) hX30.pins ?_
    refine dr_one (i := 17) (by kernel_rfl) (drOp1 (i := 17) rfl rfl rfl (want_none rfl _) (o_call (vs := [o, u36]) Try.func98 nm98 rfl rfl rfl (Calls.mono (l3Join_spec hX30.pins (Gadd.pins hX30.pins o) ho31.read (hr37.mono (Pin.le_trans hle10 hlek22)) (hg.atr (by omega) htl) (Texts.of ht) (hg.lenr (by omega))) ?_)))
    rintro _ _ ⟨rfl, rfl⟩
    refine ⟨_, rfl, ?_⟩
    refine ⟨fun _ => hX30.pins, ?_⟩
    have hm44 : ((((⟨#[123]⟩ : ByteArray) ++ (joinP ts ((ns.getD j default).l))) ++ (⟨#[124]⟩ : ByteArray)) ++ (joinP ts ((ns.getD j default).r))).size = (((⟨#[123]⟩ : ByteArray) ++ (joinP ts ((ns.getD j default).l))) ++ (⟨#[124]⟩ : ByteArray)).size + (joinP ts ((ns.getD j default).r)).size := ByteArray.size_append
    refine dr_take (i := 18) rfl rfl rfl (want_none rfl _) (by kernel_rfl) (fun _ _ => r_addS rfl rfl (by omega)) hX30.pins ?_
    have hm45 : (⟨#[125]⟩ : ByteArray).size = 1 := rfl
    have hm46 : (((((⟨#[123]⟩ : ByteArray) ++ (joinP ts ((ns.getD j default).l))) ++ (⟨#[124]⟩ : ByteArray)) ++ (joinP ts ((ns.getD j default).r))) ++ (⟨#[125]⟩ : ByteArray)).size = ((((⟨#[123]⟩ : ByteArray) ++ (joinP ts ((ns.getD j default).l))) ++ (⟨#[124]⟩ : ByteArray)) ++ (joinP ts ((ns.getD j default).r))).size + (⟨#[125]⟩ : ByteArray).size := ByteArray.size_append
    refine dr_take (i := 19) rfl rfl rfl (want_none rfl _) (by kernel_rfl) (fun _ _ => r_addS rfl rfl (by omega)) hX30.pins ?_
    refine dr_take (i := 20) rfl rfl rfl (want_none rfl _) (by kernel_rfl) (fun _ _ => r_assign (v := (.string (((((⟨#[123]⟩ : ByteArray) ++ (joinP ts ((ns.getD j default).l))) ++ (⟨#[124]⟩ : ByteArray)) ++ (joinP ts ((ns.getD j default).r))) ++ (⟨#[125]⟩ : ByteArray)))) rfl) hX30.pins ?_
    refine dr_end (by kernel_rfl) ?_
    refine s_then ?_
    refine s_seq ?_
    refine s_seq ?_
    refine c_reg ?_
    refine qd rfl rfl rfl (r_move (v := (.string (((((⟨#[123]⟩ : ByteArray) ++ (joinP ts ((ns.getD j default).l))) ++ (⟨#[124]⟩ : ByteArray)) ++ (joinP ts ((ns.getD j default).r))) ++ (⟨#[125]⟩ : ByteArray)))) rfl) ?_
    refine qd rfl rfl rfl (r_lenS Try.underlying9 rfl) ?_
    refine qd rfl rfl rfl (r_gtr rfl rfl) ?_
    refine qe ?_
    refine s_then ?_
    refine c_ifd (p := (4001 : Int) < ((((((⟨#[123]⟩ : ByteArray) ++ (joinP ts ((ns.getD j default).l))) ++ (⟨#[124]⟩ : ByteArray)) ++ (joinP ts ((ns.getD j default).r))) ++ (⟨#[125]⟩ : ByteArray)).size : Int)) rfl rfl (fun h47 => ?_) (fun h47 => ?_)
    · skip
      refine c_reg ?_
      refine qd rfl rfl rfl (r_move (v := (.string (((((⟨#[123]⟩ : ByteArray) ++ (joinP ts ((ns.getD j default).l))) ++ (⟨#[124]⟩ : ByteArray)) ++ (joinP ts ((ns.getD j default).r))) ++ (⟨#[125]⟩ : ByteArray)))) rfl) ?_
      refine qd rfl rfl rfl (r_cutS Try.underlying9 rfl rfl (by omega) (by omega)) ?_
      refine qd rfl rfl rfl (r_assign (v := (.string ((((((⟨#[123]⟩ : ByteArray) ++ (joinP ts ((ns.getD j default).l))) ++ (⟨#[124]⟩ : ByteArray)) ++ (joinP ts ((ns.getD j default).r))) ++ (⟨#[125]⟩ : ByteArray)).extract 0 4001))) rfl) ?_
      refine qe ?_
      refine s_then ?_
      refine c_reg ?_
      refine qd rfl rfl rfl (r_move (v := o) rfl) ?_
      refine qd rfl rfl rfl (r_move (v := (.string ((((((⟨#[123]⟩ : ByteArray) ++ (joinP ts ((ns.getD j default).l))) ++ (⟨#[124]⟩ : ByteArray)) ++ (joinP ts ((ns.getD j default).r))) ++ (⟨#[125]⟩ : ByteArray)).extract 0 4001))) rfl) ?_
      refine q1 rfl rfl rfl (o_buildF (E := eStr) (e := 9) [(.string ((((((⟨#[123]⟩ : ByteArray) ++ (joinP ts ((ns.getD j default).l))) ++ (⟨#[124]⟩ : ByteArray)) ++ (joinP ts ((ns.getD j default).r))) ++ (⟨#[125]⟩ : ByteArray)).extract 0 4001))] [(((((⟨#[123]⟩ : ByteArray) ++ (joinP ts ((ns.getD j default).l))) ++ (⟨#[124]⟩ : ByteArray)) ++ (joinP ts ((ns.getD j default).r))) ++ (⟨#[125]⟩ : ByteArray)).extract 0 4001] Try.underlying94 sz9 zr9 (by exact reps1 (by rfl)) (ones1 (by rfl)) rfl rfl rfl rfl (by decide) hX30.pins (fun u48 w49 ho50 hp51 hl52 hk53 => ?_))
      have hX54 := hX30.step hp51 hl52
      have ho55 := ho31.below hl52
      have ha56 : Apart u48.ownBlock o.ownBlock := new_ne_own hk53 ho31.lt
      have ho57 : Own eStr 9 GL1 w49 w.heap.size u48 ([(((((⟨#[123]⟩ : ByteArray) ++ (joinP ts ((ns.getD j default).l))) ++ (⟨#[124]⟩ : ByteArray)) ++ (joinP ts ((ns.getD j default).r))) ++ (⟨#[125]⟩ : ByteArray)).extract 0 4001]) := ho50.weaken hX30.size
      refine q1 rfl rfl rfl (o_append (E := eStr) (v := o) (u := u48) 16 Try.underlying94 ap9 (by decide) rfl rfl hX54.pins ho55 ho57.src (by first | omega | (simp; done) | (simp; omega)) (by first | omega | (simp; done) | (simp; omega)) (hX54.size) (fun u58 w59 ho60 hp61 hg62 hw63 => ?_))
      have hX64 := hX54.write hp61 hg62 ((lo_own ho55))
      have ho65 := ho57.keptA hg62 ha56
      have ha66 : Apart u48.ownBlock u58.ownBlock := app_ne_own ha56 hw63 ho57.lt
      have hm67 : (ts ++ ([(((((⟨#[123]⟩ : ByteArray) ++ (joinP ts ((ns.getD j default).l))) ++ (⟨#[124]⟩ : ByteArray)) ++ (joinP ts ((ns.getD j default).r))) ++ (⟨#[125]⟩ : ByteArray)).extract 0 4001])).length = ts.length + 1 := by simp
      refine qd rfl rfl rfl (r_assign (v := u58) rfl) ?_
      refine qe ?_
      refine s_blkN ?_
      refine s_then ?_
      refine c_reg ?_
      refine qd rfl rfl rfl (r_move (v := (.int .i64 (j : Int))) rfl) ?_
      refine qd rfl rfl rfl (r_add rfl rfl (by omega)) ?_
      refine qd rfl rfl rfl (r_assign (v := (.int .i64 ((j : Int) + 1))) rfl) ?_
      refine qe ?_
      refine s_lopN ?_
      refine ⟨_, ?_, _, rfl, _, j + 1, u58, ts ++ [(((((⟨#[123]⟩ : ByteArray) ++ (joinP ts ((ns.getD j default).l))) ++ (⟨#[124]⟩ : ByteArray)) ++ (joinP ts ((ns.getD j default).r))) ++ (⟨#[125]⟩ : ByteArray)).extract 0 4001], GL1, (packS (x := 4) (packS (x := 3) (packS (x := 2) (pack1 (x := 1) rfl) rfl) rfl) rfl), rfl, hX64, hlek22, (by omega), (txts_cut ht h47), (by simp; omega), ho60⟩
      omega
    · skip
      refine wp_skip ?_
      refine s_then ?_
      refine c_reg ?_
      refine qd rfl rfl rfl (r_move (v := o) rfl) ?_
      refine qd rfl rfl rfl (r_move (v := (.string (((((⟨#[123]⟩ : ByteArray) ++ (joinP ts ((ns.getD j default).l))) ++ (⟨#[124]⟩ : ByteArray)) ++ (joinP ts ((ns.getD j default).r))) ++ (⟨#[125]⟩ : ByteArray)))) rfl) ?_
      refine q1 rfl rfl rfl (o_buildF (E := eStr) (e := 9) [(.string (((((⟨#[123]⟩ : ByteArray) ++ (joinP ts ((ns.getD j default).l))) ++ (⟨#[124]⟩ : ByteArray)) ++ (joinP ts ((ns.getD j default).r))) ++ (⟨#[125]⟩ : ByteArray)))] [((((⟨#[123]⟩ : ByteArray) ++ (joinP ts ((ns.getD j default).l))) ++ (⟨#[124]⟩ : ByteArray)) ++ (joinP ts ((ns.getD j default).r))) ++ (⟨#[125]⟩ : ByteArray)] Try.underlying94 sz9 zr9 (by exact reps1 (by rfl)) (ones1 (by rfl)) rfl rfl rfl rfl (by decide) hX30.pins (fun u68 w69 ho70 hp71 hl72 hk73 => ?_))
      have hX74 := hX30.step hp71 hl72
      have ho75 := ho31.below hl72
      have ha76 : Apart u68.ownBlock o.ownBlock := new_ne_own hk73 ho31.lt
      have ho77 : Own eStr 9 GL1 w69 w.heap.size u68 ([((((⟨#[123]⟩ : ByteArray) ++ (joinP ts ((ns.getD j default).l))) ++ (⟨#[124]⟩ : ByteArray)) ++ (joinP ts ((ns.getD j default).r))) ++ (⟨#[125]⟩ : ByteArray)]) := ho70.weaken hX30.size
      refine q1 rfl rfl rfl (o_append (E := eStr) (v := o) (u := u68) 16 Try.underlying94 ap9 (by decide) rfl rfl hX74.pins ho75 ho77.src (by first | omega | (simp; done) | (simp; omega)) (by first | omega | (simp; done) | (simp; omega)) (hX74.size) (fun u78 w79 ho80 hp81 hg82 hw83 => ?_))
      have hX84 := hX74.write hp81 hg82 ((lo_own ho75))
      have ho85 := ho77.keptA hg82 ha76
      have ha86 : Apart u68.ownBlock u78.ownBlock := app_ne_own ha76 hw83 ho77.lt
      have hm87 : (ts ++ ([((((⟨#[123]⟩ : ByteArray) ++ (joinP ts ((ns.getD j default).l))) ++ (⟨#[124]⟩ : ByteArray)) ++ (joinP ts ((ns.getD j default).r))) ++ (⟨#[125]⟩ : ByteArray)])).length = ts.length + 1 := by simp
      refine qd rfl rfl rfl (r_assign (v := u78) rfl) ?_
      refine qe ?_
      refine s_blkN ?_
      refine s_then ?_
      refine c_reg ?_
      refine qd rfl rfl rfl (r_move (v := (.int .i64 (j : Int))) rfl) ?_
      refine qd rfl rfl rfl (r_add rfl rfl (by omega)) ?_
      refine qd rfl rfl rfl (r_assign (v := (.int .i64 ((j : Int) + 1))) rfl) ?_
      refine qe ?_
      refine s_lopN ?_
      refine ⟨_, ?_, _, rfl, _, j + 1, u78, ts ++ [((((⟨#[123]⟩ : ByteArray) ++ (joinP ts ((ns.getD j default).l))) ++ (⟨#[124]⟩ : ByteArray)) ++ (joinP ts ((ns.getD j default).r))) ++ (⟨#[125]⟩ : ByteArray)], GL1, (packS (x := 4) (packS (x := 3) (packS (x := 2) (pack1 (x := 1) rfl) rfl) rfl) rfl), rfl, hX84, hlek22, (by omega), (txts_no ht h47), (by simp; omega), ho80⟩
      omega
  · skip
    refine wp_exit ?_
    refine s_thenE ?_
    refine s_lopE ?_
    refine s_blkE ?_
    refine s_then ?_
    refine s_seq ?_
    refine c_reg ?_
    refine qd rfl rfl rfl (r_move (v := o) rfl) ?_
    refine qd rfl rfl rfl (r_move (v := o) rfl) ?_
    refine qd rfl rfl rfl (run_len Try.underlying94 (v := o) rfl hw26.read) ?_
    refine qd rfl rfl rfl (r_sub rfl rfl (by omega)) ?_
    refine qd rfl rfl rfl (run_idx Try.underlying94 sz9 (v := o) rfl rfl hw26.read (by omega) (by omega)) ?_
    refine qd rfl rfl rfl (run_load_str (r := ts.getD ((ts.length : Int) - 1).toNat ByteArray.empty) rfl ag9 (z := ((ts.length : Int) - 1)) rfl hw26.read (Gadd.pins hX25.pins o) (by omega) (by omega)) ?_
    refine qd rfl rfl rfl (r_assign (v := (.string (ts.getD ((ts.length : Int) - 1).toNat ByteArray.empty))) rfl) ?_
    refine qe ?_
    refine s_then ?_
    refine wp_ret ?_
    refine s_ret ?_
    refine c_ret1 (v := (.string (ts.getD ((ts.length : Int) - 1).toNat ByteArray.empty))) rfl rfl rfl ?_
    exact ⟨_, congrArg (fun z => Ending.returned (Value.string z)) (text_done ht (by omega) (by omega)), hX25⟩

theorem sFormText_spec {w : World} {G : Pin} {v : Value} {ns : List Nd} (hP : Pins G w) (hv : RSl eNode G v ns) :
    Calls Try.prog 25 [(.agg [v].toArray)].toArray w fun e w' => ∃ G', e = .returned (.tuple #[.string (ftS ns), .bool (ftOk ns)]) ∧ Ext noS G w G' w' := by
  refine s_enter (n := 15) Try.func25 Try.ntmps25 rfl rfl ?_
  have hX0 : Ext noS G w G w := Ext.refl hP
  refine s_seq ?_
  refine c_reg ?_
  refine q1 rfl rfl rfl (o_box [v] (v := (.agg [v].toArray)) rfl rfl hX0.pins (fun b1 w2 hk3 hb4 hp5 hl6 => ?_))
  have hX7 := hX0.step hp5 hl6
  have hlo8 : w.heap.size ≤ b1 := by have := hX0.size; omega
  obtain ⟨G9, hle10, hX11, hbp12, hf13⟩ := hb4.shut hX7 hlo8
  refine qd rfl rfl rfl (r_assign (v := (.string (⟨#[]⟩ : ByteArray))) rfl) ?_
  refine qd rfl rfl rfl (r_assign (v := (.bool false)) rfl) ?_
  refine qe ?_
  refine s_then ?_
  refine s_seq ?_
  refine s_seq ?_
  refine c_reg ?_
  refine qd rfl rfl rfl (r_ldpA (cs := [v]) ag26 sz26 rfl (fun j u hj => hX11.pins _ _ _ (hbp12 _ _ (by simpa using hj)))) ?_
  refine q1 rfl rfl rfl (o_call (vs := [(.agg [v].toArray)]) Try.func49 nm49 rfl rfl rfl (Calls.mono (l3Good_spec hX11.pins (hv.mono hle10)) ?_))
  rintro _ w15 ⟨G14, rfl, hx16⟩
  refine ⟨_, rfl, ?_⟩
  have hX17 := hX11.tr hx16
  refine qd rfl rfl rfl (r_not rfl) ?_
  refine qd rfl rfl rfl (r_move (v := (.bool (!(decP (GoodS ns))))) rfl) ?_
  refine qbn (t := 7) rfl (fun h18 => ?_) (fun h18 => ?_)
  · skip
    refine qdg rfl rfl rfl rfl rfl rfl (r_ldpA (cs := [v]) ag26 sz26 rfl (fun j u hj => (Pins.of_le hX17.pins hx16.le) _ _ _ (hbp12 _ _ (by simpa using hj)))) ?_
    refine q1g rfl rfl rfl rfl rfl rfl (o_call (vs := [(.agg [v].toArray)]) Try.func61 nm61 rfl rfl rfl (Calls.mono (l3Text_spec hX17.pins (hv.mono (Pin.le_trans hle10 hx16.le)) (goodB_true.1 ((good_eq ns).symm.trans h18))) ?_))
    rintro _ w20 ⟨G19, rfl, hx21⟩
    refine ⟨_, rfl, ?_⟩
    have hX22 := hX17.tr hx21
    refine qdg rfl rfl rfl rfl rfl rfl (r_lenS Try.underlying9 rfl) ?_
    refine qdg rfl rfl rfl rfl rfl rfl (r_gtr rfl rfl) ?_
    refine qd rfl rfl rfl (r_pickF (v := (.bool (decide ((4000 : Int) < ((textOf ns).size : Int))))) rfl rfl) ?_
    refine qe ?_
    refine s_then ?_
    refine c_ifd (p := (4000 : Int) < ((textOf ns).size : Int)) rfl rfl (fun h23 => ?_) (fun h23 => ?_)
    · skip
      refine s_seq ?_
      refine c_reg ?_
      refine qd rfl rfl rfl (r_assign (v := (.string (⟨#[]⟩ : ByteArray))) rfl) ?_
      refine qd rfl rfl rfl (r_assign (v := (.bool false)) rfl) ?_
      refine qe ?_
      refine s_then ?_
      refine wp_ret ?_
      refine s_ret ?_
      refine c_ret2 (v := (.string (⟨#[]⟩ : ByteArray))) (u := (.bool false)) rfl rfl rfl rfl rfl ?_
      obtain ⟨hf1, hf2⟩ := ft_long h23
      exact ⟨_, by rw [hf1, hf2]; rfl, hX22⟩
    · skip
      refine wp_skip ?_
      refine s_then ?_
      refine s_seq ?_
      refine c_reg ?_
      refine qd rfl rfl rfl (r_ldpA (cs := [v]) ag26 sz26 rfl (fun j u hj => (Pins.of_le hX22.pins (Pin.le_trans hx16.le hx21.le)) _ _ _ (hbp12 _ _ (by simpa using hj)))) ?_
      refine q1 rfl rfl rfl (o_call (vs := [(.agg [v].toArray)]) Try.func61 nm61 rfl rfl rfl (Calls.mono (l3Text_spec hX22.pins (hv.mono (Pin.le_trans (Pin.le_trans hle10 hx16.le) hx21.le)) (goodB_true.1 ((good_eq ns).symm.trans h18))) ?_))
      rintro _ w25 ⟨G24, rfl, hx26⟩
      refine ⟨_, rfl, ?_⟩
      have hX27 := hX22.tr hx26
      refine qd rfl rfl rfl (r_assign (v := (.string (textOf ns))) rfl) ?_
      refine qd rfl rfl rfl (r_assign (v := (.bool true)) rfl) ?_
      refine qe ?_
      refine s_then ?_
      refine wp_ret ?_
      refine s_ret ?_
      refine c_ret2 (v := (.string (textOf ns))) (u := (.bool true)) rfl rfl rfl rfl rfl ?_
      obtain ⟨hf1, hf2⟩ := ft_good ((good_eq ns).symm.trans h18) h23
      exact ⟨_, by rw [hf1, hf2], hX27⟩
  · skip
    refine qs rfl rfl rfl rfl rfl rfl ?_
    refine qs rfl rfl rfl rfl rfl rfl ?_
    refine qs rfl rfl rfl rfl rfl rfl ?_
    refine qs rfl rfl rfl rfl rfl rfl ?_
    refine qd rfl rfl rfl (r_pickT (v := (.bool true)) rfl rfl) ?_
    refine qe ?_
    refine s_then ?_
    refine c_ifT rfl rfl ?_
    refine s_seq ?_
    refine c_reg ?_
    refine qd rfl rfl rfl (r_assign (v := (.string (⟨#[]⟩ : ByteArray))) rfl) ?_
    refine qd rfl rfl rfl (r_assign (v := (.bool false)) rfl) ?_
    refine qe ?_
    refine s_then ?_
    refine wp_ret ?_
    refine s_ret ?_
    refine c_ret2 (v := (.string (⟨#[]⟩ : ByteArray))) (u := (.bool false)) rfl rfl rfl rfl rfl ?_
    obtain ⟨hf1, hf2⟩ := ft_bad ((good_eq ns).symm.trans h18)
    exact ⟨_, by rw [hf1, hf2]; rfl, hX17⟩

theorem iFormText_spec {w : World} {G : Pin} {v : Value} {ns : List Nd} (hP : Pins G w) (hv : RSl eNode G v ns) :
    Calls Try.prog 26 [(.agg [v].toArray)].toArray w fun e w' => ∃ G', e = .returned (.tuple #[.string (ftS ns), .bool (ftOk ns)]) ∧ Ext noS G w G' w' := by
  refine s_enter (n := 132) Try.func26 Try.ntmps26 rfl rfl ?_
  have hX0 : Ext noS G w G w := Ext.refl hP
  refine s_seq ?_
  refine c_reg ?_
  refine q1 rfl rfl rfl (o_box [v] (v := (.agg [v].toArray)) rfl rfl hX0.pins (fun b1 w2 hk3 hb4 hp5 hl6 => ?_))
  have hX7 := hX0.step hp5 hl6
  have hlo8 : w.heap.size ≤ b1 := by have := hX0.size; omega
  obtain ⟨G9, hle10, hX11, hbp12, hf13⟩ := hb4.shut hX7 hlo8
  refine qd rfl rfl rfl (r_assign (v := (.string (⟨#[]⟩ : ByteArray))) rfl) ?_
  refine qd rfl rfl rfl (r_assign (v := (.bool false)) rfl) ?_
  refine qe ?_
  refine s_then ?_
  refine s_seq ?_
  refine s_seq ?_
  refine c_reg ?_
  refine qd rfl rfl rfl (r_ldpA (cs := [v]) ag26 sz26 rfl (fun j u hj => hX11.pins _ _ _ (hbp12 _ _ (by simpa using hj)))) ?_
  refine q1 rfl rfl rfl (o_call (vs := [(.agg [v].toArray)]) Try.func46 nm46 rfl rfl rfl (Calls.mono (goodForm_spec hX11.pins (hv.mono hle10)) ?_))
  rintro _ w15 ⟨G14, rfl, hx16⟩
  refine ⟨_, rfl, ?_⟩
  have hX17 := hX11.tr hx16
  refine qd rfl rfl rfl (r_not rfl) ?_
  refine qe ?_
  refine s_then ?_
  refine c_ifn rfl rfl (fun h18 => ?_) (fun h18 => ?_)
  · skip
    refine wp_skip ?_
    refine s_then ?_
    refine s_seq ?_
    refine c_reg ?_
    have hg : GoodP ns := goodB_true.1 h18
    have hlo := hg.lo
    have hhi := hg.hi
    refine qd rfl rfl rfl (r_fldp (k := 0) rfl Try.underlying26 rfl nz24 rfl) ?_
    refine qd rfl rfl rfl (r_ldp1 (u := v) ag24 rfl ((Pins.of_le hX17.pins hx16.le) _ _ _ (hbp12 0 _ rfl))) ?_
    refine qd rfl rfl rfl (run_len Try.underlying24 (v := v) rfl hv) ?_
    refine q1 rfl rfl rfl (o_make (E := eInt) 0 8 (.int .i64 0) Try.underlying29 mk3 (fun _ => rfl) rfl rfl hX17.pins (by omega) (by omega) (by omega) (fun u19 w20 ho21 hp22 hl23 hk24 => ?_))
    have hX25 := hX17.step hp22 hl23
    have ho26 : Own eInt 3 G14 w20 w.heap.size u19 (List.replicate ns.length 0) := ho21.weaken hX17.size
    have hm27 : (List.replicate ns.length 0).length = ns.length := List.length_replicate ..
    refine qd rfl rfl rfl (r_assign (v := u19) rfl) ?_
    refine qe ?_
    refine s_then ?_
    refine s_seq ?_
    refine c_reg ?_
    refine qd rfl rfl rfl (r_fldp (k := 0) rfl Try.underlying26 rfl nz24 rfl) ?_
    refine qd rfl rfl rfl (r_ldp1 (u := v) ag24 rfl ((Pins.of_le hX25.pins hx16.le) _ _ _ (hbp12 0 _ rfl))) ?_
    refine qd rfl rfl rfl (run_len Try.underlying24 (v := v) rfl hv) ?_
    refine q1 rfl rfl rfl (o_make (E := eStr) ByteArray.empty 16 (.string ByteArray.empty) Try.underlying94 mk9 (fun _ => rfl) rfl rfl hX25.pins (by omega) (by omega) (by omega) (fun u28 w29 ho30 hp31 hl32 hk33 => ?_))
    have hX34 := hX25.step hp31 hl32
    have ho35 := ho26.below hl32
    have ha36 : Apart u28.ownBlock u19.ownBlock := new_ne_own hk33 ho26.lt
    have ho37 : Own eStr 9 G14 w29 w.heap.size u28 (List.replicate ns.length ByteArray.empty) := ho30.weaken hX25.size
    have hm38 : (List.replicate ns.length ByteArray.empty).length = ns.length := List.length_replicate ..
    refine qd rfl rfl rfl (r_assign (v := u28) rfl) ?_
    refine qe ?_
    refine s_then ?_
    refine s_seq ?_
    refine s_seq ?_
    refine c_reg ?_
    refine qd rfl rfl rfl (r_fldp (k := 0) rfl Try.underlying26 rfl nz24 rfl) ?_
    refine qd rfl rfl rfl (r_ldp1 (u := v) ag24 rfl ((Pins.of_le hX34.pins hx16.le) _ _ _ (hbp12 0 _ rfl))) ?_
    refine qd rfl rfl rfl (run_len Try.underlying24 (v := v) rfl hv) ?_
    refine qd rfl rfl rfl (r_move (v := (.int .i64 0)) rfl) ?_
    refine qe ?_
    refine s_then ?_
    refine s_blk ?_
    refine s_loop (fun (k : Nat) (en : Nat → Value) (W : World) => ∃ (env1 : Nat → Value) (j : Nat) (ss : List Int) (ts : List ByteArray) (GL1 : Pin), en = (upd (upd (upd (upd (upd env1 4 u19) 5 u28) 30 v) 31 (.int .i64 (ns.length : Int))) 32 (.int .i64 (j : Int))) ∧ k = ns.length - j ∧ Ext noS G w GL1 W ∧ Pin.le G14 GL1 ∧ (j ≤ ns.length) ∧ (ss.length = ns.length) ∧ (ts.length = ns.length) ∧ (∀ i, i < j → ss.getD i 0 = ((txtA ns i).size : Int)) ∧ (∀ i, i < j → ts.getD i ByteArray.empty = txtA ns i) ∧ (∀ i, i < j → (txtA ns i).size ≤ 4000) ∧ (Own eInt 3 GL1 W w.heap.size u19 (ss)) ∧ (Own eStr 9 GL1 W w.heap.size u28 (ts))) _ ⟨_, 0, List.replicate ns.length 0, List.replicate ns.length ByteArray.empty, G14, (packS (x := 32) (packS (x := 31) (packS (x := 30) (packS (x := 5) (pack1 (x := 4) rfl) rfl) rfl) rfl) rfl), rfl, hX34, Pin.le_refl _, Nat.zero_le _, (by simp), (by simp), (fun i hi => absurd hi (Nat.not_lt_zero i)), (fun i hi => absurd hi (Nat.not_lt_zero i)), (fun i hi => absurd hi (Nat.not_lt_zero i)), ho35, ho37⟩ ?_
    rintro k39 _ w40 ⟨env1, j, ss, ts, GL1, rfl, hk41, hX42, hlek39, hj, hsl, htl, hsv, htv, hsm, hw43, hw44⟩
    refine s_seq ?_
    refine c_reg ?_
    refine qd rfl rfl rfl (r_lss rfl rfl) ?_
    refine qe ?_
    refine s_then ?_
    refine s_seq ?_
    refine c_ifd (p := ((j : Int) : Int) < (ns.length : Int)) rfl rfl (fun h45 => ?_) (fun h45 => ?_)
    · skip
      refine wp_skip ?_
      refine s_then ?_
      refine s_seq ?_
      refine s_blk ?_
      refine s_seq ?_
      refine c_reg ?_
      refine qd rfl rfl rfl (r_move (v := (.int .i64 (j : Int))) rfl) ?_
      refine qd rfl rfl rfl (run_idx Try.underlying24 sz82 (v := v) rfl rfl hv (by omega) (by omega)) ?_
      obtain ⟨u46, u47, hr48, hr49, hl50⟩ := nm_node (hv.at (z := (j : Int)) (by omega) (by omega)) (j := j) rfl
      have hm51 := hr48.max
      have hm52 := hr49.max
      refine qd rfl rfl rfl (hl50 ag82 sz82 rfl (Pins.of_le hX42.pins (Pin.le_trans (Pin.le_trans hle10 hx16.le) hlek39))) ?_
      refine q1 rfl rfl rfl (o_alloc [(.slice none 0 0), (.slice none 0 0)] zr82 rfl hX42.pins (fun b53 w54 hk55 hb56 hp57 hl58 => ?_))
      have hX59 := hX42.step hp57 hl58
      have ho60 := hw43.below hl58
      have ho61 := hw44.below hl58
      have ha62 : Apart (some b53) u19.ownBlock := new_ne_own (congrArg some hk55) hw43.lt
      have ha63 : Apart (some b53) u28.ownBlock := new_ne_own (congrArg some hk55) hw44.lt
      have hlo64 : w.heap.size ≤ b53 := by have := hX42.size; omega
      refine qd rfl rfl rfl (r_assign (v := (.int .i64 (j : Int))) rfl) ?_
      refine q0 rfl rfl rfl (o_stp (cs' := [u46, u47]) (us := [u46, u47]) (v := (.agg [u46, u47].toArray)) sz82 rfl rfl rfl (ones2 hr48.one hr49.one) hX59.pins hb56 (Nat.le_of_ble_eq_true rfl) rfl (fun w65 hb66 hp67 hg68 hz69 => ?_))
      have hX70 := hX59.write hp67 hg68 ((lo_box hlo64))
      have ho71 := ho60.keptA hg68 ha62.symm
      have ho72 := ho61.keptA hg68 ha63.symm
      obtain ⟨G73, hle74, hX75, hbp76, hf77⟩ := hb66.shut hX70 hlo64
      have ho78 := ho71.moreA hle74 hf77 ha62.symm
      have ho79 := ho72.moreA hle74 hf77 ha63.symm
      refine qe ?_
      refine s_then ?_
      refine s_seq ?_
      refine c_reg ?_
      refine qd rfl rfl rfl (r_move (v := u19) rfl) ?_
      refine qd rfl rfl rfl (r_move (v := (.int .i64 (j : Int))) rfl) ?_
      refine qd rfl rfl rfl (run_idx Try.underlying29 sz3 (v := u19) rfl rfl ho78.read (by omega) (by omega)) ?_
      refine q0 rfl rfl rfl (o_set (E := eInt) (v := u19) (u := (.int .i64 3)) (z := (j : Int)) (3) sz3 rfl rfl rfl rfl hX75.pins ho78 (by omega) (by omega) (fun w80 ho81 hp82 hg83 hz84 => ?_))
      have hX85 := hX75.write hp82 hg83 ((lo_own ho78))
      have ho86 := ho79.keptA hg83 ha36
      refine qe ?_
      refine s_then ?_
      refine s_seq ?_
      refine s_seq ?_
      refine c_reg ?_
      refine qd rfl rfl rfl (r_fldp (k := 0) rfl Try.underlying82 rfl nz29 rfl) ?_
      refine qd rfl rfl rfl (r_ldp1 (u := u46) ag29 rfl (hX85.pins _ _ _ (hbp76 0 _ rfl))) ?_
      refine qd rfl rfl rfl (r_fldp (k := 1) rfl Try.underlying82 rfl nz29 rfl) ?_
      refine qd rfl rfl rfl (r_ldp1 (u := u47) ag29 rfl (hX85.pins _ _ _ (hbp76 1 _ rfl))) ?_
      refine qd rfl rfl rfl (r_buildA (m := 1) [(.slice none 0 0), (.slice none 0 0)] [u46, u47] [(0, u46, [u46]), (1, u47, [u47])] Try.underlying95 zr95 rfl sz29 rfl (List.forall_mem_cons.2 ⟨(cells_one hr48.one), (List.forall_mem_cons.2 ⟨(cells_one hr49.one), (fun _ h => by cases h)⟩)⟩) rfl) ?_
      refine qd rfl rfl rfl (r_move (v := (.int .i64 0)) rfl) ?_
      refine qe ?_
      refine s_then ?_
      refine s_blk ?_
      refine s_loop (fun (k : Nat) (en : Nat → Value) (W : World) => ∃ (env1 : Nat → Value) (s : Nat) (s2 : List Int) (c : Int), en = (upd (upd (upd (upd (upd (upd (upd (upd (upd env1 4 u19) 5 u28) 6 (.int .i64 (j : Int))) 7 (.pointer (some ⟨b53, 0, none⟩))) 30 v) 31 (.int .i64 (ns.length : Int))) 32 (.int .i64 (j : Int))) 44 (.agg [u46, u47].toArray)) 45 (.int .i64 (s : Int))) ∧ k = 2 - s ∧ Ext noS G w G73 W ∧ (s ≤ 2) ∧ (s2 = ss.set j c) ∧ (0 ≤ c ∧ c ≤ 4001) ∧ (c = sz2 ns (ns.getD j default) s) ∧ (Own eInt 3 G73 W w.heap.size u19 (s2)) ∧ (Own eStr 9 G73 W w.heap.size u28 (ts))) _ ⟨_, 0, (ss).set j 3, 3, (packS (x := 45) (packS (x := 44) (packS (x := 32) (packS (x := 31) (packS (x := 30) (packS (x := 7) (packS (x := 6) (packS (x := 5) (pack1 (x := 4) rfl) rfl) rfl) rfl) rfl) rfl) rfl) rfl) rfl), rfl, hX85, Nat.zero_le _, rfl, (by omega), rfl, ho81, ho86⟩ ?_
      rintro k87 _ w88 ⟨env1, s, s2, c, rfl, hk89, hX90, hs, hs2, hcb, hcv, hw91, hw92⟩
      have h2l : s2.length = ns.length := by rw [hs2]; simp [hsl]
      have e0 : s2.getD j 0 = c := set_self hs2 (by omega)
      refine s_seq ?_
      refine c_reg ?_
      refine qd rfl rfl rfl (r_lss rfl rfl) ?_
      refine qe ?_
      refine s_then ?_
      refine s_seq ?_
      refine c_ifd (p := ((s : Int) : Int) < 2) rfl rfl (fun h93 => ?_) (fun h93 => ?_)
      · skip
        have hpl := pick2_len hg s (j := j) (by omega)
        refine wp_skip ?_
        refine s_then ?_
        refine s_seq ?_
        refine s_blk ?_
        refine s_seq ?_
        refine c_reg ?_
        obtain ⟨u94, hr95, hl96⟩ := name_index2 (hr48.mono (Pin.le_trans (Pin.le_trans (Pin.le_trans hle10 hx16.le) hlek39) hle74)) (hr49.mono (Pin.le_trans (Pin.le_trans (Pin.le_trans hle10 hx16.le) hlek39) hle74)) (z := (s : Int)) s (by omega) (by omega) rfl
        have hm97 := hr95.max
        refine qd rfl rfl rfl (hl96 Try.underlying95 rfl sz29 ag29 rfl rfl) ?_
        refine qd rfl rfl rfl (r_assign (v := u94) rfl) ?_
        refine qe ?_
        refine s_then ?_
        refine s_seq ?_
        refine c_reg ?_
        refine qd rfl rfl rfl (r_move (v := u19) rfl) ?_
        refine qd rfl rfl rfl (r_move (v := (.int .i64 (j : Int))) rfl) ?_
        refine qd rfl rfl rfl (run_idx Try.underlying29 sz3 (v := u19) rfl rfl hw91.read (by omega) (by omega)) ?_
        refine qd rfl rfl rfl (run_load_int (r := s2.getD j 0) rfl ag3 (z := (j : Int)) rfl hw91.read (Gadd.pins hX90.pins u19) (by omega) (by omega)) ?_
        refine qd rfl rfl rfl (r_move (v := u94) rfl) ?_
        refine qd rfl rfl rfl (run_len Try.underlying29 (v := u94) rfl hr95) ?_
        refine qd rfl rfl rfl (r_sub rfl rfl (by omega)) ?_
        refine qd rfl rfl rfl (r_max rfl rfl) ?_
        refine qd rfl rfl rfl (r_add rfl rfl (by omega)) ?_
        refine qd rfl rfl rfl (run_idx Try.underlying29 sz3 (v := u19) rfl rfl hw91.read (by omega) (by omega)) ?_
        refine q0 rfl rfl rfl (o_set (E := eInt) (v := u19) (u := (.int .i64 ((s2.getD j 0) + (max 0 (((pick2 s ((ns.getD j default).l) ((ns.getD j default).r)).length : Int) - 1))))) (z := (j : Int)) ((s2.getD j 0) + (max 0 (((pick2 s ((ns.getD j default).l) ((ns.getD j default).r)).length : Int) - 1))) sz3 rfl rfl rfl rfl hX90.pins hw91 (by omega) (by omega) (fun w98 ho99 hp100 hg101 hz102 => ?_))
        have hX103 := hX90.write hp100 hg101 ((lo_own hw91))
        have ho104 := hw92.keptA hg101 ha36
        refine qe ?_
        refine s_then ?_
        refine s_seq ?_
        refine c_reg ?_
        refine qd rfl rfl rfl (r_move (v := u94) rfl) ?_
        refine qd rfl rfl rfl (run_len Try.underlying29 (v := u94) rfl hr95) ?_
        refine qd rfl rfl rfl (r_move (v := (.int .i64 0)) rfl) ?_
        refine qe ?_
        refine s_then ?_
        refine s_blk ?_
        refine s_loop (fun (k : Nat) (en : Nat → Value) (W : World) => ∃ (env1 : Nat → Value) (q : Nat) (s3 : List Int) (c3 : Int), en = (upd (upd (upd (upd (upd (upd (upd (upd (upd (upd (upd (upd env1 4 u19) 5 u28) 6 (.int .i64 (j : Int))) 7 (.pointer (some ⟨b53, 0, none⟩))) 30 v) 31 (.int .i64 (ns.length : Int))) 32 (.int .i64 (j : Int))) 44 (.agg [u46, u47].toArray)) 45 (.int .i64 (s : Int))) 58 u94) 59 (.int .i64 ((pick2 s ((ns.getD j default).l) ((ns.getD j default).r)).length : Int))) 60 (.int .i64 (q : Int))) ∧ k = (pick2 s (ns.getD j default).l (ns.getD j default).r).length - q ∧ Ext noS G w G73 W ∧ (q ≤ (pick2 s (ns.getD j default).l (ns.getD j default).r).length) ∧ (s3 = ss.set j c3) ∧ (0 ≤ c3 ∧ (c3 ≤ 4001 ∨ c3 ≤ 4030 ∧ q = 0 ∧ 0 < (pick2 s (ns.getD j default).l (ns.getD j default).r).length)) ∧ (szL ns (s2.getD j 0 + max 0 (((pick2 s (ns.getD j default).l (ns.getD j default).r).length : Int) - 1)) (pick2 s (ns.getD j default).l (ns.getD j default).r) = szL ns c3 ((pick2 s (ns.getD j default).l (ns.getD j default).r).drop q)) ∧ (Own eInt 3 G73 W w.heap.size u19 (s3)) ∧ (Own eStr 9 G73 W w.heap.size u28 (ts))) _ ⟨_, 0, (s2).set j ((s2.getD j 0) + (max 0 (((pick2 s ((ns.getD j default).l) ((ns.getD j default).r)).length : Int) - 1))), s2.getD j 0 + max 0 (((pick2 s (ns.getD j default).l (ns.getD j default).r).length : Int) - 1), (packS (x := 60) (packS (x := 59) (packS (x := 58) (packS (x := 45) (packS (x := 44) (packS (x := 32) (packS (x := 31) (packS (x := 30) (packS (x := 7) (packS (x := 6) (packS (x := 5) (pack1 (x := 4) rfl) rfl) rfl) rfl) rfl) rfl) rfl) rfl) rfl) rfl) rfl) rfl), rfl, hX103, Nat.zero_le _, (by rw [hs2, List.set_set]), (by omega), rfl, ho99, ho104⟩ ?_
        rintro k105 _ w106 ⟨env1, q, s3, c3, rfl, hk107, hX108, hq, hs3, hc3, hcr, hw109, hw110⟩
        have h3l : s3.length = ns.length := by rw [hs3]; simp [hsl]
        have e1 : s3.getD j 0 = c3 := set_self hs3 (by omega)
        refine s_seq ?_
        refine c_reg ?_
        refine qd rfl rfl rfl (r_lss rfl rfl) ?_
        refine qe ?_
        refine s_then ?_
        refine s_seq ?_
        refine c_ifd (p := ((q : Int) : Int) < ((pick2 s ((ns.getD j default).l) ((ns.getD j default).r)).length : Int)) rfl rfl (fun h111 => ?_) (fun h111 => ?_)
        · skip
          have hkq := pick2_at hg (s := s) (j := j) (by omega) (q := q) (by omega)
          have e2 : s3.getD ((pick2 s (ns.getD j default).l (ns.getD j default).r).getD q 0).toNat 0 = ((txtA ns ((pick2 s (ns.getD j default).l (ns.getD j default).r).getD q 0).toNat).size : Int) := (set_other hs3 (by omega)).trans (hsv _ (by omega))
          have e3 := txtA_size ns ((pick2 s (ns.getD j default).l (ns.getD j default).r).getD q 0).toNat
          refine wp_skip ?_
          refine s_then ?_
          refine s_seq ?_
          refine s_blk ?_
          refine s_seq ?_
          refine c_reg ?_
          refine qd rfl rfl rfl (run_idx Try.underlying29 sz3 (v := u94) rfl rfl hr95 (by omega) (by omega)) ?_
          refine qd rfl rfl rfl (run_load_int (r := (pick2 s ((ns.getD j default).l) ((ns.getD j default).r)).getD q 0) rfl ag3 (z := (q : Int)) rfl hr95 hX108.pins (by omega) (by omega)) ?_
          refine qd rfl rfl rfl (r_assign (v := (.int .i64 ((pick2 s ((ns.getD j default).l) ((ns.getD j default).r)).getD q 0))) rfl) ?_
          refine qe ?_
          refine s_then ?_
          have hq112 := Gadd.pins hX108.pins u19
          have hr113 := hw109.read
          refine c_draw (S := fun w => Pins (Gadd G73 w106 u19) w) (last := 13) (by kernel_rfl) rfl ?_
          have hl114 : Below w106.heap.size w106 w106.drew := (Below.refl _ _).drew
          have hp115 := hX108.pins.below hl114
          have hX116 := hX108.step hp115 hl114
          have ho117 := hw109.below hl114
          have ho118 := hw110.below hl114
          have hq119 := hq112.below hl114
          refine dr_take (i := 0) rfl rfl rfl (want_none rfl _) (by kernel_rfl) (fun _ _ => r_move (v := u19) rfl) hq119 ?_
          refine dr_take (i := 1) rfl rfl rfl (want_none rfl _) (by kernel_rfl) (fun _ _ => r_move (v := (.int .i64 (j : Int))) rfl) hq119 ?_
          refine dr_take (i := 2) rfl rfl rfl (want_none rfl _) (by kernel_rfl) (fun _ _ => r_move (v := u19) rfl) hq119 ?_
          refine dr_take (i := 3) rfl rfl rfl (want_none rfl _) (by kernel_rfl) (fun _ _ => r_move (v := (.int .i64 (j : Int))) rfl) hq119 ?_
          refine dr_take (i := 4) rfl rfl rfl (want_none rfl _) (by kernel_rfl) (fun _ _ => run_idx Try.underlying29 sz3 (v := u19) rfl rfl hr113 (by omega) (by omega)) hq119 ?_
          refine dr_take (i := 5) rfl rfl rfl (want_none rfl _) (by kernel_rfl) (fun _ hS => run_load_int (r := s3.getD j 0) rfl ag3 (z := (j : Int)) rfl hr113 hS (by omega) (by omega)) hq119 ?_
          refine dr_take (i := 6) rfl rfl rfl (want_none rfl _) (by kernel_rfl) (fun _ _ => r_move (v := u19) rfl) hq119 ?_
          refine dr_take (i := 7) rfl rfl rfl (want_none rfl _) (by kernel_rfl) (fun _ _ => r_move (v := (.int .i64 ((pick2 s ((ns.getD j default).l) ((ns.getD j default).r)).getD q 0))) rfl) hq119 ?_
          refine dr_take (i := 8) rfl rfl rfl (want_none rfl _) (by kernel_rfl) (fun _ _ => run_idx Try.underlying29 sz3 (v := u19) rfl rfl hr113 (by omega) (by omega)) hq119 ?_
          refine dr_take (i := 9) rfl rfl rfl (want_none rfl _) (by kernel_rfl) (fun _ hS => run_load_int (r := s3.getD ((pick2 s ((ns.getD j default).l) ((ns.getD j default).r)).getD q 0).toNat 0) rfl ag3 (z := ((pick2 s ((ns.getD j default).l) ((ns.getD j default).r)).getD q 0)) rfl hr113 hS (by omega) (by omega)) hq119 ?_
          refine dr_take (i := 10) rfl rfl rfl (want_none rfl _) (by kernel_rfl) (fun _ _ => r_add rfl rfl (by omega)) hq119 ?_
          refine dr_take (i := 11) rfl rfl rfl (want_none rfl _) (by kernel_rfl) (fun _ _ => r_min rfl rfl) hq119 ?_
          refine dr_take (i := 12) rfl rfl rfl (want_none rfl _) (by kernel_rfl) (fun _ _ => run_idx Try.underlying29 sz3 (v := u19) rfl rfl hr113 (by omega) (by omega)) hq119 ?_
          refine dr_one (i := 13) (by kernel_rfl) (drOp0 (i := 13) rfl rfl rfl (want_none rfl _) (o_set (E := eInt) (v := u19) (u := (.int .i64 (min 4001 ((s3.getD j 0) + (s3.getD ((pick2 s ((ns.getD j default).l) ((ns.getD j default).r)).getD q 0).toNat 0))))) (z := (j : Int)) (min 4001 ((s3.getD j 0) + (s3.getD ((pick2 s ((ns.getD j default).l) ((ns.getD j default).r)).getD q 0).toNat 0))) sz3 rfl rfl rfl rfl hX116.pins ho117 (by omega) (by omega) (fun w120 ho121 hp122 hg123 hz124 => ?_)))
          have hX125 := hX116.write hp122 hg123 ((lo_own ho117))
          have ho126 := ho118.keptA hg123 ha36
          refine ⟨fun h => absurd rfl h, ?_⟩
          refine dr_end (by kernel_rfl) ?_
          refine s_blkN ?_
          refine s_then ?_
          refine c_reg ?_
          refine qd rfl rfl rfl (r_add rfl rfl (by omega)) ?_
          refine qd rfl rfl rfl (r_move (v := (.int .i64 ((q : Int) + 1))) rfl) ?_
          refine qe ?_
          refine s_lopN ?_
          refine ⟨_, ?_, _, rfl, _, q + 1, (s3).set j (min 4001 ((s3.getD j 0) + (s3.getD ((pick2 s ((ns.getD j default).l) ((ns.getD j default).r)).getD q 0).toNat 0))), min 4001 (s3.getD j 0 + s3.getD ((pick2 s (ns.getD j default).l (ns.getD j default).r).getD q 0).toNat 0), (packS (x := 60) (packS (x := 59) (packS (x := 58) (packS (x := 45) (packS (x := 44) (packS (x := 32) (packS (x := 31) (packS (x := 30) (packS (x := 7) (packS (x := 6) (packS (x := 5) (pack1 (x := 4) rfl) rfl) rfl) rfl) rfl) rfl) rfl) rfl) rfl) rfl) rfl) rfl), rfl, hX125, (by omega), (by rw [hs3, List.set_set]), (by omega), (hcr.trans ((szL_next (by omega)).trans (by rw [e1, e2]; rfl))), ho121, ho126⟩
          omega
        · skip
          refine wp_exit ?_
          refine s_thenE ?_
          refine s_lopE ?_
          refine s_blkE ?_
          refine s_blkN ?_
          refine s_then ?_
          refine c_reg ?_
          refine qd rfl rfl rfl (r_add rfl rfl (by omega)) ?_
          refine qd rfl rfl rfl (r_move (v := (.int .i64 ((s : Int) + 1))) rfl) ?_
          refine qe ?_
          refine s_lopN ?_
          refine ⟨_, ?_, _, rfl, _, s + 1, s3, c3, (packS (x := 45) (packS (x := 44) (packS (x := 32) (packS (x := 31) (packS (x := 30) (packS (x := 7) (packS (x := 6) (packS (x := 5) (pack1 (x := 4) rfl) rfl) rfl) rfl) rfl) rfl) rfl) rfl) rfl), rfl, hX108, (by omega), hs3, (by omega), (by rw [szL_end (by omega)] at hcr; exact hcr.symm.trans (by rw [e0, hcv]; rfl)), hw109, hw110⟩
          omega
      · skip
        have hs22 : s = 2 := by omega
        have hcs : c = ((txtA ns j).size : Int) := by rw [hcv, hs22]; exact sz2_size hg (by omega)
        refine wp_exit ?_
        refine s_thenE ?_
        refine s_lopE ?_
        refine s_blkE ?_
        refine s_then ?_
        refine s_seq ?_
        refine s_seq ?_
        refine c_reg ?_
        refine qd rfl rfl rfl (r_move (v := u19) rfl) ?_
        refine qd rfl rfl rfl (r_move (v := (.int .i64 (j : Int))) rfl) ?_
        refine qd rfl rfl rfl (run_idx Try.underlying29 sz3 (v := u19) rfl rfl hw91.read (by omega) (by omega)) ?_
        refine qd rfl rfl rfl (run_load_int (r := s2.getD j 0) rfl ag3 (z := (j : Int)) rfl hw91.read (Gadd.pins hX90.pins u19) (by omega) (by omega)) ?_
        refine qd rfl rfl rfl (r_gtr rfl rfl) ?_
        refine qe ?_
        refine s_then ?_
        refine c_ifd (p := (4000 : Int) < (s2.getD j 0)) rfl rfl (fun h127 => ?_) (fun h127 => ?_)
        · skip
          refine s_seq ?_
          refine c_reg ?_
          refine qd rfl rfl rfl (r_assign (v := (.string (⟨#[]⟩ : ByteArray))) rfl) ?_
          refine qd rfl rfl rfl (r_assign (v := (.bool false)) rfl) ?_
          refine qe ?_
          refine s_then ?_
          refine wp_ret ?_
          refine s_ret ?_
          refine c_ret2 (v := (.string (⟨#[]⟩ : ByteArray))) (u := (.bool false)) rfl rfl rfl rfl rfl ?_
          obtain ⟨hf1, hf2⟩ := ft_long (big_up hg (j := j) (by omega) (by omega))
          exact ⟨_, by rw [hf1, hf2]; rfl, hX90⟩
        · skip
          refine wp_skip ?_
          refine s_then ?_
          refine s_seq ?_
          refine c_reg ?_
          refine qd rfl rfl rfl (r_buildA (m := 1) [(.string ByteArray.empty), (.string ByteArray.empty)] [(.string ByteArray.empty), (.string ByteArray.empty)] [] Try.underlying96 zr96 rfl sz9 rfl (fun _ h => by cases h) rfl) ?_
          refine q1 rfl rfl rfl (o_alloc [(.string ByteArray.empty), (.string ByteArray.empty)] zr96 rfl hX90.pins (fun b128 w129 hk130 hb131 hp132 hl133 => ?_))
          have hX134 := hX90.step hp132 hl133
          have ho135 := hw91.below hl133
          have ho136 := hw92.below hl133
          have ha137 : Apart (some b128) u19.ownBlock := new_ne_own (congrArg some hk130) hw91.lt
          have ha138 : Apart (some b128) u28.ownBlock := new_ne_own (congrArg some hk130) hw92.lt
          have hlo139 : w.heap.size ≤ b128 := by have := hX90.size; omega
          refine q0 rfl rfl rfl (o_stp (cs' := [(.string ByteArray.empty), (.string ByteArray.empty)]) (us := [(.string ByteArray.empty), (.string ByteArray.empty)]) (v := (.agg [(.string ByteArray.empty), (.string ByteArray.empty)].toArray)) sz96 rfl rfl rfl (ones2 (by rfl) (by rfl)) hX134.pins hb131 (Nat.le_of_ble_eq_true rfl) rfl (fun w140 hb141 hp142 hg143 hz144 => ?_))
          have hX145 := hX134.write hp142 hg143 ((lo_box hlo139))
          have ho146 := ho135.keptA hg143 ha137.symm
          have ho147 := ho136.keptA hg143 ha138.symm
          refine qe ?_
          refine s_then ?_
          refine s_seq ?_
          refine s_seq ?_
          refine c_reg ?_
          refine qd rfl rfl rfl (r_fldp (k := 0) rfl Try.underlying82 rfl nz29 rfl) ?_
          refine qd rfl rfl rfl (r_ldp1 (u := u46) ag29 rfl (hX145.pins _ _ _ (hbp76 0 _ rfl))) ?_
          refine qd rfl rfl rfl (r_fldp (k := 1) rfl Try.underlying82 rfl nz29 rfl) ?_
          refine qd rfl rfl rfl (r_ldp1 (u := u47) ag29 rfl (hX145.pins _ _ _ (hbp76 1 _ rfl))) ?_
          refine qd rfl rfl rfl (r_buildA (m := 1) [(.slice none 0 0), (.slice none 0 0)] [u46, u47] [(0, u46, [u46]), (1, u47, [u47])] Try.underlying95 zr95 rfl sz29 rfl (List.forall_mem_cons.2 ⟨(cells_one hr48.one), (List.forall_mem_cons.2 ⟨(cells_one hr49.one), (fun _ h => by cases h)⟩)⟩) rfl) ?_
          refine qd rfl rfl rfl (r_move (v := (.int .i64 0)) rfl) ?_
          refine qe ?_
          refine s_then ?_
          refine s_blk ?_
          refine s_loop (fun (k : Nat) (en : Nat → Value) (W : World) => ∃ (env1 : Nat → Value) (s4 : Nat) (a : ByteArray) (b : ByteArray) (GL4 : Pin), en = (upd (upd (upd (upd (upd (upd (upd (upd (upd env1 4 u19) 5 u28) 6 (.int .i64 (j : Int))) 12 (.pointer (some ⟨b128, 0, none⟩))) 30 v) 31 (.int .i64 (ns.length : Int))) 32 (.int .i64 (j : Int))) 89 (.agg [u46, u47].toArray)) 90 (.int .i64 (s4 : Int))) ∧ k = 2 - s4 ∧ Ext noS G w GL4 W ∧ Pin.le G73 GL4 ∧ (s4 ≤ 2) ∧ ((0 < s4 → a = joinP (txts ns j) (ns.getD j default).l) ∧ (1 < s4 → b = joinP (txts ns j) (ns.getD j default).r)) ∧ (Own eInt 3 GL4 W w.heap.size u19 (s2)) ∧ (Own eStr 9 GL4 W w.heap.size u28 (ts)) ∧ (Bx GL4 W b128 [(.string a), (.string b)])) _ ⟨_, 0, ByteArray.empty, ByteArray.empty, G73, (packS (x := 90) (packS (x := 89) (packS (x := 32) (packS (x := 31) (packS (x := 30) (packS (x := 12) (packS (x := 6) (packS (x := 5) (pack1 (x := 4) rfl) rfl) rfl) rfl) rfl) rfl) rfl) rfl) rfl), rfl, hX145, Pin.le_refl _, Nat.zero_le _, ⟨fun h => absurd h (Nat.not_lt_zero _), fun h => absurd h (by omega)⟩, ho146, ho147, hb141⟩ ?_
          rintro k148 _ w149 ⟨env1, s4, a, b, GL4, rfl, hk150, hX151, hlek148, hs4, ha, hw152, hw153, hw154⟩
          refine s_seq ?_
          refine c_reg ?_
          refine qd rfl rfl rfl (r_lss rfl rfl) ?_
          refine qe ?_
          refine s_then ?_
          refine s_seq ?_
          refine c_ifd (p := ((s4 : Int) : Int) < 2) rfl rfl (fun h155 => ?_) (fun h155 => ?_)
          · skip
            have hpl4 := pick2_len hg s4 (j := j) (by omega)
            refine wp_skip ?_
            refine s_then ?_
            refine s_seq ?_
            refine s_blk ?_
            refine s_seq ?_
            refine c_reg ?_
            refine qd rfl rfl rfl (r_move (v := (.int .i64 (s4 : Int))) rfl) ?_
            obtain ⟨u156, hr157, hl158⟩ := name_index2 (hr48.mono (Pin.le_trans (Pin.le_trans (Pin.le_trans (Pin.le_trans hle10 hx16.le) hlek39) hle74) hlek148)) (hr49.mono (Pin.le_trans (Pin.le_trans (Pin.le_trans (Pin.le_trans hle10 hx16.le) hlek39) hle74) hlek148)) (z := (s4 : Int)) s4 (by omega) (by omega) rfl
            have hm159 := hr157.max
            refine qd rfl rfl rfl (hl158 Try.underlying95 rfl sz29 ag29 rfl rfl) ?_
            refine qd rfl rfl rfl (r_assign (v := (.int .i64 (s4 : Int))) rfl) ?_
            refine qd rfl rfl rfl (r_assign (v := u156) rfl) ?_
            refine qe ?_
            refine s_then ?_
            refine s_seq ?_
            refine c_reg ?_
            refine q1 rfl rfl rfl (o_build0 (E := eStr) (e := 9) Try.underlying94 sz9 hX151.pins (fun u160 w161 ho162 hp163 hl164 hk165 => ?_))
            have hX166 := hX151.step hp163 hl164
            have ho167 := hw152.below hl164
            have ho168 := hw153.below hl164
            have hb169 := hw154.below hl164
            have ha170 : Apart u160.ownBlock u19.ownBlock := new_ne_own hk165 hw152.lt
            have ha171 : Apart u160.ownBlock u28.ownBlock := new_ne_own hk165 hw153.lt
            have ha172 : Apart u160.ownBlock (some b128) := new_ne_box hk165 hw154.lt
            have ho173 : Own eStr 9 GL4 w161 w.heap.size u160 ([]) := ho162.weaken hX151.size
            refine qd rfl rfl rfl (r_assign (v := u160) rfl) ?_
            refine qe ?_
            refine s_then ?_
            refine s_seq ?_
            refine s_seq ?_
            refine c_reg ?_
            refine qd rfl rfl rfl (r_move (v := u156) rfl) ?_
            refine qd rfl rfl rfl (run_len Try.underlying29 (v := u156) rfl hr157) ?_
            refine qd rfl rfl rfl (r_move (v := (.int .i64 0)) rfl) ?_
            refine qe ?_
            refine s_then ?_
            refine s_blk ?_
            refine s_loop (fun (k : Nat) (en : Nat → Value) (W : World) => ∃ (env1 : Nat → Value) (q5 : Nat) (o : Value) (os : List ByteArray), en = (upd (upd (upd (upd (upd (upd (upd (upd (upd (upd (upd (upd (upd (upd env1 4 u19) 5 u28) 6 (.int .i64 (j : Int))) 12 (.pointer (some ⟨b128, 0, none⟩))) 13 (.int .i64 (s4 : Int))) 15 o) 30 v) 31 (.int .i64 (ns.length : Int))) 32 (.int .i64 (j : Int))) 89 (.agg [u46, u47].toArray)) 90 (.int .i64 (s4 : Int))) 95 u156) 96 (.int .i64 ((pick2 s4 ((ns.getD j default).l) ((ns.getD j default).r)).length : Int))) 97 (.int .i64 (q5 : Int))) ∧ k = (pick2 s4 (ns.getD j default).l (ns.getD j default).r).length - q5 ∧ Ext noS G w GL4 W ∧ (q5 ≤ (pick2 s4 (ns.getD j default).l (ns.getD j default).r).length) ∧ (os = ((pick2 s4 (ns.getD j default).l (ns.getD j default).r).take q5).map (fA ns)) ∧ (os.length = q5) ∧ (Own eStr 9 GL4 W w.heap.size o (os)) ∧ (Own eInt 3 GL4 W w.heap.size u19 (s2)) ∧ (Own eStr 9 GL4 W w.heap.size u28 (ts)) ∧ (Bx GL4 W b128 [(.string a), (.string b)]) ∧ (Apart o.ownBlock u19.ownBlock) ∧ (Apart o.ownBlock u28.ownBlock) ∧ (Apart o.ownBlock (some b128))) _ ⟨_, 0, u160, [], (packS (x := 97) (packS (x := 96) (packS (x := 95) (packS (x := 90) (packS (x := 89) (packS (x := 32) (packS (x := 31) (packS (x := 30) (packS (x := 15) (packS (x := 13) (packS (x := 12) (packS (x := 6) (packS (x := 5) (pack1 (x := 4) rfl) rfl) rfl) rfl) rfl) rfl) rfl) rfl) rfl) rfl) rfl) rfl) rfl) rfl), rfl, hX166, Nat.zero_le _, rfl, rfl, ho173, ho167, ho168, hb169, ha170, ha171, ha172⟩ ?_
            rintro k174 _ w175 ⟨env1, q5, o, os, rfl, hk176, hX177, hq5, hos, hol, hw178, hw179, hw180, hw181, ha182, ha183, ha184⟩
            refine s_seq ?_
            refine c_reg ?_
            refine qd rfl rfl rfl (r_lss rfl rfl) ?_
            refine qe ?_
            refine s_then ?_
            refine s_seq ?_
            refine c_ifd (p := ((q5 : Int) : Int) < ((pick2 s4 ((ns.getD j default).l) ((ns.getD j default).r)).length : Int)) rfl rfl (fun h185 => ?_) (fun h185 => ?_)
            · skip
              have hkq := pick2_at hg (s := s4) (j := j) (by omega) (q := q5) (by omega)
              refine wp_skip ?_
              refine s_then ?_
              refine s_seq ?_
              refine s_blk ?_
              refine s_seq ?_
              refine c_reg ?_
              refine qd rfl rfl rfl (run_idx Try.underlying29 sz3 (v := u156) rfl rfl hr157 (by omega) (by omega)) ?_
              refine qd rfl rfl rfl (run_load_int (r := (pick2 s4 ((ns.getD j default).l) ((ns.getD j default).r)).getD q5 0) rfl ag3 (z := (q5 : Int)) rfl hr157 hX177.pins (by omega) (by omega)) ?_
              refine qd rfl rfl rfl (r_assign (v := (.int .i64 ((pick2 s4 ((ns.getD j default).l) ((ns.getD j default).r)).getD q5 0))) rfl) ?_
              refine qe ?_
              refine s_then ?_
              refine c_reg ?_
              refine qd rfl rfl rfl (r_move (v := o) rfl) ?_
              refine qd rfl rfl rfl (r_move (v := u28) rfl) ?_
              refine qd rfl rfl rfl (r_move (v := (.int .i64 ((pick2 s4 ((ns.getD j default).l) ((ns.getD j default).r)).getD q5 0))) rfl) ?_
              refine qd rfl rfl rfl (run_idx Try.underlying94 sz9 (v := u28) rfl rfl hw180.read (by omega) (by omega)) ?_
              refine qd rfl rfl rfl (run_load_str (r := ts.getD ((pick2 s4 ((ns.getD j default).l) ((ns.getD j default).r)).getD q5 0).toNat ByteArray.empty) rfl ag9 (z := ((pick2 s4 ((ns.getD j default).l) ((ns.getD j default).r)).getD q5 0)) rfl hw180.read (Gadd.pins hX177.pins u28) (by omega) (by omega)) ?_
              refine q1 rfl rfl rfl (o_buildF (E := eStr) (e := 9) [(.string (ts.getD ((pick2 s4 ((ns.getD j default).l) ((ns.getD j default).r)).getD q5 0).toNat ByteArray.empty))] [ts.getD ((pick2 s4 ((ns.getD j default).l) ((ns.getD j default).r)).getD q5 0).toNat ByteArray.empty] Try.underlying94 sz9 zr9 (by exact reps1 (by rfl)) (ones1 (by rfl)) rfl rfl rfl rfl (by decide) hX177.pins (fun u186 w187 ho188 hp189 hl190 hk191 => ?_))
              have hX192 := hX177.step hp189 hl190
              have ho193 := hw178.below hl190
              have ho194 := hw179.below hl190
              have ho195 := hw180.below hl190
              have hb196 := hw181.below hl190
              have ha197 : Apart u186.ownBlock o.ownBlock := new_ne_own hk191 hw178.lt
              have ha198 : Apart u186.ownBlock u19.ownBlock := new_ne_own hk191 hw179.lt
              have ha199 : Apart u186.ownBlock u28.ownBlock := new_ne_own hk191 hw180.lt
              have ha200 : Apart u186.ownBlock (some b128) := new_ne_box hk191 hw181.lt
              have ho201 : Own eStr 9 GL4 w187 w.heap.size u186 ([ts.getD ((pick2 s4 ((ns.getD j default).l) ((ns.getD j default).r)).getD q5 0).toNat ByteArray.empty]) := ho188.weaken hX177.size
              refine q1 rfl rfl rfl (o_append (E := eStr) (v := o) (u := u186) 16 Try.underlying94 ap9 (by decide) rfl rfl hX192.pins ho193 ho201.src (by first | omega | (simp; done) | (simp; omega)) (by first | omega | (simp; done) | (simp; omega)) (hX192.size) (fun u202 w203 ho204 hp205 hg206 hw207 => ?_))
              have hX208 := hX192.write hp205 hg206 ((lo_own ho193))
              have ho209 := ho194.keptA hg206 ha182.symm
              have ho210 := ho195.keptA hg206 ha183.symm
              have ho211 := ho201.keptA hg206 ha197
              have hb212 := hb196.keptA hg206 ha184.symm
              have ha213 : Apart u19.ownBlock u202.ownBlock := app_ne_own ha182.symm hw207 ho194.lt
              have ha214 : Apart u28.ownBlock u202.ownBlock := app_ne_own ha183.symm hw207 ho195.lt
              have ha215 : Apart u186.ownBlock u202.ownBlock := app_ne_own ha197 hw207 ho201.lt
              have ha216 : Apart (some b128) u202.ownBlock := app_ne_box ha184.symm hw207 hb196.lt
              have hm217 : (os ++ ([ts.getD ((pick2 s4 ((ns.getD j default).l) ((ns.getD j default).r)).getD q5 0).toNat ByteArray.empty])).length = os.length + 1 := by simp
              refine qd rfl rfl rfl (r_assign (v := u202) rfl) ?_
              refine qe ?_
              refine s_blkN ?_
              refine s_then ?_
              refine c_reg ?_
              refine qd rfl rfl rfl (r_add rfl rfl (by omega)) ?_
              refine qd rfl rfl rfl (r_move (v := (.int .i64 ((q5 : Int) + 1))) rfl) ?_
              refine qe ?_
              refine s_lopN ?_
              refine ⟨_, ?_, _, rfl, _, q5 + 1, u202, os ++ [ts.getD ((pick2 s4 (ns.getD j default).l (ns.getD j default).r).getD q5 0).toNat ByteArray.empty], (packS (x := 97) (packS (x := 96) (packS (x := 95) (packS (x := 90) (packS (x := 89) (packS (x := 32) (packS (x := 31) (packS (x := 30) (packS (x := 15) (packS (x := 13) (packS (x := 12) (packS (x := 6) (packS (x := 5) (pack1 (x := 4) rfl) rfl) rfl) rfl) rfl) rfl) rfl) rfl) rfl) rfl) rfl) rfl) rfl) rfl), rfl, hX208, (by omega), (by rw [hos, htv _ (by omega)]; exact words_next (by omega)), (by rw [List.length_append, hol]; rfl), ho204, ho209, ho210, hb212, ha213.symm, ha214.symm, ha216.symm⟩
              omega
            · skip
              have hjw : joinW os = joinP (txts ns j) (pick2 s4 (ns.getD j default).l (ns.getD j default).r) := by rw [hos, take_all (by omega)]; exact join_A (by omega) (fun q h => pick2_at hg (by omega) h)
              refine wp_exit ?_
              refine s_thenE ?_
              refine s_lopE ?_
              refine s_blkE ?_
              refine s_then ?_
              refine c_reg ?_
              refine qd rfl rfl rfl (r_move (v := (.int .i64 (s4 : Int))) rfl) ?_
              refine qd rfl rfl rfl (r_move (v := o) rfl) ?_
              obtain ⟨G218, hle221, hX220, hr219, hf222⟩ := hw178.sealed hX177
              have ho223 := hw179.moreO hle221 hf222 ha182.symm
              have ho224 := hw180.moreO hle221 hf222 ha183.symm
              have hb225 := hw181.moreO hf222 ha184.symm
              refine q1 rfl rfl rfl (o_call (vs := [o, (.string (⟨#[44]⟩ : ByteArray))]) Try.func62 nm62 rfl rfl rfl (Calls.mono (join_spec hX220.pins hr219 ⟨by rw [hjw]; exact Nat.le_trans (joinP_size (txts_ok ns j) (pick2_len hg s4 (by omega))) (by decide), by omega⟩) ?_))
              rintro _ w226 ⟨rfl, hx227⟩
              refine ⟨_, rfl, ?_⟩
              have hX228 := hX220.step hx227.pins hx227.below
              have ho229 := ho223.below hx227.below
              have ho230 := ho224.below hx227.below
              have hb231 := hb225.below hx227.below
              refine qd rfl rfl rfl (r_idxb (k := s4) Try.underlying96 sz9 rfl rfl (by omega) (by omega) (by omega)) ?_
              refine q0 rfl rfl rfl (o_stp2 (k := s4) sz9 rfl rfl (by omega) hX228.pins hb231 (fun w232 hb233 hp234 hg235 hz236 => ?_))
              have hX237 := hX228.write hp234 hg235 ((lo_box hlo139))
              have ho238 := ho229.keptA hg235 ha137.symm
              have ho239 := ho230.keptA hg235 ha138.symm
              refine qe ?_
              refine s_blkN ?_
              refine s_then ?_
              refine c_reg ?_
              refine qd rfl rfl rfl (r_add rfl rfl (by omega)) ?_
              refine qd rfl rfl rfl (r_move (v := (.int .i64 ((s4 : Int) + 1))) rfl) ?_
              refine qe ?_
              refine s_lopN ?_
              refine ⟨_, ?_, _, rfl, _, s4 + 1, if s4 = 0 then joinW os else a, if s4 = 0 then b else joinW os, G218, (packS (x := 90) (packS (x := 89) (packS (x := 32) (packS (x := 31) (packS (x := 30) (packS (x := 12) (packS (x := 6) (packS (x := 5) (pack1 (x := 4) rfl) rfl) rfl) rfl) rfl) rfl) rfl) rfl) rfl), rfl, hX237, (Pin.le_trans hlek148 hle221), (by omega), (join_step ha (by omega) hjw), ho238, ho239, hb233⟩
              omega
          · skip
            have ha1 := ha.1 (by omega)
            have hb1 := ha.2 (by omega)
            have hsa := joinP_size (txts_ok ns j) (hg.lenl (i := j) (by omega))
            have hsb := joinP_size (txts_ok ns j) (hg.lenr (i := j) (by omega))
            rw [← ha1] at hsa
            rw [← hb1] at hsb
            refine wp_exit ?_
            refine s_thenE ?_
            refine s_lopE ?_
            refine s_blkE ?_
            refine s_then ?_
            refine c_reg ?_
            refine qd rfl rfl rfl (r_move (v := u28) rfl) ?_
            refine qd rfl rfl rfl (r_move (v := (.int .i64 (j : Int))) rfl) ?_
            refine qd rfl rfl rfl (r_idxb (k := 0) Try.underlying96 sz9 rfl rfl (by omega) (by omega) (by omega)) ?_
            refine qd rfl rfl rfl (r_ldp1 (u := (.string a)) ag9 rfl (hw154.cell (o := 0) rfl)) ?_
            have hm240 : (⟨#[123]⟩ : ByteArray).size = 1 := rfl
            have hm241 : ((⟨#[123]⟩ : ByteArray) ++ a).size = (⟨#[123]⟩ : ByteArray).size + a.size := ByteArray.size_append
            refine qd rfl rfl rfl (r_addS rfl rfl (by omega)) ?_
            have hm242 : (⟨#[124]⟩ : ByteArray).size = 1 := rfl
            have hm243 : (((⟨#[123]⟩ : ByteArray) ++ a) ++ (⟨#[124]⟩ : ByteArray)).size = ((⟨#[123]⟩ : ByteArray) ++ a).size + (⟨#[124]⟩ : ByteArray).size := ByteArray.size_append
            refine qd rfl rfl rfl (r_addS rfl rfl (by omega)) ?_
            refine qd rfl rfl rfl (r_idxb (k := 1) Try.underlying96 sz9 rfl rfl (by omega) (by omega) (by omega)) ?_
            refine qd rfl rfl rfl (r_ldp1 (u := (.string b)) ag9 rfl (hw154.cell (o := 1) rfl)) ?_
            have hm244 : ((((⟨#[123]⟩ : ByteArray) ++ a) ++ (⟨#[124]⟩ : ByteArray)) ++ b).size = (((⟨#[123]⟩ : ByteArray) ++ a) ++ (⟨#[124]⟩ : ByteArray)).size + b.size := ByteArray.size_append
            refine qd rfl rfl rfl (r_addS rfl rfl (by omega)) ?_
            have hm245 : (⟨#[125]⟩ : ByteArray).size = 1 := rfl
            have hm246 : (((((⟨#[123]⟩ : ByteArray) ++ a) ++ (⟨#[124]⟩ : ByteArray)) ++ b) ++ (⟨#[125]⟩ : ByteArray)).size = ((((⟨#[123]⟩ : ByteArray) ++ a) ++ (⟨#[124]⟩ : ByteArray)) ++ b).size + (⟨#[125]⟩ : ByteArray).size := ByteArray.size_append
            refine qd rfl rfl rfl (r_addS rfl rfl (by omega)) ?_
            refine qd rfl rfl rfl (run_idx Try.underlying94 sz9 (v := u28) rfl rfl hw153.read (by omega) (by omega)) ?_
            refine q0 rfl rfl rfl (o_set (E := eStr) (v := u28) (u := (.string (((((⟨#[123]⟩ : ByteArray) ++ a) ++ (⟨#[124]⟩ : ByteArray)) ++ b) ++ (⟨#[125]⟩ : ByteArray)))) (z := (j : Int)) (((((⟨#[123]⟩ : ByteArray) ++ a) ++ (⟨#[124]⟩ : ByteArray)) ++ b) ++ (⟨#[125]⟩ : ByteArray)) sz9 rfl rfl rfl rfl hX151.pins hw153 (by omega) (by omega) (fun w247 ho248 hp249 hg250 hz251 => ?_))
            have hX252 := hX151.write hp249 hg250 ((lo_own hw153))
            have ho253 := hw152.keptA hg250 ha36.symm
            have hb254 := hw154.keptA hg250 ha138
            refine qe ?_
            refine s_blkN ?_
            refine s_then ?_
            refine c_reg ?_
            refine qd rfl rfl rfl (r_add rfl rfl (by omega)) ?_
            refine qd rfl rfl rfl (r_move (v := (.int .i64 ((j : Int) + 1))) rfl) ?_
            refine qe ?_
            refine s_lopN ?_
            have hX : ((((⟨#[123]⟩ : ByteArray) ++ a) ++ (⟨#[124]⟩ : ByteArray)) ++ b) ++ (⟨#[125]⟩ : ByteArray) = txtA ns j := by rw [ha1, hb1]; exact node_uncut (by omega) (by omega)
            refine ⟨_, ?_, _, rfl, _, j + 1, s2, (ts).set j (((((⟨#[123]⟩ : ByteArray) ++ a) ++ (⟨#[124]⟩ : ByteArray)) ++ b) ++ (⟨#[125]⟩ : ByteArray)), GL4, (packS (x := 32) (packS (x := 31) (packS (x := 30) (packS (x := 5) (pack1 (x := 4) rfl) rfl) rfl) rfl) rfl), rfl, hX252, (Pin.le_trans (Pin.le_trans hlek39 hle74) hlek148), (by omega), (by rw [hs2]; simp [hsl]), (by simp [htl]), (by rw [hs2]; exact set_step hsv hsl (by omega) hcs), (set_step htv htl (by omega) hX), (fun i hi => if h : i = j then h ▸ (by omega) else hsm i (by omega)), ho253, ho248⟩
            omega
    · skip
      refine wp_exit ?_
      refine s_thenE ?_
      refine s_lopE ?_
      refine s_blkE ?_
      refine s_then ?_
      refine s_seq ?_
      refine c_reg ?_
      refine qd rfl rfl rfl (r_move (v := u28) rfl) ?_
      refine qd rfl rfl rfl (r_move (v := u28) rfl) ?_
      refine qd rfl rfl rfl (run_len Try.underlying94 (v := u28) rfl hw44.read) ?_
      refine qd rfl rfl rfl (r_sub rfl rfl (by omega)) ?_
      refine qd rfl rfl rfl (run_idx Try.underlying94 sz9 (v := u28) rfl rfl hw44.read (by omega) (by omega)) ?_
      refine qd rfl rfl rfl (run_load_str (r := ts.getD ((ts.length : Int) - 1).toNat ByteArray.empty) rfl ag9 (z := ((ts.length : Int) - 1)) rfl hw44.read (Gadd.pins hX42.pins u28) (by omega) (by omega)) ?_
      refine qd rfl rfl rfl (r_assign (v := (.string (ts.getD ((ts.length : Int) - 1).toNat ByteArray.empty))) rfl) ?_
      refine qd rfl rfl rfl (r_assign (v := (.bool true)) rfl) ?_
      refine qe ?_
      refine s_then ?_
      refine wp_ret ?_
      refine s_ret ?_
      refine c_ret2 (v := (.string (ts.getD ((ts.length : Int) - 1).toNat ByteArray.empty))) (u := (.bool true)) rfl rfl rfl rfl rfl ?_
      have hz : (txtA ns (ns.length - 1)).size ≤ 4000 := hsm _ (by omega)
      have hrv : ts.getD ((ts.length : Int) - 1).toNat ByteArray.empty = textOf ns := (htv _ (by omega)).trans (congrArg (txtA ns) (by omega))
      obtain ⟨hf1, hf2⟩ := ft_good h18 (by show ¬ (4000 : Int) < ((txtA ns (ns.length - 1)).size : Int); omega)
      exact ⟨_, by rw [hf1, hf2, hrv], hX42⟩
  · skip
    refine s_seq ?_
    refine c_reg ?_
    refine qd rfl rfl rfl (r_assign (v := (.string (⟨#[]⟩ : ByteArray))) rfl) ?_
    refine qd rfl rfl rfl (r_assign (v := (.bool false)) rfl) ?_
    refine qe ?_
    refine s_then ?_
    refine wp_ret ?_
    refine s_ret ?_
    refine c_ret2 (v := (.string (⟨#[]⟩ : ByteArray))) (u := (.bool false)) rfl rfl rfl rfl rfl ?_
    obtain ⟨hf1, hf2⟩ := ft_bad h18
    exact ⟨_, by rw [hf1, hf2]; rfl, hX17⟩

end T1
end Go.Proofs.Ytpninmgcgmpmoaa
