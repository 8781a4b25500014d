/- Texts of this claim in one file: PS4, PS5, PW5, PW6, Grd, QS1, QB1, QB2, QF1, QP1, QP2, QR1, QR2, LitA. -/
import Derived.Test.YtianphgdbfekdaaGreatDoorPp4
import Derived.Test.YtianphgdbfekdaaGreatDoorChecked
set_option maxRecDepth 20000
set_option maxHeartbeats 2000000
namespace Go.Proofs.YtianphgdbfekdaaGreatDoor
namespace PS4
open Go.RowKit Go.GL Go.Proofs
open PS1









theorem clob_spec {w : World} {G : Pin} {s : ByteArray} {left : Bool} (hP : Pins G w) (hs : s.size ≤ 1000) :
  Calls Tryz.prog 92 [(.string s), (.bool left)].toArray w fun e w' => ∃ (u : Value) (G' : Pin), e = .returned u ∧ RSl eStr G' u (runM (clobAt s left) s.size) ∧ Ext noS G w G' w' := by
 refine s_enter (n := 53) Tryz.func92 Tryz.ntmps92 rfl rfl ?_
 have hX0 : Ext noS G w G w := Ext.refl hP
 refine s_seq (c_reg ?_)
 refine qd rfl rfl rfl (r_assign (v := (.slice none 0 0)) rfl) (qe (s_then (s_seq (c_reg ?_))))
 refine qd rfl rfl rfl (r_move (v := (.bool left)) rfl) (q1 rfl rfl rfl (o_call (vs := [(.bool left)]) Tryz.func90 nm90 rfl rfl rfl ?_))
 refine Calls.mono (sides_spec (left := left) hX0.pins) ?_
 rintro _ w2 ⟨G1, rfl, hx3⟩
 refine ⟨_, rfl, ?_⟩
 have hX4 := hX0.tr hx3
 refine qd rfl rfl rfl (r_move (v := (.tuple #[(.int .u8 ((mineS left).toNat : Int)), (.int .u8 ((mineS (!left)).toNat : Int))])) rfl) (qd rfl rfl rfl (r_extract (v := (.int .u8 ((mineS left).toNat : Int))) rfl rfl) (qd rfl rfl rfl (r_extract (v := (.int .u8 ((mineS (!left)).toNat : Int))) rfl rfl) (qd rfl rfl rfl (r_assign (v := (.int .u8 ((mineS left).toNat : Int))) rfl) (qd rfl rfl rfl (r_assign (v := (.int .u8 ((mineS (!left)).toNat : Int))) rfl) (qe (s_then (s_seq (c_reg ?_))))))))
 refine q1 rfl rfl rfl (o_build0 (E := eStr) (e := 9) Tryz.underlying22 sz9 hX4.pins (fun u5 w6 ho7 hp8 hl9 hk10 => ?_))
 have hX11 := hX4.step hp8 hl9
 have ho12 : Own eStr 9 G1 w6 w.heap.size u5 ([]) := ho7.weaken hX4.size
 refine qd rfl rfl rfl (r_assign (v := u5) rfl) (qe (s_then (s_seq (s_seq (c_reg ?_)))))
 refine qd rfl rfl rfl (r_move (v := (.string s)) rfl) (qd rfl rfl rfl (r_lenS Tryz.underlying9 rfl) (qd rfl rfl rfl (r_move (v := (.int .i64 0)) rfl) (qe (s_then ?_))))
 refine s_blk (s_loop (fun (k : Nat) (en : Nat → Value) (W : World) => ∃ (env1 : Nat → Value) (i9 : Nat) (ov : Value) (os : List ByteArray) (GL1 : Pin), en = (upd (upd (upd (upd (upd (upd (upd env1 0 (.string s)) 4 (.slice none 0 0)) 5 (.int .u8 ((mineS left).toNat : Int))) 6 (.int .u8 ((mineS (!left)).toNat : Int))) 7 ov) 18 (.int .i64 (s.size : Int))) 19 (.int .i64 (i9 : Int))) ∧ k = s.size - i9 ∧ Ext noS G w GL1 W ∧ Pin.le G1 GL1 ∧ (i9 ≤ s.size) ∧ (os = runM (clobAt s left) i9) ∧ (os.length ≤ 2 * i9) ∧ (Own eStr 9 GL1 W w.heap.size ov (os))) _ ⟨_, 0, u5, [], G1, (packS (x := 19) (packS (x := 18) (packS (x := 7) (packS (x := 6) (packS (x := 5) (packS (x := 4) (pack1 (x := 0) rfl) rfl) rfl) rfl) rfl) rfl) rfl), rfl, hX11, Pin.le_refl _, Nat.zero_le _, rfl, (by simp), ho12⟩ ?_)
 rintro k13 _ w14 ⟨env1, i9, ov, os, GL1, rfl, hk15, hX16, hlek13, hi, hos, hol, hw17⟩
 refine s_seq (c_reg ?_)
 refine qd rfl rfl rfl (r_lss rfl rfl) (qe (s_then (s_seq ?_)))
 refine c_ifd (p := ((i9 : Int) : Int) < (s.size : Int)) rfl rfl (fun h18 => ?_) (fun h18 => ?_)
 refine wp_skip (s_then (s_seq ?_))
 refine s_blk (s_seq (c_reg ?_))
 refine qd rfl rfl rfl (r_move (v := (.int .i64 (i9 : Int))) rfl) (qd rfl rfl rfl (r_assign (v := (.int .i64 (i9 : Int))) rfl) (qe (s_then (s_seq (c_reg ?_)))))
 refine qd rfl rfl rfl (r_move (v := (.int .i64 (i9 : Int))) rfl) (qd rfl rfl rfl (r_sub rfl rfl (by omega)) (qd rfl rfl rfl (r_move (v := (.int .i64 (i9 : Int))) rfl) (qd rfl rfl rfl (r_add rfl rfl (by omega)) (qd rfl rfl rfl (r_buildA (m := 1) [(.int .i64 0), (.int .i64 0)] [(.int .i64 ((i9 : Int) - 1)), (.int .i64 ((i9 : Int) + 1))] [(0, (.int .i64 ((i9 : Int) - 1)), [(.int .i64 ((i9 : Int) - 1))]), (1, (.int .i64 ((i9 : Int) + 1)), [(.int .i64 ((i9 : Int) + 1))])] Tryz.underlying124 zr124 rfl sz3 rfl (List.forall_mem_cons.2 ⟨rfl, (List.forall_mem_cons.2 ⟨rfl, (fun _ h => by cases h)⟩)⟩) rfl) (qd rfl rfl rfl (r_move (v := (.int .i64 0)) rfl) (qe (s_then ?_)))))))
 refine s_blk (s_loop (fun (k : Nat) (en : Nat → Value) (W : World) => ∃ (env1 : Nat → Value) (q9 : Nat) (ov2 : Value) (os2 : List ByteArray) (GL2 : Pin), en = (upd (upd (upd (upd (upd (upd (upd (upd (upd (upd env1 0 (.string s)) 4 (.slice none 0 0)) 5 (.int .u8 ((mineS left).toNat : Int))) 6 (.int .u8 ((mineS (!left)).toNat : Int))) 7 ov2) 8 (.int .i64 (i9 : Int))) 18 (.int .i64 (s.size : Int))) 19 (.int .i64 (i9 : Int))) 26 (.agg [(.int .i64 ((i9 : Int) - 1)), (.int .i64 ((i9 : Int) + 1))].toArray)) 27 (.int .i64 (q9 : Int))) ∧ k = 2 - q9 ∧ Ext noS G w GL2 W ∧ Pin.le GL1 GL2 ∧ (q9 ≤ 2) ∧ (os2 = os ++ runM (clobP s left i9) q9) ∧ (os2.length ≤ 2 * i9 + q9) ∧ (Own eStr 9 GL2 W w.heap.size ov2 (os2))) _ ⟨_, 0, ov, os, GL1, (packS (x := 27) (packS (x := 26) (packS (x := 19) (packS (x := 18) (packS (x := 8) (packS (x := 7) (packS (x := 6) (packS (x := 5) (packS (x := 4) (pack1 (x := 0) rfl) rfl) rfl) rfl) rfl) rfl) rfl) rfl) rfl) rfl), rfl, hX16, Pin.le_refl _, Nat.zero_le _, (List.append_nil _).symm, (by omega), hw17⟩ ?_)
 rintro k19 _ w20 ⟨env1, q9, ov2, os2, GL2, rfl, hk21, hX22, hlek19, hq, hos2, hol2, hw23⟩
 refine s_seq (c_reg ?_)
 refine qd rfl rfl rfl (r_lss rfl rfl) (qe (s_then (s_seq ?_)))
 refine c_ifd (p := ((q9 : Int) : Int) < 2) rfl rfl (fun h24 => ?_) (fun h24 => ?_)
 rcases (show q9 = 0 ∨ q9 = 1 by omega) with hcs | hcs
 ·subst hcs
  refine wp_skip (s_then (s_seq ?_))
  refine s_blk (s_seq (c_reg ?_))
  refine qd rfl rfl rfl ((runs_index (vs := [(.int .i64 ((i9 : Int) - 1)), (.int .i64 ((i9 : Int) + 1))]) (z := ((0 : Nat) : Int)) (u := (.int .i64 ((i9 : Int) - 1))) (by decide) rfl) Tryz.underlying124 rfl sz3 ag3 rfl rfl) (qd rfl rfl rfl (r_assign (v := (.int .i64 ((i9 : Int) - 1))) rfl) (qe (s_then (s_seq (c_reg ?_)))))
  refine qd rfl rfl rfl (r_move (v := (.string s)) rfl) (qd rfl rfl rfl (r_move (v := (.int .i64 (i9 : Int))) rfl) (qd rfl rfl rfl (r_idxB Tryz.underlying9 rfl rfl (by omega) (by omega)) (qd rfl rfl rfl (r_move (v := (.int .u8 ((mineS left).toNat : Int))) rfl) (qd rfl rfl rfl (r_eql rfl rfl) (qd rfl rfl rfl (r_move (v := (.bool (decide ((((sB s i9).toNat : Int) : Int) = ((mineS left).toNat : Int))))) rfl) (qbd (p := (((sB s i9).toNat : Int) : Int) = ((mineS left).toNat : Int)) (t := 35) rfl (fun h25 => ?_) (fun h25 => ?_)))))))
  refine qdg rfl rfl rfl rfl rfl rfl (r_move (v := (.string s)) rfl) (qdg rfl rfl rfl rfl rfl rfl (r_move (v := (.int .i64 ((i9 : Int) - 1))) rfl) (q1g rfl rfl rfl rfl rfl rfl (o_call (vs := [(.string s), (.int .i64 ((i9 : Int) - 1))]) Tryz.func112 nm112 rfl rfl rfl ?_)))
  refine Calls.mono (cell_spec (s := s) (i := ((i9 : Int) - 1)) hX22.pins) ?_
  rintro _ w27 ⟨G26, rfl, hx28⟩
  refine ⟨_, rfl, ?_⟩
  have hX29 := hX22.tr hx28
  have ho30 := hw23.ext hx28
  refine qdg rfl rfl rfl rfl rfl rfl (r_move (v := (.int .u8 ((mineS (!left)).toNat : Int))) rfl) (qdg rfl rfl rfl rfl rfl rfl (r_eql rfl rfl) (qd rfl rfl rfl (r_pickT (v := (.bool (decide ((((cB s ((i9 : Int) - 1)).toNat : Int) : Int) = ((mineS (!left)).toNat : Int))))) rfl rfl) (qe (s_then ?_))))
  refine c_ifd (p := (((cB s ((i9 : Int) - 1)).toNat : Int) : Int) = ((mineS (!left)).toNat : Int)) rfl rfl (fun h31 => ?_) (fun h31 => ?_)
  refine c_reg ?_
  have hat := cB_at (by rw [h31]; exact mineS_pos _)
  refine qd rfl rfl rfl (r_move (v := ov2) rfl) (qd rfl rfl rfl (r_move (v := (.string s)) rfl) (qd rfl rfl rfl (r_move (v := (.int .i64 (i9 : Int))) rfl) (qd rfl rfl rfl (r_move (v := (.int .i64 ((i9 : Int) - 1))) rfl) (qd rfl rfl rfl (r_move (v := (.int .u8 ((mineS left).toNat : Int))) rfl) (q1 rfl rfl rfl (o_call (vs := [(.string s), (.int .i64 (i9 : Int)), (.int .u8 46), (.int .i64 ((i9 : Int) - 1)), (.int .u8 ((mineS left).toNat : Int))]) Tryz.func113 nm113 rfl rfl rfl ?_))))))
  refine Calls.mono (set_spec (s := s) (i := (i9 : Int)) (a := (46 : UInt8)) (k := ((i9 : Int) - 1)) (b := (mineS left)) hX29.pins (by omega) (by omega) (by omega)) ?_
  rintro _ w33 ⟨G32, rfl, hx34⟩
  refine ⟨_, rfl, ?_⟩
  have hX35 := hX29.tr hx34
  have ho36 := ho30.ext hx34
  refine q1 rfl rfl rfl (o_buildF (E := eStr) (e := 9) [(.string (st2 s i9 (46 : UInt8) ((i9 : Int) - 1).toNat (mineS left)))] [st2 s i9 (46 : UInt8) ((i9 : Int) - 1).toNat (mineS left)] Tryz.underlying22 sz9 zr9 (by exact reps1 (by rfl)) (ones1 (by rfl)) rfl rfl rfl rfl (by decide) hX35.pins (fun u37 w38 ho39 hp40 hl41 hk42 => ?_))
  have hX43 := hX35.step hp40 hl41
  have ho44 := ho36.below hl41
  have ho46 : Own eStr 9 G32 w38 w.heap.size u37 ([st2 s i9 (46 : UInt8) ((i9 : Int) - 1).toNat (mineS left)]) := ho39.weaken hX35.size
  refine q1 rfl rfl rfl (o_append (E := eStr) (v := ov2) (u := u37) 16 Tryz.underlying22 ap9 (by decide) rfl rfl hX43.pins ho44 ho46.src (by first | omega | (rw [List.nil_append]; omega) | (rw [List.length_nil]; omega) | (rw [List.length_append]; omega) | (simp; done) | (simp; omega) | (simp only [List.length_cons, List.length_nil]; omega) | (simp only [List.length_append, List.length_cons, List.length_nil]; omega)) (by first | omega | (rw [List.nil_append]; omega) | (rw [List.length_nil]; omega) | (rw [List.length_append]; omega) | (simp; done) | (simp; omega) | (simp only [List.length_cons, List.length_nil]; omega) | (simp only [List.length_append, List.length_cons, List.length_nil]; omega)) (hX43.size) (fun u47 w48 ho49 hp50 hg51 hw52 => ?_))
  have hX53 := hX43.write hp50 hg51 ((lo_own ho44))
  have hm56 : (os2 ++ ([st2 s i9 (46 : UInt8) ((i9 : Int) - 1).toNat (mineS left)])).length = os2.length + 1 := List.length_append
  refine qd rfl rfl rfl (r_assign (v := u47) rfl) (qe (s_blkN (s_then (c_reg ?_))))
  refine qd rfl rfl rfl (r_add rfl rfl (by omega)) (qd rfl rfl rfl (r_move (v := (.int .i64 (((0 : Nat) : Int) + 1))) rfl) (qe (s_lopN (⟨_, ?_, _, rfl, _, 0 + 1, u47, os2 ++ ([st2 s i9 (46 : UInt8) ((i9 : Int) - 1).toNat (mineS left)]), G32, (packS (x := 27) (packS (x := 26) (packS (x := 19) (packS (x := 18) (packS (x := 8) (packS (x := 7) (packS (x := 6) (packS (x := 5) (packS (x := 4) (pack1 (x := 0) rfl) rfl) rfl) rfl) rfl) rfl) rfl) rfl) rfl) rfl), rfl, hX53, (Pin.le_trans (Pin.le_trans hlek19 hx28.le) hx34.le), (by omega), (by rw [hos2, List.append_assoc]; exact (congrArg (os ++ ·) (run_app rfl (clob_y (j := 0) h25 h31)))), (by simp; omega), ho49⟩))))
  omega
  refine wp_skip (s_blkN (s_then (c_reg ?_)))
  refine qd rfl rfl rfl (r_add rfl rfl (by omega)) (qd rfl rfl rfl (r_move (v := (.int .i64 (((0 : Nat) : Int) + 1))) rfl) (qe (s_lopN (⟨_, ?_, _, rfl, _, 0 + 1, ov2, os2, G26, (packS (x := 27) (packS (x := 26) (packS (x := 19) (packS (x := 18) (packS (x := 8) (packS (x := 7) (packS (x := 6) (packS (x := 5) (packS (x := 4) (pack1 (x := 0) rfl) rfl) rfl) rfl) rfl) rfl) rfl) rfl) rfl) rfl), rfl, hX29, (Pin.le_trans hlek19 hx28.le), (by omega), (by rw [hos2]; exact (congrArg (os ++ ·) (run_nil rfl (clob_b (j := 0) h31)))), (by omega), ho30⟩))))
  omega
  refine qs rfl rfl rfl rfl rfl rfl (qs rfl rfl rfl rfl rfl rfl (qs rfl rfl rfl rfl rfl rfl (qs rfl rfl rfl rfl rfl rfl (qs rfl rfl rfl rfl rfl rfl (qd rfl rfl rfl (r_pickF (v := (.bool false)) rfl rfl) (qe (s_then ?_)))))))
  refine c_ifF rfl rfl (wp_skip (s_blkN (s_then (c_reg ?_))))
  refine qd rfl rfl rfl (r_add rfl rfl (by omega)) (qd rfl rfl rfl (r_move (v := (.int .i64 (((0 : Nat) : Int) + 1))) rfl) (qe (s_lopN (⟨_, ?_, _, rfl, _, 0 + 1, ov2, os2, GL2, (packS (x := 27) (packS (x := 26) (packS (x := 19) (packS (x := 18) (packS (x := 8) (packS (x := 7) (packS (x := 6) (packS (x := 5) (packS (x := 4) (pack1 (x := 0) rfl) rfl) rfl) rfl) rfl) rfl) rfl) rfl) rfl) rfl), rfl, hX22, hlek19, (by omega), (by rw [hos2]; exact (congrArg (os ++ ·) (run_nil rfl (clob_a (j := 0) h25)))), (by omega), hw23⟩))))
  omega
 ·subst hcs
  refine wp_skip (s_then (s_seq ?_))
  refine s_blk (s_seq (c_reg ?_))
  refine qd rfl rfl rfl ((runs_index (vs := [(.int .i64 ((i9 : Int) - 1)), (.int .i64 ((i9 : Int) + 1))]) (z := ((1 : Nat) : Int)) (u := (.int .i64 ((i9 : Int) + 1))) (by decide) rfl) Tryz.underlying124 rfl sz3 ag3 rfl rfl) (qd rfl rfl rfl (r_assign (v := (.int .i64 ((i9 : Int) + 1))) rfl) (qe (s_then (s_seq (c_reg ?_)))))
  refine qd rfl rfl rfl (r_move (v := (.string s)) rfl) (qd rfl rfl rfl (r_move (v := (.int .i64 (i9 : Int))) rfl) (qd rfl rfl rfl (r_idxB Tryz.underlying9 rfl rfl (by omega) (by omega)) (qd rfl rfl rfl (r_move (v := (.int .u8 ((mineS left).toNat : Int))) rfl) (qd rfl rfl rfl (r_eql rfl rfl) (qd rfl rfl rfl (r_move (v := (.bool (decide ((((sB s i9).toNat : Int) : Int) = ((mineS left).toNat : Int))))) rfl) (qbd (p := (((sB s i9).toNat : Int) : Int) = ((mineS left).toNat : Int)) (t := 35) rfl (fun h57 => ?_) (fun h57 => ?_)))))))
  refine qdg rfl rfl rfl rfl rfl rfl (r_move (v := (.string s)) rfl) (qdg rfl rfl rfl rfl rfl rfl (r_move (v := (.int .i64 ((i9 : Int) + 1))) rfl) (q1g rfl rfl rfl rfl rfl rfl (o_call (vs := [(.string s), (.int .i64 ((i9 : Int) + 1))]) Tryz.func112 nm112 rfl rfl rfl ?_)))
  refine Calls.mono (cell_spec (s := s) (i := ((i9 : Int) + 1)) hX22.pins) ?_
  rintro _ w59 ⟨G58, rfl, hx60⟩
  refine ⟨_, rfl, ?_⟩
  have hX61 := hX22.tr hx60
  have ho62 := hw23.ext hx60
  refine qdg rfl rfl rfl rfl rfl rfl (r_move (v := (.int .u8 ((mineS (!left)).toNat : Int))) rfl) (qdg rfl rfl rfl rfl rfl rfl (r_eql rfl rfl) (qd rfl rfl rfl (r_pickT (v := (.bool (decide ((((cB s ((i9 : Int) + 1)).toNat : Int) : Int) = ((mineS (!left)).toNat : Int))))) rfl rfl) (qe (s_then ?_))))
  refine c_ifd (p := (((cB s ((i9 : Int) + 1)).toNat : Int) : Int) = ((mineS (!left)).toNat : Int)) rfl rfl (fun h63 => ?_) (fun h63 => ?_)
  refine c_reg ?_
  have hat := cB_at (by rw [h63]; exact mineS_pos _)
  refine qd rfl rfl rfl (r_move (v := ov2) rfl) (qd rfl rfl rfl (r_move (v := (.string s)) rfl) (qd rfl rfl rfl (r_move (v := (.int .i64 (i9 : Int))) rfl) (qd rfl rfl rfl (r_move (v := (.int .i64 ((i9 : Int) + 1))) rfl) (qd rfl rfl rfl (r_move (v := (.int .u8 ((mineS left).toNat : Int))) rfl) (q1 rfl rfl rfl (o_call (vs := [(.string s), (.int .i64 (i9 : Int)), (.int .u8 46), (.int .i64 ((i9 : Int) + 1)), (.int .u8 ((mineS left).toNat : Int))]) Tryz.func113 nm113 rfl rfl rfl ?_))))))
  refine Calls.mono (set_spec (s := s) (i := (i9 : Int)) (a := (46 : UInt8)) (k := ((i9 : Int) + 1)) (b := (mineS left)) hX61.pins (by omega) (by omega) (by omega)) ?_
  rintro _ w65 ⟨G64, rfl, hx66⟩
  refine ⟨_, rfl, ?_⟩
  have hX67 := hX61.tr hx66
  have ho68 := ho62.ext hx66
  refine q1 rfl rfl rfl (o_buildF (E := eStr) (e := 9) [(.string (st2 s i9 (46 : UInt8) ((i9 : Int) + 1).toNat (mineS left)))] [st2 s i9 (46 : UInt8) ((i9 : Int) + 1).toNat (mineS left)] Tryz.underlying22 sz9 zr9 (by exact reps1 (by rfl)) (ones1 (by rfl)) rfl rfl rfl rfl (by decide) hX67.pins (fun u69 w70 ho71 hp72 hl73 hk74 => ?_))
  have hX75 := hX67.step hp72 hl73
  have ho76 := ho68.below hl73
  have ho78 : Own eStr 9 G64 w70 w.heap.size u69 ([st2 s i9 (46 : UInt8) ((i9 : Int) + 1).toNat (mineS left)]) := ho71.weaken hX67.size
  refine q1 rfl rfl rfl (o_append (E := eStr) (v := ov2) (u := u69) 16 Tryz.underlying22 ap9 (by decide) rfl rfl hX75.pins ho76 ho78.src (by first | omega | (rw [List.nil_append]; omega) | (rw [List.length_nil]; omega) | (rw [List.length_append]; omega) | (simp; done) | (simp; omega) | (simp only [List.length_cons, List.length_nil]; omega) | (simp only [List.length_append, List.length_cons, List.length_nil]; omega)) (by first | omega | (rw [List.nil_append]; omega) | (rw [List.length_nil]; omega) | (rw [List.length_append]; omega) | (simp; done) | (simp; omega) | (simp only [List.length_cons, List.length_nil]; omega) | (simp only [List.length_append, List.length_cons, List.length_nil]; omega)) (hX75.size) (fun u79 w80 ho81 hp82 hg83 hw84 => ?_))
  have hX85 := hX75.write hp82 hg83 ((lo_own ho76))
  have hm88 : (os2 ++ ([st2 s i9 (46 : UInt8) ((i9 : Int) + 1).toNat (mineS left)])).length = os2.length + 1 := List.length_append
  refine qd rfl rfl rfl (r_assign (v := u79) rfl) (qe (s_blkN (s_then (c_reg ?_))))
  refine qd rfl rfl rfl (r_add rfl rfl (by omega)) (qd rfl rfl rfl (r_move (v := (.int .i64 (((1 : Nat) : Int) + 1))) rfl) (qe (s_lopN (⟨_, ?_, _, rfl, _, 1 + 1, u79, os2 ++ ([st2 s i9 (46 : UInt8) ((i9 : Int) + 1).toNat (mineS left)]), G64, (packS (x := 27) (packS (x := 26) (packS (x := 19) (packS (x := 18) (packS (x := 8) (packS (x := 7) (packS (x := 6) (packS (x := 5) (packS (x := 4) (pack1 (x := 0) rfl) rfl) rfl) rfl) rfl) rfl) rfl) rfl) rfl) rfl), rfl, hX85, (Pin.le_trans (Pin.le_trans hlek19 hx60.le) hx66.le), (by omega), (by rw [hos2, List.append_assoc]; exact (congrArg (os ++ ·) (run_app rfl (clob_y (j := 1) h57 h63)))), (by simp; omega), ho81⟩))))
  omega
  refine wp_skip (s_blkN (s_then (c_reg ?_)))
  refine qd rfl rfl rfl (r_add rfl rfl (by omega)) (qd rfl rfl rfl (r_move (v := (.int .i64 (((1 : Nat) : Int) + 1))) rfl) (qe (s_lopN (⟨_, ?_, _, rfl, _, 1 + 1, ov2, os2, G58, (packS (x := 27) (packS (x := 26) (packS (x := 19) (packS (x := 18) (packS (x := 8) (packS (x := 7) (packS (x := 6) (packS (x := 5) (packS (x := 4) (pack1 (x := 0) rfl) rfl) rfl) rfl) rfl) rfl) rfl) rfl) rfl) rfl), rfl, hX61, (Pin.le_trans hlek19 hx60.le), (by omega), (by rw [hos2]; exact (congrArg (os ++ ·) (run_nil rfl (clob_b (j := 1) h63)))), (by omega), ho62⟩))))
  omega
  refine qs rfl rfl rfl rfl rfl rfl (qs rfl rfl rfl rfl rfl rfl (qs rfl rfl rfl rfl rfl rfl (qs rfl rfl rfl rfl rfl rfl (qs rfl rfl rfl rfl rfl rfl (qd rfl rfl rfl (r_pickF (v := (.bool false)) rfl rfl) (qe (s_then ?_)))))))
  refine c_ifF rfl rfl (wp_skip (s_blkN (s_then (c_reg ?_))))
  refine qd rfl rfl rfl (r_add rfl rfl (by omega)) (qd rfl rfl rfl (r_move (v := (.int .i64 (((1 : Nat) : Int) + 1))) rfl) (qe (s_lopN (⟨_, ?_, _, rfl, _, 1 + 1, ov2, os2, GL2, (packS (x := 27) (packS (x := 26) (packS (x := 19) (packS (x := 18) (packS (x := 8) (packS (x := 7) (packS (x := 6) (packS (x := 5) (packS (x := 4) (pack1 (x := 0) rfl) rfl) rfl) rfl) rfl) rfl) rfl) rfl) rfl) rfl), rfl, hX22, hlek19, (by omega), (by rw [hos2]; exact (congrArg (os ++ ·) (run_nil rfl (clob_a (j := 1) h57)))), (by omega), hw23⟩))))
  omega
 refine wp_exit (s_thenE (s_lopE (s_blkE (s_blkN (s_then (c_reg ?_))))))
 refine qd rfl rfl rfl (r_add rfl rfl (by omega)) (qd rfl rfl rfl (r_move (v := (.int .i64 ((i9 : Int) + 1))) rfl) (qe (s_lopN (⟨_, ?_, _, rfl, _, i9 + 1, ov2, os2, GL2, (packS (x := 19) (packS (x := 18) (packS (x := 7) (packS (x := 6) (packS (x := 5) (packS (x := 4) (pack1 (x := 0) rfl) rfl) rfl) rfl) rfl) rfl) rfl), rfl, hX22, (Pin.le_trans hlek13 hlek19), (by omega), (run_join hos hos2 (by rw [show q9 = 2 by omega]; exact (clob_two s left i9).symm)), (by omega), hw23⟩))))
 omega
 refine wp_exit (s_thenE (s_lopE (s_blkE (s_then (s_seq (c_reg ?_))))))
 refine qd rfl rfl rfl (r_move (v := ov) rfl) (qd rfl rfl rfl (r_assign (v := ov) rfl) (qe (s_then ?_)))
 refine wp_ret (s_ret (c_ret1 (v := ov) rfl rfl rfl ?_))
 obtain ⟨G89, hle92, hX91, hr90, hf93⟩ := hw17.sealed hX16
 have hin : i9 = s.size := by omega
 subst hin
 exact ⟨_, _, rfl, (hos ▸ hr90), hX91⟩

end PS4
end Go.Proofs.YtianphgdbfekdaaGreatDoor

set_option maxRecDepth 20000
set_option maxHeartbeats 2000000
namespace Go.Proofs.YtianphgdbfekdaaGreatDoor
namespace PS5
open Go.RowKit Go.GL Go.Proofs
open PS1 PS2 PS3 PS4




theorem strip_spec {w : World} {G : Pin} {kind : Int} {s : ByteArray} {left : Bool} (hP : Pins G w) (hs : s.size ≤ 1000) :
  Calls Tryz.prog 60 [(.int .i64 kind), (.string s), (.bool left)].toArray w fun e w' => ∃ (u : Value) (G' : Pin), e = .returned u ∧ RSl eStr G' u (stripM kind s left) ∧ Ext noS G w G' w' := by
 refine s_enter (n := 35) Tryz.func60 Tryz.ntmps60 rfl rfl ?_
 have hX0 : Ext noS G w G w := Ext.refl hP
 refine s_seq (c_reg ?_)
 refine qd rfl rfl rfl (r_assign (v := (.slice none 0 0)) rfl) (qe (s_then (s_seq (c_reg ?_))))
 refine qd rfl rfl rfl (r_move (v := (.bool left)) rfl) (q1 rfl rfl rfl (o_call (vs := [(.bool left)]) Tryz.func90 nm90 rfl rfl rfl ?_))
 refine Calls.mono (sides_spec (left := left) hX0.pins) ?_
 rintro _ w2 ⟨G1, rfl, hx3⟩
 refine ⟨_, rfl, ?_⟩
 have hX4 := hX0.tr hx3
 refine qd rfl rfl rfl (r_move (v := (.tuple #[(.int .u8 ((mineS left).toNat : Int)), (.int .u8 ((mineS (!left)).toNat : Int))])) rfl) (qd rfl rfl rfl (r_extract (v := (.int .u8 ((mineS left).toNat : Int))) rfl rfl) (qd rfl rfl rfl (r_extract (v := (.int .u8 ((mineS (!left)).toNat : Int))) rfl rfl) (qd rfl rfl rfl (r_assign (v := (.int .u8 ((mineS left).toNat : Int))) rfl) (qd rfl rfl rfl (r_assign (v := (.int .u8 ((mineS (!left)).toNat : Int))) rfl) (qe (s_then (s_seq (s_seq (c_reg ?_)))))))))
 refine qd rfl rfl rfl (r_move (v := (.int .i64 kind)) rfl) (qe (s_then ?_))
 refine s_blk (s_seq (c_reg ?_))
 refine qd rfl rfl rfl (r_eql rfl rfl) (qd rfl rfl rfl (r_assign (v := (.bool (decide ((kind : Int) = 0)))) rfl) (qe (s_then ?_)))
 refine c_ifd (p := (kind : Int) = 0) rfl rfl (fun h5 => ?_) (fun h5 => ?_)
 refine s_seq (c_reg ?_)
 refine qd rfl rfl rfl (r_move (v := (.string s)) rfl) (qd rfl rfl rfl (r_move (v := (.bool left)) rfl) (q1 rfl rfl rfl (o_call (vs := [(.string s), (.bool left)]) Tryz.func91 nm91 rfl rfl rfl ?_)))
 refine Calls.mono (toad_spec (s := s) (left := left) hX4.pins (by omega)) ?_
 rintro _ w8 ⟨u6, G7, rfl, hr9, hx10⟩
 refine ⟨_, rfl, ?_⟩
 have hX11 := hX4.tr hx10
 refine qd rfl rfl rfl (r_assign (v := u6) rfl) (qe (s_then ?_))
 exact wp_ret (s_ret (c_ret1 (v := u6) rfl rfl rfl (⟨_, _, rfl, (by rw [← strip_0 h5]; exact hr9), hX11⟩)))
 refine s_seq (c_reg ?_)
 refine qd rfl rfl rfl (r_eql rfl rfl) (qd rfl rfl rfl (r_assign (v := (.bool (decide ((kind : Int) = 1)))) rfl) (qe (s_then ?_)))
 refine c_ifd (p := (kind : Int) = 1) rfl rfl (fun h12 => ?_) (fun h12 => ?_)
 refine s_seq (c_reg ?_)
 refine qd rfl rfl rfl (r_move (v := (.string s)) rfl) (qd rfl rfl rfl (r_move (v := (.bool left)) rfl) (q1 rfl rfl rfl (o_call (vs := [(.string s), (.bool left)]) Tryz.func92 nm92 rfl rfl rfl ?_)))
 refine Calls.mono (clob_spec (s := s) (left := left) hX4.pins (by omega)) ?_
 rintro _ w15 ⟨u13, G14, rfl, hr16, hx17⟩
 refine ⟨_, rfl, ?_⟩
 have hX18 := hX4.tr hx17
 refine qd rfl rfl rfl (r_assign (v := u13) rfl) (qe (s_then ?_))
 exact wp_ret (s_ret (c_ret1 (v := u13) rfl rfl rfl (⟨_, _, rfl, (by rw [← strip_1 h12]; exact hr16), hX18⟩)))
 refine s_seq (c_reg ?_)
 refine qd rfl rfl rfl (r_eql rfl rfl) (qd rfl rfl rfl (r_assign (v := (.bool (decide ((kind : Int) = 2)))) rfl) (qe (s_then ?_)))
 refine c_ifd (p := (kind : Int) = 2) rfl rfl (fun h19 => ?_) (fun h19 => ?_)
 refine s_seq (c_reg ?_)
 refine qd rfl rfl rfl (r_move (v := (.string s)) rfl) (qd rfl rfl rfl (r_move (v := (.int .u8 ((mineS left).toNat : Int))) rfl) (qd rfl rfl rfl (r_move (v := (.int .u8 ((mineS left).toNat : Int))) rfl) (q1 rfl rfl rfl (o_call (vs := [(.string s), (.int .u8 ((mineS left).toNat : Int)), (.int .u8 ((mineS left).toNat : Int))]) Tryz.func93 nm93 rfl rfl rfl ?_))))
 refine Calls.mono (mark_spec (s := s) (mine := (mineS left)) (bar := (mineS left)) hX4.pins (by omega)) ?_
 rintro _ w22 ⟨u20, G21, rfl, hr23, hx24⟩
 refine ⟨_, rfl, ?_⟩
 have hX25 := hX4.tr hx24
 refine qd rfl rfl rfl (r_assign (v := u20) rfl) (qe (s_then ?_))
 exact wp_ret (s_ret (c_ret1 (v := u20) rfl rfl rfl (⟨_, _, rfl, (by rw [← strip_2 h19]; exact hr23), hX25⟩)))
 refine wp_skip (s_blkN (s_then (s_seq (c_reg ?_))))
 refine qd rfl rfl rfl (r_move (v := (.string s)) rfl) (qd rfl rfl rfl (r_move (v := (.int .u8 ((mineS left).toNat : Int))) rfl) (qd rfl rfl rfl (r_move (v := (.int .u8 ((mineS (!left)).toNat : Int))) rfl) (q1 rfl rfl rfl (o_call (vs := [(.string s), (.int .u8 ((mineS left).toNat : Int)), (.int .u8 ((mineS (!left)).toNat : Int))]) Tryz.func93 nm93 rfl rfl rfl ?_))))
 refine Calls.mono (mark_spec (s := s) (mine := (mineS left)) (bar := (mineS (!left))) hX4.pins (by omega)) ?_
 rintro _ w28 ⟨u26, G27, rfl, hr29, hx30⟩
 refine ⟨_, rfl, ?_⟩
 have hX31 := hX4.tr hx30
 refine qd rfl rfl rfl (r_assign (v := u26) rfl) (qe (s_then ?_))
 exact wp_ret (s_ret (c_ret1 (v := u26) rfl rfl rfl (⟨_, _, rfl, (by rw [← strip_3 h5 h12 h19]; exact hr29), hX31⟩)))

end PS5
end Go.Proofs.YtianphgdbfekdaaGreatDoor

set_option maxRecDepth 20000
set_option maxHeartbeats 2000000
namespace Go.Proofs.YtianphgdbfekdaaGreatDoor
namespace PW5
open Go.RowKit Go.GL Go.Proofs
open PT3 PTB PW1 PW2 PW3 PW4 RM1 RM2 RM3 PS1 PS2 PS3 PS4 PS5












theorem good_spec {w : World} {G : Pin} {a t : ByteArray} (hP : Pins G w) (hM : MxG 0 G) (hs : t.size ≤ 1048576) :
  Calls Tryz.prog 24 [(.agg [(.string a), (.string t)].toArray)].toArray w fun e w' => ∃ G', e = .returned (.bool (agB (vbI a) t)) ∧ Ext noS G w G' w' := by
 refine s_enter (n := 54) Tryz.func24 Tryz.ntmps24 rfl rfl ?_
 have hX0 : Ext noS G w G w := Ext.refl hP
 refine s_seq (c_reg ?_)
 refine q1 rfl rfl rfl (o_box [(.string a), (.string t)] (v := (.agg [(.string a), (.string t)].toArray)) rfl rfl hX0.pins (fun b1 w2 hk3 hb4 hp5 hl6 => ?_))
 have hX7 := hX0.step hp5 hl6
 have hlo8 : w.heap.size ≤ b1 := by have := hX0.size; omega
 obtain ⟨G9, hle10, hX11, hbp12, hf13⟩ := hb4.shut hX7 hlo8
 refine qd rfl rfl rfl (r_assign (v := (.bool false)) rfl) (qe (s_then (s_seq (s_seq (c_reg ?_)))))
 refine qd rfl rfl rfl (r_fldp (k := 0) rfl Tryz.underlying36 rfl nz9 rfl) (qd rfl rfl rfl (r_ldp1 (u := (.string a)) ag9 rfl (hX11.pins _ _ _ (hbp12 0 _ rfl))) (qe (s_then ?_)))
 refine s_blk (s_seq (c_reg ?_))
 refine qd rfl rfl rfl (r_eqlS rfl rfl) (qd rfl rfl rfl (r_assign (v := (.bool (a.toList == (⟨#[100, 111, 109]⟩ : ByteArray).toList))) rfl) (qe (s_then ?_)))
 refine c_if rfl rfl (fun h14 => ?_) (fun h14 => ?_)
 refine s_seq (c_reg ?_)
 refine qd rfl rfl rfl (r_fldp (k := 1) rfl Tryz.underlying36 rfl nz9 rfl) (qd rfl rfl rfl (r_ldp1 (u := (.string t)) ag9 rfl (hX11.pins _ _ _ (hbp12 1 _ rfl))) (q1 rfl rfl rfl (o_call (vs := [(.string t)]) Tryz.func44 nm44 rfl rfl rfl ?_)))
 refine Calls.mono (iReadBoard_spec (t := t) hX11.pins (hM.le hle10) (by omega)) ?_
 rintro _ w17 ⟨u15, G16, rfl, hr18, hx19⟩
 refine ⟨_, rfl, ?_⟩
 have hX20 := hX11.tr hx19
 refine qd rfl rfl rfl (r_move (v := (.tuple #[(.agg [u15].toArray), (.bool (rdB9 t))])) rfl) (qd rfl rfl rfl (r_extract (v := (.agg [u15].toArray)) rfl rfl) (qd rfl rfl rfl (r_extract (v := (.bool (rdB9 t))) rfl rfl) (q1 rfl rfl rfl (o_alloc [(.slice none 0 0)] zr56 rfl hX20.pins (fun b21 w22 hk23 hb24 hp25 hl26 => ?_)))))
 have hX27 := hX20.step hp25 hl26
 have hlo28 : w.heap.size ≤ b21 := by have := hX20.size; omega
 refine q0 rfl rfl rfl (o_stp (cs' := [u15]) (us := [u15]) (v := (.agg [u15].toArray)) sz56 rfl rfl rfl (ones1 hr18.one) hX27.pins hb24 (Nat.le_of_ble_eq_true rfl) rfl (fun w29 hb30 hp31 hg32 hz33 => ?_))
 have hX34 := hX27.write hp31 hg32 ((lo_box hlo28))
 obtain ⟨G35, hle36, hX37, hbp38, hf39⟩ := hb30.shut hX34 hlo28
 refine qd rfl rfl rfl (r_assign (v := (.bool (rdB9 t))) rfl) (qe (s_then (s_seq (c_reg ?_))))
 refine qd rfl rfl rfl (r_move (v := (.bool (rdB9 t))) rfl) (qd rfl rfl rfl (r_move (v := (.bool (rdB9 t))) rfl) (qb (t := 16) rfl (fun h40 => ?_) (fun h40 => ?_)))
 refine qdg rfl rfl rfl rfl rfl rfl (r_fldp (k := 1) rfl Tryz.underlying36 rfl nz9 rfl) (qdg rfl rfl rfl rfl rfl rfl (r_ldp1 (u := (.string t)) ag9 rfl ((Pins.of_le hX37.pins (Pin.le_trans hx19.le hle36)) _ _ _ (hbp12 1 _ rfl))) (q1g rfl rfl rfl rfl rfl rfl (o_call (vs := [(.string t), (.string (⟨#[46]⟩ : ByteArray))]) Tryz.func45 nm45 rfl rfl rfl ?_)))
 refine Calls.mono (countX_spec (t := t) hX37.pins) ?_
 rintro _ _ ⟨rfl, rfl⟩
 refine ⟨_, rfl, ?_⟩
 refine qdg rfl rfl rfl rfl rfl rfl (r_leq rfl rfl) (qd rfl rfl rfl (r_pickT (v := (.bool (decide ((((dotN t : Nat) : Int) : Int) ≤ 9)))) rfl rfl) (qd rfl rfl rfl (r_assign (v := (.bool (decide ((((dotN t : Nat) : Int) : Int) ≤ 9)))) rfl) (qe (s_then ?_))))
 refine wp_ret (s_ret (c_ret1 (v := (.bool (decide ((((dotN t : Nat) : Int) : Int) ≤ 9)))) rfl rfl rfl ?_))
 have hvb := vb_rng (a := a)
 exact ⟨_, congrArg (fun z => Ending.returned (Value.bool z)) (by have q4 := vb_y 4 (by omega) h14; rw [ag_4 (by omega), h40]; try rfl), hX37⟩
 refine qs rfl rfl rfl rfl rfl rfl (qs rfl rfl rfl rfl rfl rfl (qs rfl rfl rfl rfl rfl rfl (qs rfl rfl rfl rfl rfl rfl (qd rfl rfl rfl (r_pickF (v := (.bool false)) rfl rfl) (qd rfl rfl rfl (r_assign (v := (.bool false)) rfl) (qe (s_then ?_)))))))
 refine wp_ret (s_ret (c_ret1 (v := (.bool false)) rfl rfl rfl ?_))
 have hvb := vb_rng (a := a)
 exact ⟨_, congrArg (fun z => Ending.returned (Value.bool z)) (by have q4 := vb_y 4 (by omega) h14; rw [ag_4 (by omega), h40]; try rfl), hX37⟩
 refine s_seq (c_reg ?_)
 refine qd rfl rfl rfl (r_eqlS rfl rfl) (qd rfl rfl rfl (r_assign (v := (.bool (a.toList == (⟨#[115, 116, 97, 108, 107]⟩ : ByteArray).toList))) rfl) (qe (s_then ?_)))
 refine c_if rfl rfl (fun h41 => ?_) (fun h41 => ?_)
 refine s_seq (c_reg ?_)
 refine qd rfl rfl rfl (r_fldp (k := 1) rfl Tryz.underlying36 rfl nz9 rfl) (qd rfl rfl rfl (r_ldp1 (u := (.string t)) ag9 rfl (hX11.pins _ _ _ (hbp12 1 _ rfl))) (qd rfl rfl rfl (r_lenS Tryz.underlying9 rfl) (qd rfl rfl rfl (r_leq rfl rfl) (qd rfl rfl rfl (r_move (v := (.bool (decide (((t.size : Int) : Int) ≤ 8)))) rfl) (qbd (p := ((t.size : Int) : Int) ≤ 8) (t := 28) rfl (fun h42 => ?_) (fun h42 => ?_))))))
 refine qdg rfl rfl rfl rfl rfl rfl (r_fldp (k := 1) rfl Tryz.underlying36 rfl nz9 rfl) (qdg rfl rfl rfl rfl rfl rfl (r_ldp1 (u := (.string t)) ag9 rfl (hX11.pins _ _ _ (hbp12 1 _ rfl))) (q1g rfl rfl rfl rfl rfl rfl (o_call (vs := [(.string t)]) Tryz.func46 nm46 rfl rfl rfl ?_)))
 refine Calls.mono (areMarks_spec (s := t) hX11.pins (by omega)) ?_
 rintro _ w44 ⟨G43, rfl, hx45⟩
 refine ⟨_, rfl, ?_⟩
 have hX46 := hX11.tr hx45
 refine qd rfl rfl rfl (r_pickT (v := (.bool (mkB t))) rfl rfl) (qd rfl rfl rfl (r_assign (v := (.bool (mkB t))) rfl) (qe (s_then ?_)))
 refine wp_ret (s_ret (c_ret1 (v := (.bool (mkB t))) rfl rfl rfl ?_))
 have hvb := vb_rng (a := a)
 exact ⟨_, congrArg (fun z => Ending.returned (Value.bool z)) (by have q4 := vb_n 4 (by omega) h14; have q5 := vb_y 5 (by omega) h41; rw [ag_5 (by omega), decide_eq_true h42]; try rfl), hX46⟩
 refine qs rfl rfl rfl rfl rfl rfl (qs rfl rfl rfl rfl rfl rfl (qs rfl rfl rfl rfl rfl rfl (qd rfl rfl rfl (r_pickF (v := (.bool false)) rfl rfl) (qd rfl rfl rfl (r_assign (v := (.bool false)) rfl) (qe (s_then ?_))))))
 refine wp_ret (s_ret (c_ret1 (v := (.bool false)) rfl rfl rfl ?_))
 have hvb := vb_rng (a := a)
 exact ⟨_, congrArg (fun z => Ending.returned (Value.bool z)) (by have q4 := vb_n 4 (by omega) h14; have q5 := vb_y 5 (by omega) h41; rw [ag_5 (by omega), decide_eq_false h42]; try rfl), hX11⟩
 refine s_seq (c_reg ?_)
 refine qd rfl rfl rfl (r_eqlS rfl rfl) (qd rfl rfl rfl (r_assign (v := (.bool (a.toList == (⟨#[110, 105, 109]⟩ : ByteArray).toList))) rfl) (qe (s_then ?_)))
 refine c_if rfl rfl (fun h47 => ?_) (fun h47 => ?_)
 refine s_seq (c_reg ?_)
 refine qd rfl rfl rfl (r_ldpA (cs := [(.string a), (.string t)]) ag36 sz36 rfl (fun j u hj => hX11.pins _ _ _ (hbp12 _ _ (by simpa using hj)))) (q1 rfl rfl rfl (o_call (vs := [(.agg [(.string a), (.string t)].toArray)]) Tryz.func47 nm47 rfl rfl rfl ?_))
 refine Calls.mono (heap_spec (a := a) (t := t) hX11.pins) ?_
 rintro _ w49 ⟨G48, rfl, hx50⟩
 refine ⟨_, rfl, ?_⟩
 have hX51 := hX11.tr hx50
 refine qd rfl rfl rfl (r_geq rfl rfl) (qd rfl rfl rfl (r_assign (v := (.bool (decide ((0 : Int) ≤ (hpI t))))) rfl) (qe (s_then ?_)))
 refine wp_ret (s_ret (c_ret1 (v := (.bool (decide ((0 : Int) ≤ (hpI t))))) rfl rfl rfl ?_))
 have hvb := vb_rng (a := a)
 exact ⟨_, congrArg (fun z => Ending.returned (Value.bool z)) (by have q4 := vb_n 4 (by omega) h14; have q5 := vb_n 5 (by omega) h41; have q6 := vb_y 6 (by omega) h47; rw [ag_6 (by omega)]; try rfl), hX51⟩
 refine wp_skip (s_blkN (s_then (s_seq ?_)))
 refine c_draw (S := fun wz => Pins G9 wz) (last := 17) (by kernel_rfl) rfl ?_
 have hl52 : Below w2.heap.size w2 w2.drew := (Below.refl _ _).drew
 have hp53 := hX11.pins.below hl52
 have hX54 := hX11.step hp53 hl52
 refine dr_take (i := 0) rfl rfl rfl (want_none rfl _) (by kernel_rfl) (fun _ hS => r_ldpA (cs := [(.string a), (.string t)]) ag36 sz36 rfl (fun j u hj => hS _ _ _ (hbp12 _ _ (by simpa using hj)))) hX54.pins (dr_one (i := 1) (by kernel_rfl) (drOp1 (i := 1) rfl rfl rfl (want_none rfl _) (o_call (vs := [(.agg [(.string a), (.string t)].toArray)]) Tryz.func48 nm48 rfl rfl rfl ?_)))
 refine Calls.mono (stripKind_spec (a := a) (t := t) hX54.pins) ?_
 rintro _ w56 ⟨G55, rfl, hx57⟩
 refine ⟨_, rfl, ?_⟩
 have hX58 := hX54.tr hx57
 refine ⟨fun _ => (Pins.of_le hX58.pins hx57.le), ?_⟩
 refine dr_take (i := 2) rfl rfl rfl (want_none rfl _) (by kernel_rfl) (fun _ _ => r_geq rfl rfl) (Pins.of_le hX58.pins hx57.le) (dr_take (i := 3) rfl rfl rfl (want_none rfl _) (by kernel_rfl) (fun _ _ => r_move (v := (.bool (decide ((0 : Int) ≤ (skI a))))) rfl) (Pins.of_le hX58.pins hx57.le) (drbd (p := (0 : Int) ≤ (skI a)) (t := 41) rfl (fun h59 => ?_) (fun h59 => ?_)))
 refine dr_take (i := 4) rfl rfl rfl (want_yes rfl rfl rfl rfl) (by kernel_rfl) (fun _ hS => r_ldpA (cs := [(.string a), (.string t)]) ag36 sz36 rfl (fun j u hj => hS _ _ _ (hbp12 _ _ (by simpa using hj)))) (Pins.of_le hX58.pins hx57.le) (dr_take (i := 6) rfl rfl rfl (want_yes rfl rfl rfl rfl) (by kernel_rfl) (fun _ _ => r_fldp (k := 1) rfl Tryz.underlying36 rfl nz9 rfl) (Pins.of_le hX58.pins hx57.le) (dr_take (i := 7) rfl rfl rfl (want_yes rfl rfl rfl rfl) (by kernel_rfl) (fun _ hS => r_ldp1 (u := (.string t)) ag9 rfl (hS _ _ _ (hbp12 1 _ rfl))) (Pins.of_le hX58.pins hx57.le) (dr_one (i := 5) (by kernel_rfl) (drOp1 (i := 5) rfl rfl rfl (want_yes rfl rfl rfl rfl) (o_call (vs := [(.agg [(.string a), (.string t)].toArray)]) Tryz.func48 nm48 rfl rfl rfl ?_)))))
 refine Calls.mono (stripKind_spec (a := a) (t := t) hX58.pins) ?_
 rintro _ w61 ⟨G60, rfl, hx62⟩
 refine ⟨_, rfl, ?_⟩
 have hX63 := hX58.tr hx62
 refine ⟨fun _ => (Pins.of_le hX63.pins (Pin.le_trans hx57.le hx62.le)), ?_⟩
 refine dr_one (i := 8) (by kernel_rfl) (drOp1 (i := 8) rfl rfl rfl (want_yes rfl rfl rfl rfl) (o_call (vs := [(.int .i64 (skI a)), (.string t)]) Tryz.func49 nm49 rfl rfl rfl ?_))
 refine Calls.mono (iGoodStrip_spec (kd := (skI a)) (s := t) hX63.pins) ?_
 rintro _ w65 ⟨G64, rfl, hx66⟩
 refine ⟨_, rfl, ?_⟩
 have hX67 := hX63.tr hx66
 refine ⟨fun _ => (Pins.of_le hX67.pins (Pin.le_trans (Pin.le_trans hx57.le hx62.le) hx66.le)), ?_⟩
 refine dr_take (i := 9) rfl rfl rfl (want_none rfl _) (by kernel_rfl) (fun _ _ => r_pickT (v := (.bool (gsB (skI a) t))) rfl rfl) (Pins.of_le hX67.pins (Pin.le_trans (Pin.le_trans hx57.le hx62.le) hx66.le)) (dr_take (i := 10) rfl rfl rfl (want_none rfl _) (by kernel_rfl) (fun _ _ => r_move (v := (.bool (gsB (skI a) t))) rfl) (Pins.of_le hX67.pins (Pin.le_trans (Pin.le_trans hx57.le hx62.le) hx66.le)) (drb (t := 48) rfl (fun h68 => ?_) (fun h68 => ?_)))
 refine dr_take (i := 11) rfl rfl rfl (want_yes rfl rfl rfl rfl) (by kernel_rfl) (fun _ _ => r_fldp (k := 1) rfl Tryz.underlying36 rfl nz9 rfl) (Pins.of_le hX67.pins (Pin.le_trans (Pin.le_trans hx57.le hx62.le) hx66.le)) (dr_take (i := 12) rfl rfl rfl (want_yes rfl rfl rfl rfl) (by kernel_rfl) (fun _ hS => r_ldp1 (u := (.string t)) ag9 rfl (hS _ _ _ (hbp12 1 _ rfl))) (Pins.of_le hX67.pins (Pin.le_trans (Pin.le_trans hx57.le hx62.le) hx66.le)) (dr_take (i := 13) rfl rfl rfl (want_yes rfl rfl rfl rfl) (by kernel_rfl) (fun _ _ => r_lenS Tryz.underlying9 rfl) (Pins.of_le hX67.pins (Pin.le_trans (Pin.le_trans hx57.le hx62.le) hx66.le)) (dr_take (i := 14) rfl rfl rfl (want_yes rfl rfl rfl rfl) (by kernel_rfl) (fun _ _ => r_leq rfl rfl) (Pins.of_le hX67.pins (Pin.le_trans (Pin.le_trans hx57.le hx62.le) hx66.le)) (dr_take (i := 15) rfl rfl rfl (want_none rfl _) (by kernel_rfl) (fun _ _ => r_pickT (v := (.bool (decide (((t.size : Int) : Int) ≤ 7)))) rfl rfl) (Pins.of_le hX67.pins (Pin.le_trans (Pin.le_trans hx57.le hx62.le) hx66.le)) (dr_take (i := 16) rfl rfl rfl (want_none rfl _) (by kernel_rfl) (fun _ _ => r_assign (v := (.bool (decide (((t.size : Int) : Int) ≤ 7)))) rfl) (Pins.of_le hX67.pins (Pin.le_trans (Pin.le_trans hx57.le hx62.le) hx66.le)) (dr_end (by kernel_rfl) (s_then (wp_ret (s_ret (c_ret1 (v := (.bool (decide (((t.size : Int) : Int) ≤ 7)))) rfl rfl rfl ?_))))))))))
 have hvb := vb_rng (a := a)
 exact ⟨_, congrArg (fun z => Ending.returned (Value.bool z)) (by have q4 := vb_n 4 (by omega) h14; have q5 := vb_n 5 (by omega) h41; have q6 := vb_n 6 (by omega) h47; rw [ag_3 (by omega), decide_eq_true h59, h68]; try rfl), hX67⟩
 refine dr_skip (i := 11) rfl rfl (want_no rfl rfl rfl rfl rfl) (by kernel_rfl) (Pins.of_le hX67.pins (Pin.le_trans (Pin.le_trans hx57.le hx62.le) hx66.le)) (dr_skip (i := 12) rfl rfl (want_no rfl rfl rfl rfl rfl) (by kernel_rfl) (Pins.of_le hX67.pins (Pin.le_trans (Pin.le_trans hx57.le hx62.le) hx66.le)) (dr_skip (i := 13) rfl rfl (want_no rfl rfl rfl rfl rfl) (by kernel_rfl) (Pins.of_le hX67.pins (Pin.le_trans (Pin.le_trans hx57.le hx62.le) hx66.le)) (dr_skip (i := 14) rfl rfl (want_no rfl rfl rfl rfl rfl) (by kernel_rfl) (Pins.of_le hX67.pins (Pin.le_trans (Pin.le_trans hx57.le hx62.le) hx66.le)) (dr_take (i := 15) rfl rfl rfl (want_none rfl _) (by kernel_rfl) (fun _ _ => r_pickF (v := (.bool false)) rfl rfl) (Pins.of_le hX67.pins (Pin.le_trans (Pin.le_trans hx57.le hx62.le) hx66.le)) (dr_take (i := 16) rfl rfl rfl (want_none rfl _) (by kernel_rfl) (fun _ _ => r_assign (v := (.bool false)) rfl) (Pins.of_le hX67.pins (Pin.le_trans (Pin.le_trans hx57.le hx62.le) hx66.le)) (dr_end (by kernel_rfl) (s_then (wp_ret (s_ret (c_ret1 (v := (.bool false)) rfl rfl rfl ?_))))))))))
 have hvb := vb_rng (a := a)
 exact ⟨_, congrArg (fun z => Ending.returned (Value.bool z)) (by have q4 := vb_n 4 (by omega) h14; have q5 := vb_n 5 (by omega) h41; have q6 := vb_n 6 (by omega) h47; rw [ag_3 (by omega), decide_eq_true h59, h68]; try rfl), hX67⟩
 refine dr_skip (i := 4) rfl rfl (want_no rfl rfl rfl rfl rfl) (by kernel_rfl) (Pins.of_le hX58.pins hx57.le) (dr_skip (i := 6) rfl rfl (want_no rfl rfl rfl rfl rfl) (by kernel_rfl) (Pins.of_le hX58.pins hx57.le) (dr_skip (i := 7) rfl rfl (want_no rfl rfl rfl rfl rfl) (by kernel_rfl) (Pins.of_le hX58.pins hx57.le) (dr_skip (i := 5) rfl rfl (want_no rfl rfl rfl rfl rfl) (by kernel_rfl) (Pins.of_le hX58.pins hx57.le) (dr_skip (i := 8) rfl rfl (want_no rfl rfl rfl rfl rfl) (by kernel_rfl) (Pins.of_le hX58.pins hx57.le) (dr_take (i := 9) rfl rfl rfl (want_none rfl _) (by kernel_rfl) (fun _ _ => r_pickF (v := (.bool false)) rfl rfl) (Pins.of_le hX58.pins hx57.le) (dr_take (i := 10) rfl rfl rfl (want_none rfl _) (by kernel_rfl) (fun _ _ => r_move (v := (.bool false)) rfl) (Pins.of_le hX58.pins hx57.le) (dr_skip (i := 11) rfl rfl (want_no rfl rfl rfl rfl rfl) (by kernel_rfl) (Pins.of_le hX58.pins hx57.le) (dr_skip (i := 12) rfl rfl (want_no rfl rfl rfl rfl rfl) (by kernel_rfl) (Pins.of_le hX58.pins hx57.le) (dr_skip (i := 13) rfl rfl (want_no rfl rfl rfl rfl rfl) (by kernel_rfl) (Pins.of_le hX58.pins hx57.le) (dr_skip (i := 14) rfl rfl (want_no rfl rfl rfl rfl rfl) (by kernel_rfl) (Pins.of_le hX58.pins hx57.le) (dr_take (i := 15) rfl rfl rfl (want_none rfl _) (by kernel_rfl) (fun _ _ => r_pickF (v := (.bool false)) rfl rfl) (Pins.of_le hX58.pins hx57.le) (dr_take (i := 16) rfl rfl rfl (want_none rfl _) (by kernel_rfl) (fun _ _ => r_assign (v := (.bool false)) rfl) (Pins.of_le hX58.pins hx57.le) (dr_end (by kernel_rfl) (s_then (wp_ret (s_ret (c_ret1 (v := (.bool false)) rfl rfl rfl ?_)))))))))))))))))
 have hvb := vb_rng (a := a)
 exact ⟨_, congrArg (fun z => Ending.returned (Value.bool z)) (by have q4 := vb_n 4 (by omega) h14; have q5 := vb_n 5 (by omega) h41; have q6 := vb_n 6 (by omega) h47; rw [ag_3 (by omega), decide_eq_false h59]; try rfl), hX58⟩

theorem text_spec {w : World} {G : Pin} {a t : ByteArray} (hP : Pins G w) (ha : a.size ≤ 1000) (ht : t.size ≤ 1000) :
  Calls Tryz.prog 16 [(.agg [(.string a), (.string t)].toArray)].toArray w fun e w' => ∃ G', e = .returned (.string (txW (a, t))) ∧ Ext noS G w G' w' := by
 refine s_enter (n := 9) Tryz.func16 Tryz.ntmps16 rfl rfl ?_
 have hX0 : Ext noS G w G w := Ext.refl hP
 refine s_seq (c_reg ?_)
 refine q1 rfl rfl rfl (o_box [(.string a), (.string t)] (v := (.agg [(.string a), (.string t)].toArray)) rfl rfl hX0.pins (fun b1 w2 hk3 hb4 hp5 hl6 => ?_))
 have hX7 := hX0.step hp5 hl6
 have hlo8 : w.heap.size ≤ b1 := by have := hX0.size; omega
 obtain ⟨G9, hle10, hX11, hbp12, hf13⟩ := hb4.shut hX7 hlo8
 refine qd rfl rfl rfl (r_assign (v := (.string (⟨#[]⟩ : ByteArray))) rfl) (qe (s_then (s_seq (c_reg ?_))))
 refine qd rfl rfl rfl (r_fldp (k := 0) rfl Tryz.underlying36 rfl nz9 rfl) (qd rfl rfl rfl (r_ldp1 (u := (.string a)) ag9 rfl (hX11.pins _ _ _ (hbp12 0 _ rfl))) ?_)
 have hm14 : (⟨#[32]⟩ : ByteArray).size = 1 := rfl
 have hm15 : (a ++ (⟨#[32]⟩ : ByteArray)).size = a.size + (⟨#[32]⟩ : ByteArray).size := ByteArray.size_append
 refine qd rfl rfl rfl (r_addS rfl rfl (by omega)) (qd rfl rfl rfl (r_fldp (k := 1) rfl Tryz.underlying36 rfl nz9 rfl) (qd rfl rfl rfl (r_ldp1 (u := (.string t)) ag9 rfl (hX11.pins _ _ _ (hbp12 1 _ rfl))) ?_))
 have hm16 : ((a ++ (⟨#[32]⟩ : ByteArray)) ++ t).size = (a ++ (⟨#[32]⟩ : ByteArray)).size + t.size := ByteArray.size_append
 refine qd rfl rfl rfl (r_addS rfl rfl (by omega)) (qd rfl rfl rfl (r_assign (v := (.string ((a ++ (⟨#[32]⟩ : ByteArray)) ++ t))) rfl) (qe (s_then ?_)))
 exact wp_ret (s_ret (c_ret1 (v := (.string ((a ++ (⟨#[32]⟩ : ByteArray)) ++ t))) rfl rfl rfl (⟨_, rfl, hX11⟩)))

theorem skv_spec {w : World} {G : Pin} {a t : ByteArray} (hP : Pins G w) (h3 : vbI a ≤ 3) :
  Calls Tryz.prog 48 [(.agg [(.string a), (.string t)].toArray)].toArray w fun e w' => ∃ G', e = .returned (.int .i64 (vbI a)) ∧ Ext noS G w G' w' := by
 refine (stripKind_spec hP).mono ?_
 rintro e w' ⟨G', rfl, hx⟩
 exact ⟨G', by rw [sk_of h3], hx⟩

end PW5
end Go.Proofs.YtianphgdbfekdaaGreatDoor

set_option maxRecDepth 20000
set_option maxHeartbeats 2000000
namespace Go.Proofs.YtianphgdbfekdaaGreatDoor
namespace PW6
open Go.RowKit Go.GL Go.Proofs
open PT3 PTB PW1 PW5






theorem pl36 : (Tryz.prog.underlying 36).bind (placesD Tryz.prog) = some [(0, 1), (1, 1)] := by kernel_rfl



theorem components_spec {w : World} {G : Pin} {s : ByteArray} (hP : Pins G w) (hM : MxG 0 G) (hs : s.size ≤ 1048576) :
  Calls Tryz.prog 14 [(.string s)].toArray w fun e w' => ∃ (u : Value) (G' : Pin), e = .returned (.tuple #[u, .bool (psB s)]) ∧ RSl eS2 G' u (psC s) ∧ Ext noS G w G' w' := by
 refine s_enter (n := 51) Tryz.func14 Tryz.ntmps14 rfl rfl ?_
 have hX0 : Ext noS G w G w := Ext.refl hP
 have hwa := (words_size s.size s (Nat.le_refl _)).2
 have hwl := words_len s
 refine s_seq (c_reg ?_)
 refine qd rfl rfl rfl (r_assign (v := (.slice none 0 0)) rfl) (qd rfl rfl rfl (r_assign (v := (.bool false)) rfl) (qe (s_then (s_seq (s_seq (c_reg ?_))))))
 refine qd rfl rfl rfl (r_move (v := (.string s)) rfl) (qd rfl rfl rfl (r_eqlS rfl rfl) (qe (s_then ?_)))
 refine c_if rfl rfl (fun h1 => ?_) (fun h1 => ?_)
 refine s_seq (c_reg ?_)
 refine qd rfl rfl rfl (r_assign (v := (.slice none 0 0)) rfl) (qd rfl rfl rfl (r_assign (v := (.bool true)) rfl) (qe (s_then ?_)))
 refine wp_ret (s_ret (c_ret2 (v := (.slice none 0 0)) (u := (.bool true)) rfl rfl rfl rfl rfl ?_))
 obtain ⟨e1, e2⟩ := ps_none h1
 exact ⟨_, _, (by rw [e1]), (by unfold psC; rw [e2]; exact (nil_reads _ _)), hX0⟩
 refine wp_skip (s_then (s_seq (s_seq (c_reg ?_))))
 refine qd rfl rfl rfl (r_move (v := (.string s)) rfl) (qd rfl rfl rfl (r_lenS Tryz.underlying9 rfl) (qd rfl rfl rfl (r_gtr rfl rfl) (qe (s_then ?_))))
 refine c_ifd (p := (600 : Int) < (s.size : Int)) rfl rfl (fun h2 => ?_) (fun h2 => ?_)
 refine s_seq (c_reg ?_)
 refine qd rfl rfl rfl (r_assign (v := (.slice none 0 0)) rfl) (qd rfl rfl rfl (r_assign (v := (.bool false)) rfl) (qe (s_then ?_)))
 refine wp_ret (s_ret (c_ret2 (v := (.slice none 0 0)) (u := (.bool false)) rfl rfl rfl rfl rfl ?_))
 have hpb : psB s = false := ps_long (by omega)
 exact ⟨_, _, (by rw [hpb]), (by rw [psC_no hpb]; exact (nil_reads _ _)), hX0⟩
 refine wp_skip (s_then (s_seq (c_reg ?_)))
 refine qd rfl rfl rfl (r_move (v := (.string s)) rfl) (q1 rfl rfl rfl (o_call (vs := [(.string s), (.string (⟨#[32, 43, 32]⟩ : ByteArray))]) Tryz.func22 nm22 rfl rfl rfl ?_))
 refine Calls.mono (splitW_spec (s := s) hX0.pins hM (by omega)) ?_
 rintro _ w5 ⟨u3, G4, rfl, ho6, hx7⟩
 refine ⟨_, rfl, ?_⟩
 have hX8 := hX0.tr hx7
 have ho9 : Own eStr 9 G4 w5 w.heap.size u3 (wordsP s) := ho6.weaken hX0.size
 have hm10 := words_len s
 have hm11 := words_ne s
 refine qd rfl rfl rfl (r_assign (v := u3) rfl) (qe (s_then (s_seq (s_seq (c_reg ?_)))))
 refine qd rfl rfl rfl (r_move (v := u3) rfl) (qd rfl rfl rfl (run_len Tryz.underlying22 (v := u3) rfl ho9.read) (qd rfl rfl rfl (r_gtr rfl rfl) (qe (s_then ?_))))
 refine c_ifd (p := (6 : Int) < ((wordsP s).length : Int)) rfl rfl (fun h12 => ?_) (fun h12 => ?_)
 refine s_seq (c_reg ?_)
 refine qd rfl rfl rfl (r_assign (v := (.slice none 0 0)) rfl) (qd rfl rfl rfl (r_assign (v := (.bool false)) rfl) (qe (s_then ?_)))
 refine wp_ret (s_ret (c_ret2 (v := (.slice none 0 0)) (u := (.bool false)) rfl rfl rfl rfl rfl ?_))
 have hpb : psB s = false := ps_many h1 (by omega)
 exact ⟨_, _, (by rw [hpb]), (by rw [psC_no hpb]; exact (nil_reads _ _)), hX8⟩
 refine wp_skip (s_then (s_seq (c_reg ?_)))
 refine q1 rfl rfl rfl (o_build0 (E := eS2) (e := 36) Tryz.underlying31 sz36 hX8.pins (fun u13 w14 ho15 hp16 hl17 hk18 => ?_))
 have hX19 := hX8.step hp16 hl17
 have ho20 := ho9.below hl17
 have ha21 : Apart u13.ownBlock u3.ownBlock := new_ne_own hk18 ho9.lt
 have ho22 : Own eS2 36 G4 w14 w.heap.size u13 ([]) := ho15.weaken hX8.size
 refine qd rfl rfl rfl (r_assign (v := u13) rfl) (qe (s_then (s_seq (s_seq (c_reg ?_)))))
 refine qd rfl rfl rfl (r_move (v := u3) rfl) (qd rfl rfl rfl (run_len Tryz.underlying22 (v := u3) rfl ho20.read) (qd rfl rfl rfl (r_move (v := (.int .i64 0)) rfl) (qe (s_then ?_))))
 refine s_blk (s_loop (fun (k : Nat) (en : Nat → Value) (W : World) => ∃ (env1 : Nat → Value) (j : Nat) (ov : Value) (os : List (ByteArray × ByteArray)) (GL1 : Pin), en = (upd (upd (upd (upd env1 5 ov) 23 u3) 24 (.int .i64 ((wordsP s).length : Int))) 25 (.int .i64 (j : Int))) ∧ k = (wordsP s).length - j ∧ Ext noS G w GL1 W ∧ Pin.le G4 GL1 ∧ (j ≤ (wordsP s).length) ∧ (os = ((wordsP s).take j).map prW) ∧ (os.length = j) ∧ (∀ i, i < j → SgP ((wordsP s).getD i ByteArray.empty)) ∧ (Own eS2 36 GL1 W w.heap.size ov (os)) ∧ (Own eStr 9 GL1 W w.heap.size u3 (wordsP s)) ∧ (Apart ov.ownBlock u3.ownBlock)) _ ⟨_, 0, u13, [], G4, (packS (x := 25) (packS (x := 24) (packS (x := 23) (pack1 (x := 5) rfl) rfl) rfl) rfl), rfl, hX19, Pin.le_refl _, Nat.zero_le _, rfl, rfl, all_none, ho22, ho20, ha21⟩ ?_)
 rintro k23 _ w24 ⟨env1, j, ov, os, GL1, rfl, hk25, hX26, hlek23, hj, hos, hol, hsg, hw27, hw28, ha29⟩
 refine s_seq (c_reg ?_)
 refine qd rfl rfl rfl (r_lss rfl rfl) (qe (s_then (s_seq ?_)))
 refine c_ifd (p := ((j : Int) : Int) < ((wordsP s).length : Int)) rfl rfl (fun h30 => ?_) (fun h30 => ?_)
 have hwm : ((wordsP s).getD j ByteArray.empty) ∈ wordsP s := getD_mem (by omega)
 have hwz := hwa _ hwm
 have hcz := cut_size ((wordsP s).getD j ByteArray.empty)
 refine wp_skip (s_then (s_seq ?_))
 refine s_blk (s_seq (c_reg ?_))
 refine qd rfl rfl rfl (run_idx Tryz.underlying22 sz9 (v := u3) rfl rfl hw28.read (by omega) (by omega)) (qd rfl rfl rfl (run_load_str (r := (wordsP s).getD j ByteArray.empty) rfl ag9 (z := (j : Int)) rfl hw28.read (Gadd.pins hX26.pins u3) (by omega) (by omega)) (qd rfl rfl rfl (r_assign (v := (.string ((wordsP s).getD j ByteArray.empty))) rfl) (qe (s_then (s_seq (c_reg ?_))))))
 refine qd rfl rfl rfl (r_move (v := (.string ((wordsP s).getD j ByteArray.empty))) rfl) (q1 rfl rfl rfl (o_call (vs := [(.string ((wordsP s).getD j ByteArray.empty)), (.string (⟨#[32]⟩ : ByteArray))]) Tryz.func23 nm23 rfl rfl rfl ?_))
 refine Calls.mono (cutX_spec (s := ((wordsP s).getD j ByteArray.empty)) hX26.pins (hM.le (Pin.le_trans hx7.le hlek23)) (by omega)) ?_
 rintro _ w32 ⟨G31, rfl, hx33⟩
 refine ⟨_, rfl, ?_⟩
 have hX34 := hX26.tr hx33
 have ho35 := hw27.ext hx33
 have ho36 := hw28.ext hx33
 refine qd rfl rfl rfl (r_move (v := (.tuple #[(.string (cutA 32 ((wordsP s).getD j ByteArray.empty))), (.string (cutZ 32 ((wordsP s).getD j ByteArray.empty))), (.bool (cutY 32 ((wordsP s).getD j ByteArray.empty)))])) rfl) (qd rfl rfl rfl (r_extract (v := (.string (cutA 32 ((wordsP s).getD j ByteArray.empty)))) rfl rfl) (qd rfl rfl rfl (r_extract (v := (.string (cutZ 32 ((wordsP s).getD j ByteArray.empty)))) rfl rfl) (qd rfl rfl rfl (r_extract (v := (.bool (cutY 32 ((wordsP s).getD j ByteArray.empty)))) rfl rfl) (qd rfl rfl rfl (r_assign (v := (.string (cutA 32 ((wordsP s).getD j ByteArray.empty)))) rfl) (qd rfl rfl rfl (r_assign (v := (.string (cutZ 32 ((wordsP s).getD j ByteArray.empty)))) rfl) (qd rfl rfl rfl (r_assign (v := (.bool (cutY 32 ((wordsP s).getD j ByteArray.empty)))) rfl) (qe (s_then (s_seq (c_reg ?_))))))))))
 refine qd rfl rfl rfl (r_move (v := (.string (cutA 32 ((wordsP s).getD j ByteArray.empty)))) rfl) (qd rfl rfl rfl (r_move (v := (.string (cutZ 32 ((wordsP s).getD j ByteArray.empty)))) rfl) (qd rfl rfl rfl (r_build [(.string ByteArray.empty), (.string ByteArray.empty)] [(.string (cutA 32 ((wordsP s).getD j ByteArray.empty))), (.string (cutZ 32 ((wordsP s).getD j ByteArray.empty)))] [(0, (.string (cutA 32 ((wordsP s).getD j ByteArray.empty))), [(.string (cutA 32 ((wordsP s).getD j ByteArray.empty)))]), (1, (.string (cutZ 32 ((wordsP s).getD j ByteArray.empty))), [(.string (cutZ 32 ((wordsP s).getD j ByteArray.empty)))])] Tryz.underlying36 zr36 rfl pl36 rfl (List.forall_mem_cons.2 ⟨rfl, (List.forall_mem_cons.2 ⟨rfl, (fun _ h => by cases h)⟩)⟩) rfl) (q1 rfl rfl rfl (o_alloc [(.string ByteArray.empty), (.string ByteArray.empty)] zr36 rfl hX34.pins (fun b37 w38 hk39 hb40 hp41 hl42 => ?_)))))
 have hX43 := hX34.step hp41 hl42
 have ho44 := ho35.below hl42
 have ho45 := ho36.below hl42
 have ha46 : Apart (some b37) ov.ownBlock := new_ne_own (congrArg some hk39) ho35.lt
 have ha47 : Apart (some b37) u3.ownBlock := new_ne_own (congrArg some hk39) ho36.lt
 have hlo48 : w.heap.size ≤ b37 := by have := hX34.size; omega
 refine q0 rfl rfl rfl (o_stp (cs' := [(.string (cutA 32 ((wordsP s).getD j ByteArray.empty))), (.string (cutZ 32 ((wordsP s).getD j ByteArray.empty)))]) (us := [(.string (cutA 32 ((wordsP s).getD j ByteArray.empty))), (.string (cutZ 32 ((wordsP s).getD j ByteArray.empty)))]) (v := (.agg [(.string (cutA 32 ((wordsP s).getD j ByteArray.empty))), (.string (cutZ 32 ((wordsP s).getD j ByteArray.empty)))].toArray)) sz36 rfl rfl rfl (ones2 (by rfl) (by rfl)) hX43.pins hb40 (Nat.le_of_ble_eq_true rfl) rfl (fun w49 hb50 hp51 hg52 hz53 => ?_))
 have hX54 := hX43.write hp51 hg52 ((lo_box hlo48))
 have ho55 := ho44.keptA hg52 ha46.symm
 have ho56 := ho45.keptA hg52 ha47.symm
 obtain ⟨G57, hle58, hX59, hbp60, hf61⟩ := hb50.shut hX54 hlo48
 have ho62 := ho55.moreA hle58 hf61 ha46.symm
 have ho63 := ho56.moreA hle58 hf61 ha47.symm
 refine qe (s_then (s_seq (s_seq (c_reg ?_))))
 refine qd rfl rfl rfl (r_move (v := (.bool (cutY 32 ((wordsP s).getD j ByteArray.empty)))) rfl) (qd rfl rfl rfl (r_not rfl) (qd rfl rfl rfl (r_move (v := (.bool (!(cutY 32 ((wordsP s).getD j ByteArray.empty))))) rfl) (qbn (t := 40) rfl (fun h64 => ?_) (fun h64 => ?_))))
 refine qdg rfl rfl rfl rfl rfl rfl (r_ldpA (cs := [(.string (cutA 32 ((wordsP s).getD j ByteArray.empty))), (.string (cutZ 32 ((wordsP s).getD j ByteArray.empty)))]) ag36 sz36 rfl (fun j u hj => hX59.pins _ _ _ (hbp60 _ _ (by simpa using hj)))) (q1g rfl rfl rfl rfl rfl rfl (o_call (vs := [(.agg [(.string (cutA 32 ((wordsP s).getD j ByteArray.empty))), (.string (cutZ 32 ((wordsP s).getD j ByteArray.empty)))].toArray)]) Tryz.func24 nm24 rfl rfl rfl ?_))
 refine Calls.mono (good_spec (a := (cutA 32 ((wordsP s).getD j ByteArray.empty))) (t := (cutZ 32 ((wordsP s).getD j ByteArray.empty))) hX59.pins (hM.le (Pin.le_trans (Pin.le_trans (Pin.le_trans hx7.le hlek23) hx33.le) hle58)) (by omega)) ?_
 rintro _ w66 ⟨G65, rfl, hx67⟩
 refine ⟨_, rfl, ?_⟩
 have hX68 := hX59.tr hx67
 have ho69 := ho62.ext hx67
 have ho70 := ho63.ext hx67
 refine qdg rfl rfl rfl rfl rfl rfl (r_not rfl) (qd rfl rfl rfl (r_pickF (v := (.bool (!(agB (vbI (cutA 32 ((wordsP s).getD j ByteArray.empty))) (cutZ 32 ((wordsP s).getD j ByteArray.empty)))))) rfl rfl) (qe (s_then ?_)))
 refine c_ifn rfl rfl (fun h71 => ?_) (fun h71 => ?_)
 refine wp_skip (s_then (c_reg ?_))
 refine qd rfl rfl rfl (r_move (v := ov) rfl) (qd rfl rfl rfl (r_ldpA (cs := [(.string (cutA 32 ((wordsP s).getD j ByteArray.empty))), (.string (cutZ 32 ((wordsP s).getD j ByteArray.empty)))]) ag36 sz36 rfl (fun j u hj => (Pins.of_le hX68.pins hx67.le) _ _ _ (hbp60 _ _ (by simpa using hj)))) (q1 rfl rfl rfl (o_build1 (E := eS2) (e := 36) [(.string (cutA 32 ((wordsP s).getD j ByteArray.empty))), (.string (cutZ 32 ((wordsP s).getD j ByteArray.empty)))] (cutA 32 ((wordsP s).getD j ByteArray.empty), cutZ 32 ((wordsP s).getD j ByteArray.empty)) Tryz.underlying31 sz36 zr36 rfl rfl (by decide) hX68.pins (fun u72 w73 ho74 hp75 hl76 hk77 => ?_))))
 have hX78 := hX68.step hp75 hl76
 have ho79 := ho69.below hl76
 have ho80 := ho70.below hl76
 have ho83 : Own eS2 36 G65 w73 w.heap.size u72 ([(cutA 32 ((wordsP s).getD j ByteArray.empty), cutZ 32 ((wordsP s).getD j ByteArray.empty))]) := ho74.weaken hX68.size
 refine q1 rfl rfl rfl (o_append (E := eS2) (v := ov) (u := u72) 32 Tryz.underlying31 ap36 (by decide) rfl rfl hX78.pins ho79 ho83.src (by first | omega | (rw [List.nil_append]; omega) | (rw [List.length_nil]; omega) | (rw [List.length_append]; omega) | (simp; done) | (simp; omega) | (simp only [List.length_cons, List.length_nil]; omega) | (simp only [List.length_append, List.length_cons, List.length_nil]; omega)) (by first | omega | (rw [List.nil_append]; omega) | (rw [List.length_nil]; omega) | (rw [List.length_append]; omega) | (simp; done) | (simp; omega) | (simp only [List.length_cons, List.length_nil]; omega) | (simp only [List.length_append, List.length_cons, List.length_nil]; omega)) (hX78.size) (fun u84 w85 ho86 hp87 hg88 hw89 => ?_))
 have hX90 := hX78.write hp87 hg88 ((lo_own ho79))
 have ho91 := ho80.keptA hg88 ha29.symm
 have ha93 : Apart u3.ownBlock u84.ownBlock := app_ne_own ha29.symm hw89 ho80.lt
 have hm95 : (os ++ ([(cutA 32 ((wordsP s).getD j ByteArray.empty), cutZ 32 ((wordsP s).getD j ByteArray.empty))])).length = os.length + 1 := List.length_append
 refine qd rfl rfl rfl (r_assign (v := u84) rfl) (qe (s_blkN (s_then (c_reg ?_))))
 refine qd rfl rfl rfl (r_add rfl rfl (by omega)) (qd rfl rfl rfl (r_move (v := (.int .i64 ((j : Int) + 1))) rfl) (qe (s_lopN (⟨_, ?_, _, rfl, _, j + 1, u84, os ++ ([(cutA 32 ((wordsP s).getD j ByteArray.empty), cutZ 32 ((wordsP s).getD j ByteArray.empty))]), G65, (packS (x := 25) (packS (x := 24) (packS (x := 23) (pack1 (x := 5) rfl) rfl) rfl) rfl), rfl, hX90, (Pin.le_trans (Pin.le_trans (Pin.le_trans hlek23 hx33.le) hle58) hx67.le), (by omega), (pr_next9 (by omega) hos rfl rfl), (by simp [hol]), (all_next hsg (sg_ok h64 h71)), ho86, ho91, ha93.symm⟩))))
 omega
 refine s_seq (c_reg ?_)
 refine qd rfl rfl rfl (r_assign (v := (.slice none 0 0)) rfl) (qd rfl rfl rfl (r_assign (v := (.bool false)) rfl) (qe (s_then ?_)))
 refine wp_ret (s_ret (c_ret2 (v := (.slice none 0 0)) (u := (.bool false)) rfl rfl rfl rfl rfl ?_))
 have hpb : psB s = false := ps_bad h1 hwm (sg_no2 h71)
 exact ⟨_, _, (by rw [hpb]), (by rw [psC_no hpb]; exact (nil_reads _ _)), hX68⟩
 refine qs rfl rfl rfl rfl rfl rfl (qs rfl rfl rfl rfl rfl rfl (qs rfl rfl rfl rfl rfl rfl (qd rfl rfl rfl (r_pickT (v := (.bool true)) rfl rfl) (qe (s_then ?_)))))
 refine c_ifT rfl rfl (s_seq (c_reg ?_))
 refine qd rfl rfl rfl (r_assign (v := (.slice none 0 0)) rfl) (qd rfl rfl rfl (r_assign (v := (.bool false)) rfl) (qe (s_then ?_)))
 refine wp_ret (s_ret (c_ret2 (v := (.slice none 0 0)) (u := (.bool false)) rfl rfl rfl rfl rfl ?_))
 have hpb : psB s = false := ps_bad h1 hwm (sg_no1 h64)
 exact ⟨_, _, (by rw [hpb]), (by rw [psC_no hpb]; exact (nil_reads _ _)), hX59⟩
 refine wp_exit (s_thenE (s_lopE (s_blkE (s_then (s_seq (c_reg ?_))))))
 refine qd rfl rfl rfl (r_move (v := ov) rfl) (qd rfl rfl rfl (r_assign (v := ov) rfl) (qd rfl rfl rfl (r_assign (v := (.bool true)) rfl) (qe (s_then ?_))))
 refine wp_ret (s_ret (c_ret2 (v := ov) (u := (.bool true)) rfl rfl rfl rfl rfl ?_))
 obtain ⟨G96, hle99, hX98, hr97, hf100⟩ := hw27.sealed hX26
 obtain ⟨e1, e2⟩ := ps_good h1 (by omega) (mem_all hsg (by omega))
 exact ⟨_, _, (by rw [e1]), (by unfold psC; rw [e2]; exact (map_doneC (by omega) hos ▸ hr97)), hX98⟩

end PW6
end Go.Proofs.YtianphgdbfekdaaGreatDoor

namespace Go.GL
open Go Go.RowKit
section
variable {en e lo hi : Nat} {G G' : Pin} {w w' : World} {v : Value} {rows : List (List Bool)}
theorem DGrid.leaf2 (h : DGrid en e G w lo hi v rows) {i : Nat} (hi' : i < rows.length) : ∃ us, us.length = rows.length ∧ Own eVal en G w lo v us ∧ Own eBool e G w lo (us.getD i default) (rows.getD i []) ∧ (∀ k, (us.getD i default).ownBlock = some k → lo ≤ k ∧ k < hi) ∧
  (∀ {w' : World} {ys : List Bool}, Own eBool e G w' lo (us.getD i default) ys → w.grownBy w' (us.getD i default).ownBlock → DGrid en e G w' lo hi v (rows.set i ys)) ∧ Apart (us.getD i default).ownBlock v.ownBlock ∧ (∀ k, v.ownBlock = some k → lo ≤ k ∧ k < hi) := by
 obtain ⟨us, h1, h2, h3, h4, h5⟩ := h.ex
 have hu : i < us.length := by omega
 have e1 : us.getD i default = us[i] := by simp [List.getD, hu]
 have e2 : rows.getD i [] = rows[i] := by simp [List.getD, hi']
 have hm : (us[i], rows[i]) ∈ lvG us rows := List.mem_of_getElem? (i := i) (by unfold lvG; rw [List.getElem?_zip_eq_some]; exact ⟨List.getElem?_eq_getElem hu, List.getElem?_eq_getElem hi'⟩)
 have hown := h4.own _ hm
 refine ⟨us, h1, h2, by rw [e1, e2]; exact hown, fun k hk => by rw [e1] at hk; exact ⟨(hown.lt k hk).1, h4.hi _ hm k hk⟩, fun {w'} {ys} ho hg => ?_, by rw [e1]; exact h5 _ hm, fun k hk => ⟨(h2.lt k hk).1, h3 k hk⟩⟩
 rw [e1] at ho hg
 have hs : lvG us rows = lvG (us.take i) (rows.take i) ++ (us[i], rows[i]) :: lvG (us.drop (i + 1)) (rows.drop (i + 1)) := by
  unfold lvG
  conv => lhs; rw [← List.take_append_drop i us, ← List.take_append_drop i rows]
  rw [List.zip_append (by simp; omega), List.drop_eq_getElem_cons hu, List.drop_eq_getElem_cons hi']
  rfl
 have hs2 : lvG us (rows.set i ys) = lvG (us.take i) (rows.take i) ++ (us[i], ys) :: lvG (us.drop (i + 1)) (rows.drop (i + 1)) := by
  unfold lvG
  have e3 : rows.set i ys = rows.take i ++ ys :: rows.drop (i + 1) := List.set_eq_take_append_cons_drop .. |>.trans (if_pos hi')
  rw [e3]
  conv => lhs; rw [← List.take_append_drop i us]
  rw [List.zip_append (by simp; omega), List.drop_eq_getElem_cons hu]
  rfl
 rw [hs] at h4 h5
 refine ⟨us, by simp [h1], h2.keptA hg (h5 _ (List.mem_append_right _ List.mem_cons_self)).symm, h3, by rw [hs2]; exact h4.step ho hg, fun p hp => ?_⟩
 rw [hs2] at hp
 rcases List.mem_append.1 hp with hp | hp
 ·exact h5 p (List.mem_append_left _ hp)
 ·rcases List.mem_cons.1 hp with rfl | hp
  ·exact h5 (us[i], rows[i]) (List.mem_append_right _ List.mem_cons_self)
  ·exact h5 p (List.mem_append_right _ (List.mem_cons_of_mem _ hp))
theorem DGrid.moreO {u : Value} (h : DGrid en e G w lo hi v rows) (hl : Pin.le G G') (hf : ∀ k o x, G' k o x → G k o x ∨ u.ownBlock = some k) (hb : ∀ k, u.ownBlock = some k → hi ≤ k ∨ k < lo) : DGrid en e G' w lo hi v rows := by
 obtain ⟨ps, h1, h2, h3, h4, h5⟩ := h.ex
 exact ⟨⟨ps, h1, h2.moreO hl hf (fun k a c => by have := hb k c; have := h3 _ a; have := (h2.lt _ a).1; omega), h3, h4.moreO hl hf (fun p hp k a c => by have := hb k c; have := h4.hi p hp _ a; have := (h4.ge p hp _ a).1; omega), h5⟩⟩
theorem Own.wider {α : Type} {E : Elt α} {et base lo2 : Nat} {u : Value} {xs : List α} (h : Own E et G w base u xs) (hl : Pin.le G G') (hf : ∀ b o x, G' b o x → G b o x ∨ lo2 ≤ b) (hk : ∀ k, u.ownBlock = some k → k < lo2) : Own E et G' w base u xs :=
 h.mono hl fun k hk' o x hx => (hf k o x hx).elim (h.free k hk' o x) fun h2 => by have := hk k hk'; omega
theorem DGrid.wider {lo2 : Nat} (h : DGrid en e G w lo hi v rows) (hl : Pin.le G G') (hf : ∀ b o x, G' b o x → G b o x ∨ lo2 ≤ b) (hh : hi ≤ lo2) : DGrid en e G' w lo hi v rows := by
 obtain ⟨ps, h1, h2, h3, h4, h5⟩ := h.ex
 exact ⟨⟨ps, h1, h2.wider hl hf (fun k hk => by have := h3 k hk; omega), h3, ⟨fun p hp => (h4.own p hp).wider hl hf (fun k hk => by have := h4.hi p hp k hk; omega), h4.hi, h4.ap⟩, h5⟩⟩
theorem g_app {a v : Value} (ha : ∀ k, a.ownBlock = some k → hi ≤ k ∨ k < lo) (hs : hi ≤ w.heap.size) (hw : v.ownBlock = a.ownBlock ∨ ∃ k, v.ownBlock = some k ∧ w.heap.size ≤ k) : ∀ k, v.ownBlock = some k → hi ≤ k ∨ k < lo := fun k hk => by
 rcases hw with h | ⟨j, h, h2⟩
 ·exact ha k (h ▸ hk)
 ·rw [h] at hk; cases hk; exact Or.inl (Nat.le_trans hs h2)
theorem DGrid.run_len {P : Program} {ρ : Operand → Value} {d : Option Nat} {t ty ety : Nat} {pos : String} {aft : Array Edge} {g : Option (Nat × Bool)} {x : Operand} (h : DGrid en e G w lo hi v rows) (ht : P.underlying t = some (.slice ety)) (hx : ρ x = v) {wz : World} :
  (execOp ρ ⟨d, .call { callee := .builtin .len, args := #[x], argTypes := #[t] }, ty, pos, aft, g⟩).run P wz = .ok (.value (.int .i64 rows.length)) wz := by
 obtain ⟨ps, h1, h2, _⟩ := h.ex
 rw [← h1]
 exact Go.GL.run_len ht hx h2.read
theorem It.sep {k : Nat} {s : ByteArray} {p : Nat} (h : It w k s p) (hx : Ext (inR lo hi) G w G' w') (hs : hi ≤ k ∨ k < lo) : It w' k s p := h.extS hx fun hr => by have := hr.1; have := hr.2; omega
end
end Go.GL

set_option maxRecDepth 20000
set_option maxHeartbeats 2000000
namespace Go.Proofs.YtianphgdbfekdaaGreatDoor
namespace QS1
open Go.RowKit Go.GL Go.Proofs
open PT3 PTB PW1 PS1 PS2 PS3 PS4 PS5








theorem isOver_spec {w : World} {G : Pin} {kd : Int} {t : ByteArray} (hP : Pins G w) (hs : t.size ≤ 1000) :
  Calls Tryz.prog 85 [(.int .i64 kd), (.string t)].toArray w fun e w' => ∃ G', e = .returned (.bool (ovB kd t)) ∧ Ext noS G w G' w' := by
 refine s_enter (n := 17) Tryz.func85 Tryz.ntmps85 rfl rfl ?_
 have hX0 : Ext noS G w G w := Ext.refl hP
 refine s_seq (c_reg ?_)
 refine qd rfl rfl rfl (r_assign (v := (.bool false)) rfl) (qe (s_then (s_seq (c_reg ?_))))
 refine qd rfl rfl rfl (r_move (v := (.int .i64 kd)) rfl) (qd rfl rfl rfl (r_move (v := (.string t)) rfl) (q1 rfl rfl rfl (o_call (vs := [(.int .i64 kd), (.string t), (.bool true)]) Tryz.func60 nm60 rfl rfl rfl ?_)))
 refine Calls.mono (strip_spec (kind := kd) (s := t) (left := true) hX0.pins (by omega)) ?_
 rintro _ w3 ⟨u1, G2, rfl, hr4, hx5⟩
 refine ⟨_, rfl, ?_⟩
 have hX6 := hX0.tr hx5
 refine qd rfl rfl rfl (run_len Tryz.underlying22 (v := u1) rfl hr4) (qd rfl rfl rfl (r_eql rfl rfl) (qd rfl rfl rfl (r_move (v := (.bool (decide ((((stripM kd t true).length : Int) : Int) = 0)))) rfl) (qbd (p := (((stripM kd t true).length : Int) : Int) = 0) (t := 10) rfl (fun h7 => ?_) (fun h7 => ?_))))
 refine qdg rfl rfl rfl rfl rfl rfl (r_move (v := (.int .i64 kd)) rfl) (qdg rfl rfl rfl rfl rfl rfl (r_move (v := (.string t)) rfl) (q1g rfl rfl rfl rfl rfl rfl (o_call (vs := [(.int .i64 kd), (.string t), (.bool false)]) Tryz.func60 nm60 rfl rfl rfl ?_)))
 refine Calls.mono (strip_spec (kind := kd) (s := t) (left := false) hX6.pins (by omega)) ?_
 rintro _ w10 ⟨u8, G9, rfl, hr11, hx12⟩
 refine ⟨_, rfl, ?_⟩
 have hX13 := hX6.tr hx12
 refine qdg rfl rfl rfl rfl rfl rfl (run_len Tryz.underlying22 (v := u8) rfl hr11) (qdg rfl rfl rfl rfl rfl rfl (r_eql rfl rfl) (qd rfl rfl rfl (r_pickT (v := (.bool (decide ((((stripM kd t false).length : Int) : Int) = 0)))) rfl rfl) (qd rfl rfl rfl (r_assign (v := (.bool (decide ((((stripM kd t false).length : Int) : Int) = 0)))) rfl) (qe (s_then ?_)))))
 exact wp_ret (s_ret (c_ret1 (v := (.bool (decide ((((stripM kd t false).length : Int) : Int) = 0)))) rfl rfl rfl (⟨_, congrArg (fun z => Ending.returned (Value.bool z)) (ov_t h7), hX13⟩)))
 refine qs rfl rfl rfl rfl rfl rfl (qs rfl rfl rfl rfl rfl rfl (qs rfl rfl rfl rfl rfl rfl (qs rfl rfl rfl rfl rfl rfl (qs rfl rfl rfl rfl rfl rfl (qd rfl rfl rfl (r_pickF (v := (.bool false)) rfl rfl) (qd rfl rfl rfl (r_assign (v := (.bool false)) rfl) (qe (s_then ?_))))))))
 exact wp_ret (s_ret (c_ret1 (v := (.bool false)) rfl rfl rfl (⟨_, congrArg (fun z => Ending.returned (Value.bool z)) (ov_f h7), hX6⟩)))

theorem emptyRuns_spec {w : World} {G : Pin} {t : ByteArray} (hP : Pins G w) (hs : t.size ≤ 1000) :
  Calls Tryz.prog 84 [(.string t)].toArray w fun e w' => ∃ (u : Value) (G' : Pin), e = .returned u ∧ RSl eStr G' u (runsM t) ∧ Ext noS G w G' w' := by
 refine s_enter (n := 45) Tryz.func84 Tryz.ntmps84 rfl rfl ?_
 have hX0 : Ext noS G w G w := Ext.refl hP
 refine s_seq (c_reg ?_)
 refine qd rfl rfl rfl (r_assign (v := (.slice none 0 0)) rfl) (qe (s_then (s_seq (c_reg ?_))))
 refine q1 rfl rfl rfl (o_build0 (E := eStr) (e := 9) Tryz.underlying22 sz9 hX0.pins (fun u1 w2 ho3 hp4 hl5 hk6 => ?_))
 have hX7 := hX0.step hp4 hl5
 have ho8 : Own eStr 9 G w2 w.heap.size u1 ([]) := ho3.weaken hX0.size
 refine qd rfl rfl rfl (r_assign (v := u1) rfl) (qe (s_then (s_seq (s_seq (c_reg ?_)))))
 refine qd rfl rfl rfl (r_assign (v := (.int .i64 0)) rfl) (qe (s_then ?_))
 refine s_blk (s_loop (fun (k : Nat) (en : Nat → Value) (W : World) => ∃ (env1 : Nat → Value) (f9 : Nat) (ov : Value) (os : List ByteArray) (GL1 : Pin), en = (upd (upd (upd (upd env1 0 (.string t)) 2 (.slice none 0 0)) 3 ov) 4 (.int .i64 (f9 : Int))) ∧ k = t.size - f9 ∧ Ext noS G w GL1 W ∧ Pin.le G GL1 ∧ (f9 ≤ t.size) ∧ (os = runM (runAt t) f9) ∧ (((sB t f9).toNat : Int) = 46 → f9 = 0 ∨ ¬ ((sB t (f9 - 1)).toNat : Int) = 46) ∧ (os.length ≤ f9) ∧ (Own eStr 9 GL1 W w.heap.size ov (os))) _ ⟨_, 0, u1, [], G, (packS (x := 4) (packS (x := 3) (packS (x := 2) (pack1 (x := 0) rfl) rfl) rfl) rfl), rfl, hX7, Pin.le_refl _, Nat.zero_le _, rfl, (fun _ => Or.inl rfl), Nat.le_refl _, ho8⟩ ?_)
 rintro k9 _ w10 ⟨env1, f9, ov, os, GL1, rfl, hk11, hX12, hlek9, hf, hos, hpv, hol, hw13⟩
 refine s_seq (s_seq (c_reg ?_))
 refine qd rfl rfl rfl (r_move (v := (.int .i64 (f9 : Int))) rfl) (qd rfl rfl rfl (r_move (v := (.string t)) rfl) (qd rfl rfl rfl (r_lenS Tryz.underlying9 rfl) (qd rfl rfl rfl (r_lss rfl rfl) (qe (s_then ?_)))))
 refine c_ifd (p := ((f9 : Int) : Int) < (t.size : Int)) rfl rfl (fun h14 => ?_) (fun h14 => ?_)
 refine wp_skip (s_then (s_blk (s_seq (s_seq (c_reg ?_)))))
 refine qd rfl rfl rfl (r_move (v := (.string t)) rfl) (qd rfl rfl rfl (r_move (v := (.int .i64 (f9 : Int))) rfl) (qd rfl rfl rfl (r_idxB Tryz.underlying9 rfl rfl (by omega) (by omega)) (qd rfl rfl rfl (r_neq rfl rfl) (qe (s_then ?_)))))
 refine c_ifd (p := (((sB t f9).toNat : Int) : Int) ≠ 46) rfl rfl (fun h15 => ?_) (fun h15 => ?_)
 refine s_seq (c_reg ?_)
 refine qd rfl rfl rfl (r_move (v := (.int .i64 (f9 : Int))) rfl) (qd rfl rfl rfl (r_add rfl rfl (by omega)) (qd rfl rfl rfl (r_assign (v := (.int .i64 ((f9 : Int) + 1))) rfl) (qe (s_then ?_))))
 refine wp_exit (s_thenE (s_blkE (s_lopN (⟨_, ?_, _, rfl, _, f9 + 1, ov, os, GL1, (packS (x := 4) (packS (x := 3) (packS (x := 2) (pack1 (x := 0) rfl) rfl) rfl) rfl), rfl, hX12, hlek9, (by omega), (run_nil hos (run_no1 h15)), (fun _ => Or.inr (by rw [Nat.add_sub_cancel]; exact h15)), (by omega), hw13⟩))))
 omega
 refine wp_skip (s_then (s_seq (c_reg ?_)))
 refine qd rfl rfl rfl (r_move (v := (.int .i64 (f9 : Int))) rfl) (qd rfl rfl rfl (r_assign (v := (.int .i64 (f9 : Int))) rfl) (qe (s_then (s_seq ?_))))
 refine s_blk (s_loop (fun (k : Nat) (en : Nat → Value) (W : World) => ∃ (env1 : Nat → Value) (e9 : Nat) (GL2 : Pin), en = (upd (upd (upd (upd (upd env1 0 (.string t)) 2 (.slice none 0 0)) 3 ov) 4 (.int .i64 (f9 : Int))) 5 (.int .i64 (e9 : Int))) ∧ k = t.size - e9 ∧ Ext noS G w GL2 W ∧ Pin.le GL1 GL2 ∧ (f9 ≤ e9 ∧ e9 ≤ t.size) ∧ (∀ j, f9 ≤ j → j < e9 → sB t j = 46) ∧ (Own eStr 9 GL2 W w.heap.size ov (os))) _ ⟨_, f9, GL1, (packS (x := 5) (packS (x := 4) (packS (x := 3) (packS (x := 2) (pack1 (x := 0) rfl) rfl) rfl) rfl) rfl), rfl, hX12, Pin.le_refl _, (by omega), (fun j a b => by omega), hw13⟩ ?_)
 rintro k16 _ w17 ⟨env1, e9, GL2, rfl, hk18, hX19, hlek16, hfe, he9, hw20⟩
 refine s_seq (s_seq (c_reg ?_))
 refine qd rfl rfl rfl (r_move (v := (.int .i64 (e9 : Int))) rfl) (qd rfl rfl rfl (r_move (v := (.string t)) rfl) (qd rfl rfl rfl (r_lenS Tryz.underlying9 rfl) (qd rfl rfl rfl (r_lss rfl rfl) (qd rfl rfl rfl (r_move (v := (.bool (decide (((e9 : Int) : Int) < (t.size : Int))))) rfl) (qbd (p := ((e9 : Int) : Int) < (t.size : Int)) (t := 22) rfl (fun h21 => ?_) (fun h21 => ?_))))))
 refine qdg rfl rfl rfl rfl rfl rfl (r_move (v := (.string t)) rfl) (qdg rfl rfl rfl rfl rfl rfl (r_move (v := (.int .i64 (e9 : Int))) rfl) (qdg rfl rfl rfl rfl rfl rfl (r_idxB Tryz.underlying9 rfl rfl (by omega) (by omega)) (qdg rfl rfl rfl rfl rfl rfl (r_eql rfl rfl) (qd rfl rfl rfl (r_pickT (v := (.bool (decide ((((sB t e9).toNat : Int) : Int) = 46)))) rfl rfl) (qe (s_then ?_))))))
 refine c_ifd (p := (((sB t e9).toNat : Int) : Int) = 46) rfl rfl (fun h22 => ?_) (fun h22 => ?_)
 refine wp_skip (s_then (s_blk (c_reg (qd rfl rfl rfl (r_move (v := (.int .i64 (e9 : Int))) rfl) (qd rfl rfl rfl (r_add rfl rfl (by omega)) (qd rfl rfl rfl (r_assign (v := (.int .i64 ((e9 : Int) + 1))) rfl) (qe (s_blkN (s_lopN (⟨_, ?_, _, rfl, _, e9 + 1, GL2, (packS (x := 5) (packS (x := 4) (packS (x := 3) (packS (x := 2) (pack1 (x := 0) rfl) rfl) rfl) rfl) rfl), rfl, hX19, hlek16, (by omega), (fun j a b => if e : j = e9 then e ▸ b46 h22 else he9 j a (by omega)), hw20⟩))))))))))
 omega
 refine wp_exit (s_thenE (s_lopE (s_blkE (s_then (s_seq (c_reg ?_))))))
 have hen : e9 < t.size → sB t e9 ≠ 46 := fun _ => b46n h22
 have hlt9 := run_lt hfe.1 (Decidable.not_not.1 h15) hen
 have hx1 : (max 0 ((f9 : Int) - 1)).toNat = f9 - 1 := by omega
 have hx2 : (min (t.size : Int) ((e9 : Int) + 1)).toNat = min (e9 + 1) t.size := by omega
 refine qd rfl rfl rfl (r_move (v := ov) rfl) (qd rfl rfl rfl (r_move (v := (.string t)) rfl) (qd rfl rfl rfl (r_move (v := (.int .i64 (f9 : Int))) rfl) (qd rfl rfl rfl (r_sub rfl rfl (by omega)) (qd rfl rfl rfl (r_max rfl rfl) (qd rfl rfl rfl (r_move (v := (.string t)) rfl) (qd rfl rfl rfl (r_lenS Tryz.underlying9 rfl) (qd rfl rfl rfl (r_move (v := (.int .i64 (e9 : Int))) rfl) (qd rfl rfl rfl (r_add rfl rfl (by omega)) (qd rfl rfl rfl (r_min rfl rfl) ?_)))))))))
 have hm23 : (t.extract (max 0 ((f9 : Int) - 1)).toNat (min (t.size : Int) ((e9 : Int) + 1)).toNat).size = min (min (t.size : Int) ((e9 : Int) + 1)).toNat t.size - (max 0 ((f9 : Int) - 1)).toNat := ByteArray.size_extract
 refine qd rfl rfl rfl (r_cutB Tryz.underlying9 rfl rfl rfl (by omega) (by omega) (by omega)) (q1 rfl rfl rfl (o_buildF (E := eStr) (e := 9) [(.string (t.extract (max 0 ((f9 : Int) - 1)).toNat (min (t.size : Int) ((e9 : Int) + 1)).toNat))] [t.extract (max 0 ((f9 : Int) - 1)).toNat (min (t.size : Int) ((e9 : Int) + 1)).toNat] Tryz.underlying22 sz9 zr9 (by exact reps1 (by rfl)) (ones1 (by rfl)) rfl rfl rfl rfl (by decide) hX19.pins (fun u24 w25 ho26 hp27 hl28 hk29 => ?_)))
 have hX30 := hX19.step hp27 hl28
 have ho31 := hw20.below hl28
 have ho33 : Own eStr 9 GL2 w25 w.heap.size u24 ([t.extract (max 0 ((f9 : Int) - 1)).toNat (min (t.size : Int) ((e9 : Int) + 1)).toNat]) := ho26.weaken hX19.size
 refine q1 rfl rfl rfl (o_append (E := eStr) (v := ov) (u := u24) 16 Tryz.underlying22 ap9 (by decide) rfl rfl hX30.pins ho31 ho33.src (by first | omega | (rw [List.nil_append]; omega) | (rw [List.length_nil]; omega) | (rw [List.length_append]; omega) | (simp; done) | (simp; omega) | (simp only [List.length_cons, List.length_nil]; omega) | (simp only [List.length_append, List.length_cons, List.length_nil]; omega)) (by first | omega | (rw [List.nil_append]; omega) | (rw [List.length_nil]; omega) | (rw [List.length_append]; omega) | (simp; done) | (simp; omega) | (simp only [List.length_cons, List.length_nil]; omega) | (simp only [List.length_append, List.length_cons, List.length_nil]; omega)) (hX30.size) (fun u34 w35 ho36 hp37 hg38 hw39 => ?_))
 have hX40 := hX30.write hp37 hg38 ((lo_own ho31))
 have hm43 : (os ++ ([t.extract (max 0 ((f9 : Int) - 1)).toNat (min (t.size : Int) ((e9 : Int) + 1)).toNat])).length = os.length + 1 := List.length_append
 refine qd rfl rfl rfl (r_assign (v := u34) rfl) (qe (s_then (c_reg ?_)))
 refine qd rfl rfl rfl (r_move (v := (.int .i64 (e9 : Int))) rfl) (qd rfl rfl rfl (r_assign (v := (.int .i64 (e9 : Int))) rfl) (qe (s_blkN (s_lopN (⟨_, ?_, _, rfl, _, e9, u34, os ++ ([t.extract (max 0 ((f9 : Int) - 1)).toNat (min (t.size : Int) ((e9 : Int) + 1)).toNat]), GL2, (packS (x := 4) (packS (x := 3) (packS (x := 2) (pack1 (x := 0) rfl) rfl) rfl) rfl), rfl, hX40, (Pin.le_trans hlek9 hlek16), (by omega), (by rw [hx1, hx2]; exact run_full hos (Decidable.not_not.1 h15) (hpv (Decidable.not_not.1 h15)) hfe.1 hfe.2 he9 hen), (nohead hen), (by simp; omega), ho36⟩)))))
 omega
 refine qs rfl rfl rfl rfl rfl rfl (qs rfl rfl rfl rfl rfl rfl (qs rfl rfl rfl rfl rfl rfl (qs rfl rfl rfl rfl rfl rfl (qd rfl rfl rfl (r_pickF (v := (.bool false)) rfl rfl) (qe (s_then ?_))))))
 refine c_ifF rfl rfl (wp_exit (s_thenE (s_lopE (s_blkE (s_then (s_seq (c_reg ?_)))))))
 have hen : e9 < t.size → sB t e9 ≠ 46 := fun h => absurd h (by omega)
 have hlt9 := run_lt hfe.1 (Decidable.not_not.1 h15) hen
 have hx1 : (max 0 ((f9 : Int) - 1)).toNat = f9 - 1 := by omega
 have hx2 : (min (t.size : Int) ((e9 : Int) + 1)).toNat = min (e9 + 1) t.size := by omega
 refine qd rfl rfl rfl (r_move (v := ov) rfl) (qd rfl rfl rfl (r_move (v := (.string t)) rfl) (qd rfl rfl rfl (r_move (v := (.int .i64 (f9 : Int))) rfl) (qd rfl rfl rfl (r_sub rfl rfl (by omega)) (qd rfl rfl rfl (r_max rfl rfl) (qd rfl rfl rfl (r_move (v := (.string t)) rfl) (qd rfl rfl rfl (r_lenS Tryz.underlying9 rfl) (qd rfl rfl rfl (r_move (v := (.int .i64 (e9 : Int))) rfl) (qd rfl rfl rfl (r_add rfl rfl (by omega)) (qd rfl rfl rfl (r_min rfl rfl) ?_)))))))))
 have hm44 : (t.extract (max 0 ((f9 : Int) - 1)).toNat (min (t.size : Int) ((e9 : Int) + 1)).toNat).size = min (min (t.size : Int) ((e9 : Int) + 1)).toNat t.size - (max 0 ((f9 : Int) - 1)).toNat := ByteArray.size_extract
 refine qd rfl rfl rfl (r_cutB Tryz.underlying9 rfl rfl rfl (by omega) (by omega) (by omega)) (q1 rfl rfl rfl (o_buildF (E := eStr) (e := 9) [(.string (t.extract (max 0 ((f9 : Int) - 1)).toNat (min (t.size : Int) ((e9 : Int) + 1)).toNat))] [t.extract (max 0 ((f9 : Int) - 1)).toNat (min (t.size : Int) ((e9 : Int) + 1)).toNat] Tryz.underlying22 sz9 zr9 (by exact reps1 (by rfl)) (ones1 (by rfl)) rfl rfl rfl rfl (by decide) hX19.pins (fun u45 w46 ho47 hp48 hl49 hk50 => ?_)))
 have hX51 := hX19.step hp48 hl49
 have ho52 := hw20.below hl49
 have ho54 : Own eStr 9 GL2 w46 w.heap.size u45 ([t.extract (max 0 ((f9 : Int) - 1)).toNat (min (t.size : Int) ((e9 : Int) + 1)).toNat]) := ho47.weaken hX19.size
 refine q1 rfl rfl rfl (o_append (E := eStr) (v := ov) (u := u45) 16 Tryz.underlying22 ap9 (by decide) rfl rfl hX51.pins ho52 ho54.src (by first | omega | (rw [List.nil_append]; omega) | (rw [List.length_nil]; omega) | (rw [List.length_append]; omega) | (simp; done) | (simp; omega) | (simp only [List.length_cons, List.length_nil]; omega) | (simp only [List.length_append, List.length_cons, List.length_nil]; omega)) (by first | omega | (rw [List.nil_append]; omega) | (rw [List.length_nil]; omega) | (rw [List.length_append]; omega) | (simp; done) | (simp; omega) | (simp only [List.length_cons, List.length_nil]; omega) | (simp only [List.length_append, List.length_cons, List.length_nil]; omega)) (hX51.size) (fun u55 w56 ho57 hp58 hg59 hw60 => ?_))
 have hX61 := hX51.write hp58 hg59 ((lo_own ho52))
 have hm64 : (os ++ ([t.extract (max 0 ((f9 : Int) - 1)).toNat (min (t.size : Int) ((e9 : Int) + 1)).toNat])).length = os.length + 1 := List.length_append
 refine qd rfl rfl rfl (r_assign (v := u55) rfl) (qe (s_then (c_reg ?_)))
 refine qd rfl rfl rfl (r_move (v := (.int .i64 (e9 : Int))) rfl) (qd rfl rfl rfl (r_assign (v := (.int .i64 (e9 : Int))) rfl) (qe (s_blkN (s_lopN (⟨_, ?_, _, rfl, _, e9, u55, os ++ ([t.extract (max 0 ((f9 : Int) - 1)).toNat (min (t.size : Int) ((e9 : Int) + 1)).toNat]), GL2, (packS (x := 4) (packS (x := 3) (packS (x := 2) (pack1 (x := 0) rfl) rfl) rfl) rfl), rfl, hX61, (Pin.le_trans hlek9 hlek16), (by omega), (by rw [hx1, hx2]; exact run_full hos (Decidable.not_not.1 h15) (hpv (Decidable.not_not.1 h15)) hfe.1 hfe.2 he9 hen), (nohead hen), (by simp; omega), ho57⟩)))))
 omega
 refine wp_exit (s_thenE (s_lopE (s_blkE (s_then (s_seq (c_reg ?_))))))
 refine qd rfl rfl rfl (r_move (v := ov) rfl) (qd rfl rfl rfl (r_assign (v := ov) rfl) (qe (s_then ?_)))
 refine wp_ret (s_ret (c_ret1 (v := ov) rfl rfl rfl ?_))
 obtain ⟨G65, hle68, hX67, hr66, hf69⟩ := hw13.sealed hX12
 have hfn : f9 = t.size := by omega
 subst hfn
 exact ⟨_, _, rfl, (by unfold runsM; rw [← hos]; exact hr66), hX67⟩

theorem stripParts_spec {w : World} {G : Pin} {kd : Int} {t : ByteArray} (hP : Pins G w) (hs : t.size ≤ 1000) (hM : MxG 0 G) (hkd : 0 ≤ kd ∧ kd ≤ 3) :
  Calls Tryz.prog 54 [(.int .i64 kd), (.string t)].toArray w fun e w' => ∃ (u : Value) (G' : Pin), e = .returned u ∧ RSl eStr G' u (spA kd t) ∧ Ext noS G w G' w' := by
 refine s_enter (n := 38) Tryz.func54 Tryz.ntmps54 rfl rfl ?_
 have hX0 : Ext noS G w G w := Ext.refl hP
 have hrl := raw_len (k := kd) (t := t)
 refine s_seq (c_reg ?_)
 refine qd rfl rfl rfl (r_assign (v := (.slice none 0 0)) rfl) (qe (s_then (s_seq (c_reg ?_))))
 refine qd rfl rfl rfl (r_move (v := (.string t)) rfl) (q1 rfl rfl rfl (o_buildF (E := eStr) (e := 9) [(.string t)] [t] Tryz.underlying22 sz9 zr9 (by exact reps1 (by rfl)) (ones1 (by rfl)) rfl rfl rfl rfl (by decide) hX0.pins (fun u1 w2 ho3 hp4 hl5 hk6 => ?_)))
 have hX7 := hX0.step hp4 hl5
 have ho8 : Own eStr 9 G w2 w.heap.size u1 ([t]) := ho3.weaken hX0.size
 refine qd rfl rfl rfl (r_assign (v := u1) rfl) (qe (s_then (s_seq (s_seq (c_reg ?_)))))
 refine qd rfl rfl rfl (r_move (v := (.int .i64 kd)) rfl) (qe (s_then ?_))
 refine s_blk (s_seq (c_reg ?_))
 refine qd rfl rfl rfl (r_eql rfl rfl) (qd rfl rfl rfl (r_assign (v := (.bool (decide ((kd : Int) = 1)))) rfl) (qe (s_then ?_)))
 refine c_ifd (p := (kd : Int) = 1) rfl rfl (fun h9 => ?_) (fun h9 => ?_)
 refine c_reg (qd rfl rfl rfl (r_move (v := (.string t)) rfl) (q1 rfl rfl rfl (o_call (vs := [(.string t), (.string (⟨#[46]⟩ : ByteArray))]) Tryz.func22 nm22 rfl rfl rfl ?_)))
 refine Calls.mono (splitP_spec (s := t) (c := 46) hX7.pins hM (by omega)) ?_
 rintro _ w12 ⟨u10, G11, rfl, ho13, hx14⟩
 refine ⟨_, rfl, ?_⟩
 have hX15 := hX7.tr hx14
 have ho16 := ho8.ext hx14
 have ha17 : Apart u10.ownBlock u1.ownBlock := made_ne_own ho13.lt ho8.lt
 have ho18 : Own eStr 9 G11 w12 w.heap.size u10 (partsB 46 t) := ho13.weaken hX7.size
 have hm19 := parts_len 46 t
 have hm20 := parts_ne 46 t
 refine qd rfl rfl rfl (r_assign (v := u10) rfl) (qe (s_blkN (s_then (s_seq (c_reg ?_)))))
 refine q1 rfl rfl rfl (o_build0 (E := eStr) (e := 9) Tryz.underlying22 sz9 hX15.pins (fun u21 w22 ho23 hp24 hl25 hk26 => ?_))
 have hX27 := hX15.step hp24 hl25
 have ho28 := ho16.below hl25
 have ho29 := ho18.below hl25
 have ha30 : Apart u21.ownBlock u1.ownBlock := new_ne_own hk26 ho16.lt
 have ha31 : Apart u21.ownBlock u10.ownBlock := new_ne_own hk26 ho18.lt
 have ho32 : Own eStr 9 G11 w22 w.heap.size u21 ([]) := ho23.weaken hX15.size
 refine qd rfl rfl rfl (r_assign (v := u21) rfl) (qe (s_then (s_seq (s_seq (c_reg ?_)))))
 obtain ⟨G33, hle36, hX35, hr34, hf37⟩ := ho29.sealed hX27
 have ho38 := ho28.moreO hle36 hf37 ha17.symm
 have ho39 := ho32.moreO hle36 hf37 ha31
 refine qd rfl rfl rfl (r_move (v := u10) rfl) (qd rfl rfl rfl (run_len Tryz.underlying22 (v := u10) rfl hr34) (qd rfl rfl rfl (r_move (v := (.int .i64 0)) rfl) (qe (s_then ?_))))
 refine s_blk ?_
 have hr40 : RSl eStr G33 u10 (rawK kd t) := by rw [raw_1 h9]; exact hr34
 have hle9 : (rawK kd t).length = (partsB 46 t).length := congrArg List.length (raw_1 h9)
 refine s_loop (fun (k : Nat) (en : Nat → Value) (W : World) => ∃ (env1 : Nat → Value) (j : Nat) (ov : Value) (os : List ByteArray) (GL1 : Pin), en = (upd (upd (upd (upd (upd (upd env1 0 (.int .i64 kd)) 4 (.slice none 0 0)) 6 ov) 22 u10) 23 (.int .i64 ((partsB 46 t).length : Int))) 24 (.int .i64 (j : Int))) ∧ k = (rawK kd t).length - j ∧ Ext noS G w GL1 W ∧ Pin.le G33 GL1 ∧ (j ≤ (rawK kd t).length) ∧ (os = ((rawK kd t).take j).filter fun x => !ovB kd x) ∧ (os.length ≤ j) ∧ (Own eStr 9 GL1 W w.heap.size ov (os)) ∧ (Own eStr 9 GL1 W w.heap.size u1 ([t])) ∧ (Apart ov.ownBlock u1.ownBlock)) _ ⟨_, 0, u21, [], G33, (packS (x := 24) (packS (x := 23) (packS (x := 22) (packS (x := 6) (packS (x := 4) (pack1 (x := 0) rfl) rfl) rfl) rfl) rfl) rfl), rfl, hX35, Pin.le_refl _, Nat.zero_le _, rfl, Nat.le_refl _, ho39, ho38, ha30⟩ ?_
 rintro k41 _ w42 ⟨env1, j, ov, os, GL1, rfl, hk43, hX44, hlek41, hj, hos, hol, hw45, hw46, ha47⟩
 refine s_seq (c_reg ?_)
 refine qd rfl rfl rfl (r_lss rfl rfl) (qe (s_then (s_seq ?_)))
 refine c_ifd (p := ((j : Int) : Int) < ((partsB 46 t).length : Int)) rfl rfl (fun h48 => ?_) (fun h48 => ?_)
 have hrm := raw_mem _ (getD_mem (d := ByteArray.empty) (show j < (rawK kd t).length by omega))
 refine wp_skip (s_then (s_seq ?_))
 refine s_blk (s_seq (c_reg ?_))
 refine qd rfl rfl rfl (run_idx Tryz.underlying22 sz9 (v := u10) rfl rfl hr40 (by omega) (by omega)) (qd rfl rfl rfl (run_load_str (r := (rawK kd t).getD j ByteArray.empty) rfl ag9 (z := (j : Int)) rfl hr40 (Pins.of_le hX44.pins hlek41) (by omega) (by omega)) (qd rfl rfl rfl (r_assign (v := (.string ((rawK kd t).getD j ByteArray.empty))) rfl) (qe (s_then (s_seq (c_reg ?_))))))
 refine qd rfl rfl rfl (r_move (v := (.int .i64 kd)) rfl) (qd rfl rfl rfl (r_move (v := (.string ((rawK kd t).getD j ByteArray.empty))) rfl) (q1 rfl rfl rfl (o_call (vs := [(.int .i64 kd), (.string ((rawK kd t).getD j ByteArray.empty))]) Tryz.func85 nm85 rfl rfl rfl ?_)))
 refine Calls.mono (isOver_spec (kd := kd) (t := ((rawK kd t).getD j ByteArray.empty)) hX44.pins (by omega)) ?_
 rintro _ w50 ⟨G49, rfl, hx51⟩
 refine ⟨_, rfl, ?_⟩
 have hX52 := hX44.tr hx51
 have ho53 := hw45.ext hx51
 have ho54 := hw46.ext hx51
 refine qd rfl rfl rfl (r_not rfl) (qe (s_then ?_))
 refine c_ifn rfl rfl (fun h55 => ?_) (fun h55 => ?_)
 refine wp_skip (s_blkN (s_then (c_reg ?_)))
 refine qd rfl rfl rfl (r_add rfl rfl (by omega)) (qd rfl rfl rfl (r_move (v := (.int .i64 ((j : Int) + 1))) rfl) (qe (s_lopN (⟨_, ?_, _, rfl, _, j + 1, ov, os, G49, (packS (x := 24) (packS (x := 23) (packS (x := 22) (packS (x := 6) (packS (x := 4) (pack1 (x := 0) rfl) rfl) rfl) rfl) rfl) rfl), rfl, hX52, (Pin.le_trans hlek41 hx51.le), (by omega), (fil_n (by omega) hos h55), (by omega), ho53, ho54, ha47⟩))))
 omega
 refine c_reg (qd rfl rfl rfl (r_move (v := ov) rfl) (qd rfl rfl rfl (r_move (v := (.string ((rawK kd t).getD j ByteArray.empty))) rfl) (q1 rfl rfl rfl (o_buildF (E := eStr) (e := 9) [(.string ((rawK kd t).getD j ByteArray.empty))] [(rawK kd t).getD j ByteArray.empty] Tryz.underlying22 sz9 zr9 (by exact reps1 (by rfl)) (ones1 (by rfl)) rfl rfl rfl rfl (by decide) hX52.pins (fun u56 w57 ho58 hp59 hl60 hk61 => ?_)))))
 have hX62 := hX52.step hp59 hl60
 have ho63 := ho53.below hl60
 have ho64 := ho54.below hl60
 have ho67 : Own eStr 9 G49 w57 w.heap.size u56 ([(rawK kd t).getD j ByteArray.empty]) := ho58.weaken hX52.size
 refine q1 rfl rfl rfl (o_append (E := eStr) (v := ov) (u := u56) 16 Tryz.underlying22 ap9 (by decide) rfl rfl hX62.pins ho63 ho67.src (by first | omega | (rw [List.nil_append]; omega) | (rw [List.length_nil]; omega) | (rw [List.length_append]; omega) | (simp; done) | (simp; omega) | (simp only [List.length_cons, List.length_nil]; omega) | (simp only [List.length_append, List.length_cons, List.length_nil]; omega)) (by first | omega | (rw [List.nil_append]; omega) | (rw [List.length_nil]; omega) | (rw [List.length_append]; omega) | (simp; done) | (simp; omega) | (simp only [List.length_cons, List.length_nil]; omega) | (simp only [List.length_append, List.length_cons, List.length_nil]; omega)) (hX62.size) (fun u68 w69 ho70 hp71 hg72 hw73 => ?_))
 have hX74 := hX62.write hp71 hg72 ((lo_own ho63))
 have ho75 := ho64.keptA hg72 ha47.symm
 have ha77 : Apart u1.ownBlock u68.ownBlock := app_ne_own ha47.symm hw73 ho64.lt
 have hm79 : (os ++ ([(rawK kd t).getD j ByteArray.empty])).length = os.length + 1 := List.length_append
 refine qd rfl rfl rfl (r_assign (v := u68) rfl) (qe (s_blkN (s_then (c_reg ?_))))
 refine qd rfl rfl rfl (r_add rfl rfl (by omega)) (qd rfl rfl rfl (r_move (v := (.int .i64 ((j : Int) + 1))) rfl) (qe (s_lopN (⟨_, ?_, _, rfl, _, j + 1, u68, os ++ ([(rawK kd t).getD j ByteArray.empty]), G49, (packS (x := 24) (packS (x := 23) (packS (x := 22) (packS (x := 6) (packS (x := 4) (pack1 (x := 0) rfl) rfl) rfl) rfl) rfl) rfl), rfl, hX74, (Pin.le_trans hlek41 hx51.le), (by omega), (fil_y (by omega) hos h55), (by simp; omega), ho70, ho75, ha77.symm⟩))))
 omega
 refine wp_exit (s_thenE (s_lopE (s_blkE (s_then (s_seq (c_reg ?_))))))
 refine qd rfl rfl rfl (r_move (v := ov) rfl) (qd rfl rfl rfl (r_assign (v := ov) rfl) (qe (s_then ?_)))
 refine wp_ret (s_ret (c_ret1 (v := ov) rfl rfl rfl ?_))
 obtain ⟨G80, hle83, hX82, hr81, hf84⟩ := hw45.sealed hX44
 exact ⟨_, _, rfl, (by unfold spA; rw [← fil_done (by omega) hos]; exact hr81), hX82⟩
 refine s_seq (s_seq (c_reg ?_))
 refine qd rfl rfl rfl (r_eql rfl rfl) (qd rfl rfl rfl (r_assign (v := (.bool (decide ((kd : Int) = 2)))) rfl) (qe (s_then ?_)))
 refine c_ifd (p := (kd : Int) = 2) rfl rfl (fun h86 => ?_) (fun h86 => ?_)
 refine wp_skip (s_then (c_ifd (p := (kd : Int) = 2) rfl rfl (fun _ => ?_) (fun h => absurd h86 h)))
 refine c_reg (qd rfl rfl rfl (r_move (v := (.string t)) rfl) (q1 rfl rfl rfl (o_call (vs := [(.string t)]) Tryz.func84 nm84 rfl rfl rfl ?_)))
 refine Calls.mono (emptyRuns_spec (t := t) hX7.pins (by omega)) ?_
 rintro _ w90 ⟨u88, G89, rfl, hr91, hx92⟩
 refine ⟨_, rfl, ?_⟩
 have hX93 := hX7.tr hx92
 have ho94 := ho8.ext hx92
 refine qd rfl rfl rfl (r_assign (v := u88) rfl) (qe (s_blkN (s_then (s_seq (c_reg ?_)))))
 refine q1 rfl rfl rfl (o_build0 (E := eStr) (e := 9) Tryz.underlying22 sz9 hX93.pins (fun u95 w96 ho97 hp98 hl99 hk100 => ?_))
 have hX101 := hX93.step hp98 hl99
 have ho102 := ho94.below hl99
 have ha103 : Apart u95.ownBlock u1.ownBlock := new_ne_own hk100 ho94.lt
 have ho104 : Own eStr 9 G89 w96 w.heap.size u95 ([]) := ho97.weaken hX93.size
 refine qd rfl rfl rfl (r_assign (v := u95) rfl) (qe (s_then (s_seq (s_seq (c_reg ?_)))))
 refine qd rfl rfl rfl (r_move (v := u88) rfl) (qd rfl rfl rfl (run_len Tryz.underlying22 (v := u88) rfl hr91) (qd rfl rfl rfl (r_move (v := (.int .i64 0)) rfl) (qe (s_then ?_))))
 refine s_blk ?_
 have hr105 : RSl eStr G89 u88 (rawK kd t) := by rw [raw_2 (by omega) (by omega)]; exact hr91
 have hle9 : (rawK kd t).length = (runsM t).length := congrArg List.length (raw_2 (by omega) (by omega))
 refine s_loop (fun (k : Nat) (en : Nat → Value) (W : World) => ∃ (env1 : Nat → Value) (j : Nat) (ov : Value) (os : List ByteArray) (GL1 : Pin), en = (upd (upd (upd (upd (upd (upd env1 0 (.int .i64 kd)) 4 (.slice none 0 0)) 6 ov) 22 u88) 23 (.int .i64 ((runsM t).length : Int))) 24 (.int .i64 (j : Int))) ∧ k = (rawK kd t).length - j ∧ Ext noS G w GL1 W ∧ Pin.le G89 GL1 ∧ (j ≤ (rawK kd t).length) ∧ (os = ((rawK kd t).take j).filter fun x => !ovB kd x) ∧ (os.length ≤ j) ∧ (Own eStr 9 GL1 W w.heap.size ov (os)) ∧ (Own eStr 9 GL1 W w.heap.size u1 ([t])) ∧ (Apart ov.ownBlock u1.ownBlock)) _ ⟨_, 0, u95, [], G89, (packS (x := 24) (packS (x := 23) (packS (x := 22) (packS (x := 6) (packS (x := 4) (pack1 (x := 0) rfl) rfl) rfl) rfl) rfl) rfl), rfl, hX101, Pin.le_refl _, Nat.zero_le _, rfl, Nat.le_refl _, ho104, ho102, ha103⟩ ?_
 rintro k106 _ w107 ⟨env1, j, ov, os, GL1, rfl, hk108, hX109, hlek106, hj, hos, hol, hw110, hw111, ha112⟩
 refine s_seq (c_reg ?_)
 refine qd rfl rfl rfl (r_lss rfl rfl) (qe (s_then (s_seq ?_)))
 refine c_ifd (p := ((j : Int) : Int) < ((runsM t).length : Int)) rfl rfl (fun h113 => ?_) (fun h113 => ?_)
 have hrm := raw_mem _ (getD_mem (d := ByteArray.empty) (show j < (rawK kd t).length by omega))
 refine wp_skip (s_then (s_seq ?_))
 refine s_blk (s_seq (c_reg ?_))
 refine qd rfl rfl rfl (run_idx Tryz.underlying22 sz9 (v := u88) rfl rfl hr105 (by omega) (by omega)) (qd rfl rfl rfl (run_load_str (r := (rawK kd t).getD j ByteArray.empty) rfl ag9 (z := (j : Int)) rfl hr105 (Pins.of_le hX109.pins hlek106) (by omega) (by omega)) (qd rfl rfl rfl (r_assign (v := (.string ((rawK kd t).getD j ByteArray.empty))) rfl) (qe (s_then (s_seq (c_reg ?_))))))
 refine qd rfl rfl rfl (r_move (v := (.int .i64 kd)) rfl) (qd rfl rfl rfl (r_move (v := (.string ((rawK kd t).getD j ByteArray.empty))) rfl) (q1 rfl rfl rfl (o_call (vs := [(.int .i64 kd), (.string ((rawK kd t).getD j ByteArray.empty))]) Tryz.func85 nm85 rfl rfl rfl ?_)))
 refine Calls.mono (isOver_spec (kd := kd) (t := ((rawK kd t).getD j ByteArray.empty)) hX109.pins (by omega)) ?_
 rintro _ w115 ⟨G114, rfl, hx116⟩
 refine ⟨_, rfl, ?_⟩
 have hX117 := hX109.tr hx116
 have ho118 := hw110.ext hx116
 have ho119 := hw111.ext hx116
 refine qd rfl rfl rfl (r_not rfl) (qe (s_then ?_))
 refine c_ifn rfl rfl (fun h120 => ?_) (fun h120 => ?_)
 refine wp_skip (s_blkN (s_then (c_reg ?_)))
 refine qd rfl rfl rfl (r_add rfl rfl (by omega)) (qd rfl rfl rfl (r_move (v := (.int .i64 ((j : Int) + 1))) rfl) (qe (s_lopN (⟨_, ?_, _, rfl, _, j + 1, ov, os, G114, (packS (x := 24) (packS (x := 23) (packS (x := 22) (packS (x := 6) (packS (x := 4) (pack1 (x := 0) rfl) rfl) rfl) rfl) rfl) rfl), rfl, hX117, (Pin.le_trans hlek106 hx116.le), (by omega), (fil_n (by omega) hos h120), (by omega), ho118, ho119, ha112⟩))))
 omega
 refine c_reg (qd rfl rfl rfl (r_move (v := ov) rfl) (qd rfl rfl rfl (r_move (v := (.string ((rawK kd t).getD j ByteArray.empty))) rfl) (q1 rfl rfl rfl (o_buildF (E := eStr) (e := 9) [(.string ((rawK kd t).getD j ByteArray.empty))] [(rawK kd t).getD j ByteArray.empty] Tryz.underlying22 sz9 zr9 (by exact reps1 (by rfl)) (ones1 (by rfl)) rfl rfl rfl rfl (by decide) hX117.pins (fun u121 w122 ho123 hp124 hl125 hk126 => ?_)))))
 have hX127 := hX117.step hp124 hl125
 have ho128 := ho118.below hl125
 have ho129 := ho119.below hl125
 have ho132 : Own eStr 9 G114 w122 w.heap.size u121 ([(rawK kd t).getD j ByteArray.empty]) := ho123.weaken hX117.size
 refine q1 rfl rfl rfl (o_append (E := eStr) (v := ov) (u := u121) 16 Tryz.underlying22 ap9 (by decide) rfl rfl hX127.pins ho128 ho132.src (by first | omega | (rw [List.nil_append]; omega) | (rw [List.length_nil]; omega) | (rw [List.length_append]; omega) | (simp; done) | (simp; omega) | (simp only [List.length_cons, List.length_nil]; omega) | (simp only [List.length_append, List.length_cons, List.length_nil]; omega)) (by first | omega | (rw [List.nil_append]; omega) | (rw [List.length_nil]; omega) | (rw [List.length_append]; omega) | (simp; done) | (simp; omega) | (simp only [List.length_cons, List.length_nil]; omega) | (simp only [List.length_append, List.length_cons, List.length_nil]; omega)) (hX127.size) (fun u133 w134 ho135 hp136 hg137 hw138 => ?_))
 have hX139 := hX127.write hp136 hg137 ((lo_own ho128))
 have ho140 := ho129.keptA hg137 ha112.symm
 have ha142 : Apart u1.ownBlock u133.ownBlock := app_ne_own ha112.symm hw138 ho129.lt
 have hm144 : (os ++ ([(rawK kd t).getD j ByteArray.empty])).length = os.length + 1 := List.length_append
 refine qd rfl rfl rfl (r_assign (v := u133) rfl) (qe (s_blkN (s_then (c_reg ?_))))
 refine qd rfl rfl rfl (r_add rfl rfl (by omega)) (qd rfl rfl rfl (r_move (v := (.int .i64 ((j : Int) + 1))) rfl) (qe (s_lopN (⟨_, ?_, _, rfl, _, j + 1, u133, os ++ ([(rawK kd t).getD j ByteArray.empty]), G114, (packS (x := 24) (packS (x := 23) (packS (x := 22) (packS (x := 6) (packS (x := 4) (pack1 (x := 0) rfl) rfl) rfl) rfl) rfl) rfl), rfl, hX139, (Pin.le_trans hlek106 hx116.le), (by omega), (fil_y (by omega) hos h120), (by simp; omega), ho135, ho140, ha142.symm⟩))))
 omega
 refine wp_exit (s_thenE (s_lopE (s_blkE (s_then (s_seq (c_reg ?_))))))
 refine qd rfl rfl rfl (r_move (v := ov) rfl) (qd rfl rfl rfl (r_assign (v := ov) rfl) (qe (s_then ?_)))
 refine wp_ret (s_ret (c_ret1 (v := ov) rfl rfl rfl ?_))
 obtain ⟨G145, hle148, hX147, hr146, hf149⟩ := hw110.sealed hX109
 exact ⟨_, _, rfl, (by unfold spA; rw [← fil_done (by omega) hos]; exact hr146), hX147⟩
 refine c_reg (qd rfl rfl rfl (r_eql rfl rfl) (qd rfl rfl rfl (r_assign (v := (.bool (decide ((kd : Int) = 3)))) rfl) (qe (s_then ?_))))
 refine c_ifd (p := (kd : Int) = 3) rfl rfl (fun h151 => ?_) (fun h151 => ?_)
 refine c_reg (qd rfl rfl rfl (r_move (v := (.string t)) rfl) (q1 rfl rfl rfl (o_call (vs := [(.string t)]) Tryz.func84 nm84 rfl rfl rfl ?_)))
 refine Calls.mono (emptyRuns_spec (t := t) hX7.pins (by omega)) ?_
 rintro _ w154 ⟨u152, G153, rfl, hr155, hx156⟩
 refine ⟨_, rfl, ?_⟩
 have hX157 := hX7.tr hx156
 have ho158 := ho8.ext hx156
 refine qd rfl rfl rfl (r_assign (v := u152) rfl) (qe (s_blkN (s_then (s_seq (c_reg ?_)))))
 refine q1 rfl rfl rfl (o_build0 (E := eStr) (e := 9) Tryz.underlying22 sz9 hX157.pins (fun u159 w160 ho161 hp162 hl163 hk164 => ?_))
 have hX165 := hX157.step hp162 hl163
 have ho166 := ho158.below hl163
 have ha167 : Apart u159.ownBlock u1.ownBlock := new_ne_own hk164 ho158.lt
 have ho168 : Own eStr 9 G153 w160 w.heap.size u159 ([]) := ho161.weaken hX157.size
 refine qd rfl rfl rfl (r_assign (v := u159) rfl) (qe (s_then (s_seq (s_seq (c_reg ?_)))))
 refine qd rfl rfl rfl (r_move (v := u152) rfl) (qd rfl rfl rfl (run_len Tryz.underlying22 (v := u152) rfl hr155) (qd rfl rfl rfl (r_move (v := (.int .i64 0)) rfl) (qe (s_then ?_))))
 refine s_blk ?_
 have hr169 : RSl eStr G153 u152 (rawK kd t) := by rw [raw_2 (by omega) (by omega)]; exact hr155
 have hle9 : (rawK kd t).length = (runsM t).length := congrArg List.length (raw_2 (by omega) (by omega))
 refine s_loop (fun (k : Nat) (en : Nat → Value) (W : World) => ∃ (env1 : Nat → Value) (j : Nat) (ov : Value) (os : List ByteArray) (GL1 : Pin), en = (upd (upd (upd (upd (upd (upd env1 0 (.int .i64 kd)) 4 (.slice none 0 0)) 6 ov) 22 u152) 23 (.int .i64 ((runsM t).length : Int))) 24 (.int .i64 (j : Int))) ∧ k = (rawK kd t).length - j ∧ Ext noS G w GL1 W ∧ Pin.le G153 GL1 ∧ (j ≤ (rawK kd t).length) ∧ (os = ((rawK kd t).take j).filter fun x => !ovB kd x) ∧ (os.length ≤ j) ∧ (Own eStr 9 GL1 W w.heap.size ov (os)) ∧ (Own eStr 9 GL1 W w.heap.size u1 ([t])) ∧ (Apart ov.ownBlock u1.ownBlock)) _ ⟨_, 0, u159, [], G153, (packS (x := 24) (packS (x := 23) (packS (x := 22) (packS (x := 6) (packS (x := 4) (pack1 (x := 0) rfl) rfl) rfl) rfl) rfl) rfl), rfl, hX165, Pin.le_refl _, Nat.zero_le _, rfl, Nat.le_refl _, ho168, ho166, ha167⟩ ?_
 rintro k170 _ w171 ⟨env1, j, ov, os, GL1, rfl, hk172, hX173, hlek170, hj, hos, hol, hw174, hw175, ha176⟩
 refine s_seq (c_reg ?_)
 refine qd rfl rfl rfl (r_lss rfl rfl) (qe (s_then (s_seq ?_)))
 refine c_ifd (p := ((j : Int) : Int) < ((runsM t).length : Int)) rfl rfl (fun h177 => ?_) (fun h177 => ?_)
 have hrm := raw_mem _ (getD_mem (d := ByteArray.empty) (show j < (rawK kd t).length by omega))
 refine wp_skip (s_then (s_seq ?_))
 refine s_blk (s_seq (c_reg ?_))
 refine qd rfl rfl rfl (run_idx Tryz.underlying22 sz9 (v := u152) rfl rfl hr169 (by omega) (by omega)) (qd rfl rfl rfl (run_load_str (r := (rawK kd t).getD j ByteArray.empty) rfl ag9 (z := (j : Int)) rfl hr169 (Pins.of_le hX173.pins hlek170) (by omega) (by omega)) (qd rfl rfl rfl (r_assign (v := (.string ((rawK kd t).getD j ByteArray.empty))) rfl) (qe (s_then (s_seq (c_reg ?_))))))
 refine qd rfl rfl rfl (r_move (v := (.int .i64 kd)) rfl) (qd rfl rfl rfl (r_move (v := (.string ((rawK kd t).getD j ByteArray.empty))) rfl) (q1 rfl rfl rfl (o_call (vs := [(.int .i64 kd), (.string ((rawK kd t).getD j ByteArray.empty))]) Tryz.func85 nm85 rfl rfl rfl ?_)))
 refine Calls.mono (isOver_spec (kd := kd) (t := ((rawK kd t).getD j ByteArray.empty)) hX173.pins (by omega)) ?_
 rintro _ w179 ⟨G178, rfl, hx180⟩
 refine ⟨_, rfl, ?_⟩
 have hX181 := hX173.tr hx180
 have ho182 := hw174.ext hx180
 have ho183 := hw175.ext hx180
 refine qd rfl rfl rfl (r_not rfl) (qe (s_then ?_))
 refine c_ifn rfl rfl (fun h184 => ?_) (fun h184 => ?_)
 refine wp_skip (s_blkN (s_then (c_reg ?_)))
 refine qd rfl rfl rfl (r_add rfl rfl (by omega)) (qd rfl rfl rfl (r_move (v := (.int .i64 ((j : Int) + 1))) rfl) (qe (s_lopN (⟨_, ?_, _, rfl, _, j + 1, ov, os, G178, (packS (x := 24) (packS (x := 23) (packS (x := 22) (packS (x := 6) (packS (x := 4) (pack1 (x := 0) rfl) rfl) rfl) rfl) rfl) rfl), rfl, hX181, (Pin.le_trans hlek170 hx180.le), (by omega), (fil_n (by omega) hos h184), (by omega), ho182, ho183, ha176⟩))))
 omega
 refine c_reg (qd rfl rfl rfl (r_move (v := ov) rfl) (qd rfl rfl rfl (r_move (v := (.string ((rawK kd t).getD j ByteArray.empty))) rfl) (q1 rfl rfl rfl (o_buildF (E := eStr) (e := 9) [(.string ((rawK kd t).getD j ByteArray.empty))] [(rawK kd t).getD j ByteArray.empty] Tryz.underlying22 sz9 zr9 (by exact reps1 (by rfl)) (ones1 (by rfl)) rfl rfl rfl rfl (by decide) hX181.pins (fun u185 w186 ho187 hp188 hl189 hk190 => ?_)))))
 have hX191 := hX181.step hp188 hl189
 have ho192 := ho182.below hl189
 have ho193 := ho183.below hl189
 have ho196 : Own eStr 9 G178 w186 w.heap.size u185 ([(rawK kd t).getD j ByteArray.empty]) := ho187.weaken hX181.size
 refine q1 rfl rfl rfl (o_append (E := eStr) (v := ov) (u := u185) 16 Tryz.underlying22 ap9 (by decide) rfl rfl hX191.pins ho192 ho196.src (by first | omega | (rw [List.nil_append]; omega) | (rw [List.length_nil]; omega) | (rw [List.length_append]; omega) | (simp; done) | (simp; omega) | (simp only [List.length_cons, List.length_nil]; omega) | (simp only [List.length_append, List.length_cons, List.length_nil]; omega)) (by first | omega | (rw [List.nil_append]; omega) | (rw [List.length_nil]; omega) | (rw [List.length_append]; omega) | (simp; done) | (simp; omega) | (simp only [List.length_cons, List.length_nil]; omega) | (simp only [List.length_append, List.length_cons, List.length_nil]; omega)) (hX191.size) (fun u197 w198 ho199 hp200 hg201 hw202 => ?_))
 have hX203 := hX191.write hp200 hg201 ((lo_own ho192))
 have ho204 := ho193.keptA hg201 ha176.symm
 have ha206 : Apart u1.ownBlock u197.ownBlock := app_ne_own ha176.symm hw202 ho193.lt
 have hm208 : (os ++ ([(rawK kd t).getD j ByteArray.empty])).length = os.length + 1 := List.length_append
 refine qd rfl rfl rfl (r_assign (v := u197) rfl) (qe (s_blkN (s_then (c_reg ?_))))
 refine qd rfl rfl rfl (r_add rfl rfl (by omega)) (qd rfl rfl rfl (r_move (v := (.int .i64 ((j : Int) + 1))) rfl) (qe (s_lopN (⟨_, ?_, _, rfl, _, j + 1, u197, os ++ ([(rawK kd t).getD j ByteArray.empty]), G178, (packS (x := 24) (packS (x := 23) (packS (x := 22) (packS (x := 6) (packS (x := 4) (pack1 (x := 0) rfl) rfl) rfl) rfl) rfl) rfl), rfl, hX203, (Pin.le_trans hlek170 hx180.le), (by omega), (fil_y (by omega) hos h184), (by simp; omega), ho199, ho204, ha206.symm⟩))))
 omega
 refine wp_exit (s_thenE (s_lopE (s_blkE (s_then (s_seq (c_reg ?_))))))
 refine qd rfl rfl rfl (r_move (v := ov) rfl) (qd rfl rfl rfl (r_assign (v := ov) rfl) (qe (s_then ?_)))
 refine wp_ret (s_ret (c_ret1 (v := ov) rfl rfl rfl ?_))
 obtain ⟨G209, hle212, hX211, hr210, hf213⟩ := hw174.sealed hX173
 exact ⟨_, _, rfl, (by unfold spA; rw [← fil_done (by omega) hos]; exact hr210), hX211⟩
 refine wp_skip (s_blkN (s_then (s_seq (c_reg ?_))))
 refine q1 rfl rfl rfl (o_build0 (E := eStr) (e := 9) Tryz.underlying22 sz9 hX7.pins (fun u215 w216 ho217 hp218 hl219 hk220 => ?_))
 have hX221 := hX7.step hp218 hl219
 have ho222 := ho8.below hl219
 have ha223 : Apart u215.ownBlock u1.ownBlock := new_ne_own hk220 ho8.lt
 have ho224 : Own eStr 9 G w216 w.heap.size u215 ([]) := ho217.weaken hX7.size
 refine qd rfl rfl rfl (r_assign (v := u215) rfl) (qe (s_then (s_seq (s_seq (c_reg ?_)))))
 obtain ⟨G225, hle228, hX227, hr226, hf229⟩ := ho222.sealed hX221
 have ho230 := ho224.moreO hle228 hf229 ha223
 refine qd rfl rfl rfl (r_move (v := u1) rfl) (qd rfl rfl rfl (run_len Tryz.underlying22 (v := u1) rfl hr226) (qd rfl rfl rfl (r_move (v := (.int .i64 0)) rfl) (qe (s_then ?_))))
 refine s_blk ?_
 have hr231 : RSl eStr G225 u1 (rawK kd t) := by rw [raw_0 (by omega)]; exact hr226
 have hle9 : (rawK kd t).length = ([t]).length := congrArg List.length (raw_0 (by omega))
 refine s_loop (fun (k : Nat) (en : Nat → Value) (W : World) => ∃ (env1 : Nat → Value) (j : Nat) (ov : Value) (os : List ByteArray) (GL1 : Pin), en = (upd (upd (upd (upd (upd (upd env1 0 (.int .i64 kd)) 4 (.slice none 0 0)) 6 ov) 22 u1) 23 (.int .i64 (([t]).length : Int))) 24 (.int .i64 (j : Int))) ∧ k = (rawK kd t).length - j ∧ Ext noS G w GL1 W ∧ Pin.le G225 GL1 ∧ (j ≤ (rawK kd t).length) ∧ (os = ((rawK kd t).take j).filter fun x => !ovB kd x) ∧ (os.length ≤ j) ∧ (Own eStr 9 GL1 W w.heap.size ov (os))) _ ⟨_, 0, u215, [], G225, (packS (x := 24) (packS (x := 23) (packS (x := 22) (packS (x := 6) (packS (x := 4) (pack1 (x := 0) rfl) rfl) rfl) rfl) rfl) rfl), rfl, hX227, Pin.le_refl _, Nat.zero_le _, rfl, Nat.le_refl _, ho230⟩ ?_
 rintro k232 _ w233 ⟨env1, j, ov, os, GL1, rfl, hk234, hX235, hlek232, hj, hos, hol, hw236⟩
 refine s_seq (c_reg ?_)
 refine qd rfl rfl rfl (r_lss rfl rfl) (qe (s_then (s_seq ?_)))
 refine c_ifd (p := ((j : Int) : Int) < (([t]).length : Int)) rfl rfl (fun h237 => ?_) (fun h237 => ?_)
 have hrm := raw_mem _ (getD_mem (d := ByteArray.empty) (show j < (rawK kd t).length by omega))
 refine wp_skip (s_then (s_seq ?_))
 refine s_blk (s_seq (c_reg ?_))
 refine qd rfl rfl rfl (run_idx Tryz.underlying22 sz9 (v := u1) rfl rfl hr231 (by omega) (by omega)) (qd rfl rfl rfl (run_load_str (r := (rawK kd t).getD j ByteArray.empty) rfl ag9 (z := (j : Int)) rfl hr231 (Pins.of_le hX235.pins hlek232) (by omega) (by omega)) (qd rfl rfl rfl (r_assign (v := (.string ((rawK kd t).getD j ByteArray.empty))) rfl) (qe (s_then (s_seq (c_reg ?_))))))
 refine qd rfl rfl rfl (r_move (v := (.int .i64 kd)) rfl) (qd rfl rfl rfl (r_move (v := (.string ((rawK kd t).getD j ByteArray.empty))) rfl) (q1 rfl rfl rfl (o_call (vs := [(.int .i64 kd), (.string ((rawK kd t).getD j ByteArray.empty))]) Tryz.func85 nm85 rfl rfl rfl ?_)))
 refine Calls.mono (isOver_spec (kd := kd) (t := ((rawK kd t).getD j ByteArray.empty)) hX235.pins (by omega)) ?_
 rintro _ w239 ⟨G238, rfl, hx240⟩
 refine ⟨_, rfl, ?_⟩
 have hX241 := hX235.tr hx240
 have ho242 := hw236.ext hx240
 refine qd rfl rfl rfl (r_not rfl) (qe (s_then ?_))
 refine c_ifn rfl rfl (fun h243 => ?_) (fun h243 => ?_)
 refine wp_skip (s_blkN (s_then (c_reg ?_)))
 refine qd rfl rfl rfl (r_add rfl rfl (by omega)) (qd rfl rfl rfl (r_move (v := (.int .i64 ((j : Int) + 1))) rfl) (qe (s_lopN (⟨_, ?_, _, rfl, _, j + 1, ov, os, G238, (packS (x := 24) (packS (x := 23) (packS (x := 22) (packS (x := 6) (packS (x := 4) (pack1 (x := 0) rfl) rfl) rfl) rfl) rfl) rfl), rfl, hX241, (Pin.le_trans hlek232 hx240.le), (by omega), (fil_n (by omega) hos h243), (by omega), ho242⟩))))
 omega
 refine c_reg (qd rfl rfl rfl (r_move (v := ov) rfl) (qd rfl rfl rfl (r_move (v := (.string ((rawK kd t).getD j ByteArray.empty))) rfl) (q1 rfl rfl rfl (o_buildF (E := eStr) (e := 9) [(.string ((rawK kd t).getD j ByteArray.empty))] [(rawK kd t).getD j ByteArray.empty] Tryz.underlying22 sz9 zr9 (by exact reps1 (by rfl)) (ones1 (by rfl)) rfl rfl rfl rfl (by decide) hX241.pins (fun u244 w245 ho246 hp247 hl248 hk249 => ?_)))))
 have hX250 := hX241.step hp247 hl248
 have ho251 := ho242.below hl248
 have ho253 : Own eStr 9 G238 w245 w.heap.size u244 ([(rawK kd t).getD j ByteArray.empty]) := ho246.weaken hX241.size
 refine q1 rfl rfl rfl (o_append (E := eStr) (v := ov) (u := u244) 16 Tryz.underlying22 ap9 (by decide) rfl rfl hX250.pins ho251 ho253.src (by first | omega | (rw [List.nil_append]; omega) | (rw [List.length_nil]; omega) | (rw [List.length_append]; omega) | (simp; done) | (simp; omega) | (simp only [List.length_cons, List.length_nil]; omega) | (simp only [List.length_append, List.length_cons, List.length_nil]; omega)) (by first | omega | (rw [List.nil_append]; omega) | (rw [List.length_nil]; omega) | (rw [List.length_append]; omega) | (simp; done) | (simp; omega) | (simp only [List.length_cons, List.length_nil]; omega) | (simp only [List.length_append, List.length_cons, List.length_nil]; omega)) (hX250.size) (fun u254 w255 ho256 hp257 hg258 hw259 => ?_))
 have hX260 := hX250.write hp257 hg258 ((lo_own ho251))
 have hm263 : (os ++ ([(rawK kd t).getD j ByteArray.empty])).length = os.length + 1 := List.length_append
 refine qd rfl rfl rfl (r_assign (v := u254) rfl) (qe (s_blkN (s_then (c_reg ?_))))
 refine qd rfl rfl rfl (r_add rfl rfl (by omega)) (qd rfl rfl rfl (r_move (v := (.int .i64 ((j : Int) + 1))) rfl) (qe (s_lopN (⟨_, ?_, _, rfl, _, j + 1, u254, os ++ ([(rawK kd t).getD j ByteArray.empty]), G238, (packS (x := 24) (packS (x := 23) (packS (x := 22) (packS (x := 6) (packS (x := 4) (pack1 (x := 0) rfl) rfl) rfl) rfl) rfl) rfl), rfl, hX260, (Pin.le_trans hlek232 hx240.le), (by omega), (fil_y (by omega) hos h243), (by simp; omega), ho256⟩))))
 omega
 refine wp_exit (s_thenE (s_lopE (s_blkE (s_then (s_seq (c_reg ?_))))))
 refine qd rfl rfl rfl (r_move (v := ov) rfl) (qd rfl rfl rfl (r_assign (v := ov) rfl) (qe (s_then ?_)))
 refine wp_ret (s_ret (c_ret1 (v := ov) rfl rfl rfl ?_))
 obtain ⟨G264, hle267, hX266, hr265, hf268⟩ := hw236.sealed hX235
 exact ⟨_, _, rfl, (by unfold spA; rw [← fil_done (by omega) hos]; exact hr265), hX266⟩

end QS1
end Go.Proofs.YtianphgdbfekdaaGreatDoor

set_option maxRecDepth 20000
set_option maxHeartbeats 2000000
namespace Go.Proofs.YtianphgdbfekdaaGreatDoor
namespace QB1
open Go.RowKit Go.GL Go.Proofs
open RM2







theorem pl56 : (Tryz.prog.underlying 56).bind (placesD Tryz.prog) = some [(0, 1)] := by kernel_rfl








theorem only_spec {w : World} {G : Pin} {v : Value} {rows : List ByteArray} (hP : Pins G w) (hv : RSl eStr G v rows) {u : Value} {M : List (List Bool)} (hu : RSl (eSl eBool) G u M) (g : GbP rows) (hgm : GmP rows M) (hf : ∀ i k, i < rows.length → k < wdS rows → (M.getD i []).getD k false = true → frB rows i k = true) :
  Calls Tryz.prog 81 [(.agg [v].toArray), u].toArray w fun e w' => ∃ (u : Value) (G' : Pin), e = .returned (.agg [u].toArray) ∧ RSl eStr G' u (bdM M) ∧ Ext noS G w G' w' := by
 refine s_enter (n := 47) Tryz.func81 Tryz.ntmps81 rfl rfl ?_
 have hX0 : Ext noS G w G w := Ext.refl hP
 have hm := hv.max
 have ghi := g.hi
 have gwd : 1 ≤ (rows.getD 0 ByteArray.empty).size ∧ (rows.getD 0 ByteArray.empty).size ≤ 8 := g.wd
 have geq : ∀ i, i < rows.length → (rows.getD i ByteArray.empty).size = (rows.getD 0 ByteArray.empty).size := g.eq
 have hml := hgm.len
 refine s_seq (c_reg ?_)
 refine q1 rfl rfl rfl (o_box [v] (v := (.agg [v].toArray)) rfl rfl hX0.pins (fun b1 w2 hk3 hb4 hp5 hl6 => ?_))
 have hX7 := hX0.step hp5 hl6
 have hlo8 : w.heap.size ≤ b1 := by have := hX0.size; omega
 obtain ⟨G9, hle10, hX11, hbp12, hf13⟩ := hb4.shut hX7 hlo8
 refine q1 rfl rfl rfl (o_alloc [(.slice none 0 0)] zr56 rfl hX11.pins (fun b14 w15 hk16 hb17 hp18 hl19 => ?_))
 have hX20 := hX11.step hp18 hl19
 have hlo21 : w.heap.size ≤ b14 := by have := hX11.size; omega
 refine qe (s_then (s_seq (c_reg ?_)))
 refine qd rfl rfl rfl (r_build [(.slice none 0 0)] [(.slice none 0 0)] [] Tryz.underlying56 zr56 rfl pl56 rfl (fun _ h => by cases h) rfl) (q1 rfl rfl rfl (o_alloc [(.slice none 0 0)] zr56 rfl hX20.pins (fun b22 w23 hk24 hb25 hp26 hl27 => ?_)))
 have hX28 := hX20.step hp26 hl27
 have hb29 := hb17.below hl27
 have ha30 : Apart (some b22) (some b14) := new_ne_box (congrArg some hk24) hb17.lt
 have hlo31 : w.heap.size ≤ b22 := by have := hX20.size; omega
 refine q0 rfl rfl rfl (o_stp (cs' := [(.slice none 0 0)]) (us := [(.slice none 0 0)]) (v := (.agg [(.slice none 0 0)].toArray)) sz56 rfl rfl rfl (ones1 (by rfl)) hX28.pins hb25 (Nat.le_of_ble_eq_true rfl) rfl (fun w32 hb33 hp34 hg35 hz36 => ?_))
 have hX37 := hX28.write hp34 hg35 ((lo_box hlo31))
 have hb38 := hb29.keptA hg35 ha30.symm
 refine qe (s_then (s_seq (s_seq (c_reg ?_))))
 refine qd rfl rfl rfl (r_fldp (k := 0) rfl Tryz.underlying56 rfl nz22 rfl) (qd rfl rfl rfl (r_ldp1 (u := v) ag22 rfl (hX37.pins _ _ _ (hbp12 0 _ rfl))) (qd rfl rfl rfl (run_len Tryz.underlying22 (v := v) rfl hv) (qd rfl rfl rfl (r_move (v := (.int .i64 0)) rfl) (qe (s_then ?_)))))
 refine s_blk (s_loop (fun (k : Nat) (en : Nat → Value) (W : World) => ∃ (env1 : Nat → Value) (j : Nat) (ov : Value) (os : List ByteArray) (GL1 : Pin), en = (upd (upd (upd (upd (upd (upd env1 1 u) 4 (.pointer (some ⟨b14, 0, none⟩))) 5 (.pointer (some ⟨b22, 0, none⟩))) 12 v) 13 (.int .i64 (rows.length : Int))) 14 (.int .i64 (j : Int))) ∧ k = rows.length - j ∧ Ext noS G w GL1 W ∧ Pin.le G9 GL1 ∧ (j ≤ rows.length) ∧ (os = (List.range j).map fun i => rowM (M.getD i [])) ∧ (os.length = j) ∧ (Own eStr 9 GL1 W w.heap.size ov (os)) ∧ (Bx GL1 W b14 [(.slice none 0 0)]) ∧ (Bx GL1 W b22 [ov]) ∧ (Apart ov.ownBlock (some b14)) ∧ (Apart ov.ownBlock (some b22))) _ ⟨_, 0, (.slice none 0 0), [], G9, (packS (x := 14) (packS (x := 13) (packS (x := 12) (packS (x := 5) (packS (x := 4) (pack1 (x := 1) rfl) rfl) rfl) rfl) rfl) rfl), rfl, hX37, Pin.le_refl _, Nat.zero_le _, rfl, rfl, (Own.nil _ _ _ _ _), hb38, hb33, apart_none, apart_none⟩ ?_)
 rintro k39 _ w40 ⟨env1, j, ov, os, GL1, rfl, hk41, hX42, hlek39, hj, hos, hol, hw43, hw44, hw45, ha46, ha47⟩
 refine s_seq (c_reg ?_)
 refine qd rfl rfl rfl (r_lss rfl rfl) (qe (s_then (s_seq ?_)))
 refine c_ifd (p := ((j : Int) : Int) < (rows.length : Int)) rfl rfl (fun h48 => ?_) (fun h48 => ?_)
 have hrj := geq j (by omega)
 have hmj := hgm.row j (by omega)
 have hwj : (M.getD j []).length = (rows.getD 0 ByteArray.empty).size := hmj
 refine wp_skip (s_then (s_seq ?_))
 refine s_blk (s_seq (c_reg ?_))
 refine qd rfl rfl rfl (r_move (v := (.int .i64 (j : Int))) rfl) (qd rfl rfl rfl (run_idx Tryz.underlying22 sz9 (v := v) rfl rfl hv (by omega) (by omega)) (qd rfl rfl rfl (run_load_str (r := rows.getD j ByteArray.empty) rfl ag9 (z := (j : Int)) rfl hv (Pins.of_le hX42.pins (Pin.le_trans hle10 hlek39)) (by omega) (by omega)) (qd rfl rfl rfl (r_assign (v := (.int .i64 (j : Int))) rfl) (qd rfl rfl rfl (r_assign (v := (.string (rows.getD j ByteArray.empty))) rfl) (qe (s_then (s_seq (c_reg ?_))))))))
 refine qd rfl rfl rfl (r_move (v := (.string (rows.getD j ByteArray.empty))) rfl) (q1 rfl rfl rfl (o_s2b (e := 5) Tryz.underlying9 Tryz.underlying47 Tryz.underlying5 rfl hX42.pins (by omega) (fun u49 w50 ho51 hp52 hl53 hk54 => ?_)))
 have hX55 := hX42.step hp52 hl53
 have ho56 := hw43.below hl53
 have hb57 := hw44.below hl53
 have hb58 := hw45.below hl53
 have ha59 : Apart u49.ownBlock ov.ownBlock := new_ne_own hk54 hw43.lt
 have ha60 : Apart u49.ownBlock (some b14) := new_ne_box hk54 hw44.lt
 have ha61 : Apart u49.ownBlock (some b22) := new_ne_box hk54 hw45.lt
 have ho62 : OwnM 5 GL1 w50 w.heap.size u49 ((rows.getD j ByteArray.empty).data.toList) := ho51.weaken hX42.size
 have hm63 : (rows.getD j ByteArray.empty).data.toList.length = (rows.getD j ByteArray.empty).size := rfl
 refine qd rfl rfl rfl (r_assign (v := u49) rfl) (qe (s_then (s_seq (s_seq (c_reg ?_)))))
 refine qd rfl rfl rfl (r_move (v := u49) rfl) (qd rfl rfl rfl (run_len Tryz.underlying47 (v := u49) rfl ho62.read) (qd rfl rfl rfl (r_move (v := (.int .i64 0)) rfl) (qe (s_then ?_))))
 refine s_blk (s_loop (fun (k : Nat) (en : Nat → Value) (W : World) => ∃ (env1 : Nat → Value) (q9 : Nat) (ys : List UInt8) (GL2 : Pin), en = (upd (upd (upd (upd (upd (upd (upd (upd (upd (upd env1 1 u) 4 (.pointer (some ⟨b14, 0, none⟩))) 5 (.pointer (some ⟨b22, 0, none⟩))) 6 (.int .i64 (j : Int))) 8 u49) 12 v) 13 (.int .i64 (rows.length : Int))) 14 (.int .i64 (j : Int))) 22 (.int .i64 (((rows.getD j ByteArray.empty).data.toList).length : Int))) 23 (.int .i64 (q9 : Int))) ∧ k = (rows.getD j ByteArray.empty).size - q9 ∧ Ext noS G w GL2 W ∧ Pin.le GL1 GL2 ∧ (q9 ≤ (rows.getD j ByteArray.empty).size) ∧ (OnP (rows.getD j ByteArray.empty) (M.getD j []) q9 ys) ∧ (OwnM 5 GL2 W w.heap.size u49 (ys)) ∧ (Own eStr 9 GL2 W w.heap.size ov (os)) ∧ (Bx GL2 W b14 [(.slice none 0 0)]) ∧ (Bx GL2 W b22 [ov])) _ ⟨_, 0, (rows.getD j ByteArray.empty).data.toList, GL1, (packS (x := 23) (packS (x := 22) (packS (x := 14) (packS (x := 13) (packS (x := 12) (packS (x := 8) (packS (x := 6) (packS (x := 5) (packS (x := 4) (pack1 (x := 1) rfl) rfl) rfl) rfl) rfl) rfl) rfl) rfl) rfl) rfl), rfl, hX55, Pin.le_refl _, Nat.zero_le _, on_zero, ho62, ho56, hb57, hb58⟩ ?_)
 rintro k64 _ w65 ⟨env1, q9, ys, GL2, rfl, hk66, hX67, hlek64, hq, hys, hw68, hw69, hw70, hw71⟩
 have hyl := hys.1
 refine s_seq (c_reg ?_)
 refine qd rfl rfl rfl (r_lss rfl rfl) (qe (s_then (s_seq ?_)))
 refine c_ifd (p := ((q9 : Int) : Int) < (((rows.getD j ByteArray.empty).data.toList).length : Int)) rfl rfl (fun h72 => ?_) (fun h72 => ?_)
 refine wp_skip (s_then (s_seq ?_))
 refine s_blk (s_seq (c_reg ?_))
 refine qd rfl rfl rfl (r_move (v := (.int .i64 (q9 : Int))) rfl) (qd rfl rfl rfl (r_assign (v := (.int .i64 (q9 : Int))) rfl) (qe (s_then (s_seq (c_reg ?_)))))
 refine qd rfl rfl rfl (r_move (v := u) rfl) (qd rfl rfl rfl (r_move (v := (.int .i64 (j : Int))) rfl) (qd rfl rfl rfl (run_idx Tryz.underlying80 sz82 (v := u) rfl rfl hu (by omega) (by omega)) ?_))
 obtain ⟨u73, hr74, hl75⟩ := nm_sl (hu.at (z := (j : Int)) (by omega) (by omega)) (j := j) rfl
 have hm76 := hr74.max
 refine qd rfl rfl rfl (hl75 ag82 rfl (Pins.of_le hX67.pins (Pin.le_trans (Pin.le_trans hle10 hlek39) hlek64))) (qd rfl rfl rfl (r_move (v := (.int .i64 (q9 : Int))) rfl) (qd rfl rfl rfl (run_idx Tryz.underlying82 sz4 (v := u73) rfl rfl hr74 (by omega) (by omega)) (qd rfl rfl rfl (run_load_bool (r := (M.getD j []).getD q9 false) rfl ag4 (z := (q9 : Int)) rfl hr74 (Pins.of_le hX67.pins (Pin.le_trans (Pin.le_trans hle10 hlek39) hlek64)) (by omega) (by omega)) (qd rfl rfl rfl (r_not rfl) (qe (s_then ?_))))))
 refine c_ifn rfl rfl (fun h77 => ?_) (fun h77 => ?_)
 refine wp_skip (s_blkN (s_then (c_reg ?_)))
 refine qd rfl rfl rfl (r_add rfl rfl (by omega)) (qd rfl rfl rfl (r_move (v := (.int .i64 ((q9 : Int) + 1))) rfl) (qe (s_lopN (⟨_, ?_, _, rfl, _, q9 + 1, ys, GL2, (packS (x := 23) (packS (x := 22) (packS (x := 14) (packS (x := 13) (packS (x := 12) (packS (x := 8) (packS (x := 6) (packS (x := 5) (packS (x := 4) (pack1 (x := 1) rfl) rfl) rfl) rfl) rfl) rfl) rfl) rfl) rfl) rfl), rfl, hX67, hlek64, (by omega), (on_keep hys h77 (fr46 (hf j q9 (by omega) (by show q9 < (rows.getD 0 ByteArray.empty).size; omega) h77))), hw68, hw69, hw70, hw71⟩))))
 omega
 refine c_reg (qd rfl rfl rfl (r_move (v := u49) rfl) (qd rfl rfl rfl (r_move (v := (.int .i64 (q9 : Int))) rfl) (qd rfl rfl rfl (run_idx Tryz.underlying47 sz5 (v := u49) rfl rfl hw68.read (by omega) (by omega)) (q0 rfl rfl rfl (o_setM (v := u49) (z := (q9 : Int)) (35) sz5 rfl (by exact rfl) hX67.pins hw68 (by omega) (by omega) (fun w78 ho79 hp80 hg81 hz82 => ?_))))))
 have hX83 := hX67.write hp80 hg81 ((lo_ownM hw68))
 have ho84 := hw69.keptA hg81 ha59.symm
 have hb85 := hw70.keptA hg81 ha60.symm
 have hb86 := hw71.keptA hg81 ha61.symm
 have ho87 : OwnM 5 GL2 w78 w.heap.size u49 ((ys).set q9 35) := ho79
 have hm88 : ((ys).set q9 35).length = ys.length := List.length_set ..
 refine qe (s_blkN (s_then (c_reg ?_)))
 refine qd rfl rfl rfl (r_add rfl rfl (by omega)) (qd rfl rfl rfl (r_move (v := (.int .i64 ((q9 : Int) + 1))) rfl) (qe (s_lopN (⟨_, ?_, _, rfl, _, q9 + 1, ys.set q9 35, GL2, (packS (x := 23) (packS (x := 22) (packS (x := 14) (packS (x := 13) (packS (x := 12) (packS (x := 8) (packS (x := 6) (packS (x := 5) (packS (x := 4) (pack1 (x := 1) rfl) rfl) rfl) rfl) rfl) rfl) rfl) rfl) rfl) rfl), rfl, hX83, hlek64, (by omega), (on_step hys (by omega) h77), ho87, ho84, hb85, hb86⟩))))
 omega
 refine wp_exit (s_thenE (s_lopE (s_blkE (s_then (c_reg ?_)))))
 refine qd rfl rfl rfl (r_fldp (k := 0) rfl Tryz.underlying56 rfl nz22 rfl) (qd rfl rfl rfl (r_ldp1 (u := ov) ag22 rfl (hw71.cell (o := 0) rfl)) (qd rfl rfl rfl (r_move (v := u49) rfl) (qd rfl rfl rfl (r_b2s Tryz.underlying47 Tryz.underlying5 Tryz.underlying9 rfl hw68.read (Gadd.pins hX67.pins u49)) (q1 rfl rfl rfl (o_buildF (E := eStr) (e := 9) [(.string (b2s ys))] [b2s ys] Tryz.underlying22 sz9 zr9 (by exact reps1 (by rfl)) (ones1 (by rfl)) rfl rfl rfl rfl (by decide) hX67.pins (fun u89 w90 ho91 hp92 hl93 hk94 => ?_))))))
 have hX95 := hX67.step hp92 hl93
 have ho97 := hw69.below hl93
 have hb98 := hw70.below hl93
 have hb99 := hw71.below hl93
 have ho104 : Own eStr 9 GL2 w90 w.heap.size u89 ([b2s ys]) := ho91.weaken hX67.size
 refine q1 rfl rfl rfl (o_append (E := eStr) (v := ov) (u := u89) 16 Tryz.underlying22 ap9 (by decide) rfl rfl hX95.pins ho97 ho104.src (by first | omega | (rw [List.nil_append]; omega) | (rw [List.length_nil]; omega) | (rw [List.length_append]; omega) | (simp; done) | (simp; omega) | (simp only [List.length_cons, List.length_nil]; omega) | (simp only [List.length_append, List.length_cons, List.length_nil]; omega)) (by first | omega | (rw [List.nil_append]; omega) | (rw [List.length_nil]; omega) | (rw [List.length_append]; omega) | (simp; done) | (simp; omega) | (simp only [List.length_cons, List.length_nil]; omega) | (simp only [List.length_append, List.length_cons, List.length_nil]; omega)) (hX95.size) (fun u105 w106 ho107 hp108 hg109 hw110 => ?_))
 have hX111 := hX95.write hp108 hg109 ((lo_own ho97))
 have hb114 := hb98.keptA hg109 ha46.symm
 have hb115 := hb99.keptA hg109 ha47.symm
 have ha118 : Apart (some b14) u105.ownBlock := app_ne_box ha46.symm hw110 hb98.lt
 have ha119 : Apart (some b22) u105.ownBlock := app_ne_box ha47.symm hw110 hb99.lt
 have hm120 : (os ++ ([b2s ys])).length = os.length + 1 := List.length_append
 refine qd rfl rfl rfl (r_fldp (k := 0) rfl Tryz.underlying56 rfl nz22 rfl) (q0 rfl rfl rfl (o_stp (cs' := [u105]) (us := [u105]) (v := u105) sz22 rfl rfl (cells1 ho107.one) (ones1 ho107.one) hX111.pins hb115 (Nat.le_of_ble_eq_true rfl) rfl (fun w121 hb122 hp123 hg124 hz125 => ?_)))
 have hX126 := hX111.write hp123 hg124 ((lo_box hlo31))
 have ho128 := ho107.keptA hg124 ha119.symm
 have hb129 := hb114.keptA hg124 ha30.symm
 refine qe (s_blkN (s_then (c_reg ?_)))
 refine qd rfl rfl rfl (r_add rfl rfl (by omega)) (qd rfl rfl rfl (r_move (v := (.int .i64 ((j : Int) + 1))) rfl) (qe (s_lopN (⟨_, ?_, _, rfl, _, j + 1, u105, os ++ ([b2s ys]), GL2, (packS (x := 14) (packS (x := 13) (packS (x := 12) (packS (x := 5) (packS (x := 4) (pack1 (x := 1) rfl) rfl) rfl) rfl) rfl) rfl), rfl, hX126, (Pin.le_trans hlek39 hlek64), (by omega), (by rw [hos, List.range_succ, List.map_append]; congr 1; show [_] = [rowM _]; rw [on_done hys (by omega) (by omega)]), (by simp [hol]), ho128, hb129, hb122, ha118.symm, ha119.symm⟩))))
 omega
 refine wp_exit (s_thenE (s_lopE (s_blkE (s_then (s_seq (c_reg ?_))))))
 refine qd rfl rfl rfl (r_ldpA (cs := [ov]) ag56 sz56 rfl (fun j u hj => hw45.cell (by simpa using hj))) (q0 rfl rfl rfl (o_stp (cs' := [ov]) (us := [ov]) (v := (.agg [ov].toArray)) sz56 rfl rfl rfl (ones1 hw43.one) hX42.pins hw44 (Nat.le_of_ble_eq_true rfl) rfl (fun w130 hb131 hp132 hg133 hz134 => ?_)))
 have hX135 := hX42.write hp132 hg133 ((lo_box hlo21))
 have ho136 := hw43.keptA hg133 ha46
 refine qe (s_then ?_)
 refine wp_ret (s_ret (c_retc (cs := [ov]) rfl rfl rfl ag56 sz56 (fun j u hj => by rw [Nat.zero_add]; exact hb131.cell hj) ?_))
 obtain ⟨G138, hle141, hX140, hr139, hf142⟩ := ho136.sealed hX135
 have hjn : j = M.length := by omega
 subst hjn
 exact ⟨_, _, rfl, (by rw [← bd_range, ← hos]; exact hr139), hX140⟩

end QB1
end Go.Proofs.YtianphgdbfekdaaGreatDoor

set_option maxRecDepth 20000
set_option maxHeartbeats 2000000
namespace Go.Proofs.YtianphgdbfekdaaGreatDoor
namespace QB2
open Go.RowKit Go.GL Go.Proofs
open RM2






theorem pl56 : (Tryz.prog.underlying 56).bind (placesD Tryz.prog) = some [(0, 1)] := by kernel_rfl





theorem trimmed_spec {w : World} {G : Pin} {v : Value} {rows : List ByteArray} (hP : Pins G w) (hv : RSl eStr G v rows) (g : GbP rows) :
  Calls Tryz.prog 82 [(.agg [v].toArray)].toArray w fun e w' => ∃ (u : Value) (G' : Pin), e = .returned (.agg [u].toArray) ∧ RSl eStr G' u (trM rows) ∧ Ext noS G w G' w' := by
 refine s_enter (n := 72) Tryz.func82 Tryz.ntmps82 rfl rfl ?_
 have hX0 : Ext noS G w G w := Ext.refl hP
 have hm := hv.max
 have ghi := g.hi
 have gwd : 1 ≤ (rows.getD 0 ByteArray.empty).size ∧ (rows.getD 0 ByteArray.empty).size ≤ 8 := g.wd
 have geq : ∀ i, i < rows.length → (rows.getD i ByteArray.empty).size = (rows.getD 0 ByteArray.empty).size := g.eq
 refine s_seq (c_reg ?_)
 refine q1 rfl rfl rfl (o_box [v] (v := (.agg [v].toArray)) rfl rfl hX0.pins (fun b1 w2 hk3 hb4 hp5 hl6 => ?_))
 have hX7 := hX0.step hp5 hl6
 have hlo8 : w.heap.size ≤ b1 := by have := hX0.size; omega
 obtain ⟨G9, hle10, hX11, hbp12, hf13⟩ := hb4.shut hX7 hlo8
 refine q1 rfl rfl rfl (o_alloc [(.slice none 0 0)] zr56 rfl hX11.pins (fun b14 w15 hk16 hb17 hp18 hl19 => ?_))
 have hX20 := hX11.step hp18 hl19
 have hlo21 : w.heap.size ≤ b14 := by have := hX11.size; omega
 refine qe (s_then (s_seq (c_reg ?_)))
 refine qd rfl rfl rfl (r_assign (v := (.int .i64 8)) rfl) (qd rfl rfl rfl (r_assign (v := (.int .i64 (-1))) rfl) (qd rfl rfl rfl (r_assign (v := (.int .i64 8)) rfl) (qd rfl rfl rfl (r_assign (v := (.int .i64 (-1))) rfl) (qe (s_then (s_seq (s_seq (c_reg ?_))))))))
 refine qd rfl rfl rfl (r_fldp (k := 0) rfl Tryz.underlying56 rfl nz22 rfl) (qd rfl rfl rfl (r_ldp1 (u := v) ag22 rfl (hX20.pins _ _ _ (hbp12 0 _ rfl))) (qd rfl rfl rfl (run_len Tryz.underlying22 (v := v) rfl hv) (qd rfl rfl rfl (r_move (v := (.int .i64 0)) rfl) (qe (s_then ?_)))))
 refine s_blk (s_loop (fun (k : Nat) (en : Nat → Value) (W : World) => ∃ (env1 : Nat → Value) (i : Nat) (r0 : Int) (r1 : Int) (k0 : Int) (k1 : Int) (GL1 : Pin), en = (upd (upd (upd (upd (upd (upd (upd (upd env1 1 (.pointer (some ⟨b1, 0, none⟩))) 2 (.pointer (some ⟨b14, 0, none⟩))) 3 (.int .i64 r0)) 4 (.int .i64 r1)) 5 (.int .i64 k0)) 6 (.int .i64 k1)) 14 (.int .i64 (rows.length : Int))) 15 (.int .i64 (i : Int))) ∧ k = rows.length - i ∧ Ext noS G w GL1 W ∧ Pin.le G9 GL1 ∧ (i ≤ rows.length) ∧ (BxI rows i 0 8 8 r0 r1 k0 k1) ∧ (Bx GL1 W b14 [(.slice none 0 0)])) _ ⟨_, 0, 8, (-1), 8, (-1), G9, (packS (x := 15) (packS (x := 14) (packS (x := 6) (packS (x := 5) (packS (x := 4) (packS (x := 3) (packS (x := 2) (pack1 (x := 1) rfl) rfl) rfl) rfl) rfl) rfl) rfl) rfl), rfl, hX20, Pin.le_refl _, Nat.zero_le _, bxI_zero, hb17⟩ ?_)
 rintro k22 _ w23 ⟨env1, i, r0, r1, k0, k1, GL1, rfl, hk24, hX25, hlek22, hi, hbx, hw26⟩
 refine s_seq (c_reg ?_)
 refine qd rfl rfl rfl (r_lss rfl rfl) (qe (s_then (s_seq ?_)))
 refine c_ifd (p := ((i : Int) : Int) < (rows.length : Int)) rfl rfl (fun h27 => ?_) (fun h27 => ?_)
 have hri := geq i (by omega)
 refine wp_skip (s_then (s_seq ?_))
 refine s_blk (s_seq (c_reg ?_))
 refine qd rfl rfl rfl (r_move (v := (.int .i64 (i : Int))) rfl) (qd rfl rfl rfl (r_assign (v := (.int .i64 (i : Int))) rfl) (qe (s_then (s_seq (c_reg ?_)))))
 refine qd rfl rfl rfl (r_fldp (k := 0) rfl Tryz.underlying56 rfl nz22 rfl) (qd rfl rfl rfl (r_ldp1 (u := v) ag22 rfl ((Pins.of_le hX25.pins hlek22) _ _ _ (hbp12 0 _ rfl))) (qd rfl rfl rfl (r_move (v := (.int .i64 (i : Int))) rfl) (qd rfl rfl rfl (run_idx Tryz.underlying22 sz9 (v := v) rfl rfl hv (by omega) (by omega)) (qd rfl rfl rfl (run_load_str (r := rows.getD i ByteArray.empty) rfl ag9 (z := (i : Int)) rfl hv (Pins.of_le hX25.pins (Pin.le_trans hle10 hlek22)) (by omega) (by omega)) (q1 rfl rfl rfl (o_range Tryz.underlying9 rfl hX25.pins (fun k28 w29 hk30 hit31 hp32 hl33 => ?_)))))))
 have hX34 := hX25.step hp32 hl33
 have hb35 := hw26.below hl33
 have hlo36 : w.heap.size ≤ k28 := by have := hX25.size; omega
 refine qe (s_then ?_)
 refine s_blk (s_loop (fun (k : Nat) (en : Nat → Value) (W : World) => ∃ (env1 : Nat → Value) (c9 : Nat) (p0 : Int) (p1 : Int) (m0 : Int) (m1 : Int) (GL2 : Pin), en = (upd (upd (upd (upd (upd (upd (upd (upd (upd (upd env1 1 (.pointer (some ⟨b1, 0, none⟩))) 2 (.pointer (some ⟨b14, 0, none⟩))) 3 (.int .i64 p0)) 4 (.int .i64 p1)) 5 (.int .i64 m0)) 6 (.int .i64 m1)) 7 (.int .i64 (i : Int))) 14 (.int .i64 (rows.length : Int))) 15 (.int .i64 (i : Int))) 23 (.pointer (some ⟨k28, 0, none⟩))) ∧ k = (rows.getD i ByteArray.empty).size - c9 ∧ Ext noS G w GL2 W ∧ Pin.le GL1 GL2 ∧ (c9 ≤ (rows.getD i ByteArray.empty).size) ∧ (BxI rows i c9 8 8 p0 p1 m0 m1) ∧ (Bx GL2 W b14 [(.slice none 0 0)]) ∧ (It W k28 (rows.getD i ByteArray.empty) c9)) _ ⟨_, 0, r0, r1, k0, k1, GL1, (packS (x := 23) (packS (x := 15) (packS (x := 14) (packS (x := 7) (packS (x := 6) (packS (x := 5) (packS (x := 4) (packS (x := 3) (packS (x := 2) (pack1 (x := 1) rfl) rfl) rfl) rfl) rfl) rfl) rfl) rfl) rfl) rfl), rfl, hX34, Pin.le_refl _, Nat.zero_le _, hbx, hb35, hit31⟩ ?_)
 rintro k37 _ w38 ⟨env1, c9, p0, p1, m0, m1, GL2, rfl, hk39, hX40, hlek37, hc, hbx2, hw41, hit42⟩
 refine s_seq (c_reg ?_)
 by_cases h43 : c9 < (rows.getD i ByteArray.empty).size
 refine q1 rfl rfl rfl (o_nextY rfl hit42 hX40.pins h43 (by have := g.ch i (by omega) c9 (by show c9 < (rows.getD 0 ByteArray.empty).size; omega); unfold rwS at this; omega) (fun w44 hit45 hp46 hg47 hz48 => ?_))
 have hX49 := hX40.write hp46 hg47 ((lo_box hlo36))
 have hb50 := hw41.keptA hg47 (hit42.ap_box hw41)
 refine qd rfl rfl rfl (r_extract (v := (.bool true)) rfl rfl) (qe (s_then (s_seq ?_)))
 refine c_ifT rfl rfl (wp_skip (s_then (s_blk (s_seq (c_reg ?_)))))
 refine qd rfl rfl rfl (r_extract (v := (.int .i64 (c9 : Int))) rfl rfl) (qd rfl rfl rfl (r_assign (v := (.int .i64 (c9 : Int))) rfl) (qe (s_then (s_seq (c_reg ?_)))))
 refine qd rfl rfl rfl (r_ldpA (cs := [v]) ag56 sz56 rfl (fun j u hj => (Pins.of_le hX49.pins (Pin.le_trans hlek22 hlek37)) _ _ _ (hbp12 _ _ (by simpa using hj)))) (qd rfl rfl rfl (r_move (v := (.int .i64 (i : Int))) rfl) (qd rfl rfl rfl (r_move (v := (.int .i64 (c9 : Int))) rfl) (q1 rfl rfl rfl (o_call (vs := [(.agg [v].toArray), (.int .i64 (i : Int)), (.int .i64 (c9 : Int))]) Tryz.func79 nm79 rfl rfl rfl ?_))))
 refine Calls.mono (free_spec (r := (i : Int)) (c := (c9 : Int)) hX49.pins (hv.mono (Pin.le_trans (Pin.le_trans hle10 hlek22) hlek37)) g) ?_
 rintro _ w52 ⟨G51, rfl, hx53⟩
 refine ⟨_, rfl, ?_⟩
 have hX54 := hX49.tr hx53
 have hb55 := hb50.ext hx53
 have hit56 := hit45.ext hx53
 refine qe (s_then ?_)
 refine c_if rfl rfl (fun h57 => ?_) (fun h57 => ?_)
 refine c_reg (qd rfl rfl rfl (r_move (v := (.int .i64 p0)) rfl) (qd rfl rfl rfl (r_move (v := (.int .i64 (i : Int))) rfl) (qd rfl rfl rfl (r_min rfl rfl) (qd rfl rfl rfl (r_move (v := (.int .i64 p1)) rfl) (qd rfl rfl rfl (r_move (v := (.int .i64 (i : Int))) rfl) (qd rfl rfl rfl (r_max rfl rfl) (qd rfl rfl rfl (r_move (v := (.int .i64 m0)) rfl) (qd rfl rfl rfl (r_move (v := (.int .i64 (c9 : Int))) rfl) (qd rfl rfl rfl (r_min rfl rfl) (qd rfl rfl rfl (r_move (v := (.int .i64 m1)) rfl) (qd rfl rfl rfl (r_move (v := (.int .i64 (c9 : Int))) rfl) (qd rfl rfl rfl (r_max rfl rfl) (qd rfl rfl rfl (r_assign (v := (.int .i64 (min p0 (i : Int)))) rfl) (qd rfl rfl rfl (r_assign (v := (.int .i64 (max p1 (i : Int)))) rfl) (qd rfl rfl rfl (r_assign (v := (.int .i64 (min m0 (c9 : Int)))) rfl) (qd rfl rfl rfl (r_assign (v := (.int .i64 (max m1 (c9 : Int)))) rfl) (qe (s_blkN (s_lopN (⟨_, ?_, _, rfl, _, c9 + 1, min p0 (i : Int), max p1 (i : Int), min m0 (c9 : Int), max m1 (c9 : Int), G51, (packS (x := 23) (packS (x := 15) (packS (x := 14) (packS (x := 7) (packS (x := 6) (packS (x := 5) (packS (x := 4) (packS (x := 3) (packS (x := 2) (pack1 (x := 1) rfl) rfl) rfl) rfl) rfl) rfl) rfl) rfl) rfl) rfl), rfl, hX54, (Pin.le_trans hlek37 hx53.le), (by omega), (bxI_yes hbx2 (fr_of h57) (by omega) (by omega)), hb55, hit56⟩))))))))))))))))))))
 omega
 refine wp_skip (s_blkN (s_lopN (⟨_, ?_, _, rfl, _, c9 + 1, p0, p1, m0, m1, G51, (packS (x := 23) (packS (x := 15) (packS (x := 14) (packS (x := 7) (packS (x := 6) (packS (x := 5) (packS (x := 4) (packS (x := 3) (packS (x := 2) (pack1 (x := 1) rfl) rfl) rfl) rfl) rfl) rfl) rfl) rfl) rfl) rfl), rfl, hX54, (Pin.le_trans hlek37 hx53.le), (by omega), (bxI_no hbx2 (fr_of h57)), hb55, hit56⟩)))
 omega
 refine q1 rfl rfl rfl (o_nextN rfl hit42 h43 ?_)
 refine qd rfl rfl rfl (r_extract (v := (.bool false)) rfl rfl) (qe (s_then (s_seq ?_)))
 refine c_ifF rfl rfl (wp_exit (s_thenE (s_lopE (s_blkE (s_blkN (s_then (c_reg ?_)))))))
 refine qd rfl rfl rfl (r_add rfl rfl (by omega)) (qd rfl rfl rfl (r_move (v := (.int .i64 ((i : Int) + 1))) rfl) (qe (s_lopN (⟨_, ?_, _, rfl, _, i + 1, p0, p1, m0, m1, GL2, (packS (x := 15) (packS (x := 14) (packS (x := 6) (packS (x := 5) (packS (x := 4) (packS (x := 3) (packS (x := 2) (pack1 (x := 1) rfl) rfl) rfl) rfl) rfl) rfl) rfl) rfl), rfl, hX40, (Pin.le_trans hlek22 hlek37), (by omega), (bxI_row hbx2 (Nat.le_of_not_lt h43) (fun q hq => fr_lt hq)), hw41⟩))))
 omega
 refine wp_exit (s_thenE (s_lopE (s_blkE (s_then (s_seq (s_seq (c_reg ?_)))))))
 refine qd rfl rfl rfl (r_move (v := (.int .i64 r1)) rfl) (qd rfl rfl rfl (r_lss rfl rfl) (qe (s_then ?_)))
 refine c_ifd (p := (r1 : Int) < 0) rfl rfl (fun h58 => ?_) (fun h58 => ?_)
 refine s_seq (c_reg ?_)
 refine q1 rfl rfl rfl (o_buildF (E := eStr) (e := 9) [(.string (⟨#[35]⟩ : ByteArray))] [(⟨#[35]⟩ : ByteArray)] Tryz.underlying22 sz9 zr9 (by exact reps1 (by rfl)) (ones1 (by rfl)) rfl rfl rfl rfl (by decide) hX25.pins (fun u59 w60 ho61 hp62 hl63 hk64 => ?_))
 have hX65 := hX25.step hp62 hl63
 have hb66 := hw26.below hl63
 have ha67 : Apart u59.ownBlock (some b14) := new_ne_box hk64 hw26.lt
 have ho68 : Own eStr 9 GL1 w60 w.heap.size u59 ([(⟨#[35]⟩ : ByteArray)]) := ho61.weaken hX25.size
 refine qd rfl rfl rfl (r_build [(.slice none 0 0)] [u59] [(0, u59, [u59])] Tryz.underlying56 zr56 rfl pl56 rfl (List.forall_mem_cons.2 ⟨(cells_one ho68.one), (fun _ h => by cases h)⟩) rfl) (q0 rfl rfl rfl (o_stp (cs' := [u59]) (us := [u59]) (v := (.agg [u59].toArray)) sz56 rfl rfl rfl (ones1 ho68.one) hX65.pins hb66 (Nat.le_of_ble_eq_true rfl) rfl (fun w69 hb70 hp71 hg72 hz73 => ?_)))
 have hX74 := hX65.write hp71 hg72 ((lo_box hlo21))
 have ho75 := ho68.keptA hg72 ha67
 refine qe (s_then ?_)
 refine wp_ret (s_ret (c_retc (cs := [u59]) rfl rfl rfl ag56 sz56 (fun j u hj => by rw [Nat.zero_add]; exact hb70.cell hj) ?_))
 obtain ⟨G76, hle79, hX78, hr77, hf80⟩ := ho75.sealed hX74
 exact ⟨_, _, rfl, (by rw [bxI_none hbx (by omega) h58]; exact hr77), hX78⟩
 refine wp_skip (s_then (s_seq (c_reg ?_)))
 obtain ⟨a9, b9, c9, d9, e1, e2, e3, e4, hbox⟩ := bxI_box hbx (by omega) h58
 subst e1 e2 e3 e4
 have hbi := box_in g hbox
 have hb2 : b9 < rows.length := hbi.2.1
 have hdw : d9 < (rows.getD 0 ByteArray.empty).size := hbi.2.2.2
 have hcl9 := cut_len (rows := rows) (a := a9) hb2
 refine qd rfl rfl rfl (r_build [(.slice none 0 0)] [(.slice none 0 0)] [] Tryz.underlying56 zr56 rfl pl56 rfl (fun _ h => by cases h) rfl) (q1 rfl rfl rfl (o_alloc [(.slice none 0 0)] zr56 rfl hX25.pins (fun b82 w83 hk84 hb85 hp86 hl87 => ?_)))
 have hX88 := hX25.step hp86 hl87
 have hb89 := hw26.below hl87
 have ha90 : Apart (some b82) (some b14) := new_ne_box (congrArg some hk84) hw26.lt
 have hlo91 : w.heap.size ≤ b82 := by have := hX25.size; omega
 refine q0 rfl rfl rfl (o_stp (cs' := [(.slice none 0 0)]) (us := [(.slice none 0 0)]) (v := (.agg [(.slice none 0 0)].toArray)) sz56 rfl rfl rfl (ones1 (by rfl)) hX88.pins hb85 (Nat.le_of_ble_eq_true rfl) rfl (fun w92 hb93 hp94 hg95 hz96 => ?_))
 have hX97 := hX88.write hp94 hg95 ((lo_box hlo91))
 have hb98 := hb89.keptA hg95 ha90.symm
 refine qe (s_then (s_seq (s_seq (c_reg ?_))))
 refine qd rfl rfl rfl (r_fldp (k := 0) rfl Tryz.underlying56 rfl nz22 rfl) (qd rfl rfl rfl (r_ldp1 (u := v) ag22 rfl ((Pins.of_le hX97.pins hlek22) _ _ _ (hbp12 0 _ rfl))) (qd rfl rfl rfl (r_move (v := (.int .i64 (a9 : Int))) rfl) (qd rfl rfl rfl (r_move (v := (.int .i64 (b9 : Int))) rfl) (qd rfl rfl rfl (r_add rfl rfl (by omega)) ?_))))
 obtain ⟨u99, hr100, hl101⟩ := name_slice hv (lo := (some ((a9 : Int)))) (hi := (some ((b9 : Int) + 1))) (a9) (((b9 : Int) + 1).toNat) (Or.inr ⟨_, rfl, (by omega), rfl⟩) (Or.inr ⟨_, rfl, (by omega), rfl⟩) (by omega) (by omega)
 refine qd rfl rfl rfl (hl101 Tryz.underlying22 sz9 rfl rfl rfl) ?_
 have hr102 := hr100
 rw [show ((b9 : Int) + 1).toNat = b9 + 1 by omega] at hr102
 refine qd rfl rfl rfl (run_len Tryz.underlying22 (v := u99) rfl hr102) (qd rfl rfl rfl (r_move (v := (.int .i64 0)) rfl) (qe (s_then ?_)))
 refine s_blk (s_loop (fun (k : Nat) (en : Nat → Value) (W : World) => ∃ (env1 : Nat → Value) (j : Nat) (ov : Value) (os : List ByteArray) (GL3 : Pin), en = (upd (upd (upd (upd (upd (upd (upd env1 2 (.pointer (some ⟨b14, 0, none⟩))) 5 (.int .i64 (c9 : Int))) 6 (.int .i64 (d9 : Int))) 9 (.pointer (some ⟨b82, 0, none⟩))) 54 u99) 55 (.int .i64 (((rows.take (b9 + 1)).drop a9).length : Int))) 56 (.int .i64 (j : Int))) ∧ k = ((rows.take (b9 + 1)).drop a9).length - j ∧ Ext noS G w GL3 W ∧ Pin.le GL1 GL3 ∧ (j ≤ ((rows.take (b9 + 1)).drop a9).length) ∧ (os = (((rows.take (b9 + 1)).drop a9).take j).map (fun x : ByteArray => x.extract c9 (d9 + 1))) ∧ (os.length = j) ∧ (Own eStr 9 GL3 W w.heap.size ov (os)) ∧ (Bx GL3 W b14 [(.slice none 0 0)]) ∧ (Bx GL3 W b82 [ov]) ∧ (Apart ov.ownBlock (some b14)) ∧ (Apart ov.ownBlock (some b82))) _ ⟨_, 0, (.slice none 0 0), [], GL1, (packS (x := 56) (packS (x := 55) (packS (x := 54) (packS (x := 9) (packS (x := 6) (packS (x := 5) (pack1 (x := 2) rfl) rfl) rfl) rfl) rfl) rfl) rfl), rfl, hX97, Pin.le_refl _, Nat.zero_le _, rfl, rfl, (Own.nil _ _ _ _ _), hb98, hb93, apart_none, apart_none⟩ ?_)
 rintro k103 _ w104 ⟨env1, j, ov, os, GL3, rfl, hk105, hX106, hlek103, hj, hos, hol, hw107, hw108, hw109, ha110, ha111⟩
 refine s_seq (c_reg ?_)
 refine qd rfl rfl rfl (r_lss rfl rfl) (qe (s_then (s_seq ?_)))
 refine c_ifd (p := ((j : Int) : Int) < (((rows.take (b9 + 1)).drop a9).length : Int)) rfl rfl (fun h112 => ?_) (fun h112 => ?_)
 have hca := cutM_at (rows := rows) (a := a9) (j := j) hb2 (by omega)
 have hcz : (((rows.take (b9 + 1)).drop a9).getD j ByteArray.empty).size = (rows.getD 0 ByteArray.empty).size := by rw [hca.1]; exact geq _ (by omega)
 refine wp_skip (s_then (s_seq ?_))
 refine s_blk (s_seq (c_reg ?_))
 refine qd rfl rfl rfl (run_idx Tryz.underlying22 sz9 (v := u99) rfl rfl hr102 (by omega) (by omega)) (qd rfl rfl rfl (run_load_str (r := ((rows.take (b9 + 1)).drop a9).getD j ByteArray.empty) rfl ag9 (z := (j : Int)) rfl hr102 (Pins.of_le hX106.pins (Pin.le_trans (Pin.le_trans hle10 hlek22) hlek103)) (by omega) (by omega)) (qd rfl rfl rfl (r_assign (v := (.string (((rows.take (b9 + 1)).drop a9).getD j ByteArray.empty))) rfl) (qe (s_then ?_))))
 refine c_draw (S := fun wz => BxR wz b82 [ov]) (last := 10) (by kernel_rfl) rfl ?_
 have hl113 : Below w104.heap.size w104 w104.drew := (Below.refl _ _).drew
 have hp114 := hX106.pins.below hl113
 have hX115 := hX106.step hp114 hl113
 have ho116 := hw107.below hl113
 have hb117 := hw108.below hl113
 have hb118 := hw109.below hl113
 refine dr_take (i := 0) rfl rfl rfl (want_none rfl _) (by kernel_rfl) (fun _ _ => r_fldp (k := 0) rfl Tryz.underlying56 rfl nz22 rfl) hb118.reads (dr_take (i := 1) rfl rfl rfl (want_none rfl _) (by kernel_rfl) (fun _ hS => r_ldp1 (u := ov) ag22 rfl (hS 0 _ rfl)) hb118.reads (dr_take (i := 2) rfl rfl rfl (want_none rfl _) (by kernel_rfl) (fun _ _ => r_move (v := (.string (((rows.take (b9 + 1)).drop a9).getD j ByteArray.empty))) rfl) hb118.reads (dr_take (i := 3) rfl rfl rfl (want_none rfl _) (by kernel_rfl) (fun _ _ => r_move (v := (.int .i64 (c9 : Int))) rfl) hb118.reads (dr_take (i := 4) rfl rfl rfl (want_none rfl _) (by kernel_rfl) (fun _ _ => r_move (v := (.int .i64 (d9 : Int))) rfl) hb118.reads (dr_take (i := 5) rfl rfl rfl (want_none rfl _) (by kernel_rfl) (fun _ _ => r_add rfl rfl (by omega)) hb118.reads ?_)))))
 have hm119 : ((((rows.take (b9 + 1)).drop a9).getD j ByteArray.empty).extract c9 ((d9 : Int) + 1).toNat).size = min ((d9 : Int) + 1).toNat (((rows.take (b9 + 1)).drop a9).getD j ByteArray.empty).size - c9 := ByteArray.size_extract
 refine dr_take (i := 6) rfl rfl rfl (want_none rfl _) (by kernel_rfl) (fun _ _ => r_cutB Tryz.underlying9 rfl rfl rfl (by omega) (by omega) (by omega)) hb118.reads (dr_one (i := 7) (by kernel_rfl) (drOp1 (i := 7) rfl rfl rfl (want_none rfl _) (o_buildF (E := eStr) (e := 9) [(.string ((((rows.take (b9 + 1)).drop a9).getD j ByteArray.empty).extract c9 ((d9 : Int) + 1).toNat))] [(((rows.take (b9 + 1)).drop a9).getD j ByteArray.empty).extract c9 ((d9 : Int) + 1).toNat] Tryz.underlying22 sz9 zr9 (by exact reps1 (by rfl)) (ones1 (by rfl)) rfl rfl rfl rfl (by decide) hX115.pins (fun u120 w121 ho122 hp123 hl124 hk125 => ?_))))
 have hX126 := hX115.step hp123 hl124
 have ho127 := ho116.below hl124
 have hb128 := hb117.below hl124
 have hb129 := hb118.below hl124
 have ho133 : Own eStr 9 GL3 w121 w.heap.size u120 ([(((rows.take (b9 + 1)).drop a9).getD j ByteArray.empty).extract c9 ((d9 : Int) + 1).toNat]) := ho122.weaken hX115.size
 refine ⟨fun _ => hb129.reads, ?_⟩
 refine dr_one (i := 8) (by kernel_rfl) (drOp1 (i := 8) rfl rfl rfl (want_none rfl _) (o_append (E := eStr) (v := ov) (u := u120) 16 Tryz.underlying22 ap9 (by decide) rfl rfl hX126.pins ho127 ho133.src (by first | omega | (rw [List.nil_append]; omega) | (rw [List.length_nil]; omega) | (rw [List.length_append]; omega) | (simp; done) | (simp; omega) | (simp only [List.length_cons, List.length_nil]; omega) | (simp only [List.length_append, List.length_cons, List.length_nil]; omega)) (by first | omega | (rw [List.nil_append]; omega) | (rw [List.length_nil]; omega) | (rw [List.length_append]; omega) | (simp; done) | (simp; omega) | (simp only [List.length_cons, List.length_nil]; omega) | (simp only [List.length_append, List.length_cons, List.length_nil]; omega)) (hX126.size) (fun u134 w135 ho136 hp137 hg138 hw139 => ?_)))
 have hX140 := hX126.write hp137 hg138 ((lo_own ho127))
 have hb142 := hb128.keptA hg138 ha110.symm
 have hb143 := hb129.keptA hg138 ha111.symm
 have ha145 : Apart (some b14) u134.ownBlock := app_ne_box ha110.symm hw139 hb128.lt
 have ha146 : Apart (some b82) u134.ownBlock := app_ne_box ha111.symm hw139 hb129.lt
 have hm147 : (os ++ ([(((rows.take (b9 + 1)).drop a9).getD j ByteArray.empty).extract c9 ((d9 : Int) + 1).toNat])).length = os.length + 1 := List.length_append
 refine ⟨fun _ => hb143.reads, ?_⟩
 refine dr_take (i := 9) rfl rfl rfl (want_none rfl _) (by kernel_rfl) (fun _ _ => r_fldp (k := 0) rfl Tryz.underlying56 rfl nz22 rfl) hb143.reads (dr_one (i := 10) (by kernel_rfl) (drOp0 (i := 10) rfl rfl rfl (want_none rfl _) (o_stp (cs' := [u134]) (us := [u134]) (v := u134) sz22 rfl rfl (cells1 ho136.one) (ones1 ho136.one) hX140.pins hb143 (Nat.le_of_ble_eq_true rfl) rfl (fun w148 hb149 hp150 hg151 hz152 => ?_))))
 have hX153 := hX140.write hp150 hg151 ((lo_box hlo91))
 have ho154 := ho136.keptA hg151 ha146.symm
 have hb155 := hb142.keptA hg151 ha90.symm
 refine ⟨fun h => absurd rfl h, ?_⟩
 refine dr_end (by kernel_rfl) (s_blkN (s_then (c_reg ?_)))
 refine qd rfl rfl rfl (r_add rfl rfl (by omega)) (qd rfl rfl rfl (r_move (v := (.int .i64 ((j : Int) + 1))) rfl) (qe (s_lopN (⟨_, ?_, _, rfl, _, j + 1, u134, os ++ ([(((rows.take (b9 + 1)).drop a9).getD j ByteArray.empty).extract c9 ((d9 : Int) + 1).toNat]), GL3, (packS (x := 56) (packS (x := 55) (packS (x := 54) (packS (x := 9) (packS (x := 6) (packS (x := 5) (pack1 (x := 2) rfl) rfl) rfl) rfl) rfl) rfl) rfl), rfl, hX153, hlek103, (by omega), (by rw [hos, show ((d9 : Int) + 1).toNat = d9 + 1 by omega]; exact cut_take (by omega)), (by simp [hol]), ho154, hb155, hb149, ha145.symm, ha146.symm⟩))))
 omega
 refine wp_exit (s_thenE (s_lopE (s_blkE (s_then (s_seq (c_reg ?_))))))
 refine qd rfl rfl rfl (r_ldpA (cs := [ov]) ag56 sz56 rfl (fun j u hj => hw109.cell (by simpa using hj))) (q0 rfl rfl rfl (o_stp (cs' := [ov]) (us := [ov]) (v := (.agg [ov].toArray)) sz56 rfl rfl rfl (ones1 hw107.one) hX106.pins hw108 (Nat.le_of_ble_eq_true rfl) rfl (fun w156 hb157 hp158 hg159 hz160 => ?_)))
 have hX161 := hX106.write hp158 hg159 ((lo_box hlo21))
 have ho162 := hw107.keptA hg159 ha110
 refine qe (s_then ?_)
 refine wp_ret (s_ret (c_retc (cs := [ov]) rfl rfl rfl ag56 sz56 (fun j u hj => by rw [Nat.zero_add]; exact hb157.cell hj) ?_))
 obtain ⟨G164, hle167, hX166, hr165, hf168⟩ := ho162.sealed hX161
 exact ⟨_, _, rfl, (by rw [trM_of hbox]; unfold cutM; rw [← map_done (by omega) hos]; exact hr165), hX166⟩

end QB2
end Go.Proofs.YtianphgdbfekdaaGreatDoor

set_option maxRecDepth 20000
set_option maxHeartbeats 2000000
namespace Go.Proofs.YtianphgdbfekdaaGreatDoor
namespace QF1
open Go.RowKit Go.GL Go.Proofs
open RM2








def compP (m : Nat) (rows : List ByteArray) : Prop := ∀ {w : World} {G : Pin} {v u : Value} {lo hi : Nat} {M : List (List Bool)} {a b : Int}, Pins G w → RSl eStr G v rows → DGrid 82 4 G w lo hi u M → hi ≤ w.heap.size → GmP rows M → (-2 ≤ a ∧ a ≤ 10) ∧ (-2 ≤ b ∧ b ≤ 10) → cntF M < m → Calls Tryz.prog 80 [(.agg [v].toArray), (.int .i64 a), (.int .i64 b), u].toArray w fun e w' => e = .returned (.tuple #[]) ∧ ∃ M', DGrid 82 4 G w' lo hi u M' ∧ FldP (frP rows) M a b M' ∧ Ext (inR lo hi) G w G w'

theorem comp_step {w : World} {G : Pin} {v u : Value} {lo hi : Nat} {M : List (List Bool)} {a b : Int} {m : Nat} {rows : List ByteArray} (hP : Pins G w) (hv : RSl eStr G v rows) (hd : DGrid 82 4 G w lo hi u M) (hsz : hi ≤ w.heap.size) (hgm : GmP rows M) (hab : (-2 ≤ a ∧ a ≤ 10) ∧ (-2 ≤ b ∧ b ≤ 10)) (g : GbP rows) (ih : compP m rows) (hm9 : cntF M < m + 1) :
  Calls Tryz.prog 80 [(.agg [v].toArray), (.int .i64 a), (.int .i64 b), u].toArray w fun e w' => e = .returned (.tuple #[]) ∧ ∃ M', DGrid 82 4 G w' lo hi u M' ∧ FldP (frP rows) M a b M' ∧ Ext (inR lo hi) G w G w' := by
 refine s_enter (n := 52) Tryz.func80 Tryz.ntmps80 rfl rfl ?_
 have hX0 : Ext (inR lo hi) G w G w := Ext.refl hP
 have hgl := hgm.len
 have ghi := g.hi
 have gwd : 1 ≤ (rows.getD 0 ByteArray.empty).size ∧ (rows.getD 0 ByteArray.empty).size ≤ 8 := g.wd
 refine s_seq (c_reg ?_)
 refine q1 rfl rfl rfl (o_box [v] (v := (.agg [v].toArray)) rfl rfl hX0.pins (fun b1 w2 hk3 hb4 hp5 hl6 => ?_))
 have hX7 := hX0.step hp5 hl6
 have hd8 := hd.below hl6
 have hs9 := Nat.le_trans hsz hl6.size
 have ha10 : hi ≤ b1 ∨ b1 < lo := Or.inl (by have e := Option.some.inj (congrArg some hk3); have := hsz; omega)
 have hlo11 : w.heap.size ≤ b1 := by have := hX0.size; omega
 obtain ⟨G12, hle13, hX14, hbp15, hf16⟩ := hb4.shut hX7 hlo11
 have hd17 := hd8.more hle13 hf16 ha10
 refine qe (s_then (s_seq (s_seq (c_reg ?_))))
 refine qd rfl rfl rfl (r_ldpA (cs := [v]) ag56 sz56 rfl (fun j u hj => hX14.pins _ _ _ (hbp15 _ _ (by simpa using hj)))) (qd rfl rfl rfl (r_move (v := (.int .i64 a)) rfl) (qd rfl rfl rfl (r_move (v := (.int .i64 b)) rfl) (q1 rfl rfl rfl (o_call (vs := [(.agg [v].toArray), (.int .i64 a), (.int .i64 b)]) Tryz.func79 nm79 rfl rfl rfl ?_))))
 refine Calls.mono (free_spec (r := a) (c := b) hX14.pins (hv.mono hle13) g) ?_
 rintro _ w19 ⟨G18, rfl, hx20⟩
 refine ⟨_, rfl, ?_⟩
 have hX21 := hX14.tr hx20
 have hd22 := hd17.ext hx20
 have hs23 := Nat.le_trans hs9 hx20.size
 refine qd rfl rfl rfl (r_not rfl) (qd rfl rfl rfl (r_move (v := (.bool (!(frI rows a b)))) rfl) (qbn (t := 13) rfl (fun h24 => ?_) (fun h24 => ?_)))
 refine qdg rfl rfl rfl rfl rfl rfl (r_move (v := u) rfl) (qdg rfl rfl rfl rfl rfl rfl (r_move (v := (.int .i64 a)) rfl) ?_)
 have hrg9 := fr_rng g h24
 obtain ⟨r9, rfl⟩ : ∃ n : Nat, a = (n : Int) := ⟨a.toNat, by omega⟩
 obtain ⟨c9, rfl⟩ : ∃ n : Nat, b = (n : Int) := ⟨b.toNat, by omega⟩
 have hr9 : r9 < rows.length := by omega
 have hc9 : c9 < (rows.getD 0 ByteArray.empty).size := by have h9 := hrg9.2.2; have h8 : (c9 : Int) < ((rows.getD 0 ByteArray.empty).size : Int) := h9; omega
 have hmr : (M.getD r9 []).length = (rows.getD 0 ByteArray.empty).size := hgm.row r9 hr9
 obtain ⟨us25, hul26, ho27, ho28, hrg29, hst30, hap31, hrg32⟩ := hd22.leaf2 (i := r9) (by omega)
 have hlo33 : Lo w ((inR lo hi)) (us25.getD r9 default).ownBlock := fun k hk => Or.inr (hrg29 k hk)
 have hm35 : us25.length = M.length := hul26
 refine qdg rfl rfl rfl rfl rfl rfl (run_idx Tryz.underlying80 sz82 (v := u) rfl rfl ho27.read (by omega) (by omega)) ?_
 obtain ⟨cs36, hrep37, hagg38, hcell39⟩ := nm_el (j := r9) default (ho27.at (z := (r9 : Int)) (by omega) (by omega)) rfl
 obtain ⟨rfl, hone42⟩ := hrep37
 refine qdg rfl rfl rfl rfl rfl rfl (hcell39 0 (us25.getD r9 default) (by rw [show (us25.getD r9 default) = (us25.getD r9 default) from rfl]; rfl) ag82 rfl (Gadd.pins hX21.pins u)) (qdg rfl rfl rfl rfl rfl rfl (r_move (v := (.int .i64 (c9 : Int))) rfl) (qdg rfl rfl rfl rfl rfl rfl (run_idx Tryz.underlying82 sz4 (v := (us25.getD r9 default)) rfl rfl ho28.read (by omega) (by omega)) (qdg rfl rfl rfl rfl rfl rfl (run_load_bool (r := (M.getD r9 []).getD c9 false) rfl ag4 (z := (c9 : Int)) rfl ho28.read (Gadd.pins hX21.pins (us25.getD r9 default)) (by omega) (by omega)) (qd rfl rfl rfl (r_pickF (v := (.bool ((M.getD r9 []).getD c9 false))) rfl rfl) (qe (s_then ?_))))))
 refine c_if rfl rfl (fun h43 => ?_) (fun h43 => ?_)
 exact wp_ret (s_ret (c_ret0 rfl (⟨rfl, _, hd22.anti (Pin.le_trans hle13 hx20.le), fl_mk (by rw [gI_nat]; exact h43), hX21.shrink⟩)))
 refine wp_skip (s_then (s_seq (c_reg ?_)))
 refine qd rfl rfl rfl (r_move (v := u) rfl) (qd rfl rfl rfl (r_move (v := (.int .i64 (r9 : Int))) rfl) (qd rfl rfl rfl (run_idx Tryz.underlying80 sz82 (v := u) rfl rfl ho27.read (by omega) (by omega)) ?_))
 obtain ⟨cs44, hrep45, hagg46, hcell47⟩ := nm_el (j := r9) default (ho27.at (z := (r9 : Int)) (by omega) (by omega)) rfl
 obtain ⟨rfl, hone50⟩ := hrep45
 refine qd rfl rfl rfl (hcell47 0 (us25.getD r9 default) (by rw [show (us25.getD r9 default) = (us25.getD r9 default) from rfl]; rfl) ag82 rfl (Gadd.pins hX21.pins u)) (qd rfl rfl rfl (r_move (v := (.int .i64 (c9 : Int))) rfl) (qd rfl rfl rfl (run_idx Tryz.underlying82 sz4 (v := (us25.getD r9 default)) rfl rfl ho28.read (by omega) (by omega)) (q0 rfl rfl rfl (o_set (E := eBool) (v := (us25.getD r9 default)) (u := (.bool true)) (z := (c9 : Int)) (true) sz4 rfl rfl rfl rfl hX21.pins ho28 (by omega) (by omega) (fun w51 ho52 hp53 hg54 hz55 => ?_)))))
 have hX56 := hX21.write hp53 hg54 (hlo33)
 refine qe (s_then (s_seq (c_reg ?_)))
 have hd58 : DGrid 82 4 G18 w51 lo hi u (setT M r9 c9) := hst30 ho52 hg54
 have hs59 := Nat.le_trans hs23 hg54.size
 have hgm0 := hgm.same (setT_shape M r9 c9)
 have hct := cntF_set (M := M) (r := r9) (c := c9) (by omega) (by omega) h43
 refine qd rfl rfl rfl (r_ldpA (cs := [v]) ag56 sz56 rfl (fun j u hj => (Pins.of_le hX56.pins hx20.le) _ _ _ (hbp15 _ _ (by simpa using hj)))) (qd rfl rfl rfl (r_move (v := (.int .i64 (r9 : Int))) rfl) (qd rfl rfl rfl (r_sub rfl rfl (by omega)) (qd rfl rfl rfl (r_move (v := (.int .i64 (c9 : Int))) rfl) (qd rfl rfl rfl (r_move (v := u) rfl) (q1 rfl rfl rfl (o_call (vs := [(.agg [v].toArray), (.int .i64 ((r9 : Int) - 1)), (.int .i64 (c9 : Int)), u]) Tryz.func80 nm80 rfl rfl rfl ?_))))))
 refine Calls.mono (ih (a := ((r9 : Int) - 1)) (b := (c9 : Int)) hX56.pins (hv.mono (Pin.le_trans hle13 hx20.le)) hd58 hs59 hgm0 (by omega) (by omega)) ?_
 rintro _ w64 ⟨rfl, M60, hd61, hfl62, hx63⟩
 refine ⟨_, rfl, ?_⟩
 have hs65 := Nat.le_trans hs59 hx63.size
 have hgm66 := hgm0.same hfl62.sh
 have hcn67 := hfl62.less
 have hX68 := hX56.trans hx63 (fun i hi => Or.inr hi)
 refine qe (s_then (s_seq (c_reg ?_)))
 refine qd rfl rfl rfl (r_ldpA (cs := [v]) ag56 sz56 rfl (fun j u hj => (Pins.of_le hX68.pins hx20.le) _ _ _ (hbp15 _ _ (by simpa using hj)))) (qd rfl rfl rfl (r_move (v := (.int .i64 (r9 : Int))) rfl) (qd rfl rfl rfl (r_add rfl rfl (by omega)) (qd rfl rfl rfl (r_move (v := (.int .i64 (c9 : Int))) rfl) (qd rfl rfl rfl (r_move (v := u) rfl) (q1 rfl rfl rfl (o_call (vs := [(.agg [v].toArray), (.int .i64 ((r9 : Int) + 1)), (.int .i64 (c9 : Int)), u]) Tryz.func80 nm80 rfl rfl rfl ?_))))))
 refine Calls.mono (ih (a := ((r9 : Int) + 1)) (b := (c9 : Int)) hX68.pins (hv.mono (Pin.le_trans hle13 hx20.le)) hd61 hs65 hgm66 (by omega) (by omega)) ?_
 rintro _ w73 ⟨rfl, M69, hd70, hfl71, hx72⟩
 refine ⟨_, rfl, ?_⟩
 have hs74 := Nat.le_trans hs65 hx72.size
 have hgm75 := hgm66.same hfl71.sh
 have hcn76 := hfl71.less
 have hX77 := hX68.trans hx72 (fun i hi => Or.inr hi)
 refine qe (s_then (s_seq (c_reg ?_)))
 refine qd rfl rfl rfl (r_ldpA (cs := [v]) ag56 sz56 rfl (fun j u hj => (Pins.of_le hX77.pins hx20.le) _ _ _ (hbp15 _ _ (by simpa using hj)))) (qd rfl rfl rfl (r_move (v := (.int .i64 (r9 : Int))) rfl) (qd rfl rfl rfl (r_move (v := (.int .i64 (c9 : Int))) rfl) (qd rfl rfl rfl (r_sub rfl rfl (by omega)) (qd rfl rfl rfl (r_move (v := u) rfl) (q1 rfl rfl rfl (o_call (vs := [(.agg [v].toArray), (.int .i64 (r9 : Int)), (.int .i64 ((c9 : Int) - 1)), u]) Tryz.func80 nm80 rfl rfl rfl ?_))))))
 refine Calls.mono (ih (a := (r9 : Int)) (b := ((c9 : Int) - 1)) hX77.pins (hv.mono (Pin.le_trans hle13 hx20.le)) hd70 hs74 hgm75 (by omega) (by omega)) ?_
 rintro _ w82 ⟨rfl, M78, hd79, hfl80, hx81⟩
 refine ⟨_, rfl, ?_⟩
 have hs83 := Nat.le_trans hs74 hx81.size
 have hgm84 := hgm75.same hfl80.sh
 have hcn85 := hfl80.less
 have hX86 := hX77.trans hx81 (fun i hi => Or.inr hi)
 refine qe (s_then (c_reg ?_))
 refine qd rfl rfl rfl (r_ldpA (cs := [v]) ag56 sz56 rfl (fun j u hj => (Pins.of_le hX86.pins hx20.le) _ _ _ (hbp15 _ _ (by simpa using hj)))) (qd rfl rfl rfl (r_move (v := (.int .i64 (r9 : Int))) rfl) (qd rfl rfl rfl (r_move (v := (.int .i64 (c9 : Int))) rfl) (qd rfl rfl rfl (r_add rfl rfl (by omega)) (qd rfl rfl rfl (r_move (v := u) rfl) (q1 rfl rfl rfl (o_call (vs := [(.agg [v].toArray), (.int .i64 (r9 : Int)), (.int .i64 ((c9 : Int) + 1)), u]) Tryz.func80 nm80 rfl rfl rfl ?_))))))
 refine Calls.mono (ih (a := (r9 : Int)) (b := ((c9 : Int) + 1)) hX86.pins (hv.mono (Pin.le_trans hle13 hx20.le)) hd79 hs83 hgm84 (by omega) (by omega)) ?_
 rintro _ w91 ⟨rfl, M87, hd88, hfl89, hx90⟩
 refine ⟨_, rfl, ?_⟩
 have hs92 := Nat.le_trans hs83 hx90.size
 have hgm93 := hgm84.same hfl89.sh
 have hcn94 := hfl89.less
 have hX95 := hX86.trans hx90 (fun i hi => Or.inr hi)
 exact qe (s_fin (c_end0 rfl (⟨rfl, _, hd88.anti (Pin.le_trans hle13 hx20.le), fl_go (by omega) (by omega) h24 hfl62 hfl71 hfl80 hfl89, hX95.shrink⟩)))
 refine qs rfl rfl rfl rfl rfl rfl (qs rfl rfl rfl rfl rfl rfl (qs rfl rfl rfl rfl rfl rfl (qs rfl rfl rfl rfl rfl rfl (qs rfl rfl rfl rfl rfl rfl (qs rfl rfl rfl rfl rfl rfl (qs rfl rfl rfl rfl rfl rfl (qd rfl rfl rfl (r_pickT (v := (.bool true)) rfl rfl) (qe (s_then ?_)))))))))
 exact c_ifT rfl rfl (wp_ret (s_ret (c_ret0 rfl (⟨rfl, _, hd22.anti (Pin.le_trans hle13 hx20.le), fl_no (by show ¬ (frI rows a b = true); rw [h24]; decide), hX21.shrink⟩))))

theorem comp_all {rows : List ByteArray} (g : GbP rows) : ∀ m, compP m rows
 | 0 => fun _ _ _ _ _ _ h => absurd h (Nat.not_lt_zero _)
 | m + 1 => fun hP hv hd hsz hgm hab h => comp_step hP hv hd hsz hgm hab g (comp_all g m) h
theorem comp_spec {w : World} {G : Pin} {v u : Value} {lo hi : Nat} {M : List (List Bool)} {a b : Int} {rows : List ByteArray} (g : GbP rows) (hP : Pins G w) (hv : RSl eStr G v rows) (hd : DGrid 82 4 G w lo hi u M) (hsz : hi ≤ w.heap.size) (hgm : GmP rows M) (hab : (-2 ≤ a ∧ a ≤ 10) ∧ (-2 ≤ b ∧ b ≤ 10)) :
  Calls Tryz.prog 80 [(.agg [v].toArray), (.int .i64 a), (.int .i64 b), u].toArray w fun e w' => e = .returned (.tuple #[]) ∧ ∃ M', DGrid 82 4 G w' lo hi u M' ∧ FldP (frP rows) M a b M' ∧ Ext (inR lo hi) G w G w' := comp_all g (cntF M + 1) hP hv hd hsz hgm hab (Nat.lt_succ_self _)

end QF1
end Go.Proofs.YtianphgdbfekdaaGreatDoor

set_option maxRecDepth 20000
set_option maxHeartbeats 2000000
namespace Go.Proofs.YtianphgdbfekdaaGreatDoor
namespace QP1
open Go.RowKit Go.GL Go.Proofs



theorem mk4 : (Tryz.prog.info? 4).map (fun i => (i.size, i.bytes, i.zero)) = some (1, 1, some (.bool false)) := by kernel_rfl




theorem marks_dspec {w : World} {G : Pin} {v : Value} {rows : List ByteArray} (hP : Pins G w) (hv : RSl eStr G v rows) (g : GbP rows) :
  Calls Tryz.prog 78 [(.agg [v].toArray)].toArray w fun e w' => ∃ (u : Value) (G' : Pin), e = .returned u ∧ DGrid 82 4 G' w' w.heap.size w'.heap.size u (zeroG rows) ∧ Ext noS G w G' w' := by
 refine s_enter (n := 22) Tryz.func78 Tryz.ntmps78 rfl rfl ?_
 have hX0 : Ext noS G w G w := Ext.refl hP
 have hm := hv.max
 have ghi := g.hi
 have gwd : 1 ≤ (rows.getD 0 ByteArray.empty).size ∧ (rows.getD 0 ByteArray.empty).size ≤ 8 := g.wd
 have geq : ∀ i, i < rows.length → (rows.getD i ByteArray.empty).size = (rows.getD 0 ByteArray.empty).size := g.eq
 have hlv0 : LvsB 4 G w w.heap.size w.heap.size [] := LvsB.nil
 refine s_seq (c_reg ?_)
 refine q1 rfl rfl rfl (o_box [v] (v := (.agg [v].toArray)) rfl rfl hX0.pins (fun b1 w2 hk3 hb4 hp5 hl6 => ?_))
 have hX7 := hX0.step hp5 hl6
 have hlv8 := (hlv0.below hl6).top
 have ha9 : ApLB [] (some b1) := ApLB.fresh hlv0 (fun k hk => by rw [(congrArg some hk3)] at hk; cases hk; exact Nat.le_refl _)
 have hlo10 : w.heap.size ≤ b1 := by have := hX0.size; omega
 obtain ⟨G11, hle12, hX13, hbp14, hf15⟩ := hb4.shut hX7 hlo10
 have hlv16 := hlv8.more hle12 hf15 ha9
 refine qd rfl rfl rfl (r_assign (v := (.slice none 0 0)) rfl) (qe (s_then (s_seq (c_reg ?_))))
 refine q1 rfl rfl rfl (o_build0 (E := eVal) (e := 82) Tryz.underlying80 sz82 hX13.pins (fun u17 w18 ho19 hp20 hl21 hk22 => ?_))
 have hX23 := hX13.step hp20 hl21
 have hlv24 := (hlv16.below hl21).top
 have ha25 : ApLB [] u17.ownBlock := ApLB.fresh hlv16 (fun k hk => by rw [hk22] at hk; cases hk; exact Nat.le_refl _)
 have ho26 : Own eVal 82 G11 w18 w.heap.size u17 ([]) := ho19.weaken hX13.size
 refine qd rfl rfl rfl (r_assign (v := u17) rfl) (qe (s_then (s_seq (s_seq (c_reg ?_)))))
 refine qd rfl rfl rfl (r_fldp (k := 0) rfl Tryz.underlying56 rfl nz22 rfl) (qd rfl rfl rfl (r_ldp1 (u := v) ag22 rfl (hX23.pins _ _ _ (hbp14 0 _ rfl))) (qd rfl rfl rfl (run_len Tryz.underlying22 (v := v) rfl hv) (qd rfl rfl rfl (r_move (v := (.int .i64 0)) rfl) (qe (s_then ?_)))))
 refine s_blk (s_loop (fun (k : Nat) (en : Nat → Value) (W : World) => ∃ (env1 : Nat → Value) (i : Nat) (ov : Value) (us : List Value) (LV : List LeafB) (GL1 : Pin), en = (upd (upd (upd (upd (upd env1 2 (.slice none 0 0)) 3 ov) 8 v) 9 (.int .i64 (rows.length : Int))) 10 (.int .i64 (i : Int))) ∧ k = rows.length - i ∧ Ext noS G w GL1 W ∧ Pin.le G11 GL1 ∧ (i ≤ rows.length) ∧ (us.length = i) ∧ (LV = lvG us ((List.range i).map fun i => List.replicate (rwS rows i).size false)) ∧ (Own eVal 82 GL1 W w.heap.size ov (us)) ∧ (LvsB 4 GL1 W w.heap.size W.heap.size LV) ∧ (ApLB LV ov.ownBlock)) _ ⟨_, 0, u17, [], [], G11, (packS (x := 10) (packS (x := 9) (packS (x := 8) (packS (x := 3) (pack1 (x := 2) rfl) rfl) rfl) rfl) rfl), rfl, hX23, Pin.le_refl _, Nat.zero_le _, rfl, rfl, ho26, hlv24, ha25⟩ ?_)
 rintro k27 _ w28 ⟨env1, i, ov, us, LV, GL1, rfl, hk29, hX30, hlek27, hi, hul, hLV, hw31, hlv32, ha33⟩
 refine s_seq (c_reg ?_)
 refine qd rfl rfl rfl (r_lss rfl rfl) (qe (s_then (s_seq ?_)))
 refine c_ifd (p := ((i : Int) : Int) < (rows.length : Int)) rfl rfl (fun h34 => ?_) (fun h34 => ?_)
 have hri := geq i (by omega)
 refine wp_skip (s_then (s_seq ?_))
 refine s_blk (s_seq (c_reg ?_))
 refine qd rfl rfl rfl (run_idx Tryz.underlying22 sz9 (v := v) rfl rfl hv (by omega) (by omega)) (qd rfl rfl rfl (run_load_str (r := rows.getD i ByteArray.empty) rfl ag9 (z := (i : Int)) rfl hv (Pins.of_le hX30.pins (Pin.le_trans hle12 hlek27)) (by omega) (by omega)) (qd rfl rfl rfl (r_assign (v := (.string (rows.getD i ByteArray.empty))) rfl) (qe (s_then (c_reg ?_)))))
 refine qd rfl rfl rfl (r_move (v := ov) rfl) (qd rfl rfl rfl (r_move (v := (.string (rows.getD i ByteArray.empty))) rfl) (qd rfl rfl rfl (r_lenS Tryz.underlying9 rfl) (q1 rfl rfl rfl (o_make (E := eBool) false 1 (.bool false) Tryz.underlying82 mk4 (fun _ => rfl) rfl rfl hX30.pins (by omega) (by omega) (by omega) (fun u35 w36 ho37 hp38 hl39 hk40 => ?_)))))
 have hX41 := hX30.step hp38 hl39
 have ho42 := hw31.below hl39
 have hlv43 := (hlv32.below hl39).top
 have ha44 : Apart u35.ownBlock ov.ownBlock := new_ne_own hk40 hw31.lt
 have ha45 : ApLB LV u35.ownBlock := ApLB.fresh hlv32 (fun k hk => by rw [hk40] at hk; cases hk; exact Nat.le_refl _)
 have ho46 : Own eBool 4 GL1 w36 w.heap.size u35 (List.replicate ((rows.getD i ByteArray.empty).size) false) := ho37.weaken hX30.size
 have hm47 : (List.replicate ((rows.getD i ByteArray.empty).size) false).length = ((rows.getD i ByteArray.empty).size) := List.length_replicate ..
 refine q1 rfl rfl rfl (o_buildF (E := eVal) (e := 82) [u35] [u35] Tryz.underlying80 sz82 zr82 (by exact reps1 (⟨rfl, ho46.one⟩)) (ones1 ho46.one) rfl rfl rfl rfl (by decide) hX41.pins (fun u48 w49 ho50 hp51 hl52 hk53 => ?_))
 have hX54 := hX41.step hp51 hl52
 have ho55 := ho42.below hl52
 have ho56 := ho46.below hl52
 have hlv57 := (hlv43.below hl52).top
 have ha60 : ApLB LV u48.ownBlock := ApLB.fresh hlv43 (fun k hk => by rw [hk53] at hk; cases hk; exact Nat.le_refl _)
 have ho61 : Own eVal 82 GL1 w49 w.heap.size u48 ([u35]) := ho50.weaken hX41.size
 refine q1 rfl rfl rfl (o_append (E := eVal) (v := ov) (u := u48) 24 Tryz.underlying80 ap82 (by decide) rfl rfl hX54.pins ho55 ho61.src (by first | omega | (rw [List.nil_append]; omega) | (rw [List.length_nil]; omega) | (rw [List.length_append]; omega) | (simp; done) | (simp; omega) | (simp only [List.length_cons, List.length_nil]; omega) | (simp only [List.length_append, List.length_cons, List.length_nil]; omega)) (by first | omega | (rw [List.nil_append]; omega) | (rw [List.length_nil]; omega) | (rw [List.length_append]; omega) | (simp; done) | (simp; omega) | (simp only [List.length_cons, List.length_nil]; omega) | (simp only [List.length_append, List.length_cons, List.length_nil]; omega)) (hX54.size) (fun u62 w63 ho64 hp65 hg66 hw67 => ?_))
 have hX68 := hX54.write hp65 hg66 ((lo_own ho55))
 have ho69 := ho56.keptA hg66 ha44
 have hlv71 := (hlv57.kept hg66 ha33).top
 have ha72 : Apart u35.ownBlock u62.ownBlock := app_ne_own ha44 hw67 ho56.lt
 have ha74 : ApLB LV u62.ownBlock := ApLB.app hlv57 ha33 hw67
 have hm75 : (us ++ ([u35])).length = us.length + 1 := List.length_append
 refine qd rfl rfl rfl (r_assign (v := u62) rfl) (qe (s_blkN (s_then (c_reg ?_))))
 refine qd rfl rfl rfl (r_add rfl rfl (by omega)) (qd rfl rfl rfl (r_move (v := (.int .i64 ((i : Int) + 1))) rfl) (qe (s_lopN ?_)))
 have hlv76 := hlv71.add ho69 ha45
 have ha77 : ApLB (LV ++ [(u35, List.replicate ((rows.getD i ByteArray.empty).size) false)]) u62.ownBlock := ha74.add ha72
 refine ⟨_, ?_, _, rfl, _, i + 1, u62, us ++ ([u35]), (LV ++ [(u35, List.replicate ((rows.getD i ByteArray.empty).size) false)]), GL1, (packS (x := 10) (packS (x := 9) (packS (x := 8) (packS (x := 3) (pack1 (x := 2) rfl) rfl) rfl) rfl) rfl), rfl, hX68, hlek27, (by omega), (by simp [hul]), (by rw [hLV, List.range_succ, List.map_append]; exact (lvG_snoc _ _ (by simp [hul])).symm), ho64, hlv76, ha77⟩
 omega
 refine wp_exit (s_thenE (s_lopE (s_blkE (s_then (s_seq (c_reg ?_))))))
 refine qd rfl rfl rfl (r_move (v := ov) rfl) (qd rfl rfl rfl (r_assign (v := ov) rfl) (qe (s_then ?_)))
 refine wp_ret (s_ret (c_ret1 (v := ov) rfl rfl rfl ?_))
 have hin : i = rows.length := by omega
 subst hin
 exact ⟨_, _, rfl, DGrid.make (by simp [zeroG, hul]) hw31 (hLV ▸ hlv32) (hLV ▸ ha33), hX30⟩

end QP1
end Go.Proofs.YtianphgdbfekdaaGreatDoor

set_option maxRecDepth 20000
set_option maxHeartbeats 2000000
namespace Go.Proofs.YtianphgdbfekdaaGreatDoor
namespace QP2
open Go.RowKit Go.GL Go.Proofs
open RM2 QB1 QB2 QF1 QP1

















theorem iparts_spec {w : World} {G : Pin} {v : Value} {rows : List ByteArray} (hP : Pins G w) (hv : RSl eStr G v rows) (g : GbP rows) :
  Calls Tryz.prog 51 [(.agg [v].toArray)].toArray w fun e w' => ∃ (u : Value) (G' : Pin), e = .returned u ∧ RSl (eSl eStr) G' u (bpM rows) ∧ Ext noS G w G' w' := by
 refine s_enter (n := 61) Tryz.func51 Tryz.ntmps51 rfl rfl ?_
 have hX0 : Ext noS G w G w := Ext.refl hP
 have hm := hv.max
 have ghi := g.hi
 have gwd : 1 ≤ (rows.getD 0 ByteArray.empty).size ∧ (rows.getD 0 ByteArray.empty).size ≤ 8 := g.wd
 have geq : ∀ i, i < rows.length → (rows.getD i ByteArray.empty).size = (rows.getD 0 ByteArray.empty).size := g.eq
 refine s_seq (c_reg ?_)
 refine q1 rfl rfl rfl (o_box [v] (v := (.agg [v].toArray)) rfl rfl hX0.pins (fun b1 w2 hk3 hb4 hp5 hl6 => ?_))
 have hX7 := hX0.step hp5 hl6
 have hlo8 : w.heap.size ≤ b1 := by have := hX0.size; omega
 obtain ⟨G9, hle10, hX11, hbp12, hf13⟩ := hb4.shut hX7 hlo8
 refine qd rfl rfl rfl (r_assign (v := (.slice none 0 0)) rfl) (qe (s_then (s_seq (c_reg ?_))))
 refine q1 rfl rfl rfl (o_build0 (E := (eSl eStr)) (e := 56) Tryz.underlying66 sz56 hX11.pins (fun u14 w15 ho16 hp17 hl18 hk19 => ?_))
 have hX20 := hX11.step hp17 hl18
 have ho21 : Own (eSl eStr) 56 G9 w15 w.heap.size u14 ([]) := ho16.weaken hX11.size
 refine qd rfl rfl rfl (r_assign (v := u14) rfl) (qe (s_then (s_seq (c_reg ?_))))
 refine qd rfl rfl rfl (r_ldpA (cs := [v]) ag56 sz56 rfl (fun j u hj => hX20.pins _ _ _ (hbp12 _ _ (by simpa using hj)))) (q1 rfl rfl rfl (o_call (vs := [(.agg [v].toArray)]) Tryz.func78 nm78 rfl rfl rfl ?_))
 refine Calls.mono (marks_dspec hX20.pins (hv.mono hle10) g) ?_
 rintro _ w24 ⟨u22, G23, rfl, hd25, hx26⟩
 refine ⟨_, rfl, ?_⟩
 have hao28 : ∀ k, u14.ownBlock = some k → k < w15.heap.size := own_lt ho21
 have hga27 : ∀ k, u14.ownBlock = some k → w24.heap.size ≤ k ∨ k < w15.heap.size := fun k hk => Or.inr (hao28 k hk)
 have hX29 := hX20.tr hx26
 have ho30 := ho21.ext hx26
 have hone31 := hd25.one
 refine qd rfl rfl rfl (r_assign (v := u22) rfl) (qe (s_then (s_seq (s_seq (c_reg ?_)))))
 refine qd rfl rfl rfl (r_fldp (k := 0) rfl Tryz.underlying56 rfl nz22 rfl) (qd rfl rfl rfl (r_ldp1 (u := v) ag22 rfl ((Pins.of_le hX29.pins hx26.le) _ _ _ (hbp12 0 _ rfl))) (qd rfl rfl rfl (run_len Tryz.underlying22 (v := v) rfl hv) (qd rfl rfl rfl (r_move (v := (.int .i64 0)) rfl) (qe (s_then ?_)))))
 refine s_blk (s_loop (fun (k : Nat) (en : Nat → Value) (W : World) => ∃ (env1 : Nat → Value) (r : Nat) (ov : Value) (os : List (List ByteArray)) (S : List (List Bool)) (GL1 : Pin), en = (upd (upd (upd (upd (upd (upd env1 1 (.pointer (some ⟨b1, 0, none⟩))) 2 (.slice none 0 0)) 3 ov) 4 u22) 13 (.int .i64 (rows.length : Int))) 14 (.int .i64 (r : Int))) ∧ k = rows.length - r ∧ Ext noS G w GL1 W ∧ Pin.le G23 GL1 ∧ (r ≤ rows.length) ∧ (os = bpAll rows r) ∧ (SeenP rows r 0 S) ∧ (os.length ≤ 8 * r) ∧ (Own (eSl eStr) 56 GL1 W w.heap.size ov (os)) ∧ (DGrid 82 4 GL1 W w15.heap.size w24.heap.size u22 (S)) ∧ (w24.heap.size ≤ W.heap.size) ∧ (∀ k, ov.ownBlock = some k → w24.heap.size ≤ k ∨ k < w15.heap.size)) _ ⟨_, 0, u14, [], zeroG rows, G23, (packS (x := 14) (packS (x := 13) (packS (x := 4) (packS (x := 3) (packS (x := 2) (pack1 (x := 1) rfl) rfl) rfl) rfl) rfl) rfl), rfl, hX29, Pin.le_refl _, Nat.zero_le _, rfl, (seen_zero g), Nat.zero_le _, ho30, hd25, (Nat.le_refl w24.heap.size), hga27⟩ ?_)
 rintro k32 _ w33 ⟨env1, r, ov, os, S, GL1, rfl, hk34, hX35, hlek32, hi, hos, hsn, hol, hw36, hgd37, hgs38, hga39⟩
 refine s_seq (c_reg ?_)
 refine qd rfl rfl rfl (r_lss rfl rfl) (qe (s_then (s_seq ?_)))
 refine c_ifd (p := ((r : Int) : Int) < (rows.length : Int)) rfl rfl (fun h40 => ?_) (fun h40 => ?_)
 have hrr := geq r (by omega)
 refine wp_skip (s_then (s_seq ?_))
 refine s_blk (s_seq (c_reg ?_))
 refine qd rfl rfl rfl (r_move (v := (.int .i64 (r : Int))) rfl) (qd rfl rfl rfl (r_assign (v := (.int .i64 (r : Int))) rfl) (qe (s_then (s_seq (c_reg ?_)))))
 refine qd rfl rfl rfl (r_fldp (k := 0) rfl Tryz.underlying56 rfl nz22 rfl) (qd rfl rfl rfl (r_ldp1 (u := v) ag22 rfl ((Pins.of_le hX35.pins (Pin.le_trans hx26.le hlek32)) _ _ _ (hbp12 0 _ rfl))) (qd rfl rfl rfl (r_move (v := (.int .i64 (r : Int))) rfl) (qd rfl rfl rfl (run_idx Tryz.underlying22 sz9 (v := v) rfl rfl hv (by omega) (by omega)) (qd rfl rfl rfl (run_load_str (r := rows.getD r ByteArray.empty) rfl ag9 (z := (r : Int)) rfl hv (Pins.of_le hX35.pins (Pin.le_trans (Pin.le_trans hle10 hx26.le) hlek32)) (by omega) (by omega)) (q1 rfl rfl rfl (o_range Tryz.underlying9 rfl hX35.pins (fun k41 w42 hk43 hit44 hp45 hl46 => ?_)))))))
 have hX47 := hX35.step hp45 hl46
 have ho48 := hw36.below hl46
 have hd49 := hgd37.below hl46
 have hs50 := Nat.le_trans hgs38 hl46.size
 have hlo51 : w.heap.size ≤ k41 := by have := hX35.size; omega
 have ha52 : w24.heap.size ≤ k41 ∨ k41 < w15.heap.size := Or.inl (by have := hgs38; omega)
 refine qe (s_then ?_)
 refine s_blk (s_loop (fun (k : Nat) (en : Nat → Value) (W : World) => ∃ (env1 : Nat → Value) (c9 : Nat) (ov2 : Value) (os2 : List (List ByteArray)) (S2 : List (List Bool)) (GL2 : Pin), en = (upd (upd (upd (upd (upd (upd (upd (upd env1 1 (.pointer (some ⟨b1, 0, none⟩))) 2 (.slice none 0 0)) 3 ov2) 4 u22) 5 (.int .i64 (r : Int))) 13 (.int .i64 (rows.length : Int))) 14 (.int .i64 (r : Int))) 22 (.pointer (some ⟨k41, 0, none⟩))) ∧ k = (rows.getD r ByteArray.empty).size - c9 ∧ Ext noS G w GL2 W ∧ Pin.le GL1 GL2 ∧ (c9 ≤ (rows.getD r ByteArray.empty).size) ∧ (os2 = os ++ bpRow rows r c9) ∧ (SeenP rows r c9 S2) ∧ (os2.length ≤ 8 * r + c9) ∧ (Own (eSl eStr) 56 GL2 W w.heap.size ov2 (os2)) ∧ (It W k41 (rows.getD r ByteArray.empty) c9) ∧ (DGrid 82 4 GL2 W w15.heap.size w24.heap.size u22 (S2)) ∧ (w24.heap.size ≤ W.heap.size) ∧ (∀ k, ov2.ownBlock = some k → w24.heap.size ≤ k ∨ k < w15.heap.size)) _ ⟨_, 0, ov, os, S, GL1, (packS (x := 22) (packS (x := 14) (packS (x := 13) (packS (x := 5) (packS (x := 4) (packS (x := 3) (packS (x := 2) (pack1 (x := 1) rfl) rfl) rfl) rfl) rfl) rfl) rfl) rfl), rfl, hX47, Pin.le_refl _, Nat.zero_le _, (by simp [bpRow]), hsn, (by omega), ho48, hit44, hd49, hs50, hga39⟩ ?_)
 rintro k53 _ w54 ⟨env1, c9, ov2, os2, S2, GL2, rfl, hk55, hX56, hlek53, hc, hos2, hsn2, hol2, hw57, hit58, hgd59, hgs60, hga61⟩
 refine s_seq (c_reg ?_)
 by_cases h62 : c9 < (rows.getD r ByteArray.empty).size
 refine q1 rfl rfl rfl (o_nextY rfl hit58 hX56.pins h62 (by have := g.ch r (by omega) c9 (by have := geq r (by omega); show c9 < (rows.getD 0 ByteArray.empty).size; omega); unfold rwS at this; omega) (fun w63 hit64 hp65 hg66 hz67 => ?_))
 have hX68 := hX56.write hp65 hg66 ((lo_box hlo51))
 have ho69 := hw57.keptA hg66 (hit58.ap_own hw57)
 have hd70 := hgd59.kept hg66 ha52
 have hs71 := Nat.le_trans hgs60 hg66.size
 refine qd rfl rfl rfl (r_extract (v := (.bool true)) rfl rfl) (qe (s_then (s_seq ?_)))
 refine c_ifT rfl rfl (wp_skip (s_then (s_blk (s_seq (c_reg ?_)))))
 refine qd rfl rfl rfl (r_extract (v := (.int .i64 (c9 : Int))) rfl rfl) (qd rfl rfl rfl (r_assign (v := (.int .i64 (c9 : Int))) rfl) (qe (s_then (s_seq (s_seq (c_reg ?_))))))
 refine qd rfl rfl rfl (r_ldpA (cs := [v]) ag56 sz56 rfl (fun j u hj => (Pins.of_le hX68.pins (Pin.le_trans (Pin.le_trans hx26.le hlek32) hlek53)) _ _ _ (hbp12 _ _ (by simpa using hj)))) (qd rfl rfl rfl (r_move (v := (.int .i64 (r : Int))) rfl) (qd rfl rfl rfl (r_move (v := (.int .i64 (c9 : Int))) rfl) (q1 rfl rfl rfl (o_call (vs := [(.agg [v].toArray), (.int .i64 (r : Int)), (.int .i64 (c9 : Int))]) Tryz.func79 nm79 rfl rfl rfl ?_))))
 refine Calls.mono (free_spec (r := (r : Int)) (c := (c9 : Int)) hX68.pins (hv.mono (Pin.le_trans (Pin.le_trans (Pin.le_trans hle10 hx26.le) hlek32) hlek53)) g) ?_
 rintro _ w73 ⟨G72, rfl, hx74⟩
 refine ⟨_, rfl, ?_⟩
 have hX75 := hX68.tr hx74
 have ho76 := ho69.ext hx74
 have hd77 := hd70.ext hx74
 have hs78 := Nat.le_trans hs71 hx74.size
 have hit79 := hit64.ext hx74
 refine qd rfl rfl rfl (r_not rfl) (qd rfl rfl rfl (r_move (v := (.bool (!(frI rows (r : Int) (c9 : Int))))) rfl) (qbn (t := 31) rfl (fun h80 => ?_) (fun h80 => ?_)))
 have hsl := hsn2.gm.len
 have hsr : (S2.getD r []).length = (rows.getD 0 ByteArray.empty).size := hsn2.gm.row r (by omega)
 refine qdg rfl rfl rfl rfl rfl rfl (r_move (v := u22) rfl) (qdg rfl rfl rfl rfl rfl rfl (r_move (v := (.int .i64 (r : Int))) rfl) ?_)
 obtain ⟨us81, hul82, ho83, ho84, hrg85, hst86, hap87, hrg88⟩ := hd77.leaf2 (i := r) (by omega)
 have hm93 : us81.length = S2.length := hul82
 refine qdg rfl rfl rfl rfl rfl rfl (run_idx Tryz.underlying80 sz82 (v := u22) rfl rfl ho83.read (by omega) (by omega)) ?_
 obtain ⟨cs94, hrep95, hagg96, hcell97⟩ := nm_el (j := r) default (ho83.at (z := (r : Int)) (by omega) (by omega)) rfl
 obtain ⟨rfl, hone100⟩ := hrep95
 refine qdg rfl rfl rfl rfl rfl rfl (hcell97 0 (us81.getD r default) (by rw [show (us81.getD r default) = (us81.getD r default) from rfl]; rfl) ag82 rfl (Gadd.pins hX75.pins u22)) (qdg rfl rfl rfl rfl rfl rfl (r_move (v := (.int .i64 (c9 : Int))) rfl) (qdg rfl rfl rfl rfl rfl rfl (run_idx Tryz.underlying82 sz4 (v := (us81.getD r default)) rfl rfl ho84.read (by omega) (by omega)) (qdg rfl rfl rfl rfl rfl rfl (run_load_bool (r := (S2.getD r []).getD c9 false) rfl ag4 (z := (c9 : Int)) rfl ho84.read (Gadd.pins hX75.pins (us81.getD r default)) (by omega) (by omega)) (qd rfl rfl rfl (r_pickF (v := (.bool ((S2.getD r []).getD c9 false))) rfl rfl) (qe (s_then ?_))))))
 refine c_if rfl rfl (fun h101 => ?_) (fun h101 => ?_)
 refine wp_exit (s_thenE (s_blkE (s_lopN (⟨_, ?_, _, rfl, _, c9 + 1, ov2, os2, S2, G72, (packS (x := 22) (packS (x := 14) (packS (x := 13) (packS (x := 5) (packS (x := 4) (packS (x := 3) (packS (x := 2) (pack1 (x := 1) rfl) rfl) rfl) rfl) rfl) rfl) rfl) rfl), rfl, hX75, (Pin.le_trans hlek53 hx74.le), (by omega), (by rw [bpRow_no (fst_no2 hsn2 h101), hos2]), (seen_old hsn2 h101), (by omega), ho76, hit79, hd77, hs78, hga61⟩))))
 omega
 refine wp_skip (s_then (s_seq (c_reg ?_)))
 refine qd rfl rfl rfl (r_ldpA (cs := [v]) ag56 sz56 rfl (fun j u hj => (Pins.of_le hX75.pins (Pin.le_trans (Pin.le_trans (Pin.le_trans hx26.le hlek32) hlek53) hx74.le)) _ _ _ (hbp12 _ _ (by simpa using hj)))) (q1 rfl rfl rfl (o_call (vs := [(.agg [v].toArray)]) Tryz.func78 nm78 rfl rfl rfl ?_))
 refine Calls.mono (marks_dspec hX75.pins (hv.mono (Pin.le_trans (Pin.le_trans (Pin.le_trans (Pin.le_trans hle10 hx26.le) hlek32) hlek53) hx74.le)) g) ?_
 rintro _ w104 ⟨u102, G103, rfl, hd105, hx106⟩
 refine ⟨_, rfl, ?_⟩
 have hao108 : ∀ k, ov2.ownBlock = some k → k < w73.heap.size := own_lt ho76
 have hga107 : ∀ k, ov2.ownBlock = some k → w104.heap.size ≤ k ∨ k < w73.heap.size := fun k hk => Or.inr (hao108 k hk)
 have hga109 : w104.heap.size ≤ k41 ∨ k41 < w73.heap.size := Or.inr hit79.lt
 have hgd110 : Sep w15.heap.size w24.heap.size w73.heap.size w104.heap.size := Or.inl hs78
 have hX111 := hX75.tr hx106
 have ho112 := ho76.ext hx106
 have hit113 := hit79.ext hx106
 have hd114 := hd77.ext hx106
 have hs115 := Nat.le_trans hs78 hx106.size
 have hone116 := hd105.one
 refine qd rfl rfl rfl (r_assign (v := u102) rfl) (qe (s_then (s_seq (c_reg ?_))))
 refine qd rfl rfl rfl (r_ldpA (cs := [v]) ag56 sz56 rfl (fun j u hj => (Pins.of_le hX111.pins (Pin.le_trans (Pin.le_trans (Pin.le_trans (Pin.le_trans hx26.le hlek32) hlek53) hx74.le) hx106.le)) _ _ _ (hbp12 _ _ (by simpa using hj)))) (qd rfl rfl rfl (r_move (v := (.int .i64 (r : Int))) rfl) (qd rfl rfl rfl (r_move (v := (.int .i64 (c9 : Int))) rfl) (qd rfl rfl rfl (r_move (v := u102) rfl) (q1 rfl rfl rfl (o_call (vs := [(.agg [v].toArray), (.int .i64 (r : Int)), (.int .i64 (c9 : Int)), u102]) Tryz.func80 nm80 rfl rfl rfl ?_)))))
 refine Calls.mono (comp_spec (a := (r : Int)) (b := (c9 : Int)) g hX111.pins (hv.mono (Pin.le_trans (Pin.le_trans (Pin.le_trans (Pin.le_trans (Pin.le_trans hle10 hx26.le) hlek32) hlek53) hx74.le) hx106.le)) hd105 (Nat.le_refl w104.heap.size) (zero_gm g) (by omega)) ?_
 rintro _ w121 ⟨rfl, M117, hd118, hfl119, hx120⟩
 refine ⟨_, rfl, ?_⟩
 have hs122 := Nat.le_trans (Nat.le_refl w104.heap.size) hx120.size
 have hgm123 := (zero_gm g).same hfl119.sh
 have hcn124 := hfl119.less
 have hX125 := hX111.trans hx120 (fun i hi => Or.inl (Nat.le_trans hX75.size hi.1))
 have hit126 := hit113.sep hx120 hga109
 have ho127 := ho112.extS hx120 (fun k hk hi => by have := hga107 k hk; have := hi.1; have := hi.2; omega)
 have hd128 := hd114.extS hx120 (fun k h1 h2 hi => g_out hgd110 ⟨h1, h2⟩ hi)
 have hs129 := Nat.le_trans hs115 hx120.size
 refine qe (s_then (s_seq (c_reg ?_)))
 refine qd rfl rfl rfl (r_ldpA (cs := [v]) ag56 sz56 rfl (fun j u hj => (Pins.of_le hX125.pins (Pin.le_trans (Pin.le_trans (Pin.le_trans (Pin.le_trans hx26.le hlek32) hlek53) hx74.le) hx106.le)) _ _ _ (hbp12 _ _ (by simpa using hj)))) (qd rfl rfl rfl (r_move (v := (.int .i64 (r : Int))) rfl) (qd rfl rfl rfl (r_move (v := (.int .i64 (c9 : Int))) rfl) (qd rfl rfl rfl (r_move (v := u22) rfl) (q1 rfl rfl rfl (o_call (vs := [(.agg [v].toArray), (.int .i64 (r : Int)), (.int .i64 (c9 : Int)), u22]) Tryz.func80 nm80 rfl rfl rfl ?_)))))
 refine Calls.mono (comp_spec (a := (r : Int)) (b := (c9 : Int)) g hX125.pins (hv.mono (Pin.le_trans (Pin.le_trans (Pin.le_trans (Pin.le_trans (Pin.le_trans hle10 hx26.le) hlek32) hlek53) hx74.le) hx106.le)) hd128 hs129 hsn2.gm (by omega)) ?_
 rintro _ w134 ⟨rfl, M130, hd131, hfl132, hx133⟩
 refine ⟨_, rfl, ?_⟩
 have hs135 := Nat.le_trans hs129 hx133.size
 have hgm136 := hsn2.gm.same hfl132.sh
 have hcn137 := hfl132.less
 have hX138 := hX125.trans hx133 (fun i hi => Or.inl (Nat.le_trans hX20.size hi.1))
 have hit139 := hit126.sep hx133 ha52
 have ho140 := ho127.extS hx133 (fun k hk hi => by have := hga61 k hk; have := hi.1; have := hi.2; omega)
 have hd141 := hd118.extS hx133 (fun k h1 h2 hi => g_out (hgd110).symm ⟨h1, h2⟩ hi)
 have hs142 := Nat.le_trans hs122 hx133.size
 refine qe (s_then (c_reg ?_))
 obtain rfl : M117 = (fldM rows (r : Int) (c9 : Int)) := fld_is g hfl119
 obtain ⟨G143, hle144, hp145, hr146, hf147⟩ := hd141.read hX138.pins
 have hX148 := hX138.promise hle144 hp145 hf147 hX75.size
 have ho149 := ho140.wider hle144 hf147 hao108
 have hd150 := hd131.wider hle144 hf147 (Nat.le_trans hs78 (Nat.le_refl _))
 refine qd rfl rfl rfl (r_move (v := ov2) rfl) (qd rfl rfl rfl (r_ldpA (cs := [v]) ag56 sz56 rfl (fun j u hj => (Pins.of_le hX148.pins (Pin.le_trans (Pin.le_trans (Pin.le_trans (Pin.le_trans (Pin.le_trans hx26.le hlek32) hlek53) hx74.le) hx106.le) hle144)) _ _ _ (hbp12 _ _ (by simpa using hj)))) (qd rfl rfl rfl (r_move (v := u102) rfl) (q1 rfl rfl rfl (o_call (vs := [(.agg [v].toArray), u102]) Tryz.func81 nm81 rfl rfl rfl ?_))))
 refine Calls.mono (only_spec hX148.pins (hv.mono (Pin.le_trans (Pin.le_trans (Pin.le_trans (Pin.le_trans (Pin.le_trans (Pin.le_trans hle10 hx26.le) hlek32) hlek53) hx74.le) hx106.le) hle144)) hr146 g (gdM_gm _) (fun i k hi hk h => fld_free hi hk h)) ?_
 rintro _ w153 ⟨u151, G152, rfl, hr154, hx155⟩
 refine ⟨_, rfl, ?_⟩
 have hX156 := hX148.tr hx155
 have ho157 := ho149.ext hx155
 have hit158 := hit139.ext hx155
 have hd159 := hd150.ext hx155
 have hs160 := Nat.le_trans hs135 hx155.size
 refine q1 rfl rfl rfl (o_call (vs := [(.agg [u151].toArray)]) Tryz.func82 nm82 rfl rfl rfl ?_)
 refine Calls.mono (trimmed_spec hX156.pins hr154 (bdG_good g (gdM_gm _)).1) ?_
 rintro _ w163 ⟨u161, G162, rfl, hr164, hx165⟩
 refine ⟨_, rfl, ?_⟩
 have hX166 := hX156.tr hx165
 have ho167 := ho157.ext hx165
 have hit168 := hit158.ext hx165
 have hd169 := hd159.ext hx165
 have hs170 := Nat.le_trans hs160 hx165.size
 refine q1 rfl rfl rfl (o_build1 (E := (eSl eStr)) (e := 56) [u161] (trM (bdM (fldM rows (r : Int) (c9 : Int)))) Tryz.underlying66 sz56 zr56 ⟨_, rfl, hr164⟩ rfl (by decide) hX166.pins (fun u171 w172 ho173 hp174 hl175 hk176 => ?_))
 have hX177 := hX166.step hp174 hl175
 have ho178 := ho167.below hl175
 have hit179 := hit168.below hl175
 have hd180 := hd169.below hl175
 have hs181 := Nat.le_trans hs170 hl175.size
 have ha183 : ∀ k, u171.ownBlock = some k → w24.heap.size ≤ k ∨ k < w15.heap.size := fun k hk => Or.inl (by have e := Option.some.inj ((hk176).symm.trans hk); have := hs170; omega)
 have ho184 : Own (eSl eStr) 56 G162 w172 w.heap.size u171 ([trM (bdM (fldM rows (r : Int) (c9 : Int)))]) := ho173.weaken hX166.size
 refine q1 rfl rfl rfl (o_append (E := (eSl eStr)) (v := ov2) (u := u171) 24 Tryz.underlying66 ap56 (by decide) rfl rfl hX177.pins ho178 ho184.src (by first | omega | (rw [List.nil_append]; omega) | (rw [List.length_nil]; omega) | (rw [List.length_append]; omega) | (simp; done) | (simp; omega) | (simp only [List.length_cons, List.length_nil]; omega) | (simp only [List.length_append, List.length_cons, List.length_nil]; omega)) (by first | omega | (rw [List.nil_append]; omega) | (rw [List.length_nil]; omega) | (rw [List.length_append]; omega) | (simp; done) | (simp; omega) | (simp only [List.length_cons, List.length_nil]; omega) | (simp only [List.length_append, List.length_cons, List.length_nil]; omega)) (hX177.size) (fun u185 w186 ho187 hp188 hg189 hw190 => ?_))
 have hit191 := hit179.kept hg189 (hit179.ne_own ho178)
 have hX192 := hX177.write hp188 hg189 ((lo_own ho178))
 have hd194 := hd180.keptO hg189 hga61
 have hs195 := Nat.le_trans hs181 hg189.size
 have ha197 : ∀ k, u185.ownBlock = some k → w24.heap.size ≤ k ∨ k < w15.heap.size := g_app hga61 hs181 hw190
 have hm198 : (os2 ++ ([trM (bdM (fldM rows (r : Int) (c9 : Int)))])).length = os2.length + 1 := List.length_append
 refine qd rfl rfl rfl (r_assign (v := u185) rfl) (qe (s_blkN (s_lopN (⟨_, ?_, _, rfl, _, c9 + 1, u185, os2 ++ [pbM rows r c9], M130, G162, (packS (x := 22) (packS (x := 14) (packS (x := 13) (packS (x := 5) (packS (x := 4) (packS (x := 3) (packS (x := 2) (pack1 (x := 1) rfl) rfl) rfl) rfl) rfl) rfl) rfl) rfl), rfl, hX192, (Pin.le_trans (Pin.le_trans (Pin.le_trans (Pin.le_trans (Pin.le_trans hlek53 hx74.le) hx106.le) hle144) hx155.le) hx165.le), (by omega), (by rw [bpRow_yes (fst_yes hsn2 (fr_of h80) h101), hos2, List.append_assoc]), (seen_new hsn2 hfl132), (by simp; omega), ho187, hit191, hd194, hs195, ha197⟩))))
 omega
 refine qs rfl rfl rfl rfl rfl rfl (qs rfl rfl rfl rfl rfl rfl (qs rfl rfl rfl rfl rfl rfl (qs rfl rfl rfl rfl rfl rfl (qs rfl rfl rfl rfl rfl rfl (qs rfl rfl rfl rfl rfl rfl (qs rfl rfl rfl rfl rfl rfl (qd rfl rfl rfl (r_pickT (v := (.bool true)) rfl rfl) (qe (s_then ?_)))))))))
 refine c_ifT rfl rfl (wp_exit (s_thenE (s_blkE (s_lopN (⟨_, ?_, _, rfl, _, c9 + 1, ov2, os2, S2, G72, (packS (x := 22) (packS (x := 14) (packS (x := 13) (packS (x := 5) (packS (x := 4) (packS (x := 3) (packS (x := 2) (pack1 (x := 1) rfl) rfl) rfl) rfl) rfl) rfl) rfl) rfl), rfl, hX75, (Pin.le_trans hlek53 hx74.le), (by omega), (by rw [bpRow_no (fst_no1 (fr_of h80)), hos2]), (seen_no hsn2 (fr_of h80)), (by omega), ho76, hit79, hd77, hs78, hga61⟩)))))
 omega
 refine q1 rfl rfl rfl (o_nextN rfl hit58 h62 ?_)
 refine qd rfl rfl rfl (r_extract (v := (.bool false)) rfl rfl) (qe (s_then (s_seq ?_)))
 refine c_ifF rfl rfl (wp_exit (s_thenE (s_lopE (s_blkE (s_blkN (s_then (c_reg ?_)))))))
 refine qd rfl rfl rfl (r_add rfl rfl (by omega)) (qd rfl rfl rfl (r_move (v := (.int .i64 ((r : Int) + 1))) rfl) (qe (s_lopN (⟨_, ?_, _, rfl, _, r + 1, ov2, os2, S2, GL2, (packS (x := 14) (packS (x := 13) (packS (x := 4) (packS (x := 3) (packS (x := 2) (pack1 (x := 1) rfl) rfl) rfl) rfl) rfl) rfl), rfl, hX56, (Pin.le_trans hlek32 hlek53), (by omega), (by rw [bpAll_succ, ← hos, hos2, show c9 = wdS rows by show c9 = (rows.getD 0 ByteArray.empty).size; omega]), (seen_row g hsn2 (by show (rows.getD 0 ByteArray.empty).size ≤ c9; omega)), (by omega), hw57, hgd59, hgs60, hga61⟩))))
 omega
 refine wp_exit (s_thenE (s_lopE (s_blkE (s_then (s_seq (c_reg ?_))))))
 refine qd rfl rfl rfl (r_move (v := ov) rfl) (qd rfl rfl rfl (r_assign (v := ov) rfl) (qe (s_then ?_)))
 refine wp_ret (s_ret (c_ret1 (v := ov) rfl rfl rfl ?_))
 obtain ⟨G199, hle202, hX201, hr200, hf203⟩ := hw36.sealed hX35
 have hrn : r = rows.length := by omega
 subst hrn
 exact ⟨_, _, rfl, (by unfold bpM; rw [← hos]; exact hr200), hX201⟩

end QP2
end Go.Proofs.YtianphgdbfekdaaGreatDoor

set_option maxRecDepth 20000
set_option maxHeartbeats 2000000
namespace Go.Proofs.YtianphgdbfekdaaGreatDoor
namespace QR1
open Go.RowKit Go.GL Go.Proofs
open RM1 RM2 RM3 PT3 PTB PW1 PW3 PW5 PW2 QS1 QP2












theorem pl36 : (Tryz.prog.underlying 36).bind (placesD Tryz.prog) = some [(0, 1), (1, 1)] := by kernel_rfl
theorem pl56 : (Tryz.prog.underlying 56).bind (placesD Tryz.prog) = some [(0, 1)] := by kernel_rfl





theorem cboard_spec {w : World} {G : Pin} {a t : ByteArray} (hP : Pins G w) (hM : MxG 0 G) (hs : t.size ≤ 1048576) :
  Calls Tryz.prog 50 [(.agg [(.string a), (.string t)].toArray)].toArray w fun e w' => ∃ (u : Value) (G' : Pin), e = .returned (.agg [u].toArray) ∧ RSl eStr G' u (partsB 47 t) ∧ Ext noS G w G' w' := by
 refine s_enter (n := 7) Tryz.func50 Tryz.ntmps50 rfl rfl ?_
 have hX0 : Ext noS G w G w := Ext.refl hP
 refine s_seq (c_reg ?_)
 refine q1 rfl rfl rfl (o_box [(.string a), (.string t)] (v := (.agg [(.string a), (.string t)].toArray)) rfl rfl hX0.pins (fun b1 w2 hk3 hb4 hp5 hl6 => ?_))
 have hX7 := hX0.step hp5 hl6
 have hlo8 : w.heap.size ≤ b1 := by have := hX0.size; omega
 obtain ⟨G9, hle10, hX11, hbp12, hf13⟩ := hb4.shut hX7 hlo8
 refine q1 rfl rfl rfl (o_alloc [(.slice none 0 0)] zr56 rfl hX11.pins (fun b14 w15 hk16 hb17 hp18 hl19 => ?_))
 have hX20 := hX11.step hp18 hl19
 have hlo21 : w.heap.size ≤ b14 := by have := hX11.size; omega
 refine qe (s_then (s_seq (c_reg ?_)))
 refine qd rfl rfl rfl (r_fldp (k := 1) rfl Tryz.underlying36 rfl nz9 rfl) (qd rfl rfl rfl (r_ldp1 (u := (.string t)) ag9 rfl (hX20.pins _ _ _ (hbp12 1 _ rfl))) (q1 rfl rfl rfl (o_call (vs := [(.string t), (.string (⟨#[47]⟩ : ByteArray))]) Tryz.func22 nm22 rfl rfl rfl ?_)))
 refine Calls.mono (splitP_spec (s := t) (c := 47) hX20.pins (hM.le hle10) (by omega)) ?_
 rintro _ w24 ⟨u22, G23, rfl, ho25, hx26⟩
 refine ⟨_, rfl, ?_⟩
 have hX27 := hX20.tr hx26
 have hb28 := hb17.ext hx26
 have ha29 : Apart u22.ownBlock (some b14) := made_ne_box ho25.lt hb17.lt
 have ho30 : Own eStr 9 G23 w24 w.heap.size u22 (partsB 47 t) := ho25.weaken hX20.size
 have hm31 := parts_len 47 t
 have hm32 := parts_ne 47 t
 refine qd rfl rfl rfl (r_build [(.slice none 0 0)] [u22] [(0, u22, [u22])] Tryz.underlying56 zr56 rfl pl56 rfl (List.forall_mem_cons.2 ⟨(cells_one ho30.one), (fun _ h => by cases h)⟩) rfl) (q0 rfl rfl rfl (o_stp (cs' := [u22]) (us := [u22]) (v := (.agg [u22].toArray)) sz56 rfl rfl rfl (ones1 ho30.one) hX27.pins hb28 (Nat.le_of_ble_eq_true rfl) rfl (fun w33 hb34 hp35 hg36 hz37 => ?_)))
 have hX38 := hX27.write hp35 hg36 ((lo_box hlo21))
 have ho39 := ho30.keptA hg36 ha29
 refine qe (s_then ?_)
 refine wp_ret (s_ret (c_retc (cs := [u22]) rfl rfl rfl ag56 sz56 (fun j u hj => by rw [Nat.zero_add]; exact hb34.cell hj) ?_))
 obtain ⟨G40, hle43, hX42, hr41, hf44⟩ := ho39.sealed hX38
 exact ⟨_, _, rfl, hr41, hX42⟩

theorem cparts_spec {w : World} {G : Pin} {a t : ByteArray} (hP : Pins G w) (hM : MxG 0 G) (g : AgP (vbI a) t) :
  Calls Tryz.prog 25 [(.agg [(.string a), (.string t)].toArray)].toArray w fun e w' => ∃ (u : Value) (G' : Pin), e = .returned u ∧ RSl eS2 G' u (partsC (a, t)) ∧ Ext noS G w G' w' := by
 refine s_enter (n := 73) Tryz.func25 Tryz.ntmps25 rfl rfl ?_
 have hX0 : Ext noS G w G w := Ext.refl hP
 have hvb := vb_rng (a := a)
 have hag := ag_size g
 have hg0 := ag_pos g
 have hspl := sp_len (k := vbI a) (t := t)
 refine s_seq (c_reg ?_)
 refine q1 rfl rfl rfl (o_box [(.string a), (.string t)] (v := (.agg [(.string a), (.string t)].toArray)) rfl rfl hX0.pins (fun b1 w2 hk3 hb4 hp5 hl6 => ?_))
 have hX7 := hX0.step hp5 hl6
 have hlo8 : w.heap.size ≤ b1 := by have := hX0.size; omega
 obtain ⟨G9, hle10, hX11, hbp12, hf13⟩ := hb4.shut hX7 hlo8
 refine qd rfl rfl rfl (r_assign (v := (.slice none 0 0)) rfl) (qe (s_then (s_seq (c_reg ?_))))
 refine q1 rfl rfl rfl (o_build0 (E := eS2) (e := 36) Tryz.underlying31 sz36 hX11.pins (fun u14 w15 ho16 hp17 hl18 hk19 => ?_))
 have hX20 := hX11.step hp17 hl18
 have ho21 : Own eS2 36 G9 w15 w.heap.size u14 ([]) := ho16.weaken hX11.size
 refine qd rfl rfl rfl (r_assign (v := u14) rfl) (qe (s_then (s_seq (s_seq (c_reg ?_)))))
 refine qd rfl rfl rfl (r_fldp (k := 0) rfl Tryz.underlying36 rfl nz9 rfl) (qd rfl rfl rfl (r_ldp1 (u := (.string a)) ag9 rfl (hX20.pins _ _ _ (hbp12 0 _ rfl))) (qe (s_then ?_)))
 refine s_blk (s_seq (c_reg ?_))
 refine qd rfl rfl rfl (r_eqlS rfl rfl) (qd rfl rfl rfl (r_assign (v := (.bool (a.toList == (⟨#[100, 111, 109]⟩ : ByteArray).toList))) rfl) (qe (s_then ?_)))
 refine c_if rfl rfl (fun h22 => ?_) (fun h22 => ?_)
 refine s_seq (c_reg ?_)
 have hgb : GbP (partsB 47 t) := (g.dom (by have q4 := vb_y 4 (by omega) h22; omega)).g
 have hbl := bp_len hgb
 refine qd rfl rfl rfl (r_ldpA (cs := [(.string a), (.string t)]) ag36 sz36 rfl (fun j u hj => hX20.pins _ _ _ (hbp12 _ _ (by simpa using hj)))) (q1 rfl rfl rfl (o_call (vs := [(.agg [(.string a), (.string t)].toArray)]) Tryz.func50 nm50 rfl rfl rfl ?_))
 refine Calls.mono (cboard_spec (a := a) (t := t) hX20.pins (hM.le hle10) (by omega)) ?_
 rintro _ w25 ⟨u23, G24, rfl, hr26, hx27⟩
 refine ⟨_, rfl, ?_⟩
 have hX28 := hX20.tr hx27
 have ho29 := ho21.ext hx27
 refine q1 rfl rfl rfl (o_call (vs := [(.agg [u23].toArray)]) Tryz.func51 nm51 rfl rfl rfl ?_)
 refine Calls.mono (iparts_spec hX28.pins hr26 hgb) ?_
 rintro _ w32 ⟨u30, G31, rfl, hr33, hx34⟩
 refine ⟨_, rfl, ?_⟩
 have hX35 := hX28.tr hx34
 have ho36 := ho29.ext hx34
 refine qd rfl rfl rfl (run_len Tryz.underlying66 (v := u30) rfl hr33) (qd rfl rfl rfl (r_move (v := (.int .i64 0)) rfl) (qe (s_then ?_)))
 refine s_blk (s_loop (fun (k : Nat) (en : Nat → Value) (W : World) => ∃ (env1 : Nat → Value) (j : Nat) (ov : Value) (os : List (ByteArray × ByteArray)) (GL1 : Pin), en = (upd (upd (upd (upd (upd env1 2 (.slice none 0 0)) 3 ov) 33 u30) 34 (.int .i64 ((bpM (partsB 47 t)).length : Int))) 35 (.int .i64 (j : Int))) ∧ k = (bpM (partsB 47 t)).length - j ∧ Ext noS G w GL1 W ∧ Pin.le G31 GL1 ∧ (j ≤ (bpM (partsB 47 t)).length) ∧ (os = (((bpM (partsB 47 t)).take j).filter mvN).map fun x => ((⟨#[100, 111, 109]⟩ : ByteArray), joinC 47 x)) ∧ (os.length ≤ j) ∧ (Own eS2 36 GL1 W w.heap.size ov (os))) _ ⟨_, 0, u14, [], G31, (packS (x := 35) (packS (x := 34) (packS (x := 33) (packS (x := 3) (pack1 (x := 2) rfl) rfl) rfl) rfl) rfl), rfl, hX35, Pin.le_refl _, Nat.zero_le _, rfl, Nat.le_refl _, ho36⟩ ?_)
 rintro k37 _ w38 ⟨env1, j, ov, os, GL1, rfl, hk39, hX40, hlek37, hj, hos, hol, hw41⟩
 refine s_seq (c_reg ?_)
 refine qd rfl rfl rfl (r_lss rfl rfl) (qe (s_then (s_seq ?_)))
 refine c_ifd (p := ((j : Int) : Int) < ((bpM (partsB 47 t)).length : Int)) rfl rfl (fun h42 => ?_) (fun h42 => ?_)
 have hgx := bp_mem hgb (getD_mem (d := []) (show j < (bpM (partsB 47 t)).length by omega))
 have hdt := dm_len (left := true) hgx
 have hdf := dm_len (left := false) hgx
 refine wp_skip (s_then (s_seq ?_))
 refine s_blk (s_seq (c_reg ?_))
 refine qd rfl rfl rfl (run_idx Tryz.underlying66 sz56 (v := u30) rfl rfl hr33 (by omega) (by omega)) ?_
 obtain ⟨u43, hr44, hl45⟩ := nm_form (hr33.at (z := (j : Int)) (by omega) (by omega)) (j := j) rfl
 have hm46 := hr44.max
 refine qd rfl rfl rfl (hl45 ag56 sz56 rfl (Pins.of_le hX40.pins hlek37)) (q1 rfl rfl rfl (o_alloc [(.slice none 0 0)] zr56 rfl hX40.pins (fun b47 w48 hk49 hb50 hp51 hl52 => ?_)))
 have hX53 := hX40.step hp51 hl52
 have ho54 := hw41.below hl52
 have ha55 : Apart (some b47) ov.ownBlock := new_ne_own (congrArg some hk49) hw41.lt
 have hlo56 : w.heap.size ≤ b47 := by have := hX40.size; omega
 refine q0 rfl rfl rfl (o_stp (cs' := [u43]) (us := [u43]) (v := (.agg [u43].toArray)) sz56 rfl rfl rfl (ones1 hr44.one) hX53.pins hb50 (Nat.le_of_ble_eq_true rfl) rfl (fun w57 hb58 hp59 hg60 hz61 => ?_))
 have hX62 := hX53.write hp59 hg60 ((lo_box hlo56))
 have ho63 := ho54.keptA hg60 ha55.symm
 obtain ⟨G64, hle65, hX66, hbp67, hf68⟩ := hb58.shut hX62 hlo56
 have ho69 := ho63.moreA hle65 hf68 ha55.symm
 refine qe (s_then (s_seq ?_))
 refine c_draw (S := fun wz => Pins G64 wz) (last := 8) (by kernel_rfl) rfl ?_
 have hl70 : Below w57.heap.size w57 w57.drew := (Below.refl _ _).drew
 have hp71 := hX66.pins.below hl70
 have hX72 := hX66.step hp71 hl70
 have ho73 := ho69.below hl70
 refine dr_take (i := 0) rfl rfl rfl (want_none rfl _) (by kernel_rfl) (fun _ hS => r_ldpA (cs := [u43]) ag56 sz56 rfl (fun j u hj => hS _ _ _ (hbp67 _ _ (by simpa using hj)))) hX72.pins (dr_take (i := 3) rfl rfl rfl (want_none rfl _) (by kernel_rfl) (fun _ hS => r_ldpA (cs := [u43]) ag56 sz56 rfl (fun j u hj => hS _ _ _ (hbp67 _ _ (by simpa using hj)))) hX72.pins (dr_one (i := 1) (by kernel_rfl) (drOp1 (i := 1) rfl rfl rfl (want_none rfl _) (o_call (vs := [(.agg [u43].toArray), (.bool true)]) Tryz.func52 nm52 rfl rfl rfl ?_))))
 refine Calls.mono (moves_spec (left := true) hX72.pins (hr44.mono (Pin.le_trans hlek37 hle65)) hgx) ?_
 rintro _ w76 ⟨u74, G75, rfl, hr77, hx78⟩
 refine ⟨_, rfl, ?_⟩
 have hX79 := hX72.tr hx78
 have ho80 := ho73.ext hx78
 refine ⟨fun _ => (Pins.of_le hX79.pins hx78.le), ?_⟩
 refine dr_take (i := 2) rfl rfl rfl (want_none rfl _) (by kernel_rfl) (fun _ _ => run_len Tryz.underlying66 (v := u74) rfl hr77) (Pins.of_le hX79.pins hx78.le) (dr_one (i := 4) (by kernel_rfl) (drOp1 (i := 4) rfl rfl rfl (want_none rfl _) (o_call (vs := [(.agg [u43].toArray), (.bool false)]) Tryz.func52 nm52 rfl rfl rfl ?_)))
 refine Calls.mono (moves_spec (left := false) hX79.pins (hr44.mono (Pin.le_trans (Pin.le_trans hlek37 hle65) hx78.le)) hgx) ?_
 rintro _ w83 ⟨u81, G82, rfl, hr84, hx85⟩
 refine ⟨_, rfl, ?_⟩
 have hX86 := hX79.tr hx85
 have ho87 := ho80.ext hx85
 refine ⟨fun _ => (Pins.of_le hX86.pins (Pin.le_trans hx78.le hx85.le)), ?_⟩
 refine dr_take (i := 5) rfl rfl rfl (want_none rfl _) (by kernel_rfl) (fun _ _ => run_len Tryz.underlying66 (v := u81) rfl hr84) (Pins.of_le hX86.pins (Pin.le_trans hx78.le hx85.le)) (dr_take (i := 6) rfl rfl rfl (want_none rfl _) (by kernel_rfl) (fun _ _ => r_add rfl rfl (by omega)) (Pins.of_le hX86.pins (Pin.le_trans hx78.le hx85.le)) (dr_take (i := 7) rfl rfl rfl (want_none rfl _) (by kernel_rfl) (fun _ _ => r_gtr rfl rfl) (Pins.of_le hX86.pins (Pin.le_trans hx78.le hx85.le)) (dr_end (by kernel_rfl) (s_then (c_ifd (p := (0 : Int) < (((dmM ((bpM (partsB 47 t)).getD j []) true).length : Int) + ((dmM ((bpM (partsB 47 t)).getD j []) false).length : Int))) rfl rfl (fun h88 => ?_) (fun h88 => ?_))))))
 refine c_reg (qd rfl rfl rfl (r_move (v := ov) rfl) (qd rfl rfl rfl (r_ldpA (cs := [u43]) ag56 sz56 rfl (fun j u hj => (Pins.of_le hX86.pins (Pin.le_trans hx78.le hx85.le)) _ _ _ (hbp67 _ _ (by simpa using hj)))) (q1 rfl rfl rfl (o_call (vs := [(.agg [u43].toArray)]) Tryz.func53 nm53 rfl rfl rfl ?_))))
 refine Calls.mono (bText_spec hX86.pins (hr44.mono (Pin.le_trans (Pin.le_trans (Pin.le_trans hlek37 hle65) hx78.le) hx85.le)) (gx_small hgx) (gx_rows hgx)) ?_
 rintro _ w90 ⟨G89, rfl, hx91⟩
 refine ⟨_, rfl, ?_⟩
 have hX92 := hX86.tr hx91
 have ho93 := ho87.ext hx91
 refine qd rfl rfl rfl (r_build [(.string ByteArray.empty), (.string ByteArray.empty)] [(.string (⟨#[100, 111, 109]⟩ : ByteArray)), (.string (joinC 47 ((bpM (partsB 47 t)).getD j [])))] [(0, (.string (⟨#[100, 111, 109]⟩ : ByteArray)), [(.string (⟨#[100, 111, 109]⟩ : ByteArray))]), (1, (.string (joinC 47 ((bpM (partsB 47 t)).getD j []))), [(.string (joinC 47 ((bpM (partsB 47 t)).getD j [])))])] Tryz.underlying36 zr36 rfl pl36 rfl (List.forall_mem_cons.2 ⟨rfl, (List.forall_mem_cons.2 ⟨rfl, (fun _ h => by cases h)⟩)⟩) rfl) (q1 rfl rfl rfl (o_build1 (E := eS2) (e := 36) [(.string (⟨#[100, 111, 109]⟩ : ByteArray)), (.string (joinC 47 ((bpM (partsB 47 t)).getD j [])))] ((⟨#[100, 111, 109]⟩ : ByteArray), joinC 47 ((bpM (partsB 47 t)).getD j [])) Tryz.underlying31 sz36 zr36 rfl rfl (by decide) hX92.pins (fun u94 w95 ho96 hp97 hl98 hk99 => ?_)))
 have hX100 := hX92.step hp97 hl98
 have ho101 := ho93.below hl98
 have ho103 : Own eS2 36 G89 w95 w.heap.size u94 ([((⟨#[100, 111, 109]⟩ : ByteArray), joinC 47 ((bpM (partsB 47 t)).getD j []))]) := ho96.weaken hX92.size
 refine q1 rfl rfl rfl (o_append (E := eS2) (v := ov) (u := u94) 32 Tryz.underlying31 ap36 (by decide) rfl rfl hX100.pins ho101 ho103.src (by first | omega | (rw [List.nil_append]; omega) | (rw [List.length_nil]; omega) | (rw [List.length_append]; omega) | (simp; done) | (simp; omega) | (simp only [List.length_cons, List.length_nil]; omega) | (simp only [List.length_append, List.length_cons, List.length_nil]; omega)) (by first | omega | (rw [List.nil_append]; omega) | (rw [List.length_nil]; omega) | (rw [List.length_append]; omega) | (simp; done) | (simp; omega) | (simp only [List.length_cons, List.length_nil]; omega) | (simp only [List.length_append, List.length_cons, List.length_nil]; omega)) (hX100.size) (fun u104 w105 ho106 hp107 hg108 hw109 => ?_))
 have hX110 := hX100.write hp107 hg108 ((lo_own ho101))
 have hm113 : (os ++ ([((⟨#[100, 111, 109]⟩ : ByteArray), joinC 47 ((bpM (partsB 47 t)).getD j []))])).length = os.length + 1 := List.length_append
 refine qd rfl rfl rfl (r_assign (v := u104) rfl) (qe (s_blkN (s_then (c_reg ?_))))
 refine qd rfl rfl rfl (r_add rfl rfl (by omega)) (qd rfl rfl rfl (r_move (v := (.int .i64 ((j : Int) + 1))) rfl) (qe (s_lopN (⟨_, ?_, _, rfl, _, j + 1, u104, os ++ [((⟨#[100, 111, 109]⟩ : ByteArray), joinC 47 ((bpM (partsB 47 t)).getD j []))], G89, (packS (x := 35) (packS (x := 34) (packS (x := 33) (packS (x := 3) (pack1 (x := 2) rfl) rfl) rfl) rfl) rfl), rfl, hX110, (Pin.le_trans (Pin.le_trans (Pin.le_trans (Pin.le_trans hlek37 hle65) hx78.le) hx85.le) hx91.le), (by omega), (fg_y (p := mvN) (f := fun x => ((⟨#[100, 111, 109]⟩ : ByteArray), joinC 47 x)) (by omega) hos (mv_y h88)), (by simp; omega), ho106⟩))))
 omega
 refine wp_skip (s_blkN (s_then (c_reg ?_)))
 refine qd rfl rfl rfl (r_add rfl rfl (by omega)) (qd rfl rfl rfl (r_move (v := (.int .i64 ((j : Int) + 1))) rfl) (qe (s_lopN (⟨_, ?_, _, rfl, _, j + 1, ov, os, G82, (packS (x := 35) (packS (x := 34) (packS (x := 33) (packS (x := 3) (pack1 (x := 2) rfl) rfl) rfl) rfl) rfl), rfl, hX86, (Pin.le_trans (Pin.le_trans (Pin.le_trans hlek37 hle65) hx78.le) hx85.le), (by omega), (fg_n (by omega) hos (mv_n h88)), (by omega), ho87⟩))))
 omega
 refine wp_exit (s_thenE (s_lopE (s_blkE (s_blkN (s_then (s_seq (c_reg ?_)))))))
 refine qd rfl rfl rfl (r_move (v := ov) rfl) (qd rfl rfl rfl (r_assign (v := ov) rfl) (qe (s_then ?_)))
 refine wp_ret (s_ret (c_ret1 (v := ov) rfl rfl rfl ?_))
 obtain ⟨G114, hle117, hX116, hr115, hf118⟩ := hw41.sealed hX40
 exact ⟨_, _, rfl, (by rw [pc_4 (by have q4 := vb_y 4 (by omega) h22; omega) (by omega) hos]; exact hr115), hX116⟩
 refine s_seq (c_reg ?_)
 refine qd rfl rfl rfl (r_eqlS rfl rfl) (qd rfl rfl rfl (r_assign (v := (.bool (a.toList == (⟨#[115, 116, 97, 108, 107]⟩ : ByteArray).toList))) rfl) (qe (s_then ?_)))
 refine c_if rfl rfl (fun h119 => ?_) (fun h119 => ?_)
 refine s_seq (c_reg ?_)
 refine qd rfl rfl rfl (r_fldp (k := 1) rfl Tryz.underlying36 rfl nz9 rfl) (qd rfl rfl rfl (r_ldp1 (u := (.string t)) ag9 rfl (hX20.pins _ _ _ (hbp12 1 _ rfl))) (qd rfl rfl rfl (r_neqS rfl rfl) (qe (s_then ?_))))
 refine c_ifn rfl rfl (fun h120 => ?_) (fun h120 => ?_)
 refine wp_skip (s_blkN (s_then (s_seq (c_reg ?_))))
 refine qd rfl rfl rfl (r_move (v := u14) rfl) (qd rfl rfl rfl (r_assign (v := u14) rfl) (qe (s_then ?_)))
 refine wp_ret (s_ret (c_ret1 (v := u14) rfl rfl rfl ?_))
 obtain ⟨G121, hle124, hX123, hr122, hf125⟩ := ho21.sealed hX20
 exact ⟨_, _, rfl, (by rw [pc_5y (by have q4 := vb_n 4 (by omega) h22; have q5 := vb_y 5 (by omega) h119; omega) h120]; exact hr122), hX123⟩
 refine c_reg (qd rfl rfl rfl (r_move (v := u14) rfl) (qd rfl rfl rfl (r_ldpA (cs := [(.string a), (.string t)]) ag36 sz36 rfl (fun j u hj => hX20.pins _ _ _ (hbp12 _ _ (by simpa using hj)))) (q1 rfl rfl rfl (o_build1 (E := eS2) (e := 36) [(.string a), (.string t)] (a, t) Tryz.underlying31 sz36 zr36 rfl rfl (by decide) hX20.pins (fun u126 w127 ho128 hp129 hl130 hk131 => ?_)))))
 have hX132 := hX20.step hp129 hl130
 have ho133 := ho21.below hl130
 have ho135 : Own eS2 36 G9 w127 w.heap.size u126 ([(a, t)]) := ho128.weaken hX20.size
 refine q1 rfl rfl rfl (o_append (E := eS2) (v := u14) (u := u126) 32 Tryz.underlying31 ap36 (by decide) rfl rfl hX132.pins ho133 ho135.src (by first | omega | (rw [List.nil_append]; omega) | (rw [List.length_nil]; omega) | (rw [List.length_append]; omega) | (simp; done) | (simp; omega) | (simp only [List.length_cons, List.length_nil]; omega) | (simp only [List.length_append, List.length_cons, List.length_nil]; omega)) (by first | omega | (rw [List.nil_append]; omega) | (rw [List.length_nil]; omega) | (rw [List.length_append]; omega) | (simp; done) | (simp; omega) | (simp only [List.length_cons, List.length_nil]; omega) | (simp only [List.length_append, List.length_cons, List.length_nil]; omega)) (hX132.size) (fun u136 w137 ho138 hp139 hg140 hw141 => ?_))
 have hX142 := hX132.write hp139 hg140 ((lo_own ho133))
 have hm145 : (([]) ++ ([(a, t)])).length = ([]).length + 1 := List.length_append
 refine qd rfl rfl rfl (r_assign (v := u136) rfl) (qe (s_blkN (s_then (s_seq (c_reg ?_)))))
 refine qd rfl rfl rfl (r_move (v := u136) rfl) (qd rfl rfl rfl (r_assign (v := u136) rfl) (qe (s_then ?_)))
 refine wp_ret (s_ret (c_ret1 (v := u136) rfl rfl rfl ?_))
 obtain ⟨G146, hle149, hX148, hr147, hf150⟩ := ho138.sealed hX142
 exact ⟨_, _, rfl, (by rw [pc_5n (by have q4 := vb_n 4 (by omega) h22; have q5 := vb_y 5 (by omega) h119; omega) h120]; exact hr147), hX148⟩
 refine s_seq (c_reg ?_)
 refine qd rfl rfl rfl (r_eqlS rfl rfl) (qd rfl rfl rfl (r_assign (v := (.bool (a.toList == (⟨#[110, 105, 109]⟩ : ByteArray).toList))) rfl) (qe (s_then ?_)))
 refine c_if rfl rfl (fun h151 => ?_) (fun h151 => ?_)
 refine s_seq (c_reg ?_)
 refine qd rfl rfl rfl (r_fldp (k := 1) rfl Tryz.underlying36 rfl nz9 rfl) (qd rfl rfl rfl (r_ldp1 (u := (.string t)) ag9 rfl (hX20.pins _ _ _ (hbp12 1 _ rfl))) (qd rfl rfl rfl (r_neqS rfl rfl) (qe (s_then ?_))))
 refine c_ifn rfl rfl (fun h152 => ?_) (fun h152 => ?_)
 refine wp_skip (s_blkN (s_then (s_seq (c_reg ?_))))
 refine qd rfl rfl rfl (r_move (v := u14) rfl) (qd rfl rfl rfl (r_assign (v := u14) rfl) (qe (s_then ?_)))
 refine wp_ret (s_ret (c_ret1 (v := u14) rfl rfl rfl ?_))
 obtain ⟨G153, hle156, hX155, hr154, hf157⟩ := ho21.sealed hX20
 exact ⟨_, _, rfl, (by rw [pc_6y (by have q4 := vb_n 4 (by omega) h22; have q5 := vb_n 5 (by omega) h119; have q6 := vb_y 6 (by omega) h151; omega) h152]; exact hr154), hX155⟩
 refine c_reg (qd rfl rfl rfl (r_move (v := u14) rfl) (qd rfl rfl rfl (r_ldpA (cs := [(.string a), (.string t)]) ag36 sz36 rfl (fun j u hj => hX20.pins _ _ _ (hbp12 _ _ (by simpa using hj)))) (q1 rfl rfl rfl (o_build1 (E := eS2) (e := 36) [(.string a), (.string t)] (a, t) Tryz.underlying31 sz36 zr36 rfl rfl (by decide) hX20.pins (fun u158 w159 ho160 hp161 hl162 hk163 => ?_)))))
 have hX164 := hX20.step hp161 hl162
 have ho165 := ho21.below hl162
 have ho167 : Own eS2 36 G9 w159 w.heap.size u158 ([(a, t)]) := ho160.weaken hX20.size
 refine q1 rfl rfl rfl (o_append (E := eS2) (v := u14) (u := u158) 32 Tryz.underlying31 ap36 (by decide) rfl rfl hX164.pins ho165 ho167.src (by first | omega | (rw [List.nil_append]; omega) | (rw [List.length_nil]; omega) | (rw [List.length_append]; omega) | (simp; done) | (simp; omega) | (simp only [List.length_cons, List.length_nil]; omega) | (simp only [List.length_append, List.length_cons, List.length_nil]; omega)) (by first | omega | (rw [List.nil_append]; omega) | (rw [List.length_nil]; omega) | (rw [List.length_append]; omega) | (simp; done) | (simp; omega) | (simp only [List.length_cons, List.length_nil]; omega) | (simp only [List.length_append, List.length_cons, List.length_nil]; omega)) (hX164.size) (fun u168 w169 ho170 hp171 hg172 hw173 => ?_))
 have hX174 := hX164.write hp171 hg172 ((lo_own ho165))
 have hm177 : (([]) ++ ([(a, t)])).length = ([]).length + 1 := List.length_append
 refine qd rfl rfl rfl (r_assign (v := u168) rfl) (qe (s_blkN (s_then (s_seq (c_reg ?_)))))
 refine qd rfl rfl rfl (r_move (v := u168) rfl) (qd rfl rfl rfl (r_assign (v := u168) rfl) (qe (s_then ?_)))
 refine wp_ret (s_ret (c_ret1 (v := u168) rfl rfl rfl ?_))
 obtain ⟨G178, hle181, hX180, hr179, hf182⟩ := ho170.sealed hX174
 exact ⟨_, _, rfl, (by rw [pc_6n (by have q4 := vb_n 4 (by omega) h22; have q5 := vb_n 5 (by omega) h119; have q6 := vb_y 6 (by omega) h151; omega) h152]; exact hr179), hX180⟩
 refine s_seq (c_draw (S := fun wz => Pins G9 wz) (last := 7) (by kernel_rfl) rfl ?_)
 have hl183 : Below w15.heap.size w15 w15.drew := (Below.refl _ _).drew
 have hp184 := hX20.pins.below hl183
 have hX185 := hX20.step hp184 hl183
 have ho186 := ho21.below hl183
 refine dr_take (i := 0) rfl rfl rfl (want_none rfl _) (by kernel_rfl) (fun _ hS => r_ldpA (cs := [(.string a), (.string t)]) ag36 sz36 rfl (fun j u hj => hS _ _ _ (hbp12 _ _ (by simpa using hj)))) hX185.pins (dr_take (i := 2) rfl rfl rfl (want_none rfl _) (by kernel_rfl) (fun _ _ => r_fldp (k := 1) rfl Tryz.underlying36 rfl nz9 rfl) hX185.pins (dr_take (i := 3) rfl rfl rfl (want_none rfl _) (by kernel_rfl) (fun _ hS => r_ldp1 (u := (.string t)) ag9 rfl (hS _ _ _ (hbp12 1 _ rfl))) hX185.pins (dr_take (i := 6) rfl rfl rfl (want_none rfl _) (by kernel_rfl) (fun _ _ => r_move (v := (.int .i64 0)) rfl) hX185.pins (dr_one (i := 1) (by kernel_rfl) (drOp1 (i := 1) rfl rfl rfl (want_none rfl _) (o_call (vs := [(.agg [(.string a), (.string t)].toArray)]) Tryz.func48 nm48 rfl rfl rfl ?_))))))
 refine Calls.mono (skv_spec (a := a) (t := t) hX185.pins (by have q4 := vb_n 4 (by omega) h22; have q5 := vb_n 5 (by omega) h119; have q6 := vb_n 6 (by omega) h151; omega)) ?_
 rintro _ w188 ⟨G187, rfl, hx189⟩
 refine ⟨_, rfl, ?_⟩
 have hX191 := hX185.tr hx189
 have ho192 := ho186.ext hx189
 refine ⟨fun _ => (Pins.of_le hX191.pins hx189.le), ?_⟩
 refine dr_one (i := 4) (by kernel_rfl) (drOp1 (i := 4) rfl rfl rfl (want_none rfl _) (o_call (vs := [(.int .i64 (vbI a)), (.string t)]) Tryz.func54 nm54 rfl rfl rfl ?_))
 refine Calls.mono (stripParts_spec (kd := (vbI a)) (t := t) hX191.pins (by omega) (hM.le (Pin.le_trans hle10 hx189.le)) (by have q4 := vb_n 4 (by omega) h22; have q5 := vb_n 5 (by omega) h119; have q6 := vb_n 6 (by omega) h151; omega)) ?_
 rintro _ w195 ⟨u193, G194, rfl, hr196, hx197⟩
 refine ⟨_, rfl, ?_⟩
 have hX198 := hX191.tr hx197
 have ho199 := ho192.ext hx197
 refine ⟨fun _ => (Pins.of_le hX198.pins (Pin.le_trans hx189.le hx197.le)), ?_⟩
 refine dr_take (i := 5) rfl rfl rfl (want_none rfl _) (by kernel_rfl) (fun _ _ => run_len Tryz.underlying22 (v := u193) rfl hr196) (Pins.of_le hX198.pins (Pin.le_trans hx189.le hx197.le)) (dr_end (by kernel_rfl) (s_then (s_blk (s_loop (fun (k : Nat) (en : Nat → Value) (W : World) => ∃ (env1 : Nat → Value) (j : Nat) (ov : Value) (os : List (ByteArray × ByteArray)) (GL1 : Pin), en = (upd (upd (upd (upd (upd (upd env1 1 (.pointer (some ⟨b1, 0, none⟩))) 2 (.slice none 0 0)) 3 ov) 15 u193) 16 (.int .i64 ((spA (vbI a) t).length : Int))) 17 (.int .i64 (j : Int))) ∧ k = (spA (vbI a) t).length - j ∧ Ext noS G w GL1 W ∧ Pin.le G194 GL1 ∧ (j ≤ (spA (vbI a) t).length) ∧ (os = ((spA (vbI a) t).take j).map fun x => (a, x)) ∧ (os.length = j) ∧ (Own eS2 36 GL1 W w.heap.size ov (os))) _ ⟨_, 0, u14, [], G194, (packS (x := 17) (packS (x := 16) (packS (x := 15) (packS (x := 3) (packS (x := 2) (pack1 (x := 1) rfl) rfl) rfl) rfl) rfl) rfl), rfl, hX198, Pin.le_refl _, Nat.zero_le _, rfl, rfl, ho199⟩ ?_))))
 rintro k200 _ w201 ⟨env1, j, ov, os, GL1, rfl, hk202, hX203, hlek200, hj, hos, hol, hw204⟩
 refine s_seq (c_reg ?_)
 refine qd rfl rfl rfl (r_lss rfl rfl) (qe (s_then (s_seq ?_)))
 refine c_ifd (p := ((j : Int) : Int) < ((spA (vbI a) t).length : Int)) rfl rfl (fun h205 => ?_) (fun h205 => ?_)
 refine wp_skip (s_then (s_seq ?_))
 refine s_blk (s_seq (c_reg ?_))
 refine qd rfl rfl rfl (run_idx Tryz.underlying22 sz9 (v := u193) rfl rfl hr196 (by omega) (by omega)) (qd rfl rfl rfl (run_load_str (r := (spA (vbI a) t).getD j ByteArray.empty) rfl ag9 (z := (j : Int)) rfl hr196 (Pins.of_le hX203.pins hlek200) (by omega) (by omega)) (qd rfl rfl rfl (r_assign (v := (.string ((spA (vbI a) t).getD j ByteArray.empty))) rfl) (qe (s_then (c_reg ?_)))))
 refine qd rfl rfl rfl (r_move (v := ov) rfl) (qd rfl rfl rfl (r_fldp (k := 0) rfl Tryz.underlying36 rfl nz9 rfl) (qd rfl rfl rfl (r_ldp1 (u := (.string a)) ag9 rfl ((Pins.of_le hX203.pins (Pin.le_trans (Pin.le_trans hx189.le hx197.le) hlek200)) _ _ _ (hbp12 0 _ rfl))) (qd rfl rfl rfl (r_move (v := (.string ((spA (vbI a) t).getD j ByteArray.empty))) rfl) (qd rfl rfl rfl (r_build [(.string ByteArray.empty), (.string ByteArray.empty)] [(.string a), (.string ((spA (vbI a) t).getD j ByteArray.empty))] [(0, (.string a), [(.string a)]), (1, (.string ((spA (vbI a) t).getD j ByteArray.empty)), [(.string ((spA (vbI a) t).getD j ByteArray.empty))])] Tryz.underlying36 zr36 rfl pl36 rfl (List.forall_mem_cons.2 ⟨rfl, (List.forall_mem_cons.2 ⟨rfl, (fun _ h => by cases h)⟩)⟩) rfl) (q1 rfl rfl rfl (o_build1 (E := eS2) (e := 36) [(.string a), (.string ((spA (vbI a) t).getD j ByteArray.empty))] (a, (spA (vbI a) t).getD j ByteArray.empty) Tryz.underlying31 sz36 zr36 rfl rfl (by decide) hX203.pins (fun u206 w207 ho208 hp209 hl210 hk211 => ?_)))))))
 have hX212 := hX203.step hp209 hl210
 have ho213 := hw204.below hl210
 have ho215 : Own eS2 36 GL1 w207 w.heap.size u206 ([(a, (spA (vbI a) t).getD j ByteArray.empty)]) := ho208.weaken hX203.size
 refine q1 rfl rfl rfl (o_append (E := eS2) (v := ov) (u := u206) 32 Tryz.underlying31 ap36 (by decide) rfl rfl hX212.pins ho213 ho215.src (by first | omega | (rw [List.nil_append]; omega) | (rw [List.length_nil]; omega) | (rw [List.length_append]; omega) | (simp; done) | (simp; omega) | (simp only [List.length_cons, List.length_nil]; omega) | (simp only [List.length_append, List.length_cons, List.length_nil]; omega)) (by first | omega | (rw [List.nil_append]; omega) | (rw [List.length_nil]; omega) | (rw [List.length_append]; omega) | (simp; done) | (simp; omega) | (simp only [List.length_cons, List.length_nil]; omega) | (simp only [List.length_append, List.length_cons, List.length_nil]; omega)) (hX212.size) (fun u216 w217 ho218 hp219 hg220 hw221 => ?_))
 have hX222 := hX212.write hp219 hg220 ((lo_own ho213))
 have hm225 : (os ++ ([(a, (spA (vbI a) t).getD j ByteArray.empty)])).length = os.length + 1 := List.length_append
 refine qd rfl rfl rfl (r_assign (v := u216) rfl) (qe (s_blkN (s_then (c_reg ?_))))
 refine qd rfl rfl rfl (r_add rfl rfl (by omega)) (qd rfl rfl rfl (r_move (v := (.int .i64 ((j : Int) + 1))) rfl) (qe (s_lopN (⟨_, ?_, _, rfl, _, j + 1, u216, os ++ [(a, (spA (vbI a) t).getD j ByteArray.empty)], GL1, (packS (x := 17) (packS (x := 16) (packS (x := 15) (packS (x := 3) (packS (x := 2) (pack1 (x := 1) rfl) rfl) rfl) rfl) rfl) rfl), rfl, hX222, hlek200, (by omega), (mp_next (f := fun x => (a, x)) (by omega) hos), (by simp [hol]), ho218⟩))))
 omega
 refine wp_exit (s_thenE (s_lopE (s_blkE (s_blkN (s_then (s_seq (c_reg ?_)))))))
 refine qd rfl rfl rfl (r_move (v := ov) rfl) (qd rfl rfl rfl (r_assign (v := ov) rfl) (qe (s_then ?_)))
 refine wp_ret (s_ret (c_ret1 (v := ov) rfl rfl rfl ?_))
 obtain ⟨G226, hle229, hX228, hr227, hf230⟩ := hw204.sealed hX203
 exact ⟨_, _, rfl, (by rw [pc_3 (by have q4 := vb_n 4 (by omega) h22; have q5 := vb_n 5 (by omega) h119; have q6 := vb_n 6 (by omega) h151; omega) (by omega) hos]; exact hr227), hX228⟩

end QR1
end Go.Proofs.YtianphgdbfekdaaGreatDoor

set_option maxRecDepth 20000
set_option maxHeartbeats 2000000
namespace Go.Proofs.YtianphgdbfekdaaGreatDoor
namespace QR2
open Go.RowKit Go.GL Go.Proofs
open PT3 PTB PW1 PW5 PW6 QR1











theorem allParts_spec {w : World} {G : Pin} {v : Value} {cs : List (ByteArray × ByteArray)} (hP : Pins G w) (hM : MxG 0 G) (hv : RSl eS2 G v cs) (hl : cs.length ≤ 6) (hg : ∀ k, k < cs.length → CgP (cs.getD k default)) :
  Calls Tryz.prog 15 [v].toArray w fun e w' => ∃ (u : Value) (G' : Pin), e = .returned u ∧ RSl eS2 G' u (cs.flatMap partsC) ∧ Ext noS G w G' w' := by
 refine s_enter (n := 19) Tryz.func15 Tryz.ntmps15 rfl rfl ?_
 have hX0 : Ext noS G w G w := Ext.refl hP
 have hmv := hv.max
 refine s_seq (c_reg ?_)
 refine qd rfl rfl rfl (r_assign (v := (.slice none 0 0)) rfl) (qe (s_then (s_seq (c_reg ?_))))
 refine q1 rfl rfl rfl (o_build0 (E := eS2) (e := 36) Tryz.underlying31 sz36 hX0.pins (fun u1 w2 ho3 hp4 hl5 hk6 => ?_))
 have hX7 := hX0.step hp4 hl5
 have ho8 : Own eS2 36 G w2 w.heap.size u1 ([]) := ho3.weaken hX0.size
 refine qd rfl rfl rfl (r_assign (v := u1) rfl) (qe (s_then (s_seq (s_seq (c_reg ?_)))))
 refine qd rfl rfl rfl (r_move (v := v) rfl) (qd rfl rfl rfl (run_len Tryz.underlying31 (v := v) rfl hv) (qd rfl rfl rfl (r_move (v := (.int .i64 0)) rfl) (qe (s_then ?_))))
 refine s_blk (s_loop (fun (k : Nat) (en : Nat → Value) (W : World) => ∃ (env1 : Nat → Value) (j : Nat) (ov : Value) (os : List (ByteArray × ByteArray)) (GL1 : Pin), en = (upd (upd (upd (upd (upd env1 2 (.slice none 0 0)) 3 ov) 7 v) 8 (.int .i64 (cs.length : Int))) 9 (.int .i64 (j : Int))) ∧ k = cs.length - j ∧ Ext noS G w GL1 W ∧ Pin.le G GL1 ∧ (j ≤ cs.length) ∧ (os = (cs.take j).flatMap partsC) ∧ (os.length ≤ 64 * j) ∧ (Own eS2 36 GL1 W w.heap.size ov (os))) _ ⟨_, 0, u1, [], G, (packS (x := 9) (packS (x := 8) (packS (x := 7) (packS (x := 3) (pack1 (x := 2) rfl) rfl) rfl) rfl) rfl), rfl, hX7, Pin.le_refl _, Nat.zero_le _, rfl, (by simp), ho8⟩ ?_)
 rintro k9 _ w10 ⟨env1, j, ov, os, GL1, rfl, hk11, hX12, hlek9, hj, hos, hol, hw13⟩
 refine s_seq (c_reg ?_)
 refine qd rfl rfl rfl (r_lss rfl rfl) (qe (s_then (s_seq ?_)))
 refine c_ifd (p := ((j : Int) : Int) < (cs.length : Int)) rfl rfl (fun h14 => ?_) (fun h14 => ?_)
 have hgj : CgP (cs.getD j default) := hg j (by omega)
 have hpl := pc_len hgj
 have hpl2 : (partsC ((cs.getD j default).1, (cs.getD j default).2)).length ≤ 64 := hpl
 refine wp_skip (s_then (s_seq ?_))
 refine s_blk (s_seq (c_reg ?_))
 refine qd rfl rfl rfl (run_idx Tryz.underlying31 sz36 (v := v) rfl rfl hv (by omega) (by omega)) ?_
 obtain ⟨cs15, hrep16, hagg17, hcell18⟩ := nm_el (j := j) default (hv.at (z := (j : Int)) (by omega) (by omega)) rfl
 obtain rfl := hrep16
 refine qd rfl rfl rfl (hagg17 ag36 sz36 rfl (Pins.of_le hX12.pins hlek9)) (q1 rfl rfl rfl (o_alloc [(.string ByteArray.empty), (.string ByteArray.empty)] zr36 rfl hX12.pins (fun b19 w20 hk21 hb22 hp23 hl24 => ?_)))
 have hX25 := hX12.step hp23 hl24
 have ho26 := hw13.below hl24
 have ha27 : Apart (some b19) ov.ownBlock := new_ne_own (congrArg some hk21) hw13.lt
 have hlo28 : w.heap.size ≤ b19 := by have := hX12.size; omega
 refine q0 rfl rfl rfl (o_stp (cs' := [(.string ((cs.getD j default).1)), (.string ((cs.getD j default).2))]) (us := [(.string ((cs.getD j default).1)), (.string ((cs.getD j default).2))]) (v := (.agg [(.string ((cs.getD j default).1)), (.string ((cs.getD j default).2))].toArray)) sz36 rfl rfl rfl (ones2 (by rfl) (by rfl)) hX25.pins hb22 (Nat.le_of_ble_eq_true rfl) rfl (fun w29 hb30 hp31 hg32 hz33 => ?_))
 have hX34 := hX25.write hp31 hg32 ((lo_box hlo28))
 have ho35 := ho26.keptA hg32 ha27.symm
 obtain ⟨G36, hle37, hX38, hbp39, hf40⟩ := hb30.shut hX34 hlo28
 have ho41 := ho35.moreA hle37 hf40 ha27.symm
 refine qe (s_then (c_reg ?_))
 refine qd rfl rfl rfl (r_move (v := ov) rfl) (qd rfl rfl rfl (r_ldpA (cs := [(.string ((cs.getD j default).1)), (.string ((cs.getD j default).2))]) ag36 sz36 rfl (fun j u hj => hX38.pins _ _ _ (hbp39 _ _ (by simpa using hj)))) (q1 rfl rfl rfl (o_call (vs := [(.agg [(.string ((cs.getD j default).1)), (.string ((cs.getD j default).2))].toArray)]) Tryz.func25 nm25 rfl rfl rfl ?_)))
 refine Calls.mono (cparts_spec (a := ((cs.getD j default).1)) (t := ((cs.getD j default).2)) hX38.pins (hM.le (Pin.le_trans hlek9 hle37)) hgj) ?_
 rintro _ w44 ⟨u42, G43, rfl, hr45, hx46⟩
 refine ⟨_, rfl, ?_⟩
 have hX47 := hX38.tr hx46
 have ho48 := ho41.ext hx46
 refine q1 rfl rfl rfl (o_append (E := eS2) (v := ov) (u := u42) 32 Tryz.underlying31 ap36 (by decide) rfl rfl hX47.pins ho48 ((hr45.mono (Pin.le_refl _)).src hX47.pins (by decide)) (by first | omega | (rw [List.nil_append]; omega) | (rw [List.length_nil]; omega) | (rw [List.length_append]; omega) | (simp; done) | (simp; omega) | (simp only [List.length_cons, List.length_nil]; omega) | (simp only [List.length_append, List.length_cons, List.length_nil]; omega)) (by first | omega | (rw [List.nil_append]; omega) | (rw [List.length_nil]; omega) | (rw [List.length_append]; omega) | (simp; done) | (simp; omega) | (simp only [List.length_cons, List.length_nil]; omega) | (simp only [List.length_append, List.length_cons, List.length_nil]; omega)) (hX47.size) (fun u49 w50 ho51 hp52 hg53 hw54 => ?_))
 have hX55 := hX47.write hp52 hg53 ((lo_own ho48))
 have hm56 : (os ++ (partsC (((cs.getD j default).1), ((cs.getD j default).2)))).length = os.length + (partsC (((cs.getD j default).1), ((cs.getD j default).2))).length := List.length_append
 refine qd rfl rfl rfl (r_assign (v := u49) rfl) (qe (s_blkN (s_then (c_reg ?_))))
 refine qd rfl rfl rfl (r_add rfl rfl (by omega)) (qd rfl rfl rfl (r_move (v := (.int .i64 ((j : Int) + 1))) rfl) (qe (s_lopN (⟨_, ?_, _, rfl, _, j + 1, u49, os ++ (partsC (((cs.getD j default).1), ((cs.getD j default).2))), G43, (packS (x := 9) (packS (x := 8) (packS (x := 7) (packS (x := 3) (pack1 (x := 2) rfl) rfl) rfl) rfl) rfl), rfl, hX55, (Pin.le_trans (Pin.le_trans hlek9 hle37) hx46.le), (by omega), (fm_next (by omega) hos), (by rw [List.length_append]; omega), ho51⟩))))
 omega
 refine wp_exit (s_thenE (s_lopE (s_blkE (s_then (s_seq (c_reg ?_))))))
 refine qd rfl rfl rfl (r_move (v := ov) rfl) (qd rfl rfl rfl (r_assign (v := ov) rfl) (qe (s_then ?_)))
 refine wp_ret (s_ret (c_ret1 (v := ov) rfl rfl rfl ?_))
 obtain ⟨G57, hle60, hX59, hr58, hf61⟩ := hw13.sealed hX12
 exact ⟨_, _, rfl, (by rw [← fm_done (by omega) hos]; exact hr58), hX59⟩

theorem iPositionParts_spec {w : World} {G : Pin} {s : ByteArray} (hP : Pins G w) (hM : MxG 0 G) (hs : s.size ≤ 1048576) :
  Calls Tryz.prog 6 [(.string s)].toArray w fun e w' => ∃ (u : Value) (G' : Pin), e = .returned (.tuple #[u, .bool (psB s)]) ∧ Own eStr 9 G' w' w.heap.size u (posP s) ∧ Ext noS G w G' w' := by
 refine s_enter (n := 31) Tryz.func6 Tryz.ntmps6 rfl rfl ?_
 have hX0 : Ext noS G w G w := Ext.refl hP
 have hal := cs_len (s := s)
 refine s_seq (c_reg ?_)
 refine qd rfl rfl rfl (r_assign (v := (.slice none 0 0)) rfl) (qd rfl rfl rfl (r_assign (v := (.bool false)) rfl) (qe (s_then (s_seq (c_reg ?_)))))
 refine qd rfl rfl rfl (r_move (v := (.string s)) rfl) (q1 rfl rfl rfl (o_call (vs := [(.string s)]) Tryz.func14 nm14 rfl rfl rfl ?_))
 refine Calls.mono (components_spec (s := s) hX0.pins hM (by omega)) ?_
 rintro _ w3 ⟨u1, G2, rfl, hr4, hx5⟩
 refine ⟨_, rfl, ?_⟩
 have hX6 := hX0.tr hx5
 have hpa := psC_all (s := s)
 refine qd rfl rfl rfl (r_move (v := (.tuple #[u1, (.bool (psB s))])) rfl) (qd rfl rfl rfl (r_extract (v := u1) rfl rfl) (qd rfl rfl rfl (r_extract (v := (.bool (psB s))) rfl rfl) (qd rfl rfl rfl (r_assign (v := u1) rfl) (qd rfl rfl rfl (r_assign (v := (.bool (psB s))) rfl) (qe (s_then (s_seq (s_seq (c_reg ?_)))))))))
 refine qd rfl rfl rfl (r_move (v := (.bool (psB s))) rfl) (qd rfl rfl rfl (r_not rfl) (qe (s_then ?_)))
 refine c_ifn rfl rfl (fun h7 => ?_) (fun h7 => ?_)
 refine wp_skip (s_then (s_seq (c_reg ?_)))
 refine q1 rfl rfl rfl (o_build0 (E := eStr) (e := 9) Tryz.underlying22 sz9 hX6.pins (fun u8 w9 ho10 hp11 hl12 hk13 => ?_))
 have hX14 := hX6.step hp11 hl12
 have ho15 : Own eStr 9 G2 w9 w.heap.size u8 ([]) := ho10.weaken hX6.size
 refine qd rfl rfl rfl (r_assign (v := u8) rfl) (qe (s_then (s_seq (s_seq (c_reg ?_)))))
 refine qd rfl rfl rfl (r_move (v := u1) rfl) (q1 rfl rfl rfl (o_call (vs := [u1]) Tryz.func15 nm15 rfl rfl rfl ?_))
 refine Calls.mono (allParts_spec hX14.pins (hM.le hx5.le) hr4 hpa.1 hpa.2) ?_
 rintro _ w18 ⟨u16, G17, rfl, hr19, hx20⟩
 refine ⟨_, rfl, ?_⟩
 have hX21 := hX14.tr hx20
 have ho22 := ho15.ext hx20
 refine qd rfl rfl rfl (run_len Tryz.underlying31 (v := u16) rfl hr19) (qd rfl rfl rfl (r_move (v := (.int .i64 0)) rfl) (qe (s_then ?_)))
 refine s_blk (s_loop (fun (k : Nat) (en : Nat → Value) (W : World) => ∃ (env1 : Nat → Value) (j : Nat) (ov : Value) (os : List ByteArray) (GL1 : Pin), en = (upd (upd (upd (upd (upd (upd env1 2 (.slice none 0 0)) 3 (.bool false)) 6 ov) 18 u16) 19 (.int .i64 ((((psC s)).flatMap partsC).length : Int))) 20 (.int .i64 (j : Int))) ∧ k = ((psC s).flatMap partsC).length - j ∧ Ext noS G w GL1 W ∧ Pin.le G17 GL1 ∧ (j ≤ ((psC s).flatMap partsC).length) ∧ (os = (((psC s).flatMap partsC).take j).map txW) ∧ (os.length = j) ∧ (Own eStr 9 GL1 W w.heap.size ov (os))) _ ⟨_, 0, u8, [], G17, (packS (x := 20) (packS (x := 19) (packS (x := 18) (packS (x := 6) (packS (x := 3) (pack1 (x := 2) rfl) rfl) rfl) rfl) rfl) rfl), rfl, hX21, Pin.le_refl _, Nat.zero_le _, rfl, rfl, ho22⟩ ?_)
 rintro k23 _ w24 ⟨env1, j, ov, os, GL1, rfl, hk25, hX26, hlek23, hj, hos, hol, hw27⟩
 refine s_seq (c_reg ?_)
 refine qd rfl rfl rfl (r_lss rfl rfl) (qe (s_then (s_seq ?_)))
 refine c_ifd (p := ((j : Int) : Int) < ((((psC s)).flatMap partsC).length : Int)) rfl rfl (fun h28 => ?_) (fun h28 => ?_)
 have hzj := cs_size (s := s) j (by omega)
 have hz1 := hzj.1
 have hz2 := hzj.2
 refine wp_skip (s_then (s_seq ?_))
 refine s_blk (s_seq (c_reg ?_))
 refine qd rfl rfl rfl (run_idx Tryz.underlying31 sz36 (v := u16) rfl rfl hr19 (by omega) (by omega)) ?_
 obtain ⟨cs29, hrep30, hagg31, hcell32⟩ := nm_el (j := j) default (hr19.at (z := (j : Int)) (by omega) (by omega)) rfl
 obtain rfl := hrep30
 refine qd rfl rfl rfl (hagg31 ag36 sz36 rfl (Pins.of_le hX26.pins hlek23)) (q1 rfl rfl rfl (o_alloc [(.string ByteArray.empty), (.string ByteArray.empty)] zr36 rfl hX26.pins (fun b33 w34 hk35 hb36 hp37 hl38 => ?_)))
 have hX39 := hX26.step hp37 hl38
 have ho40 := hw27.below hl38
 have ha41 : Apart (some b33) ov.ownBlock := new_ne_own (congrArg some hk35) hw27.lt
 have hlo42 : w.heap.size ≤ b33 := by have := hX26.size; omega
 refine q0 rfl rfl rfl (o_stp (cs' := [(.string (((((psC s)).flatMap partsC).getD j default).1)), (.string (((((psC s)).flatMap partsC).getD j default).2))]) (us := [(.string (((((psC s)).flatMap partsC).getD j default).1)), (.string (((((psC s)).flatMap partsC).getD j default).2))]) (v := (.agg [(.string (((((psC s)).flatMap partsC).getD j default).1)), (.string (((((psC s)).flatMap partsC).getD j default).2))].toArray)) sz36 rfl rfl rfl (ones2 (by rfl) (by rfl)) hX39.pins hb36 (Nat.le_of_ble_eq_true rfl) rfl (fun w43 hb44 hp45 hg46 hz47 => ?_))
 have hX48 := hX39.write hp45 hg46 ((lo_box hlo42))
 have ho49 := ho40.keptA hg46 ha41.symm
 obtain ⟨G50, hle51, hX52, hbp53, hf54⟩ := hb44.shut hX48 hlo42
 have ho55 := ho49.moreA hle51 hf54 ha41.symm
 refine qe (s_then (c_reg ?_))
 refine qd rfl rfl rfl (r_move (v := ov) rfl) (qd rfl rfl rfl (r_ldpA (cs := [(.string (((((psC s)).flatMap partsC).getD j default).1)), (.string (((((psC s)).flatMap partsC).getD j default).2))]) ag36 sz36 rfl (fun j u hj => hX52.pins _ _ _ (hbp53 _ _ (by simpa using hj)))) (q1 rfl rfl rfl (o_call (vs := [(.agg [(.string (((((psC s)).flatMap partsC).getD j default).1)), (.string (((((psC s)).flatMap partsC).getD j default).2))].toArray)]) Tryz.func16 nm16 rfl rfl rfl ?_)))
 refine Calls.mono (text_spec (a := (((((psC s)).flatMap partsC).getD j default).1)) (t := (((((psC s)).flatMap partsC).getD j default).2)) hX52.pins (by omega) (by omega)) ?_
 rintro _ w57 ⟨G56, rfl, hx58⟩
 refine ⟨_, rfl, ?_⟩
 have hX59 := hX52.tr hx58
 have ho60 := ho55.ext hx58
 refine q1 rfl rfl rfl (o_buildF (E := eStr) (e := 9) [(.string (txW (((((psC s)).flatMap partsC).getD j default).1, ((((psC s)).flatMap partsC).getD j default).2)))] [txW (((((psC s)).flatMap partsC).getD j default).1, ((((psC s)).flatMap partsC).getD j default).2)] Tryz.underlying22 sz9 zr9 (by exact reps1 (by rfl)) (ones1 (by rfl)) rfl rfl rfl rfl (by decide) hX59.pins (fun u61 w62 ho63 hp64 hl65 hk66 => ?_))
 have hX67 := hX59.step hp64 hl65
 have ho68 := ho60.below hl65
 have ho70 : Own eStr 9 G56 w62 w.heap.size u61 ([txW (((((psC s)).flatMap partsC).getD j default).1, ((((psC s)).flatMap partsC).getD j default).2)]) := ho63.weaken hX59.size
 refine q1 rfl rfl rfl (o_append (E := eStr) (v := ov) (u := u61) 16 Tryz.underlying22 ap9 (by decide) rfl rfl hX67.pins ho68 ho70.src (by first | omega | (rw [List.nil_append]; omega) | (rw [List.length_nil]; omega) | (rw [List.length_append]; omega) | (simp; done) | (simp; omega) | (simp only [List.length_cons, List.length_nil]; omega) | (simp only [List.length_append, List.length_cons, List.length_nil]; omega)) (by first | omega | (rw [List.nil_append]; omega) | (rw [List.length_nil]; omega) | (rw [List.length_append]; omega) | (simp; done) | (simp; omega) | (simp only [List.length_cons, List.length_nil]; omega) | (simp only [List.length_append, List.length_cons, List.length_nil]; omega)) (hX67.size) (fun u71 w72 ho73 hp74 hg75 hw76 => ?_))
 have hX77 := hX67.write hp74 hg75 ((lo_own ho68))
 have hm80 : (os ++ ([txW (((((psC s)).flatMap partsC).getD j default).1, ((((psC s)).flatMap partsC).getD j default).2)])).length = os.length + 1 := List.length_append
 refine qd rfl rfl rfl (r_assign (v := u71) rfl) (qe (s_blkN (s_then (c_reg ?_))))
 refine qd rfl rfl rfl (r_add rfl rfl (by omega)) (qd rfl rfl rfl (r_move (v := (.int .i64 ((j : Int) + 1))) rfl) (qe (s_lopN (⟨_, ?_, _, rfl, _, j + 1, u71, os ++ ([txW (((((psC s)).flatMap partsC).getD j default).1, ((((psC s)).flatMap partsC).getD j default).2)]), G56, (packS (x := 20) (packS (x := 19) (packS (x := 18) (packS (x := 6) (packS (x := 3) (pack1 (x := 2) rfl) rfl) rfl) rfl) rfl) rfl), rfl, hX77, (Pin.le_trans (Pin.le_trans hlek23 hle51) hx58.le), (by omega), (mp_next (f := txW) (by omega) hos), (by simp [hol]), ho73⟩))))
 omega
 refine wp_exit (s_thenE (s_lopE (s_blkE (s_then (s_seq (c_reg ?_))))))
 refine qd rfl rfl rfl (r_move (v := ov) rfl) (qd rfl rfl rfl (r_assign (v := ov) rfl) (qd rfl rfl rfl (r_assign (v := (.bool true)) rfl) (qe (s_then ?_))))
 exact wp_ret (s_ret (c_ret2 (v := ov) (u := (.bool true)) rfl rfl rfl rfl rfl (⟨_, _, (by rw [h7]), (by rw [← pos_text, ← map_done (by omega) hos]; exact hw27), hX26⟩)))
 refine s_seq (c_reg ?_)
 refine qd rfl rfl rfl (r_assign (v := (.slice none 0 0)) rfl) (qd rfl rfl rfl (r_assign (v := (.bool false)) rfl) (qe (s_then ?_)))
 exact wp_ret (s_ret (c_ret2 (v := (.slice none 0 0)) (u := (.bool false)) rfl rfl rfl rfl rfl (⟨_, _, (by rw [h7]), (by rw [posP_no h7]; exact Own.nil _ _ _ _ _), hX6⟩)))

end QR2
end Go.Proofs.YtianphgdbfekdaaGreatDoor

namespace Go.GL
open Go Go.RowKit

theorem repsN {α : Type} {E : Elt α} {G : Pin} : RepsF E G [] [] := fun i y hy => by simp at hy
theorem repsC {α : Type} {E : Elt α} {G : Pin} {v : Value} {y : α} {vs : List Value} {ys : List α} (h : E.rep G [v] y) (k : RepsF E G vs ys) : RepsF E G (v :: vs) (y :: ys) := fun i z hz => by
 cases i with
 | zero => simp at hz; subst hz; exact ⟨v, rfl, h⟩
 | succ i => simp at hz; obtain ⟨u, hu, hr⟩ := k i z hz; exact ⟨u, by simpa using hu, hr⟩
theorem onesN : ∀ u ∈ ([] : List Value), u.oneCell' = true := fun _ h => (List.not_mem_nil h).elim
theorem onesC {v : Value} {vs : List Value} (h : v.oneCell' = true) (k : ∀ u ∈ vs, u.oneCell' = true) : ∀ u ∈ v :: vs, u.oneCell' = true := fun u hu => by
 rcases List.mem_cons.1 hu with rfl | hu
 ·exact h
 ·exact k u hu
end Go.GL
