/- Texts of this claim in one file: PS4, PS5, PW5, PW6, LitA, PW7, PW8, Wide, PS6, PS7, PS8. -/
import Derived.Test.YtianphgdbfekdaaGreatDoorPm4
import Derived.Test.YtianphgdbfekdaaGreatDoorChecked
set_option maxRecDepth 20000
set_option maxHeartbeats 2000000
namespace Go.Proofs.YtianphgdbfekdaaGreatDoor
namespace PS4
open Go.RowKit Go.GL Go.Proofs
open PS1









theorem clob_spec {w : World} {G : Pin} {s : ByteArray} {left : Bool} (hP : Pins G w) (hs : s.size ≤ 1000) :
  Calls Tryz.prog 92 [(.string s), (.bool left)].toArray w fun e w' => ∃ (u : Value) (G' : Pin), e = .returned u ∧ RSl eStr G' u (runM (clobAt s left) s.size) ∧ Ext noS G w G' w' := by
 refine s_enter (n := 53) Tryz.func92 Tryz.ntmps92 rfl rfl ?_
 have hX0 : Ext noS G w G w := Ext.refl hP
 refine s_seq (c_reg ?_)
 refine qd rfl rfl rfl (r_assign (v := (.slice none 0 0)) rfl) (qe (s_then (s_seq (c_reg ?_))))
 refine qd rfl rfl rfl (r_move (v := (.bool left)) rfl) (q1 rfl rfl rfl (o_call (vs := [(.bool left)]) Tryz.func90 nm90 rfl rfl rfl ?_))
 refine Calls.mono (sides_spec (left := left) hX0.pins) ?_
 rintro _ w2 ⟨G1, rfl, hx3⟩
 refine ⟨_, rfl, ?_⟩
 have hX4 := hX0.tr hx3
 refine qd rfl rfl rfl (r_move (v := (.tuple #[(.int .u8 ((mineS left).toNat : Int)), (.int .u8 ((mineS (!left)).toNat : Int))])) rfl) (qd rfl rfl rfl (r_extract (v := (.int .u8 ((mineS left).toNat : Int))) rfl rfl) (qd rfl rfl rfl (r_extract (v := (.int .u8 ((mineS (!left)).toNat : Int))) rfl rfl) (qd rfl rfl rfl (r_assign (v := (.int .u8 ((mineS left).toNat : Int))) rfl) (qd rfl rfl rfl (r_assign (v := (.int .u8 ((mineS (!left)).toNat : Int))) rfl) (qe (s_then (s_seq (c_reg ?_))))))))
 refine q1 rfl rfl rfl (o_build0 (E := eStr) (e := 9) Tryz.underlying22 sz9 hX4.pins (fun u5 w6 ho7 hp8 hl9 hk10 => ?_))
 have hX11 := hX4.step hp8 hl9
 have ho12 : Own eStr 9 G1 w6 w.heap.size u5 ([]) := ho7.weaken hX4.size
 refine qd rfl rfl rfl (r_assign (v := u5) rfl) (qe (s_then (s_seq (s_seq (c_reg ?_)))))
 refine qd rfl rfl rfl (r_move (v := (.string s)) rfl) (qd rfl rfl rfl (r_lenS Tryz.underlying9 rfl) (qd rfl rfl rfl (r_move (v := (.int .i64 0)) rfl) (qe (s_then ?_))))
 refine s_blk (s_loop (fun (k : Nat) (en : Nat → Value) (W : World) => ∃ (env1 : Nat → Value) (i9 : Nat) (ov : Value) (os : List ByteArray) (GL1 : Pin), en = (upd (upd (upd (upd (upd (upd (upd env1 0 (.string s)) 4 (.slice none 0 0)) 5 (.int .u8 ((mineS left).toNat : Int))) 6 (.int .u8 ((mineS (!left)).toNat : Int))) 7 ov) 18 (.int .i64 (s.size : Int))) 19 (.int .i64 (i9 : Int))) ∧ k = s.size - i9 ∧ Ext noS G w GL1 W ∧ Pin.le G1 GL1 ∧ (i9 ≤ s.size) ∧ (os = runM (clobAt s left) i9) ∧ (os.length ≤ 2 * i9) ∧ (Own eStr 9 GL1 W w.heap.size ov (os))) _ ⟨_, 0, u5, [], G1, (packS (x := 19) (packS (x := 18) (packS (x := 7) (packS (x := 6) (packS (x := 5) (packS (x := 4) (pack1 (x := 0) rfl) rfl) rfl) rfl) rfl) rfl) rfl), rfl, hX11, Pin.le_refl _, Nat.zero_le _, rfl, (by simp), ho12⟩ ?_)
 rintro k13 _ w14 ⟨env1, i9, ov, os, GL1, rfl, hk15, hX16, hlek13, hi, hos, hol, hw17⟩
 refine s_seq (c_reg ?_)
 refine qd rfl rfl rfl (r_lss rfl rfl) (qe (s_then (s_seq ?_)))
 refine c_ifd (p := ((i9 : Int) : Int) < (s.size : Int)) rfl rfl (fun h18 => ?_) (fun h18 => ?_)
 refine wp_skip (s_then (s_seq ?_))
 refine s_blk (s_seq (c_reg ?_))
 refine qd rfl rfl rfl (r_move (v := (.int .i64 (i9 : Int))) rfl) (qd rfl rfl rfl (r_assign (v := (.int .i64 (i9 : Int))) rfl) (qe (s_then (s_seq (c_reg ?_)))))
 refine qd rfl rfl rfl (r_move (v := (.int .i64 (i9 : Int))) rfl) (qd rfl rfl rfl (r_sub rfl rfl (by omega)) (qd rfl rfl rfl (r_move (v := (.int .i64 (i9 : Int))) rfl) (qd rfl rfl rfl (r_add rfl rfl (by omega)) (qd rfl rfl rfl (r_buildA (m := 1) [(.int .i64 0), (.int .i64 0)] [(.int .i64 ((i9 : Int) - 1)), (.int .i64 ((i9 : Int) + 1))] [(0, (.int .i64 ((i9 : Int) - 1)), [(.int .i64 ((i9 : Int) - 1))]), (1, (.int .i64 ((i9 : Int) + 1)), [(.int .i64 ((i9 : Int) + 1))])] Tryz.underlying124 zr124 rfl sz3 rfl (List.forall_mem_cons.2 ⟨rfl, (List.forall_mem_cons.2 ⟨rfl, (fun _ h => by cases h)⟩)⟩) rfl) (qd rfl rfl rfl (r_move (v := (.int .i64 0)) rfl) (qe (s_then ?_)))))))
 refine s_blk (s_loop (fun (k : Nat) (en : Nat → Value) (W : World) => ∃ (env1 : Nat → Value) (q9 : Nat) (ov2 : Value) (os2 : List ByteArray) (GL2 : Pin), en = (upd (upd (upd (upd (upd (upd (upd (upd (upd (upd env1 0 (.string s)) 4 (.slice none 0 0)) 5 (.int .u8 ((mineS left).toNat : Int))) 6 (.int .u8 ((mineS (!left)).toNat : Int))) 7 ov2) 8 (.int .i64 (i9 : Int))) 18 (.int .i64 (s.size : Int))) 19 (.int .i64 (i9 : Int))) 26 (.agg [(.int .i64 ((i9 : Int) - 1)), (.int .i64 ((i9 : Int) + 1))].toArray)) 27 (.int .i64 (q9 : Int))) ∧ k = 2 - q9 ∧ Ext noS G w GL2 W ∧ Pin.le GL1 GL2 ∧ (q9 ≤ 2) ∧ (os2 = os ++ runM (clobP s left i9) q9) ∧ (os2.length ≤ 2 * i9 + q9) ∧ (Own eStr 9 GL2 W w.heap.size ov2 (os2))) _ ⟨_, 0, ov, os, GL1, (packS (x := 27) (packS (x := 26) (packS (x := 19) (packS (x := 18) (packS (x := 8) (packS (x := 7) (packS (x := 6) (packS (x := 5) (packS (x := 4) (pack1 (x := 0) rfl) rfl) rfl) rfl) rfl) rfl) rfl) rfl) rfl) rfl), rfl, hX16, Pin.le_refl _, Nat.zero_le _, (List.append_nil _).symm, (by omega), hw17⟩ ?_)
 rintro k19 _ w20 ⟨env1, q9, ov2, os2, GL2, rfl, hk21, hX22, hlek19, hq, hos2, hol2, hw23⟩
 refine s_seq (c_reg ?_)
 refine qd rfl rfl rfl (r_lss rfl rfl) (qe (s_then (s_seq ?_)))
 refine c_ifd (p := ((q9 : Int) : Int) < 2) rfl rfl (fun h24 => ?_) (fun h24 => ?_)
 rcases (show q9 = 0 ∨ q9 = 1 by omega) with hcs | hcs
 ·subst hcs
  refine wp_skip (s_then (s_seq ?_))
  refine s_blk (s_seq (c_reg ?_))
  refine qd rfl rfl rfl ((runs_index (vs := [(.int .i64 ((i9 : Int) - 1)), (.int .i64 ((i9 : Int) + 1))]) (z := ((0 : Nat) : Int)) (u := (.int .i64 ((i9 : Int) - 1))) (by decide) rfl) Tryz.underlying124 rfl sz3 ag3 rfl rfl) (qd rfl rfl rfl (r_assign (v := (.int .i64 ((i9 : Int) - 1))) rfl) (qe (s_then (s_seq (c_reg ?_)))))
  refine qd rfl rfl rfl (r_move (v := (.string s)) rfl) (qd rfl rfl rfl (r_move (v := (.int .i64 (i9 : Int))) rfl) (qd rfl rfl rfl (r_idxB Tryz.underlying9 rfl rfl (by omega) (by omega)) (qd rfl rfl rfl (r_move (v := (.int .u8 ((mineS left).toNat : Int))) rfl) (qd rfl rfl rfl (r_eql rfl rfl) (qd rfl rfl rfl (r_move (v := (.bool (decide ((((sB s i9).toNat : Int) : Int) = ((mineS left).toNat : Int))))) rfl) (qbd (p := (((sB s i9).toNat : Int) : Int) = ((mineS left).toNat : Int)) (t := 35) rfl (fun h25 => ?_) (fun h25 => ?_)))))))
  refine qdg rfl rfl rfl rfl rfl rfl (r_move (v := (.string s)) rfl) (qdg rfl rfl rfl rfl rfl rfl (r_move (v := (.int .i64 ((i9 : Int) - 1))) rfl) (q1g rfl rfl rfl rfl rfl rfl (o_call (vs := [(.string s), (.int .i64 ((i9 : Int) - 1))]) Tryz.func112 nm112 rfl rfl rfl ?_)))
  refine Calls.mono (cell_spec (s := s) (i := ((i9 : Int) - 1)) hX22.pins) ?_
  rintro _ w27 ⟨G26, rfl, hx28⟩
  refine ⟨_, rfl, ?_⟩
  have hX29 := hX22.tr hx28
  have ho30 := hw23.ext hx28
  refine qdg rfl rfl rfl rfl rfl rfl (r_move (v := (.int .u8 ((mineS (!left)).toNat : Int))) rfl) (qdg rfl rfl rfl rfl rfl rfl (r_eql rfl rfl) (qd rfl rfl rfl (r_pickT (v := (.bool (decide ((((cB s ((i9 : Int) - 1)).toNat : Int) : Int) = ((mineS (!left)).toNat : Int))))) rfl rfl) (qe (s_then ?_))))
  refine c_ifd (p := (((cB s ((i9 : Int) - 1)).toNat : Int) : Int) = ((mineS (!left)).toNat : Int)) rfl rfl (fun h31 => ?_) (fun h31 => ?_)
  refine c_reg ?_
  have hat := cB_at (by rw [h31]; exact mineS_pos _)
  refine qd rfl rfl rfl (r_move (v := ov2) rfl) (qd rfl rfl rfl (r_move (v := (.string s)) rfl) (qd rfl rfl rfl (r_move (v := (.int .i64 (i9 : Int))) rfl) (qd rfl rfl rfl (r_move (v := (.int .i64 ((i9 : Int) - 1))) rfl) (qd rfl rfl rfl (r_move (v := (.int .u8 ((mineS left).toNat : Int))) rfl) (q1 rfl rfl rfl (o_call (vs := [(.string s), (.int .i64 (i9 : Int)), (.int .u8 46), (.int .i64 ((i9 : Int) - 1)), (.int .u8 ((mineS left).toNat : Int))]) Tryz.func113 nm113 rfl rfl rfl ?_))))))
  refine Calls.mono (set_spec (s := s) (i := (i9 : Int)) (a := (46 : UInt8)) (k := ((i9 : Int) - 1)) (b := (mineS left)) hX29.pins (by omega) (by omega) (by omega)) ?_
  rintro _ w33 ⟨G32, rfl, hx34⟩
  refine ⟨_, rfl, ?_⟩
  have hX35 := hX29.tr hx34
  have ho36 := ho30.ext hx34
  refine q1 rfl rfl rfl (o_buildF (E := eStr) (e := 9) [(.string (st2 s i9 (46 : UInt8) ((i9 : Int) - 1).toNat (mineS left)))] [st2 s i9 (46 : UInt8) ((i9 : Int) - 1).toNat (mineS left)] Tryz.underlying22 sz9 zr9 (by exact reps1 (by rfl)) (ones1 (by rfl)) rfl rfl rfl rfl (by decide) hX35.pins (fun u37 w38 ho39 hp40 hl41 hk42 => ?_))
  have hX43 := hX35.step hp40 hl41
  have ho44 := ho36.below hl41
  have ho46 : Own eStr 9 G32 w38 w.heap.size u37 ([st2 s i9 (46 : UInt8) ((i9 : Int) - 1).toNat (mineS left)]) := ho39.weaken hX35.size
  refine q1 rfl rfl rfl (o_append (E := eStr) (v := ov2) (u := u37) 16 Tryz.underlying22 ap9 (by decide) rfl rfl hX43.pins ho44 ho46.src (by first | omega | (rw [List.nil_append]; omega) | (rw [List.length_nil]; omega) | (rw [List.length_append]; omega) | (simp; done) | (simp; omega) | (simp only [List.length_cons, List.length_nil]; omega) | (simp only [List.length_append, List.length_cons, List.length_nil]; omega)) (by first | omega | (rw [List.nil_append]; omega) | (rw [List.length_nil]; omega) | (rw [List.length_append]; omega) | (simp; done) | (simp; omega) | (simp only [List.length_cons, List.length_nil]; omega) | (simp only [List.length_append, List.length_cons, List.length_nil]; omega)) (hX43.size) (fun u47 w48 ho49 hp50 hg51 hw52 => ?_))
  have hX53 := hX43.write hp50 hg51 ((lo_own ho44))
  have hm56 : (os2 ++ ([st2 s i9 (46 : UInt8) ((i9 : Int) - 1).toNat (mineS left)])).length = os2.length + 1 := List.length_append
  refine qd rfl rfl rfl (r_assign (v := u47) rfl) (qe (s_blkN (s_then (c_reg ?_))))
  refine qd rfl rfl rfl (r_add rfl rfl (by omega)) (qd rfl rfl rfl (r_move (v := (.int .i64 (((0 : Nat) : Int) + 1))) rfl) (qe (s_lopN (⟨_, ?_, _, rfl, _, 0 + 1, u47, os2 ++ ([st2 s i9 (46 : UInt8) ((i9 : Int) - 1).toNat (mineS left)]), G32, (packS (x := 27) (packS (x := 26) (packS (x := 19) (packS (x := 18) (packS (x := 8) (packS (x := 7) (packS (x := 6) (packS (x := 5) (packS (x := 4) (pack1 (x := 0) rfl) rfl) rfl) rfl) rfl) rfl) rfl) rfl) rfl) rfl), rfl, hX53, (Pin.le_trans (Pin.le_trans hlek19 hx28.le) hx34.le), (by omega), (by rw [hos2, List.append_assoc]; exact (congrArg (os ++ ·) (run_app rfl (clob_y (j := 0) h25 h31)))), (by simp; omega), ho49⟩))))
  omega
  refine wp_skip (s_blkN (s_then (c_reg ?_)))
  refine qd rfl rfl rfl (r_add rfl rfl (by omega)) (qd rfl rfl rfl (r_move (v := (.int .i64 (((0 : Nat) : Int) + 1))) rfl) (qe (s_lopN (⟨_, ?_, _, rfl, _, 0 + 1, ov2, os2, G26, (packS (x := 27) (packS (x := 26) (packS (x := 19) (packS (x := 18) (packS (x := 8) (packS (x := 7) (packS (x := 6) (packS (x := 5) (packS (x := 4) (pack1 (x := 0) rfl) rfl) rfl) rfl) rfl) rfl) rfl) rfl) rfl) rfl), rfl, hX29, (Pin.le_trans hlek19 hx28.le), (by omega), (by rw [hos2]; exact (congrArg (os ++ ·) (run_nil rfl (clob_b (j := 0) h31)))), (by omega), ho30⟩))))
  omega
  refine qs rfl rfl rfl rfl rfl rfl (qs rfl rfl rfl rfl rfl rfl (qs rfl rfl rfl rfl rfl rfl (qs rfl rfl rfl rfl rfl rfl (qs rfl rfl rfl rfl rfl rfl (qd rfl rfl rfl (r_pickF (v := (.bool false)) rfl rfl) (qe (s_then ?_)))))))
  refine c_ifF rfl rfl (wp_skip (s_blkN (s_then (c_reg ?_))))
  refine qd rfl rfl rfl (r_add rfl rfl (by omega)) (qd rfl rfl rfl (r_move (v := (.int .i64 (((0 : Nat) : Int) + 1))) rfl) (qe (s_lopN (⟨_, ?_, _, rfl, _, 0 + 1, ov2, os2, GL2, (packS (x := 27) (packS (x := 26) (packS (x := 19) (packS (x := 18) (packS (x := 8) (packS (x := 7) (packS (x := 6) (packS (x := 5) (packS (x := 4) (pack1 (x := 0) rfl) rfl) rfl) rfl) rfl) rfl) rfl) rfl) rfl) rfl), rfl, hX22, hlek19, (by omega), (by rw [hos2]; exact (congrArg (os ++ ·) (run_nil rfl (clob_a (j := 0) h25)))), (by omega), hw23⟩))))
  omega
 ·subst hcs
  refine wp_skip (s_then (s_seq ?_))
  refine s_blk (s_seq (c_reg ?_))
  refine qd rfl rfl rfl ((runs_index (vs := [(.int .i64 ((i9 : Int) - 1)), (.int .i64 ((i9 : Int) + 1))]) (z := ((1 : Nat) : Int)) (u := (.int .i64 ((i9 : Int) + 1))) (by decide) rfl) Tryz.underlying124 rfl sz3 ag3 rfl rfl) (qd rfl rfl rfl (r_assign (v := (.int .i64 ((i9 : Int) + 1))) rfl) (qe (s_then (s_seq (c_reg ?_)))))
  refine qd rfl rfl rfl (r_move (v := (.string s)) rfl) (qd rfl rfl rfl (r_move (v := (.int .i64 (i9 : Int))) rfl) (qd rfl rfl rfl (r_idxB Tryz.underlying9 rfl rfl (by omega) (by omega)) (qd rfl rfl rfl (r_move (v := (.int .u8 ((mineS left).toNat : Int))) rfl) (qd rfl rfl rfl (r_eql rfl rfl) (qd rfl rfl rfl (r_move (v := (.bool (decide ((((sB s i9).toNat : Int) : Int) = ((mineS left).toNat : Int))))) rfl) (qbd (p := (((sB s i9).toNat : Int) : Int) = ((mineS left).toNat : Int)) (t := 35) rfl (fun h57 => ?_) (fun h57 => ?_)))))))
  refine qdg rfl rfl rfl rfl rfl rfl (r_move (v := (.string s)) rfl) (qdg rfl rfl rfl rfl rfl rfl (r_move (v := (.int .i64 ((i9 : Int) + 1))) rfl) (q1g rfl rfl rfl rfl rfl rfl (o_call (vs := [(.string s), (.int .i64 ((i9 : Int) + 1))]) Tryz.func112 nm112 rfl rfl rfl ?_)))
  refine Calls.mono (cell_spec (s := s) (i := ((i9 : Int) + 1)) hX22.pins) ?_
  rintro _ w59 ⟨G58, rfl, hx60⟩
  refine ⟨_, rfl, ?_⟩
  have hX61 := hX22.tr hx60
  have ho62 := hw23.ext hx60
  refine qdg rfl rfl rfl rfl rfl rfl (r_move (v := (.int .u8 ((mineS (!left)).toNat : Int))) rfl) (qdg rfl rfl rfl rfl rfl rfl (r_eql rfl rfl) (qd rfl rfl rfl (r_pickT (v := (.bool (decide ((((cB s ((i9 : Int) + 1)).toNat : Int) : Int) = ((mineS (!left)).toNat : Int))))) rfl rfl) (qe (s_then ?_))))
  refine c_ifd (p := (((cB s ((i9 : Int) + 1)).toNat : Int) : Int) = ((mineS (!left)).toNat : Int)) rfl rfl (fun h63 => ?_) (fun h63 => ?_)
  refine c_reg ?_
  have hat := cB_at (by rw [h63]; exact mineS_pos _)
  refine qd rfl rfl rfl (r_move (v := ov2) rfl) (qd rfl rfl rfl (r_move (v := (.string s)) rfl) (qd rfl rfl rfl (r_move (v := (.int .i64 (i9 : Int))) rfl) (qd rfl rfl rfl (r_move (v := (.int .i64 ((i9 : Int) + 1))) rfl) (qd rfl rfl rfl (r_move (v := (.int .u8 ((mineS left).toNat : Int))) rfl) (q1 rfl rfl rfl (o_call (vs := [(.string s), (.int .i64 (i9 : Int)), (.int .u8 46), (.int .i64 ((i9 : Int) + 1)), (.int .u8 ((mineS left).toNat : Int))]) Tryz.func113 nm113 rfl rfl rfl ?_))))))
  refine Calls.mono (set_spec (s := s) (i := (i9 : Int)) (a := (46 : UInt8)) (k := ((i9 : Int) + 1)) (b := (mineS left)) hX61.pins (by omega) (by omega) (by omega)) ?_
  rintro _ w65 ⟨G64, rfl, hx66⟩
  refine ⟨_, rfl, ?_⟩
  have hX67 := hX61.tr hx66
  have ho68 := ho62.ext hx66
  refine q1 rfl rfl rfl (o_buildF (E := eStr) (e := 9) [(.string (st2 s i9 (46 : UInt8) ((i9 : Int) + 1).toNat (mineS left)))] [st2 s i9 (46 : UInt8) ((i9 : Int) + 1).toNat (mineS left)] Tryz.underlying22 sz9 zr9 (by exact reps1 (by rfl)) (ones1 (by rfl)) rfl rfl rfl rfl (by decide) hX67.pins (fun u69 w70 ho71 hp72 hl73 hk74 => ?_))
  have hX75 := hX67.step hp72 hl73
  have ho76 := ho68.below hl73
  have ho78 : Own eStr 9 G64 w70 w.heap.size u69 ([st2 s i9 (46 : UInt8) ((i9 : Int) + 1).toNat (mineS left)]) := ho71.weaken hX67.size
  refine q1 rfl rfl rfl (o_append (E := eStr) (v := ov2) (u := u69) 16 Tryz.underlying22 ap9 (by decide) rfl rfl hX75.pins ho76 ho78.src (by first | omega | (rw [List.nil_append]; omega) | (rw [List.length_nil]; omega) | (rw [List.length_append]; omega) | (simp; done) | (simp; omega) | (simp only [List.length_cons, List.length_nil]; omega) | (simp only [List.length_append, List.length_cons, List.length_nil]; omega)) (by first | omega | (rw [List.nil_append]; omega) | (rw [List.length_nil]; omega) | (rw [List.length_append]; omega) | (simp; done) | (simp; omega) | (simp only [List.length_cons, List.length_nil]; omega) | (simp only [List.length_append, List.length_cons, List.length_nil]; omega)) (hX75.size) (fun u79 w80 ho81 hp82 hg83 hw84 => ?_))
  have hX85 := hX75.write hp82 hg83 ((lo_own ho76))
  have hm88 : (os2 ++ ([st2 s i9 (46 : UInt8) ((i9 : Int) + 1).toNat (mineS left)])).length = os2.length + 1 := List.length_append
  refine qd rfl rfl rfl (r_assign (v := u79) rfl) (qe (s_blkN (s_then (c_reg ?_))))
  refine qd rfl rfl rfl (r_add rfl rfl (by omega)) (qd rfl rfl rfl (r_move (v := (.int .i64 (((1 : Nat) : Int) + 1))) rfl) (qe (s_lopN (⟨_, ?_, _, rfl, _, 1 + 1, u79, os2 ++ ([st2 s i9 (46 : UInt8) ((i9 : Int) + 1).toNat (mineS left)]), G64, (packS (x := 27) (packS (x := 26) (packS (x := 19) (packS (x := 18) (packS (x := 8) (packS (x := 7) (packS (x := 6) (packS (x := 5) (packS (x := 4) (pack1 (x := 0) rfl) rfl) rfl) rfl) rfl) rfl) rfl) rfl) rfl) rfl), rfl, hX85, (Pin.le_trans (Pin.le_trans hlek19 hx60.le) hx66.le), (by omega), (by rw [hos2, List.append_assoc]; exact (congrArg (os ++ ·) (run_app rfl (clob_y (j := 1) h57 h63)))), (by simp; omega), ho81⟩))))
  omega
  refine wp_skip (s_blkN (s_then (c_reg ?_)))
  refine qd rfl rfl rfl (r_add rfl rfl (by omega)) (qd rfl rfl rfl (r_move (v := (.int .i64 (((1 : Nat) : Int) + 1))) rfl) (qe (s_lopN (⟨_, ?_, _, rfl, _, 1 + 1, ov2, os2, G58, (packS (x := 27) (packS (x := 26) (packS (x := 19) (packS (x := 18) (packS (x := 8) (packS (x := 7) (packS (x := 6) (packS (x := 5) (packS (x := 4) (pack1 (x := 0) rfl) rfl) rfl) rfl) rfl) rfl) rfl) rfl) rfl) rfl), rfl, hX61, (Pin.le_trans hlek19 hx60.le), (by omega), (by rw [hos2]; exact (congrArg (os ++ ·) (run_nil rfl (clob_b (j := 1) h63)))), (by omega), ho62⟩))))
  omega
  refine qs rfl rfl rfl rfl rfl rfl (qs rfl rfl rfl rfl rfl rfl (qs rfl rfl rfl rfl rfl rfl (qs rfl rfl rfl rfl rfl rfl (qs rfl rfl rfl rfl rfl rfl (qd rfl rfl rfl (r_pickF (v := (.bool false)) rfl rfl) (qe (s_then ?_)))))))
  refine c_ifF rfl rfl (wp_skip (s_blkN (s_then (c_reg ?_))))
  refine qd rfl rfl rfl (r_add rfl rfl (by omega)) (qd rfl rfl rfl (r_move (v := (.int .i64 (((1 : Nat) : Int) + 1))) rfl) (qe (s_lopN (⟨_, ?_, _, rfl, _, 1 + 1, ov2, os2, GL2, (packS (x := 27) (packS (x := 26) (packS (x := 19) (packS (x := 18) (packS (x := 8) (packS (x := 7) (packS (x := 6) (packS (x := 5) (packS (x := 4) (pack1 (x := 0) rfl) rfl) rfl) rfl) rfl) rfl) rfl) rfl) rfl) rfl), rfl, hX22, hlek19, (by omega), (by rw [hos2]; exact (congrArg (os ++ ·) (run_nil rfl (clob_a (j := 1) h57)))), (by omega), hw23⟩))))
  omega
 refine wp_exit (s_thenE (s_lopE (s_blkE (s_blkN (s_then (c_reg ?_))))))
 refine qd rfl rfl rfl (r_add rfl rfl (by omega)) (qd rfl rfl rfl (r_move (v := (.int .i64 ((i9 : Int) + 1))) rfl) (qe (s_lopN (⟨_, ?_, _, rfl, _, i9 + 1, ov2, os2, GL2, (packS (x := 19) (packS (x := 18) (packS (x := 7) (packS (x := 6) (packS (x := 5) (packS (x := 4) (pack1 (x := 0) rfl) rfl) rfl) rfl) rfl) rfl) rfl), rfl, hX22, (Pin.le_trans hlek13 hlek19), (by omega), (run_join hos hos2 (by rw [show q9 = 2 by omega]; exact (clob_two s left i9).symm)), (by omega), hw23⟩))))
 omega
 refine wp_exit (s_thenE (s_lopE (s_blkE (s_then (s_seq (c_reg ?_))))))
 refine qd rfl rfl rfl (r_move (v := ov) rfl) (qd rfl rfl rfl (r_assign (v := ov) rfl) (qe (s_then ?_)))
 refine wp_ret (s_ret (c_ret1 (v := ov) rfl rfl rfl ?_))
 obtain ⟨G89, hle92, hX91, hr90, hf93⟩ := hw17.sealed hX16
 have hin : i9 = s.size := by omega
 subst hin
 exact ⟨_, _, rfl, (hos ▸ hr90), hX91⟩

end PS4
end Go.Proofs.YtianphgdbfekdaaGreatDoor

set_option maxRecDepth 20000
set_option maxHeartbeats 2000000
namespace Go.Proofs.YtianphgdbfekdaaGreatDoor
namespace PS5
open Go.RowKit Go.GL Go.Proofs
open PS1 PS2 PS3 PS4




theorem strip_spec {w : World} {G : Pin} {kind : Int} {s : ByteArray} {left : Bool} (hP : Pins G w) (hs : s.size ≤ 1000) :
  Calls Tryz.prog 60 [(.int .i64 kind), (.string s), (.bool left)].toArray w fun e w' => ∃ (u : Value) (G' : Pin), e = .returned u ∧ RSl eStr G' u (stripM kind s left) ∧ Ext noS G w G' w' := by
 refine s_enter (n := 35) Tryz.func60 Tryz.ntmps60 rfl rfl ?_
 have hX0 : Ext noS G w G w := Ext.refl hP
 refine s_seq (c_reg ?_)
 refine qd rfl rfl rfl (r_assign (v := (.slice none 0 0)) rfl) (qe (s_then (s_seq (c_reg ?_))))
 refine qd rfl rfl rfl (r_move (v := (.bool left)) rfl) (q1 rfl rfl rfl (o_call (vs := [(.bool left)]) Tryz.func90 nm90 rfl rfl rfl ?_))
 refine Calls.mono (sides_spec (left := left) hX0.pins) ?_
 rintro _ w2 ⟨G1, rfl, hx3⟩
 refine ⟨_, rfl, ?_⟩
 have hX4 := hX0.tr hx3
 refine qd rfl rfl rfl (r_move (v := (.tuple #[(.int .u8 ((mineS left).toNat : Int)), (.int .u8 ((mineS (!left)).toNat : Int))])) rfl) (qd rfl rfl rfl (r_extract (v := (.int .u8 ((mineS left).toNat : Int))) rfl rfl) (qd rfl rfl rfl (r_extract (v := (.int .u8 ((mineS (!left)).toNat : Int))) rfl rfl) (qd rfl rfl rfl (r_assign (v := (.int .u8 ((mineS left).toNat : Int))) rfl) (qd rfl rfl rfl (r_assign (v := (.int .u8 ((mineS (!left)).toNat : Int))) rfl) (qe (s_then (s_seq (s_seq (c_reg ?_)))))))))
 refine qd rfl rfl rfl (r_move (v := (.int .i64 kind)) rfl) (qe (s_then ?_))
 refine s_blk (s_seq (c_reg ?_))
 refine qd rfl rfl rfl (r_eql rfl rfl) (qd rfl rfl rfl (r_assign (v := (.bool (decide ((kind : Int) = 0)))) rfl) (qe (s_then ?_)))
 refine c_ifd (p := (kind : Int) = 0) rfl rfl (fun h5 => ?_) (fun h5 => ?_)
 refine s_seq (c_reg ?_)
 refine qd rfl rfl rfl (r_move (v := (.string s)) rfl) (qd rfl rfl rfl (r_move (v := (.bool left)) rfl) (q1 rfl rfl rfl (o_call (vs := [(.string s), (.bool left)]) Tryz.func91 nm91 rfl rfl rfl ?_)))
 refine Calls.mono (toad_spec (s := s) (left := left) hX4.pins (by omega)) ?_
 rintro _ w8 ⟨u6, G7, rfl, hr9, hx10⟩
 refine ⟨_, rfl, ?_⟩
 have hX11 := hX4.tr hx10
 refine qd rfl rfl rfl (r_assign (v := u6) rfl) (qe (s_then ?_))
 exact wp_ret (s_ret (c_ret1 (v := u6) rfl rfl rfl (⟨_, _, rfl, (by rw [← strip_0 h5]; exact hr9), hX11⟩)))
 refine s_seq (c_reg ?_)
 refine qd rfl rfl rfl (r_eql rfl rfl) (qd rfl rfl rfl (r_assign (v := (.bool (decide ((kind : Int) = 1)))) rfl) (qe (s_then ?_)))
 refine c_ifd (p := (kind : Int) = 1) rfl rfl (fun h12 => ?_) (fun h12 => ?_)
 refine s_seq (c_reg ?_)
 refine qd rfl rfl rfl (r_move (v := (.string s)) rfl) (qd rfl rfl rfl (r_move (v := (.bool left)) rfl) (q1 rfl rfl rfl (o_call (vs := [(.string s), (.bool left)]) Tryz.func92 nm92 rfl rfl rfl ?_)))
 refine Calls.mono (clob_spec (s := s) (left := left) hX4.pins (by omega)) ?_
 rintro _ w15 ⟨u13, G14, rfl, hr16, hx17⟩
 refine ⟨_, rfl, ?_⟩
 have hX18 := hX4.tr hx17
 refine qd rfl rfl rfl (r_assign (v := u13) rfl) (qe (s_then ?_))
 exact wp_ret (s_ret (c_ret1 (v := u13) rfl rfl rfl (⟨_, _, rfl, (by rw [← strip_1 h12]; exact hr16), hX18⟩)))
 refine s_seq (c_reg ?_)
 refine qd rfl rfl rfl (r_eql rfl rfl) (qd rfl rfl rfl (r_assign (v := (.bool (decide ((kind : Int) = 2)))) rfl) (qe (s_then ?_)))
 refine c_ifd (p := (kind : Int) = 2) rfl rfl (fun h19 => ?_) (fun h19 => ?_)
 refine s_seq (c_reg ?_)
 refine qd rfl rfl rfl (r_move (v := (.string s)) rfl) (qd rfl rfl rfl (r_move (v := (.int .u8 ((mineS left).toNat : Int))) rfl) (qd rfl rfl rfl (r_move (v := (.int .u8 ((mineS left).toNat : Int))) rfl) (q1 rfl rfl rfl (o_call (vs := [(.string s), (.int .u8 ((mineS left).toNat : Int)), (.int .u8 ((mineS left).toNat : Int))]) Tryz.func93 nm93 rfl rfl rfl ?_))))
 refine Calls.mono (mark_spec (s := s) (mine := (mineS left)) (bar := (mineS left)) hX4.pins (by omega)) ?_
 rintro _ w22 ⟨u20, G21, rfl, hr23, hx24⟩
 refine ⟨_, rfl, ?_⟩
 have hX25 := hX4.tr hx24
 refine qd rfl rfl rfl (r_assign (v := u20) rfl) (qe (s_then ?_))
 exact wp_ret (s_ret (c_ret1 (v := u20) rfl rfl rfl (⟨_, _, rfl, (by rw [← strip_2 h19]; exact hr23), hX25⟩)))
 refine wp_skip (s_blkN (s_then (s_seq (c_reg ?_))))
 refine qd rfl rfl rfl (r_move (v := (.string s)) rfl) (qd rfl rfl rfl (r_move (v := (.int .u8 ((mineS left).toNat : Int))) rfl) (qd rfl rfl rfl (r_move (v := (.int .u8 ((mineS (!left)).toNat : Int))) rfl) (q1 rfl rfl rfl (o_call (vs := [(.string s), (.int .u8 ((mineS left).toNat : Int)), (.int .u8 ((mineS (!left)).toNat : Int))]) Tryz.func93 nm93 rfl rfl rfl ?_))))
 refine Calls.mono (mark_spec (s := s) (mine := (mineS left)) (bar := (mineS (!left))) hX4.pins (by omega)) ?_
 rintro _ w28 ⟨u26, G27, rfl, hr29, hx30⟩
 refine ⟨_, rfl, ?_⟩
 have hX31 := hX4.tr hx30
 refine qd rfl rfl rfl (r_assign (v := u26) rfl) (qe (s_then ?_))
 exact wp_ret (s_ret (c_ret1 (v := u26) rfl rfl rfl (⟨_, _, rfl, (by rw [← strip_3 h5 h12 h19]; exact hr29), hX31⟩)))

end PS5
end Go.Proofs.YtianphgdbfekdaaGreatDoor

set_option maxRecDepth 20000
set_option maxHeartbeats 2000000
namespace Go.Proofs.YtianphgdbfekdaaGreatDoor
namespace PW5
open Go.RowKit Go.GL Go.Proofs
open PT3 PTB PW1 PW2 PW3 PW4 RM1 RM2 RM3 PS1 PS2 PS3 PS4 PS5



















theorem good_spec {w : World} {G : Pin} {a t : ByteArray} (hP : Pins G w) (hM : MxG 0 G) (hs : t.size ≤ 1048576) :
  Calls Tryz.prog 24 [(.agg [(.string a), (.string t)].toArray)].toArray w fun e w' => ∃ G', e = .returned (.bool (agB (vbI a) t)) ∧ Ext noS G w G' w' := by
 refine s_enter (n := 54) Tryz.func24 Tryz.ntmps24 rfl rfl ?_
 have hX0 : Ext noS G w G w := Ext.refl hP
 refine s_seq (c_reg ?_)
 refine q1 rfl rfl rfl (o_box [(.string a), (.string t)] (v := (.agg [(.string a), (.string t)].toArray)) rfl rfl hX0.pins (fun b1 w2 hk3 hb4 hp5 hl6 => ?_))
 have hX7 := hX0.step hp5 hl6
 have hlo8 : w.heap.size ≤ b1 := by have := hX0.size; omega
 obtain ⟨G9, hle10, hX11, hbp12, hf13⟩ := hb4.shut hX7 hlo8
 refine qd rfl rfl rfl (r_assign (v := (.bool false)) rfl) (qe (s_then (s_seq (s_seq (c_reg ?_)))))
 refine qd rfl rfl rfl (r_fldp (k := 0) rfl Tryz.underlying36 rfl nz9 rfl) (qd rfl rfl rfl (r_ldp1 (u := (.string a)) ag9 rfl (hX11.pins _ _ _ (hbp12 0 _ rfl))) (qe (s_then ?_)))
 refine s_blk (s_seq (c_reg ?_))
 refine qd rfl rfl rfl (r_eqlS rfl rfl) (qd rfl rfl rfl (r_assign (v := (.bool (a.toList == (⟨#[100, 111, 109]⟩ : ByteArray).toList))) rfl) (qe (s_then ?_)))
 refine c_if rfl rfl (fun h14 => ?_) (fun h14 => ?_)
 refine s_seq (c_reg ?_)
 refine qd rfl rfl rfl (r_fldp (k := 1) rfl Tryz.underlying36 rfl nz9 rfl) (qd rfl rfl rfl (r_ldp1 (u := (.string t)) ag9 rfl (hX11.pins _ _ _ (hbp12 1 _ rfl))) (q1 rfl rfl rfl (o_call (vs := [(.string t)]) Tryz.func44 nm44 rfl rfl rfl ?_)))
 refine Calls.mono (iReadBoard_spec (t := t) hX11.pins (hM.le hle10) (by omega)) ?_
 rintro _ w17 ⟨u15, G16, rfl, hr18, hx19⟩
 refine ⟨_, rfl, ?_⟩
 have hX20 := hX11.tr hx19
 refine qd rfl rfl rfl (r_move (v := (.tuple #[(.agg [u15].toArray), (.bool (rdB9 t))])) rfl) (qd rfl rfl rfl (r_extract (v := (.agg [u15].toArray)) rfl rfl) (qd rfl rfl rfl (r_extract (v := (.bool (rdB9 t))) rfl rfl) (q1 rfl rfl rfl (o_alloc [(.slice none 0 0)] zr56 rfl hX20.pins (fun b21 w22 hk23 hb24 hp25 hl26 => ?_)))))
 have hX27 := hX20.step hp25 hl26
 have hlo28 : w.heap.size ≤ b21 := by have := hX20.size; omega
 refine q0 rfl rfl rfl (o_stp (cs' := [u15]) (us := [u15]) (v := (.agg [u15].toArray)) sz56 rfl rfl rfl (ones1 hr18.one) hX27.pins hb24 (Nat.le_of_ble_eq_true rfl) rfl (fun w29 hb30 hp31 hg32 hz33 => ?_))
 have hX34 := hX27.write hp31 hg32 ((lo_box hlo28))
 obtain ⟨G35, hle36, hX37, hbp38, hf39⟩ := hb30.shut hX34 hlo28
 refine qd rfl rfl rfl (r_assign (v := (.bool (rdB9 t))) rfl) (qe (s_then (s_seq (c_reg ?_))))
 refine qd rfl rfl rfl (r_move (v := (.bool (rdB9 t))) rfl) (qd rfl rfl rfl (r_move (v := (.bool (rdB9 t))) rfl) (qb (t := 16) rfl (fun h40 => ?_) (fun h40 => ?_)))
 refine qdg rfl rfl rfl rfl rfl rfl (r_fldp (k := 1) rfl Tryz.underlying36 rfl nz9 rfl) (qdg rfl rfl rfl rfl rfl rfl (r_ldp1 (u := (.string t)) ag9 rfl ((Pins.of_le hX37.pins (Pin.le_trans hx19.le hle36)) _ _ _ (hbp12 1 _ rfl))) (q1g rfl rfl rfl rfl rfl rfl (o_call (vs := [(.string t), (.string (⟨#[46]⟩ : ByteArray))]) Tryz.func45 nm45 rfl rfl rfl ?_)))
 refine Calls.mono (countX_spec (t := t) hX37.pins) ?_
 rintro _ _ ⟨rfl, rfl⟩
 refine ⟨_, rfl, ?_⟩
 refine qdg rfl rfl rfl rfl rfl rfl (r_leq rfl rfl) (qd rfl rfl rfl (r_pickT (v := (.bool (decide ((((dotN t : Nat) : Int) : Int) ≤ 9)))) rfl rfl) (qd rfl rfl rfl (r_assign (v := (.bool (decide ((((dotN t : Nat) : Int) : Int) ≤ 9)))) rfl) (qe (s_then ?_))))
 refine wp_ret (s_ret (c_ret1 (v := (.bool (decide ((((dotN t : Nat) : Int) : Int) ≤ 9)))) rfl rfl rfl ?_))
 have hvb := vb_rng (a := a)
 exact ⟨_, congrArg (fun z => Ending.returned (Value.bool z)) (by have q4 := vb_y 4 (by omega) h14; rw [ag_4 (by omega), h40]; try rfl), hX37⟩
 refine qs rfl rfl rfl rfl rfl rfl (qs rfl rfl rfl rfl rfl rfl (qs rfl rfl rfl rfl rfl rfl (qs rfl rfl rfl rfl rfl rfl (qd rfl rfl rfl (r_pickF (v := (.bool false)) rfl rfl) (qd rfl rfl rfl (r_assign (v := (.bool false)) rfl) (qe (s_then ?_)))))))
 refine wp_ret (s_ret (c_ret1 (v := (.bool false)) rfl rfl rfl ?_))
 have hvb := vb_rng (a := a)
 exact ⟨_, congrArg (fun z => Ending.returned (Value.bool z)) (by have q4 := vb_y 4 (by omega) h14; rw [ag_4 (by omega), h40]; try rfl), hX37⟩
 refine s_seq (c_reg ?_)
 refine qd rfl rfl rfl (r_eqlS rfl rfl) (qd rfl rfl rfl (r_assign (v := (.bool (a.toList == (⟨#[115, 116, 97, 108, 107]⟩ : ByteArray).toList))) rfl) (qe (s_then ?_)))
 refine c_if rfl rfl (fun h41 => ?_) (fun h41 => ?_)
 refine s_seq (c_reg ?_)
 refine qd rfl rfl rfl (r_fldp (k := 1) rfl Tryz.underlying36 rfl nz9 rfl) (qd rfl rfl rfl (r_ldp1 (u := (.string t)) ag9 rfl (hX11.pins _ _ _ (hbp12 1 _ rfl))) (qd rfl rfl rfl (r_lenS Tryz.underlying9 rfl) (qd rfl rfl rfl (r_leq rfl rfl) (qd rfl rfl rfl (r_move (v := (.bool (decide (((t.size : Int) : Int) ≤ 8)))) rfl) (qbd (p := ((t.size : Int) : Int) ≤ 8) (t := 28) rfl (fun h42 => ?_) (fun h42 => ?_))))))
 refine qdg rfl rfl rfl rfl rfl rfl (r_fldp (k := 1) rfl Tryz.underlying36 rfl nz9 rfl) (qdg rfl rfl rfl rfl rfl rfl (r_ldp1 (u := (.string t)) ag9 rfl (hX11.pins _ _ _ (hbp12 1 _ rfl))) (q1g rfl rfl rfl rfl rfl rfl (o_call (vs := [(.string t)]) Tryz.func46 nm46 rfl rfl rfl ?_)))
 refine Calls.mono (areMarks_spec (s := t) hX11.pins (by omega)) ?_
 rintro _ w44 ⟨G43, rfl, hx45⟩
 refine ⟨_, rfl, ?_⟩
 have hX46 := hX11.tr hx45
 refine qd rfl rfl rfl (r_pickT (v := (.bool (mkB t))) rfl rfl) (qd rfl rfl rfl (r_assign (v := (.bool (mkB t))) rfl) (qe (s_then ?_)))
 refine wp_ret (s_ret (c_ret1 (v := (.bool (mkB t))) rfl rfl rfl ?_))
 have hvb := vb_rng (a := a)
 exact ⟨_, congrArg (fun z => Ending.returned (Value.bool z)) (by have q4 := vb_n 4 (by omega) h14; have q5 := vb_y 5 (by omega) h41; rw [ag_5 (by omega), decide_eq_true h42]; try rfl), hX46⟩
 refine qs rfl rfl rfl rfl rfl rfl (qs rfl rfl rfl rfl rfl rfl (qs rfl rfl rfl rfl rfl rfl (qd rfl rfl rfl (r_pickF (v := (.bool false)) rfl rfl) (qd rfl rfl rfl (r_assign (v := (.bool false)) rfl) (qe (s_then ?_))))))
 refine wp_ret (s_ret (c_ret1 (v := (.bool false)) rfl rfl rfl ?_))
 have hvb := vb_rng (a := a)
 exact ⟨_, congrArg (fun z => Ending.returned (Value.bool z)) (by have q4 := vb_n 4 (by omega) h14; have q5 := vb_y 5 (by omega) h41; rw [ag_5 (by omega), decide_eq_false h42]; try rfl), hX11⟩
 refine s_seq (c_reg ?_)
 refine qd rfl rfl rfl (r_eqlS rfl rfl) (qd rfl rfl rfl (r_assign (v := (.bool (a.toList == (⟨#[110, 105, 109]⟩ : ByteArray).toList))) rfl) (qe (s_then ?_)))
 refine c_if rfl rfl (fun h47 => ?_) (fun h47 => ?_)
 refine s_seq (c_reg ?_)
 refine qd rfl rfl rfl (r_ldpA (cs := [(.string a), (.string t)]) ag36 sz36 rfl (fun j u hj => hX11.pins _ _ _ (hbp12 _ _ (by simpa using hj)))) (q1 rfl rfl rfl (o_call (vs := [(.agg [(.string a), (.string t)].toArray)]) Tryz.func47 nm47 rfl rfl rfl ?_))
 refine Calls.mono (heap_spec (a := a) (t := t) hX11.pins) ?_
 rintro _ w49 ⟨G48, rfl, hx50⟩
 refine ⟨_, rfl, ?_⟩
 have hX51 := hX11.tr hx50
 refine qd rfl rfl rfl (r_geq rfl rfl) (qd rfl rfl rfl (r_assign (v := (.bool (decide ((0 : Int) ≤ (hpI t))))) rfl) (qe (s_then ?_)))
 refine wp_ret (s_ret (c_ret1 (v := (.bool (decide ((0 : Int) ≤ (hpI t))))) rfl rfl rfl ?_))
 have hvb := vb_rng (a := a)
 exact ⟨_, congrArg (fun z => Ending.returned (Value.bool z)) (by have q4 := vb_n 4 (by omega) h14; have q5 := vb_n 5 (by omega) h41; have q6 := vb_y 6 (by omega) h47; rw [ag_6 (by omega)]; try rfl), hX51⟩
 refine wp_skip (s_blkN (s_then (s_seq ?_)))
 refine c_draw (S := fun wz => Pins G9 wz) (last := 17) (by kernel_rfl) rfl ?_
 have hl52 : Below w2.heap.size w2 w2.drew := (Below.refl _ _).drew
 have hp53 := hX11.pins.below hl52
 have hX54 := hX11.step hp53 hl52
 refine dr_take (i := 0) rfl rfl rfl (want_none rfl _) (by kernel_rfl) (fun _ hS => r_ldpA (cs := [(.string a), (.string t)]) ag36 sz36 rfl (fun j u hj => hS _ _ _ (hbp12 _ _ (by simpa using hj)))) hX54.pins (dr_one (i := 1) (by kernel_rfl) (drOp1 (i := 1) rfl rfl rfl (want_none rfl _) (o_call (vs := [(.agg [(.string a), (.string t)].toArray)]) Tryz.func48 nm48 rfl rfl rfl ?_)))
 refine Calls.mono (stripKind_spec (a := a) (t := t) hX54.pins) ?_
 rintro _ w56 ⟨G55, rfl, hx57⟩
 refine ⟨_, rfl, ?_⟩
 have hX58 := hX54.tr hx57
 refine ⟨fun _ => (Pins.of_le hX58.pins hx57.le), ?_⟩
 refine dr_take (i := 2) rfl rfl rfl (want_none rfl _) (by kernel_rfl) (fun _ _ => r_geq rfl rfl) (Pins.of_le hX58.pins hx57.le) (dr_take (i := 3) rfl rfl rfl (want_none rfl _) (by kernel_rfl) (fun _ _ => r_move (v := (.bool (decide ((0 : Int) ≤ (skI a))))) rfl) (Pins.of_le hX58.pins hx57.le) (drbd (p := (0 : Int) ≤ (skI a)) (t := 41) rfl (fun h59 => ?_) (fun h59 => ?_)))
 refine dr_take (i := 4) rfl rfl rfl (want_yes rfl rfl rfl rfl) (by kernel_rfl) (fun _ hS => r_ldpA (cs := [(.string a), (.string t)]) ag36 sz36 rfl (fun j u hj => hS _ _ _ (hbp12 _ _ (by simpa using hj)))) (Pins.of_le hX58.pins hx57.le) (dr_take (i := 6) rfl rfl rfl (want_yes rfl rfl rfl rfl) (by kernel_rfl) (fun _ _ => r_fldp (k := 1) rfl Tryz.underlying36 rfl nz9 rfl) (Pins.of_le hX58.pins hx57.le) (dr_take (i := 7) rfl rfl rfl (want_yes rfl rfl rfl rfl) (by kernel_rfl) (fun _ hS => r_ldp1 (u := (.string t)) ag9 rfl (hS _ _ _ (hbp12 1 _ rfl))) (Pins.of_le hX58.pins hx57.le) (dr_one (i := 5) (by kernel_rfl) (drOp1 (i := 5) rfl rfl rfl (want_yes rfl rfl rfl rfl) (o_call (vs := [(.agg [(.string a), (.string t)].toArray)]) Tryz.func48 nm48 rfl rfl rfl ?_)))))
 refine Calls.mono (stripKind_spec (a := a) (t := t) hX58.pins) ?_
 rintro _ w61 ⟨G60, rfl, hx62⟩
 refine ⟨_, rfl, ?_⟩
 have hX63 := hX58.tr hx62
 refine ⟨fun _ => (Pins.of_le hX63.pins (Pin.le_trans hx57.le hx62.le)), ?_⟩
 refine dr_one (i := 8) (by kernel_rfl) (drOp1 (i := 8) rfl rfl rfl (want_yes rfl rfl rfl rfl) (o_call (vs := [(.int .i64 (skI a)), (.string t)]) Tryz.func49 nm49 rfl rfl rfl ?_))
 refine Calls.mono (iGoodStrip_spec (kd := (skI a)) (s := t) hX63.pins) ?_
 rintro _ w65 ⟨G64, rfl, hx66⟩
 refine ⟨_, rfl, ?_⟩
 have hX67 := hX63.tr hx66
 refine ⟨fun _ => (Pins.of_le hX67.pins (Pin.le_trans (Pin.le_trans hx57.le hx62.le) hx66.le)), ?_⟩
 refine dr_take (i := 9) rfl rfl rfl (want_none rfl _) (by kernel_rfl) (fun _ _ => r_pickT (v := (.bool (gsB (skI a) t))) rfl rfl) (Pins.of_le hX67.pins (Pin.le_trans (Pin.le_trans hx57.le hx62.le) hx66.le)) (dr_take (i := 10) rfl rfl rfl (want_none rfl _) (by kernel_rfl) (fun _ _ => r_move (v := (.bool (gsB (skI a) t))) rfl) (Pins.of_le hX67.pins (Pin.le_trans (Pin.le_trans hx57.le hx62.le) hx66.le)) (drb (t := 48) rfl (fun h68 => ?_) (fun h68 => ?_)))
 refine dr_take (i := 11) rfl rfl rfl (want_yes rfl rfl rfl rfl) (by kernel_rfl) (fun _ _ => r_fldp (k := 1) rfl Tryz.underlying36 rfl nz9 rfl) (Pins.of_le hX67.pins (Pin.le_trans (Pin.le_trans hx57.le hx62.le) hx66.le)) (dr_take (i := 12) rfl rfl rfl (want_yes rfl rfl rfl rfl) (by kernel_rfl) (fun _ hS => r_ldp1 (u := (.string t)) ag9 rfl (hS _ _ _ (hbp12 1 _ rfl))) (Pins.of_le hX67.pins (Pin.le_trans (Pin.le_trans hx57.le hx62.le) hx66.le)) (dr_take (i := 13) rfl rfl rfl (want_yes rfl rfl rfl rfl) (by kernel_rfl) (fun _ _ => r_lenS Tryz.underlying9 rfl) (Pins.of_le hX67.pins (Pin.le_trans (Pin.le_trans hx57.le hx62.le) hx66.le)) (dr_take (i := 14) rfl rfl rfl (want_yes rfl rfl rfl rfl) (by kernel_rfl) (fun _ _ => r_leq rfl rfl) (Pins.of_le hX67.pins (Pin.le_trans (Pin.le_trans hx57.le hx62.le) hx66.le)) (dr_take (i := 15) rfl rfl rfl (want_none rfl _) (by kernel_rfl) (fun _ _ => r_pickT (v := (.bool (decide (((t.size : Int) : Int) ≤ 7)))) rfl rfl) (Pins.of_le hX67.pins (Pin.le_trans (Pin.le_trans hx57.le hx62.le) hx66.le)) (dr_take (i := 16) rfl rfl rfl (want_none rfl _) (by kernel_rfl) (fun _ _ => r_assign (v := (.bool (decide (((t.size : Int) : Int) ≤ 7)))) rfl) (Pins.of_le hX67.pins (Pin.le_trans (Pin.le_trans hx57.le hx62.le) hx66.le)) (dr_end (by kernel_rfl) (s_then (wp_ret (s_ret (c_ret1 (v := (.bool (decide (((t.size : Int) : Int) ≤ 7)))) rfl rfl rfl ?_))))))))))
 have hvb := vb_rng (a := a)
 exact ⟨_, congrArg (fun z => Ending.returned (Value.bool z)) (by have q4 := vb_n 4 (by omega) h14; have q5 := vb_n 5 (by omega) h41; have q6 := vb_n 6 (by omega) h47; rw [ag_3 (by omega), decide_eq_true h59, h68]; try rfl), hX67⟩
 refine dr_skip (i := 11) rfl rfl (want_no rfl rfl rfl rfl rfl) (by kernel_rfl) (Pins.of_le hX67.pins (Pin.le_trans (Pin.le_trans hx57.le hx62.le) hx66.le)) (dr_skip (i := 12) rfl rfl (want_no rfl rfl rfl rfl rfl) (by kernel_rfl) (Pins.of_le hX67.pins (Pin.le_trans (Pin.le_trans hx57.le hx62.le) hx66.le)) (dr_skip (i := 13) rfl rfl (want_no rfl rfl rfl rfl rfl) (by kernel_rfl) (Pins.of_le hX67.pins (Pin.le_trans (Pin.le_trans hx57.le hx62.le) hx66.le)) (dr_skip (i := 14) rfl rfl (want_no rfl rfl rfl rfl rfl) (by kernel_rfl) (Pins.of_le hX67.pins (Pin.le_trans (Pin.le_trans hx57.le hx62.le) hx66.le)) (dr_take (i := 15) rfl rfl rfl (want_none rfl _) (by kernel_rfl) (fun _ _ => r_pickF (v := (.bool false)) rfl rfl) (Pins.of_le hX67.pins (Pin.le_trans (Pin.le_trans hx57.le hx62.le) hx66.le)) (dr_take (i := 16) rfl rfl rfl (want_none rfl _) (by kernel_rfl) (fun _ _ => r_assign (v := (.bool false)) rfl) (Pins.of_le hX67.pins (Pin.le_trans (Pin.le_trans hx57.le hx62.le) hx66.le)) (dr_end (by kernel_rfl) (s_then (wp_ret (s_ret (c_ret1 (v := (.bool false)) rfl rfl rfl ?_))))))))))
 have hvb := vb_rng (a := a)
 exact ⟨_, congrArg (fun z => Ending.returned (Value.bool z)) (by have q4 := vb_n 4 (by omega) h14; have q5 := vb_n 5 (by omega) h41; have q6 := vb_n 6 (by omega) h47; rw [ag_3 (by omega), decide_eq_true h59, h68]; try rfl), hX67⟩
 refine dr_skip (i := 4) rfl rfl (want_no rfl rfl rfl rfl rfl) (by kernel_rfl) (Pins.of_le hX58.pins hx57.le) (dr_skip (i := 6) rfl rfl (want_no rfl rfl rfl rfl rfl) (by kernel_rfl) (Pins.of_le hX58.pins hx57.le) (dr_skip (i := 7) rfl rfl (want_no rfl rfl rfl rfl rfl) (by kernel_rfl) (Pins.of_le hX58.pins hx57.le) (dr_skip (i := 5) rfl rfl (want_no rfl rfl rfl rfl rfl) (by kernel_rfl) (Pins.of_le hX58.pins hx57.le) (dr_skip (i := 8) rfl rfl (want_no rfl rfl rfl rfl rfl) (by kernel_rfl) (Pins.of_le hX58.pins hx57.le) (dr_take (i := 9) rfl rfl rfl (want_none rfl _) (by kernel_rfl) (fun _ _ => r_pickF (v := (.bool false)) rfl rfl) (Pins.of_le hX58.pins hx57.le) (dr_take (i := 10) rfl rfl rfl (want_none rfl _) (by kernel_rfl) (fun _ _ => r_move (v := (.bool false)) rfl) (Pins.of_le hX58.pins hx57.le) (dr_skip (i := 11) rfl rfl (want_no rfl rfl rfl rfl rfl) (by kernel_rfl) (Pins.of_le hX58.pins hx57.le) (dr_skip (i := 12) rfl rfl (want_no rfl rfl rfl rfl rfl) (by kernel_rfl) (Pins.of_le hX58.pins hx57.le) (dr_skip (i := 13) rfl rfl (want_no rfl rfl rfl rfl rfl) (by kernel_rfl) (Pins.of_le hX58.pins hx57.le) (dr_skip (i := 14) rfl rfl (want_no rfl rfl rfl rfl rfl) (by kernel_rfl) (Pins.of_le hX58.pins hx57.le) (dr_take (i := 15) rfl rfl rfl (want_none rfl _) (by kernel_rfl) (fun _ _ => r_pickF (v := (.bool false)) rfl rfl) (Pins.of_le hX58.pins hx57.le) (dr_take (i := 16) rfl rfl rfl (want_none rfl _) (by kernel_rfl) (fun _ _ => r_assign (v := (.bool false)) rfl) (Pins.of_le hX58.pins hx57.le) (dr_end (by kernel_rfl) (s_then (wp_ret (s_ret (c_ret1 (v := (.bool false)) rfl rfl rfl ?_)))))))))))))))))
 have hvb := vb_rng (a := a)
 exact ⟨_, congrArg (fun z => Ending.returned (Value.bool z)) (by have q4 := vb_n 4 (by omega) h14; have q5 := vb_n 5 (by omega) h41; have q6 := vb_n 6 (by omega) h47; rw [ag_3 (by omega), decide_eq_false h59]; try rfl), hX58⟩

theorem text_spec {w : World} {G : Pin} {a t : ByteArray} (hP : Pins G w) (ha : a.size ≤ 1000) (ht : t.size ≤ 1000) :
  Calls Tryz.prog 16 [(.agg [(.string a), (.string t)].toArray)].toArray w fun e w' => ∃ G', e = .returned (.string (txW (a, t))) ∧ Ext noS G w G' w' := by
 refine s_enter (n := 9) Tryz.func16 Tryz.ntmps16 rfl rfl ?_
 have hX0 : Ext noS G w G w := Ext.refl hP
 refine s_seq (c_reg ?_)
 refine q1 rfl rfl rfl (o_box [(.string a), (.string t)] (v := (.agg [(.string a), (.string t)].toArray)) rfl rfl hX0.pins (fun b1 w2 hk3 hb4 hp5 hl6 => ?_))
 have hX7 := hX0.step hp5 hl6
 have hlo8 : w.heap.size ≤ b1 := by have := hX0.size; omega
 obtain ⟨G9, hle10, hX11, hbp12, hf13⟩ := hb4.shut hX7 hlo8
 refine qd rfl rfl rfl (r_assign (v := (.string (⟨#[]⟩ : ByteArray))) rfl) (qe (s_then (s_seq (c_reg ?_))))
 refine qd rfl rfl rfl (r_fldp (k := 0) rfl Tryz.underlying36 rfl nz9 rfl) (qd rfl rfl rfl (r_ldp1 (u := (.string a)) ag9 rfl (hX11.pins _ _ _ (hbp12 0 _ rfl))) ?_)
 have hm14 : (⟨#[32]⟩ : ByteArray).size = 1 := rfl
 have hm15 : (a ++ (⟨#[32]⟩ : ByteArray)).size = a.size + (⟨#[32]⟩ : ByteArray).size := ByteArray.size_append
 refine qd rfl rfl rfl (r_addS rfl rfl (by omega)) (qd rfl rfl rfl (r_fldp (k := 1) rfl Tryz.underlying36 rfl nz9 rfl) (qd rfl rfl rfl (r_ldp1 (u := (.string t)) ag9 rfl (hX11.pins _ _ _ (hbp12 1 _ rfl))) ?_))
 have hm16 : ((a ++ (⟨#[32]⟩ : ByteArray)) ++ t).size = (a ++ (⟨#[32]⟩ : ByteArray)).size + t.size := ByteArray.size_append
 refine qd rfl rfl rfl (r_addS rfl rfl (by omega)) (qd rfl rfl rfl (r_assign (v := (.string ((a ++ (⟨#[32]⟩ : ByteArray)) ++ t))) rfl) (qe (s_then ?_)))
 exact wp_ret (s_ret (c_ret1 (v := (.string ((a ++ (⟨#[32]⟩ : ByteArray)) ++ t))) rfl rfl rfl (⟨_, rfl, hX11⟩)))

theorem skv_spec {w : World} {G : Pin} {a t : ByteArray} (hP : Pins G w) (h3 : vbI a ≤ 3) :
  Calls Tryz.prog 48 [(.agg [(.string a), (.string t)].toArray)].toArray w fun e w' => ∃ G', e = .returned (.int .i64 (vbI a)) ∧ Ext noS G w G' w' := by
 refine (stripKind_spec hP).mono ?_
 rintro e w' ⟨G', rfl, hx⟩
 exact ⟨G', by rw [sk_of h3], hx⟩

theorem args_spec {w : World} {G : Pin} {a t : ByteArray} {left : Bool} (hP : Pins G w) (hM : MxG 0 G) (g : AgP (vbI a) t) :
  Calls Tryz.prog 28 [(.agg [(.string a), (.string t)].toArray), (.bool left)].toArray w fun e w' => ∃ (u : Value) (G' : Pin), e = .returned u ∧ RSl eStr G' u (argM (vbI a) t left) ∧ Ext noS G w G' w' := by
 refine s_enter (n := 42) Tryz.func28 Tryz.ntmps28 rfl rfl ?_
 have hX0 : Ext noS G w G w := Ext.refl hP
 have hvb := vb_rng (a := a)
 have hag := ag_size g
 have hg0 := ag_pos g
 refine s_seq (c_reg ?_)
 refine q1 rfl rfl rfl (o_box [(.string a), (.string t)] (v := (.agg [(.string a), (.string t)].toArray)) rfl rfl hX0.pins (fun b1 w2 hk3 hb4 hp5 hl6 => ?_))
 have hX7 := hX0.step hp5 hl6
 have hlo8 : w.heap.size ≤ b1 := by have := hX0.size; omega
 obtain ⟨G9, hle10, hX11, hbp12, hf13⟩ := hb4.shut hX7 hlo8
 refine qd rfl rfl rfl (r_assign (v := (.slice none 0 0)) rfl) (qe (s_then (s_seq (s_seq (c_reg ?_)))))
 refine qd rfl rfl rfl (r_fldp (k := 0) rfl Tryz.underlying36 rfl nz9 rfl) (qd rfl rfl rfl (r_ldp1 (u := (.string a)) ag9 rfl (hX11.pins _ _ _ (hbp12 0 _ rfl))) (qe (s_then ?_)))
 refine s_blk (s_seq (c_reg ?_))
 refine qd rfl rfl rfl (r_eqlS rfl rfl) (qd rfl rfl rfl (r_assign (v := (.bool (a.toList == (⟨#[100, 111, 109]⟩ : ByteArray).toList))) rfl) (qe (s_then ?_)))
 refine c_if rfl rfl (fun h14 => ?_) (fun h14 => ?_)
 refine s_seq (c_reg ?_)
 refine qd rfl rfl rfl (r_fldp (k := 1) rfl Tryz.underlying36 rfl nz9 rfl) (qd rfl rfl rfl (r_ldp1 (u := (.string t)) ag9 rfl (hX11.pins _ _ _ (hbp12 1 _ rfl))) (qd rfl rfl rfl (r_move (v := (.bool left)) rfl) (q1 rfl rfl rfl (o_call (vs := [(.string t), (.bool left)]) Tryz.func57 nm57 rfl rfl rfl ?_))))
 refine Calls.mono (boardMoves_spec (t := t) (left := left) hX11.pins (hM.le hle10) (g.dom (by have q4 := vb_y 4 (by omega) h14; omega)).g) ?_
 rintro _ w17 ⟨u15, G16, rfl, hr18, hx19⟩
 refine ⟨_, rfl, ?_⟩
 have hX20 := hX11.tr hx19
 refine qd rfl rfl rfl (r_assign (v := u15) rfl) (qe (s_then ?_))
 exact wp_ret (s_ret (c_ret1 (v := u15) rfl rfl rfl (⟨_, _, rfl, (by have q4 := vb_y 4 (by omega) h14; rw [arg_4 (by omega)]; exact hr18), hX20⟩)))
 refine s_seq (c_reg ?_)
 refine qd rfl rfl rfl (r_eqlS rfl rfl) (qd rfl rfl rfl (r_assign (v := (.bool (a.toList == (⟨#[115, 116, 97, 108, 107]⟩ : ByteArray).toList))) rfl) (qe (s_then ?_)))
 refine c_if rfl rfl (fun h21 => ?_) (fun h21 => ?_)
 refine s_seq (c_reg ?_)
 refine qd rfl rfl rfl (r_fldp (k := 1) rfl Tryz.underlying36 rfl nz9 rfl) (qd rfl rfl rfl (r_ldp1 (u := (.string t)) ag9 rfl (hX11.pins _ _ _ (hbp12 1 _ rfl))) (qd rfl rfl rfl (r_move (v := (.bool left)) rfl) (q1 rfl rfl rfl (o_call (vs := [(.string t), (.bool left)]) Tryz.func58 nm58 rfl rfl rfl ?_))))
 refine Calls.mono (stalk_spec (s := t) (left := left) hX11.pins (by omega)) ?_
 rintro _ w24 ⟨u22, G23, rfl, hr25, hx26⟩
 refine ⟨_, rfl, ?_⟩
 have hX27 := hX11.tr hx26
 refine qd rfl rfl rfl (r_assign (v := u22) rfl) (qe (s_then ?_))
 exact wp_ret (s_ret (c_ret1 (v := u22) rfl rfl rfl (⟨_, _, rfl, (by have q4 := vb_n 4 (by omega) h14; have q5 := vb_y 5 (by omega) h21; rw [arg_5 (by omega)]; exact hr25), hX27⟩)))
 refine s_seq (c_reg ?_)
 refine qd rfl rfl rfl (r_eqlS rfl rfl) (qd rfl rfl rfl (r_assign (v := (.bool (a.toList == (⟨#[110, 105, 109]⟩ : ByteArray).toList))) rfl) (qe (s_then ?_)))
 refine c_if rfl rfl (fun h28 => ?_) (fun h28 => ?_)
 refine s_seq (c_reg ?_)
 refine q1 rfl rfl rfl (o_build0 (E := eStr) (e := 9) Tryz.underlying22 sz9 hX11.pins (fun u29 w30 ho31 hp32 hl33 hk34 => ?_))
 have hX35 := hX11.step hp32 hl33
 have ho36 : Own eStr 9 G9 w30 w.heap.size u29 ([]) := ho31.weaken hX11.size
 refine qd rfl rfl rfl (r_assign (v := u29) rfl) (qe (s_then (s_seq (s_seq (c_reg ?_)))))
 refine qd rfl rfl rfl (r_ldpA (cs := [(.string a), (.string t)]) ag36 sz36 rfl (fun j u hj => hX35.pins _ _ _ (hbp12 _ _ (by simpa using hj)))) (q1 rfl rfl rfl (o_call (vs := [(.agg [(.string a), (.string t)].toArray)]) Tryz.func47 nm47 rfl rfl rfl ?_))
 refine Calls.mono (heap_spec (a := a) (t := t) hX35.pins) ?_
 rintro _ w38 ⟨G37, rfl, hx39⟩
 refine ⟨_, rfl, ?_⟩
 have hX40 := hX35.tr hx39
 have ho41 := ho36.ext hx39
 have hdg := g.nim (by have q4 := vb_n 4 (by omega) h14; have q5 := vb_n 5 (by omega) h21; have q6 := vb_y 6 (by omega) h28; omega)
 have hhp := hp_dg hdg
 have hdl := dg_le hdg
 refine qd rfl rfl rfl (r_move (v := (.int .i64 0)) rfl) (qe (s_then ?_))
 refine s_blk (s_loop (fun (k : Nat) (en : Nat → Value) (W : World) => ∃ (env1 : Nat → Value) (j : Nat) (ov : Value) (os : List ByteArray) (GL1 : Pin), en = (upd (upd (upd (upd (upd (upd env1 1 (.bool left)) 2 (.pointer (some ⟨b1, 0, none⟩))) 4 (.slice none 0 0)) 5 ov) 25 (.int .i64 (hpI t))) 26 (.int .i64 (j : Int))) ∧ k = dgN t - j ∧ Ext noS G w GL1 W ∧ Pin.le G37 GL1 ∧ (j ≤ dgN t) ∧ (os = (List.range j).map fun n : Nat => numT (n : Int)) ∧ (os.length = j) ∧ (Own eStr 9 GL1 W w.heap.size ov (os))) _ ⟨_, 0, u29, [], G37, (packS (x := 26) (packS (x := 25) (packS (x := 5) (packS (x := 4) (packS (x := 2) (pack1 (x := 1) rfl) rfl) rfl) rfl) rfl) rfl), rfl, hX40, Pin.le_refl _, Nat.zero_le _, rfl, rfl, ho41⟩ ?_)
 rintro k42 _ w43 ⟨env1, j, ov, os, GL1, rfl, hk44, hX45, hlek42, hj, hos, hol, hw46⟩
 refine s_seq (c_reg ?_)
 refine qd rfl rfl rfl (r_lss rfl rfl) (qe (s_then (s_seq ?_)))
 refine c_ifd (p := ((j : Int) : Int) < (hpI t)) rfl rfl (fun h47 => ?_) (fun h47 => ?_)
 refine wp_skip (s_then (s_seq ?_))
 refine s_blk (s_seq (c_reg ?_))
 refine qd rfl rfl rfl (r_move (v := (.int .i64 (j : Int))) rfl) (qd rfl rfl rfl (r_assign (v := (.int .i64 (j : Int))) rfl) (qe (s_then (c_reg ?_))))
 refine qd rfl rfl rfl (r_move (v := ov) rfl) (qd rfl rfl rfl (r_move (v := (.int .i64 (j : Int))) rfl) (q1 rfl rfl rfl (o_call (vs := [(.int .i64 (j : Int))]) Tryz.func59 nm59 rfl rfl rfl ?_)))
 refine Calls.mono (itoaX_spec (n := j) hX45.pins (by omega)) ?_
 rintro _ _ ⟨rfl, rfl⟩
 refine ⟨_, rfl, ?_⟩
 refine q1 rfl rfl rfl (o_buildF (E := eStr) (e := 9) [(.string (numT (j : Int)))] [numT (j : Int)] Tryz.underlying22 sz9 zr9 (by exact reps1 (by rfl)) (ones1 (by rfl)) rfl rfl rfl rfl (by decide) hX45.pins (fun u48 w49 ho50 hp51 hl52 hk53 => ?_))
 have hX54 := hX45.step hp51 hl52
 have ho55 := hw46.below hl52
 have ho57 : Own eStr 9 GL1 w49 w.heap.size u48 ([numT (j : Int)]) := ho50.weaken hX45.size
 refine q1 rfl rfl rfl (o_append (E := eStr) (v := ov) (u := u48) 16 Tryz.underlying22 ap9 (by decide) rfl rfl hX54.pins ho55 ho57.src (by first | omega | (rw [List.nil_append]; omega) | (rw [List.length_nil]; omega) | (rw [List.length_append]; omega) | (simp; done) | (simp; omega) | (simp only [List.length_cons, List.length_nil]; omega) | (simp only [List.length_append, List.length_cons, List.length_nil]; omega)) (by first | omega | (rw [List.nil_append]; omega) | (rw [List.length_nil]; omega) | (rw [List.length_append]; omega) | (simp; done) | (simp; omega) | (simp only [List.length_cons, List.length_nil]; omega) | (simp only [List.length_append, List.length_cons, List.length_nil]; omega)) (hX54.size) (fun u58 w59 ho60 hp61 hg62 hw63 => ?_))
 have hX64 := hX54.write hp61 hg62 ((lo_own ho55))
 have hm67 : (os ++ ([numT (j : Int)])).length = os.length + 1 := List.length_append
 refine qd rfl rfl rfl (r_assign (v := u58) rfl) (qe (s_blkN (s_then (c_reg ?_))))
 refine qd rfl rfl rfl (r_add rfl rfl (by omega)) ?_
 have hdg := g.nim (by have q4 := vb_n 4 (by omega) h14; have q5 := vb_n 5 (by omega) h21; have q6 := vb_y 6 (by omega) h28; omega)
 have hhp := hp_dg hdg
 have hdl := dg_le hdg
 refine qd rfl rfl rfl (r_move (v := (.int .i64 ((j : Int) + 1))) rfl) (qe (s_lopN (⟨_, ?_, _, rfl, _, j + 1, u58, os ++ ([numT (j : Int)]), GL1, (packS (x := 26) (packS (x := 25) (packS (x := 5) (packS (x := 4) (packS (x := 2) (pack1 (x := 1) rfl) rfl) rfl) rfl) rfl) rfl), rfl, hX64, hlek42, (by omega), (rng_next (f := fun n : Nat => numT (n : Int)) hos), (by simp [hol]), ho60⟩)))
 omega
 refine wp_exit (s_thenE (s_lopE (s_blkE (s_then (s_seq (c_reg ?_))))))
 refine qd rfl rfl rfl (r_move (v := ov) rfl) (qd rfl rfl rfl (r_assign (v := ov) rfl) (qe (s_then ?_)))
 refine wp_ret (s_ret (c_ret1 (v := ov) rfl rfl rfl ?_))
 obtain ⟨G68, hle71, hX70, hr69, hf72⟩ := hw46.sealed hX45
 have hjd : j = dgN t := by omega
 rw [hjd] at hos
 exact ⟨_, _, rfl, (by have q4 := vb_n 4 (by omega) h14; have q5 := vb_n 5 (by omega) h21; have q6 := vb_y 6 (by omega) h28; rw [arg_6 (by omega), ← hos]; exact hr69), hX70⟩
 refine wp_skip (s_blkN (s_then (s_seq ?_)))
 refine c_draw (S := fun wz => Pins G9 wz) (last := 7) (by kernel_rfl) rfl ?_
 have hl73 : Below w2.heap.size w2 w2.drew := (Below.refl _ _).drew
 have hp74 := hX11.pins.below hl73
 have hX75 := hX11.step hp74 hl73
 refine dr_take (i := 0) rfl rfl rfl (want_none rfl _) (by kernel_rfl) (fun _ hS => r_ldpA (cs := [(.string a), (.string t)]) ag36 sz36 rfl (fun j u hj => hS _ _ _ (hbp12 _ _ (by simpa using hj)))) hX75.pins (dr_take (i := 2) rfl rfl rfl (want_none rfl _) (by kernel_rfl) (fun _ _ => r_fldp (k := 1) rfl Tryz.underlying36 rfl nz9 rfl) hX75.pins (dr_take (i := 3) rfl rfl rfl (want_none rfl _) (by kernel_rfl) (fun _ hS => r_ldp1 (u := (.string t)) ag9 rfl (hS _ _ _ (hbp12 1 _ rfl))) hX75.pins (dr_take (i := 4) rfl rfl rfl (want_none rfl _) (by kernel_rfl) (fun _ _ => r_move (v := (.bool left)) rfl) hX75.pins (dr_one (i := 1) (by kernel_rfl) (drOp1 (i := 1) rfl rfl rfl (want_none rfl _) (o_call (vs := [(.agg [(.string a), (.string t)].toArray)]) Tryz.func48 nm48 rfl rfl rfl ?_))))))
 refine Calls.mono (skv_spec (a := a) (t := t) hX75.pins (by have q4 := vb_n 4 (by omega) h14; have q5 := vb_n 5 (by omega) h21; have q6 := vb_n 6 (by omega) h28; omega)) ?_
 rintro _ w77 ⟨G76, rfl, hx78⟩
 refine ⟨_, rfl, ?_⟩
 have hX80 := hX75.tr hx78
 refine ⟨fun _ => (Pins.of_le hX80.pins hx78.le), ?_⟩
 refine dr_one (i := 5) (by kernel_rfl) (drOp1 (i := 5) rfl rfl rfl (want_none rfl _) (o_call (vs := [(.int .i64 (vbI a)), (.string t), (.bool left)]) Tryz.func60 nm60 rfl rfl rfl ?_))
 refine Calls.mono (strip_spec (kind := (vbI a)) (s := t) (left := left) hX80.pins (by omega)) ?_
 rintro _ w83 ⟨u81, G82, rfl, hr84, hx85⟩
 refine ⟨_, rfl, ?_⟩
 have hX86 := hX80.tr hx85
 refine ⟨fun _ => (Pins.of_le hX86.pins (Pin.le_trans hx78.le hx85.le)), ?_⟩
 exact dr_take (i := 6) rfl rfl rfl (want_none rfl _) (by kernel_rfl) (fun _ _ => r_assign (v := u81) rfl) (Pins.of_le hX86.pins (Pin.le_trans hx78.le hx85.le)) (dr_end (by kernel_rfl) (s_then (wp_ret (s_ret (c_ret1 (v := u81) rfl rfl rfl (⟨_, _, rfl, (by have q4 := vb_n 4 (by omega) h14; have q5 := vb_n 5 (by omega) h21; have q6 := vb_n 6 (by omega) h28; rw [arg_3 (by omega)]; exact hr84), hX86⟩))))))

end PW5
end Go.Proofs.YtianphgdbfekdaaGreatDoor

set_option maxRecDepth 20000
set_option maxHeartbeats 2000000
namespace Go.Proofs.YtianphgdbfekdaaGreatDoor
namespace PW6
open Go.RowKit Go.GL Go.Proofs
open PT3 PTB PW1 PW5














theorem pl36 : (Tryz.prog.underlying 36).bind (placesD Tryz.prog) = some [(0, 1), (1, 1)] := by kernel_rfl




theorem components_spec {w : World} {G : Pin} {s : ByteArray} (hP : Pins G w) (hM : MxG 0 G) (hs : s.size ≤ 1048576) :
  Calls Tryz.prog 14 [(.string s)].toArray w fun e w' => ∃ (u : Value) (G' : Pin), e = .returned (.tuple #[u, .bool (psB s)]) ∧ RSl eS2 G' u (psC s) ∧ Ext noS G w G' w' := by
 refine s_enter (n := 51) Tryz.func14 Tryz.ntmps14 rfl rfl ?_
 have hX0 : Ext noS G w G w := Ext.refl hP
 have hwa := (words_size s.size s (Nat.le_refl _)).2
 have hwl := words_len s
 refine s_seq (c_reg ?_)
 refine qd rfl rfl rfl (r_assign (v := (.slice none 0 0)) rfl) (qd rfl rfl rfl (r_assign (v := (.bool false)) rfl) (qe (s_then (s_seq (s_seq (c_reg ?_))))))
 refine qd rfl rfl rfl (r_move (v := (.string s)) rfl) (qd rfl rfl rfl (r_eqlS rfl rfl) (qe (s_then ?_)))
 refine c_if rfl rfl (fun h1 => ?_) (fun h1 => ?_)
 refine s_seq (c_reg ?_)
 refine qd rfl rfl rfl (r_assign (v := (.slice none 0 0)) rfl) (qd rfl rfl rfl (r_assign (v := (.bool true)) rfl) (qe (s_then ?_)))
 refine wp_ret (s_ret (c_ret2 (v := (.slice none 0 0)) (u := (.bool true)) rfl rfl rfl rfl rfl ?_))
 obtain ⟨e1, e2⟩ := ps_none h1
 exact ⟨_, _, (by rw [e1]), (by unfold psC; rw [e2]; exact (nil_reads _ _)), hX0⟩
 refine wp_skip (s_then (s_seq (s_seq (c_reg ?_))))
 refine qd rfl rfl rfl (r_move (v := (.string s)) rfl) (qd rfl rfl rfl (r_lenS Tryz.underlying9 rfl) (qd rfl rfl rfl (r_gtr rfl rfl) (qe (s_then ?_))))
 refine c_ifd (p := (600 : Int) < (s.size : Int)) rfl rfl (fun h2 => ?_) (fun h2 => ?_)
 refine s_seq (c_reg ?_)
 refine qd rfl rfl rfl (r_assign (v := (.slice none 0 0)) rfl) (qd rfl rfl rfl (r_assign (v := (.bool false)) rfl) (qe (s_then ?_)))
 refine wp_ret (s_ret (c_ret2 (v := (.slice none 0 0)) (u := (.bool false)) rfl rfl rfl rfl rfl ?_))
 have hpb : psB s = false := ps_long (by omega)
 exact ⟨_, _, (by rw [hpb]), (by rw [psC_no hpb]; exact (nil_reads _ _)), hX0⟩
 refine wp_skip (s_then (s_seq (c_reg ?_)))
 refine qd rfl rfl rfl (r_move (v := (.string s)) rfl) (q1 rfl rfl rfl (o_call (vs := [(.string s), (.string (⟨#[32, 43, 32]⟩ : ByteArray))]) Tryz.func22 nm22 rfl rfl rfl ?_))
 refine Calls.mono (splitW_spec (s := s) hX0.pins hM (by omega)) ?_
 rintro _ w5 ⟨u3, G4, rfl, ho6, hx7⟩
 refine ⟨_, rfl, ?_⟩
 have hX8 := hX0.tr hx7
 have ho9 : Own eStr 9 G4 w5 w.heap.size u3 (wordsP s) := ho6.weaken hX0.size
 have hm10 := words_len s
 have hm11 := words_ne s
 refine qd rfl rfl rfl (r_assign (v := u3) rfl) (qe (s_then (s_seq (s_seq (c_reg ?_)))))
 refine qd rfl rfl rfl (r_move (v := u3) rfl) (qd rfl rfl rfl (run_len Tryz.underlying22 (v := u3) rfl ho9.read) (qd rfl rfl rfl (r_gtr rfl rfl) (qe (s_then ?_))))
 refine c_ifd (p := (6 : Int) < ((wordsP s).length : Int)) rfl rfl (fun h12 => ?_) (fun h12 => ?_)
 refine s_seq (c_reg ?_)
 refine qd rfl rfl rfl (r_assign (v := (.slice none 0 0)) rfl) (qd rfl rfl rfl (r_assign (v := (.bool false)) rfl) (qe (s_then ?_)))
 refine wp_ret (s_ret (c_ret2 (v := (.slice none 0 0)) (u := (.bool false)) rfl rfl rfl rfl rfl ?_))
 have hpb : psB s = false := ps_many h1 (by omega)
 exact ⟨_, _, (by rw [hpb]), (by rw [psC_no hpb]; exact (nil_reads _ _)), hX8⟩
 refine wp_skip (s_then (s_seq (c_reg ?_)))
 refine q1 rfl rfl rfl (o_build0 (E := eS2) (e := 36) Tryz.underlying31 sz36 hX8.pins (fun u13 w14 ho15 hp16 hl17 hk18 => ?_))
 have hX19 := hX8.step hp16 hl17
 have ho20 := ho9.below hl17
 have ha21 : Apart u13.ownBlock u3.ownBlock := new_ne_own hk18 ho9.lt
 have ho22 : Own eS2 36 G4 w14 w.heap.size u13 ([]) := ho15.weaken hX8.size
 refine qd rfl rfl rfl (r_assign (v := u13) rfl) (qe (s_then (s_seq (s_seq (c_reg ?_)))))
 refine qd rfl rfl rfl (r_move (v := u3) rfl) (qd rfl rfl rfl (run_len Tryz.underlying22 (v := u3) rfl ho20.read) (qd rfl rfl rfl (r_move (v := (.int .i64 0)) rfl) (qe (s_then ?_))))
 refine s_blk (s_loop (fun (k : Nat) (en : Nat → Value) (W : World) => ∃ (env1 : Nat → Value) (j : Nat) (ov : Value) (os : List (ByteArray × ByteArray)) (GL1 : Pin), en = (upd (upd (upd (upd env1 5 ov) 23 u3) 24 (.int .i64 ((wordsP s).length : Int))) 25 (.int .i64 (j : Int))) ∧ k = (wordsP s).length - j ∧ Ext noS G w GL1 W ∧ Pin.le G4 GL1 ∧ (j ≤ (wordsP s).length) ∧ (os = ((wordsP s).take j).map prW) ∧ (os.length = j) ∧ (∀ i, i < j → SgP ((wordsP s).getD i ByteArray.empty)) ∧ (Own eS2 36 GL1 W w.heap.size ov (os)) ∧ (Own eStr 9 GL1 W w.heap.size u3 (wordsP s)) ∧ (Apart ov.ownBlock u3.ownBlock)) _ ⟨_, 0, u13, [], G4, (packS (x := 25) (packS (x := 24) (packS (x := 23) (pack1 (x := 5) rfl) rfl) rfl) rfl), rfl, hX19, Pin.le_refl _, Nat.zero_le _, rfl, rfl, all_none, ho22, ho20, ha21⟩ ?_)
 rintro k23 _ w24 ⟨env1, j, ov, os, GL1, rfl, hk25, hX26, hlek23, hj, hos, hol, hsg, hw27, hw28, ha29⟩
 refine s_seq (c_reg ?_)
 refine qd rfl rfl rfl (r_lss rfl rfl) (qe (s_then (s_seq ?_)))
 refine c_ifd (p := ((j : Int) : Int) < ((wordsP s).length : Int)) rfl rfl (fun h30 => ?_) (fun h30 => ?_)
 have hwm : ((wordsP s).getD j ByteArray.empty) ∈ wordsP s := getD_mem (by omega)
 have hwz := hwa _ hwm
 have hcz := cut_size ((wordsP s).getD j ByteArray.empty)
 refine wp_skip (s_then (s_seq ?_))
 refine s_blk (s_seq (c_reg ?_))
 refine qd rfl rfl rfl (run_idx Tryz.underlying22 sz9 (v := u3) rfl rfl hw28.read (by omega) (by omega)) (qd rfl rfl rfl (run_load_str (r := (wordsP s).getD j ByteArray.empty) rfl ag9 (z := (j : Int)) rfl hw28.read (Gadd.pins hX26.pins u3) (by omega) (by omega)) (qd rfl rfl rfl (r_assign (v := (.string ((wordsP s).getD j ByteArray.empty))) rfl) (qe (s_then (s_seq (c_reg ?_))))))
 refine qd rfl rfl rfl (r_move (v := (.string ((wordsP s).getD j ByteArray.empty))) rfl) (q1 rfl rfl rfl (o_call (vs := [(.string ((wordsP s).getD j ByteArray.empty)), (.string (⟨#[32]⟩ : ByteArray))]) Tryz.func23 nm23 rfl rfl rfl ?_))
 refine Calls.mono (cutX_spec (s := ((wordsP s).getD j ByteArray.empty)) hX26.pins (hM.le (Pin.le_trans hx7.le hlek23)) (by omega)) ?_
 rintro _ w32 ⟨G31, rfl, hx33⟩
 refine ⟨_, rfl, ?_⟩
 have hX34 := hX26.tr hx33
 have ho35 := hw27.ext hx33
 have ho36 := hw28.ext hx33
 refine qd rfl rfl rfl (r_move (v := (.tuple #[(.string (cutA 32 ((wordsP s).getD j ByteArray.empty))), (.string (cutZ 32 ((wordsP s).getD j ByteArray.empty))), (.bool (cutY 32 ((wordsP s).getD j ByteArray.empty)))])) rfl) (qd rfl rfl rfl (r_extract (v := (.string (cutA 32 ((wordsP s).getD j ByteArray.empty)))) rfl rfl) (qd rfl rfl rfl (r_extract (v := (.string (cutZ 32 ((wordsP s).getD j ByteArray.empty)))) rfl rfl) (qd rfl rfl rfl (r_extract (v := (.bool (cutY 32 ((wordsP s).getD j ByteArray.empty)))) rfl rfl) (qd rfl rfl rfl (r_assign (v := (.string (cutA 32 ((wordsP s).getD j ByteArray.empty)))) rfl) (qd rfl rfl rfl (r_assign (v := (.string (cutZ 32 ((wordsP s).getD j ByteArray.empty)))) rfl) (qd rfl rfl rfl (r_assign (v := (.bool (cutY 32 ((wordsP s).getD j ByteArray.empty)))) rfl) (qe (s_then (s_seq (c_reg ?_))))))))))
 refine qd rfl rfl rfl (r_move (v := (.string (cutA 32 ((wordsP s).getD j ByteArray.empty)))) rfl) (qd rfl rfl rfl (r_move (v := (.string (cutZ 32 ((wordsP s).getD j ByteArray.empty)))) rfl) (qd rfl rfl rfl (r_build [(.string ByteArray.empty), (.string ByteArray.empty)] [(.string (cutA 32 ((wordsP s).getD j ByteArray.empty))), (.string (cutZ 32 ((wordsP s).getD j ByteArray.empty)))] [(0, (.string (cutA 32 ((wordsP s).getD j ByteArray.empty))), [(.string (cutA 32 ((wordsP s).getD j ByteArray.empty)))]), (1, (.string (cutZ 32 ((wordsP s).getD j ByteArray.empty))), [(.string (cutZ 32 ((wordsP s).getD j ByteArray.empty)))])] Tryz.underlying36 zr36 rfl pl36 rfl (List.forall_mem_cons.2 ⟨rfl, (List.forall_mem_cons.2 ⟨rfl, (fun _ h => by cases h)⟩)⟩) rfl) (q1 rfl rfl rfl (o_alloc [(.string ByteArray.empty), (.string ByteArray.empty)] zr36 rfl hX34.pins (fun b37 w38 hk39 hb40 hp41 hl42 => ?_)))))
 have hX43 := hX34.step hp41 hl42
 have ho44 := ho35.below hl42
 have ho45 := ho36.below hl42
 have ha46 : Apart (some b37) ov.ownBlock := new_ne_own (congrArg some hk39) ho35.lt
 have ha47 : Apart (some b37) u3.ownBlock := new_ne_own (congrArg some hk39) ho36.lt
 have hlo48 : w.heap.size ≤ b37 := by have := hX34.size; omega
 refine q0 rfl rfl rfl (o_stp (cs' := [(.string (cutA 32 ((wordsP s).getD j ByteArray.empty))), (.string (cutZ 32 ((wordsP s).getD j ByteArray.empty)))]) (us := [(.string (cutA 32 ((wordsP s).getD j ByteArray.empty))), (.string (cutZ 32 ((wordsP s).getD j ByteArray.empty)))]) (v := (.agg [(.string (cutA 32 ((wordsP s).getD j ByteArray.empty))), (.string (cutZ 32 ((wordsP s).getD j ByteArray.empty)))].toArray)) sz36 rfl rfl rfl (ones2 (by rfl) (by rfl)) hX43.pins hb40 (Nat.le_of_ble_eq_true rfl) rfl (fun w49 hb50 hp51 hg52 hz53 => ?_))
 have hX54 := hX43.write hp51 hg52 ((lo_box hlo48))
 have ho55 := ho44.keptA hg52 ha46.symm
 have ho56 := ho45.keptA hg52 ha47.symm
 obtain ⟨G57, hle58, hX59, hbp60, hf61⟩ := hb50.shut hX54 hlo48
 have ho62 := ho55.moreA hle58 hf61 ha46.symm
 have ho63 := ho56.moreA hle58 hf61 ha47.symm
 refine qe (s_then (s_seq (s_seq (c_reg ?_))))
 refine qd rfl rfl rfl (r_move (v := (.bool (cutY 32 ((wordsP s).getD j ByteArray.empty)))) rfl) (qd rfl rfl rfl (r_not rfl) (qd rfl rfl rfl (r_move (v := (.bool (!(cutY 32 ((wordsP s).getD j ByteArray.empty))))) rfl) (qbn (t := 40) rfl (fun h64 => ?_) (fun h64 => ?_))))
 refine qdg rfl rfl rfl rfl rfl rfl (r_ldpA (cs := [(.string (cutA 32 ((wordsP s).getD j ByteArray.empty))), (.string (cutZ 32 ((wordsP s).getD j ByteArray.empty)))]) ag36 sz36 rfl (fun j u hj => hX59.pins _ _ _ (hbp60 _ _ (by simpa using hj)))) (q1g rfl rfl rfl rfl rfl rfl (o_call (vs := [(.agg [(.string (cutA 32 ((wordsP s).getD j ByteArray.empty))), (.string (cutZ 32 ((wordsP s).getD j ByteArray.empty)))].toArray)]) Tryz.func24 nm24 rfl rfl rfl ?_))
 refine Calls.mono (good_spec (a := (cutA 32 ((wordsP s).getD j ByteArray.empty))) (t := (cutZ 32 ((wordsP s).getD j ByteArray.empty))) hX59.pins (hM.le (Pin.le_trans (Pin.le_trans (Pin.le_trans hx7.le hlek23) hx33.le) hle58)) (by omega)) ?_
 rintro _ w66 ⟨G65, rfl, hx67⟩
 refine ⟨_, rfl, ?_⟩
 have hX68 := hX59.tr hx67
 have ho69 := ho62.ext hx67
 have ho70 := ho63.ext hx67
 refine qdg rfl rfl rfl rfl rfl rfl (r_not rfl) (qd rfl rfl rfl (r_pickF (v := (.bool (!(agB (vbI (cutA 32 ((wordsP s).getD j ByteArray.empty))) (cutZ 32 ((wordsP s).getD j ByteArray.empty)))))) rfl rfl) (qe (s_then ?_)))
 refine c_ifn rfl rfl (fun h71 => ?_) (fun h71 => ?_)
 refine wp_skip (s_then (c_reg ?_))
 refine qd rfl rfl rfl (r_move (v := ov) rfl) (qd rfl rfl rfl (r_ldpA (cs := [(.string (cutA 32 ((wordsP s).getD j ByteArray.empty))), (.string (cutZ 32 ((wordsP s).getD j ByteArray.empty)))]) ag36 sz36 rfl (fun j u hj => (Pins.of_le hX68.pins hx67.le) _ _ _ (hbp60 _ _ (by simpa using hj)))) (q1 rfl rfl rfl (o_build1 (E := eS2) (e := 36) [(.string (cutA 32 ((wordsP s).getD j ByteArray.empty))), (.string (cutZ 32 ((wordsP s).getD j ByteArray.empty)))] (cutA 32 ((wordsP s).getD j ByteArray.empty), cutZ 32 ((wordsP s).getD j ByteArray.empty)) Tryz.underlying31 sz36 zr36 rfl rfl (by decide) hX68.pins (fun u72 w73 ho74 hp75 hl76 hk77 => ?_))))
 have hX78 := hX68.step hp75 hl76
 have ho79 := ho69.below hl76
 have ho80 := ho70.below hl76
 have ho83 : Own eS2 36 G65 w73 w.heap.size u72 ([(cutA 32 ((wordsP s).getD j ByteArray.empty), cutZ 32 ((wordsP s).getD j ByteArray.empty))]) := ho74.weaken hX68.size
 refine q1 rfl rfl rfl (o_append (E := eS2) (v := ov) (u := u72) 32 Tryz.underlying31 ap36 (by decide) rfl rfl hX78.pins ho79 ho83.src (by first | omega | (rw [List.nil_append]; omega) | (rw [List.length_nil]; omega) | (rw [List.length_append]; omega) | (simp; done) | (simp; omega) | (simp only [List.length_cons, List.length_nil]; omega) | (simp only [List.length_append, List.length_cons, List.length_nil]; omega)) (by first | omega | (rw [List.nil_append]; omega) | (rw [List.length_nil]; omega) | (rw [List.length_append]; omega) | (simp; done) | (simp; omega) | (simp only [List.length_cons, List.length_nil]; omega) | (simp only [List.length_append, List.length_cons, List.length_nil]; omega)) (hX78.size) (fun u84 w85 ho86 hp87 hg88 hw89 => ?_))
 have hX90 := hX78.write hp87 hg88 ((lo_own ho79))
 have ho91 := ho80.keptA hg88 ha29.symm
 have ha93 : Apart u3.ownBlock u84.ownBlock := app_ne_own ha29.symm hw89 ho80.lt
 have hm95 : (os ++ ([(cutA 32 ((wordsP s).getD j ByteArray.empty), cutZ 32 ((wordsP s).getD j ByteArray.empty))])).length = os.length + 1 := List.length_append
 refine qd rfl rfl rfl (r_assign (v := u84) rfl) (qe (s_blkN (s_then (c_reg ?_))))
 refine qd rfl rfl rfl (r_add rfl rfl (by omega)) (qd rfl rfl rfl (r_move (v := (.int .i64 ((j : Int) + 1))) rfl) (qe (s_lopN (⟨_, ?_, _, rfl, _, j + 1, u84, os ++ ([(cutA 32 ((wordsP s).getD j ByteArray.empty), cutZ 32 ((wordsP s).getD j ByteArray.empty))]), G65, (packS (x := 25) (packS (x := 24) (packS (x := 23) (pack1 (x := 5) rfl) rfl) rfl) rfl), rfl, hX90, (Pin.le_trans (Pin.le_trans (Pin.le_trans hlek23 hx33.le) hle58) hx67.le), (by omega), (pr_next9 (by omega) hos rfl rfl), (by simp [hol]), (all_next hsg (sg_ok h64 h71)), ho86, ho91, ha93.symm⟩))))
 omega
 refine s_seq (c_reg ?_)
 refine qd rfl rfl rfl (r_assign (v := (.slice none 0 0)) rfl) (qd rfl rfl rfl (r_assign (v := (.bool false)) rfl) (qe (s_then ?_)))
 refine wp_ret (s_ret (c_ret2 (v := (.slice none 0 0)) (u := (.bool false)) rfl rfl rfl rfl rfl ?_))
 have hpb : psB s = false := ps_bad h1 hwm (sg_no2 h71)
 exact ⟨_, _, (by rw [hpb]), (by rw [psC_no hpb]; exact (nil_reads _ _)), hX68⟩
 refine qs rfl rfl rfl rfl rfl rfl (qs rfl rfl rfl rfl rfl rfl (qs rfl rfl rfl rfl rfl rfl (qd rfl rfl rfl (r_pickT (v := (.bool true)) rfl rfl) (qe (s_then ?_)))))
 refine c_ifT rfl rfl (s_seq (c_reg ?_))
 refine qd rfl rfl rfl (r_assign (v := (.slice none 0 0)) rfl) (qd rfl rfl rfl (r_assign (v := (.bool false)) rfl) (qe (s_then ?_)))
 refine wp_ret (s_ret (c_ret2 (v := (.slice none 0 0)) (u := (.bool false)) rfl rfl rfl rfl rfl ?_))
 have hpb : psB s = false := ps_bad h1 hwm (sg_no1 h64)
 exact ⟨_, _, (by rw [hpb]), (by rw [psC_no hpb]; exact (nil_reads _ _)), hX59⟩
 refine wp_exit (s_thenE (s_lopE (s_blkE (s_then (s_seq (c_reg ?_))))))
 refine qd rfl rfl rfl (r_move (v := ov) rfl) (qd rfl rfl rfl (r_assign (v := ov) rfl) (qd rfl rfl rfl (r_assign (v := (.bool true)) rfl) (qe (s_then ?_))))
 refine wp_ret (s_ret (c_ret2 (v := ov) (u := (.bool true)) rfl rfl rfl rfl rfl ?_))
 obtain ⟨G96, hle99, hX98, hr97, hf100⟩ := hw27.sealed hX26
 obtain ⟨e1, e2⟩ := ps_good h1 (by omega) (mem_all hsg (by omega))
 exact ⟨_, _, (by rw [e1]), (by unfold psC; rw [e2]; exact (map_doneC (by omega) hos ▸ hr97)), hX98⟩

theorem positionText_spec {w : World} {G : Pin} {v : Value} {cs : List (ByteArray × ByteArray)} (hP : Pins G w) (hv : RSl eS2 G v cs) (hl : 0 < cs.length ∧ cs.length ≤ 6) (hz : CsZ cs) :
  Calls Tryz.prog 29 [v].toArray w fun e w' => ∃ G', e = .returned (.string (joinQ (cs.map txW))) ∧ Ext noS G w G' w' := by
 refine s_enter (n := 24) Tryz.func29 Tryz.ntmps29 rfl rfl ?_
 have hX0 : Ext noS G w G w := Ext.refl hP
 refine s_seq (c_reg ?_)
 refine qd rfl rfl rfl (r_assign (v := (.string (⟨#[]⟩ : ByteArray))) rfl) (qe (s_then (s_seq (s_seq (c_reg ?_)))))
 refine qd rfl rfl rfl (r_move (v := v) rfl) (qd rfl rfl rfl (run_len Tryz.underlying31 (v := v) rfl hv) (qd rfl rfl rfl (r_eql rfl rfl) (qe (s_then ?_))))
 refine c_ifd (p := ((cs.length : Int) : Int) = 0) rfl rfl (fun h1 => ?_) (fun h1 => ?_)
 refine s_seq (c_reg ?_)
 refine qd rfl rfl rfl (r_assign (v := (.string (⟨#[110, 111, 110, 101]⟩ : ByteArray))) rfl) (qe (s_then ?_))
 refine wp_ret (s_ret (c_ret1 (v := (.string (⟨#[110, 111, 110, 101]⟩ : ByteArray))) rfl rfl rfl ?_))
 exfalso
 omega
 refine wp_skip (s_then (s_seq (c_reg ?_)))
 refine q1 rfl rfl rfl (o_build0 (E := eStr) (e := 9) Tryz.underlying22 sz9 hX0.pins (fun u2 w3 ho4 hp5 hl6 hk7 => ?_))
 have hX8 := hX0.step hp5 hl6
 have ho9 : Own eStr 9 G w3 w.heap.size u2 ([]) := ho4.weaken hX0.size
 refine qd rfl rfl rfl (r_assign (v := u2) rfl) (qe (s_then (s_seq (s_seq (c_reg ?_)))))
 refine qd rfl rfl rfl (r_move (v := v) rfl) (qd rfl rfl rfl (run_len Tryz.underlying31 (v := v) rfl hv) (qd rfl rfl rfl (r_move (v := (.int .i64 0)) rfl) (qe (s_then ?_))))
 refine s_blk (s_loop (fun (k : Nat) (en : Nat → Value) (W : World) => ∃ (env1 : Nat → Value) (j : Nat) (ov : Value) (os : List ByteArray) (GL1 : Pin), en = (upd (upd (upd (upd (upd env1 2 (.string (⟨#[]⟩ : ByteArray))) 3 ov) 10 v) 11 (.int .i64 (cs.length : Int))) 12 (.int .i64 (j : Int))) ∧ k = cs.length - j ∧ Ext noS G w GL1 W ∧ Pin.le G GL1 ∧ (j ≤ cs.length) ∧ (os = (cs.take j).map txW) ∧ (os.length = j) ∧ (Own eStr 9 GL1 W w.heap.size ov (os))) _ ⟨_, 0, u2, [], G, (packS (x := 12) (packS (x := 11) (packS (x := 10) (packS (x := 3) (pack1 (x := 2) rfl) rfl) rfl) rfl) rfl), rfl, hX8, Pin.le_refl _, Nat.zero_le _, rfl, rfl, ho9⟩ ?_)
 rintro k10 _ w11 ⟨env1, j, ov, os, GL1, rfl, hk12, hX13, hlek10, hj, hos, hol, hw14⟩
 refine s_seq (c_reg ?_)
 refine qd rfl rfl rfl (r_lss rfl rfl) (qe (s_then (s_seq ?_)))
 refine c_ifd (p := ((j : Int) : Int) < (cs.length : Int)) rfl rfl (fun h15 => ?_) (fun h15 => ?_)
 have hzj := hz j (by omega)
 have hz1 := hzj.1
 have hz2 := hzj.2
 refine wp_skip (s_then (s_seq ?_))
 refine s_blk (s_seq (c_reg ?_))
 refine qd rfl rfl rfl (run_idx Tryz.underlying31 sz36 (v := v) rfl rfl hv (by omega) (by omega)) ?_
 obtain ⟨cs16, hrep17, hagg18, hcell19⟩ := nm_el (j := j) default (hv.at (z := (j : Int)) (by omega) (by omega)) rfl
 obtain rfl := hrep17
 refine qd rfl rfl rfl (hagg18 ag36 sz36 rfl (Pins.of_le hX13.pins hlek10)) (q1 rfl rfl rfl (o_alloc [(.string ByteArray.empty), (.string ByteArray.empty)] zr36 rfl hX13.pins (fun b20 w21 hk22 hb23 hp24 hl25 => ?_)))
 have hX26 := hX13.step hp24 hl25
 have ho27 := hw14.below hl25
 have ha28 : Apart (some b20) ov.ownBlock := new_ne_own (congrArg some hk22) hw14.lt
 have hlo29 : w.heap.size ≤ b20 := by have := hX13.size; omega
 refine q0 rfl rfl rfl (o_stp (cs' := [(.string ((cs.getD j default).1)), (.string ((cs.getD j default).2))]) (us := [(.string ((cs.getD j default).1)), (.string ((cs.getD j default).2))]) (v := (.agg [(.string ((cs.getD j default).1)), (.string ((cs.getD j default).2))].toArray)) sz36 rfl rfl rfl (ones2 (by rfl) (by rfl)) hX26.pins hb23 (Nat.le_of_ble_eq_true rfl) rfl (fun w30 hb31 hp32 hg33 hz34 => ?_))
 have hX35 := hX26.write hp32 hg33 ((lo_box hlo29))
 have ho36 := ho27.keptA hg33 ha28.symm
 obtain ⟨G37, hle38, hX39, hbp40, hf41⟩ := hb31.shut hX35 hlo29
 have ho42 := ho36.moreA hle38 hf41 ha28.symm
 refine qe (s_then (c_reg ?_))
 refine qd rfl rfl rfl (r_move (v := ov) rfl) (qd rfl rfl rfl (r_ldpA (cs := [(.string ((cs.getD j default).1)), (.string ((cs.getD j default).2))]) ag36 sz36 rfl (fun j u hj => hX39.pins _ _ _ (hbp40 _ _ (by simpa using hj)))) (q1 rfl rfl rfl (o_call (vs := [(.agg [(.string ((cs.getD j default).1)), (.string ((cs.getD j default).2))].toArray)]) Tryz.func16 nm16 rfl rfl rfl ?_)))
 refine Calls.mono (text_spec (a := ((cs.getD j default).1)) (t := ((cs.getD j default).2)) hX39.pins (by omega) (by omega)) ?_
 rintro _ w44 ⟨G43, rfl, hx45⟩
 refine ⟨_, rfl, ?_⟩
 have hX46 := hX39.tr hx45
 have ho47 := ho42.ext hx45
 refine q1 rfl rfl rfl (o_buildF (E := eStr) (e := 9) [(.string (txW ((cs.getD j default).1, (cs.getD j default).2)))] [txW ((cs.getD j default).1, (cs.getD j default).2)] Tryz.underlying22 sz9 zr9 (by exact reps1 (by rfl)) (ones1 (by rfl)) rfl rfl rfl rfl (by decide) hX46.pins (fun u48 w49 ho50 hp51 hl52 hk53 => ?_))
 have hX54 := hX46.step hp51 hl52
 have ho55 := ho47.below hl52
 have ho57 : Own eStr 9 G43 w49 w.heap.size u48 ([txW ((cs.getD j default).1, (cs.getD j default).2)]) := ho50.weaken hX46.size
 refine q1 rfl rfl rfl (o_append (E := eStr) (v := ov) (u := u48) 16 Tryz.underlying22 ap9 (by decide) rfl rfl hX54.pins ho55 ho57.src (by first | omega | (rw [List.nil_append]; omega) | (rw [List.length_nil]; omega) | (rw [List.length_append]; omega) | (simp; done) | (simp; omega) | (simp only [List.length_cons, List.length_nil]; omega) | (simp only [List.length_append, List.length_cons, List.length_nil]; omega)) (by first | omega | (rw [List.nil_append]; omega) | (rw [List.length_nil]; omega) | (rw [List.length_append]; omega) | (simp; done) | (simp; omega) | (simp only [List.length_cons, List.length_nil]; omega) | (simp only [List.length_append, List.length_cons, List.length_nil]; omega)) (hX54.size) (fun u58 w59 ho60 hp61 hg62 hw63 => ?_))
 have hX64 := hX54.write hp61 hg62 ((lo_own ho55))
 have hm67 : (os ++ ([txW ((cs.getD j default).1, (cs.getD j default).2)])).length = os.length + 1 := List.length_append
 refine qd rfl rfl rfl (r_assign (v := u58) rfl) (qe (s_blkN (s_then (c_reg ?_))))
 refine qd rfl rfl rfl (r_add rfl rfl (by omega)) (qd rfl rfl rfl (r_move (v := (.int .i64 ((j : Int) + 1))) rfl) (qe (s_lopN (⟨_, ?_, _, rfl, _, j + 1, u58, os ++ ([txW ((cs.getD j default).1, (cs.getD j default).2)]), G43, (packS (x := 12) (packS (x := 11) (packS (x := 10) (packS (x := 3) (pack1 (x := 2) rfl) rfl) rfl) rfl) rfl), rfl, hX64, (Pin.le_trans (Pin.le_trans hlek10 hle38) hx45.le), (by omega), (mapF_next (by omega) hos), (by simp [hol]), ho60⟩))))
 omega
 refine wp_exit (s_thenE (s_lopE (s_blkE (s_then (s_seq (c_reg ?_))))))
 have hoe : os = cs.map txW := map_done (by omega) hos
 refine qd rfl rfl rfl (r_move (v := ov) rfl) ?_
 obtain ⟨G68, hle71, hX70, hr69, hf72⟩ := hw14.sealed hX13
 refine q1 rfl rfl rfl (o_call (vs := [ov, (.string (⟨#[32, 43, 32]⟩ : ByteArray))]) Tryz.func61 nm61 rfl rfl rfl ?_)
 refine Calls.mono (joinQ_spec hX70.pins hr69 (by rw [hoe]; exact jq_small (by omega) hz)) ?_
 rintro _ w73 ⟨rfl, hx74⟩
 refine ⟨_, rfl, ?_⟩
 have hX75 := hX70.step hx74.pins hx74.below
 refine qd rfl rfl rfl (r_assign (v := (.string (joinQ os))) rfl) (qe (s_then ?_))
 exact wp_ret (s_ret (c_ret1 (v := (.string (joinQ os))) rfl rfl rfl (⟨_, congrArg (fun z => Ending.returned (Value.string z)) (by rw [hoe]), hX75⟩)))

theorem positionMoves_spec {w : World} {G : Pin} {v : Value} {cs : List (ByteArray × ByteArray)} {left : Bool} (hP : Pins G w) (hM : MxG 0 G) (hv : RSl eS2 G v cs) (hl : cs.length ≤ 6) (hg : ∀ k, k < cs.length → CgP (cs.getD k default)) :
  Calls Tryz.prog 19 [v, (.bool left)].toArray w fun e w' => ∃ (u : Value) (G' : Pin), e = .returned u ∧ Own eStr 9 G' w' w.heap.size u (posQ cs left) ∧ Ext noS G w G' w' := by
 refine s_enter (n := 43) Tryz.func19 Tryz.ntmps19 rfl rfl ?_
 have hX0 : Ext noS G w G w := Ext.refl hP
 have hmv := hv.max
 have hnl : ([] ++ cs).length = cs.length := rfl
 refine s_seq (c_reg ?_)
 refine qd rfl rfl rfl (r_assign (v := (.slice none 0 0)) rfl) (qe (s_then (s_seq (c_reg ?_))))
 refine q1 rfl rfl rfl (o_build0 (E := eStr) (e := 9) Tryz.underlying22 sz9 hX0.pins (fun u1 w2 ho3 hp4 hl5 hk6 => ?_))
 have hX7 := hX0.step hp4 hl5
 have ho8 : Own eStr 9 G w2 w.heap.size u1 ([]) := ho3.weaken hX0.size
 refine qd rfl rfl rfl (r_assign (v := u1) rfl) (qe (s_then (s_seq (s_seq (c_reg ?_)))))
 refine qd rfl rfl rfl (r_move (v := v) rfl) (qd rfl rfl rfl (run_len Tryz.underlying31 (v := v) rfl hv) (qd rfl rfl rfl (r_move (v := (.int .i64 0)) rfl) (qe (s_then ?_))))
 refine s_blk (s_loop (fun (k : Nat) (en : Nat → Value) (W : World) => ∃ (env1 : Nat → Value) (j : Nat) (ov : Value) (os : List ByteArray) (GL1 : Pin), en = (upd (upd (upd (upd (upd (upd (upd env1 0 v) 1 (.bool left)) 4 (.slice none 0 0)) 5 ov) 12 v) 13 (.int .i64 (cs.length : Int))) 14 (.int .i64 (j : Int))) ∧ k = cs.length - j ∧ Ext noS G w GL1 W ∧ Pin.le G GL1 ∧ (j ≤ cs.length) ∧ (os = runM (stepQ cs left) j) ∧ (os.length ≤ 64 * j) ∧ (Own eStr 9 GL1 W w.heap.size ov (os))) _ ⟨_, 0, u1, [], G, (packS (x := 14) (packS (x := 13) (packS (x := 12) (packS (x := 5) (packS (x := 4) (packS (x := 1) (pack1 (x := 0) rfl) rfl) rfl) rfl) rfl) rfl) rfl), rfl, hX7, Pin.le_refl _, Nat.zero_le _, rfl, (by simp), ho8⟩ ?_)
 rintro k9 _ w10 ⟨env1, j, ov, os, GL1, rfl, hk11, hX12, hlek9, hj, hos, hol, hw13⟩
 refine s_seq (c_reg ?_)
 refine qd rfl rfl rfl (r_lss rfl rfl) (qe (s_then (s_seq ?_)))
 refine c_ifd (p := ((j : Int) : Int) < (cs.length : Int)) rfl rfl (fun h14 => ?_) (fun h14 => ?_)
 have hgj : CgP (cs.getD j default) := hg j (by omega)
 have hal := arg_le (left := left) hgj
 have ham := arg_mem (left := left) hgj
 refine wp_skip (s_then (s_seq ?_))
 refine s_blk (s_seq (c_reg ?_))
 refine qd rfl rfl rfl (r_move (v := (.int .i64 (j : Int))) rfl) (qd rfl rfl rfl (run_idx Tryz.underlying31 sz36 (v := v) rfl rfl hv (by omega) (by omega)) ?_)
 obtain ⟨cs15, hrep16, hagg17, hcell18⟩ := nm_el (j := j) default (hv.at (z := (j : Int)) (by omega) (by omega)) rfl
 obtain rfl := hrep16
 refine qd rfl rfl rfl (hagg17 ag36 sz36 rfl (Pins.of_le hX12.pins hlek9)) (q1 rfl rfl rfl (o_alloc [(.string ByteArray.empty), (.string ByteArray.empty)] zr36 rfl hX12.pins (fun b19 w20 hk21 hb22 hp23 hl24 => ?_)))
 have hX25 := hX12.step hp23 hl24
 have ho26 := hw13.below hl24
 have ha27 : Apart (some b19) ov.ownBlock := new_ne_own (congrArg some hk21) hw13.lt
 have hlo28 : w.heap.size ≤ b19 := by have := hX12.size; omega
 refine qd rfl rfl rfl (r_assign (v := (.int .i64 (j : Int))) rfl) (q0 rfl rfl rfl (o_stp (cs' := [(.string ((cs.getD j default).1)), (.string ((cs.getD j default).2))]) (us := [(.string ((cs.getD j default).1)), (.string ((cs.getD j default).2))]) (v := (.agg [(.string ((cs.getD j default).1)), (.string ((cs.getD j default).2))].toArray)) sz36 rfl rfl rfl (ones2 (by rfl) (by rfl)) hX25.pins hb22 (Nat.le_of_ble_eq_true rfl) rfl (fun w29 hb30 hp31 hg32 hz33 => ?_)))
 have hX34 := hX25.write hp31 hg32 ((lo_box hlo28))
 have ho35 := ho26.keptA hg32 ha27.symm
 obtain ⟨G36, hle37, hX38, hbp39, hf40⟩ := hb30.shut hX34 hlo28
 have ho41 := ho35.moreA hle37 hf40 ha27.symm
 refine qe (s_then (s_seq (c_reg ?_)))
 refine qd rfl rfl rfl (r_ldpA (cs := [(.string ((cs.getD j default).1)), (.string ((cs.getD j default).2))]) ag36 sz36 rfl (fun j u hj => hX38.pins _ _ _ (hbp39 _ _ (by simpa using hj)))) (qd rfl rfl rfl (r_move (v := (.bool left)) rfl) (q1 rfl rfl rfl (o_call (vs := [(.agg [(.string ((cs.getD j default).1)), (.string ((cs.getD j default).2))].toArray), (.bool left)]) Tryz.func28 nm28 rfl rfl rfl ?_)))
 refine Calls.mono (args_spec (a := ((cs.getD j default).1)) (t := ((cs.getD j default).2)) (left := left) hX38.pins (hM.le (Pin.le_trans hlek9 hle37)) hgj) ?_
 rintro _ w44 ⟨u42, G43, rfl, hr45, hx46⟩
 refine ⟨_, rfl, ?_⟩
 have hX47 := hX38.tr hx46
 have ho48 := ho41.ext hx46
 refine qd rfl rfl rfl (run_len Tryz.underlying22 (v := u42) rfl hr45) (qd rfl rfl rfl (r_move (v := (.int .i64 0)) rfl) (qe (s_then ?_)))
 refine s_blk (s_loop (fun (k : Nat) (en : Nat → Value) (W : World) => ∃ (env1 : Nat → Value) (q9 : Nat) (ov2 : Value) (os2 : List ByteArray) (GL2 : Pin), en = (upd (upd (upd (upd (upd (upd (upd (upd (upd (upd (upd env1 0 v) 1 (.bool left)) 4 (.slice none 0 0)) 5 ov2) 6 (.int .i64 (j : Int))) 12 v) 13 (.int .i64 (cs.length : Int))) 14 (.int .i64 (j : Int))) 21 u42) 22 (.int .i64 ((argM (vbI ((cs.getD j default).1)) ((cs.getD j default).2) left).length : Int))) 23 (.int .i64 (q9 : Int))) ∧ k = (argM (vbI (cs.getD j default).1) (cs.getD j default).2 left).length - q9 ∧ Ext noS G w GL2 W ∧ Pin.le G43 GL2 ∧ (q9 ≤ (argM (vbI (cs.getD j default).1) (cs.getD j default).2 left).length) ∧ (os2 = os ++ ((argM (vbI (cs.getD j default).1) (cs.getD j default).2 left).take q9).map (stepF cs j)) ∧ (os2.length ≤ 64 * j + q9) ∧ (Own eStr 9 GL2 W w.heap.size ov2 (os2))) _ ⟨_, 0, ov, os, G43, (packS (x := 23) (packS (x := 22) (packS (x := 21) (packS (x := 14) (packS (x := 13) (packS (x := 12) (packS (x := 6) (packS (x := 5) (packS (x := 4) (packS (x := 1) (pack1 (x := 0) rfl) rfl) rfl) rfl) rfl) rfl) rfl) rfl) rfl) rfl) rfl), rfl, hX47, Pin.le_refl _, Nat.zero_le _, (List.append_nil _).symm, (by omega), ho48⟩ ?_)
 rintro k49 _ w50 ⟨env1, q9, ov2, os2, GL2, rfl, hk51, hX52, hlek49, hq, hos2, hol2, hw53⟩
 refine s_seq (c_reg ?_)
 refine qd rfl rfl rfl (r_lss rfl rfl) (qe (s_then (s_seq ?_)))
 refine c_ifd (p := ((q9 : Int) : Int) < ((argM (vbI ((cs.getD j default).1)) ((cs.getD j default).2) left).length : Int)) rfl rfl (fun h54 => ?_) (fun h54 => ?_)
 have haq := ham _ (getD_mem (d := ByteArray.empty) (show q9 < (argM (vbI (cs.getD j default).1) (cs.getD j default).2 left).length by omega))
 refine wp_skip (s_then (s_seq ?_))
 refine s_blk (s_seq (c_reg ?_))
 refine qd rfl rfl rfl (run_idx Tryz.underlying22 sz9 (v := u42) rfl rfl hr45 (by omega) (by omega)) (qd rfl rfl rfl (run_load_str (r := (argM (vbI ((cs.getD j default).1)) ((cs.getD j default).2) left).getD q9 ByteArray.empty) rfl ag9 (z := (q9 : Int)) rfl hr45 (Pins.of_le hX52.pins hlek49) (by omega) (by omega)) (qd rfl rfl rfl (r_assign (v := (.string ((argM (vbI ((cs.getD j default).1)) ((cs.getD j default).2) left).getD q9 ByteArray.empty))) rfl) (qe (s_then (s_seq (c_reg ?_))))))
 refine q1 rfl rfl rfl (o_build0 (E := eS2) (e := 36) Tryz.underlying31 sz36 hX52.pins (fun u55 w56 ho57 hp58 hl59 hk60 => ?_))
 have hX61 := hX52.step hp58 hl59
 have ho62 := hw53.below hl59
 have ha63 : Apart u55.ownBlock ov2.ownBlock := new_ne_own hk60 hw53.lt
 have ho64 : Own eS2 36 GL2 w56 w.heap.size u55 ([]) := ho57.weaken hX52.size
 refine qd rfl rfl rfl (r_move (v := v) rfl) (q1 rfl rfl rfl (o_append (E := eS2) (v := u55) (u := v) 32 Tryz.underlying31 ap36 (by decide) rfl rfl hX61.pins ho64 ((hv.mono (Pin.le_trans (Pin.le_trans (Pin.le_trans hlek9 hle37) hx46.le) hlek49)).src hX61.pins (by decide)) (by first | omega | (rw [List.nil_append]; omega) | (rw [List.length_nil]; omega) | (rw [List.length_append]; omega) | (simp; done) | (simp; omega) | (simp only [List.length_cons, List.length_nil]; omega) | (simp only [List.length_append, List.length_cons, List.length_nil]; omega)) (by first | omega | (rw [List.nil_append]; omega) | (rw [List.length_nil]; omega) | (rw [List.length_append]; omega) | (simp; done) | (simp; omega) | (simp only [List.length_cons, List.length_nil]; omega) | (simp only [List.length_append, List.length_cons, List.length_nil]; omega)) (hX61.size) (fun u65 w66 ho67 hp68 hg69 hw70 => ?_)))
 have hX71 := hX61.write hp68 hg69 ((lo_own ho64))
 have ho72 := ho62.keptA hg69 ha63.symm
 have ha73 : Apart ov2.ownBlock u65.ownBlock := app_ne_own ha63.symm hw70 ho62.lt
 have hm74 : (([]) ++ cs).length = ([]).length + cs.length := List.length_append
 refine qd rfl rfl rfl (r_assign (v := u65) rfl) (qe (s_then (s_seq (c_reg ?_))))
 refine qd rfl rfl rfl (r_move (v := u65) rfl) (qd rfl rfl rfl (r_move (v := (.int .i64 (j : Int))) rfl) (qd rfl rfl rfl (r_move (v := (.string ((argM (vbI ((cs.getD j default).1)) ((cs.getD j default).2) left).getD q9 ByteArray.empty))) rfl) (qd rfl rfl rfl (run_idx Tryz.underlying31 sz36 (v := u65) rfl rfl ho67.read (by omega) (by omega)) (qd rfl rfl rfl (run_fld (off := 1) Tryz.underlying36 rfl rfl nz9 (z := (j : Int)) (k := 0) rfl ho67.read (by omega) (by omega)) (q0 rfl rfl rfl (o_setS1 (v := u65) (z := (j : Int)) (q := ((argM (vbI ((cs.getD j default).1)) ((cs.getD j default).2) left).getD q9 ByteArray.empty)) sz9 rfl rfl hX71.pins ho67 (by omega) (by omega) (fun w75 ho76 hp77 hg78 hz79 => ?_)))))))
 have hX80 := hX71.write hp77 hg78 ((lo_own ho67))
 have ho81 := ho72.keptA hg78 ha73
 have hm82 : ((([]) ++ cs).set j (((([]) ++ cs).getD j default).1, (argM (vbI ((cs.getD j default).1)) ((cs.getD j default).2) left).getD q9 ByteArray.empty)).length = (([]) ++ cs).length := List.length_set ..
 have ho83 : Own eS2 36 GL2 w75 w.heap.size u65 ((([]) ++ cs).set j (((([]) ++ cs).getD j default).1, (argM (vbI ((cs.getD j default).1)) ((cs.getD j default).2) left).getD q9 ByteArray.empty)) := ho76
 refine qe (s_then (c_reg ?_))
 refine qd rfl rfl rfl (r_move (v := ov2) rfl) (qd rfl rfl rfl (r_move (v := u65) rfl) ?_)
 obtain ⟨G84, hle87, hX86, hr85, hf88⟩ := ho83.sealed hX80
 have ho89 := ho81.moreO hle87 hf88 ha73
 refine q1 rfl rfl rfl (o_call (vs := [u65]) Tryz.func29 nm29 rfl rfl rfl ?_)
 refine Calls.mono (positionText_spec hX86.pins hr85 ⟨by omega, by omega⟩ (csz_set (csz_of hg) (by omega) (by omega))) ?_
 rintro _ w91 ⟨G90, rfl, hx92⟩
 refine ⟨_, rfl, ?_⟩
 have hX93 := hX86.tr hx92
 have ho94 := ho89.ext hx92
 refine q1 rfl rfl rfl (o_buildF (E := eStr) (e := 9) [(.string (joinQ (((([]) ++ cs).set j (((([]) ++ cs).getD j default).1, (argM (vbI ((cs.getD j default).1)) ((cs.getD j default).2) left).getD q9 ByteArray.empty)).map txW)))] [joinQ (((([]) ++ cs).set j (((([]) ++ cs).getD j default).1, (argM (vbI ((cs.getD j default).1)) ((cs.getD j default).2) left).getD q9 ByteArray.empty)).map txW)] Tryz.underlying22 sz9 zr9 (by exact reps1 (by rfl)) (ones1 (by rfl)) rfl rfl rfl rfl (by decide) hX93.pins (fun u95 w96 ho97 hp98 hl99 hk100 => ?_))
 have hX101 := hX93.step hp98 hl99
 have ho102 := ho94.below hl99
 have ho104 : Own eStr 9 G90 w96 w.heap.size u95 ([joinQ (((([]) ++ cs).set j (((([]) ++ cs).getD j default).1, (argM (vbI ((cs.getD j default).1)) ((cs.getD j default).2) left).getD q9 ByteArray.empty)).map txW)]) := ho97.weaken hX93.size
 refine q1 rfl rfl rfl (o_append (E := eStr) (v := ov2) (u := u95) 16 Tryz.underlying22 ap9 (by decide) rfl rfl hX101.pins ho102 ho104.src (by first | omega | (rw [List.nil_append]; omega) | (rw [List.length_nil]; omega) | (rw [List.length_append]; omega) | (simp; done) | (simp; omega) | (simp only [List.length_cons, List.length_nil]; omega) | (simp only [List.length_append, List.length_cons, List.length_nil]; omega)) (by first | omega | (rw [List.nil_append]; omega) | (rw [List.length_nil]; omega) | (rw [List.length_append]; omega) | (simp; done) | (simp; omega) | (simp only [List.length_cons, List.length_nil]; omega) | (simp only [List.length_append, List.length_cons, List.length_nil]; omega)) (hX101.size) (fun u105 w106 ho107 hp108 hg109 hw110 => ?_))
 have hX111 := hX101.write hp108 hg109 ((lo_own ho102))
 have hm114 : (os2 ++ ([joinQ (((([]) ++ cs).set j (((([]) ++ cs).getD j default).1, (argM (vbI ((cs.getD j default).1)) ((cs.getD j default).2) left).getD q9 ByteArray.empty)).map txW)])).length = os2.length + 1 := List.length_append
 refine qd rfl rfl rfl (r_assign (v := u105) rfl) (qe (s_blkN (s_then (c_reg ?_))))
 refine qd rfl rfl rfl (r_add rfl rfl (by omega)) (qd rfl rfl rfl (r_move (v := (.int .i64 ((q9 : Int) + 1))) rfl) (qe (s_lopN (⟨_, ?_, _, rfl, _, q9 + 1, u105, os2 ++ [stepF cs j ((argM (vbI (cs.getD j default).1) (cs.getD j default).2 left).getD q9 ByteArray.empty)], G90, (packS (x := 23) (packS (x := 22) (packS (x := 21) (packS (x := 14) (packS (x := 13) (packS (x := 12) (packS (x := 6) (packS (x := 5) (packS (x := 4) (packS (x := 1) (pack1 (x := 0) rfl) rfl) rfl) rfl) rfl) rfl) rfl) rfl) rfl) rfl) rfl), rfl, hX111, (Pin.le_trans (Pin.le_trans hlek49 hle87) hx92.le), (by omega), (in_next9 (by omega) hos2), (by simp; omega), ho107⟩))))
 omega
 refine wp_exit (s_thenE (s_lopE (s_blkE (s_blkN (s_then (c_reg ?_))))))
 refine qd rfl rfl rfl (r_add rfl rfl (by omega)) (qd rfl rfl rfl (r_move (v := (.int .i64 ((j : Int) + 1))) rfl) (qe (s_lopN (⟨_, ?_, _, rfl, _, j + 1, ov2, os2, GL2, (packS (x := 14) (packS (x := 13) (packS (x := 12) (packS (x := 5) (packS (x := 4) (packS (x := 1) (pack1 (x := 0) rfl) rfl) rfl) rfl) rfl) rfl) rfl), rfl, hX52, (Pin.le_trans (Pin.le_trans (Pin.le_trans hlek9 hle37) hx46.le) hlek49), (by omega), (st_next9 hos hos2 (by omega)), (by omega), hw53⟩))))
 omega
 refine wp_exit (s_thenE (s_lopE (s_blkE (s_then (s_seq (c_reg ?_))))))
 refine qd rfl rfl rfl (r_move (v := ov) rfl) (qd rfl rfl rfl (r_assign (v := ov) rfl) (qe (s_then ?_)))
 refine wp_ret (s_ret (c_ret1 (v := ov) rfl rfl rfl ?_))
 have hjc : j = cs.length := by omega
 rw [hjc] at hos
 exact ⟨_, _, rfl, (by unfold posQ; rw [← hos]; exact hw13), hX12⟩

theorem iPositionMoves_spec {w : World} {G : Pin} {s : ByteArray} {left : Bool} (hP : Pins G w) (hM : MxG 0 G) (hs : s.size ≤ 1048576) :
  Calls Tryz.prog 11 [(.string s), (.bool left)].toArray w fun e w' => ∃ (u : Value) (G' : Pin), e = .returned (.tuple #[u, .bool (psB s)]) ∧ Own eStr 9 G' w' w.heap.size u (posF s left) ∧ Ext noS G w G' w' := by
 refine s_enter (n := 18) Tryz.func11 Tryz.ntmps11 rfl rfl ?_
 have hX0 : Ext noS G w G w := Ext.refl hP
 refine s_seq (c_reg ?_)
 refine qd rfl rfl rfl (r_assign (v := (.slice none 0 0)) rfl) (qd rfl rfl rfl (r_assign (v := (.bool false)) rfl) (qe (s_then (s_seq (c_reg ?_)))))
 refine qd rfl rfl rfl (r_move (v := (.string s)) rfl) (q1 rfl rfl rfl (o_call (vs := [(.string s)]) Tryz.func14 nm14 rfl rfl rfl ?_))
 refine Calls.mono (components_spec (s := s) hX0.pins hM (by omega)) ?_
 rintro _ w3 ⟨u1, G2, rfl, hr4, hx5⟩
 refine ⟨_, rfl, ?_⟩
 have hX6 := hX0.tr hx5
 have hpa := psC_all (s := s)
 refine qd rfl rfl rfl (r_move (v := (.tuple #[u1, (.bool (psB s))])) rfl) (qd rfl rfl rfl (r_extract (v := u1) rfl rfl) (qd rfl rfl rfl (r_extract (v := (.bool (psB s))) rfl rfl) (qd rfl rfl rfl (r_assign (v := u1) rfl) (qd rfl rfl rfl (r_assign (v := (.bool (psB s))) rfl) (qe (s_then (s_seq (s_seq (c_reg ?_)))))))))
 refine qd rfl rfl rfl (r_move (v := (.bool (psB s))) rfl) (qd rfl rfl rfl (r_not rfl) (qe (s_then ?_)))
 refine c_ifn rfl rfl (fun h7 => ?_) (fun h7 => ?_)
 refine wp_skip (s_then (s_seq (c_reg ?_)))
 refine qd rfl rfl rfl (r_move (v := u1) rfl) (qd rfl rfl rfl (r_move (v := (.bool left)) rfl) (q1 rfl rfl rfl (o_call (vs := [u1, (.bool left)]) Tryz.func19 nm19 rfl rfl rfl ?_)))
 refine Calls.mono (positionMoves_spec (left := left) hX6.pins (hM.le hx5.le) hr4 hpa.1 hpa.2) ?_
 rintro _ w10 ⟨u8, G9, rfl, ho11, hx12⟩
 refine ⟨_, rfl, ?_⟩
 have hX13 := hX6.tr hx12
 have ho14 : Own eStr 9 G9 w10 w.heap.size u8 (posQ (psC s) left) := ho11.weaken hX6.size
 refine qd rfl rfl rfl (r_assign (v := u8) rfl) (qd rfl rfl rfl (r_assign (v := (.bool true)) rfl) (qe (s_then ?_)))
 exact wp_ret (s_ret (c_ret2 (v := u8) (u := (.bool true)) rfl rfl rfl rfl rfl (⟨_, _, (by rw [h7]), (by rw [← posC]; exact ho14), hX13⟩)))
 refine s_seq (c_reg ?_)
 refine qd rfl rfl rfl (r_assign (v := (.slice none 0 0)) rfl) (qd rfl rfl rfl (r_assign (v := (.bool false)) rfl) (qe (s_then ?_)))
 exact wp_ret (s_ret (c_ret2 (v := (.slice none 0 0)) (u := (.bool false)) rfl rfl rfl rfl rfl (⟨_, _, (by rw [h7]), (by rw [posF_no h7]; exact Own.nil _ _ _ _ _), hX6⟩)))

end PW6
end Go.Proofs.YtianphgdbfekdaaGreatDoor

namespace Go.GL
open Go Go.RowKit

theorem repsN {α : Type} {E : Elt α} {G : Pin} : RepsF E G [] [] := fun i y hy => by simp at hy
theorem repsC {α : Type} {E : Elt α} {G : Pin} {v : Value} {y : α} {vs : List Value} {ys : List α} (h : E.rep G [v] y) (k : RepsF E G vs ys) : RepsF E G (v :: vs) (y :: ys) := fun i z hz => by
 cases i with
 | zero => simp at hz; subst hz; exact ⟨v, rfl, h⟩
 | succ i => simp at hz; obtain ⟨u, hu, hr⟩ := k i z hz; exact ⟨u, by simpa using hu, hr⟩
theorem onesN : ∀ u ∈ ([] : List Value), u.oneCell' = true := fun _ h => (List.not_mem_nil h).elim
theorem onesC {v : Value} {vs : List Value} (h : v.oneCell' = true) (k : ∀ u ∈ vs, u.oneCell' = true) : ∀ u ∈ v :: vs, u.oneCell' = true := fun u hu => by
 rcases List.mem_cons.1 hu with rfl | hu
 ·exact h
 ·exact k u hu
end Go.GL

set_option maxRecDepth 20000
set_option maxHeartbeats 2000000
namespace Go.Proofs.YtianphgdbfekdaaGreatDoor
namespace PW7
open Go.RowKit Go.GL Go.Proofs
open PT3 PTB PW1 PW2 PW3















theorem verbs_spec {w : World} {G : Pin} (hP : Pins G w) :
  Calls Tryz.prog 38 [].toArray w fun e w' => ∃ (u : Value) (G' : Pin), e = .returned u ∧ RSl eStr G' u (VB) ∧ Ext noS G w G' w' := by
 refine s_enter (n := 2) Tryz.func38 Tryz.ntmps38 rfl rfl ?_
 have hX0 : Ext noS G w G w := Ext.refl hP
 refine s_seq (c_reg ?_)
 refine qd rfl rfl rfl (r_assign (v := (.slice none 0 0)) rfl) (qe (s_then (s_seq (c_reg ?_))))
 refine q1 rfl rfl rfl (o_buildF (E := eStr) (e := 9) [(.string (⟨#[116, 111, 97, 100, 115]⟩ : ByteArray)), (.string (⟨#[99, 108, 111, 98]⟩ : ByteArray)), (.string (⟨#[117, 110, 108, 105, 107, 101]⟩ : ByteArray)), (.string (⟨#[97, 108, 105, 107, 101]⟩ : ByteArray)), (.string (⟨#[100, 111, 109]⟩ : ByteArray)), (.string (⟨#[115, 116, 97, 108, 107]⟩ : ByteArray)), (.string (⟨#[110, 105, 109]⟩ : ByteArray))] [(⟨#[116, 111, 97, 100, 115]⟩ : ByteArray), (⟨#[99, 108, 111, 98]⟩ : ByteArray), (⟨#[117, 110, 108, 105, 107, 101]⟩ : ByteArray), (⟨#[97, 108, 105, 107, 101]⟩ : ByteArray), (⟨#[100, 111, 109]⟩ : ByteArray), (⟨#[115, 116, 97, 108, 107]⟩ : ByteArray), (⟨#[110, 105, 109]⟩ : ByteArray)] Tryz.underlying22 sz9 zr9 (repsC (by rfl) (repsC (by rfl) (repsC (by rfl) (repsC (by rfl) (repsC (by rfl) (repsC (by rfl) (repsC (by rfl) repsN))))))) (onesC (by rfl) (onesC (by rfl) (onesC (by rfl) (onesC (by rfl) (onesC (by rfl) (onesC (by rfl) (onesC (by rfl) onesN))))))) rfl rfl rfl rfl (by decide) hX0.pins (fun u1 w2 ho3 hp4 hl5 hk6 => ?_))
 have hX7 := hX0.step hp4 hl5
 have ho8 : Own eStr 9 G w2 w.heap.size u1 ([(⟨#[116, 111, 97, 100, 115]⟩ : ByteArray), (⟨#[99, 108, 111, 98]⟩ : ByteArray), (⟨#[117, 110, 108, 105, 107, 101]⟩ : ByteArray), (⟨#[97, 108, 105, 107, 101]⟩ : ByteArray), (⟨#[100, 111, 109]⟩ : ByteArray), (⟨#[115, 116, 97, 108, 107]⟩ : ByteArray), (⟨#[110, 105, 109]⟩ : ByteArray)]) := ho3.weaken hX0.size
 refine qd rfl rfl rfl (r_assign (v := u1) rfl) (qe (s_then ?_))
 refine wp_ret (s_ret (c_ret1 (v := u1) rfl rfl rfl ?_))
 obtain ⟨G9, hle12, hX11, hr10, hf13⟩ := ho8.sealed hX7
 exact ⟨_, _, rfl, hr10, hX11⟩

theorem l24Cut_spec {w : World} {G : Pin} {s : ByteArray} (hP : Pins G w) (hs : s.size ≤ 1048576) :
  Calls Tryz.prog 30 [(.string s)].toArray w fun e w' => ∃ G', e = .returned (.tuple #[.int .i64 (kdI s), .string (tlB s)]) ∧ Ext noS G w G' w' := by
 refine s_enter (n := 44) Tryz.func30 Tryz.ntmps30 rfl rfl ?_
 have hX0 : Ext noS G w G w := Ext.refl hP
 have hvl : VB.length = 7 := rfl
 refine s_seq (c_reg ?_)
 refine qd rfl rfl rfl (r_assign (v := (.int .i64 0)) rfl) (qd rfl rfl rfl (r_assign (v := (.string (⟨#[]⟩ : ByteArray))) rfl) (qe (s_then (s_seq (c_reg ?_)))))
 refine q1 rfl rfl rfl (o_call (vs := []) Tryz.func38 nm38 rfl rfl rfl ?_)
 refine Calls.mono (verbs_spec hX0.pins) ?_
 rintro _ w3 ⟨u1, G2, rfl, hr4, hx5⟩
 refine ⟨_, rfl, ?_⟩
 have hX6 := hX0.tr hx5
 refine qd rfl rfl rfl (r_assign (v := u1) rfl) (qe (s_then (s_seq (s_seq (c_reg ?_)))))
 refine qd rfl rfl rfl (r_assign (v := (.int .i64 0)) rfl) (qe (s_then ?_))
 refine s_blk (s_loop (fun (k : Nat) (en : Nat → Value) (W : World) => ∃ (env1 : Nat → Value) (i9 : Nat) (GL1 : Pin), en = (upd (upd (upd env1 0 (.string s)) 4 u1) 5 (.int .i64 (i9 : Int))) ∧ k = 7 - i9 ∧ Ext noS G w GL1 W ∧ Pin.le G2 GL1 ∧ (i9 ≤ 7) ∧ (∀ j, j < i9 → ¬ HitV s j)) _ ⟨_, 0, G2, (packS (x := 5) (packS (x := 4) (pack1 (x := 0) rfl) rfl) rfl), rfl, hX6, Pin.le_refl _, Nat.zero_le _, all_none⟩ ?_)
 rintro k7 _ w8 ⟨env1, i9, GL1, rfl, hk9, hX10, hlek7, hi, hno⟩
 refine s_seq (s_seq (c_reg ?_))
 refine qd rfl rfl rfl (r_move (v := (.int .i64 (i9 : Int))) rfl) (qd rfl rfl rfl (r_move (v := u1) rfl) (qd rfl rfl rfl (run_len Tryz.underlying22 (v := u1) rfl hr4) (qd rfl rfl rfl (r_lss rfl rfl) (qe (s_then ?_)))))
 refine c_ifd (p := ((i9 : Int) : Int) < (VB.length : Int)) rfl rfl (fun h11 => ?_) (fun h11 => ?_)
 refine wp_skip (s_then (s_seq ?_))
 refine s_blk (s_seq (c_reg ?_))
 refine qd rfl rfl rfl (r_move (v := u1) rfl) (qd rfl rfl rfl (r_move (v := (.int .i64 (i9 : Int))) rfl) (qd rfl rfl rfl (run_idx Tryz.underlying22 sz9 (v := u1) rfl rfl hr4 (by omega) (by omega)) (qd rfl rfl rfl (run_load_str (r := VB.getD i9 ByteArray.empty) rfl ag9 (z := (i9 : Int)) rfl hr4 (Pins.of_le hX10.pins hlek7) (by omega) (by omega)) (qd rfl rfl rfl (r_lenS Tryz.underlying9 rfl) (qd rfl rfl rfl (r_assign (v := (.int .i64 ((VB.getD i9 ByteArray.empty).size : Int))) rfl) (qe (s_then (s_seq ?_))))))))
 refine c_draw (S := fun wz => Pins GL1 wz) (last := 20) (by kernel_rfl) rfl ?_
 have hl12 : Below w8.heap.size w8 w8.drew := (Below.refl _ _).drew
 have hp13 := hX10.pins.below hl12
 have hX14 := hX10.step hp13 hl12
 refine dr_take (i := 0) rfl rfl rfl (want_none rfl _) (by kernel_rfl) (fun _ _ => r_move (v := (.string s)) rfl) hX14.pins (dr_take (i := 1) rfl rfl rfl (want_none rfl _) (by kernel_rfl) (fun _ _ => r_lenS Tryz.underlying9 rfl) hX14.pins (dr_take (i := 2) rfl rfl rfl (want_none rfl _) (by kernel_rfl) (fun _ _ => r_move (v := (.int .i64 ((VB.getD i9 ByteArray.empty).size : Int))) rfl) hX14.pins (dr_take (i := 3) rfl rfl rfl (want_none rfl _) (by kernel_rfl) (fun _ _ => r_gtr rfl rfl) hX14.pins (dr_take (i := 4) rfl rfl rfl (want_none rfl _) (by kernel_rfl) (fun _ _ => r_move (v := (.bool (decide ((((VB.getD i9 ByteArray.empty).size : Int) : Int) < (s.size : Int))))) rfl) hX14.pins (drbd (p := (((VB.getD i9 ByteArray.empty).size : Int) : Int) < (s.size : Int)) (t := 23) rfl (fun h15 => ?_) (fun h15 => ?_))))))
 refine dr_take (i := 5) rfl rfl rfl (want_yes rfl rfl rfl rfl) (by kernel_rfl) (fun _ _ => r_move (v := (.string s)) rfl) hX14.pins (dr_take (i := 6) rfl rfl rfl (want_yes rfl rfl rfl rfl) (by kernel_rfl) (fun _ _ => r_move (v := (.int .i64 ((VB.getD i9 ByteArray.empty).size : Int))) rfl) hX14.pins ?_)
 have hm16 : (s.extract 0 ((VB.getD i9 ByteArray.empty).size)).size = min ((VB.getD i9 ByteArray.empty).size) s.size - 0 := ByteArray.size_extract
 refine dr_take (i := 7) rfl rfl rfl (want_yes rfl rfl rfl rfl) (by kernel_rfl) (fun _ _ => r_cutS Tryz.underlying9 rfl rfl (by omega) (by omega)) hX14.pins (dr_take (i := 8) rfl rfl rfl (want_yes rfl rfl rfl rfl) (by kernel_rfl) (fun _ _ => r_move (v := u1) rfl) hX14.pins (dr_take (i := 9) rfl rfl rfl (want_yes rfl rfl rfl rfl) (by kernel_rfl) (fun _ _ => r_move (v := (.int .i64 (i9 : Int))) rfl) hX14.pins (dr_take (i := 10) rfl rfl rfl (want_yes rfl rfl rfl rfl) (by kernel_rfl) (fun _ _ => run_idx Tryz.underlying22 sz9 (v := u1) rfl rfl hr4 (by omega) (by omega)) hX14.pins (dr_take (i := 11) rfl rfl rfl (want_yes rfl rfl rfl rfl) (by kernel_rfl) (fun _ hS => run_load_str (r := VB.getD i9 ByteArray.empty) rfl ag9 (z := (i9 : Int)) rfl hr4 (Pins.of_le hS hlek7) (by omega) (by omega)) hX14.pins (dr_take (i := 12) rfl rfl rfl (want_yes rfl rfl rfl rfl) (by kernel_rfl) (fun _ _ => r_eqlS rfl rfl) hX14.pins (dr_take (i := 13) rfl rfl rfl (want_none rfl _) (by kernel_rfl) (fun _ _ => r_pickT (v := (.bool ((s.extract 0 ((VB.getD i9 ByteArray.empty).size)).toList == (VB.getD i9 ByteArray.empty).toList))) rfl rfl) hX14.pins (dr_take (i := 14) rfl rfl rfl (want_none rfl _) (by kernel_rfl) (fun _ _ => r_move (v := (.bool ((s.extract 0 ((VB.getD i9 ByteArray.empty).size)).toList == (VB.getD i9 ByteArray.empty).toList))) rfl) hX14.pins (drb (t := 33) rfl (fun h17 => ?_) (fun h17 => ?_)))))))))
 refine dr_take (i := 15) rfl rfl rfl (want_yes rfl rfl rfl rfl) (by kernel_rfl) (fun _ _ => r_move (v := (.string s)) rfl) hX14.pins (dr_take (i := 16) rfl rfl rfl (want_yes rfl rfl rfl rfl) (by kernel_rfl) (fun _ _ => r_move (v := (.int .i64 ((VB.getD i9 ByteArray.empty).size : Int))) rfl) hX14.pins (dr_take (i := 17) rfl rfl rfl (want_yes rfl rfl rfl rfl) (by kernel_rfl) (fun _ _ => r_idxB Tryz.underlying9 rfl rfl (by omega) (by omega)) hX14.pins (dr_take (i := 18) rfl rfl rfl (want_yes rfl rfl rfl rfl) (by kernel_rfl) (fun _ _ => r_eql rfl rfl) hX14.pins (dr_take (i := 19) rfl rfl rfl (want_none rfl _) (by kernel_rfl) (fun _ _ => r_pickT (v := (.bool (decide ((((sB s ((VB.getD i9 ByteArray.empty).size)).toNat : Int) : Int) = 32)))) rfl rfl) hX14.pins (dr_end (by kernel_rfl) (s_then (c_ifd (p := (((sB s ((VB.getD i9 ByteArray.empty).size)).toNat : Int) : Int) = 32) rfl rfl (fun h18 => ?_) (fun h18 => ?_))))))))
 refine s_seq (c_draw (S := fun wz => Pins GL1 wz) (last := 7) (by kernel_rfl) rfl ?_)
 have hl19 : Below w8.drew.heap.size w8.drew w8.drew.drew := (Below.refl _ _).drew
 have hp20 := hX14.pins.below hl19
 have hX21 := hX14.step hp20 hl19
 refine dr_take (i := 0) rfl rfl rfl (want_none rfl _) (by kernel_rfl) (fun _ _ => r_move (v := (.int .i64 (i9 : Int))) rfl) hX21.pins (dr_take (i := 1) rfl rfl rfl (want_none rfl _) (by kernel_rfl) (fun _ _ => r_move (v := (.string s)) rfl) hX21.pins (dr_take (i := 2) rfl rfl rfl (want_none rfl _) (by kernel_rfl) (fun _ _ => r_move (v := (.int .i64 ((VB.getD i9 ByteArray.empty).size : Int))) rfl) hX21.pins (dr_take (i := 3) rfl rfl rfl (want_none rfl _) (by kernel_rfl) (fun _ _ => r_add rfl rfl (by omega)) hX21.pins ?_)))
 have hm22 : (s.extract (((VB.getD i9 ByteArray.empty).size : Int) + 1).toNat s.size).size = min s.size s.size - (((VB.getD i9 ByteArray.empty).size : Int) + 1).toNat := ByteArray.size_extract
 refine dr_take (i := 4) rfl rfl rfl (want_none rfl _) (by kernel_rfl) (fun _ _ => r_cutL Tryz.underlying9 rfl rfl (by omega) (by omega)) hX21.pins (dr_take (i := 5) rfl rfl rfl (want_none rfl _) (by kernel_rfl) (fun _ _ => r_assign (v := (.int .i64 (i9 : Int))) rfl) hX21.pins (dr_take (i := 6) rfl rfl rfl (want_none rfl _) (by kernel_rfl) (fun _ _ => r_assign (v := (.string (s.extract (((VB.getD i9 ByteArray.empty).size : Int) + 1).toNat s.size))) rfl) hX21.pins (dr_end (by kernel_rfl) (s_then (wp_ret (s_ret (c_ret2 (v := (.int .i64 (i9 : Int))) (u := (.string (s.extract (((VB.getD i9 ByteArray.empty).size : Int) + 1).toNat s.size))) rfl rfl rfl rfl rfl ?_)))))))
 obtain ⟨k1, k2⟩ := hit_y (w := s) (i := i9) (by omega) (by omega) h17 (by omega)
 have e9 : (((VB.getD i9 ByteArray.empty).size : Int) + 1).toNat = (VB.getD i9 ByteArray.empty).size + 1 := by omega
 exact ⟨_, (by rw [k1, k2, e9]), hX21⟩
 refine wp_skip (s_blkN (s_then (c_reg ?_)))
 refine qd rfl rfl rfl (r_move (v := (.int .i64 (i9 : Int))) rfl) (qd rfl rfl rfl (r_add rfl rfl (by omega)) (qd rfl rfl rfl (r_assign (v := (.int .i64 ((i9 : Int) + 1))) rfl) (qe (s_lopN (⟨_, ?_, _, rfl, _, i9 + 1, GL1, (packS (x := 5) (packS (x := 4) (pack1 (x := 0) rfl) rfl) rfl), rfl, hX14, hlek7, (by omega), (all_next hno (fun g => by have := (hitV_is g).2.2; omega))⟩)))))
 omega
 refine dr_skip (i := 15) rfl rfl (want_no rfl rfl rfl rfl rfl) (by kernel_rfl) hX14.pins (dr_skip (i := 16) rfl rfl (want_no rfl rfl rfl rfl rfl) (by kernel_rfl) hX14.pins (dr_skip (i := 17) rfl rfl (want_no rfl rfl rfl rfl rfl) (by kernel_rfl) hX14.pins (dr_skip (i := 18) rfl rfl (want_no rfl rfl rfl rfl rfl) (by kernel_rfl) hX14.pins (dr_take (i := 19) rfl rfl rfl (want_none rfl _) (by kernel_rfl) (fun _ _ => r_pickF (v := (.bool false)) rfl rfl) hX14.pins (dr_end (by kernel_rfl) (s_then (c_ifF rfl rfl (wp_skip (s_blkN (s_then (c_reg ?_)))))))))))
 refine qd rfl rfl rfl (r_move (v := (.int .i64 (i9 : Int))) rfl) (qd rfl rfl rfl (r_add rfl rfl (by omega)) (qd rfl rfl rfl (r_assign (v := (.int .i64 ((i9 : Int) + 1))) rfl) (qe (s_lopN (⟨_, ?_, _, rfl, _, i9 + 1, GL1, (packS (x := 5) (packS (x := 4) (pack1 (x := 0) rfl) rfl) rfl), rfl, hX14, hlek7, (by omega), (all_next hno (fun g => by have := (hitV_is g).2.1; exact absurd (h17.symm.trans this) (by decide)))⟩)))))
 omega
 refine dr_skip (i := 5) rfl rfl (want_no rfl rfl rfl rfl rfl) (by kernel_rfl) hX14.pins (dr_skip (i := 6) rfl rfl (want_no rfl rfl rfl rfl rfl) (by kernel_rfl) hX14.pins (dr_skip (i := 7) rfl rfl (want_no rfl rfl rfl rfl rfl) (by kernel_rfl) hX14.pins (dr_skip (i := 8) rfl rfl (want_no rfl rfl rfl rfl rfl) (by kernel_rfl) hX14.pins (dr_skip (i := 9) rfl rfl (want_no rfl rfl rfl rfl rfl) (by kernel_rfl) hX14.pins (dr_skip (i := 10) rfl rfl (want_no rfl rfl rfl rfl rfl) (by kernel_rfl) hX14.pins (dr_skip (i := 11) rfl rfl (want_no rfl rfl rfl rfl rfl) (by kernel_rfl) hX14.pins (dr_skip (i := 12) rfl rfl (want_no rfl rfl rfl rfl rfl) (by kernel_rfl) hX14.pins (dr_take (i := 13) rfl rfl rfl (want_none rfl _) (by kernel_rfl) (fun _ _ => r_pickF (v := (.bool false)) rfl rfl) hX14.pins (dr_take (i := 14) rfl rfl rfl (want_none rfl _) (by kernel_rfl) (fun _ _ => r_move (v := (.bool false)) rfl) hX14.pins (dr_skip (i := 15) rfl rfl (want_no rfl rfl rfl rfl rfl) (by kernel_rfl) hX14.pins (dr_skip (i := 16) rfl rfl (want_no rfl rfl rfl rfl rfl) (by kernel_rfl) hX14.pins (dr_skip (i := 17) rfl rfl (want_no rfl rfl rfl rfl rfl) (by kernel_rfl) hX14.pins (dr_skip (i := 18) rfl rfl (want_no rfl rfl rfl rfl rfl) (by kernel_rfl) hX14.pins (dr_take (i := 19) rfl rfl rfl (want_none rfl _) (by kernel_rfl) (fun _ _ => r_pickF (v := (.bool false)) rfl rfl) hX14.pins (dr_end (by kernel_rfl) (s_then (c_ifF rfl rfl (wp_skip (s_blkN (s_then (c_reg ?_)))))))))))))))))))))
 refine qd rfl rfl rfl (r_move (v := (.int .i64 (i9 : Int))) rfl) (qd rfl rfl rfl (r_add rfl rfl (by omega)) (qd rfl rfl rfl (r_assign (v := (.int .i64 ((i9 : Int) + 1))) rfl) (qe (s_lopN (⟨_, ?_, _, rfl, _, i9 + 1, GL1, (packS (x := 5) (packS (x := 4) (pack1 (x := 0) rfl) rfl) rfl), rfl, hX14, hlek7, (by omega), (all_next hno (fun g => by have := (hitV_is g).1; omega))⟩)))))
 omega
 refine wp_exit (s_thenE (s_lopE (s_blkE (s_then (s_seq (c_reg ?_))))))
 refine qd rfl rfl rfl (r_assign (v := (.int .i64 (-1))) rfl) (qd rfl rfl rfl (r_assign (v := (.string (⟨#[]⟩ : ByteArray))) rfl) (qe (s_then ?_)))
 refine wp_ret (s_ret (c_ret2 (v := (.int .i64 (-1))) (u := (.string (⟨#[]⟩ : ByteArray))) rfl rfl rfl rfl rfl ?_))
 obtain ⟨k1, k2⟩ := kd_none (fun j hj => hno j (by omega))
 exact ⟨_, (by rw [k1, k2]), hX10⟩

theorem l1ReadX_spec {w : World} {G : Pin} {s : ByteArray} (hP : Pins G w) (hs : s.size ≤ 1048576) :
  Calls Tryz.prog 35 [(.string s)].toArray w fun e w' => ∃ (n : Int) (ok : Bool) (G' : Pin), e = .returned (.tuple #[.int .i64 n, .bool ok]) ∧ RdN s n ok ∧ (ok = true → numT n = s) ∧ Ext noS G w G' w' := by
 refine s_enter (n := 58) Tryz.func35 Tryz.ntmps35 rfl rfl ?_
 have hX0 : Ext noS G w G w := Ext.refl hP
 refine s_seq (c_reg ?_)
 refine qd rfl rfl rfl (r_assign (v := (.int .i64 0)) rfl) (qd rfl rfl rfl (r_assign (v := (.bool false)) rfl) (qe (s_then (s_seq (c_reg ?_)))))
 refine qd rfl rfl rfl (r_move (v := (.string s)) rfl) (qd rfl rfl rfl (r_assign (v := (.string s)) rfl) (qe (s_then (s_seq (s_seq (c_reg ?_))))))
 refine qd rfl rfl rfl (r_move (v := (.string s)) rfl) (qd rfl rfl rfl (r_lenS Tryz.underlying9 rfl) (qd rfl rfl rfl (r_gtr rfl rfl) (qd rfl rfl rfl (r_move (v := (.bool (decide ((1 : Int) < (s.size : Int))))) rfl) (qbd (p := (1 : Int) < (s.size : Int)) (t := 11) rfl (fun h1 => ?_) (fun h1 => ?_)))))
 refine qdg rfl rfl rfl rfl rfl rfl (r_move (v := (.string s)) rfl) (qdg rfl rfl rfl rfl rfl rfl (r_idxB Tryz.underlying9 rfl rfl (by omega) (by omega)) (qdg rfl rfl rfl rfl rfl rfl (r_eql rfl rfl) (qd rfl rfl rfl (r_pickT (v := (.bool (decide ((((sB s 0).toNat : Int) : Int) = 45)))) rfl rfl) (qe (s_then ?_)))))
 refine c_ifd (p := (((sB s 0).toNat : Int) : Int) = 45) rfl rfl (fun h2 => ?_) (fun h2 => ?_)
 refine c_reg (qd rfl rfl rfl (r_move (v := (.string s)) rfl) ?_)
 have hm3 : (s.extract 1 s.size).size = min s.size s.size - 1 := ByteArray.size_extract
 refine qd rfl rfl rfl (r_cutL Tryz.underlying9 rfl rfl (by omega) (by omega)) (qd rfl rfl rfl (r_assign (v := (.string (s.extract 1 s.size))) rfl) (qe (s_then (s_seq (s_seq (c_reg ?_))))))
 refine qd rfl rfl rfl (r_move (v := (.string (s.extract 1 s.size))) rfl) (qd rfl rfl rfl (r_lenS Tryz.underlying9 rfl) (q1 rfl rfl rfl (o_call (vs := [(.int .i64 ((s.extract 1 s.size).size : Int)), (.int .i64 1), (.int .i64 6)]) Tryz.func36 nm36 rfl rfl rfl ?_)))
 refine Calls.mono (l1InQ_spec hX0.pins) ?_
 rintro _ w5 ⟨G4, rfl, hx6⟩
 refine ⟨_, rfl, ?_⟩
 have hX7 := hX0.tr hx6
 refine qd rfl rfl rfl (r_not rfl) (qe (s_then ?_))
 refine c_ifn rfl rfl (fun h8 => ?_) (fun h8 => ?_)
 replace h8 := of_decide_eq_true h8
 refine wp_skip (s_then (s_seq (c_reg ?_)))
 refine qd rfl rfl rfl (r_assign (v := (.int .i64 0)) rfl) (qe (s_then (s_seq (s_seq (c_reg ?_)))))
 refine qd rfl rfl rfl (r_assign (v := (.int .i64 0)) rfl) (qe (s_then ?_))
 refine s_blk (s_loop (fun (k : Nat) (en : Nat → Value) (W : World) => ∃ (env1 : Nat → Value) (j : Nat) (n9 : Int) (GL1 : Pin), en = (upd (upd (upd (upd env1 0 (.string s)) 4 (.string (s.extract 1 s.size))) 5 (.int .i64 n9)) 6 (.int .i64 (j : Int))) ∧ k = (s.extract 1 s.size).size - j ∧ Ext noS G w GL1 W ∧ Pin.le G4 GL1 ∧ (j ≤ (s.extract 1 s.size).size) ∧ (RdD s (s.extract 1 s.size) j n9) ∧ (0 ≤ n9 ∧ n9 < pw10 j)) _ ⟨_, 0, 0, G4, (packS (x := 6) (packS (x := 5) (packS (x := 4) (pack1 (x := 0) rfl) rfl) rfl) rfl), rfl, hX7, Pin.le_refl _, Nat.zero_le _, (rdd_neg (by omega) h2), (by show (0:Int) ≤ 0 ∧ (0:Int) < 1; omega)⟩ ?_)
 rintro k9 _ w10 ⟨env1, j, n9, GL1, rfl, hk11, hX12, hlek9, hj, hrd, hn9⟩
 have hpj := pw10_le (k := j) (by omega)
 refine s_seq (s_seq (c_reg ?_))
 refine qd rfl rfl rfl (r_move (v := (.int .i64 (j : Int))) rfl) (qd rfl rfl rfl (r_move (v := (.string (s.extract 1 s.size))) rfl) (qd rfl rfl rfl (r_lenS Tryz.underlying9 rfl) (qd rfl rfl rfl (r_lss rfl rfl) (qe (s_then ?_)))))
 refine c_ifd (p := ((j : Int) : Int) < ((s.extract 1 s.size).size : Int)) rfl rfl (fun h13 => ?_) (fun h13 => ?_)
 have hpn := pw10_next (k := j) (by omega)
 refine wp_skip (s_then (s_seq ?_))
 refine s_blk (s_seq (s_seq (c_reg ?_)))
 refine qd rfl rfl rfl (r_move (v := (.string (s.extract 1 s.size))) rfl) (qd rfl rfl rfl (r_move (v := (.int .i64 (j : Int))) rfl) (qd rfl rfl rfl (r_idxB Tryz.underlying9 rfl rfl (by omega) (by omega)) (qd rfl rfl rfl (r_lss rfl rfl) (qd rfl rfl rfl (r_move (v := (.bool (decide ((((sB (s.extract 1 s.size) j).toNat : Int) : Int) < 48)))) rfl) (qbd (p := (((sB (s.extract 1 s.size) j).toNat : Int) : Int) < 48) (t := 32) rfl (fun h14 => ?_) (fun h14 => ?_))))))
 refine qs rfl rfl rfl rfl rfl rfl (qs rfl rfl rfl rfl rfl rfl (qs rfl rfl rfl rfl rfl rfl (qs rfl rfl rfl rfl rfl rfl (qd rfl rfl rfl (r_pickT (v := (.bool true)) rfl rfl) (qe (s_then ?_))))))
 refine c_ifT rfl rfl (s_seq (c_reg ?_))
 refine qd rfl rfl rfl (r_assign (v := (.int .i64 0)) rfl) (qd rfl rfl rfl (r_assign (v := (.bool false)) rfl) (qe (s_then ?_)))
 exact wp_ret (s_ret (c_ret2 (v := (.int .i64 0)) (u := (.bool false)) rfl rfl rfl rfl rfl (⟨_, _, _, rfl, rdd_fail hrd (by omega) (by omega), (fun h => by cases h), hX12⟩)))
 refine qdg rfl rfl rfl rfl rfl rfl (r_move (v := (.string (s.extract 1 s.size))) rfl) (qdg rfl rfl rfl rfl rfl rfl (r_move (v := (.int .i64 (j : Int))) rfl) (qdg rfl rfl rfl rfl rfl rfl (r_idxB Tryz.underlying9 rfl rfl (by omega) (by omega)) (qdg rfl rfl rfl rfl rfl rfl (r_gtr rfl rfl) (qd rfl rfl rfl (r_pickF (v := (.bool (decide ((57 : Int) < ((sB (s.extract 1 s.size) j).toNat : Int))))) rfl rfl) (qe (s_then ?_))))))
 refine c_ifd (p := (57 : Int) < ((sB (s.extract 1 s.size) j).toNat : Int)) rfl rfl (fun h15 => ?_) (fun h15 => ?_)
 refine s_seq (c_reg ?_)
 refine qd rfl rfl rfl (r_assign (v := (.int .i64 0)) rfl) (qd rfl rfl rfl (r_assign (v := (.bool false)) rfl) (qe (s_then ?_)))
 exact wp_ret (s_ret (c_ret2 (v := (.int .i64 0)) (u := (.bool false)) rfl rfl rfl rfl rfl (⟨_, _, _, rfl, rdd_fail hrd (by omega) (by omega), (fun h => by cases h), hX12⟩)))
 refine wp_skip (s_then (c_reg ?_))
 refine qd rfl rfl rfl (r_move (v := (.int .i64 n9)) rfl) (qd rfl rfl rfl (r_mul rfl rfl (by omega)) (qd rfl rfl rfl (r_move (v := (.string (s.extract 1 s.size))) rfl) (qd rfl rfl rfl (r_move (v := (.int .i64 (j : Int))) rfl) (qd rfl rfl rfl (r_idxB Tryz.underlying9 rfl rfl (by omega) (by omega)) (qd rfl rfl rfl (r_sub8 (i := ((sB (s.extract 1 s.size) j).toNat : Int)) (j := 48) rfl rfl (by omega)) (qd rfl rfl rfl (r_conv (j := ((sB (s.extract 1 s.size) j).toNat : Int) - 48) Tryz.underlying5 Tryz.underlying3 rfl (wrapI (by omega))) (qd rfl rfl rfl (r_add rfl rfl (by omega)) (qd rfl rfl rfl (r_assign (v := (.int .i64 ((10 * n9) + (((sB (s.extract 1 s.size) j).toNat : Int) - 48)))) rfl) (qe (s_blkN (s_then (c_reg ?_))))))))))))
 refine qd rfl rfl rfl (r_move (v := (.int .i64 (j : Int))) rfl) (qd rfl rfl rfl (r_add rfl rfl (by omega)) (qd rfl rfl rfl (r_assign (v := (.int .i64 ((j : Int) + 1))) rfl) (qe (s_lopN (⟨_, ?_, _, rfl, _, j + 1, (10 * n9) + (((sB (s.extract 1 s.size) j).toNat : Int) - 48), GL1, (packS (x := 6) (packS (x := 5) (packS (x := 4) (pack1 (x := 0) rfl) rfl) rfl) rfl), rfl, hX12, hlek9, (by omega), (rdd_next hrd (by omega) (by omega) (by omega) (by omega)), (by omega)⟩)))))
 omega
 refine wp_exit (s_thenE (s_lopE (s_blkE (s_then (s_seq (s_seq (c_reg ?_)))))))
 refine qd rfl rfl rfl (r_move (v := (.string (s.extract 1 s.size))) rfl) (qd rfl rfl rfl (r_lenS Tryz.underlying9 rfl) (qd rfl rfl rfl (r_move (v := (.string s)) rfl) (qd rfl rfl rfl (r_lenS Tryz.underlying9 rfl) (qd rfl rfl rfl (r_lss rfl rfl) (qe (s_then ?_))))))
 refine c_ifd (p := (((s.extract 1 s.size).size : Int) : Int) < (s.size : Int)) rfl rfl (fun h16 => ?_) (fun h16 => ?_)
 refine c_reg (qd rfl rfl rfl (r_move (v := (.int .i64 n9)) rfl) (qd rfl rfl rfl (r_neg rfl (by omega)) (qd rfl rfl rfl (r_assign (v := (.int .i64 (-n9))) rfl) (qe (s_then (s_seq (s_seq (c_reg ?_))))))))
 refine qd rfl rfl rfl (r_move (v := (.int .i64 (-n9))) rfl) (q1 rfl rfl rfl (o_call (vs := [(.int .i64 (-n9))]) Tryz.func56 nm56 rfl rfl rfl ?_))
 refine Calls.mono (l1Num_spec (-n9) (by omega) (by omega) hX12.pins) ?_
 rintro _ w18 ⟨G17, rfl, hx19⟩
 refine ⟨_, rfl, ?_⟩
 have hX20 := hX12.tr hx19
 refine qd rfl rfl rfl (r_move (v := (.string s)) rfl) (qd rfl rfl rfl (r_neqS rfl rfl) (qe (s_then ?_)))
 refine c_ifn rfl rfl (fun h21 => ?_) (fun h21 => ?_)
 refine wp_skip (s_then (s_seq (c_reg ?_)))
 refine qd rfl rfl rfl (r_move (v := (.int .i64 (-n9))) rfl) (qd rfl rfl rfl (r_assign (v := (.int .i64 (-n9))) rfl) (qd rfl rfl rfl (r_assign (v := (.bool true)) rfl) (qe (s_then ?_))))
 exact wp_ret (s_ret (c_ret2 (v := (.int .i64 (-n9))) (u := (.bool true)) rfl rfl rfl rfl rfl (⟨_, _, _, rfl, rdd_yes hrd (by omega) (by omega) (fun e9 => by have e8 := congrArg ByteArray.size e9; omega) (by omega) (by omega), (fun _ => ba_of_eq h21), hX20⟩)))
 refine s_seq (c_reg ?_)
 refine qd rfl rfl rfl (r_assign (v := (.int .i64 0)) rfl) (qd rfl rfl rfl (r_assign (v := (.bool false)) rfl) (qe (s_then ?_)))
 exact wp_ret (s_ret (c_ret2 (v := (.int .i64 0)) (u := (.bool false)) rfl rfl rfl rfl rfl (⟨_, _, _, rfl, rdd_no hrd (by omega) (by omega) (fun e9 => by have e8 := congrArg ByteArray.size e9; omega) h21, (fun h => by cases h), hX20⟩)))
 refine wp_skip (s_then (s_seq (s_seq (c_reg ?_))))
 refine qd rfl rfl rfl (r_move (v := (.int .i64 n9)) rfl) (q1 rfl rfl rfl (o_call (vs := [(.int .i64 n9)]) Tryz.func56 nm56 rfl rfl rfl ?_))
 refine Calls.mono (l1Num_spec n9 (by omega) (by omega) hX12.pins) ?_
 rintro _ w23 ⟨G22, rfl, hx24⟩
 refine ⟨_, rfl, ?_⟩
 have hX25 := hX12.tr hx24
 refine qd rfl rfl rfl (r_move (v := (.string s)) rfl) (qd rfl rfl rfl (r_neqS rfl rfl) (qe (s_then ?_)))
 refine c_ifn rfl rfl (fun h26 => ?_) (fun h26 => ?_)
 refine wp_skip (s_then (s_seq (c_reg ?_)))
 refine qd rfl rfl rfl (r_move (v := (.int .i64 n9)) rfl) (qd rfl rfl rfl (r_assign (v := (.int .i64 n9)) rfl) (qd rfl rfl rfl (r_assign (v := (.bool true)) rfl) (qe (s_then ?_))))
 exact wp_ret (s_ret (c_ret2 (v := (.int .i64 n9)) (u := (.bool true)) rfl rfl rfl rfl rfl (⟨_, _, _, rfl, rdd_yes hrd (by omega) (by omega) (fun e9 => by have e8 := congrArg ByteArray.size e9; omega) (by omega) (by omega), (fun _ => ba_of_eq h26), hX25⟩)))
 refine s_seq (c_reg ?_)
 refine qd rfl rfl rfl (r_assign (v := (.int .i64 0)) rfl) (qd rfl rfl rfl (r_assign (v := (.bool false)) rfl) (qe (s_then ?_)))
 exact wp_ret (s_ret (c_ret2 (v := (.int .i64 0)) (u := (.bool false)) rfl rfl rfl rfl rfl (⟨_, _, _, rfl, rdd_no hrd (by omega) (by omega) (fun e9 => by have e8 := congrArg ByteArray.size e9; omega) h26, (fun h => by cases h), hX25⟩)))
 replace h8 := of_decide_eq_false h8
 refine s_seq (c_reg ?_)
 refine qd rfl rfl rfl (r_assign (v := (.int .i64 0)) rfl) (qd rfl rfl rfl (r_assign (v := (.bool false)) rfl) (qe (s_then ?_)))
 exact wp_ret (s_ret (c_ret2 (v := (.int .i64 0)) (u := (.bool false)) rfl rfl rfl rfl rfl (⟨_, _, _, rfl, rdd_len (rdd_neg (T := s.extract 1 s.size) (j := 0) (n := 0) (by omega) h2) (by omega), (fun h => by cases h), hX7⟩)))
 refine wp_skip (s_then (s_seq (s_seq (c_reg ?_))))
 refine qd rfl rfl rfl (r_move (v := (.string s)) rfl) (qd rfl rfl rfl (r_lenS Tryz.underlying9 rfl) (q1 rfl rfl rfl (o_call (vs := [(.int .i64 (s.size : Int)), (.int .i64 1), (.int .i64 6)]) Tryz.func36 nm36 rfl rfl rfl ?_)))
 refine Calls.mono (l1InQ_spec hX0.pins) ?_
 rintro _ w28 ⟨G27, rfl, hx29⟩
 refine ⟨_, rfl, ?_⟩
 have hX30 := hX0.tr hx29
 refine qd rfl rfl rfl (r_not rfl) (qe (s_then ?_))
 refine c_ifn rfl rfl (fun h31 => ?_) (fun h31 => ?_)
 replace h31 := of_decide_eq_true h31
 refine wp_skip (s_then (s_seq (c_reg ?_)))
 refine qd rfl rfl rfl (r_assign (v := (.int .i64 0)) rfl) (qe (s_then (s_seq (s_seq (c_reg ?_)))))
 refine qd rfl rfl rfl (r_assign (v := (.int .i64 0)) rfl) (qe (s_then ?_))
 refine s_blk (s_loop (fun (k : Nat) (en : Nat → Value) (W : World) => ∃ (env1 : Nat → Value) (j : Nat) (n9 : Int) (GL1 : Pin), en = (upd (upd (upd (upd env1 0 (.string s)) 4 (.string s)) 5 (.int .i64 n9)) 6 (.int .i64 (j : Int))) ∧ k = s.size - j ∧ Ext noS G w GL1 W ∧ Pin.le G27 GL1 ∧ (j ≤ s.size) ∧ (RdD s s j n9) ∧ (0 ≤ n9 ∧ n9 < pw10 j)) _ ⟨_, 0, 0, G27, (packS (x := 6) (packS (x := 5) (packS (x := 4) (pack1 (x := 0) rfl) rfl) rfl) rfl), rfl, hX30, Pin.le_refl _, Nat.zero_le _, rdd_zero, (by show (0:Int) ≤ 0 ∧ (0:Int) < 1; omega)⟩ ?_)
 rintro k32 _ w33 ⟨env1, j, n9, GL1, rfl, hk34, hX35, hlek32, hj, hrd, hn9⟩
 have hpj := pw10_le (k := j) (by omega)
 refine s_seq (s_seq (c_reg ?_))
 refine qd rfl rfl rfl (r_move (v := (.int .i64 (j : Int))) rfl) (qd rfl rfl rfl (r_move (v := (.string s)) rfl) (qd rfl rfl rfl (r_lenS Tryz.underlying9 rfl) (qd rfl rfl rfl (r_lss rfl rfl) (qe (s_then ?_)))))
 refine c_ifd (p := ((j : Int) : Int) < (s.size : Int)) rfl rfl (fun h36 => ?_) (fun h36 => ?_)
 have hpn := pw10_next (k := j) (by omega)
 refine wp_skip (s_then (s_seq ?_))
 refine s_blk (s_seq (s_seq (c_reg ?_)))
 refine qd rfl rfl rfl (r_move (v := (.string s)) rfl) (qd rfl rfl rfl (r_move (v := (.int .i64 (j : Int))) rfl) (qd rfl rfl rfl (r_idxB Tryz.underlying9 rfl rfl (by omega) (by omega)) (qd rfl rfl rfl (r_lss rfl rfl) (qd rfl rfl rfl (r_move (v := (.bool (decide ((((sB s j).toNat : Int) : Int) < 48)))) rfl) (qbd (p := (((sB s j).toNat : Int) : Int) < 48) (t := 32) rfl (fun h37 => ?_) (fun h37 => ?_))))))
 refine qs rfl rfl rfl rfl rfl rfl (qs rfl rfl rfl rfl rfl rfl (qs rfl rfl rfl rfl rfl rfl (qs rfl rfl rfl rfl rfl rfl (qd rfl rfl rfl (r_pickT (v := (.bool true)) rfl rfl) (qe (s_then ?_))))))
 refine c_ifT rfl rfl (s_seq (c_reg ?_))
 refine qd rfl rfl rfl (r_assign (v := (.int .i64 0)) rfl) (qd rfl rfl rfl (r_assign (v := (.bool false)) rfl) (qe (s_then ?_)))
 exact wp_ret (s_ret (c_ret2 (v := (.int .i64 0)) (u := (.bool false)) rfl rfl rfl rfl rfl (⟨_, _, _, rfl, rdd_fail hrd (by omega) (by omega), (fun h => by cases h), hX35⟩)))
 refine qdg rfl rfl rfl rfl rfl rfl (r_move (v := (.string s)) rfl) (qdg rfl rfl rfl rfl rfl rfl (r_move (v := (.int .i64 (j : Int))) rfl) (qdg rfl rfl rfl rfl rfl rfl (r_idxB Tryz.underlying9 rfl rfl (by omega) (by omega)) (qdg rfl rfl rfl rfl rfl rfl (r_gtr rfl rfl) (qd rfl rfl rfl (r_pickF (v := (.bool (decide ((57 : Int) < ((sB s j).toNat : Int))))) rfl rfl) (qe (s_then ?_))))))
 refine c_ifd (p := (57 : Int) < ((sB s j).toNat : Int)) rfl rfl (fun h38 => ?_) (fun h38 => ?_)
 refine s_seq (c_reg ?_)
 refine qd rfl rfl rfl (r_assign (v := (.int .i64 0)) rfl) (qd rfl rfl rfl (r_assign (v := (.bool false)) rfl) (qe (s_then ?_)))
 exact wp_ret (s_ret (c_ret2 (v := (.int .i64 0)) (u := (.bool false)) rfl rfl rfl rfl rfl (⟨_, _, _, rfl, rdd_fail hrd (by omega) (by omega), (fun h => by cases h), hX35⟩)))
 refine wp_skip (s_then (c_reg ?_))
 refine qd rfl rfl rfl (r_move (v := (.int .i64 n9)) rfl) (qd rfl rfl rfl (r_mul rfl rfl (by omega)) (qd rfl rfl rfl (r_move (v := (.string s)) rfl) (qd rfl rfl rfl (r_move (v := (.int .i64 (j : Int))) rfl) (qd rfl rfl rfl (r_idxB Tryz.underlying9 rfl rfl (by omega) (by omega)) (qd rfl rfl rfl (r_sub8 (i := ((sB s j).toNat : Int)) (j := 48) rfl rfl (by omega)) (qd rfl rfl rfl (r_conv (j := ((sB s j).toNat : Int) - 48) Tryz.underlying5 Tryz.underlying3 rfl (wrapI (by omega))) (qd rfl rfl rfl (r_add rfl rfl (by omega)) (qd rfl rfl rfl (r_assign (v := (.int .i64 ((10 * n9) + (((sB s j).toNat : Int) - 48)))) rfl) (qe (s_blkN (s_then (c_reg ?_))))))))))))
 refine qd rfl rfl rfl (r_move (v := (.int .i64 (j : Int))) rfl) (qd rfl rfl rfl (r_add rfl rfl (by omega)) (qd rfl rfl rfl (r_assign (v := (.int .i64 ((j : Int) + 1))) rfl) (qe (s_lopN (⟨_, ?_, _, rfl, _, j + 1, (10 * n9) + (((sB s j).toNat : Int) - 48), GL1, (packS (x := 6) (packS (x := 5) (packS (x := 4) (pack1 (x := 0) rfl) rfl) rfl) rfl), rfl, hX35, hlek32, (by omega), (rdd_next hrd (by omega) (by omega) (by omega) (by omega)), (by omega)⟩)))))
 omega
 refine wp_exit (s_thenE (s_lopE (s_blkE (s_then (s_seq (s_seq (c_reg ?_)))))))
 refine qd rfl rfl rfl (r_move (v := (.string s)) rfl) (qd rfl rfl rfl (r_lenS Tryz.underlying9 rfl) (qd rfl rfl rfl (r_move (v := (.string s)) rfl) (qd rfl rfl rfl (r_lenS Tryz.underlying9 rfl) (qd rfl rfl rfl (r_lss rfl rfl) (qe (s_then ?_))))))
 refine c_ifd (p := ((s.size : Int) : Int) < (s.size : Int)) rfl rfl (fun h39 => ?_) (fun h39 => ?_)
 refine c_reg (qd rfl rfl rfl (r_move (v := (.int .i64 n9)) rfl) (qd rfl rfl rfl (r_neg rfl (by omega)) (qd rfl rfl rfl (r_assign (v := (.int .i64 (-n9))) rfl) (qe (s_then (s_seq (s_seq (c_reg ?_))))))))
 refine qd rfl rfl rfl (r_move (v := (.int .i64 (-n9))) rfl) (q1 rfl rfl rfl (o_call (vs := [(.int .i64 (-n9))]) Tryz.func56 nm56 rfl rfl rfl ?_))
 refine Calls.mono (l1Num_spec (-n9) (by omega) (by omega) hX35.pins) ?_
 rintro _ w41 ⟨G40, rfl, hx42⟩
 refine ⟨_, rfl, ?_⟩
 have hX43 := hX35.tr hx42
 refine qd rfl rfl rfl (r_move (v := (.string s)) rfl) (qd rfl rfl rfl (r_neqS rfl rfl) (qe (s_then ?_)))
 refine c_ifn rfl rfl (fun h44 => ?_) (fun h44 => ?_)
 refine wp_skip (s_then (s_seq (c_reg ?_)))
 refine qd rfl rfl rfl (r_move (v := (.int .i64 (-n9))) rfl) (qd rfl rfl rfl (r_assign (v := (.int .i64 (-n9))) rfl) (qd rfl rfl rfl (r_assign (v := (.bool true)) rfl) (qe (s_then ?_))))
 exact wp_ret (s_ret (c_ret2 (v := (.int .i64 (-n9))) (u := (.bool true)) rfl rfl rfl rfl rfl (⟨_, _, _, rfl, rdd_yes hrd (by omega) (by omega) (fun e9 => by have e8 := congrArg ByteArray.size e9; omega) (by omega) (by omega), (fun _ => ba_of_eq h44), hX43⟩)))
 refine s_seq (c_reg ?_)
 refine qd rfl rfl rfl (r_assign (v := (.int .i64 0)) rfl) (qd rfl rfl rfl (r_assign (v := (.bool false)) rfl) (qe (s_then ?_)))
 exact wp_ret (s_ret (c_ret2 (v := (.int .i64 0)) (u := (.bool false)) rfl rfl rfl rfl rfl (⟨_, _, _, rfl, rdd_no hrd (by omega) (by omega) (fun e9 => by have e8 := congrArg ByteArray.size e9; omega) h44, (fun h => by cases h), hX43⟩)))
 refine wp_skip (s_then (s_seq (s_seq (c_reg ?_))))
 refine qd rfl rfl rfl (r_move (v := (.int .i64 n9)) rfl) (q1 rfl rfl rfl (o_call (vs := [(.int .i64 n9)]) Tryz.func56 nm56 rfl rfl rfl ?_))
 refine Calls.mono (l1Num_spec n9 (by omega) (by omega) hX35.pins) ?_
 rintro _ w46 ⟨G45, rfl, hx47⟩
 refine ⟨_, rfl, ?_⟩
 have hX48 := hX35.tr hx47
 refine qd rfl rfl rfl (r_move (v := (.string s)) rfl) (qd rfl rfl rfl (r_neqS rfl rfl) (qe (s_then ?_)))
 refine c_ifn rfl rfl (fun h49 => ?_) (fun h49 => ?_)
 refine wp_skip (s_then (s_seq (c_reg ?_)))
 refine qd rfl rfl rfl (r_move (v := (.int .i64 n9)) rfl) (qd rfl rfl rfl (r_assign (v := (.int .i64 n9)) rfl) (qd rfl rfl rfl (r_assign (v := (.bool true)) rfl) (qe (s_then ?_))))
 exact wp_ret (s_ret (c_ret2 (v := (.int .i64 n9)) (u := (.bool true)) rfl rfl rfl rfl rfl (⟨_, _, _, rfl, rdd_yes hrd (by omega) (by omega) (fun e9 => by have e8 := congrArg ByteArray.size e9; omega) (by omega) (by omega), (fun _ => ba_of_eq h49), hX48⟩)))
 refine s_seq (c_reg ?_)
 refine qd rfl rfl rfl (r_assign (v := (.int .i64 0)) rfl) (qd rfl rfl rfl (r_assign (v := (.bool false)) rfl) (qe (s_then ?_)))
 exact wp_ret (s_ret (c_ret2 (v := (.int .i64 0)) (u := (.bool false)) rfl rfl rfl rfl rfl (⟨_, _, _, rfl, rdd_no hrd (by omega) (by omega) (fun e9 => by have e8 := congrArg ByteArray.size e9; omega) h49, (fun h => by cases h), hX48⟩)))
 replace h31 := of_decide_eq_false h31
 refine s_seq (c_reg ?_)
 refine qd rfl rfl rfl (r_assign (v := (.int .i64 0)) rfl) (qd rfl rfl rfl (r_assign (v := (.bool false)) rfl) (qe (s_then ?_)))
 exact wp_ret (s_ret (c_ret2 (v := (.int .i64 0)) (u := (.bool false)) rfl rfl rfl rfl rfl (⟨_, _, _, rfl, rdd_len rdd_zero (by omega), (fun h => by cases h), hX30⟩)))
 refine qs rfl rfl rfl rfl rfl rfl (qs rfl rfl rfl rfl rfl rfl (qs rfl rfl rfl rfl rfl rfl (qd rfl rfl rfl (r_pickF (v := (.bool false)) rfl rfl) (qe (s_then ?_)))))
 refine c_ifF rfl rfl (wp_skip (s_then (s_seq (s_seq (c_reg ?_)))))
 refine qd rfl rfl rfl (r_move (v := (.string s)) rfl) (qd rfl rfl rfl (r_lenS Tryz.underlying9 rfl) (q1 rfl rfl rfl (o_call (vs := [(.int .i64 (s.size : Int)), (.int .i64 1), (.int .i64 6)]) Tryz.func36 nm36 rfl rfl rfl ?_)))
 refine Calls.mono (l1InQ_spec hX0.pins) ?_
 rintro _ w51 ⟨G50, rfl, hx52⟩
 refine ⟨_, rfl, ?_⟩
 have hX53 := hX0.tr hx52
 refine qd rfl rfl rfl (r_not rfl) (qe (s_then ?_))
 refine c_ifn rfl rfl (fun h54 => ?_) (fun h54 => ?_)
 replace h54 := of_decide_eq_true h54
 refine wp_skip (s_then (s_seq (c_reg ?_)))
 refine qd rfl rfl rfl (r_assign (v := (.int .i64 0)) rfl) (qe (s_then (s_seq (s_seq (c_reg ?_)))))
 refine qd rfl rfl rfl (r_assign (v := (.int .i64 0)) rfl) (qe (s_then ?_))
 refine s_blk (s_loop (fun (k : Nat) (en : Nat → Value) (W : World) => ∃ (env1 : Nat → Value) (j : Nat) (n9 : Int) (GL1 : Pin), en = (upd (upd (upd (upd env1 0 (.string s)) 4 (.string s)) 5 (.int .i64 n9)) 6 (.int .i64 (j : Int))) ∧ k = s.size - j ∧ Ext noS G w GL1 W ∧ Pin.le G50 GL1 ∧ (j ≤ s.size) ∧ (RdD s s j n9) ∧ (0 ≤ n9 ∧ n9 < pw10 j)) _ ⟨_, 0, 0, G50, (packS (x := 6) (packS (x := 5) (packS (x := 4) (pack1 (x := 0) rfl) rfl) rfl) rfl), rfl, hX53, Pin.le_refl _, Nat.zero_le _, rdd_zero, (by show (0:Int) ≤ 0 ∧ (0:Int) < 1; omega)⟩ ?_)
 rintro k55 _ w56 ⟨env1, j, n9, GL1, rfl, hk57, hX58, hlek55, hj, hrd, hn9⟩
 have hpj := pw10_le (k := j) (by omega)
 refine s_seq (s_seq (c_reg ?_))
 refine qd rfl rfl rfl (r_move (v := (.int .i64 (j : Int))) rfl) (qd rfl rfl rfl (r_move (v := (.string s)) rfl) (qd rfl rfl rfl (r_lenS Tryz.underlying9 rfl) (qd rfl rfl rfl (r_lss rfl rfl) (qe (s_then ?_)))))
 refine c_ifd (p := ((j : Int) : Int) < (s.size : Int)) rfl rfl (fun h59 => ?_) (fun h59 => ?_)
 have hpn := pw10_next (k := j) (by omega)
 refine wp_skip (s_then (s_seq ?_))
 refine s_blk (s_seq (s_seq (c_reg ?_)))
 refine qd rfl rfl rfl (r_move (v := (.string s)) rfl) (qd rfl rfl rfl (r_move (v := (.int .i64 (j : Int))) rfl) (qd rfl rfl rfl (r_idxB Tryz.underlying9 rfl rfl (by omega) (by omega)) (qd rfl rfl rfl (r_lss rfl rfl) (qd rfl rfl rfl (r_move (v := (.bool (decide ((((sB s j).toNat : Int) : Int) < 48)))) rfl) (qbd (p := (((sB s j).toNat : Int) : Int) < 48) (t := 32) rfl (fun h60 => ?_) (fun h60 => ?_))))))
 refine qs rfl rfl rfl rfl rfl rfl (qs rfl rfl rfl rfl rfl rfl (qs rfl rfl rfl rfl rfl rfl (qs rfl rfl rfl rfl rfl rfl (qd rfl rfl rfl (r_pickT (v := (.bool true)) rfl rfl) (qe (s_then ?_))))))
 refine c_ifT rfl rfl (s_seq (c_reg ?_))
 refine qd rfl rfl rfl (r_assign (v := (.int .i64 0)) rfl) (qd rfl rfl rfl (r_assign (v := (.bool false)) rfl) (qe (s_then ?_)))
 exact wp_ret (s_ret (c_ret2 (v := (.int .i64 0)) (u := (.bool false)) rfl rfl rfl rfl rfl (⟨_, _, _, rfl, rdd_fail hrd (by omega) (by omega), (fun h => by cases h), hX58⟩)))
 refine qdg rfl rfl rfl rfl rfl rfl (r_move (v := (.string s)) rfl) (qdg rfl rfl rfl rfl rfl rfl (r_move (v := (.int .i64 (j : Int))) rfl) (qdg rfl rfl rfl rfl rfl rfl (r_idxB Tryz.underlying9 rfl rfl (by omega) (by omega)) (qdg rfl rfl rfl rfl rfl rfl (r_gtr rfl rfl) (qd rfl rfl rfl (r_pickF (v := (.bool (decide ((57 : Int) < ((sB s j).toNat : Int))))) rfl rfl) (qe (s_then ?_))))))
 refine c_ifd (p := (57 : Int) < ((sB s j).toNat : Int)) rfl rfl (fun h61 => ?_) (fun h61 => ?_)
 refine s_seq (c_reg ?_)
 refine qd rfl rfl rfl (r_assign (v := (.int .i64 0)) rfl) (qd rfl rfl rfl (r_assign (v := (.bool false)) rfl) (qe (s_then ?_)))
 exact wp_ret (s_ret (c_ret2 (v := (.int .i64 0)) (u := (.bool false)) rfl rfl rfl rfl rfl (⟨_, _, _, rfl, rdd_fail hrd (by omega) (by omega), (fun h => by cases h), hX58⟩)))
 refine wp_skip (s_then (c_reg ?_))
 refine qd rfl rfl rfl (r_move (v := (.int .i64 n9)) rfl) (qd rfl rfl rfl (r_mul rfl rfl (by omega)) (qd rfl rfl rfl (r_move (v := (.string s)) rfl) (qd rfl rfl rfl (r_move (v := (.int .i64 (j : Int))) rfl) (qd rfl rfl rfl (r_idxB Tryz.underlying9 rfl rfl (by omega) (by omega)) (qd rfl rfl rfl (r_sub8 (i := ((sB s j).toNat : Int)) (j := 48) rfl rfl (by omega)) (qd rfl rfl rfl (r_conv (j := ((sB s j).toNat : Int) - 48) Tryz.underlying5 Tryz.underlying3 rfl (wrapI (by omega))) (qd rfl rfl rfl (r_add rfl rfl (by omega)) (qd rfl rfl rfl (r_assign (v := (.int .i64 ((10 * n9) + (((sB s j).toNat : Int) - 48)))) rfl) (qe (s_blkN (s_then (c_reg ?_))))))))))))
 refine qd rfl rfl rfl (r_move (v := (.int .i64 (j : Int))) rfl) (qd rfl rfl rfl (r_add rfl rfl (by omega)) (qd rfl rfl rfl (r_assign (v := (.int .i64 ((j : Int) + 1))) rfl) (qe (s_lopN (⟨_, ?_, _, rfl, _, j + 1, (10 * n9) + (((sB s j).toNat : Int) - 48), GL1, (packS (x := 6) (packS (x := 5) (packS (x := 4) (pack1 (x := 0) rfl) rfl) rfl) rfl), rfl, hX58, hlek55, (by omega), (rdd_next hrd (by omega) (by omega) (by omega) (by omega)), (by omega)⟩)))))
 omega
 refine wp_exit (s_thenE (s_lopE (s_blkE (s_then (s_seq (s_seq (c_reg ?_)))))))
 refine qd rfl rfl rfl (r_move (v := (.string s)) rfl) (qd rfl rfl rfl (r_lenS Tryz.underlying9 rfl) (qd rfl rfl rfl (r_move (v := (.string s)) rfl) (qd rfl rfl rfl (r_lenS Tryz.underlying9 rfl) (qd rfl rfl rfl (r_lss rfl rfl) (qe (s_then ?_))))))
 refine c_ifd (p := ((s.size : Int) : Int) < (s.size : Int)) rfl rfl (fun h62 => ?_) (fun h62 => ?_)
 refine c_reg (qd rfl rfl rfl (r_move (v := (.int .i64 n9)) rfl) (qd rfl rfl rfl (r_neg rfl (by omega)) (qd rfl rfl rfl (r_assign (v := (.int .i64 (-n9))) rfl) (qe (s_then (s_seq (s_seq (c_reg ?_))))))))
 refine qd rfl rfl rfl (r_move (v := (.int .i64 (-n9))) rfl) (q1 rfl rfl rfl (o_call (vs := [(.int .i64 (-n9))]) Tryz.func56 nm56 rfl rfl rfl ?_))
 refine Calls.mono (l1Num_spec (-n9) (by omega) (by omega) hX58.pins) ?_
 rintro _ w64 ⟨G63, rfl, hx65⟩
 refine ⟨_, rfl, ?_⟩
 have hX66 := hX58.tr hx65
 refine qd rfl rfl rfl (r_move (v := (.string s)) rfl) (qd rfl rfl rfl (r_neqS rfl rfl) (qe (s_then ?_)))
 refine c_ifn rfl rfl (fun h67 => ?_) (fun h67 => ?_)
 refine wp_skip (s_then (s_seq (c_reg ?_)))
 refine qd rfl rfl rfl (r_move (v := (.int .i64 (-n9))) rfl) (qd rfl rfl rfl (r_assign (v := (.int .i64 (-n9))) rfl) (qd rfl rfl rfl (r_assign (v := (.bool true)) rfl) (qe (s_then ?_))))
 exact wp_ret (s_ret (c_ret2 (v := (.int .i64 (-n9))) (u := (.bool true)) rfl rfl rfl rfl rfl (⟨_, _, _, rfl, rdd_yes hrd (by omega) (by omega) (fun e9 => by have e8 := congrArg ByteArray.size e9; omega) (by omega) (by omega), (fun _ => ba_of_eq h67), hX66⟩)))
 refine s_seq (c_reg ?_)
 refine qd rfl rfl rfl (r_assign (v := (.int .i64 0)) rfl) (qd rfl rfl rfl (r_assign (v := (.bool false)) rfl) (qe (s_then ?_)))
 exact wp_ret (s_ret (c_ret2 (v := (.int .i64 0)) (u := (.bool false)) rfl rfl rfl rfl rfl (⟨_, _, _, rfl, rdd_no hrd (by omega) (by omega) (fun e9 => by have e8 := congrArg ByteArray.size e9; omega) h67, (fun h => by cases h), hX66⟩)))
 refine wp_skip (s_then (s_seq (s_seq (c_reg ?_))))
 refine qd rfl rfl rfl (r_move (v := (.int .i64 n9)) rfl) (q1 rfl rfl rfl (o_call (vs := [(.int .i64 n9)]) Tryz.func56 nm56 rfl rfl rfl ?_))
 refine Calls.mono (l1Num_spec n9 (by omega) (by omega) hX58.pins) ?_
 rintro _ w69 ⟨G68, rfl, hx70⟩
 refine ⟨_, rfl, ?_⟩
 have hX71 := hX58.tr hx70
 refine qd rfl rfl rfl (r_move (v := (.string s)) rfl) (qd rfl rfl rfl (r_neqS rfl rfl) (qe (s_then ?_)))
 refine c_ifn rfl rfl (fun h72 => ?_) (fun h72 => ?_)
 refine wp_skip (s_then (s_seq (c_reg ?_)))
 refine qd rfl rfl rfl (r_move (v := (.int .i64 n9)) rfl) (qd rfl rfl rfl (r_assign (v := (.int .i64 n9)) rfl) (qd rfl rfl rfl (r_assign (v := (.bool true)) rfl) (qe (s_then ?_))))
 exact wp_ret (s_ret (c_ret2 (v := (.int .i64 n9)) (u := (.bool true)) rfl rfl rfl rfl rfl (⟨_, _, _, rfl, rdd_yes hrd (by omega) (by omega) (fun e9 => by have e8 := congrArg ByteArray.size e9; omega) (by omega) (by omega), (fun _ => ba_of_eq h72), hX71⟩)))
 refine s_seq (c_reg ?_)
 refine qd rfl rfl rfl (r_assign (v := (.int .i64 0)) rfl) (qd rfl rfl rfl (r_assign (v := (.bool false)) rfl) (qe (s_then ?_)))
 exact wp_ret (s_ret (c_ret2 (v := (.int .i64 0)) (u := (.bool false)) rfl rfl rfl rfl rfl (⟨_, _, _, rfl, rdd_no hrd (by omega) (by omega) (fun e9 => by have e8 := congrArg ByteArray.size e9; omega) h72, (fun h => by cases h), hX71⟩)))
 replace h54 := of_decide_eq_false h54
 refine s_seq (c_reg ?_)
 refine qd rfl rfl rfl (r_assign (v := (.int .i64 0)) rfl) (qd rfl rfl rfl (r_assign (v := (.bool false)) rfl) (qe (s_then ?_)))
 exact wp_ret (s_ret (c_ret2 (v := (.int .i64 0)) (u := (.bool false)) rfl rfl rfl rfl rfl (⟨_, _, _, rfl, rdd_len rdd_zero (by omega), (fun h => by cases h), hX53⟩)))

theorem l24Single_spec {w : World} {G : Pin} {s : ByteArray} (hP : Pins G w) (hs : s.size ≤ 1048576) :
  Calls Tryz.prog 20 [(.string s)].toArray w fun e w' => ∃ G', e = .returned (.bool (sgB s)) ∧ Ext noS G w G' w' := by
 refine s_enter (n := 57) Tryz.func20 Tryz.ntmps20 rfl rfl ?_
 have hX0 : Ext noS G w G w := Ext.refl hP
 refine s_seq (c_reg ?_)
 refine qd rfl rfl rfl (r_assign (v := (.bool false)) rfl) (qe (s_then (s_seq (c_reg ?_))))
 refine qd rfl rfl rfl (r_move (v := (.string s)) rfl) (q1 rfl rfl rfl (o_call (vs := [(.string s)]) Tryz.func30 nm30 rfl rfl rfl ?_))
 refine Calls.mono (l24Cut_spec (s := s) hX0.pins (by omega)) ?_
 rintro _ w2 ⟨G1, rfl, hx3⟩
 refine ⟨_, rfl, ?_⟩
 have hX4 := hX0.tr hx3
 have hm5 := tl_size s
 have hm6 := kd_rng s
 refine qd rfl rfl rfl (r_move (v := (.tuple #[(.int .i64 (kdI s)), (.string (tlB s))])) rfl) (qd rfl rfl rfl (r_extract (v := (.int .i64 (kdI s))) rfl rfl) (qd rfl rfl rfl (r_extract (v := (.string (tlB s))) rfl rfl) (qd rfl rfl rfl (r_assign (v := (.int .i64 (kdI s))) rfl) (qd rfl rfl rfl (r_assign (v := (.string (tlB s))) rfl) (qe (s_then (s_seq ?_)))))))
 refine s_blk (s_seq (c_reg ?_))
 refine qd rfl rfl rfl (r_move (v := (.int .i64 (kdI s))) rfl) (qd rfl rfl rfl (r_lss rfl rfl) (qd rfl rfl rfl (r_assign (v := (.bool (decide ((kdI s : Int) < 0)))) rfl) (qe (s_then ?_))))
 refine c_ifd (p := (kdI s : Int) < 0) rfl rfl (fun h7 => ?_) (fun h7 => ?_)
 refine s_seq (c_reg ?_)
 refine qd rfl rfl rfl (r_assign (v := (.bool false)) rfl) (qe (s_then ?_))
 exact wp_ret (s_ret (c_ret1 (v := (.bool false)) rfl rfl rfl (⟨_, congrArg (fun z => Ending.returned (Value.bool z)) (sgB_n (by omega)), hX4⟩)))
 refine s_seq (c_reg ?_)
 refine qd rfl rfl rfl (r_move (v := (.int .i64 (kdI s))) rfl) (qd rfl rfl rfl (r_leq rfl rfl) (qd rfl rfl rfl (r_assign (v := (.bool (decide ((kdI s : Int) ≤ 3)))) rfl) (qe (s_then ?_))))
 refine c_ifd (p := (kdI s : Int) ≤ 3) rfl rfl (fun h8 => ?_) (fun h8 => ?_)
 refine s_seq (c_reg ?_)
 refine qd rfl rfl rfl (r_move (v := (.int .i64 (kdI s))) rfl) (qd rfl rfl rfl (r_move (v := (.string (tlB s))) rfl) (q1 rfl rfl rfl (o_call (vs := [(.int .i64 (kdI s)), (.string (tlB s))]) Tryz.func31 nm31 rfl rfl rfl ?_)))
 refine Calls.mono (sGoodStrip_spec (kd := (kdI s)) (s := (tlB s)) hX4.pins) ?_
 rintro _ w10 ⟨G9, rfl, hx11⟩
 refine ⟨_, rfl, ?_⟩
 have hX12 := hX4.tr hx11
 refine qd rfl rfl rfl (r_move (v := (.bool (gsB (kdI s) (tlB s)))) rfl) (qb (t := 23) rfl (fun h13 => ?_) (fun h13 => ?_))
 refine qdg rfl rfl rfl rfl rfl rfl (r_move (v := (.string (tlB s))) rfl) (qdg rfl rfl rfl rfl rfl rfl (r_lenS Tryz.underlying9 rfl) (qdg rfl rfl rfl rfl rfl rfl (r_leq rfl rfl) (qd rfl rfl rfl (r_pickT (v := (.bool (decide ((((tlB s).size : Int) : Int) ≤ 7)))) rfl rfl) (qd rfl rfl rfl (r_assign (v := (.bool (decide ((((tlB s).size : Int) : Int) ≤ 7)))) rfl) (qe (s_then ?_))))))
 exact wp_ret (s_ret (c_ret1 (v := (.bool (decide ((((tlB s).size : Int) : Int) ≤ 7)))) rfl rfl rfl (⟨_, congrArg (fun z => Ending.returned (Value.bool z)) (sg_t (by omega) (by rw [agk_3 (by omega) (by omega), h13]; try rfl)), hX12⟩)))
 refine qs rfl rfl rfl rfl rfl rfl (qs rfl rfl rfl rfl rfl rfl (qs rfl rfl rfl rfl rfl rfl (qd rfl rfl rfl (r_pickF (v := (.bool false)) rfl rfl) (qd rfl rfl rfl (r_assign (v := (.bool false)) rfl) (qe (s_then ?_))))))
 exact wp_ret (s_ret (c_ret1 (v := (.bool false)) rfl rfl rfl (⟨_, congrArg (fun z => Ending.returned (Value.bool z)) (sg_t (by omega) (by rw [agk_3 (by omega) (by omega), h13]; try rfl)), hX12⟩)))
 refine s_seq (c_reg ?_)
 refine qd rfl rfl rfl (r_move (v := (.int .i64 (kdI s))) rfl) (qd rfl rfl rfl (r_eql rfl rfl) (qd rfl rfl rfl (r_assign (v := (.bool (decide ((kdI s : Int) = 4)))) rfl) (qe (s_then ?_))))
 refine c_ifd (p := (kdI s : Int) = 4) rfl rfl (fun h14 => ?_) (fun h14 => ?_)
 refine s_seq (c_reg ?_)
 refine qd rfl rfl rfl (r_move (v := (.string (tlB s))) rfl) (q1 rfl rfl rfl (o_call (vs := [(.string (tlB s))]) Tryz.func32 nm32 rfl rfl rfl ?_))
 refine Calls.mono (sReadBoard_spec (t := (tlB s)) hX4.pins (by omega)) ?_
 rintro _ w17 ⟨u15, G16, rfl, hr18, hx19⟩
 refine ⟨_, rfl, ?_⟩
 have hX20 := hX4.tr hx19
 refine qd rfl rfl rfl (r_move (v := (.tuple #[(.agg [u15].toArray), (.bool (rdB9 (tlB s)))])) rfl) (qd rfl rfl rfl (r_extract (v := (.agg [u15].toArray)) rfl rfl) (qd rfl rfl rfl (r_extract (v := (.bool (rdB9 (tlB s)))) rfl rfl) (q1 rfl rfl rfl (o_alloc [(.slice none 0 0)] zr56 rfl hX20.pins (fun b21 w22 hk23 hb24 hp25 hl26 => ?_)))))
 have hX27 := hX20.step hp25 hl26
 have hlo28 : w.heap.size ≤ b21 := by have := hX20.size; omega
 refine q0 rfl rfl rfl (o_stp (cs' := [u15]) (us := [u15]) (v := (.agg [u15].toArray)) sz56 rfl rfl rfl (ones1 hr18.one) hX27.pins hb24 (Nat.le_of_ble_eq_true rfl) rfl (fun w29 hb30 hp31 hg32 hz33 => ?_))
 have hX34 := hX27.write hp31 hg32 ((lo_box hlo28))
 obtain ⟨G35, hle36, hX37, hbp38, hf39⟩ := hb30.shut hX34 hlo28
 refine qd rfl rfl rfl (r_assign (v := (.bool (rdB9 (tlB s)))) rfl) (qe (s_then (s_seq (c_reg ?_))))
 refine qd rfl rfl rfl (r_move (v := (.bool (rdB9 (tlB s)))) rfl) (qd rfl rfl rfl (r_move (v := (.bool (rdB9 (tlB s)))) rfl) (qb (t := 37) rfl (fun h40 => ?_) (fun h40 => ?_)))
 have hr41 := hr18
 rw [rdF_yes h40] at hr41
 refine qdg rfl rfl rfl rfl rfl rfl (r_ldpA (cs := [u15]) ag56 sz56 rfl (fun j u hj => hX37.pins _ _ _ (hbp38 _ _ (by simpa using hj)))) (q1g rfl rfl rfl rfl rfl rfl (o_call (vs := [(.agg [u15].toArray)]) Tryz.func33 nm33 rfl rfl rfl ?_))
 refine Calls.mono (l21Free_spec hX37.pins (hr41.mono hle36) (rd_gb h40)) ?_
 rintro _ w43 ⟨G42, rfl, hx44⟩
 refine ⟨_, rfl, ?_⟩
 have hX45 := hX37.tr hx44
 refine qdg rfl rfl rfl rfl rfl rfl (r_leq rfl rfl) (qd rfl rfl rfl (r_pickT (v := (.bool (decide ((((frN (cellsM (partsB 47 (tlB s))) (partsB 47 (tlB s)).length : Nat) : Int) : Int) ≤ 9)))) rfl rfl) (qd rfl rfl rfl (r_assign (v := (.bool (decide ((((frN (cellsM (partsB 47 (tlB s))) (partsB 47 (tlB s)).length : Nat) : Int) : Int) ≤ 9)))) rfl) (qe (s_then ?_))))
 exact wp_ret (s_ret (c_ret1 (v := (.bool (decide ((((frN (cellsM (partsB 47 (tlB s))) (partsB 47 (tlB s)).length : Nat) : Int) : Int) ≤ 9)))) rfl rfl rfl (⟨_, congrArg (fun z => Ending.returned (Value.bool z)) (sg_t (by omega) (agk_4 (by omega) h40)), hX45⟩)))
 refine qs rfl rfl rfl rfl rfl rfl (qs rfl rfl rfl rfl rfl rfl (qs rfl rfl rfl rfl rfl rfl (qd rfl rfl rfl (r_pickF (v := (.bool false)) rfl rfl) (qd rfl rfl rfl (r_assign (v := (.bool false)) rfl) (qe (s_then ?_))))))
 exact wp_ret (s_ret (c_ret1 (v := (.bool false)) rfl rfl rfl (⟨_, congrArg (fun z => Ending.returned (Value.bool z)) (sg_t (by omega) (agk_4n (by omega) h40)), hX37⟩)))
 refine s_seq (c_reg ?_)
 refine qd rfl rfl rfl (r_move (v := (.int .i64 (kdI s))) rfl) (qd rfl rfl rfl (r_eql rfl rfl) (qd rfl rfl rfl (r_assign (v := (.bool (decide ((kdI s : Int) = 5)))) rfl) (qe (s_then ?_))))
 refine c_ifd (p := (kdI s : Int) = 5) rfl rfl (fun h46 => ?_) (fun h46 => ?_)
 refine s_seq (c_reg ?_)
 refine qd rfl rfl rfl (r_move (v := (.string (tlB s))) rfl) (q1 rfl rfl rfl (o_call (vs := [(.string (tlB s)), (.int .i64 8)]) Tryz.func34 nm34 rfl rfl rfl ?_))
 refine Calls.mono (l22Signs_spec (s := (tlB s)) (m := 8) hX4.pins (by omega)) ?_
 rintro _ w48 ⟨G47, rfl, hx49⟩
 refine ⟨_, rfl, ?_⟩
 have hX50 := hX4.tr hx49
 refine qd rfl rfl rfl (r_assign (v := (.bool (decP (SmP (tlB s) 8)))) rfl) (qe (s_then ?_))
 exact wp_ret (s_ret (c_ret1 (v := (.bool (decP (SmP (tlB s) 8)))) rfl rfl rfl (⟨_, congrArg (fun z => Ending.returned (Value.bool z)) (sg_t (by omega) (agk_5 (by omega))), hX50⟩)))
 refine wp_skip (s_blkN (s_then (s_seq (c_reg ?_))))
 refine qd rfl rfl rfl (r_move (v := (.string (tlB s))) rfl) (q1 rfl rfl rfl (o_call (vs := [(.string (tlB s))]) Tryz.func35 nm35 rfl rfl rfl ?_))
 refine Calls.mono (l1ReadX_spec (s := (tlB s)) hX4.pins (by omega)) ?_
 rintro _ w54 ⟨n51, ok52, G53, rfl, hrn55, hre56, hx57⟩
 refine ⟨_, rfl, ?_⟩
 have hX58 := hX4.tr hx57
 have hm59 := hrn55.lo
 have hm60 := hrn55.hi
 refine qd rfl rfl rfl (r_move (v := (.tuple #[(.int .i64 n51), (.bool ok52)])) rfl) (qd rfl rfl rfl (r_extract (v := (.int .i64 n51)) rfl rfl) (qd rfl rfl rfl (r_extract (v := (.bool ok52)) rfl rfl) (qd rfl rfl rfl (r_assign (v := (.int .i64 n51)) rfl) (qd rfl rfl rfl (r_assign (v := (.bool ok52)) rfl) (qe (s_then (s_seq (c_reg ?_))))))))
 refine qd rfl rfl rfl (r_move (v := (.bool ok52)) rfl) (qd rfl rfl rfl (r_move (v := (.bool ok52)) rfl) (qb (t := 53) rfl (fun h61 => ?_) (fun h61 => ?_)))
 refine qdg rfl rfl rfl rfl rfl rfl (r_move (v := (.int .i64 n51)) rfl) (q1g rfl rfl rfl rfl rfl rfl (o_call (vs := [(.int .i64 n51), (.int .i64 0), (.int .i64 7)]) Tryz.func36 nm36 rfl rfl rfl ?_))
 refine Calls.mono (l1InQ_spec hX58.pins) ?_
 rintro _ w63 ⟨G62, rfl, hx64⟩
 refine ⟨_, rfl, ?_⟩
 have hX65 := hX58.tr hx64
 refine qd rfl rfl rfl (r_pickT (v := (.bool (decide ((0 : Int) ≤ n51 ∧ (n51 : Int) ≤ 7)))) rfl rfl) (qd rfl rfl rfl (r_assign (v := (.bool (decide ((0 : Int) ≤ n51 ∧ (n51 : Int) ≤ 7)))) rfl) (qe (s_then ?_)))
 exact wp_ret (s_ret (c_ret1 (v := (.bool (decide ((0 : Int) ≤ n51 ∧ (n51 : Int) ≤ 7)))) rfl rfl rfl (⟨_, congrArg (fun z => Ending.returned (Value.bool z)) (sg_t (by omega) (by rw [agk_6 (by omega) hrn55 hre56, h61]; try rfl)), hX65⟩)))
 refine qs rfl rfl rfl rfl rfl rfl (qs rfl rfl rfl rfl rfl rfl (qd rfl rfl rfl (r_pickF (v := (.bool false)) rfl rfl) (qd rfl rfl rfl (r_assign (v := (.bool false)) rfl) (qe (s_then ?_)))))
 exact wp_ret (s_ret (c_ret1 (v := (.bool false)) rfl rfl rfl (⟨_, congrArg (fun z => Ending.returned (Value.bool z)) (sg_t (by omega) (by rw [agk_6 (by omega) hrn55 hre56, h61]; try rfl)), hX58⟩)))

end PW7
end Go.Proofs.YtianphgdbfekdaaGreatDoor

set_option maxRecDepth 20000
set_option maxHeartbeats 2000000
namespace Go.Proofs.YtianphgdbfekdaaGreatDoor
namespace PW8
open Go.RowKit Go.GL Go.Proofs
open PT3 PTB PW7





theorem l24Singles_spec {w : World} {G : Pin} {s : ByteArray} (hP : Pins G w) (hs : s.size ≤ 1048576) :
  Calls Tryz.prog 12 [(.string s)].toArray w fun e w' => ∃ (u : Value) (G' : Pin), e = .returned (.tuple #[u, .bool (psB s)]) ∧ RSl eStr G' u (psF s) ∧ Ext noS G w G' w' := by
 refine s_enter (n := 62) Tryz.func12 Tryz.ntmps12 rfl rfl ?_
 have hX0 : Ext noS G w G w := Ext.refl hP
 refine s_seq (c_reg ?_)
 refine qd rfl rfl rfl (r_assign (v := (.slice none 0 0)) rfl) (qd rfl rfl rfl (r_assign (v := (.bool false)) rfl) (qe (s_then (s_seq (c_reg ?_)))))
 refine q1 rfl rfl rfl (o_build0 (E := eStr) (e := 9) Tryz.underlying22 sz9 hX0.pins (fun u1 w2 ho3 hp4 hl5 hk6 => ?_))
 have hX7 := hX0.step hp4 hl5
 have ho8 : Own eStr 9 G w2 w.heap.size u1 ([]) := ho3.weaken hX0.size
 refine qd rfl rfl rfl (r_assign (v := u1) rfl) (qe (s_then (s_seq (s_seq (c_reg ?_)))))
 refine qd rfl rfl rfl (r_move (v := (.string s)) rfl) (qd rfl rfl rfl (r_eqlS rfl rfl) (qe (s_then ?_)))
 refine c_if rfl rfl (fun h9 => ?_) (fun h9 => ?_)
 refine s_seq (c_reg ?_)
 refine qd rfl rfl rfl (r_move (v := u1) rfl) (qd rfl rfl rfl (r_assign (v := u1) rfl) (qd rfl rfl rfl (r_assign (v := (.bool true)) rfl) (qe (s_then ?_))))
 refine wp_ret (s_ret (c_ret2 (v := u1) (u := (.bool true)) rfl rfl rfl rfl rfl ?_))
 obtain ⟨G10, hle13, hX12, hr11, hf14⟩ := ho8.sealed hX7
 obtain ⟨e1, e2⟩ := ps_none h9
 exact ⟨_, _, (by rw [e1]), (by rw [e2]; exact hr11), hX12⟩
 refine wp_skip (s_then (s_seq (c_reg ?_)))
 refine qd rfl rfl rfl (r_assign (v := (.int .i64 0)) rfl) (qe (s_then (s_seq (s_seq (c_reg ?_)))))
 refine qd rfl rfl rfl (r_assign (v := (.int .i64 0)) rfl) (qe (s_then ?_))
 refine s_blk (s_loop (fun (k : Nat) (en : Nat → Value) (W : World) => ∃ (env1 : Nat → Value) (i9 : Nat) (f9 : Nat) (ov : Value) (os : List ByteArray) (GL1 : Pin), en = (upd (upd (upd (upd env1 0 (.string s)) 4 ov) 5 (.int .i64 (f9 : Int))) 6 (.int .i64 (i9 : Int))) ∧ k = s.size + 1 - i9 ∧ Ext noS G w GL1 W ∧ Pin.le G GL1 ∧ (i9 ≤ s.size + 1) ∧ (SqJ s i9 f9 os) ∧ (∀ x ∈ os, SgP x) ∧ (os.length ≤ 6) ∧ (Own eStr 9 GL1 W w.heap.size ov (os))) _ ⟨_, 0, 0, u1, [], G, (packS (x := 6) (packS (x := 5) (packS (x := 4) (pack1 (x := 0) rfl) rfl) rfl) rfl), rfl, hX7, Pin.le_refl _, Nat.zero_le _, (Or.inl ⟨Nat.zero_le _, sqI_zero⟩), (fun x hx => (List.not_mem_nil hx).elim), Nat.zero_le _, ho8⟩ ?_)
 rintro k15 _ w16 ⟨env1, i9, f9, ov, os, GL1, rfl, hk17, hX18, hlek15, hi, hsq, hsg, hol, hw19⟩
 refine s_seq (s_seq (c_reg ?_))
 refine qd rfl rfl rfl (r_move (v := (.int .i64 (i9 : Int))) rfl) (qd rfl rfl rfl (r_move (v := (.string s)) rfl) (qd rfl rfl rfl (r_lenS Tryz.underlying9 rfl) (qd rfl rfl rfl (r_leq rfl rfl) (qe (s_then ?_)))))
 refine c_ifd (p := ((i9 : Int) : Int) ≤ (s.size : Int)) rfl rfl (fun h20 => ?_) (fun h20 => ?_)
 have hS := sqJ_in hsq (by omega)
 have hfl := hS.le
 refine wp_skip (s_then (s_seq ?_))
 refine s_blk (s_seq (s_seq (c_reg ?_)))
 refine qd rfl rfl rfl (r_move (v := (.int .i64 (i9 : Int))) rfl) (qd rfl rfl rfl (r_move (v := (.string s)) rfl) (qd rfl rfl rfl (r_lenS Tryz.underlying9 rfl) (qd rfl rfl rfl (r_lss rfl rfl) (qd rfl rfl rfl (r_move (v := (.bool (decide (((i9 : Int) : Int) < (s.size : Int))))) rfl) (qbd (p := ((i9 : Int) : Int) < (s.size : Int)) (t := 21) rfl (fun h21 => ?_) (fun h21 => ?_))))))
 refine qdg rfl rfl rfl rfl rfl rfl (r_move (v := (.int .i64 (i9 : Int))) rfl) (qdg rfl rfl rfl rfl rfl rfl (r_add rfl rfl (by omega)) (qdg rfl rfl rfl rfl rfl rfl (r_move (v := (.string s)) rfl) (qdg rfl rfl rfl rfl rfl rfl (r_lenS Tryz.underlying9 rfl) (qdg rfl rfl rfl rfl rfl rfl (r_gtr rfl rfl) (qdg rfl rfl rfl rfl rfl rfl (r_move (v := (.bool (decide (((s.size : Int) : Int) < ((i9 : Int) + 3))))) rfl) (qbd (p := ((s.size : Int) : Int) < ((i9 : Int) + 3)) (t := 27) rfl (fun h22 => ?_) (fun h22 => ?_)))))))
 refine qs rfl rfl rfl rfl rfl rfl (qs rfl rfl rfl rfl rfl rfl (qs rfl rfl rfl rfl rfl rfl (qs rfl rfl rfl rfl rfl rfl (qs rfl rfl rfl rfl rfl rfl (qs rfl rfl rfl rfl rfl rfl (qdg rfl rfl rfl rfl rfl rfl (r_pickT (v := (.bool true)) rfl rfl) (qd rfl rfl rfl (r_pickT (v := (.bool true)) rfl rfl) (qd rfl rfl rfl (r_move (v := (.bool true)) rfl) (qs rfl rfl rfl rfl rfl rfl (qs rfl rfl rfl rfl rfl rfl (qs rfl rfl rfl rfl rfl rfl (qd rfl rfl rfl (r_pickT (v := (.bool true)) rfl rfl) (qe (s_then ?_))))))))))))))
 refine c_ifT rfl rfl (wp_exit (s_thenE (s_blkE (s_then (c_reg ?_)))))
 refine qd rfl rfl rfl (r_move (v := (.int .i64 (i9 : Int))) rfl) (qd rfl rfl rfl (r_add rfl rfl (by omega)) (qd rfl rfl rfl (r_assign (v := (.int .i64 ((i9 : Int) + 1))) rfl) (qe (s_lopN (⟨_, ?_, _, rfl, _, i9 + 1, f9, ov, os, GL1, (packS (x := 6) (packS (x := 5) (packS (x := 4) (pack1 (x := 0) rfl) rfl) rfl) rfl), rfl, hX18, hlek15, (by omega), (Or.inl ⟨by omega, sqI_end hS (by omega)⟩), hsg, (by omega), hw19⟩)))))
 omega
 refine qdg rfl rfl rfl rfl rfl rfl (r_move (v := (.string s)) rfl) (qdg rfl rfl rfl rfl rfl rfl (r_move (v := (.int .i64 (i9 : Int))) rfl) (qdg rfl rfl rfl rfl rfl rfl (r_move (v := (.int .i64 (i9 : Int))) rfl) (qdg rfl rfl rfl rfl rfl rfl (r_add rfl rfl (by omega)) ?_)))
 have hm23 : (s.extract i9 ((i9 : Int) + 3).toNat).size = min ((i9 : Int) + 3).toNat s.size - i9 := ByteArray.size_extract
 refine qdg rfl rfl rfl rfl rfl rfl (r_cutB Tryz.underlying9 rfl rfl rfl (by omega) (by omega) (by omega)) (qdg rfl rfl rfl rfl rfl rfl (r_neqS rfl rfl) (qdg rfl rfl rfl rfl rfl rfl (r_pickF (v := (.bool (!((s.extract i9 ((i9 : Int) + 3).toNat).toList == (⟨#[32, 43, 32]⟩ : ByteArray).toList)))) rfl rfl) (qd rfl rfl rfl (r_pickT (v := (.bool (!((s.extract i9 ((i9 : Int) + 3).toNat).toList == (⟨#[32, 43, 32]⟩ : ByteArray).toList)))) rfl rfl) (qd rfl rfl rfl (r_move (v := (.bool (!((s.extract i9 ((i9 : Int) + 3).toNat).toList == (⟨#[32, 43, 32]⟩ : ByteArray).toList)))) rfl) (qbn (t := 36) rfl (fun h24 => ?_) (fun h24 => ?_))))))
 refine qdg rfl rfl rfl rfl rfl rfl (r_move (v := (.int .i64 (i9 : Int))) rfl) (qdg rfl rfl rfl rfl rfl rfl (r_move (v := (.int .i64 (f9 : Int))) rfl) (qdg rfl rfl rfl rfl rfl rfl (r_lss rfl rfl) (qd rfl rfl rfl (r_pickF (v := (.bool (decide (((i9 : Int) : Int) < (f9 : Int))))) rfl rfl) (qe (s_then ?_)))))
 refine c_ifd (p := ((i9 : Int) : Int) < (f9 : Int)) rfl rfl (fun h25 => ?_) (fun h25 => ?_)
 refine wp_exit (s_thenE (s_blkE (s_then (c_reg ?_))))
 refine qd rfl rfl rfl (r_move (v := (.int .i64 (i9 : Int))) rfl) (qd rfl rfl rfl (r_add rfl rfl (by omega)) (qd rfl rfl rfl (r_assign (v := (.int .i64 ((i9 : Int) + 1))) rfl) (qe (s_lopN (⟨_, ?_, _, rfl, _, i9 + 1, f9, ov, os, GL1, (packS (x := 6) (packS (x := 5) (packS (x := 4) (pack1 (x := 0) rfl) rfl) rfl) rfl), rfl, hX18, hlek15, (by omega), (Or.inl ⟨by omega, sqI_skip hS (by omega)⟩), hsg, (by omega), hw19⟩)))))
 omega
 refine wp_skip (s_then (s_seq (s_seq (c_reg ?_))))
 refine qd rfl rfl rfl (r_move (v := (.string s)) rfl) (qd rfl rfl rfl (r_move (v := (.int .i64 (f9 : Int))) rfl) (qd rfl rfl rfl (r_move (v := (.int .i64 (i9 : Int))) rfl) ?_))
 have hm26 : (s.extract f9 i9).size = min i9 s.size - f9 := ByteArray.size_extract
 refine qd rfl rfl rfl (r_cutB Tryz.underlying9 rfl rfl rfl (by omega) (by omega) (by omega)) (q1 rfl rfl rfl (o_call (vs := [(.string (s.extract f9 i9))]) Tryz.func20 nm20 rfl rfl rfl ?_))
 refine Calls.mono (l24Single_spec (s := (s.extract f9 i9)) hX18.pins (by omega)) ?_
 rintro _ w28 ⟨G27, rfl, hx29⟩
 refine ⟨_, rfl, ?_⟩
 have hX30 := hX18.tr hx29
 have ho31 := hw19.ext hx29
 refine qd rfl rfl rfl (r_not rfl) (qd rfl rfl rfl (r_move (v := (.bool (!(sgB (s.extract f9 i9))))) rfl) (qbn (t := 47) rfl (fun h32 => ?_) (fun h32 => ?_)))
 refine qdg rfl rfl rfl rfl rfl rfl (r_move (v := ov) rfl) (qdg rfl rfl rfl rfl rfl rfl (run_len Tryz.underlying22 (v := ov) rfl ho31.read) (qdg rfl rfl rfl rfl rfl rfl (r_eql rfl rfl) (qd rfl rfl rfl (r_pickF (v := (.bool (decide (((os.length : Int) : Int) = 6)))) rfl rfl) (qe (s_then ?_)))))
 refine c_ifd (p := ((os.length : Int) : Int) = 6) rfl rfl (fun h33 => ?_) (fun h33 => ?_)
 refine s_seq (c_reg ?_)
 refine qd rfl rfl rfl (r_assign (v := (.slice none 0 0)) rfl) (qd rfl rfl rfl (r_assign (v := (.bool false)) rfl) (qe (s_then ?_)))
 refine wp_ret (s_ret (c_ret2 (v := (.slice none 0 0)) (u := (.bool false)) rfl rfl rfl rfl rfl ?_))
 have hm9 := sq_memY hS (by omega) (by omega) h24
 have hm8 := hm9.2
 have hpb : psB s = false := ps_many h9 (by omega)
 exact ⟨_, _, (by rw [hpb]), (by rw [psF_no hpb]; exact (nil_reads _ _)), hX30⟩
 refine wp_skip (s_then (s_seq (c_reg ?_)))
 refine qd rfl rfl rfl (r_move (v := ov) rfl) (qd rfl rfl rfl (r_move (v := (.string s)) rfl) (qd rfl rfl rfl (r_move (v := (.int .i64 (f9 : Int))) rfl) (qd rfl rfl rfl (r_move (v := (.int .i64 (i9 : Int))) rfl) ?_)))
 have hm34 : (s.extract f9 i9).size = min i9 s.size - f9 := ByteArray.size_extract
 refine qd rfl rfl rfl (r_cutB Tryz.underlying9 rfl rfl rfl (by omega) (by omega) (by omega)) (q1 rfl rfl rfl (o_buildF (E := eStr) (e := 9) [(.string (s.extract f9 i9))] [s.extract f9 i9] Tryz.underlying22 sz9 zr9 (by exact reps1 (by rfl)) (ones1 (by rfl)) rfl rfl rfl rfl (by decide) hX30.pins (fun u35 w36 ho37 hp38 hl39 hk40 => ?_)))
 have hX41 := hX30.step hp38 hl39
 have ho42 := ho31.below hl39
 have ho44 : Own eStr 9 G27 w36 w.heap.size u35 ([s.extract f9 i9]) := ho37.weaken hX30.size
 refine q1 rfl rfl rfl (o_append (E := eStr) (v := ov) (u := u35) 16 Tryz.underlying22 ap9 (by decide) rfl rfl hX41.pins ho42 ho44.src (by first | omega | (rw [List.nil_append]; omega) | (rw [List.length_nil]; omega) | (rw [List.length_append]; omega) | (simp; done) | (simp; omega) | (simp only [List.length_cons, List.length_nil]; omega) | (simp only [List.length_append, List.length_cons, List.length_nil]; omega)) (by first | omega | (rw [List.nil_append]; omega) | (rw [List.length_nil]; omega) | (rw [List.length_append]; omega) | (simp; done) | (simp; omega) | (simp only [List.length_cons, List.length_nil]; omega) | (simp only [List.length_append, List.length_cons, List.length_nil]; omega)) (hX41.size) (fun u45 w46 ho47 hp48 hg49 hw50 => ?_))
 have hX51 := hX41.write hp48 hg49 ((lo_own ho42))
 have hm54 : (os ++ ([s.extract f9 i9])).length = os.length + 1 := List.length_append
 refine qd rfl rfl rfl (r_assign (v := u45) rfl) (qe (s_then (c_reg ?_)))
 refine qd rfl rfl rfl (r_move (v := (.int .i64 (i9 : Int))) rfl) (qd rfl rfl rfl (r_add rfl rfl (by omega)) (qd rfl rfl rfl (r_assign (v := (.int .i64 ((i9 : Int) + 3))) rfl) (qe (s_blkN (s_then (c_reg ?_))))))
 refine qd rfl rfl rfl (r_move (v := (.int .i64 (i9 : Int))) rfl) (qd rfl rfl rfl (r_add rfl rfl (by omega)) (qd rfl rfl rfl (r_assign (v := (.int .i64 ((i9 : Int) + 1))) rfl) (qe (s_lopN (⟨_, ?_, _, rfl, _, i9 + 1, i9 + 3, u45, os ++ ([s.extract f9 i9]), G27, (packS (x := 6) (packS (x := 5) (packS (x := 4) (pack1 (x := 0) rfl) rfl) rfl) rfl), rfl, hX51, (Pin.le_trans hlek15 hx29.le), (by omega), (Or.inl ⟨by omega, sqI_yes hS (by omega) (by omega) h24⟩), (snocP hsg (decP_true.1 h32)), (by simp; omega), ho47⟩)))))
 omega
 refine qs rfl rfl rfl rfl rfl rfl (qs rfl rfl rfl rfl rfl rfl (qs rfl rfl rfl rfl rfl rfl (qd rfl rfl rfl (r_pickT (v := (.bool true)) rfl rfl) (qe (s_then ?_)))))
 refine c_ifT rfl rfl (s_seq (c_reg ?_))
 refine qd rfl rfl rfl (r_assign (v := (.slice none 0 0)) rfl) (qd rfl rfl rfl (r_assign (v := (.bool false)) rfl) (qe (s_then ?_)))
 refine wp_ret (s_ret (c_ret2 (v := (.slice none 0 0)) (u := (.bool false)) rfl rfl rfl rfl rfl ?_))
 have hm9 := sq_memY hS (by omega) (by omega) h24
 have hm8 := hm9.2
 have hpb : psB s = false := ps_bad h9 hm9.1 (decP_false.1 h32)
 exact ⟨_, _, (by rw [hpb]), (by rw [psF_no hpb]; exact (nil_reads _ _)), hX30⟩
 refine qs rfl rfl rfl rfl rfl rfl (qs rfl rfl rfl rfl rfl rfl (qs rfl rfl rfl rfl rfl rfl (qd rfl rfl rfl (r_pickT (v := (.bool true)) rfl rfl) (qe (s_then ?_)))))
 refine c_ifT rfl rfl (wp_exit (s_thenE (s_blkE (s_then (c_reg ?_)))))
 refine qd rfl rfl rfl (r_move (v := (.int .i64 (i9 : Int))) rfl) (qd rfl rfl rfl (r_add rfl rfl (by omega)) (qd rfl rfl rfl (r_assign (v := (.int .i64 ((i9 : Int) + 1))) rfl) (qe (s_lopN (⟨_, ?_, _, rfl, _, i9 + 1, f9, ov, os, GL1, (packS (x := 6) (packS (x := 5) (packS (x := 4) (pack1 (x := 0) rfl) rfl) rfl) rfl), rfl, hX18, hlek15, (by omega), (Or.inl ⟨by omega, sqI_no hS h24⟩), hsg, (by omega), hw19⟩)))))
 omega
 refine qs rfl rfl rfl rfl rfl rfl (qs rfl rfl rfl rfl rfl rfl (qs rfl rfl rfl rfl rfl rfl (qs rfl rfl rfl rfl rfl rfl (qs rfl rfl rfl rfl rfl rfl (qs rfl rfl rfl rfl rfl rfl (qsu rfl rfl rfl rfl rfl (qsu rfl rfl rfl rfl rfl (qsu rfl rfl rfl rfl rfl (qsu rfl rfl rfl rfl rfl (qsu rfl rfl rfl rfl rfl (qsu rfl rfl rfl rfl rfl (qs rfl rfl rfl rfl rfl rfl (qd rfl rfl rfl (r_pickF (v := (.bool false)) rfl rfl) (qd rfl rfl rfl (r_move (v := (.bool false)) rfl) (qdg rfl rfl rfl rfl rfl rfl (r_move (v := (.int .i64 (i9 : Int))) rfl) (qdg rfl rfl rfl rfl rfl rfl (r_move (v := (.int .i64 (f9 : Int))) rfl) (qdg rfl rfl rfl rfl rfl rfl (r_lss rfl rfl) (qd rfl rfl rfl (r_pickF (v := (.bool (decide (((i9 : Int) : Int) < (f9 : Int))))) rfl rfl) (qe (s_then ?_))))))))))))))))))))
 refine c_ifd (p := ((i9 : Int) : Int) < (f9 : Int)) rfl rfl (fun h55 => ?_) (fun h55 => ?_)
 refine wp_exit (s_thenE (s_blkE (s_then (c_reg ?_))))
 refine qd rfl rfl rfl (r_move (v := (.int .i64 (i9 : Int))) rfl) (qd rfl rfl rfl (r_add rfl rfl (by omega)) (qd rfl rfl rfl (r_assign (v := (.int .i64 ((i9 : Int) + 1))) rfl) (qe (s_lopN (⟨_, ?_, _, rfl, _, i9 + 1, f9, ov, os, GL1, (packS (x := 6) (packS (x := 5) (packS (x := 4) (pack1 (x := 0) rfl) rfl) rfl) rfl), rfl, hX18, hlek15, (by omega), (Or.inl ⟨by omega, sqI_skip hS (by omega)⟩), hsg, (by omega), hw19⟩)))))
 omega
 refine wp_skip (s_then (s_seq (s_seq (c_reg ?_))))
 refine qd rfl rfl rfl (r_move (v := (.string s)) rfl) (qd rfl rfl rfl (r_move (v := (.int .i64 (f9 : Int))) rfl) (qd rfl rfl rfl (r_move (v := (.int .i64 (i9 : Int))) rfl) ?_))
 have hm56 : (s.extract f9 i9).size = min i9 s.size - f9 := ByteArray.size_extract
 refine qd rfl rfl rfl (r_cutB Tryz.underlying9 rfl rfl rfl (by omega) (by omega) (by omega)) (q1 rfl rfl rfl (o_call (vs := [(.string (s.extract f9 i9))]) Tryz.func20 nm20 rfl rfl rfl ?_))
 refine Calls.mono (l24Single_spec (s := (s.extract f9 i9)) hX18.pins (by omega)) ?_
 rintro _ w58 ⟨G57, rfl, hx59⟩
 refine ⟨_, rfl, ?_⟩
 have hX60 := hX18.tr hx59
 have ho61 := hw19.ext hx59
 refine qd rfl rfl rfl (r_not rfl) (qd rfl rfl rfl (r_move (v := (.bool (!(sgB (s.extract f9 i9))))) rfl) (qbn (t := 47) rfl (fun h62 => ?_) (fun h62 => ?_)))
 refine qdg rfl rfl rfl rfl rfl rfl (r_move (v := ov) rfl) (qdg rfl rfl rfl rfl rfl rfl (run_len Tryz.underlying22 (v := ov) rfl ho61.read) (qdg rfl rfl rfl rfl rfl rfl (r_eql rfl rfl) (qd rfl rfl rfl (r_pickF (v := (.bool (decide (((os.length : Int) : Int) = 6)))) rfl rfl) (qe (s_then ?_)))))
 refine c_ifd (p := ((os.length : Int) : Int) = 6) rfl rfl (fun h63 => ?_) (fun h63 => ?_)
 refine s_seq (c_reg ?_)
 refine qd rfl rfl rfl (r_assign (v := (.slice none 0 0)) rfl) (qd rfl rfl rfl (r_assign (v := (.bool false)) rfl) (qe (s_then ?_)))
 refine wp_ret (s_ret (c_ret2 (v := (.slice none 0 0)) (u := (.bool false)) rfl rfl rfl rfl rfl ?_))
 have hm9 := sq_memE hS (by omega)
 have hm8 := hm9.2
 have hpb : psB s = false := ps_many h9 (by omega)
 exact ⟨_, _, (by rw [hpb]), (by rw [psF_no hpb]; exact (nil_reads _ _)), hX60⟩
 refine wp_skip (s_then (s_seq (c_reg ?_)))
 refine qd rfl rfl rfl (r_move (v := ov) rfl) (qd rfl rfl rfl (r_move (v := (.string s)) rfl) (qd rfl rfl rfl (r_move (v := (.int .i64 (f9 : Int))) rfl) (qd rfl rfl rfl (r_move (v := (.int .i64 (i9 : Int))) rfl) ?_)))
 have hm64 : (s.extract f9 i9).size = min i9 s.size - f9 := ByteArray.size_extract
 refine qd rfl rfl rfl (r_cutB Tryz.underlying9 rfl rfl rfl (by omega) (by omega) (by omega)) (q1 rfl rfl rfl (o_buildF (E := eStr) (e := 9) [(.string (s.extract f9 i9))] [s.extract f9 i9] Tryz.underlying22 sz9 zr9 (by exact reps1 (by rfl)) (ones1 (by rfl)) rfl rfl rfl rfl (by decide) hX60.pins (fun u65 w66 ho67 hp68 hl69 hk70 => ?_)))
 have hX71 := hX60.step hp68 hl69
 have ho72 := ho61.below hl69
 have ho74 : Own eStr 9 G57 w66 w.heap.size u65 ([s.extract f9 i9]) := ho67.weaken hX60.size
 refine q1 rfl rfl rfl (o_append (E := eStr) (v := ov) (u := u65) 16 Tryz.underlying22 ap9 (by decide) rfl rfl hX71.pins ho72 ho74.src (by first | omega | (rw [List.nil_append]; omega) | (rw [List.length_nil]; omega) | (rw [List.length_append]; omega) | (simp; done) | (simp; omega) | (simp only [List.length_cons, List.length_nil]; omega) | (simp only [List.length_append, List.length_cons, List.length_nil]; omega)) (by first | omega | (rw [List.nil_append]; omega) | (rw [List.length_nil]; omega) | (rw [List.length_append]; omega) | (simp; done) | (simp; omega) | (simp only [List.length_cons, List.length_nil]; omega) | (simp only [List.length_append, List.length_cons, List.length_nil]; omega)) (hX71.size) (fun u75 w76 ho77 hp78 hg79 hw80 => ?_))
 have hX81 := hX71.write hp78 hg79 ((lo_own ho72))
 have hm84 : (os ++ ([s.extract f9 i9])).length = os.length + 1 := List.length_append
 refine qd rfl rfl rfl (r_assign (v := u75) rfl) (qe (s_then (c_reg ?_)))
 refine qd rfl rfl rfl (r_move (v := (.int .i64 (i9 : Int))) rfl) (qd rfl rfl rfl (r_add rfl rfl (by omega)) (qd rfl rfl rfl (r_assign (v := (.int .i64 ((i9 : Int) + 3))) rfl) (qe (s_blkN (s_then (c_reg ?_))))))
 refine qd rfl rfl rfl (r_move (v := (.int .i64 (i9 : Int))) rfl) (qd rfl rfl rfl (r_add rfl rfl (by omega)) (qd rfl rfl rfl (r_assign (v := (.int .i64 ((i9 : Int) + 1))) rfl) (qe (s_lopN (⟨_, ?_, _, rfl, _, i9 + 1, i9 + 3, u75, os ++ ([s.extract f9 i9]), G57, (packS (x := 6) (packS (x := 5) (packS (x := 4) (pack1 (x := 0) rfl) rfl) rfl) rfl), rfl, hX81, (Pin.le_trans hlek15 hx59.le), (by omega), (Or.inr ⟨by omega, by rw [sqI_done hS (by omega), show s.size = i9 by omega]⟩), (snocP hsg (decP_true.1 h62)), (by simp; omega), ho77⟩)))))
 omega
 refine qs rfl rfl rfl rfl rfl rfl (qs rfl rfl rfl rfl rfl rfl (qs rfl rfl rfl rfl rfl rfl (qd rfl rfl rfl (r_pickT (v := (.bool true)) rfl rfl) (qe (s_then ?_)))))
 refine c_ifT rfl rfl (s_seq (c_reg ?_))
 refine qd rfl rfl rfl (r_assign (v := (.slice none 0 0)) rfl) (qd rfl rfl rfl (r_assign (v := (.bool false)) rfl) (qe (s_then ?_)))
 refine wp_ret (s_ret (c_ret2 (v := (.slice none 0 0)) (u := (.bool false)) rfl rfl rfl rfl rfl ?_))
 have hm9 := sq_memE hS (by omega)
 have hm8 := hm9.2
 have hpb : psB s = false := ps_bad h9 hm9.1 (decP_false.1 h62)
 exact ⟨_, _, (by rw [hpb]), (by rw [psF_no hpb]; exact (nil_reads _ _)), hX60⟩
 refine wp_exit (s_thenE (s_lopE (s_blkE (s_then (s_seq (c_reg ?_))))))
 refine qd rfl rfl rfl (r_move (v := ov) rfl) (qd rfl rfl rfl (r_assign (v := ov) rfl) (qd rfl rfl rfl (r_assign (v := (.bool true)) rfl) (qe (s_then ?_))))
 refine wp_ret (s_ret (c_ret2 (v := ov) (u := (.bool true)) rfl rfl rfl rfl rfl ?_))
 obtain ⟨G85, hle88, hX87, hr86, hf89⟩ := hw19.sealed hX18
 have hwo := sqJ_out hsq (by omega)
 obtain ⟨e1, e2⟩ := ps_good h9 (by rw [hwo]; omega) (by rw [hwo]; exact hsg)
 exact ⟨_, _, (by rw [e1]), (by rw [e2, hwo]; exact hr86), hX87⟩

theorem l24Join_spec {w : World} {G : Pin} {v : Value} {ws : List ByteArray} (hP : Pins G w) (hv : RSl eStr G v ws) (hl : 0 < ws.length ∧ ws.length ≤ 6) (hz : ∀ i, i < ws.length → (ws.getD i ByteArray.empty).size ≤ 200) :
  Calls Tryz.prog 27 [v].toArray w fun e w' => ∃ G', e = .returned (.string (joinQ ws)) ∧ Ext noS G w G' w' := by
 refine s_enter (n := 25) Tryz.func27 Tryz.ntmps27 rfl rfl ?_
 have hX0 : Ext noS G w G w := Ext.refl hP
 refine s_seq (c_reg ?_)
 refine qd rfl rfl rfl (r_assign (v := (.string (⟨#[]⟩ : ByteArray))) rfl) (qe (s_then (s_seq (s_seq (c_reg ?_)))))
 refine qd rfl rfl rfl (r_move (v := v) rfl) (qd rfl rfl rfl (run_len Tryz.underlying22 (v := v) rfl hv) (qd rfl rfl rfl (r_eql rfl rfl) (qe (s_then ?_))))
 refine c_ifd (p := ((ws.length : Int) : Int) = 0) rfl rfl (fun h1 => ?_) (fun h1 => ?_)
 refine s_seq (c_reg ?_)
 refine qd rfl rfl rfl (r_assign (v := (.string (⟨#[110, 111, 110, 101]⟩ : ByteArray))) rfl) (qe (s_then ?_))
 refine wp_ret (s_ret (c_ret1 (v := (.string (⟨#[110, 111, 110, 101]⟩ : ByteArray))) rfl rfl rfl ?_))
 exfalso
 omega
 refine wp_skip (s_then (s_seq (c_reg ?_)))
 refine qd rfl rfl rfl (r_assign (v := (.string (⟨#[]⟩ : ByteArray))) rfl) (qe (s_then (s_seq (s_seq (c_reg ?_)))))
 refine qd rfl rfl rfl (r_assign (v := (.int .i64 0)) rfl) (qe (s_then ?_))
 refine s_blk (s_loop (fun (k : Nat) (en : Nat → Value) (W : World) => ∃ (env1 : Nat → Value) (i9 : Nat) (os : ByteArray) (GL1 : Pin), en = (upd (upd (upd (upd env1 0 v) 2 (.string (⟨#[]⟩ : ByteArray))) 3 (.string os)) 4 (.int .i64 (i9 : Int))) ∧ k = ws.length - i9 ∧ Ext noS G w GL1 W ∧ Pin.le G GL1 ∧ (i9 ≤ ws.length) ∧ (os = joinQ (ws.take i9)) ∧ (os.size ≤ 210 * i9)) _ ⟨_, 0, (⟨#[]⟩ : ByteArray), G, (packS (x := 4) (packS (x := 3) (packS (x := 2) (pack1 (x := 0) rfl) rfl) rfl) rfl), rfl, hX0, Pin.le_refl _, Nat.zero_le _, joinQ_nil.symm, Nat.zero_le _⟩ ?_)
 rintro k2 _ w3 ⟨env1, i9, os, GL1, rfl, hk4, hX5, hlek2, hi, hos, hoz⟩
 refine s_seq (s_seq (c_reg ?_))
 refine qd rfl rfl rfl (r_move (v := (.int .i64 (i9 : Int))) rfl) (qd rfl rfl rfl (r_move (v := v) rfl) (qd rfl rfl rfl (run_len Tryz.underlying22 (v := v) rfl hv) (qd rfl rfl rfl (r_lss rfl rfl) (qe (s_then ?_)))))
 refine c_ifd (p := ((i9 : Int) : Int) < (ws.length : Int)) rfl rfl (fun h6 => ?_) (fun h6 => ?_)
 have hwz := hz i9 (by omega)
 refine wp_skip (s_then (s_seq ?_))
 refine s_blk (s_seq (s_seq (c_reg ?_)))
 refine qd rfl rfl rfl (r_move (v := (.int .i64 (i9 : Int))) rfl) (qd rfl rfl rfl (r_gtr rfl rfl) (qe (s_then ?_)))
 refine c_ifd (p := (0 : Int) < (i9 : Int)) rfl rfl (fun h7 => ?_) (fun h7 => ?_)
 refine c_reg (qd rfl rfl rfl (r_move (v := (.string os)) rfl) ?_)
 have hm8 : (⟨#[32, 43, 32]⟩ : ByteArray).size = 3 := rfl
 have hm9 : (os ++ (⟨#[32, 43, 32]⟩ : ByteArray)).size = os.size + (⟨#[32, 43, 32]⟩ : ByteArray).size := ByteArray.size_append
 refine qd rfl rfl rfl (r_addS rfl rfl (by omega)) (qd rfl rfl rfl (r_assign (v := (.string (os ++ (⟨#[32, 43, 32]⟩ : ByteArray)))) rfl) (qe (s_then (c_reg ?_))))
 refine qd rfl rfl rfl (r_move (v := (.string (os ++ (⟨#[32, 43, 32]⟩ : ByteArray)))) rfl) (qd rfl rfl rfl (r_move (v := v) rfl) (qd rfl rfl rfl (r_move (v := (.int .i64 (i9 : Int))) rfl) (qd rfl rfl rfl (run_idx Tryz.underlying22 sz9 (v := v) rfl rfl hv (by omega) (by omega)) (qd rfl rfl rfl (run_load_str (r := ws.getD i9 ByteArray.empty) rfl ag9 (z := (i9 : Int)) rfl hv (Pins.of_le hX5.pins hlek2) (by omega) (by omega)) ?_))))
 have hm10 : ((os ++ (⟨#[32, 43, 32]⟩ : ByteArray)) ++ (ws.getD i9 ByteArray.empty)).size = (os ++ (⟨#[32, 43, 32]⟩ : ByteArray)).size + (ws.getD i9 ByteArray.empty).size := ByteArray.size_append
 refine qd rfl rfl rfl (r_addS rfl rfl (by omega)) (qd rfl rfl rfl (r_assign (v := (.string ((os ++ (⟨#[32, 43, 32]⟩ : ByteArray)) ++ (ws.getD i9 ByteArray.empty)))) rfl) (qe (s_blkN (s_then (c_reg ?_)))))
 refine qd rfl rfl rfl (r_move (v := (.int .i64 (i9 : Int))) rfl) (qd rfl rfl rfl (r_add rfl rfl (by omega)) (qd rfl rfl rfl (r_assign (v := (.int .i64 ((i9 : Int) + 1))) rfl) (qe (s_lopN (⟨_, ?_, _, rfl, _, i9 + 1, (os ++ (⟨#[32, 43, 32]⟩ : ByteArray)) ++ (ws.getD i9 ByteArray.empty), GL1, (packS (x := 4) (packS (x := 3) (packS (x := 2) (pack1 (x := 0) rfl) rfl) rfl) rfl), rfl, hX5, hlek2, (by omega), (jq_A (by omega) hos h7), (by omega)⟩)))))
 omega
 refine wp_skip (s_then (c_reg ?_))
 refine qd rfl rfl rfl (r_move (v := (.string os)) rfl) (qd rfl rfl rfl (r_move (v := v) rfl) (qd rfl rfl rfl (r_move (v := (.int .i64 (i9 : Int))) rfl) (qd rfl rfl rfl (run_idx Tryz.underlying22 sz9 (v := v) rfl rfl hv (by omega) (by omega)) (qd rfl rfl rfl (run_load_str (r := ws.getD i9 ByteArray.empty) rfl ag9 (z := (i9 : Int)) rfl hv (Pins.of_le hX5.pins hlek2) (by omega) (by omega)) ?_))))
 have hm11 : (os ++ (ws.getD i9 ByteArray.empty)).size = os.size + (ws.getD i9 ByteArray.empty).size := ByteArray.size_append
 refine qd rfl rfl rfl (r_addS rfl rfl (by omega)) (qd rfl rfl rfl (r_assign (v := (.string (os ++ (ws.getD i9 ByteArray.empty)))) rfl) (qe (s_blkN (s_then (c_reg ?_)))))
 refine qd rfl rfl rfl (r_move (v := (.int .i64 (i9 : Int))) rfl) (qd rfl rfl rfl (r_add rfl rfl (by omega)) (qd rfl rfl rfl (r_assign (v := (.int .i64 ((i9 : Int) + 1))) rfl) (qe (s_lopN (⟨_, ?_, _, rfl, _, i9 + 1, os ++ (ws.getD i9 ByteArray.empty), GL1, (packS (x := 4) (packS (x := 3) (packS (x := 2) (pack1 (x := 0) rfl) rfl) rfl) rfl), rfl, hX5, hlek2, (by omega), (jq_B (by omega) hos h7), (by omega)⟩)))))
 omega
 refine wp_exit (s_thenE (s_lopE (s_blkE (s_then (s_seq (c_reg ?_))))))
 refine qd rfl rfl rfl (r_move (v := (.string os)) rfl) (qd rfl rfl rfl (r_assign (v := (.string os)) rfl) (qe (s_then ?_)))
 exact wp_ret (s_ret (c_ret1 (v := (.string os)) rfl rfl rfl (⟨_, congrArg (fun z => Ending.returned (Value.string z)) (by rw [hos, List.take_of_length_le (by omega)]), hX5⟩)))

end PW8
end Go.Proofs.YtianphgdbfekdaaGreatDoor

namespace Go.GL
open Go Go.RowKit
theorem dr_weak {P : Program} {md : Region.Mode} {ops : Array Oper} {Q : Exit → Act → World → Prop} {S S' : World → Prop} {last : Nat} (hS : ∀ w, S' w → S w) : ∀ (fuel : Nat) (listed : Array Bool) (a : Act) (w : World), dr P md ops Q S' last fuel listed a w → dr P md ops Q S last fuel listed a w
 | 0, _, _, _, h => h
 | fuel + 1, _, _, _, h => ⟨h.1, fun i hi => wpOp_mono (fun a' w' h' => ⟨fun hne => hS _ (h'.1 hne), dr_weak hS fuel _ a' w' h'.2⟩) (h.2 i hi)⟩
theorem dr_more {P : Program} {ops : Array Oper} {Q : Exit → Act → World → Prop} {S' S : World → Prop} {last fuel : Nat} {listed : Array Bool} {a : Act} {w : World} (hS : ∀ w, S' w → S w) (h : DR P ops Q S' last fuel listed a w) : DR P ops Q S last fuel listed a w :=
 ⟨dr_weak hS _ _ _ _ h.out⟩
end Go.GL

set_option maxRecDepth 20000
set_option maxHeartbeats 2000000
namespace Go.Proofs.YtianphgdbfekdaaGreatDoor
namespace PS6
open Go.RowKit Go.GL Go.Proofs
open PT3 PTB

theorem is23_spec {w : World} {G : Pin} {s : ByteArray} {i : Int} {c : UInt8} (hP : Pins G w) (hs : s.size ≤ 1000) (hc : (c.toNat : Int) ≠ 0) :
  Calls Tryz.prog 87 [(.string s), (.int .i64 i), (.int .u8 (c.toNat : Int))].toArray w fun e w' => ∃ G', e = .returned (.bool (decide (((cB s i).toNat : Int) = (c.toNat : Int)))) ∧ Ext noS G w G' w' := by
 refine s_enter (n := 19) Tryz.func87 Tryz.ntmps87 rfl rfl ?_
 have hX0 : Ext noS G w G w := Ext.refl hP
 refine s_seq (c_reg ?_)
 refine qd rfl rfl rfl (r_assign (v := (.bool false)) rfl) (qe (s_then (s_seq (c_reg ?_))))
 refine qd rfl rfl rfl (r_move (v := (.int .i64 i)) rfl) (qd rfl rfl rfl (r_move (v := (.string s)) rfl) (qd rfl rfl rfl (r_lenS Tryz.underlying9 rfl) (qd rfl rfl rfl (r_sub rfl rfl (by omega)) (q1 rfl rfl rfl (o_call (vs := [(.int .i64 i), (.int .i64 0), (.int .i64 ((s.size : Int) - 1))]) Tryz.func36 nm36 rfl rfl rfl ?_)))))
 refine Calls.mono (l1InQ_spec hX0.pins) ?_
 rintro _ w2 ⟨G1, rfl, hx3⟩
 refine ⟨_, rfl, ?_⟩
 have hX4 := hX0.tr hx3
 refine qd rfl rfl rfl (r_move (v := (.bool (decide ((0 : Int) ≤ i ∧ (i : Int) ≤ ((s.size : Int) - 1))))) rfl) (qbd (p := ((0 : Int) ≤ i ∧ (i : Int) ≤ ((s.size : Int) - 1))) (t := 12) rfl (fun h5 => ?_) (fun h5 => ?_))
 refine qdg rfl rfl rfl rfl rfl rfl (r_move (v := (.string s)) rfl) (qdg rfl rfl rfl rfl rfl rfl (r_move (v := (.int .i64 i)) rfl) (qdg rfl rfl rfl rfl rfl rfl (r_idxB Tryz.underlying9 rfl rfl (by omega) (by omega)) (qdg rfl rfl rfl rfl rfl rfl (r_move (v := (.int .u8 (c.toNat : Int))) rfl) (qdg rfl rfl rfl rfl rfl rfl (r_eql rfl rfl) (qd rfl rfl rfl (r_pickT (v := (.bool (decide ((((sB s (i).toNat).toNat : Int) : Int) = (c.toNat : Int))))) rfl rfl) (qd rfl rfl rfl (r_assign (v := (.bool (decide ((((sB s (i).toNat).toNat : Int) : Int) = (c.toNat : Int))))) rfl) (qe (s_then ?_))))))))
 exact wp_ret (s_ret (c_ret1 (v := (.bool (decide ((((sB s (i).toNat).toNat : Int) : Int) = (c.toNat : Int))))) rfl rfl rfl (⟨_, congrArg (fun z => Ending.returned (Value.bool z)) (by rw [cB_in (by omega)]), hX4⟩)))
 refine qs rfl rfl rfl rfl rfl rfl (qs rfl rfl rfl rfl rfl rfl (qs rfl rfl rfl rfl rfl rfl (qs rfl rfl rfl rfl rfl rfl (qs rfl rfl rfl rfl rfl rfl (qd rfl rfl rfl (r_pickF (v := (.bool false)) rfl rfl) (qd rfl rfl rfl (r_assign (v := (.bool false)) rfl) (qe (s_then ?_))))))))
 exact wp_ret (s_ret (c_ret1 (v := (.bool false)) rfl rfl rfl (⟨_, congrArg (fun z => Ending.returned (Value.bool z)) (decide_eq_false (fun e => by rw [cB_out (by omega)] at e; exact hc e.symm)).symm, hX4⟩)))

end PS6
end Go.Proofs.YtianphgdbfekdaaGreatDoor

set_option maxRecDepth 20000
set_option maxHeartbeats 2000000
namespace Go.Proofs.YtianphgdbfekdaaGreatDoor
namespace PS7
open Go.RowKit Go.GL Go.Proofs

theorem set23_spec {w : World} {G : Pin} {s t : ByteArray} {i : Int} (hP : Pins G w) (hs : s.size ≤ 1000) (ht : t.size ≤ 1000) (hi : 0 ≤ i ∧ i < (s.size : Int)) :
  Calls Tryz.prog 88 [(.string s), (.int .i64 i), (.string t)].toArray w fun e w' => ∃ G', e = .returned (.string (setX s i.toNat t)) ∧ Ext noS G w G' w' := by
 refine s_enter (n := 17) Tryz.func88 Tryz.ntmps88 rfl rfl ?_
 have hX0 : Ext noS G w G w := Ext.refl hP
 refine s_seq (c_reg ?_)
 refine qd rfl rfl rfl (r_assign (v := (.string (⟨#[]⟩ : ByteArray))) rfl) (qe (s_then (s_seq ?_)))
 refine c_draw (S := fun wz => Pins G wz) (last := 11) (by kernel_rfl) rfl ?_
 have hl1 : Below w.heap.size w w.drew := (Below.refl _ _).drew
 have hp2 := hX0.pins.below hl1
 have hX3 := hX0.step hp2 hl1
 refine dr_take (i := 0) rfl rfl rfl (want_none rfl _) (by kernel_rfl) (fun _ _ => r_move (v := (.string s)) rfl) hX3.pins (dr_take (i := 1) rfl rfl rfl (want_none rfl _) (by kernel_rfl) (fun _ _ => r_move (v := (.int .i64 i)) rfl) hX3.pins ?_)
 have hm4 : (s.extract 0 (i).toNat).size = min (i).toNat s.size - 0 := ByteArray.size_extract
 refine dr_take (i := 2) rfl rfl rfl (want_none rfl _) (by kernel_rfl) (fun _ _ => r_cutS Tryz.underlying9 rfl rfl (by omega) (by omega)) hX3.pins (dr_take (i := 3) rfl rfl rfl (want_none rfl _) (by kernel_rfl) (fun _ _ => r_move (v := (.string t)) rfl) hX3.pins ?_)
 have hm5 : ((s.extract 0 (i).toNat) ++ t).size = (s.extract 0 (i).toNat).size + t.size := ByteArray.size_append
 refine dr_take (i := 4) rfl rfl rfl (want_none rfl _) (by kernel_rfl) (fun _ _ => r_addS rfl rfl (by omega)) hX3.pins (dr_take (i := 5) rfl rfl rfl (want_none rfl _) (by kernel_rfl) (fun _ _ => r_move (v := (.string s)) rfl) hX3.pins (dr_take (i := 6) rfl rfl rfl (want_none rfl _) (by kernel_rfl) (fun _ _ => r_move (v := (.int .i64 i)) rfl) hX3.pins (dr_take (i := 7) rfl rfl rfl (want_none rfl _) (by kernel_rfl) (fun _ _ => r_add rfl rfl (by omega)) hX3.pins ?_)))
 have hm6 : (s.extract (i + 1).toNat s.size).size = min s.size s.size - (i + 1).toNat := ByteArray.size_extract
 refine dr_take (i := 8) rfl rfl rfl (want_none rfl _) (by kernel_rfl) (fun _ _ => r_cutL Tryz.underlying9 rfl rfl (by omega) (by omega)) hX3.pins ?_
 have hm7 : (((s.extract 0 (i).toNat) ++ t) ++ (s.extract (i + 1).toNat s.size)).size = ((s.extract 0 (i).toNat) ++ t).size + (s.extract (i + 1).toNat s.size).size := ByteArray.size_append
 refine dr_take (i := 9) rfl rfl rfl (want_none rfl _) (by kernel_rfl) (fun _ _ => r_addS rfl rfl (by omega)) hX3.pins (dr_take (i := 10) rfl rfl rfl (want_none rfl _) (by kernel_rfl) (fun _ _ => r_assign (v := (.string (((s.extract 0 (i).toNat) ++ t) ++ (s.extract (i + 1).toNat s.size)))) rfl) hX3.pins (dr_end (by kernel_rfl) (s_then (wp_ret (s_ret (c_ret1 (v := (.string (((s.extract 0 (i).toNat) ++ t) ++ (s.extract (i + 1).toNat s.size)))) rfl rfl rfl ?_))))))
 have e9 : (i + 1).toNat = i.toNat + 1 := by omega
 exact ⟨_, (by rw [e9]; rfl), hX3⟩

end PS7
end Go.Proofs.YtianphgdbfekdaaGreatDoor

set_option maxRecDepth 20000
set_option maxHeartbeats 2000000
namespace Go.Proofs.YtianphgdbfekdaaGreatDoor
namespace PS8
open Go.RowKit Go.GL Go.Proofs
open PS6 PS7





theorem frog_spec {w : World} {G : Pin} {s : ByteArray} {i : Nat} {stp : Int} {c : UInt8} (hP : Pins G w) (hs : s.size ≤ 1000) (hi : i < s.size) (hst : -1 ≤ stp ∧ stp ≤ 1) (hc : (c.toNat : Int) ≠ 0) :
  Calls Tryz.prog 86 [(.string s), (.int .i64 (i : Int)), (.int .i64 stp), (.int .u8 (c.toNat : Int))].toArray w fun e w' => ∃ (u : Value) (G' : Pin), e = .returned u ∧ RSl eStr G' u (frogM s i stp c) ∧ Ext noS G w G' w' := by
 refine s_enter (n := 60) Tryz.func86 Tryz.ntmps86 rfl rfl ?_
 have hX0 : Ext noS G w G w := Ext.refl hP
 refine s_seq (c_reg ?_)
 refine qd rfl rfl rfl (r_assign (v := (.slice none 0 0)) rfl) (qe (s_then (s_seq (c_reg ?_))))
 refine q1 rfl rfl rfl (o_build0 (E := eStr) (e := 9) Tryz.underlying22 sz9 hX0.pins (fun u1 w2 ho3 hp4 hl5 hk6 => ?_))
 have hX7 := hX0.step hp4 hl5
 have ho8 : Own eStr 9 G w2 w.heap.size u1 ([]) := ho3.weaken hX0.size
 refine qd rfl rfl rfl (r_assign (v := u1) rfl) (qe (s_then (s_seq (c_reg ?_))))
 refine qd rfl rfl rfl (r_move (v := (.string s)) rfl) (qd rfl rfl rfl (r_move (v := (.int .i64 (i : Int))) rfl) (qd rfl rfl rfl (r_move (v := (.int .i64 (i : Int))) rfl) (qd rfl rfl rfl (r_add rfl rfl (by omega)) ?_)))
 have hm9 : (s.extract i ((i : Int) + 1).toNat).size = min ((i : Int) + 1).toNat s.size - i := ByteArray.size_extract
 refine qd rfl rfl rfl (r_cutB Tryz.underlying9 rfl rfl rfl (by omega) (by omega) (by omega)) (qd rfl rfl rfl (r_assign (v := (.string (s.extract i ((i : Int) + 1).toNat))) rfl) (qe (s_then (s_seq (s_seq (c_reg ?_))))))
 refine qd rfl rfl rfl (r_move (v := (.string s)) rfl) (qd rfl rfl rfl (r_move (v := (.int .i64 (i : Int))) rfl) (qd rfl rfl rfl (r_move (v := (.int .i64 stp)) rfl) (qd rfl rfl rfl (r_add rfl rfl (by omega)) (q1 rfl rfl rfl (o_call (vs := [(.string s), (.int .i64 ((i : Int) + stp)), (.int .u8 46)]) Tryz.func87 nm87 rfl rfl rfl ?_)))))
 refine Calls.mono (is23_spec (s := s) (i := ((i : Int) + stp)) (c := (46 : UInt8)) hX7.pins (by omega) (by first | decide | assumption | exact mineS_pos _)) ?_
 rintro _ w11 ⟨G10, rfl, hx12⟩
 refine ⟨_, rfl, ?_⟩
 have hX13 := hX7.tr hx12
 have ho14 := ho8.ext hx12
 refine qe (s_then ?_)
 refine c_ifd (p := ((cB s ((i : Int) + stp)).toNat : Int) = ((46 : UInt8).toNat : Int)) rfl rfl (fun h15 => ?_) (fun h15 => ?_)
 refine c_reg ?_
 have hat := cB_at (by rw [h15]; decide)
 have hsx : (setX s i (⟨#[46]⟩ : ByteArray)).size = s.size := by rw [setX_one hi, st1_size]
 have hmz : (s.extract i (i + 1)).size = 1 := by rw [me_is hi]; rfl
 have h46 : (⟨#[46]⟩ : ByteArray).size = 1 := rfl
 refine qd rfl rfl rfl (r_move (v := u1) rfl) (qd rfl rfl rfl (r_move (v := (.string s)) rfl) (qd rfl rfl rfl (r_move (v := (.int .i64 (i : Int))) rfl) (q1 rfl rfl rfl (o_call (vs := [(.string s), (.int .i64 (i : Int)), (.string (⟨#[46]⟩ : ByteArray))]) Tryz.func88 nm88 rfl rfl rfl ?_))))
 refine Calls.mono (set23_spec (s := s) (i := (i : Int)) (t := (⟨#[46]⟩ : ByteArray)) hX13.pins (by omega) (by omega) (by omega)) ?_
 rintro _ w17 ⟨G16, rfl, hx18⟩
 refine ⟨_, rfl, ?_⟩
 have hX19 := hX13.tr hx18
 have ho20 := ho14.ext hx18
 refine qd rfl rfl rfl (r_move (v := (.int .i64 (i : Int))) rfl) (qd rfl rfl rfl (r_move (v := (.int .i64 stp)) rfl) (qd rfl rfl rfl (r_add rfl rfl (by omega)) (qd rfl rfl rfl (r_move (v := (.string (s.extract i ((i : Int) + 1).toNat))) rfl) (q1 rfl rfl rfl (o_call (vs := [(.string (setX s i (⟨#[46]⟩ : ByteArray))), (.int .i64 ((i : Int) + stp)), (.string (s.extract i ((i : Int) + 1).toNat))]) Tryz.func88 nm88 rfl rfl rfl ?_)))))
 refine Calls.mono (set23_spec (s := (setX s i (⟨#[46]⟩ : ByteArray))) (i := ((i : Int) + stp)) (t := (s.extract i ((i : Int) + 1).toNat)) hX19.pins (by omega) (by omega) (by omega)) ?_
 rintro _ w22 ⟨G21, rfl, hx23⟩
 refine ⟨_, rfl, ?_⟩
 have hX24 := hX19.tr hx23
 have ho25 := ho20.ext hx23
 refine q1 rfl rfl rfl (o_buildF (E := eStr) (e := 9) [(.string (setX (setX s i (⟨#[46]⟩ : ByteArray)) ((i : Int) + stp).toNat (s.extract i ((i : Int) + 1).toNat)))] [setX (setX s i (⟨#[46]⟩ : ByteArray)) ((i : Int) + stp).toNat (s.extract i ((i : Int) + 1).toNat)] Tryz.underlying22 sz9 zr9 (by exact reps1 (by rfl)) (ones1 (by rfl)) rfl rfl rfl rfl (by decide) hX24.pins (fun u26 w27 ho28 hp29 hl30 hk31 => ?_))
 have hX32 := hX24.step hp29 hl30
 have ho33 := ho25.below hl30
 have ho35 : Own eStr 9 G21 w27 w.heap.size u26 ([setX (setX s i (⟨#[46]⟩ : ByteArray)) ((i : Int) + stp).toNat (s.extract i ((i : Int) + 1).toNat)]) := ho28.weaken hX24.size
 refine q1 rfl rfl rfl (o_append (E := eStr) (v := u1) (u := u26) 16 Tryz.underlying22 ap9 (by decide) rfl rfl hX32.pins ho33 ho35.src (by first | omega | (rw [List.nil_append]; omega) | (rw [List.length_nil]; omega) | (rw [List.length_append]; omega) | (simp; done) | (simp; omega) | (simp only [List.length_cons, List.length_nil]; omega) | (simp only [List.length_append, List.length_cons, List.length_nil]; omega)) (by first | omega | (rw [List.nil_append]; omega) | (rw [List.length_nil]; omega) | (rw [List.length_append]; omega) | (simp; done) | (simp; omega) | (simp only [List.length_cons, List.length_nil]; omega) | (simp only [List.length_append, List.length_cons, List.length_nil]; omega)) (hX32.size) (fun u36 w37 ho38 hp39 hg40 hw41 => ?_))
 have hX42 := hX32.write hp39 hg40 ((lo_own ho33))
 have hm45 : (([]) ++ ([setX (setX s i (⟨#[46]⟩ : ByteArray)) ((i : Int) + stp).toNat (s.extract i ((i : Int) + 1).toNat)])).length = ([]).length + 1 := List.length_append
 refine qd rfl rfl rfl (r_assign (v := u36) rfl) (qe (s_then (s_seq (s_seq (c_reg ?_)))))
 refine qd rfl rfl rfl (r_move (v := (.string s)) rfl) (qd rfl rfl rfl (r_move (v := (.int .i64 (i : Int))) rfl) (qd rfl rfl rfl (r_move (v := (.int .i64 stp)) rfl) (qd rfl rfl rfl (r_add rfl rfl (by omega)) (qd rfl rfl rfl (r_move (v := (.int .u8 (c.toNat : Int))) rfl) (q1 rfl rfl rfl (o_call (vs := [(.string s), (.int .i64 ((i : Int) + stp)), (.int .u8 (c.toNat : Int))]) Tryz.func87 nm87 rfl rfl rfl ?_))))))
 refine Calls.mono (is23_spec (s := s) (i := ((i : Int) + stp)) (c := c) hX42.pins (by omega) (by first | decide | assumption | exact mineS_pos _)) ?_
 rintro _ w47 ⟨G46, rfl, hx48⟩
 refine ⟨_, rfl, ?_⟩
 have hX49 := hX42.tr hx48
 have ho50 := ho38.ext hx48
 refine qd rfl rfl rfl (r_move (v := (.bool (decide (((cB s ((i : Int) + stp)).toNat : Int) = (c.toNat : Int))))) rfl) (qbd (p := ((cB s ((i : Int) + stp)).toNat : Int) = (c.toNat : Int)) (t := 39) rfl (fun h51 => ?_) (fun h51 => ?_))
 refine qdg rfl rfl rfl rfl rfl rfl (r_move (v := (.string s)) rfl) (qdg rfl rfl rfl rfl rfl rfl (r_move (v := (.int .i64 (i : Int))) rfl) (qdg rfl rfl rfl rfl rfl rfl (r_move (v := (.int .i64 stp)) rfl) (qdg rfl rfl rfl rfl rfl rfl (r_mul rfl rfl (by omega)) (qdg rfl rfl rfl rfl rfl rfl (r_add rfl rfl (by omega)) (q1g rfl rfl rfl rfl rfl rfl (o_call (vs := [(.string s), (.int .i64 ((i : Int) + (2 * stp))), (.int .u8 46)]) Tryz.func87 nm87 rfl rfl rfl ?_))))))
 refine Calls.mono (is23_spec (s := s) (i := ((i : Int) + (2 * stp))) (c := (46 : UInt8)) hX49.pins (by omega) (by first | decide | assumption | exact mineS_pos _)) ?_
 rintro _ w53 ⟨G52, rfl, hx54⟩
 refine ⟨_, rfl, ?_⟩
 have hX55 := hX49.tr hx54
 have ho56 := ho50.ext hx54
 refine qd rfl rfl rfl (r_pickT (v := (.bool (decide (((cB s ((i : Int) + (2 * stp))).toNat : Int) = ((46 : UInt8).toNat : Int))))) rfl rfl) (qe (s_then ?_))
 refine c_ifd (p := ((cB s ((i : Int) + (2 * stp))).toNat : Int) = ((46 : UInt8).toNat : Int)) rfl rfl (fun h57 => ?_) (fun h57 => ?_)
 refine c_reg ?_
 have hat := cB_at (by rw [h57]; decide)
 have hsx : (setX s i (⟨#[46]⟩ : ByteArray)).size = s.size := by rw [setX_one hi, st1_size]
 have hmz : (s.extract i (i + 1)).size = 1 := by rw [me_is hi]; rfl
 have h46 : (⟨#[46]⟩ : ByteArray).size = 1 := rfl
 refine qd rfl rfl rfl (r_move (v := u36) rfl) (qd rfl rfl rfl (r_move (v := (.string s)) rfl) (qd rfl rfl rfl (r_move (v := (.int .i64 (i : Int))) rfl) (q1 rfl rfl rfl (o_call (vs := [(.string s), (.int .i64 (i : Int)), (.string (⟨#[46]⟩ : ByteArray))]) Tryz.func88 nm88 rfl rfl rfl ?_))))
 refine Calls.mono (set23_spec (s := s) (i := (i : Int)) (t := (⟨#[46]⟩ : ByteArray)) hX55.pins (by omega) (by omega) (by omega)) ?_
 rintro _ w59 ⟨G58, rfl, hx60⟩
 refine ⟨_, rfl, ?_⟩
 have hX61 := hX55.tr hx60
 have ho62 := ho56.ext hx60
 refine qd rfl rfl rfl (r_move (v := (.int .i64 (i : Int))) rfl) (qd rfl rfl rfl (r_move (v := (.int .i64 stp)) rfl) (qd rfl rfl rfl (r_mul rfl rfl (by omega)) (qd rfl rfl rfl (r_add rfl rfl (by omega)) (qd rfl rfl rfl (r_move (v := (.string (s.extract i ((i : Int) + 1).toNat))) rfl) (q1 rfl rfl rfl (o_call (vs := [(.string (setX s i (⟨#[46]⟩ : ByteArray))), (.int .i64 ((i : Int) + (2 * stp))), (.string (s.extract i ((i : Int) + 1).toNat))]) Tryz.func88 nm88 rfl rfl rfl ?_))))))
 refine Calls.mono (set23_spec (s := (setX s i (⟨#[46]⟩ : ByteArray))) (i := ((i : Int) + (2 * stp))) (t := (s.extract i ((i : Int) + 1).toNat)) hX61.pins (by omega) (by omega) (by omega)) ?_
 rintro _ w64 ⟨G63, rfl, hx65⟩
 refine ⟨_, rfl, ?_⟩
 have hX66 := hX61.tr hx65
 have ho67 := ho62.ext hx65
 refine q1 rfl rfl rfl (o_buildF (E := eStr) (e := 9) [(.string (setX (setX s i (⟨#[46]⟩ : ByteArray)) ((i : Int) + (2 * stp)).toNat (s.extract i ((i : Int) + 1).toNat)))] [setX (setX s i (⟨#[46]⟩ : ByteArray)) ((i : Int) + (2 * stp)).toNat (s.extract i ((i : Int) + 1).toNat)] Tryz.underlying22 sz9 zr9 (by exact reps1 (by rfl)) (ones1 (by rfl)) rfl rfl rfl rfl (by decide) hX66.pins (fun u68 w69 ho70 hp71 hl72 hk73 => ?_))
 have hX74 := hX66.step hp71 hl72
 have ho75 := ho67.below hl72
 have ho77 : Own eStr 9 G63 w69 w.heap.size u68 ([setX (setX s i (⟨#[46]⟩ : ByteArray)) ((i : Int) + (2 * stp)).toNat (s.extract i ((i : Int) + 1).toNat)]) := ho70.weaken hX66.size
 refine q1 rfl rfl rfl (o_append (E := eStr) (v := u36) (u := u68) 16 Tryz.underlying22 ap9 (by decide) rfl rfl hX74.pins ho75 ho77.src (by first | omega | (rw [List.nil_append]; omega) | (rw [List.length_nil]; omega) | (rw [List.length_append]; omega) | (simp; done) | (simp; omega) | (simp only [List.length_cons, List.length_nil]; omega) | (simp only [List.length_append, List.length_cons, List.length_nil]; omega)) (by first | omega | (rw [List.nil_append]; omega) | (rw [List.length_nil]; omega) | (rw [List.length_append]; omega) | (simp; done) | (simp; omega) | (simp only [List.length_cons, List.length_nil]; omega) | (simp only [List.length_append, List.length_cons, List.length_nil]; omega)) (hX74.size) (fun u78 w79 ho80 hp81 hg82 hw83 => ?_))
 have hX84 := hX74.write hp81 hg82 ((lo_own ho75))
 have hm87 : ((([]) ++ ([setX (setX s i (⟨#[46]⟩ : ByteArray)) ((i : Int) + stp).toNat (s.extract i ((i : Int) + 1).toNat)])) ++ ([setX (setX s i (⟨#[46]⟩ : ByteArray)) ((i : Int) + (2 * stp)).toNat (s.extract i ((i : Int) + 1).toNat)])).length = (([]) ++ ([setX (setX s i (⟨#[46]⟩ : ByteArray)) ((i : Int) + stp).toNat (s.extract i ((i : Int) + 1).toNat)])).length + 1 := List.length_append
 refine qd rfl rfl rfl (r_assign (v := u78) rfl) (qe (s_then (s_seq (c_reg ?_))))
 refine qd rfl rfl rfl (r_move (v := u78) rfl) (qd rfl rfl rfl (r_assign (v := u78) rfl) (qe (s_then ?_)))
 refine wp_ret (s_ret (c_ret1 (v := u78) rfl rfl rfl ?_))
 obtain ⟨G88, hle91, hX90, hr89, hf92⟩ := ho80.sealed hX84
 exact ⟨_, _, rfl, (by unfold frogM; rw [if_pos (u8_eq h15), if_pos ⟨u8_eq h51, u8_eq h57⟩, ← set_two hi (k := (i : Int) + stp) (cB_at (by rw [h15]; decide)), ← set_two hi (k := (i : Int) + 2 * stp) (cB_at (by rw [h57]; decide))]; exact hr89), hX90⟩
 refine wp_skip (s_then (s_seq (c_reg ?_)))
 refine qd rfl rfl rfl (r_move (v := u36) rfl) (qd rfl rfl rfl (r_assign (v := u36) rfl) (qe (s_then ?_)))
 refine wp_ret (s_ret (c_ret1 (v := u36) rfl rfl rfl ?_))
 obtain ⟨G93, hle96, hX95, hr94, hf97⟩ := ho56.sealed hX55
 exact ⟨_, _, rfl, (by unfold frogM; rw [if_pos (u8_eq h15), if_neg (fun e => u8_ne h57 e.2), ← set_two hi (k := (i : Int) + stp) (cB_at (by rw [h15]; decide))]; exact hr94), hX95⟩
 refine qs rfl rfl rfl rfl rfl rfl (qs rfl rfl rfl rfl rfl rfl (qs rfl rfl rfl rfl rfl rfl (qs rfl rfl rfl rfl rfl rfl (qs rfl rfl rfl rfl rfl rfl (qs rfl rfl rfl rfl rfl rfl (qd rfl rfl rfl (r_pickF (v := (.bool false)) rfl rfl) (qe (s_then ?_))))))))
 refine c_ifF rfl rfl (wp_skip (s_then (s_seq (c_reg ?_))))
 refine qd rfl rfl rfl (r_move (v := u36) rfl) (qd rfl rfl rfl (r_assign (v := u36) rfl) (qe (s_then ?_)))
 refine wp_ret (s_ret (c_ret1 (v := u36) rfl rfl rfl ?_))
 obtain ⟨G98, hle101, hX100, hr99, hf102⟩ := ho50.sealed hX49
 exact ⟨_, _, rfl, (by unfold frogM; rw [if_pos (u8_eq h15), if_neg (fun e => u8_ne h51 e.1), ← set_two hi (k := (i : Int) + stp) (cB_at (by rw [h15]; decide))]; exact hr99), hX100⟩
 refine wp_skip (s_then (s_seq (s_seq (c_reg ?_))))
 refine qd rfl rfl rfl (r_move (v := (.string s)) rfl) (qd rfl rfl rfl (r_move (v := (.int .i64 (i : Int))) rfl) (qd rfl rfl rfl (r_move (v := (.int .i64 stp)) rfl) (qd rfl rfl rfl (r_add rfl rfl (by omega)) (qd rfl rfl rfl (r_move (v := (.int .u8 (c.toNat : Int))) rfl) (q1 rfl rfl rfl (o_call (vs := [(.string s), (.int .i64 ((i : Int) + stp)), (.int .u8 (c.toNat : Int))]) Tryz.func87 nm87 rfl rfl rfl ?_))))))
 refine Calls.mono (is23_spec (s := s) (i := ((i : Int) + stp)) (c := c) hX13.pins (by omega) (by first | decide | assumption | exact mineS_pos _)) ?_
 rintro _ w104 ⟨G103, rfl, hx105⟩
 refine ⟨_, rfl, ?_⟩
 have hX106 := hX13.tr hx105
 have ho107 := ho14.ext hx105
 refine qd rfl rfl rfl (r_move (v := (.bool (decide (((cB s ((i : Int) + stp)).toNat : Int) = (c.toNat : Int))))) rfl) (qbd (p := ((cB s ((i : Int) + stp)).toNat : Int) = (c.toNat : Int)) (t := 39) rfl (fun h108 => ?_) (fun h108 => ?_))
 refine qdg rfl rfl rfl rfl rfl rfl (r_move (v := (.string s)) rfl) (qdg rfl rfl rfl rfl rfl rfl (r_move (v := (.int .i64 (i : Int))) rfl) (qdg rfl rfl rfl rfl rfl rfl (r_move (v := (.int .i64 stp)) rfl) (qdg rfl rfl rfl rfl rfl rfl (r_mul rfl rfl (by omega)) (qdg rfl rfl rfl rfl rfl rfl (r_add rfl rfl (by omega)) (q1g rfl rfl rfl rfl rfl rfl (o_call (vs := [(.string s), (.int .i64 ((i : Int) + (2 * stp))), (.int .u8 46)]) Tryz.func87 nm87 rfl rfl rfl ?_))))))
 refine Calls.mono (is23_spec (s := s) (i := ((i : Int) + (2 * stp))) (c := (46 : UInt8)) hX106.pins (by omega) (by first | decide | assumption | exact mineS_pos _)) ?_
 rintro _ w110 ⟨G109, rfl, hx111⟩
 refine ⟨_, rfl, ?_⟩
 have hX112 := hX106.tr hx111
 have ho113 := ho107.ext hx111
 refine qd rfl rfl rfl (r_pickT (v := (.bool (decide (((cB s ((i : Int) + (2 * stp))).toNat : Int) = ((46 : UInt8).toNat : Int))))) rfl rfl) (qe (s_then ?_))
 refine c_ifd (p := ((cB s ((i : Int) + (2 * stp))).toNat : Int) = ((46 : UInt8).toNat : Int)) rfl rfl (fun h114 => ?_) (fun h114 => ?_)
 refine c_reg ?_
 have hat := cB_at (by rw [h114]; decide)
 have hsx : (setX s i (⟨#[46]⟩ : ByteArray)).size = s.size := by rw [setX_one hi, st1_size]
 have hmz : (s.extract i (i + 1)).size = 1 := by rw [me_is hi]; rfl
 have h46 : (⟨#[46]⟩ : ByteArray).size = 1 := rfl
 refine qd rfl rfl rfl (r_move (v := u1) rfl) (qd rfl rfl rfl (r_move (v := (.string s)) rfl) (qd rfl rfl rfl (r_move (v := (.int .i64 (i : Int))) rfl) (q1 rfl rfl rfl (o_call (vs := [(.string s), (.int .i64 (i : Int)), (.string (⟨#[46]⟩ : ByteArray))]) Tryz.func88 nm88 rfl rfl rfl ?_))))
 refine Calls.mono (set23_spec (s := s) (i := (i : Int)) (t := (⟨#[46]⟩ : ByteArray)) hX112.pins (by omega) (by omega) (by omega)) ?_
 rintro _ w116 ⟨G115, rfl, hx117⟩
 refine ⟨_, rfl, ?_⟩
 have hX118 := hX112.tr hx117
 have ho119 := ho113.ext hx117
 refine qd rfl rfl rfl (r_move (v := (.int .i64 (i : Int))) rfl) (qd rfl rfl rfl (r_move (v := (.int .i64 stp)) rfl) (qd rfl rfl rfl (r_mul rfl rfl (by omega)) (qd rfl rfl rfl (r_add rfl rfl (by omega)) (qd rfl rfl rfl (r_move (v := (.string (s.extract i ((i : Int) + 1).toNat))) rfl) (q1 rfl rfl rfl (o_call (vs := [(.string (setX s i (⟨#[46]⟩ : ByteArray))), (.int .i64 ((i : Int) + (2 * stp))), (.string (s.extract i ((i : Int) + 1).toNat))]) Tryz.func88 nm88 rfl rfl rfl ?_))))))
 refine Calls.mono (set23_spec (s := (setX s i (⟨#[46]⟩ : ByteArray))) (i := ((i : Int) + (2 * stp))) (t := (s.extract i ((i : Int) + 1).toNat)) hX118.pins (by omega) (by omega) (by omega)) ?_
 rintro _ w121 ⟨G120, rfl, hx122⟩
 refine ⟨_, rfl, ?_⟩
 have hX123 := hX118.tr hx122
 have ho124 := ho119.ext hx122
 refine q1 rfl rfl rfl (o_buildF (E := eStr) (e := 9) [(.string (setX (setX s i (⟨#[46]⟩ : ByteArray)) ((i : Int) + (2 * stp)).toNat (s.extract i ((i : Int) + 1).toNat)))] [setX (setX s i (⟨#[46]⟩ : ByteArray)) ((i : Int) + (2 * stp)).toNat (s.extract i ((i : Int) + 1).toNat)] Tryz.underlying22 sz9 zr9 (by exact reps1 (by rfl)) (ones1 (by rfl)) rfl rfl rfl rfl (by decide) hX123.pins (fun u125 w126 ho127 hp128 hl129 hk130 => ?_))
 have hX131 := hX123.step hp128 hl129
 have ho132 := ho124.below hl129
 have ho134 : Own eStr 9 G120 w126 w.heap.size u125 ([setX (setX s i (⟨#[46]⟩ : ByteArray)) ((i : Int) + (2 * stp)).toNat (s.extract i ((i : Int) + 1).toNat)]) := ho127.weaken hX123.size
 refine q1 rfl rfl rfl (o_append (E := eStr) (v := u1) (u := u125) 16 Tryz.underlying22 ap9 (by decide) rfl rfl hX131.pins ho132 ho134.src (by first | omega | (rw [List.nil_append]; omega) | (rw [List.length_nil]; omega) | (rw [List.length_append]; omega) | (simp; done) | (simp; omega) | (simp only [List.length_cons, List.length_nil]; omega) | (simp only [List.length_append, List.length_cons, List.length_nil]; omega)) (by first | omega | (rw [List.nil_append]; omega) | (rw [List.length_nil]; omega) | (rw [List.length_append]; omega) | (simp; done) | (simp; omega) | (simp only [List.length_cons, List.length_nil]; omega) | (simp only [List.length_append, List.length_cons, List.length_nil]; omega)) (hX131.size) (fun u135 w136 ho137 hp138 hg139 hw140 => ?_))
 have hX141 := hX131.write hp138 hg139 ((lo_own ho132))
 have hm144 : (([]) ++ ([setX (setX s i (⟨#[46]⟩ : ByteArray)) ((i : Int) + (2 * stp)).toNat (s.extract i ((i : Int) + 1).toNat)])).length = ([]).length + 1 := List.length_append
 refine qd rfl rfl rfl (r_assign (v := u135) rfl) (qe (s_then (s_seq (c_reg ?_))))
 refine qd rfl rfl rfl (r_move (v := u135) rfl) (qd rfl rfl rfl (r_assign (v := u135) rfl) (qe (s_then ?_)))
 refine wp_ret (s_ret (c_ret1 (v := u135) rfl rfl rfl ?_))
 obtain ⟨G145, hle148, hX147, hr146, hf149⟩ := ho137.sealed hX141
 exact ⟨_, _, rfl, (by unfold frogM; rw [if_neg (u8_ne h15), if_pos ⟨u8_eq h108, u8_eq h114⟩, ← set_two hi (k := (i : Int) + 2 * stp) (cB_at (by rw [h114]; decide))]; exact hr146), hX147⟩
 refine wp_skip (s_then (s_seq (c_reg ?_)))
 refine qd rfl rfl rfl (r_move (v := u1) rfl) (qd rfl rfl rfl (r_assign (v := u1) rfl) (qe (s_then ?_)))
 refine wp_ret (s_ret (c_ret1 (v := u1) rfl rfl rfl ?_))
 obtain ⟨G150, hle153, hX152, hr151, hf154⟩ := ho113.sealed hX112
 exact ⟨_, _, rfl, (by unfold frogM; rw [if_neg (u8_ne h15), if_neg (fun e => u8_ne h114 e.2)]; exact hr151), hX152⟩
 refine qs rfl rfl rfl rfl rfl rfl (qs rfl rfl rfl rfl rfl rfl (qs rfl rfl rfl rfl rfl rfl (qs rfl rfl rfl rfl rfl rfl (qs rfl rfl rfl rfl rfl rfl (qs rfl rfl rfl rfl rfl rfl (qd rfl rfl rfl (r_pickF (v := (.bool false)) rfl rfl) (qe (s_then ?_))))))))
 refine c_ifF rfl rfl (wp_skip (s_then (s_seq (c_reg ?_))))
 refine qd rfl rfl rfl (r_move (v := u1) rfl) (qd rfl rfl rfl (r_assign (v := u1) rfl) (qe (s_then ?_)))
 refine wp_ret (s_ret (c_ret1 (v := u1) rfl rfl rfl ?_))
 obtain ⟨G155, hle158, hX157, hr156, hf159⟩ := ho107.sealed hX106
 exact ⟨_, _, rfl, (by unfold frogM; rw [if_neg (u8_ne h15), if_neg (fun e => u8_ne h108 e.1)]; exact hr156), hX157⟩

end PS8
end Go.Proofs.YtianphgdbfekdaaGreatDoor
