/- Texts of this claim in one file: PS9, RM6, PW9, PWA, LPM. -/
import Derived.Test.YtianphgdbfekdaaGreatDoorPm5
import Derived.Test.YtianphgdbfekdaaGreatDoorChecked
set_option maxRecDepth 20000
set_option maxHeartbeats 2000000
namespace Go.Proofs.YtianphgdbfekdaaGreatDoor
namespace PS9
open Go.RowKit Go.GL Go.Proofs
open PS6 PS7 PS8






theorem mv23_true {w : World} {G : Pin} {kind : Int} {s : ByteArray} (hP : Pins G w) (hs : s.size ≤ 1000) (hkd : 0 ≤ kind ∧ kind ≤ 3) :
  Calls Tryz.prog 55 [(.int .i64 kind), (.string s), (.bool true)].toArray w fun e w' => ∃ (u : Value) (G' : Pin), e = .returned u ∧ RSl eStr G' u (stripM kind s true) ∧ Ext noS G w G' w' := by
 refine s_enter (n := 116) Tryz.func55 Tryz.ntmps55 rfl rfl ?_
 have hX0 : Ext noS G w G w := Ext.refl hP
 refine s_seq (c_reg ?_)
 refine qd rfl rfl rfl (r_assign (v := (.slice none 0 0)) rfl) (qe (s_then (s_seq (c_reg ?_))))
 refine q1 rfl rfl rfl (o_build0 (E := eStr) (e := 9) Tryz.underlying22 sz9 hX0.pins (fun u1 w2 ho3 hp4 hl5 hk6 => ?_))
 have hX7 := hX0.step hp4 hl5
 have ho8 : Own eStr 9 G w2 w.heap.size u1 ([]) := ho3.weaken hX0.size
 refine qd rfl rfl rfl (r_assign (v := u1) rfl) (qe (s_then (s_seq (c_reg ?_))))
 refine qd rfl rfl rfl (r_assign (v := (.string (⟨#[76]⟩ : ByteArray))) rfl) (qd rfl rfl rfl (r_assign (v := (.string (⟨#[82]⟩ : ByteArray))) rfl) (qe (s_then (s_seq (s_seq (c_reg ?_))))))
 refine qd rfl rfl rfl (r_move (v := (.bool true)) rfl) (qd rfl rfl rfl (r_not rfl) (qe (s_then ?_)))
 refine c_ifF rfl rfl (wp_skip (s_then (s_seq (s_seq (c_reg ?_)))))
 refine qd rfl rfl rfl (r_assign (v := (.int .i64 0)) rfl) (qe (s_then ?_))
 refine s_blk (s_loop (fun (k : Nat) (en : Nat → Value) (W : World) => ∃ (env1 : Nat → Value) (i9 : Nat) (ov : Value) (os : List ByteArray) (GL1 : Pin), en = (upd (upd (upd (upd (upd (upd (upd (upd env1 0 (.int .i64 kind)) 1 (.string s)) 2 (.bool true)) 6 (.slice none 0 0)) 7 ov) 8 (.string (⟨#[76]⟩ : ByteArray))) 9 (.string (⟨#[82]⟩ : ByteArray))) 10 (.int .i64 (i9 : Int))) ∧ k = s.size - i9 ∧ Ext noS G w GL1 W ∧ Pin.le G GL1 ∧ (i9 ≤ s.size) ∧ (os = runM (cellM kind s true) i9) ∧ (os.length ≤ 2 * i9) ∧ (Own eStr 9 GL1 W w.heap.size ov (os))) _ ⟨_, 0, u1, [], G, (packS (x := 10) (packS (x := 9) (packS (x := 8) (packS (x := 7) (packS (x := 6) (packS (x := 2) (packS (x := 1) (pack1 (x := 0) rfl) rfl) rfl) rfl) rfl) rfl) rfl) rfl), rfl, hX7, Pin.le_refl _, Nat.zero_le _, rfl, (by simp), ho8⟩ ?_)
 rintro k9 _ w10 ⟨env1, i9, ov, os, GL1, rfl, hk11, hX12, hlek9, hi, hos, hol, hw13⟩
 refine s_seq (s_seq (c_reg ?_))
 refine qd rfl rfl rfl (r_move (v := (.int .i64 (i9 : Int))) rfl) (qd rfl rfl rfl (r_move (v := (.string s)) rfl) (qd rfl rfl rfl (r_lenS Tryz.underlying9 rfl) (qd rfl rfl rfl (r_lss rfl rfl) (qe (s_then ?_)))))
 refine c_ifd (p := ((i9 : Int) : Int) < (s.size : Int)) rfl rfl (fun h14 => ?_) (fun h14 => ?_)
 refine wp_skip (s_then (s_seq ?_))
 refine s_blk (s_seq (c_reg ?_))
 refine qd rfl rfl rfl (r_move (v := (.int .i64 kind)) rfl) (qe (s_then ?_))
 refine s_blk (s_seq (c_reg ?_))
 refine qd rfl rfl rfl (r_eql rfl rfl) (qd rfl rfl rfl (r_assign (v := (.bool (decide ((kind : Int) = 0)))) rfl) (qe (s_then ?_)))
 refine c_ifd (p := (kind : Int) = 0) rfl rfl (fun h15 => ?_) (fun h15 => ?_)
 refine s_seq (s_seq (c_reg ?_))
 refine qd rfl rfl rfl (r_move (v := (.bool true)) rfl) (qd rfl rfl rfl (r_move (v := (.bool true)) rfl) (qdg rfl rfl rfl rfl rfl rfl (r_move (v := (.string s)) rfl) (qdg rfl rfl rfl rfl rfl rfl (r_move (v := (.int .i64 (i9 : Int))) rfl) (qdg rfl rfl rfl rfl rfl rfl (r_idxB Tryz.underlying9 rfl rfl (by omega) (by omega)) (qdg rfl rfl rfl rfl rfl rfl (r_eql rfl rfl) (qd rfl rfl rfl (r_pickT (v := (.bool (decide ((((sB s i9).toNat : Int) : Int) = 84)))) rfl rfl) (qe (s_then ?_))))))))
 refine c_ifd (p := (((sB s i9).toNat : Int) : Int) = 84) rfl rfl (fun h16 => ?_) (fun h16 => ?_)
 refine c_reg (qd rfl rfl rfl (r_move (v := ov) rfl) (qd rfl rfl rfl (r_move (v := (.string s)) rfl) (qd rfl rfl rfl (r_move (v := (.int .i64 (i9 : Int))) rfl) (q1 rfl rfl rfl (o_call (vs := [(.string s), (.int .i64 (i9 : Int)), (.int .i64 1), (.int .u8 70)]) Tryz.func86 nm86 rfl rfl rfl ?_)))))
 refine Calls.mono (frog_spec (s := s) (i := i9) (stp := 1) (c := (70 : UInt8)) hX12.pins (by omega) (by omega) (by omega) (by decide)) ?_
 rintro _ w19 ⟨u17, G18, rfl, hr20, hx21⟩
 refine ⟨_, rfl, ?_⟩
 have hX22 := hX12.tr hx21
 have ho23 := hw13.ext hx21
 have hm24 : (frogM s i9 1 (70 : UInt8)).length ≤ 2 := frog_len
 refine q1 rfl rfl rfl (o_append (E := eStr) (v := ov) (u := u17) 16 Tryz.underlying22 ap9 (by decide) rfl rfl hX22.pins ho23 ((hr20.mono (Pin.le_refl _)).src hX22.pins (by decide)) (by first | omega | (rw [List.nil_append]; omega) | (rw [List.length_nil]; omega) | (rw [List.length_append]; omega) | (simp; done) | (simp; omega) | (simp only [List.length_cons, List.length_nil]; omega) | (simp only [List.length_append, List.length_cons, List.length_nil]; omega)) (by first | omega | (rw [List.nil_append]; omega) | (rw [List.length_nil]; omega) | (rw [List.length_append]; omega) | (simp; done) | (simp; omega) | (simp only [List.length_cons, List.length_nil]; omega) | (simp only [List.length_append, List.length_cons, List.length_nil]; omega)) (hX22.size) (fun u25 w26 ho27 hp28 hg29 hw30 => ?_))
 have hX31 := hX22.write hp28 hg29 ((lo_own ho23))
 have hm32 : (os ++ (frogM s i9 1 (70 : UInt8))).length = os.length + (frogM s i9 1 (70 : UInt8)).length := List.length_append
 refine qd rfl rfl rfl (r_assign (v := u25) rfl) (qe (s_then (s_seq (c_reg ?_))))
 refine qd rfl rfl rfl (r_move (v := (.bool true)) rfl) (qd rfl rfl rfl (r_not rfl) (qd rfl rfl rfl (r_move (v := (.bool false)) rfl) (qs rfl rfl rfl rfl rfl rfl (qs rfl rfl rfl rfl rfl rfl (qs rfl rfl rfl rfl rfl rfl (qs rfl rfl rfl rfl rfl rfl (qd rfl rfl rfl (r_pickF (v := (.bool false)) rfl rfl) (qe (s_then ?_)))))))))
 refine c_ifF rfl rfl (wp_skip (s_blkN (s_blkN (s_then (c_reg ?_)))))
 refine qd rfl rfl rfl (r_move (v := (.int .i64 (i9 : Int))) rfl) (qd rfl rfl rfl (r_add rfl rfl (by omega)) (qd rfl rfl rfl (r_assign (v := (.int .i64 ((i9 : Int) + 1))) rfl) (qe (s_lopN (⟨_, ?_, _, rfl, _, i9 + 1, u25, os ++ (frogM s i9 1 (70 : UInt8)), G18, (packS (x := 10) (packS (x := 9) (packS (x := 8) (packS (x := 7) (packS (x := 6) (packS (x := 2) (packS (x := 1) (pack1 (x := 0) rfl) rfl) rfl) rfl) rfl) rfl) rfl) rfl), rfl, hX31, (Pin.le_trans hlek9 hx21.le), (by omega), (run_app hos (frog_at (left := true) h15 h16)), (by simp only [List.length_append]; omega), ho27⟩)))))
 omega
 refine wp_skip (s_then (s_seq (c_reg ?_)))
 refine qd rfl rfl rfl (r_move (v := (.bool true)) rfl) (qd rfl rfl rfl (r_not rfl) (qd rfl rfl rfl (r_move (v := (.bool false)) rfl) (qs rfl rfl rfl rfl rfl rfl (qs rfl rfl rfl rfl rfl rfl (qs rfl rfl rfl rfl rfl rfl (qs rfl rfl rfl rfl rfl rfl (qd rfl rfl rfl (r_pickF (v := (.bool false)) rfl rfl) (qe (s_then ?_)))))))))
 refine c_ifF rfl rfl (wp_skip (s_blkN (s_blkN (s_then (c_reg ?_)))))
 refine qd rfl rfl rfl (r_move (v := (.int .i64 (i9 : Int))) rfl) (qd rfl rfl rfl (r_add rfl rfl (by omega)) (qd rfl rfl rfl (r_assign (v := (.int .i64 ((i9 : Int) + 1))) rfl) (qe (s_lopN (⟨_, ?_, _, rfl, _, i9 + 1, ov, os, GL1, (packS (x := 10) (packS (x := 9) (packS (x := 8) (packS (x := 7) (packS (x := 6) (packS (x := 2) (packS (x := 1) (pack1 (x := 0) rfl) rfl) rfl) rfl) rfl) rfl) rfl) rfl), rfl, hX12, hlek9, (by omega), (run_nil hos (frog_no (left := true) h15 h16)), (by omega), hw13⟩)))))
 omega
 refine s_seq (c_reg ?_)
 refine qd rfl rfl rfl (r_eql rfl rfl) (qd rfl rfl rfl (r_assign (v := (.bool (decide ((kind : Int) = 1)))) rfl) (qe (s_then ?_)))
 refine c_ifd (p := (kind : Int) = 1) rfl rfl (fun h33 => ?_) (fun h33 => ?_)
 refine s_seq (c_reg ?_)
 refine qd rfl rfl rfl (r_assign (v := (.int .i64 (-1))) rfl) (qe (s_then ?_))
 refine s_blk (s_loop (fun (k : Nat) (en : Nat → Value) (W : World) => ∃ (env1 : Nat → Value) (q9 : Nat) (ov2 : Value) (os2 : List ByteArray) (GL2 : Pin), en = (upd (upd (upd (upd (upd (upd (upd (upd (upd env1 0 (.int .i64 kind)) 1 (.string s)) 2 (.bool true)) 6 (.slice none 0 0)) 7 ov2) 8 (.string (⟨#[76]⟩ : ByteArray))) 9 (.string (⟨#[82]⟩ : ByteArray))) 10 (.int .i64 (i9 : Int))) 11 (.int .i64 (2 * (q9 : Int) - 1))) ∧ k = 2 - q9 ∧ Ext noS G w GL2 W ∧ Pin.le GL1 GL2 ∧ (q9 ≤ 2) ∧ (os2 = os ++ runM (clobP s true i9) q9) ∧ (os2.length ≤ 2 * i9 + q9) ∧ (Own eStr 9 GL2 W w.heap.size ov2 (os2))) _ ⟨_, 0, ov, os, GL1, (packS (x := 11) (packS (x := 10) (packS (x := 9) (packS (x := 8) (packS (x := 7) (packS (x := 6) (packS (x := 2) (packS (x := 1) (pack1 (x := 0) rfl) rfl) rfl) rfl) rfl) rfl) rfl) rfl) rfl), rfl, hX12, Pin.le_refl _, Nat.zero_le _, (List.append_nil _).symm, (by omega), hw13⟩ ?_)
 rintro k34 _ w35 ⟨env1, q9, ov2, os2, GL2, rfl, hk36, hX37, hlek34, hq, hos2, hol2, hw38⟩
 refine s_seq (s_seq ?_)
 refine c_draw (S := fun wz => Pins GL2 wz) (last := 10) (by kernel_rfl) rfl ?_
 have hl39 : Below w35.heap.size w35 w35.drew := (Below.refl _ _).drew
 have hp40 := hX37.pins.below hl39
 have hX41 := hX37.step hp40 hl39
 have ho42 := hw38.below hl39
 refine dr_take (i := 0) rfl rfl rfl (want_none rfl _) (by kernel_rfl) (fun _ _ => r_move (v := (.int .i64 (2 * (q9 : Int) - 1))) rfl) hX41.pins (dr_take (i := 1) rfl rfl rfl (want_none rfl _) (by kernel_rfl) (fun _ _ => r_leq rfl rfl) hX41.pins (dr_take (i := 2) rfl rfl rfl (want_none rfl _) (by kernel_rfl) (fun _ _ => r_move (v := (.bool (decide ((2 * (q9 : Int) - 1 : Int) ≤ 1)))) rfl) hX41.pins (drbd (p := (2 * (q9 : Int) - 1 : Int) ≤ 1) (t := 87) rfl (fun h43 => ?_) (fun h43 => ?_))))
 rcases (show q9 = 0 ∨ q9 = 1 by omega) with hcs | hcs
 ·subst hcs
  refine dr_take (i := 3) rfl rfl rfl (want_yes rfl rfl rfl rfl) (by kernel_rfl) (fun _ _ => r_move (v := (.string s)) rfl) hX41.pins (dr_take (i := 4) rfl rfl rfl (want_yes rfl rfl rfl rfl) (by kernel_rfl) (fun _ _ => r_move (v := (.int .i64 (i9 : Int))) rfl) hX41.pins (dr_take (i := 5) rfl rfl rfl (want_yes rfl rfl rfl rfl) (by kernel_rfl) (fun _ _ => r_idxB Tryz.underlying9 rfl rfl (by omega) (by omega)) hX41.pins (dr_take (i := 6) rfl rfl rfl (want_yes rfl rfl rfl rfl) (by kernel_rfl) (fun _ _ => r_move (v := (.string (⟨#[76]⟩ : ByteArray))) rfl) hX41.pins (dr_take (i := 7) rfl rfl rfl (want_yes rfl rfl rfl rfl) (by kernel_rfl) (fun _ _ => r_idx1 (c := 76) Tryz.underlying9 rfl rfl) hX41.pins (dr_take (i := 8) rfl rfl rfl (want_yes rfl rfl rfl rfl) (by kernel_rfl) (fun _ _ => r_eql rfl rfl) hX41.pins (dr_take (i := 9) rfl rfl rfl (want_none rfl _) (by kernel_rfl) (fun _ _ => r_pickT (v := (.bool (decide ((((sB s i9).toNat : Int) : Int) = ((76 : UInt8).toNat : Int))))) rfl rfl) hX41.pins (dr_end (by kernel_rfl) (s_then (c_ifd (p := (((sB s i9).toNat : Int) : Int) = ((76 : UInt8).toNat : Int)) rfl rfl (fun h44 => ?_) (fun h44 => ?_))))))))))
  refine wp_skip (s_then (s_seq ?_))
  refine s_blk (s_seq (c_reg ?_))
  refine qd rfl rfl rfl (r_move (v := (.string s)) rfl) (qd rfl rfl rfl (r_move (v := (.int .i64 (i9 : Int))) rfl) (qd rfl rfl rfl (r_move (v := (.int .i64 (2 * ((0 : Nat) : Int) - 1))) rfl) (qd rfl rfl rfl (r_add rfl rfl (by omega)) (qd rfl rfl rfl (r_move (v := (.string (⟨#[82]⟩ : ByteArray))) rfl) (qd rfl rfl rfl (r_idx1 (c := 82) Tryz.underlying9 rfl rfl) (q1 rfl rfl rfl (o_call (vs := [(.string s), (.int .i64 ((i9 : Int) + (2 * ((0 : Nat) : Int) - 1))), (.int .u8 ((82 : UInt8).toNat : Int))]) Tryz.func87 nm87 rfl rfl rfl ?_)))))))
  refine Calls.mono (is23_spec (s := s) (i := ((i9 : Int) + (2 * ((0 : Nat) : Int) - 1))) (c := (82 : UInt8)) hX41.pins (by omega) (by first | decide | assumption | exact mineS_pos _)) ?_
  rintro _ w46 ⟨G45, rfl, hx47⟩
  refine ⟨_, rfl, ?_⟩
  have hX48 := hX41.tr hx47
  have ho49 := ho42.ext hx47
  refine qe (s_then ?_)
  refine c_ifd (p := ((cB s ((i9 : Int) + (2 * ((0 : Nat) : Int) - 1))).toNat : Int) = ((82 : UInt8).toNat : Int)) rfl rfl (fun h50 => ?_) (fun h50 => ?_)
  refine c_reg ?_
  have hat := cB_at (by rw [h50]; decide)
  have hsx : (setX s i9 (⟨#[46]⟩ : ByteArray)).size = s.size := by rw [setX_one (by omega), st1_size]
  have h46 : (⟨#[46]⟩ : ByteArray).size = 1 := rfl
  have hmn : (⟨#[76]⟩ : ByteArray).size = 1 := rfl
  refine qd rfl rfl rfl (r_move (v := ov2) rfl) (qd rfl rfl rfl (r_move (v := (.string s)) rfl) (qd rfl rfl rfl (r_move (v := (.int .i64 (i9 : Int))) rfl) (q1 rfl rfl rfl (o_call (vs := [(.string s), (.int .i64 (i9 : Int)), (.string (⟨#[46]⟩ : ByteArray))]) Tryz.func88 nm88 rfl rfl rfl ?_))))
  refine Calls.mono (set23_spec (s := s) (i := (i9 : Int)) (t := (⟨#[46]⟩ : ByteArray)) hX48.pins (by omega) (by omega) (by omega)) ?_
  rintro _ w52 ⟨G51, rfl, hx53⟩
  refine ⟨_, rfl, ?_⟩
  have hX54 := hX48.tr hx53
  have ho55 := ho49.ext hx53
  refine qd rfl rfl rfl (r_move (v := (.int .i64 (i9 : Int))) rfl) (qd rfl rfl rfl (r_move (v := (.int .i64 (2 * ((0 : Nat) : Int) - 1))) rfl) (qd rfl rfl rfl (r_add rfl rfl (by omega)) (qd rfl rfl rfl (r_move (v := (.string (⟨#[76]⟩ : ByteArray))) rfl) (q1 rfl rfl rfl (o_call (vs := [(.string (setX s i9 (⟨#[46]⟩ : ByteArray))), (.int .i64 ((i9 : Int) + (2 * ((0 : Nat) : Int) - 1))), (.string (⟨#[76]⟩ : ByteArray))]) Tryz.func88 nm88 rfl rfl rfl ?_)))))
  refine Calls.mono (set23_spec (s := (setX s i9 (⟨#[46]⟩ : ByteArray))) (i := ((i9 : Int) + (2 * ((0 : Nat) : Int) - 1))) (t := (⟨#[76]⟩ : ByteArray)) hX54.pins (by omega) (by omega) (by omega)) ?_
  rintro _ w57 ⟨G56, rfl, hx58⟩
  refine ⟨_, rfl, ?_⟩
  have hX59 := hX54.tr hx58
  have ho60 := ho55.ext hx58
  refine q1 rfl rfl rfl (o_buildF (E := eStr) (e := 9) [(.string (setX (setX s i9 (⟨#[46]⟩ : ByteArray)) ((i9 : Int) + (2 * ((0 : Nat) : Int) - 1)).toNat (⟨#[76]⟩ : ByteArray)))] [setX (setX s i9 (⟨#[46]⟩ : ByteArray)) ((i9 : Int) + (2 * ((0 : Nat) : Int) - 1)).toNat (⟨#[76]⟩ : ByteArray)] Tryz.underlying22 sz9 zr9 (by exact reps1 (by rfl)) (ones1 (by rfl)) rfl rfl rfl rfl (by decide) hX59.pins (fun u61 w62 ho63 hp64 hl65 hk66 => ?_))
  have hX67 := hX59.step hp64 hl65
  have ho68 := ho60.below hl65
  have ho70 : Own eStr 9 G56 w62 w.heap.size u61 ([setX (setX s i9 (⟨#[46]⟩ : ByteArray)) ((i9 : Int) + (2 * ((0 : Nat) : Int) - 1)).toNat (⟨#[76]⟩ : ByteArray)]) := ho63.weaken hX59.size
  refine q1 rfl rfl rfl (o_append (E := eStr) (v := ov2) (u := u61) 16 Tryz.underlying22 ap9 (by decide) rfl rfl hX67.pins ho68 ho70.src (by first | omega | (rw [List.nil_append]; omega) | (rw [List.length_nil]; omega) | (rw [List.length_append]; omega) | (simp; done) | (simp; omega) | (simp only [List.length_cons, List.length_nil]; omega) | (simp only [List.length_append, List.length_cons, List.length_nil]; omega)) (by first | omega | (rw [List.nil_append]; omega) | (rw [List.length_nil]; omega) | (rw [List.length_append]; omega) | (simp; done) | (simp; omega) | (simp only [List.length_cons, List.length_nil]; omega) | (simp only [List.length_append, List.length_cons, List.length_nil]; omega)) (hX67.size) (fun u71 w72 ho73 hp74 hg75 hw76 => ?_))
  have hX77 := hX67.write hp74 hg75 ((lo_own ho68))
  have hm80 : (os2 ++ ([setX (setX s i9 (⟨#[46]⟩ : ByteArray)) ((i9 : Int) + (2 * ((0 : Nat) : Int) - 1)).toNat (⟨#[76]⟩ : ByteArray)])).length = os2.length + 1 := List.length_append
  refine qd rfl rfl rfl (r_assign (v := u71) rfl) (qe (s_blkN (s_then (c_reg ?_))))
  refine qd rfl rfl rfl (r_move (v := (.int .i64 (2 * ((0 : Nat) : Int) - 1))) rfl) (qd rfl rfl rfl (r_add rfl rfl (by omega)) (qd rfl rfl rfl (r_assign (v := (.int .i64 ((2 * ((0 : Nat) : Int) - 1) + 2))) rfl) (qe (s_lopN (⟨_, ?_, _, rfl, _, 0 + 1, u71, os2 ++ ([setX (setX s i9 (⟨#[46]⟩ : ByteArray)) ((i9 : Int) + (2 * ((0 : Nat) : Int) - 1)).toNat (⟨#[76]⟩ : ByteArray)]), G56, (packS (x := 11) (packS (x := 10) (packS (x := 9) (packS (x := 8) (packS (x := 7) (packS (x := 6) (packS (x := 2) (packS (x := 1) (pack1 (x := 0) rfl) rfl) rfl) rfl) rfl) rfl) rfl) rfl) rfl), rfl, hX77, (Pin.le_trans (Pin.le_trans (Pin.le_trans hlek34 hx47.le) hx53.le) hx58.le), (by omega), (by rw [hos2, List.append_assoc]; exact (congrArg (os ++ ·) (run_app rfl (by rw [setX_two (by omega) (by omega)]; exact clobR_y (left := true) (j := 0) (by rw [nb0]; omega) h44 h50)))), (by simp; omega), ho73⟩)))))
  omega
  refine wp_skip (s_blkN (s_then (c_reg ?_)))
  refine qd rfl rfl rfl (r_move (v := (.int .i64 (2 * ((0 : Nat) : Int) - 1))) rfl) (qd rfl rfl rfl (r_add rfl rfl (by omega)) (qd rfl rfl rfl (r_assign (v := (.int .i64 ((2 * ((0 : Nat) : Int) - 1) + 2))) rfl) (qe (s_lopN (⟨_, ?_, _, rfl, _, 0 + 1, ov2, os2, G45, (packS (x := 11) (packS (x := 10) (packS (x := 9) (packS (x := 8) (packS (x := 7) (packS (x := 6) (packS (x := 2) (packS (x := 1) (pack1 (x := 0) rfl) rfl) rfl) rfl) rfl) rfl) rfl) rfl) rfl), rfl, hX48, (Pin.le_trans hlek34 hx47.le), (by omega), (by rw [hos2]; exact (congrArg (os ++ ·) (run_nil rfl (clobR_b (left := true) (j := 0) (by rw [nb0]; omega) h50)))), (by omega), ho49⟩)))))
  omega
  refine wp_exit (s_thenE (s_lopE (s_blkE (s_blkN (s_blkN (s_then (c_reg ?_)))))))
  refine qd rfl rfl rfl (r_move (v := (.int .i64 (i9 : Int))) rfl) (qd rfl rfl rfl (r_add rfl rfl (by omega)) (qd rfl rfl rfl (r_assign (v := (.int .i64 ((i9 : Int) + 1))) rfl) (qe (s_lopN (⟨_, ?_, _, rfl, _, i9 + 1, ov2, os2, GL2, (packS (x := 10) (packS (x := 9) (packS (x := 8) (packS (x := 7) (packS (x := 6) (packS (x := 2) (packS (x := 1) (pack1 (x := 0) rfl) rfl) rfl) rfl) rfl) rfl) rfl) rfl), rfl, hX41, (Pin.le_trans hlek9 hlek34), (by omega), (run_join hos hos2 ((clob_no (left := true) h33 h44 0).symm)), (by omega), ho42⟩)))))
  omega
 ·subst hcs
  refine dr_take (i := 3) rfl rfl rfl (want_yes rfl rfl rfl rfl) (by kernel_rfl) (fun _ _ => r_move (v := (.string s)) rfl) hX41.pins (dr_take (i := 4) rfl rfl rfl (want_yes rfl rfl rfl rfl) (by kernel_rfl) (fun _ _ => r_move (v := (.int .i64 (i9 : Int))) rfl) hX41.pins (dr_take (i := 5) rfl rfl rfl (want_yes rfl rfl rfl rfl) (by kernel_rfl) (fun _ _ => r_idxB Tryz.underlying9 rfl rfl (by omega) (by omega)) hX41.pins (dr_take (i := 6) rfl rfl rfl (want_yes rfl rfl rfl rfl) (by kernel_rfl) (fun _ _ => r_move (v := (.string (⟨#[76]⟩ : ByteArray))) rfl) hX41.pins (dr_take (i := 7) rfl rfl rfl (want_yes rfl rfl rfl rfl) (by kernel_rfl) (fun _ _ => r_idx1 (c := 76) Tryz.underlying9 rfl rfl) hX41.pins (dr_take (i := 8) rfl rfl rfl (want_yes rfl rfl rfl rfl) (by kernel_rfl) (fun _ _ => r_eql rfl rfl) hX41.pins (dr_take (i := 9) rfl rfl rfl (want_none rfl _) (by kernel_rfl) (fun _ _ => r_pickT (v := (.bool (decide ((((sB s i9).toNat : Int) : Int) = ((76 : UInt8).toNat : Int))))) rfl rfl) hX41.pins (dr_end (by kernel_rfl) (s_then (c_ifd (p := (((sB s i9).toNat : Int) : Int) = ((76 : UInt8).toNat : Int)) rfl rfl (fun h81 => ?_) (fun h81 => ?_))))))))))
  refine wp_skip (s_then (s_seq ?_))
  refine s_blk (s_seq (c_reg ?_))
  refine qd rfl rfl rfl (r_move (v := (.string s)) rfl) (qd rfl rfl rfl (r_move (v := (.int .i64 (i9 : Int))) rfl) (qd rfl rfl rfl (r_move (v := (.int .i64 (2 * ((1 : Nat) : Int) - 1))) rfl) (qd rfl rfl rfl (r_add rfl rfl (by omega)) (qd rfl rfl rfl (r_move (v := (.string (⟨#[82]⟩ : ByteArray))) rfl) (qd rfl rfl rfl (r_idx1 (c := 82) Tryz.underlying9 rfl rfl) (q1 rfl rfl rfl (o_call (vs := [(.string s), (.int .i64 ((i9 : Int) + (2 * ((1 : Nat) : Int) - 1))), (.int .u8 ((82 : UInt8).toNat : Int))]) Tryz.func87 nm87 rfl rfl rfl ?_)))))))
  refine Calls.mono (is23_spec (s := s) (i := ((i9 : Int) + (2 * ((1 : Nat) : Int) - 1))) (c := (82 : UInt8)) hX41.pins (by omega) (by first | decide | assumption | exact mineS_pos _)) ?_
  rintro _ w83 ⟨G82, rfl, hx84⟩
  refine ⟨_, rfl, ?_⟩
  have hX85 := hX41.tr hx84
  have ho86 := ho42.ext hx84
  refine qe (s_then ?_)
  refine c_ifd (p := ((cB s ((i9 : Int) + (2 * ((1 : Nat) : Int) - 1))).toNat : Int) = ((82 : UInt8).toNat : Int)) rfl rfl (fun h87 => ?_) (fun h87 => ?_)
  refine c_reg ?_
  have hat := cB_at (by rw [h87]; decide)
  have hsx : (setX s i9 (⟨#[46]⟩ : ByteArray)).size = s.size := by rw [setX_one (by omega), st1_size]
  have h46 : (⟨#[46]⟩ : ByteArray).size = 1 := rfl
  have hmn : (⟨#[76]⟩ : ByteArray).size = 1 := rfl
  refine qd rfl rfl rfl (r_move (v := ov2) rfl) (qd rfl rfl rfl (r_move (v := (.string s)) rfl) (qd rfl rfl rfl (r_move (v := (.int .i64 (i9 : Int))) rfl) (q1 rfl rfl rfl (o_call (vs := [(.string s), (.int .i64 (i9 : Int)), (.string (⟨#[46]⟩ : ByteArray))]) Tryz.func88 nm88 rfl rfl rfl ?_))))
  refine Calls.mono (set23_spec (s := s) (i := (i9 : Int)) (t := (⟨#[46]⟩ : ByteArray)) hX85.pins (by omega) (by omega) (by omega)) ?_
  rintro _ w89 ⟨G88, rfl, hx90⟩
  refine ⟨_, rfl, ?_⟩
  have hX91 := hX85.tr hx90
  have ho92 := ho86.ext hx90
  refine qd rfl rfl rfl (r_move (v := (.int .i64 (i9 : Int))) rfl) (qd rfl rfl rfl (r_move (v := (.int .i64 (2 * ((1 : Nat) : Int) - 1))) rfl) (qd rfl rfl rfl (r_add rfl rfl (by omega)) (qd rfl rfl rfl (r_move (v := (.string (⟨#[76]⟩ : ByteArray))) rfl) (q1 rfl rfl rfl (o_call (vs := [(.string (setX s i9 (⟨#[46]⟩ : ByteArray))), (.int .i64 ((i9 : Int) + (2 * ((1 : Nat) : Int) - 1))), (.string (⟨#[76]⟩ : ByteArray))]) Tryz.func88 nm88 rfl rfl rfl ?_)))))
  refine Calls.mono (set23_spec (s := (setX s i9 (⟨#[46]⟩ : ByteArray))) (i := ((i9 : Int) + (2 * ((1 : Nat) : Int) - 1))) (t := (⟨#[76]⟩ : ByteArray)) hX91.pins (by omega) (by omega) (by omega)) ?_
  rintro _ w94 ⟨G93, rfl, hx95⟩
  refine ⟨_, rfl, ?_⟩
  have hX96 := hX91.tr hx95
  have ho97 := ho92.ext hx95
  refine q1 rfl rfl rfl (o_buildF (E := eStr) (e := 9) [(.string (setX (setX s i9 (⟨#[46]⟩ : ByteArray)) ((i9 : Int) + (2 * ((1 : Nat) : Int) - 1)).toNat (⟨#[76]⟩ : ByteArray)))] [setX (setX s i9 (⟨#[46]⟩ : ByteArray)) ((i9 : Int) + (2 * ((1 : Nat) : Int) - 1)).toNat (⟨#[76]⟩ : ByteArray)] Tryz.underlying22 sz9 zr9 (by exact reps1 (by rfl)) (ones1 (by rfl)) rfl rfl rfl rfl (by decide) hX96.pins (fun u98 w99 ho100 hp101 hl102 hk103 => ?_))
  have hX104 := hX96.step hp101 hl102
  have ho105 := ho97.below hl102
  have ho107 : Own eStr 9 G93 w99 w.heap.size u98 ([setX (setX s i9 (⟨#[46]⟩ : ByteArray)) ((i9 : Int) + (2 * ((1 : Nat) : Int) - 1)).toNat (⟨#[76]⟩ : ByteArray)]) := ho100.weaken hX96.size
  refine q1 rfl rfl rfl (o_append (E := eStr) (v := ov2) (u := u98) 16 Tryz.underlying22 ap9 (by decide) rfl rfl hX104.pins ho105 ho107.src (by first | omega | (rw [List.nil_append]; omega) | (rw [List.length_nil]; omega) | (rw [List.length_append]; omega) | (simp; done) | (simp; omega) | (simp only [List.length_cons, List.length_nil]; omega) | (simp only [List.length_append, List.length_cons, List.length_nil]; omega)) (by first | omega | (rw [List.nil_append]; omega) | (rw [List.length_nil]; omega) | (rw [List.length_append]; omega) | (simp; done) | (simp; omega) | (simp only [List.length_cons, List.length_nil]; omega) | (simp only [List.length_append, List.length_cons, List.length_nil]; omega)) (hX104.size) (fun u108 w109 ho110 hp111 hg112 hw113 => ?_))
  have hX114 := hX104.write hp111 hg112 ((lo_own ho105))
  have hm117 : (os2 ++ ([setX (setX s i9 (⟨#[46]⟩ : ByteArray)) ((i9 : Int) + (2 * ((1 : Nat) : Int) - 1)).toNat (⟨#[76]⟩ : ByteArray)])).length = os2.length + 1 := List.length_append
  refine qd rfl rfl rfl (r_assign (v := u108) rfl) (qe (s_blkN (s_then (c_reg ?_))))
  refine qd rfl rfl rfl (r_move (v := (.int .i64 (2 * ((1 : Nat) : Int) - 1))) rfl) (qd rfl rfl rfl (r_add rfl rfl (by omega)) (qd rfl rfl rfl (r_assign (v := (.int .i64 ((2 * ((1 : Nat) : Int) - 1) + 2))) rfl) (qe (s_lopN (⟨_, ?_, _, rfl, _, 1 + 1, u108, os2 ++ ([setX (setX s i9 (⟨#[46]⟩ : ByteArray)) ((i9 : Int) + (2 * ((1 : Nat) : Int) - 1)).toNat (⟨#[76]⟩ : ByteArray)]), G93, (packS (x := 11) (packS (x := 10) (packS (x := 9) (packS (x := 8) (packS (x := 7) (packS (x := 6) (packS (x := 2) (packS (x := 1) (pack1 (x := 0) rfl) rfl) rfl) rfl) rfl) rfl) rfl) rfl) rfl), rfl, hX114, (Pin.le_trans (Pin.le_trans (Pin.le_trans hlek34 hx84.le) hx90.le) hx95.le), (by omega), (by rw [hos2, List.append_assoc]; exact (congrArg (os ++ ·) (run_app rfl (by rw [setX_two (by omega) (by omega)]; exact clobR_y (left := true) (j := 1) (by rw [nb1]; omega) h81 h87)))), (by simp; omega), ho110⟩)))))
  omega
  refine wp_skip (s_blkN (s_then (c_reg ?_)))
  refine qd rfl rfl rfl (r_move (v := (.int .i64 (2 * ((1 : Nat) : Int) - 1))) rfl) (qd rfl rfl rfl (r_add rfl rfl (by omega)) (qd rfl rfl rfl (r_assign (v := (.int .i64 ((2 * ((1 : Nat) : Int) - 1) + 2))) rfl) (qe (s_lopN (⟨_, ?_, _, rfl, _, 1 + 1, ov2, os2, G82, (packS (x := 11) (packS (x := 10) (packS (x := 9) (packS (x := 8) (packS (x := 7) (packS (x := 6) (packS (x := 2) (packS (x := 1) (pack1 (x := 0) rfl) rfl) rfl) rfl) rfl) rfl) rfl) rfl) rfl), rfl, hX85, (Pin.le_trans hlek34 hx84.le), (by omega), (by rw [hos2]; exact (congrArg (os ++ ·) (run_nil rfl (clobR_b (left := true) (j := 1) (by rw [nb1]; omega) h87)))), (by omega), ho86⟩)))))
  omega
  refine wp_exit (s_thenE (s_lopE (s_blkE (s_blkN (s_blkN (s_then (c_reg ?_)))))))
  refine qd rfl rfl rfl (r_move (v := (.int .i64 (i9 : Int))) rfl) (qd rfl rfl rfl (r_add rfl rfl (by omega)) (qd rfl rfl rfl (r_assign (v := (.int .i64 ((i9 : Int) + 1))) rfl) (qe (s_lopN (⟨_, ?_, _, rfl, _, i9 + 1, ov2, os2, GL2, (packS (x := 10) (packS (x := 9) (packS (x := 8) (packS (x := 7) (packS (x := 6) (packS (x := 2) (packS (x := 1) (pack1 (x := 0) rfl) rfl) rfl) rfl) rfl) rfl) rfl) rfl), rfl, hX41, (Pin.le_trans hlek9 hlek34), (by omega), (run_join hos hos2 ((clob_no (left := true) h33 h81 1).symm)), (by omega), ho42⟩)))))
  omega
 refine dr_skip (i := 3) rfl rfl (want_no rfl rfl rfl rfl rfl) (by kernel_rfl) hX41.pins (dr_skip (i := 4) rfl rfl (want_no rfl rfl rfl rfl rfl) (by kernel_rfl) hX41.pins (dr_skip (i := 5) rfl rfl (want_no rfl rfl rfl rfl rfl) (by kernel_rfl) hX41.pins (dr_skip (i := 6) rfl rfl (want_no rfl rfl rfl rfl rfl) (by kernel_rfl) hX41.pins (dr_skip (i := 7) rfl rfl (want_no rfl rfl rfl rfl rfl) (by kernel_rfl) hX41.pins (dr_skip (i := 8) rfl rfl (want_no rfl rfl rfl rfl rfl) (by kernel_rfl) hX41.pins (dr_take (i := 9) rfl rfl rfl (want_none rfl _) (by kernel_rfl) (fun _ _ => r_pickF (v := (.bool false)) rfl rfl) hX41.pins (dr_end (by kernel_rfl) (s_then (c_ifF rfl rfl (wp_exit (s_thenE (s_lopE (s_blkE (s_blkN (s_blkN (s_then (c_reg ?_)))))))))))))))))
 refine qd rfl rfl rfl (r_move (v := (.int .i64 (i9 : Int))) rfl) (qd rfl rfl rfl (r_add rfl rfl (by omega)) (qd rfl rfl rfl (r_assign (v := (.int .i64 ((i9 : Int) + 1))) rfl) (qe (s_lopN (⟨_, ?_, _, rfl, _, i9 + 1, ov2, os2, GL2, (packS (x := 10) (packS (x := 9) (packS (x := 8) (packS (x := 7) (packS (x := 6) (packS (x := 2) (packS (x := 1) (pack1 (x := 0) rfl) rfl) rfl) rfl) rfl) rfl) rfl) rfl), rfl, hX41, (Pin.le_trans hlek9 hlek34), (by omega), (run_join hos hos2 ((clob_at (left := true) h33).trans (by rw [show q9 = 2 by omega]))), (by omega), ho42⟩)))))
 omega
 refine s_seq (c_reg ?_)
 refine qd rfl rfl rfl (r_move (v := (.string (⟨#[76]⟩ : ByteArray))) rfl) (qd rfl rfl rfl (r_idx1 (c := 76) Tryz.underlying9 rfl rfl) (qd rfl rfl rfl (r_assign (v := (.int .u8 ((76 : UInt8).toNat : Int))) rfl) (qe (s_then (s_seq (s_seq (c_reg ?_)))))))
 refine qd rfl rfl rfl (r_move (v := (.int .i64 kind)) rfl) (qd rfl rfl rfl (r_eql rfl rfl) (qe (s_then ?_)))
 refine c_ifd (p := (kind : Int) = 3) rfl rfl (fun h118 => ?_) (fun h118 => ?_)
 refine c_reg (qd rfl rfl rfl (r_move (v := (.string (⟨#[82]⟩ : ByteArray))) rfl) (qd rfl rfl rfl (r_idx1 (c := 82) Tryz.underlying9 rfl rfl) (qd rfl rfl rfl (r_assign (v := (.int .u8 ((82 : UInt8).toNat : Int))) rfl) (qe (s_then (s_seq (c_reg ?_)))))))
 refine qd rfl rfl rfl (r_move (v := (.string s)) rfl) (qd rfl rfl rfl (r_move (v := (.int .i64 (i9 : Int))) rfl) (qd rfl rfl rfl (r_idxB Tryz.underlying9 rfl rfl (by omega) (by omega)) (qd rfl rfl rfl (r_eql rfl rfl) (qd rfl rfl rfl (r_move (v := (.bool (decide ((((sB s i9).toNat : Int) : Int) = 46)))) rfl) (qbd (p := (((sB s i9).toNat : Int) : Int) = 46) (t := 33) rfl (fun h119 => ?_) (fun h119 => ?_))))))
 refine qdg rfl rfl rfl rfl rfl rfl (r_move (v := (.string s)) rfl) (qdg rfl rfl rfl rfl rfl rfl (r_move (v := (.int .i64 (i9 : Int))) rfl) (qdg rfl rfl rfl rfl rfl rfl (r_sub rfl rfl (by omega)) (qdg rfl rfl rfl rfl rfl rfl (r_move (v := (.int .u8 ((82 : UInt8).toNat : Int))) rfl) (q1g rfl rfl rfl rfl rfl rfl (o_call (vs := [(.string s), (.int .i64 ((i9 : Int) - 1)), (.int .u8 ((82 : UInt8).toNat : Int))]) Tryz.func87 nm87 rfl rfl rfl ?_)))))
 refine Calls.mono (is23_spec (s := s) (i := ((i9 : Int) - 1)) (c := (82 : UInt8)) hX12.pins (by omega) (by first | decide | assumption | exact mineS_pos _)) ?_
 rintro _ w121 ⟨G120, rfl, hx122⟩
 refine ⟨_, rfl, ?_⟩
 have hX123 := hX12.tr hx122
 have ho124 := hw13.ext hx122
 refine qdg rfl rfl rfl rfl rfl rfl (r_not rfl) (qd rfl rfl rfl (r_pickT (v := (.bool (!(decide (((cB s ((i9 : Int) - 1)).toNat : Int) = ((82 : UInt8).toNat : Int)))))) rfl rfl) (qd rfl rfl rfl (r_move (v := (.bool (!(decide (((cB s ((i9 : Int) - 1)).toNat : Int) = ((82 : UInt8).toNat : Int)))))) rfl) (qbn (t := 41) rfl (fun h125 => ?_) (fun h125 => ?_))))
 replace h125 := of_decide_eq_true h125
 refine qs rfl rfl rfl rfl rfl rfl (qs rfl rfl rfl rfl rfl rfl (qs rfl rfl rfl rfl rfl rfl (qs rfl rfl rfl rfl rfl rfl (qs rfl rfl rfl rfl rfl rfl (qs rfl rfl rfl rfl rfl rfl (qd rfl rfl rfl (r_pickF (v := (.bool false)) rfl rfl) (qe (s_then ?_))))))))
 refine c_ifF rfl rfl (wp_skip (s_blkN (s_blkN (s_then (c_reg ?_)))))
 refine qd rfl rfl rfl (r_move (v := (.int .i64 (i9 : Int))) rfl) (qd rfl rfl rfl (r_add rfl rfl (by omega)) (qd rfl rfl rfl (r_assign (v := (.int .i64 ((i9 : Int) + 1))) rfl) (qe (s_lopN (⟨_, ?_, _, rfl, _, i9 + 1, ov, os, G120, (packS (x := 10) (packS (x := 9) (packS (x := 8) (packS (x := 7) (packS (x := 6) (packS (x := 2) (packS (x := 1) (pack1 (x := 0) rfl) rfl) rfl) rfl) rfl) rfl) rfl) rfl), rfl, hX123, (Pin.le_trans hlek9 hx122.le), (by omega), (run_nil hos ((mark_at (left := true) (c := mineS (!true)) h15 h33 (Or.inl ⟨h118, rfl⟩)).trans (mark_b h125))), (by omega), ho124⟩)))))
 omega
 replace h125 := of_decide_eq_false h125
 refine qdg rfl rfl rfl rfl rfl rfl (r_move (v := (.string s)) rfl) (qdg rfl rfl rfl rfl rfl rfl (r_move (v := (.int .i64 (i9 : Int))) rfl) (qdg rfl rfl rfl rfl rfl rfl (r_add rfl rfl (by omega)) (qdg rfl rfl rfl rfl rfl rfl (r_move (v := (.int .u8 ((82 : UInt8).toNat : Int))) rfl) (q1g rfl rfl rfl rfl rfl rfl (o_call (vs := [(.string s), (.int .i64 ((i9 : Int) + 1)), (.int .u8 ((82 : UInt8).toNat : Int))]) Tryz.func87 nm87 rfl rfl rfl ?_)))))
 refine Calls.mono (is23_spec (s := s) (i := ((i9 : Int) + 1)) (c := (82 : UInt8)) hX123.pins (by omega) (by first | decide | assumption | exact mineS_pos _)) ?_
 rintro _ w127 ⟨G126, rfl, hx128⟩
 refine ⟨_, rfl, ?_⟩
 have hX129 := hX123.tr hx128
 have ho130 := ho124.ext hx128
 refine qdg rfl rfl rfl rfl rfl rfl (r_not rfl) (qd rfl rfl rfl (r_pickT (v := (.bool (!(decide (((cB s ((i9 : Int) + 1)).toNat : Int) = ((82 : UInt8).toNat : Int)))))) rfl rfl) (qe (s_then ?_)))
 refine c_ifn rfl rfl (fun h131 => ?_) (fun h131 => ?_)
 replace h131 := of_decide_eq_true h131
 refine wp_skip (s_blkN (s_blkN (s_then (c_reg ?_))))
 refine qd rfl rfl rfl (r_move (v := (.int .i64 (i9 : Int))) rfl) (qd rfl rfl rfl (r_add rfl rfl (by omega)) (qd rfl rfl rfl (r_assign (v := (.int .i64 ((i9 : Int) + 1))) rfl) (qe (s_lopN (⟨_, ?_, _, rfl, _, i9 + 1, ov, os, G126, (packS (x := 10) (packS (x := 9) (packS (x := 8) (packS (x := 7) (packS (x := 6) (packS (x := 2) (packS (x := 1) (pack1 (x := 0) rfl) rfl) rfl) rfl) rfl) rfl) rfl) rfl), rfl, hX129, (Pin.le_trans (Pin.le_trans hlek9 hx122.le) hx128.le), (by omega), (run_nil hos ((mark_at (left := true) (c := mineS (!true)) h15 h33 (Or.inl ⟨h118, rfl⟩)).trans (mark_c h131))), (by omega), ho130⟩)))))
 omega
 replace h131 := of_decide_eq_false h131
 refine c_reg ?_
 have hmn : (⟨#[76]⟩ : ByteArray).size = 1 := rfl
 refine qd rfl rfl rfl (r_move (v := ov) rfl) (qd rfl rfl rfl (r_move (v := (.string s)) rfl) (qd rfl rfl rfl (r_move (v := (.int .i64 (i9 : Int))) rfl) (qd rfl rfl rfl (r_move (v := (.string (⟨#[76]⟩ : ByteArray))) rfl) (q1 rfl rfl rfl (o_call (vs := [(.string s), (.int .i64 (i9 : Int)), (.string (⟨#[76]⟩ : ByteArray))]) Tryz.func88 nm88 rfl rfl rfl ?_)))))
 refine Calls.mono (set23_spec (s := s) (i := (i9 : Int)) (t := (⟨#[76]⟩ : ByteArray)) hX129.pins (by omega) (by omega) (by omega)) ?_
 rintro _ w133 ⟨G132, rfl, hx134⟩
 refine ⟨_, rfl, ?_⟩
 have hX135 := hX129.tr hx134
 have ho136 := ho130.ext hx134
 refine q1 rfl rfl rfl (o_buildF (E := eStr) (e := 9) [(.string (setX s i9 (⟨#[76]⟩ : ByteArray)))] [setX s i9 (⟨#[76]⟩ : ByteArray)] Tryz.underlying22 sz9 zr9 (by exact reps1 (by rfl)) (ones1 (by rfl)) rfl rfl rfl rfl (by decide) hX135.pins (fun u137 w138 ho139 hp140 hl141 hk142 => ?_))
 have hX143 := hX135.step hp140 hl141
 have ho144 := ho136.below hl141
 have ho146 : Own eStr 9 G132 w138 w.heap.size u137 ([setX s i9 (⟨#[76]⟩ : ByteArray)]) := ho139.weaken hX135.size
 refine q1 rfl rfl rfl (o_append (E := eStr) (v := ov) (u := u137) 16 Tryz.underlying22 ap9 (by decide) rfl rfl hX143.pins ho144 ho146.src (by first | omega | (rw [List.nil_append]; omega) | (rw [List.length_nil]; omega) | (rw [List.length_append]; omega) | (simp; done) | (simp; omega) | (simp only [List.length_cons, List.length_nil]; omega) | (simp only [List.length_append, List.length_cons, List.length_nil]; omega)) (by first | omega | (rw [List.nil_append]; omega) | (rw [List.length_nil]; omega) | (rw [List.length_append]; omega) | (simp; done) | (simp; omega) | (simp only [List.length_cons, List.length_nil]; omega) | (simp only [List.length_append, List.length_cons, List.length_nil]; omega)) (hX143.size) (fun u147 w148 ho149 hp150 hg151 hw152 => ?_))
 have hX153 := hX143.write hp150 hg151 ((lo_own ho144))
 have hm156 : (os ++ ([setX s i9 (⟨#[76]⟩ : ByteArray)])).length = os.length + 1 := List.length_append
 refine qd rfl rfl rfl (r_assign (v := u147) rfl) (qe (s_blkN (s_blkN (s_then (c_reg ?_)))))
 refine qd rfl rfl rfl (r_move (v := (.int .i64 (i9 : Int))) rfl) (qd rfl rfl rfl (r_add rfl rfl (by omega)) (qd rfl rfl rfl (r_assign (v := (.int .i64 ((i9 : Int) + 1))) rfl) (qe (s_lopN (⟨_, ?_, _, rfl, _, i9 + 1, u147, os ++ ([setX s i9 (⟨#[76]⟩ : ByteArray)]), G132, (packS (x := 10) (packS (x := 9) (packS (x := 8) (packS (x := 7) (packS (x := 6) (packS (x := 2) (packS (x := 1) (pack1 (x := 0) rfl) rfl) rfl) rfl) rfl) rfl) rfl) rfl), rfl, hX153, (Pin.le_trans (Pin.le_trans (Pin.le_trans hlek9 hx122.le) hx128.le) hx134.le), (by omega), (run_app hos ((mark_at (left := true) (c := mineS (!true)) h15 h33 (Or.inl ⟨h118, rfl⟩)).trans (markX_y (by omega) h119 h125 h131))), (by simp only [List.length_append, List.length_cons, List.length_nil]; omega), ho149⟩)))))
 omega
 refine qs rfl rfl rfl rfl rfl rfl (qs rfl rfl rfl rfl rfl rfl (qs rfl rfl rfl rfl rfl rfl (qs rfl rfl rfl rfl rfl rfl (qs rfl rfl rfl rfl rfl rfl (qs rfl rfl rfl rfl rfl rfl (qd rfl rfl rfl (r_pickF (v := (.bool false)) rfl rfl) (qd rfl rfl rfl (r_move (v := (.bool false)) rfl) (qs rfl rfl rfl rfl rfl rfl (qs rfl rfl rfl rfl rfl rfl (qs rfl rfl rfl rfl rfl rfl (qs rfl rfl rfl rfl rfl rfl (qs rfl rfl rfl rfl rfl rfl (qs rfl rfl rfl rfl rfl rfl (qd rfl rfl rfl (r_pickF (v := (.bool false)) rfl rfl) (qe (s_then ?_))))))))))))))))
 refine c_ifF rfl rfl (wp_skip (s_blkN (s_blkN (s_then (c_reg ?_)))))
 refine qd rfl rfl rfl (r_move (v := (.int .i64 (i9 : Int))) rfl) (qd rfl rfl rfl (r_add rfl rfl (by omega)) (qd rfl rfl rfl (r_assign (v := (.int .i64 ((i9 : Int) + 1))) rfl) (qe (s_lopN (⟨_, ?_, _, rfl, _, i9 + 1, ov, os, GL1, (packS (x := 10) (packS (x := 9) (packS (x := 8) (packS (x := 7) (packS (x := 6) (packS (x := 2) (packS (x := 1) (pack1 (x := 0) rfl) rfl) rfl) rfl) rfl) rfl) rfl) rfl), rfl, hX12, hlek9, (by omega), (run_nil hos ((mark_at (left := true) (c := mineS (!true)) h15 h33 (Or.inl ⟨h118, rfl⟩)).trans (mark_a h119))), (by omega), hw13⟩)))))
 omega
 refine wp_skip (s_then (s_seq (c_reg ?_)))
 refine qd rfl rfl rfl (r_move (v := (.string s)) rfl) (qd rfl rfl rfl (r_move (v := (.int .i64 (i9 : Int))) rfl) (qd rfl rfl rfl (r_idxB Tryz.underlying9 rfl rfl (by omega) (by omega)) (qd rfl rfl rfl (r_eql rfl rfl) (qd rfl rfl rfl (r_move (v := (.bool (decide ((((sB s i9).toNat : Int) : Int) = 46)))) rfl) (qbd (p := (((sB s i9).toNat : Int) : Int) = 46) (t := 33) rfl (fun h157 => ?_) (fun h157 => ?_))))))
 refine qdg rfl rfl rfl rfl rfl rfl (r_move (v := (.string s)) rfl) (qdg rfl rfl rfl rfl rfl rfl (r_move (v := (.int .i64 (i9 : Int))) rfl) (qdg rfl rfl rfl rfl rfl rfl (r_sub rfl rfl (by omega)) (qdg rfl rfl rfl rfl rfl rfl (r_move (v := (.int .u8 ((76 : UInt8).toNat : Int))) rfl) (q1g rfl rfl rfl rfl rfl rfl (o_call (vs := [(.string s), (.int .i64 ((i9 : Int) - 1)), (.int .u8 ((76 : UInt8).toNat : Int))]) Tryz.func87 nm87 rfl rfl rfl ?_)))))
 refine Calls.mono (is23_spec (s := s) (i := ((i9 : Int) - 1)) (c := (76 : UInt8)) hX12.pins (by omega) (by first | decide | assumption | exact mineS_pos _)) ?_
 rintro _ w159 ⟨G158, rfl, hx160⟩
 refine ⟨_, rfl, ?_⟩
 have hX161 := hX12.tr hx160
 have ho162 := hw13.ext hx160
 refine qdg rfl rfl rfl rfl rfl rfl (r_not rfl) (qd rfl rfl rfl (r_pickT (v := (.bool (!(decide (((cB s ((i9 : Int) - 1)).toNat : Int) = ((76 : UInt8).toNat : Int)))))) rfl rfl) (qd rfl rfl rfl (r_move (v := (.bool (!(decide (((cB s ((i9 : Int) - 1)).toNat : Int) = ((76 : UInt8).toNat : Int)))))) rfl) (qbn (t := 41) rfl (fun h163 => ?_) (fun h163 => ?_))))
 replace h163 := of_decide_eq_true h163
 refine qs rfl rfl rfl rfl rfl rfl (qs rfl rfl rfl rfl rfl rfl (qs rfl rfl rfl rfl rfl rfl (qs rfl rfl rfl rfl rfl rfl (qs rfl rfl rfl rfl rfl rfl (qs rfl rfl rfl rfl rfl rfl (qd rfl rfl rfl (r_pickF (v := (.bool false)) rfl rfl) (qe (s_then ?_))))))))
 refine c_ifF rfl rfl (wp_skip (s_blkN (s_blkN (s_then (c_reg ?_)))))
 refine qd rfl rfl rfl (r_move (v := (.int .i64 (i9 : Int))) rfl) (qd rfl rfl rfl (r_add rfl rfl (by omega)) (qd rfl rfl rfl (r_assign (v := (.int .i64 ((i9 : Int) + 1))) rfl) (qe (s_lopN (⟨_, ?_, _, rfl, _, i9 + 1, ov, os, G158, (packS (x := 10) (packS (x := 9) (packS (x := 8) (packS (x := 7) (packS (x := 6) (packS (x := 2) (packS (x := 1) (pack1 (x := 0) rfl) rfl) rfl) rfl) rfl) rfl) rfl) rfl), rfl, hX161, (Pin.le_trans hlek9 hx160.le), (by omega), (run_nil hos ((mark_at (left := true) (c := mineS (true)) h15 h33 (Or.inr ⟨by omega, rfl⟩)).trans (mark_b h163))), (by omega), ho162⟩)))))
 omega
 replace h163 := of_decide_eq_false h163
 refine qdg rfl rfl rfl rfl rfl rfl (r_move (v := (.string s)) rfl) (qdg rfl rfl rfl rfl rfl rfl (r_move (v := (.int .i64 (i9 : Int))) rfl) (qdg rfl rfl rfl rfl rfl rfl (r_add rfl rfl (by omega)) (qdg rfl rfl rfl rfl rfl rfl (r_move (v := (.int .u8 ((76 : UInt8).toNat : Int))) rfl) (q1g rfl rfl rfl rfl rfl rfl (o_call (vs := [(.string s), (.int .i64 ((i9 : Int) + 1)), (.int .u8 ((76 : UInt8).toNat : Int))]) Tryz.func87 nm87 rfl rfl rfl ?_)))))
 refine Calls.mono (is23_spec (s := s) (i := ((i9 : Int) + 1)) (c := (76 : UInt8)) hX161.pins (by omega) (by first | decide | assumption | exact mineS_pos _)) ?_
 rintro _ w165 ⟨G164, rfl, hx166⟩
 refine ⟨_, rfl, ?_⟩
 have hX167 := hX161.tr hx166
 have ho168 := ho162.ext hx166
 refine qdg rfl rfl rfl rfl rfl rfl (r_not rfl) (qd rfl rfl rfl (r_pickT (v := (.bool (!(decide (((cB s ((i9 : Int) + 1)).toNat : Int) = ((76 : UInt8).toNat : Int)))))) rfl rfl) (qe (s_then ?_)))
 refine c_ifn rfl rfl (fun h169 => ?_) (fun h169 => ?_)
 replace h169 := of_decide_eq_true h169
 refine wp_skip (s_blkN (s_blkN (s_then (c_reg ?_))))
 refine qd rfl rfl rfl (r_move (v := (.int .i64 (i9 : Int))) rfl) (qd rfl rfl rfl (r_add rfl rfl (by omega)) (qd rfl rfl rfl (r_assign (v := (.int .i64 ((i9 : Int) + 1))) rfl) (qe (s_lopN (⟨_, ?_, _, rfl, _, i9 + 1, ov, os, G164, (packS (x := 10) (packS (x := 9) (packS (x := 8) (packS (x := 7) (packS (x := 6) (packS (x := 2) (packS (x := 1) (pack1 (x := 0) rfl) rfl) rfl) rfl) rfl) rfl) rfl) rfl), rfl, hX167, (Pin.le_trans (Pin.le_trans hlek9 hx160.le) hx166.le), (by omega), (run_nil hos ((mark_at (left := true) (c := mineS (true)) h15 h33 (Or.inr ⟨by omega, rfl⟩)).trans (mark_c h169))), (by omega), ho168⟩)))))
 omega
 replace h169 := of_decide_eq_false h169
 refine c_reg ?_
 have hmn : (⟨#[76]⟩ : ByteArray).size = 1 := rfl
 refine qd rfl rfl rfl (r_move (v := ov) rfl) (qd rfl rfl rfl (r_move (v := (.string s)) rfl) (qd rfl rfl rfl (r_move (v := (.int .i64 (i9 : Int))) rfl) (qd rfl rfl rfl (r_move (v := (.string (⟨#[76]⟩ : ByteArray))) rfl) (q1 rfl rfl rfl (o_call (vs := [(.string s), (.int .i64 (i9 : Int)), (.string (⟨#[76]⟩ : ByteArray))]) Tryz.func88 nm88 rfl rfl rfl ?_)))))
 refine Calls.mono (set23_spec (s := s) (i := (i9 : Int)) (t := (⟨#[76]⟩ : ByteArray)) hX167.pins (by omega) (by omega) (by omega)) ?_
 rintro _ w171 ⟨G170, rfl, hx172⟩
 refine ⟨_, rfl, ?_⟩
 have hX173 := hX167.tr hx172
 have ho174 := ho168.ext hx172
 refine q1 rfl rfl rfl (o_buildF (E := eStr) (e := 9) [(.string (setX s i9 (⟨#[76]⟩ : ByteArray)))] [setX s i9 (⟨#[76]⟩ : ByteArray)] Tryz.underlying22 sz9 zr9 (by exact reps1 (by rfl)) (ones1 (by rfl)) rfl rfl rfl rfl (by decide) hX173.pins (fun u175 w176 ho177 hp178 hl179 hk180 => ?_))
 have hX181 := hX173.step hp178 hl179
 have ho182 := ho174.below hl179
 have ho184 : Own eStr 9 G170 w176 w.heap.size u175 ([setX s i9 (⟨#[76]⟩ : ByteArray)]) := ho177.weaken hX173.size
 refine q1 rfl rfl rfl (o_append (E := eStr) (v := ov) (u := u175) 16 Tryz.underlying22 ap9 (by decide) rfl rfl hX181.pins ho182 ho184.src (by first | omega | (rw [List.nil_append]; omega) | (rw [List.length_nil]; omega) | (rw [List.length_append]; omega) | (simp; done) | (simp; omega) | (simp only [List.length_cons, List.length_nil]; omega) | (simp only [List.length_append, List.length_cons, List.length_nil]; omega)) (by first | omega | (rw [List.nil_append]; omega) | (rw [List.length_nil]; omega) | (rw [List.length_append]; omega) | (simp; done) | (simp; omega) | (simp only [List.length_cons, List.length_nil]; omega) | (simp only [List.length_append, List.length_cons, List.length_nil]; omega)) (hX181.size) (fun u185 w186 ho187 hp188 hg189 hw190 => ?_))
 have hX191 := hX181.write hp188 hg189 ((lo_own ho182))
 have hm194 : (os ++ ([setX s i9 (⟨#[76]⟩ : ByteArray)])).length = os.length + 1 := List.length_append
 refine qd rfl rfl rfl (r_assign (v := u185) rfl) (qe (s_blkN (s_blkN (s_then (c_reg ?_)))))
 refine qd rfl rfl rfl (r_move (v := (.int .i64 (i9 : Int))) rfl) (qd rfl rfl rfl (r_add rfl rfl (by omega)) (qd rfl rfl rfl (r_assign (v := (.int .i64 ((i9 : Int) + 1))) rfl) (qe (s_lopN (⟨_, ?_, _, rfl, _, i9 + 1, u185, os ++ ([setX s i9 (⟨#[76]⟩ : ByteArray)]), G170, (packS (x := 10) (packS (x := 9) (packS (x := 8) (packS (x := 7) (packS (x := 6) (packS (x := 2) (packS (x := 1) (pack1 (x := 0) rfl) rfl) rfl) rfl) rfl) rfl) rfl) rfl), rfl, hX191, (Pin.le_trans (Pin.le_trans (Pin.le_trans hlek9 hx160.le) hx166.le) hx172.le), (by omega), (run_app hos ((mark_at (left := true) (c := mineS (true)) h15 h33 (Or.inr ⟨by omega, rfl⟩)).trans (markX_y (by omega) h157 h163 h169))), (by simp only [List.length_append, List.length_cons, List.length_nil]; omega), ho187⟩)))))
 omega
 refine qs rfl rfl rfl rfl rfl rfl (qs rfl rfl rfl rfl rfl rfl (qs rfl rfl rfl rfl rfl rfl (qs rfl rfl rfl rfl rfl rfl (qs rfl rfl rfl rfl rfl rfl (qs rfl rfl rfl rfl rfl rfl (qd rfl rfl rfl (r_pickF (v := (.bool false)) rfl rfl) (qd rfl rfl rfl (r_move (v := (.bool false)) rfl) (qs rfl rfl rfl rfl rfl rfl (qs rfl rfl rfl rfl rfl rfl (qs rfl rfl rfl rfl rfl rfl (qs rfl rfl rfl rfl rfl rfl (qs rfl rfl rfl rfl rfl rfl (qs rfl rfl rfl rfl rfl rfl (qd rfl rfl rfl (r_pickF (v := (.bool false)) rfl rfl) (qe (s_then ?_))))))))))))))))
 refine c_ifF rfl rfl (wp_skip (s_blkN (s_blkN (s_then (c_reg ?_)))))
 refine qd rfl rfl rfl (r_move (v := (.int .i64 (i9 : Int))) rfl) (qd rfl rfl rfl (r_add rfl rfl (by omega)) (qd rfl rfl rfl (r_assign (v := (.int .i64 ((i9 : Int) + 1))) rfl) (qe (s_lopN (⟨_, ?_, _, rfl, _, i9 + 1, ov, os, GL1, (packS (x := 10) (packS (x := 9) (packS (x := 8) (packS (x := 7) (packS (x := 6) (packS (x := 2) (packS (x := 1) (pack1 (x := 0) rfl) rfl) rfl) rfl) rfl) rfl) rfl) rfl), rfl, hX12, hlek9, (by omega), (run_nil hos ((mark_at (left := true) (c := mineS (true)) h15 h33 (Or.inr ⟨by omega, rfl⟩)).trans (mark_a h157))), (by omega), hw13⟩)))))
 omega
 refine wp_exit (s_thenE (s_lopE (s_blkE (s_then (s_seq (c_reg ?_))))))
 refine qd rfl rfl rfl (r_move (v := ov) rfl) (qd rfl rfl rfl (r_assign (v := ov) rfl) (qe (s_then ?_)))
 refine wp_ret (s_ret (c_ret1 (v := ov) rfl rfl rfl ?_))
 obtain ⟨G195, hle198, hX197, hr196, hf199⟩ := hw13.sealed hX12
 have hin : i9 = s.size := by omega
 subst hin
 exact ⟨_, _, rfl, (by unfold stripM; rw [← hos]; exact hr196), hX197⟩

theorem mv23_false {w : World} {G : Pin} {kind : Int} {s : ByteArray} (hP : Pins G w) (hs : s.size ≤ 1000) (hkd : 0 ≤ kind ∧ kind ≤ 3) :
  Calls Tryz.prog 55 [(.int .i64 kind), (.string s), (.bool false)].toArray w fun e w' => ∃ (u : Value) (G' : Pin), e = .returned u ∧ RSl eStr G' u (stripM kind s false) ∧ Ext noS G w G' w' := by
 refine s_enter (n := 116) Tryz.func55 Tryz.ntmps55 rfl rfl ?_
 have hX0 : Ext noS G w G w := Ext.refl hP
 refine s_seq (c_reg ?_)
 refine qd rfl rfl rfl (r_assign (v := (.slice none 0 0)) rfl) (qe (s_then (s_seq (c_reg ?_))))
 refine q1 rfl rfl rfl (o_build0 (E := eStr) (e := 9) Tryz.underlying22 sz9 hX0.pins (fun u1 w2 ho3 hp4 hl5 hk6 => ?_))
 have hX7 := hX0.step hp4 hl5
 have ho8 : Own eStr 9 G w2 w.heap.size u1 ([]) := ho3.weaken hX0.size
 refine qd rfl rfl rfl (r_assign (v := u1) rfl) (qe (s_then (s_seq (c_reg ?_))))
 refine qd rfl rfl rfl (r_assign (v := (.string (⟨#[76]⟩ : ByteArray))) rfl) (qd rfl rfl rfl (r_assign (v := (.string (⟨#[82]⟩ : ByteArray))) rfl) (qe (s_then (s_seq (s_seq (c_reg ?_))))))
 refine qd rfl rfl rfl (r_move (v := (.bool false)) rfl) (qd rfl rfl rfl (r_not rfl) (qe (s_then ?_)))
 refine c_ifT rfl rfl (c_reg (qd rfl rfl rfl (r_assign (v := (.string (⟨#[82]⟩ : ByteArray))) rfl) (qd rfl rfl rfl (r_assign (v := (.string (⟨#[76]⟩ : ByteArray))) rfl) (qe (s_then (s_seq (s_seq (c_reg ?_))))))))
 refine qd rfl rfl rfl (r_assign (v := (.int .i64 0)) rfl) (qe (s_then ?_))
 refine s_blk (s_loop (fun (k : Nat) (en : Nat → Value) (W : World) => ∃ (env1 : Nat → Value) (i9 : Nat) (ov : Value) (os : List ByteArray) (GL1 : Pin), en = (upd (upd (upd (upd (upd (upd (upd (upd env1 0 (.int .i64 kind)) 1 (.string s)) 2 (.bool false)) 6 (.slice none 0 0)) 7 ov) 8 (.string (⟨#[82]⟩ : ByteArray))) 9 (.string (⟨#[76]⟩ : ByteArray))) 10 (.int .i64 (i9 : Int))) ∧ k = s.size - i9 ∧ Ext noS G w GL1 W ∧ Pin.le G GL1 ∧ (i9 ≤ s.size) ∧ (os = runM (cellM kind s false) i9) ∧ (os.length ≤ 2 * i9) ∧ (Own eStr 9 GL1 W w.heap.size ov (os))) _ ⟨_, 0, u1, [], G, (packS (x := 10) (packS (x := 9) (packS (x := 8) (packS (x := 7) (packS (x := 6) (packS (x := 2) (packS (x := 1) (pack1 (x := 0) rfl) rfl) rfl) rfl) rfl) rfl) rfl) rfl), rfl, hX7, Pin.le_refl _, Nat.zero_le _, rfl, (by simp), ho8⟩ ?_)
 rintro k9 _ w10 ⟨env1, i9, ov, os, GL1, rfl, hk11, hX12, hlek9, hi, hos, hol, hw13⟩
 refine s_seq (s_seq (c_reg ?_))
 refine qd rfl rfl rfl (r_move (v := (.int .i64 (i9 : Int))) rfl) (qd rfl rfl rfl (r_move (v := (.string s)) rfl) (qd rfl rfl rfl (r_lenS Tryz.underlying9 rfl) (qd rfl rfl rfl (r_lss rfl rfl) (qe (s_then ?_)))))
 refine c_ifd (p := ((i9 : Int) : Int) < (s.size : Int)) rfl rfl (fun h14 => ?_) (fun h14 => ?_)
 refine wp_skip (s_then (s_seq ?_))
 refine s_blk (s_seq (c_reg ?_))
 refine qd rfl rfl rfl (r_move (v := (.int .i64 kind)) rfl) (qe (s_then ?_))
 refine s_blk (s_seq (c_reg ?_))
 refine qd rfl rfl rfl (r_eql rfl rfl) (qd rfl rfl rfl (r_assign (v := (.bool (decide ((kind : Int) = 0)))) rfl) (qe (s_then ?_)))
 refine c_ifd (p := (kind : Int) = 0) rfl rfl (fun h15 => ?_) (fun h15 => ?_)
 refine s_seq (s_seq (c_reg ?_))
 refine qd rfl rfl rfl (r_move (v := (.bool false)) rfl) (qd rfl rfl rfl (r_move (v := (.bool false)) rfl) (qs rfl rfl rfl rfl rfl rfl (qs rfl rfl rfl rfl rfl rfl (qs rfl rfl rfl rfl rfl rfl (qs rfl rfl rfl rfl rfl rfl (qd rfl rfl rfl (r_pickF (v := (.bool false)) rfl rfl) (qe (s_then ?_))))))))
 refine c_ifF rfl rfl (wp_skip (s_then (s_seq (c_reg ?_))))
 refine qd rfl rfl rfl (r_move (v := (.bool false)) rfl) (qd rfl rfl rfl (r_not rfl) (qd rfl rfl rfl (r_move (v := (.bool true)) rfl) (qdg rfl rfl rfl rfl rfl rfl (r_move (v := (.string s)) rfl) (qdg rfl rfl rfl rfl rfl rfl (r_move (v := (.int .i64 (i9 : Int))) rfl) (qdg rfl rfl rfl rfl rfl rfl (r_idxB Tryz.underlying9 rfl rfl (by omega) (by omega)) (qdg rfl rfl rfl rfl rfl rfl (r_eql rfl rfl) (qd rfl rfl rfl (r_pickT (v := (.bool (decide ((((sB s i9).toNat : Int) : Int) = 70)))) rfl rfl) (qe (s_then ?_)))))))))
 refine c_ifd (p := (((sB s i9).toNat : Int) : Int) = 70) rfl rfl (fun h16 => ?_) (fun h16 => ?_)
 refine c_reg (qd rfl rfl rfl (r_move (v := ov) rfl) (qd rfl rfl rfl (r_move (v := (.string s)) rfl) (qd rfl rfl rfl (r_move (v := (.int .i64 (i9 : Int))) rfl) (q1 rfl rfl rfl (o_call (vs := [(.string s), (.int .i64 (i9 : Int)), (.int .i64 (-1)), (.int .u8 84)]) Tryz.func86 nm86 rfl rfl rfl ?_)))))
 refine Calls.mono (frog_spec (s := s) (i := i9) (stp := (-1)) (c := (84 : UInt8)) hX12.pins (by omega) (by omega) (by omega) (by decide)) ?_
 rintro _ w19 ⟨u17, G18, rfl, hr20, hx21⟩
 refine ⟨_, rfl, ?_⟩
 have hX22 := hX12.tr hx21
 have ho23 := hw13.ext hx21
 have hm24 : (frogM s i9 (-1) (84 : UInt8)).length ≤ 2 := frog_len
 refine q1 rfl rfl rfl (o_append (E := eStr) (v := ov) (u := u17) 16 Tryz.underlying22 ap9 (by decide) rfl rfl hX22.pins ho23 ((hr20.mono (Pin.le_refl _)).src hX22.pins (by decide)) (by first | omega | (rw [List.nil_append]; omega) | (rw [List.length_nil]; omega) | (rw [List.length_append]; omega) | (simp; done) | (simp; omega) | (simp only [List.length_cons, List.length_nil]; omega) | (simp only [List.length_append, List.length_cons, List.length_nil]; omega)) (by first | omega | (rw [List.nil_append]; omega) | (rw [List.length_nil]; omega) | (rw [List.length_append]; omega) | (simp; done) | (simp; omega) | (simp only [List.length_cons, List.length_nil]; omega) | (simp only [List.length_append, List.length_cons, List.length_nil]; omega)) (hX22.size) (fun u25 w26 ho27 hp28 hg29 hw30 => ?_))
 have hX31 := hX22.write hp28 hg29 ((lo_own ho23))
 have hm32 : (os ++ (frogM s i9 (-1) (84 : UInt8))).length = os.length + (frogM s i9 (-1) (84 : UInt8)).length := List.length_append
 refine qd rfl rfl rfl (r_assign (v := u25) rfl) (qe (s_blkN (s_blkN (s_then (c_reg ?_)))))
 refine qd rfl rfl rfl (r_move (v := (.int .i64 (i9 : Int))) rfl) (qd rfl rfl rfl (r_add rfl rfl (by omega)) (qd rfl rfl rfl (r_assign (v := (.int .i64 ((i9 : Int) + 1))) rfl) (qe (s_lopN (⟨_, ?_, _, rfl, _, i9 + 1, u25, os ++ (frogM s i9 (-1) (84 : UInt8)), G18, (packS (x := 10) (packS (x := 9) (packS (x := 8) (packS (x := 7) (packS (x := 6) (packS (x := 2) (packS (x := 1) (pack1 (x := 0) rfl) rfl) rfl) rfl) rfl) rfl) rfl) rfl), rfl, hX31, (Pin.le_trans hlek9 hx21.le), (by omega), (run_app hos (frog_at (left := false) h15 h16)), (by simp only [List.length_append]; omega), ho27⟩)))))
 omega
 refine wp_skip (s_blkN (s_blkN (s_then (c_reg ?_))))
 refine qd rfl rfl rfl (r_move (v := (.int .i64 (i9 : Int))) rfl) (qd rfl rfl rfl (r_add rfl rfl (by omega)) (qd rfl rfl rfl (r_assign (v := (.int .i64 ((i9 : Int) + 1))) rfl) (qe (s_lopN (⟨_, ?_, _, rfl, _, i9 + 1, ov, os, GL1, (packS (x := 10) (packS (x := 9) (packS (x := 8) (packS (x := 7) (packS (x := 6) (packS (x := 2) (packS (x := 1) (pack1 (x := 0) rfl) rfl) rfl) rfl) rfl) rfl) rfl) rfl), rfl, hX12, hlek9, (by omega), (run_nil hos (frog_no (left := false) h15 h16)), (by omega), hw13⟩)))))
 omega
 refine s_seq (c_reg ?_)
 refine qd rfl rfl rfl (r_eql rfl rfl) (qd rfl rfl rfl (r_assign (v := (.bool (decide ((kind : Int) = 1)))) rfl) (qe (s_then ?_)))
 refine c_ifd (p := (kind : Int) = 1) rfl rfl (fun h33 => ?_) (fun h33 => ?_)
 refine s_seq (c_reg ?_)
 refine qd rfl rfl rfl (r_assign (v := (.int .i64 (-1))) rfl) (qe (s_then ?_))
 refine s_blk (s_loop (fun (k : Nat) (en : Nat → Value) (W : World) => ∃ (env1 : Nat → Value) (q9 : Nat) (ov2 : Value) (os2 : List ByteArray) (GL2 : Pin), en = (upd (upd (upd (upd (upd (upd (upd (upd (upd env1 0 (.int .i64 kind)) 1 (.string s)) 2 (.bool false)) 6 (.slice none 0 0)) 7 ov2) 8 (.string (⟨#[82]⟩ : ByteArray))) 9 (.string (⟨#[76]⟩ : ByteArray))) 10 (.int .i64 (i9 : Int))) 11 (.int .i64 (2 * (q9 : Int) - 1))) ∧ k = 2 - q9 ∧ Ext noS G w GL2 W ∧ Pin.le GL1 GL2 ∧ (q9 ≤ 2) ∧ (os2 = os ++ runM (clobP s false i9) q9) ∧ (os2.length ≤ 2 * i9 + q9) ∧ (Own eStr 9 GL2 W w.heap.size ov2 (os2))) _ ⟨_, 0, ov, os, GL1, (packS (x := 11) (packS (x := 10) (packS (x := 9) (packS (x := 8) (packS (x := 7) (packS (x := 6) (packS (x := 2) (packS (x := 1) (pack1 (x := 0) rfl) rfl) rfl) rfl) rfl) rfl) rfl) rfl) rfl), rfl, hX12, Pin.le_refl _, Nat.zero_le _, (List.append_nil _).symm, (by omega), hw13⟩ ?_)
 rintro k34 _ w35 ⟨env1, q9, ov2, os2, GL2, rfl, hk36, hX37, hlek34, hq, hos2, hol2, hw38⟩
 refine s_seq (s_seq ?_)
 refine c_draw (S := fun wz => Pins GL2 wz) (last := 10) (by kernel_rfl) rfl ?_
 have hl39 : Below w35.heap.size w35 w35.drew := (Below.refl _ _).drew
 have hp40 := hX37.pins.below hl39
 have hX41 := hX37.step hp40 hl39
 have ho42 := hw38.below hl39
 refine dr_take (i := 0) rfl rfl rfl (want_none rfl _) (by kernel_rfl) (fun _ _ => r_move (v := (.int .i64 (2 * (q9 : Int) - 1))) rfl) hX41.pins (dr_take (i := 1) rfl rfl rfl (want_none rfl _) (by kernel_rfl) (fun _ _ => r_leq rfl rfl) hX41.pins (dr_take (i := 2) rfl rfl rfl (want_none rfl _) (by kernel_rfl) (fun _ _ => r_move (v := (.bool (decide ((2 * (q9 : Int) - 1 : Int) ≤ 1)))) rfl) hX41.pins (drbd (p := (2 * (q9 : Int) - 1 : Int) ≤ 1) (t := 87) rfl (fun h43 => ?_) (fun h43 => ?_))))
 rcases (show q9 = 0 ∨ q9 = 1 by omega) with hcs | hcs
 ·subst hcs
  refine dr_take (i := 3) rfl rfl rfl (want_yes rfl rfl rfl rfl) (by kernel_rfl) (fun _ _ => r_move (v := (.string s)) rfl) hX41.pins (dr_take (i := 4) rfl rfl rfl (want_yes rfl rfl rfl rfl) (by kernel_rfl) (fun _ _ => r_move (v := (.int .i64 (i9 : Int))) rfl) hX41.pins (dr_take (i := 5) rfl rfl rfl (want_yes rfl rfl rfl rfl) (by kernel_rfl) (fun _ _ => r_idxB Tryz.underlying9 rfl rfl (by omega) (by omega)) hX41.pins (dr_take (i := 6) rfl rfl rfl (want_yes rfl rfl rfl rfl) (by kernel_rfl) (fun _ _ => r_move (v := (.string (⟨#[82]⟩ : ByteArray))) rfl) hX41.pins (dr_take (i := 7) rfl rfl rfl (want_yes rfl rfl rfl rfl) (by kernel_rfl) (fun _ _ => r_idx1 (c := 82) Tryz.underlying9 rfl rfl) hX41.pins (dr_take (i := 8) rfl rfl rfl (want_yes rfl rfl rfl rfl) (by kernel_rfl) (fun _ _ => r_eql rfl rfl) hX41.pins (dr_take (i := 9) rfl rfl rfl (want_none rfl _) (by kernel_rfl) (fun _ _ => r_pickT (v := (.bool (decide ((((sB s i9).toNat : Int) : Int) = ((82 : UInt8).toNat : Int))))) rfl rfl) hX41.pins (dr_end (by kernel_rfl) (s_then (c_ifd (p := (((sB s i9).toNat : Int) : Int) = ((82 : UInt8).toNat : Int)) rfl rfl (fun h44 => ?_) (fun h44 => ?_))))))))))
  refine wp_skip (s_then (s_seq ?_))
  refine s_blk (s_seq (c_reg ?_))
  refine qd rfl rfl rfl (r_move (v := (.string s)) rfl) (qd rfl rfl rfl (r_move (v := (.int .i64 (i9 : Int))) rfl) (qd rfl rfl rfl (r_move (v := (.int .i64 (2 * ((0 : Nat) : Int) - 1))) rfl) (qd rfl rfl rfl (r_add rfl rfl (by omega)) (qd rfl rfl rfl (r_move (v := (.string (⟨#[76]⟩ : ByteArray))) rfl) (qd rfl rfl rfl (r_idx1 (c := 76) Tryz.underlying9 rfl rfl) (q1 rfl rfl rfl (o_call (vs := [(.string s), (.int .i64 ((i9 : Int) + (2 * ((0 : Nat) : Int) - 1))), (.int .u8 ((76 : UInt8).toNat : Int))]) Tryz.func87 nm87 rfl rfl rfl ?_)))))))
  refine Calls.mono (is23_spec (s := s) (i := ((i9 : Int) + (2 * ((0 : Nat) : Int) - 1))) (c := (76 : UInt8)) hX41.pins (by omega) (by first | decide | assumption | exact mineS_pos _)) ?_
  rintro _ w46 ⟨G45, rfl, hx47⟩
  refine ⟨_, rfl, ?_⟩
  have hX48 := hX41.tr hx47
  have ho49 := ho42.ext hx47
  refine qe (s_then ?_)
  refine c_ifd (p := ((cB s ((i9 : Int) + (2 * ((0 : Nat) : Int) - 1))).toNat : Int) = ((76 : UInt8).toNat : Int)) rfl rfl (fun h50 => ?_) (fun h50 => ?_)
  refine c_reg ?_
  have hat := cB_at (by rw [h50]; decide)
  have hsx : (setX s i9 (⟨#[46]⟩ : ByteArray)).size = s.size := by rw [setX_one (by omega), st1_size]
  have h46 : (⟨#[46]⟩ : ByteArray).size = 1 := rfl
  have hmn : (⟨#[82]⟩ : ByteArray).size = 1 := rfl
  refine qd rfl rfl rfl (r_move (v := ov2) rfl) (qd rfl rfl rfl (r_move (v := (.string s)) rfl) (qd rfl rfl rfl (r_move (v := (.int .i64 (i9 : Int))) rfl) (q1 rfl rfl rfl (o_call (vs := [(.string s), (.int .i64 (i9 : Int)), (.string (⟨#[46]⟩ : ByteArray))]) Tryz.func88 nm88 rfl rfl rfl ?_))))
  refine Calls.mono (set23_spec (s := s) (i := (i9 : Int)) (t := (⟨#[46]⟩ : ByteArray)) hX48.pins (by omega) (by omega) (by omega)) ?_
  rintro _ w52 ⟨G51, rfl, hx53⟩
  refine ⟨_, rfl, ?_⟩
  have hX54 := hX48.tr hx53
  have ho55 := ho49.ext hx53
  refine qd rfl rfl rfl (r_move (v := (.int .i64 (i9 : Int))) rfl) (qd rfl rfl rfl (r_move (v := (.int .i64 (2 * ((0 : Nat) : Int) - 1))) rfl) (qd rfl rfl rfl (r_add rfl rfl (by omega)) (qd rfl rfl rfl (r_move (v := (.string (⟨#[82]⟩ : ByteArray))) rfl) (q1 rfl rfl rfl (o_call (vs := [(.string (setX s i9 (⟨#[46]⟩ : ByteArray))), (.int .i64 ((i9 : Int) + (2 * ((0 : Nat) : Int) - 1))), (.string (⟨#[82]⟩ : ByteArray))]) Tryz.func88 nm88 rfl rfl rfl ?_)))))
  refine Calls.mono (set23_spec (s := (setX s i9 (⟨#[46]⟩ : ByteArray))) (i := ((i9 : Int) + (2 * ((0 : Nat) : Int) - 1))) (t := (⟨#[82]⟩ : ByteArray)) hX54.pins (by omega) (by omega) (by omega)) ?_
  rintro _ w57 ⟨G56, rfl, hx58⟩
  refine ⟨_, rfl, ?_⟩
  have hX59 := hX54.tr hx58
  have ho60 := ho55.ext hx58
  refine q1 rfl rfl rfl (o_buildF (E := eStr) (e := 9) [(.string (setX (setX s i9 (⟨#[46]⟩ : ByteArray)) ((i9 : Int) + (2 * ((0 : Nat) : Int) - 1)).toNat (⟨#[82]⟩ : ByteArray)))] [setX (setX s i9 (⟨#[46]⟩ : ByteArray)) ((i9 : Int) + (2 * ((0 : Nat) : Int) - 1)).toNat (⟨#[82]⟩ : ByteArray)] Tryz.underlying22 sz9 zr9 (by exact reps1 (by rfl)) (ones1 (by rfl)) rfl rfl rfl rfl (by decide) hX59.pins (fun u61 w62 ho63 hp64 hl65 hk66 => ?_))
  have hX67 := hX59.step hp64 hl65
  have ho68 := ho60.below hl65
  have ho70 : Own eStr 9 G56 w62 w.heap.size u61 ([setX (setX s i9 (⟨#[46]⟩ : ByteArray)) ((i9 : Int) + (2 * ((0 : Nat) : Int) - 1)).toNat (⟨#[82]⟩ : ByteArray)]) := ho63.weaken hX59.size
  refine q1 rfl rfl rfl (o_append (E := eStr) (v := ov2) (u := u61) 16 Tryz.underlying22 ap9 (by decide) rfl rfl hX67.pins ho68 ho70.src (by first | omega | (rw [List.nil_append]; omega) | (rw [List.length_nil]; omega) | (rw [List.length_append]; omega) | (simp; done) | (simp; omega) | (simp only [List.length_cons, List.length_nil]; omega) | (simp only [List.length_append, List.length_cons, List.length_nil]; omega)) (by first | omega | (rw [List.nil_append]; omega) | (rw [List.length_nil]; omega) | (rw [List.length_append]; omega) | (simp; done) | (simp; omega) | (simp only [List.length_cons, List.length_nil]; omega) | (simp only [List.length_append, List.length_cons, List.length_nil]; omega)) (hX67.size) (fun u71 w72 ho73 hp74 hg75 hw76 => ?_))
  have hX77 := hX67.write hp74 hg75 ((lo_own ho68))
  have hm80 : (os2 ++ ([setX (setX s i9 (⟨#[46]⟩ : ByteArray)) ((i9 : Int) + (2 * ((0 : Nat) : Int) - 1)).toNat (⟨#[82]⟩ : ByteArray)])).length = os2.length + 1 := List.length_append
  refine qd rfl rfl rfl (r_assign (v := u71) rfl) (qe (s_blkN (s_then (c_reg ?_))))
  refine qd rfl rfl rfl (r_move (v := (.int .i64 (2 * ((0 : Nat) : Int) - 1))) rfl) (qd rfl rfl rfl (r_add rfl rfl (by omega)) (qd rfl rfl rfl (r_assign (v := (.int .i64 ((2 * ((0 : Nat) : Int) - 1) + 2))) rfl) (qe (s_lopN (⟨_, ?_, _, rfl, _, 0 + 1, u71, os2 ++ ([setX (setX s i9 (⟨#[46]⟩ : ByteArray)) ((i9 : Int) + (2 * ((0 : Nat) : Int) - 1)).toNat (⟨#[82]⟩ : ByteArray)]), G56, (packS (x := 11) (packS (x := 10) (packS (x := 9) (packS (x := 8) (packS (x := 7) (packS (x := 6) (packS (x := 2) (packS (x := 1) (pack1 (x := 0) rfl) rfl) rfl) rfl) rfl) rfl) rfl) rfl) rfl), rfl, hX77, (Pin.le_trans (Pin.le_trans (Pin.le_trans hlek34 hx47.le) hx53.le) hx58.le), (by omega), (by rw [hos2, List.append_assoc]; exact (congrArg (os ++ ·) (run_app rfl (by rw [setX_two (by omega) (by omega)]; exact clobR_y (left := false) (j := 0) (by rw [nb0]; omega) h44 h50)))), (by simp; omega), ho73⟩)))))
  omega
  refine wp_skip (s_blkN (s_then (c_reg ?_)))
  refine qd rfl rfl rfl (r_move (v := (.int .i64 (2 * ((0 : Nat) : Int) - 1))) rfl) (qd rfl rfl rfl (r_add rfl rfl (by omega)) (qd rfl rfl rfl (r_assign (v := (.int .i64 ((2 * ((0 : Nat) : Int) - 1) + 2))) rfl) (qe (s_lopN (⟨_, ?_, _, rfl, _, 0 + 1, ov2, os2, G45, (packS (x := 11) (packS (x := 10) (packS (x := 9) (packS (x := 8) (packS (x := 7) (packS (x := 6) (packS (x := 2) (packS (x := 1) (pack1 (x := 0) rfl) rfl) rfl) rfl) rfl) rfl) rfl) rfl) rfl), rfl, hX48, (Pin.le_trans hlek34 hx47.le), (by omega), (by rw [hos2]; exact (congrArg (os ++ ·) (run_nil rfl (clobR_b (left := false) (j := 0) (by rw [nb0]; omega) h50)))), (by omega), ho49⟩)))))
  omega
  refine wp_exit (s_thenE (s_lopE (s_blkE (s_blkN (s_blkN (s_then (c_reg ?_)))))))
  refine qd rfl rfl rfl (r_move (v := (.int .i64 (i9 : Int))) rfl) (qd rfl rfl rfl (r_add rfl rfl (by omega)) (qd rfl rfl rfl (r_assign (v := (.int .i64 ((i9 : Int) + 1))) rfl) (qe (s_lopN (⟨_, ?_, _, rfl, _, i9 + 1, ov2, os2, GL2, (packS (x := 10) (packS (x := 9) (packS (x := 8) (packS (x := 7) (packS (x := 6) (packS (x := 2) (packS (x := 1) (pack1 (x := 0) rfl) rfl) rfl) rfl) rfl) rfl) rfl) rfl), rfl, hX41, (Pin.le_trans hlek9 hlek34), (by omega), (run_join hos hos2 ((clob_no (left := false) h33 h44 0).symm)), (by omega), ho42⟩)))))
  omega
 ·subst hcs
  refine dr_take (i := 3) rfl rfl rfl (want_yes rfl rfl rfl rfl) (by kernel_rfl) (fun _ _ => r_move (v := (.string s)) rfl) hX41.pins (dr_take (i := 4) rfl rfl rfl (want_yes rfl rfl rfl rfl) (by kernel_rfl) (fun _ _ => r_move (v := (.int .i64 (i9 : Int))) rfl) hX41.pins (dr_take (i := 5) rfl rfl rfl (want_yes rfl rfl rfl rfl) (by kernel_rfl) (fun _ _ => r_idxB Tryz.underlying9 rfl rfl (by omega) (by omega)) hX41.pins (dr_take (i := 6) rfl rfl rfl (want_yes rfl rfl rfl rfl) (by kernel_rfl) (fun _ _ => r_move (v := (.string (⟨#[82]⟩ : ByteArray))) rfl) hX41.pins (dr_take (i := 7) rfl rfl rfl (want_yes rfl rfl rfl rfl) (by kernel_rfl) (fun _ _ => r_idx1 (c := 82) Tryz.underlying9 rfl rfl) hX41.pins (dr_take (i := 8) rfl rfl rfl (want_yes rfl rfl rfl rfl) (by kernel_rfl) (fun _ _ => r_eql rfl rfl) hX41.pins (dr_take (i := 9) rfl rfl rfl (want_none rfl _) (by kernel_rfl) (fun _ _ => r_pickT (v := (.bool (decide ((((sB s i9).toNat : Int) : Int) = ((82 : UInt8).toNat : Int))))) rfl rfl) hX41.pins (dr_end (by kernel_rfl) (s_then (c_ifd (p := (((sB s i9).toNat : Int) : Int) = ((82 : UInt8).toNat : Int)) rfl rfl (fun h81 => ?_) (fun h81 => ?_))))))))))
  refine wp_skip (s_then (s_seq ?_))
  refine s_blk (s_seq (c_reg ?_))
  refine qd rfl rfl rfl (r_move (v := (.string s)) rfl) (qd rfl rfl rfl (r_move (v := (.int .i64 (i9 : Int))) rfl) (qd rfl rfl rfl (r_move (v := (.int .i64 (2 * ((1 : Nat) : Int) - 1))) rfl) (qd rfl rfl rfl (r_add rfl rfl (by omega)) (qd rfl rfl rfl (r_move (v := (.string (⟨#[76]⟩ : ByteArray))) rfl) (qd rfl rfl rfl (r_idx1 (c := 76) Tryz.underlying9 rfl rfl) (q1 rfl rfl rfl (o_call (vs := [(.string s), (.int .i64 ((i9 : Int) + (2 * ((1 : Nat) : Int) - 1))), (.int .u8 ((76 : UInt8).toNat : Int))]) Tryz.func87 nm87 rfl rfl rfl ?_)))))))
  refine Calls.mono (is23_spec (s := s) (i := ((i9 : Int) + (2 * ((1 : Nat) : Int) - 1))) (c := (76 : UInt8)) hX41.pins (by omega) (by first | decide | assumption | exact mineS_pos _)) ?_
  rintro _ w83 ⟨G82, rfl, hx84⟩
  refine ⟨_, rfl, ?_⟩
  have hX85 := hX41.tr hx84
  have ho86 := ho42.ext hx84
  refine qe (s_then ?_)
  refine c_ifd (p := ((cB s ((i9 : Int) + (2 * ((1 : Nat) : Int) - 1))).toNat : Int) = ((76 : UInt8).toNat : Int)) rfl rfl (fun h87 => ?_) (fun h87 => ?_)
  refine c_reg ?_
  have hat := cB_at (by rw [h87]; decide)
  have hsx : (setX s i9 (⟨#[46]⟩ : ByteArray)).size = s.size := by rw [setX_one (by omega), st1_size]
  have h46 : (⟨#[46]⟩ : ByteArray).size = 1 := rfl
  have hmn : (⟨#[82]⟩ : ByteArray).size = 1 := rfl
  refine qd rfl rfl rfl (r_move (v := ov2) rfl) (qd rfl rfl rfl (r_move (v := (.string s)) rfl) (qd rfl rfl rfl (r_move (v := (.int .i64 (i9 : Int))) rfl) (q1 rfl rfl rfl (o_call (vs := [(.string s), (.int .i64 (i9 : Int)), (.string (⟨#[46]⟩ : ByteArray))]) Tryz.func88 nm88 rfl rfl rfl ?_))))
  refine Calls.mono (set23_spec (s := s) (i := (i9 : Int)) (t := (⟨#[46]⟩ : ByteArray)) hX85.pins (by omega) (by omega) (by omega)) ?_
  rintro _ w89 ⟨G88, rfl, hx90⟩
  refine ⟨_, rfl, ?_⟩
  have hX91 := hX85.tr hx90
  have ho92 := ho86.ext hx90
  refine qd rfl rfl rfl (r_move (v := (.int .i64 (i9 : Int))) rfl) (qd rfl rfl rfl (r_move (v := (.int .i64 (2 * ((1 : Nat) : Int) - 1))) rfl) (qd rfl rfl rfl (r_add rfl rfl (by omega)) (qd rfl rfl rfl (r_move (v := (.string (⟨#[82]⟩ : ByteArray))) rfl) (q1 rfl rfl rfl (o_call (vs := [(.string (setX s i9 (⟨#[46]⟩ : ByteArray))), (.int .i64 ((i9 : Int) + (2 * ((1 : Nat) : Int) - 1))), (.string (⟨#[82]⟩ : ByteArray))]) Tryz.func88 nm88 rfl rfl rfl ?_)))))
  refine Calls.mono (set23_spec (s := (setX s i9 (⟨#[46]⟩ : ByteArray))) (i := ((i9 : Int) + (2 * ((1 : Nat) : Int) - 1))) (t := (⟨#[82]⟩ : ByteArray)) hX91.pins (by omega) (by omega) (by omega)) ?_
  rintro _ w94 ⟨G93, rfl, hx95⟩
  refine ⟨_, rfl, ?_⟩
  have hX96 := hX91.tr hx95
  have ho97 := ho92.ext hx95
  refine q1 rfl rfl rfl (o_buildF (E := eStr) (e := 9) [(.string (setX (setX s i9 (⟨#[46]⟩ : ByteArray)) ((i9 : Int) + (2 * ((1 : Nat) : Int) - 1)).toNat (⟨#[82]⟩ : ByteArray)))] [setX (setX s i9 (⟨#[46]⟩ : ByteArray)) ((i9 : Int) + (2 * ((1 : Nat) : Int) - 1)).toNat (⟨#[82]⟩ : ByteArray)] Tryz.underlying22 sz9 zr9 (by exact reps1 (by rfl)) (ones1 (by rfl)) rfl rfl rfl rfl (by decide) hX96.pins (fun u98 w99 ho100 hp101 hl102 hk103 => ?_))
  have hX104 := hX96.step hp101 hl102
  have ho105 := ho97.below hl102
  have ho107 : Own eStr 9 G93 w99 w.heap.size u98 ([setX (setX s i9 (⟨#[46]⟩ : ByteArray)) ((i9 : Int) + (2 * ((1 : Nat) : Int) - 1)).toNat (⟨#[82]⟩ : ByteArray)]) := ho100.weaken hX96.size
  refine q1 rfl rfl rfl (o_append (E := eStr) (v := ov2) (u := u98) 16 Tryz.underlying22 ap9 (by decide) rfl rfl hX104.pins ho105 ho107.src (by first | omega | (rw [List.nil_append]; omega) | (rw [List.length_nil]; omega) | (rw [List.length_append]; omega) | (simp; done) | (simp; omega) | (simp only [List.length_cons, List.length_nil]; omega) | (simp only [List.length_append, List.length_cons, List.length_nil]; omega)) (by first | omega | (rw [List.nil_append]; omega) | (rw [List.length_nil]; omega) | (rw [List.length_append]; omega) | (simp; done) | (simp; omega) | (simp only [List.length_cons, List.length_nil]; omega) | (simp only [List.length_append, List.length_cons, List.length_nil]; omega)) (hX104.size) (fun u108 w109 ho110 hp111 hg112 hw113 => ?_))
  have hX114 := hX104.write hp111 hg112 ((lo_own ho105))
  have hm117 : (os2 ++ ([setX (setX s i9 (⟨#[46]⟩ : ByteArray)) ((i9 : Int) + (2 * ((1 : Nat) : Int) - 1)).toNat (⟨#[82]⟩ : ByteArray)])).length = os2.length + 1 := List.length_append
  refine qd rfl rfl rfl (r_assign (v := u108) rfl) (qe (s_blkN (s_then (c_reg ?_))))
  refine qd rfl rfl rfl (r_move (v := (.int .i64 (2 * ((1 : Nat) : Int) - 1))) rfl) (qd rfl rfl rfl (r_add rfl rfl (by omega)) (qd rfl rfl rfl (r_assign (v := (.int .i64 ((2 * ((1 : Nat) : Int) - 1) + 2))) rfl) (qe (s_lopN (⟨_, ?_, _, rfl, _, 1 + 1, u108, os2 ++ ([setX (setX s i9 (⟨#[46]⟩ : ByteArray)) ((i9 : Int) + (2 * ((1 : Nat) : Int) - 1)).toNat (⟨#[82]⟩ : ByteArray)]), G93, (packS (x := 11) (packS (x := 10) (packS (x := 9) (packS (x := 8) (packS (x := 7) (packS (x := 6) (packS (x := 2) (packS (x := 1) (pack1 (x := 0) rfl) rfl) rfl) rfl) rfl) rfl) rfl) rfl) rfl), rfl, hX114, (Pin.le_trans (Pin.le_trans (Pin.le_trans hlek34 hx84.le) hx90.le) hx95.le), (by omega), (by rw [hos2, List.append_assoc]; exact (congrArg (os ++ ·) (run_app rfl (by rw [setX_two (by omega) (by omega)]; exact clobR_y (left := false) (j := 1) (by rw [nb1]; omega) h81 h87)))), (by simp; omega), ho110⟩)))))
  omega
  refine wp_skip (s_blkN (s_then (c_reg ?_)))
  refine qd rfl rfl rfl (r_move (v := (.int .i64 (2 * ((1 : Nat) : Int) - 1))) rfl) (qd rfl rfl rfl (r_add rfl rfl (by omega)) (qd rfl rfl rfl (r_assign (v := (.int .i64 ((2 * ((1 : Nat) : Int) - 1) + 2))) rfl) (qe (s_lopN (⟨_, ?_, _, rfl, _, 1 + 1, ov2, os2, G82, (packS (x := 11) (packS (x := 10) (packS (x := 9) (packS (x := 8) (packS (x := 7) (packS (x := 6) (packS (x := 2) (packS (x := 1) (pack1 (x := 0) rfl) rfl) rfl) rfl) rfl) rfl) rfl) rfl) rfl), rfl, hX85, (Pin.le_trans hlek34 hx84.le), (by omega), (by rw [hos2]; exact (congrArg (os ++ ·) (run_nil rfl (clobR_b (left := false) (j := 1) (by rw [nb1]; omega) h87)))), (by omega), ho86⟩)))))
  omega
  refine wp_exit (s_thenE (s_lopE (s_blkE (s_blkN (s_blkN (s_then (c_reg ?_)))))))
  refine qd rfl rfl rfl (r_move (v := (.int .i64 (i9 : Int))) rfl) (qd rfl rfl rfl (r_add rfl rfl (by omega)) (qd rfl rfl rfl (r_assign (v := (.int .i64 ((i9 : Int) + 1))) rfl) (qe (s_lopN (⟨_, ?_, _, rfl, _, i9 + 1, ov2, os2, GL2, (packS (x := 10) (packS (x := 9) (packS (x := 8) (packS (x := 7) (packS (x := 6) (packS (x := 2) (packS (x := 1) (pack1 (x := 0) rfl) rfl) rfl) rfl) rfl) rfl) rfl) rfl), rfl, hX41, (Pin.le_trans hlek9 hlek34), (by omega), (run_join hos hos2 ((clob_no (left := false) h33 h81 1).symm)), (by omega), ho42⟩)))))
  omega
 refine dr_skip (i := 3) rfl rfl (want_no rfl rfl rfl rfl rfl) (by kernel_rfl) hX41.pins (dr_skip (i := 4) rfl rfl (want_no rfl rfl rfl rfl rfl) (by kernel_rfl) hX41.pins (dr_skip (i := 5) rfl rfl (want_no rfl rfl rfl rfl rfl) (by kernel_rfl) hX41.pins (dr_skip (i := 6) rfl rfl (want_no rfl rfl rfl rfl rfl) (by kernel_rfl) hX41.pins (dr_skip (i := 7) rfl rfl (want_no rfl rfl rfl rfl rfl) (by kernel_rfl) hX41.pins (dr_skip (i := 8) rfl rfl (want_no rfl rfl rfl rfl rfl) (by kernel_rfl) hX41.pins (dr_take (i := 9) rfl rfl rfl (want_none rfl _) (by kernel_rfl) (fun _ _ => r_pickF (v := (.bool false)) rfl rfl) hX41.pins (dr_end (by kernel_rfl) (s_then (c_ifF rfl rfl (wp_exit (s_thenE (s_lopE (s_blkE (s_blkN (s_blkN (s_then (c_reg ?_)))))))))))))))))
 refine qd rfl rfl rfl (r_move (v := (.int .i64 (i9 : Int))) rfl) (qd rfl rfl rfl (r_add rfl rfl (by omega)) (qd rfl rfl rfl (r_assign (v := (.int .i64 ((i9 : Int) + 1))) rfl) (qe (s_lopN (⟨_, ?_, _, rfl, _, i9 + 1, ov2, os2, GL2, (packS (x := 10) (packS (x := 9) (packS (x := 8) (packS (x := 7) (packS (x := 6) (packS (x := 2) (packS (x := 1) (pack1 (x := 0) rfl) rfl) rfl) rfl) rfl) rfl) rfl) rfl), rfl, hX41, (Pin.le_trans hlek9 hlek34), (by omega), (run_join hos hos2 ((clob_at (left := false) h33).trans (by rw [show q9 = 2 by omega]))), (by omega), ho42⟩)))))
 omega
 refine s_seq (c_reg ?_)
 refine qd rfl rfl rfl (r_move (v := (.string (⟨#[82]⟩ : ByteArray))) rfl) (qd rfl rfl rfl (r_idx1 (c := 82) Tryz.underlying9 rfl rfl) (qd rfl rfl rfl (r_assign (v := (.int .u8 ((82 : UInt8).toNat : Int))) rfl) (qe (s_then (s_seq (s_seq (c_reg ?_)))))))
 refine qd rfl rfl rfl (r_move (v := (.int .i64 kind)) rfl) (qd rfl rfl rfl (r_eql rfl rfl) (qe (s_then ?_)))
 refine c_ifd (p := (kind : Int) = 3) rfl rfl (fun h118 => ?_) (fun h118 => ?_)
 refine c_reg (qd rfl rfl rfl (r_move (v := (.string (⟨#[76]⟩ : ByteArray))) rfl) (qd rfl rfl rfl (r_idx1 (c := 76) Tryz.underlying9 rfl rfl) (qd rfl rfl rfl (r_assign (v := (.int .u8 ((76 : UInt8).toNat : Int))) rfl) (qe (s_then (s_seq (c_reg ?_)))))))
 refine qd rfl rfl rfl (r_move (v := (.string s)) rfl) (qd rfl rfl rfl (r_move (v := (.int .i64 (i9 : Int))) rfl) (qd rfl rfl rfl (r_idxB Tryz.underlying9 rfl rfl (by omega) (by omega)) (qd rfl rfl rfl (r_eql rfl rfl) (qd rfl rfl rfl (r_move (v := (.bool (decide ((((sB s i9).toNat : Int) : Int) = 46)))) rfl) (qbd (p := (((sB s i9).toNat : Int) : Int) = 46) (t := 33) rfl (fun h119 => ?_) (fun h119 => ?_))))))
 refine qdg rfl rfl rfl rfl rfl rfl (r_move (v := (.string s)) rfl) (qdg rfl rfl rfl rfl rfl rfl (r_move (v := (.int .i64 (i9 : Int))) rfl) (qdg rfl rfl rfl rfl rfl rfl (r_sub rfl rfl (by omega)) (qdg rfl rfl rfl rfl rfl rfl (r_move (v := (.int .u8 ((76 : UInt8).toNat : Int))) rfl) (q1g rfl rfl rfl rfl rfl rfl (o_call (vs := [(.string s), (.int .i64 ((i9 : Int) - 1)), (.int .u8 ((76 : UInt8).toNat : Int))]) Tryz.func87 nm87 rfl rfl rfl ?_)))))
 refine Calls.mono (is23_spec (s := s) (i := ((i9 : Int) - 1)) (c := (76 : UInt8)) hX12.pins (by omega) (by first | decide | assumption | exact mineS_pos _)) ?_
 rintro _ w121 ⟨G120, rfl, hx122⟩
 refine ⟨_, rfl, ?_⟩
 have hX123 := hX12.tr hx122
 have ho124 := hw13.ext hx122
 refine qdg rfl rfl rfl rfl rfl rfl (r_not rfl) (qd rfl rfl rfl (r_pickT (v := (.bool (!(decide (((cB s ((i9 : Int) - 1)).toNat : Int) = ((76 : UInt8).toNat : Int)))))) rfl rfl) (qd rfl rfl rfl (r_move (v := (.bool (!(decide (((cB s ((i9 : Int) - 1)).toNat : Int) = ((76 : UInt8).toNat : Int)))))) rfl) (qbn (t := 41) rfl (fun h125 => ?_) (fun h125 => ?_))))
 replace h125 := of_decide_eq_true h125
 refine qs rfl rfl rfl rfl rfl rfl (qs rfl rfl rfl rfl rfl rfl (qs rfl rfl rfl rfl rfl rfl (qs rfl rfl rfl rfl rfl rfl (qs rfl rfl rfl rfl rfl rfl (qs rfl rfl rfl rfl rfl rfl (qd rfl rfl rfl (r_pickF (v := (.bool false)) rfl rfl) (qe (s_then ?_))))))))
 refine c_ifF rfl rfl (wp_skip (s_blkN (s_blkN (s_then (c_reg ?_)))))
 refine qd rfl rfl rfl (r_move (v := (.int .i64 (i9 : Int))) rfl) (qd rfl rfl rfl (r_add rfl rfl (by omega)) (qd rfl rfl rfl (r_assign (v := (.int .i64 ((i9 : Int) + 1))) rfl) (qe (s_lopN (⟨_, ?_, _, rfl, _, i9 + 1, ov, os, G120, (packS (x := 10) (packS (x := 9) (packS (x := 8) (packS (x := 7) (packS (x := 6) (packS (x := 2) (packS (x := 1) (pack1 (x := 0) rfl) rfl) rfl) rfl) rfl) rfl) rfl) rfl), rfl, hX123, (Pin.le_trans hlek9 hx122.le), (by omega), (run_nil hos ((mark_at (left := false) (c := mineS (!false)) h15 h33 (Or.inl ⟨h118, rfl⟩)).trans (mark_b h125))), (by omega), ho124⟩)))))
 omega
 replace h125 := of_decide_eq_false h125
 refine qdg rfl rfl rfl rfl rfl rfl (r_move (v := (.string s)) rfl) (qdg rfl rfl rfl rfl rfl rfl (r_move (v := (.int .i64 (i9 : Int))) rfl) (qdg rfl rfl rfl rfl rfl rfl (r_add rfl rfl (by omega)) (qdg rfl rfl rfl rfl rfl rfl (r_move (v := (.int .u8 ((76 : UInt8).toNat : Int))) rfl) (q1g rfl rfl rfl rfl rfl rfl (o_call (vs := [(.string s), (.int .i64 ((i9 : Int) + 1)), (.int .u8 ((76 : UInt8).toNat : Int))]) Tryz.func87 nm87 rfl rfl rfl ?_)))))
 refine Calls.mono (is23_spec (s := s) (i := ((i9 : Int) + 1)) (c := (76 : UInt8)) hX123.pins (by omega) (by first | decide | assumption | exact mineS_pos _)) ?_
 rintro _ w127 ⟨G126, rfl, hx128⟩
 refine ⟨_, rfl, ?_⟩
 have hX129 := hX123.tr hx128
 have ho130 := ho124.ext hx128
 refine qdg rfl rfl rfl rfl rfl rfl (r_not rfl) (qd rfl rfl rfl (r_pickT (v := (.bool (!(decide (((cB s ((i9 : Int) + 1)).toNat : Int) = ((76 : UInt8).toNat : Int)))))) rfl rfl) (qe (s_then ?_)))
 refine c_ifn rfl rfl (fun h131 => ?_) (fun h131 => ?_)
 replace h131 := of_decide_eq_true h131
 refine wp_skip (s_blkN (s_blkN (s_then (c_reg ?_))))
 refine qd rfl rfl rfl (r_move (v := (.int .i64 (i9 : Int))) rfl) (qd rfl rfl rfl (r_add rfl rfl (by omega)) (qd rfl rfl rfl (r_assign (v := (.int .i64 ((i9 : Int) + 1))) rfl) (qe (s_lopN (⟨_, ?_, _, rfl, _, i9 + 1, ov, os, G126, (packS (x := 10) (packS (x := 9) (packS (x := 8) (packS (x := 7) (packS (x := 6) (packS (x := 2) (packS (x := 1) (pack1 (x := 0) rfl) rfl) rfl) rfl) rfl) rfl) rfl) rfl), rfl, hX129, (Pin.le_trans (Pin.le_trans hlek9 hx122.le) hx128.le), (by omega), (run_nil hos ((mark_at (left := false) (c := mineS (!false)) h15 h33 (Or.inl ⟨h118, rfl⟩)).trans (mark_c h131))), (by omega), ho130⟩)))))
 omega
 replace h131 := of_decide_eq_false h131
 refine c_reg ?_
 have hmn : (⟨#[82]⟩ : ByteArray).size = 1 := rfl
 refine qd rfl rfl rfl (r_move (v := ov) rfl) (qd rfl rfl rfl (r_move (v := (.string s)) rfl) (qd rfl rfl rfl (r_move (v := (.int .i64 (i9 : Int))) rfl) (qd rfl rfl rfl (r_move (v := (.string (⟨#[82]⟩ : ByteArray))) rfl) (q1 rfl rfl rfl (o_call (vs := [(.string s), (.int .i64 (i9 : Int)), (.string (⟨#[82]⟩ : ByteArray))]) Tryz.func88 nm88 rfl rfl rfl ?_)))))
 refine Calls.mono (set23_spec (s := s) (i := (i9 : Int)) (t := (⟨#[82]⟩ : ByteArray)) hX129.pins (by omega) (by omega) (by omega)) ?_
 rintro _ w133 ⟨G132, rfl, hx134⟩
 refine ⟨_, rfl, ?_⟩
 have hX135 := hX129.tr hx134
 have ho136 := ho130.ext hx134
 refine q1 rfl rfl rfl (o_buildF (E := eStr) (e := 9) [(.string (setX s i9 (⟨#[82]⟩ : ByteArray)))] [setX s i9 (⟨#[82]⟩ : ByteArray)] Tryz.underlying22 sz9 zr9 (by exact reps1 (by rfl)) (ones1 (by rfl)) rfl rfl rfl rfl (by decide) hX135.pins (fun u137 w138 ho139 hp140 hl141 hk142 => ?_))
 have hX143 := hX135.step hp140 hl141
 have ho144 := ho136.below hl141
 have ho146 : Own eStr 9 G132 w138 w.heap.size u137 ([setX s i9 (⟨#[82]⟩ : ByteArray)]) := ho139.weaken hX135.size
 refine q1 rfl rfl rfl (o_append (E := eStr) (v := ov) (u := u137) 16 Tryz.underlying22 ap9 (by decide) rfl rfl hX143.pins ho144 ho146.src (by first | omega | (rw [List.nil_append]; omega) | (rw [List.length_nil]; omega) | (rw [List.length_append]; omega) | (simp; done) | (simp; omega) | (simp only [List.length_cons, List.length_nil]; omega) | (simp only [List.length_append, List.length_cons, List.length_nil]; omega)) (by first | omega | (rw [List.nil_append]; omega) | (rw [List.length_nil]; omega) | (rw [List.length_append]; omega) | (simp; done) | (simp; omega) | (simp only [List.length_cons, List.length_nil]; omega) | (simp only [List.length_append, List.length_cons, List.length_nil]; omega)) (hX143.size) (fun u147 w148 ho149 hp150 hg151 hw152 => ?_))
 have hX153 := hX143.write hp150 hg151 ((lo_own ho144))
 have hm156 : (os ++ ([setX s i9 (⟨#[82]⟩ : ByteArray)])).length = os.length + 1 := List.length_append
 refine qd rfl rfl rfl (r_assign (v := u147) rfl) (qe (s_blkN (s_blkN (s_then (c_reg ?_)))))
 refine qd rfl rfl rfl (r_move (v := (.int .i64 (i9 : Int))) rfl) (qd rfl rfl rfl (r_add rfl rfl (by omega)) (qd rfl rfl rfl (r_assign (v := (.int .i64 ((i9 : Int) + 1))) rfl) (qe (s_lopN (⟨_, ?_, _, rfl, _, i9 + 1, u147, os ++ ([setX s i9 (⟨#[82]⟩ : ByteArray)]), G132, (packS (x := 10) (packS (x := 9) (packS (x := 8) (packS (x := 7) (packS (x := 6) (packS (x := 2) (packS (x := 1) (pack1 (x := 0) rfl) rfl) rfl) rfl) rfl) rfl) rfl) rfl), rfl, hX153, (Pin.le_trans (Pin.le_trans (Pin.le_trans hlek9 hx122.le) hx128.le) hx134.le), (by omega), (run_app hos ((mark_at (left := false) (c := mineS (!false)) h15 h33 (Or.inl ⟨h118, rfl⟩)).trans (markX_y (by omega) h119 h125 h131))), (by simp only [List.length_append, List.length_cons, List.length_nil]; omega), ho149⟩)))))
 omega
 refine qs rfl rfl rfl rfl rfl rfl (qs rfl rfl rfl rfl rfl rfl (qs rfl rfl rfl rfl rfl rfl (qs rfl rfl rfl rfl rfl rfl (qs rfl rfl rfl rfl rfl rfl (qs rfl rfl rfl rfl rfl rfl (qd rfl rfl rfl (r_pickF (v := (.bool false)) rfl rfl) (qd rfl rfl rfl (r_move (v := (.bool false)) rfl) (qs rfl rfl rfl rfl rfl rfl (qs rfl rfl rfl rfl rfl rfl (qs rfl rfl rfl rfl rfl rfl (qs rfl rfl rfl rfl rfl rfl (qs rfl rfl rfl rfl rfl rfl (qs rfl rfl rfl rfl rfl rfl (qd rfl rfl rfl (r_pickF (v := (.bool false)) rfl rfl) (qe (s_then ?_))))))))))))))))
 refine c_ifF rfl rfl (wp_skip (s_blkN (s_blkN (s_then (c_reg ?_)))))
 refine qd rfl rfl rfl (r_move (v := (.int .i64 (i9 : Int))) rfl) (qd rfl rfl rfl (r_add rfl rfl (by omega)) (qd rfl rfl rfl (r_assign (v := (.int .i64 ((i9 : Int) + 1))) rfl) (qe (s_lopN (⟨_, ?_, _, rfl, _, i9 + 1, ov, os, GL1, (packS (x := 10) (packS (x := 9) (packS (x := 8) (packS (x := 7) (packS (x := 6) (packS (x := 2) (packS (x := 1) (pack1 (x := 0) rfl) rfl) rfl) rfl) rfl) rfl) rfl) rfl), rfl, hX12, hlek9, (by omega), (run_nil hos ((mark_at (left := false) (c := mineS (!false)) h15 h33 (Or.inl ⟨h118, rfl⟩)).trans (mark_a h119))), (by omega), hw13⟩)))))
 omega
 refine wp_skip (s_then (s_seq (c_reg ?_)))
 refine qd rfl rfl rfl (r_move (v := (.string s)) rfl) (qd rfl rfl rfl (r_move (v := (.int .i64 (i9 : Int))) rfl) (qd rfl rfl rfl (r_idxB Tryz.underlying9 rfl rfl (by omega) (by omega)) (qd rfl rfl rfl (r_eql rfl rfl) (qd rfl rfl rfl (r_move (v := (.bool (decide ((((sB s i9).toNat : Int) : Int) = 46)))) rfl) (qbd (p := (((sB s i9).toNat : Int) : Int) = 46) (t := 33) rfl (fun h157 => ?_) (fun h157 => ?_))))))
 refine qdg rfl rfl rfl rfl rfl rfl (r_move (v := (.string s)) rfl) (qdg rfl rfl rfl rfl rfl rfl (r_move (v := (.int .i64 (i9 : Int))) rfl) (qdg rfl rfl rfl rfl rfl rfl (r_sub rfl rfl (by omega)) (qdg rfl rfl rfl rfl rfl rfl (r_move (v := (.int .u8 ((82 : UInt8).toNat : Int))) rfl) (q1g rfl rfl rfl rfl rfl rfl (o_call (vs := [(.string s), (.int .i64 ((i9 : Int) - 1)), (.int .u8 ((82 : UInt8).toNat : Int))]) Tryz.func87 nm87 rfl rfl rfl ?_)))))
 refine Calls.mono (is23_spec (s := s) (i := ((i9 : Int) - 1)) (c := (82 : UInt8)) hX12.pins (by omega) (by first | decide | assumption | exact mineS_pos _)) ?_
 rintro _ w159 ⟨G158, rfl, hx160⟩
 refine ⟨_, rfl, ?_⟩
 have hX161 := hX12.tr hx160
 have ho162 := hw13.ext hx160
 refine qdg rfl rfl rfl rfl rfl rfl (r_not rfl) (qd rfl rfl rfl (r_pickT (v := (.bool (!(decide (((cB s ((i9 : Int) - 1)).toNat : Int) = ((82 : UInt8).toNat : Int)))))) rfl rfl) (qd rfl rfl rfl (r_move (v := (.bool (!(decide (((cB s ((i9 : Int) - 1)).toNat : Int) = ((82 : UInt8).toNat : Int)))))) rfl) (qbn (t := 41) rfl (fun h163 => ?_) (fun h163 => ?_))))
 replace h163 := of_decide_eq_true h163
 refine qs rfl rfl rfl rfl rfl rfl (qs rfl rfl rfl rfl rfl rfl (qs rfl rfl rfl rfl rfl rfl (qs rfl rfl rfl rfl rfl rfl (qs rfl rfl rfl rfl rfl rfl (qs rfl rfl rfl rfl rfl rfl (qd rfl rfl rfl (r_pickF (v := (.bool false)) rfl rfl) (qe (s_then ?_))))))))
 refine c_ifF rfl rfl (wp_skip (s_blkN (s_blkN (s_then (c_reg ?_)))))
 refine qd rfl rfl rfl (r_move (v := (.int .i64 (i9 : Int))) rfl) (qd rfl rfl rfl (r_add rfl rfl (by omega)) (qd rfl rfl rfl (r_assign (v := (.int .i64 ((i9 : Int) + 1))) rfl) (qe (s_lopN (⟨_, ?_, _, rfl, _, i9 + 1, ov, os, G158, (packS (x := 10) (packS (x := 9) (packS (x := 8) (packS (x := 7) (packS (x := 6) (packS (x := 2) (packS (x := 1) (pack1 (x := 0) rfl) rfl) rfl) rfl) rfl) rfl) rfl) rfl), rfl, hX161, (Pin.le_trans hlek9 hx160.le), (by omega), (run_nil hos ((mark_at (left := false) (c := mineS (false)) h15 h33 (Or.inr ⟨by omega, rfl⟩)).trans (mark_b h163))), (by omega), ho162⟩)))))
 omega
 replace h163 := of_decide_eq_false h163
 refine qdg rfl rfl rfl rfl rfl rfl (r_move (v := (.string s)) rfl) (qdg rfl rfl rfl rfl rfl rfl (r_move (v := (.int .i64 (i9 : Int))) rfl) (qdg rfl rfl rfl rfl rfl rfl (r_add rfl rfl (by omega)) (qdg rfl rfl rfl rfl rfl rfl (r_move (v := (.int .u8 ((82 : UInt8).toNat : Int))) rfl) (q1g rfl rfl rfl rfl rfl rfl (o_call (vs := [(.string s), (.int .i64 ((i9 : Int) + 1)), (.int .u8 ((82 : UInt8).toNat : Int))]) Tryz.func87 nm87 rfl rfl rfl ?_)))))
 refine Calls.mono (is23_spec (s := s) (i := ((i9 : Int) + 1)) (c := (82 : UInt8)) hX161.pins (by omega) (by first | decide | assumption | exact mineS_pos _)) ?_
 rintro _ w165 ⟨G164, rfl, hx166⟩
 refine ⟨_, rfl, ?_⟩
 have hX167 := hX161.tr hx166
 have ho168 := ho162.ext hx166
 refine qdg rfl rfl rfl rfl rfl rfl (r_not rfl) (qd rfl rfl rfl (r_pickT (v := (.bool (!(decide (((cB s ((i9 : Int) + 1)).toNat : Int) = ((82 : UInt8).toNat : Int)))))) rfl rfl) (qe (s_then ?_)))
 refine c_ifn rfl rfl (fun h169 => ?_) (fun h169 => ?_)
 replace h169 := of_decide_eq_true h169
 refine wp_skip (s_blkN (s_blkN (s_then (c_reg ?_))))
 refine qd rfl rfl rfl (r_move (v := (.int .i64 (i9 : Int))) rfl) (qd rfl rfl rfl (r_add rfl rfl (by omega)) (qd rfl rfl rfl (r_assign (v := (.int .i64 ((i9 : Int) + 1))) rfl) (qe (s_lopN (⟨_, ?_, _, rfl, _, i9 + 1, ov, os, G164, (packS (x := 10) (packS (x := 9) (packS (x := 8) (packS (x := 7) (packS (x := 6) (packS (x := 2) (packS (x := 1) (pack1 (x := 0) rfl) rfl) rfl) rfl) rfl) rfl) rfl) rfl), rfl, hX167, (Pin.le_trans (Pin.le_trans hlek9 hx160.le) hx166.le), (by omega), (run_nil hos ((mark_at (left := false) (c := mineS (false)) h15 h33 (Or.inr ⟨by omega, rfl⟩)).trans (mark_c h169))), (by omega), ho168⟩)))))
 omega
 replace h169 := of_decide_eq_false h169
 refine c_reg ?_
 have hmn : (⟨#[82]⟩ : ByteArray).size = 1 := rfl
 refine qd rfl rfl rfl (r_move (v := ov) rfl) (qd rfl rfl rfl (r_move (v := (.string s)) rfl) (qd rfl rfl rfl (r_move (v := (.int .i64 (i9 : Int))) rfl) (qd rfl rfl rfl (r_move (v := (.string (⟨#[82]⟩ : ByteArray))) rfl) (q1 rfl rfl rfl (o_call (vs := [(.string s), (.int .i64 (i9 : Int)), (.string (⟨#[82]⟩ : ByteArray))]) Tryz.func88 nm88 rfl rfl rfl ?_)))))
 refine Calls.mono (set23_spec (s := s) (i := (i9 : Int)) (t := (⟨#[82]⟩ : ByteArray)) hX167.pins (by omega) (by omega) (by omega)) ?_
 rintro _ w171 ⟨G170, rfl, hx172⟩
 refine ⟨_, rfl, ?_⟩
 have hX173 := hX167.tr hx172
 have ho174 := ho168.ext hx172
 refine q1 rfl rfl rfl (o_buildF (E := eStr) (e := 9) [(.string (setX s i9 (⟨#[82]⟩ : ByteArray)))] [setX s i9 (⟨#[82]⟩ : ByteArray)] Tryz.underlying22 sz9 zr9 (by exact reps1 (by rfl)) (ones1 (by rfl)) rfl rfl rfl rfl (by decide) hX173.pins (fun u175 w176 ho177 hp178 hl179 hk180 => ?_))
 have hX181 := hX173.step hp178 hl179
 have ho182 := ho174.below hl179
 have ho184 : Own eStr 9 G170 w176 w.heap.size u175 ([setX s i9 (⟨#[82]⟩ : ByteArray)]) := ho177.weaken hX173.size
 refine q1 rfl rfl rfl (o_append (E := eStr) (v := ov) (u := u175) 16 Tryz.underlying22 ap9 (by decide) rfl rfl hX181.pins ho182 ho184.src (by first | omega | (rw [List.nil_append]; omega) | (rw [List.length_nil]; omega) | (rw [List.length_append]; omega) | (simp; done) | (simp; omega) | (simp only [List.length_cons, List.length_nil]; omega) | (simp only [List.length_append, List.length_cons, List.length_nil]; omega)) (by first | omega | (rw [List.nil_append]; omega) | (rw [List.length_nil]; omega) | (rw [List.length_append]; omega) | (simp; done) | (simp; omega) | (simp only [List.length_cons, List.length_nil]; omega) | (simp only [List.length_append, List.length_cons, List.length_nil]; omega)) (hX181.size) (fun u185 w186 ho187 hp188 hg189 hw190 => ?_))
 have hX191 := hX181.write hp188 hg189 ((lo_own ho182))
 have hm194 : (os ++ ([setX s i9 (⟨#[82]⟩ : ByteArray)])).length = os.length + 1 := List.length_append
 refine qd rfl rfl rfl (r_assign (v := u185) rfl) (qe (s_blkN (s_blkN (s_then (c_reg ?_)))))
 refine qd rfl rfl rfl (r_move (v := (.int .i64 (i9 : Int))) rfl) (qd rfl rfl rfl (r_add rfl rfl (by omega)) (qd rfl rfl rfl (r_assign (v := (.int .i64 ((i9 : Int) + 1))) rfl) (qe (s_lopN (⟨_, ?_, _, rfl, _, i9 + 1, u185, os ++ ([setX s i9 (⟨#[82]⟩ : ByteArray)]), G170, (packS (x := 10) (packS (x := 9) (packS (x := 8) (packS (x := 7) (packS (x := 6) (packS (x := 2) (packS (x := 1) (pack1 (x := 0) rfl) rfl) rfl) rfl) rfl) rfl) rfl) rfl), rfl, hX191, (Pin.le_trans (Pin.le_trans (Pin.le_trans hlek9 hx160.le) hx166.le) hx172.le), (by omega), (run_app hos ((mark_at (left := false) (c := mineS (false)) h15 h33 (Or.inr ⟨by omega, rfl⟩)).trans (markX_y (by omega) h157 h163 h169))), (by simp only [List.length_append, List.length_cons, List.length_nil]; omega), ho187⟩)))))
 omega
 refine qs rfl rfl rfl rfl rfl rfl (qs rfl rfl rfl rfl rfl rfl (qs rfl rfl rfl rfl rfl rfl (qs rfl rfl rfl rfl rfl rfl (qs rfl rfl rfl rfl rfl rfl (qs rfl rfl rfl rfl rfl rfl (qd rfl rfl rfl (r_pickF (v := (.bool false)) rfl rfl) (qd rfl rfl rfl (r_move (v := (.bool false)) rfl) (qs rfl rfl rfl rfl rfl rfl (qs rfl rfl rfl rfl rfl rfl (qs rfl rfl rfl rfl rfl rfl (qs rfl rfl rfl rfl rfl rfl (qs rfl rfl rfl rfl rfl rfl (qs rfl rfl rfl rfl rfl rfl (qd rfl rfl rfl (r_pickF (v := (.bool false)) rfl rfl) (qe (s_then ?_))))))))))))))))
 refine c_ifF rfl rfl (wp_skip (s_blkN (s_blkN (s_then (c_reg ?_)))))
 refine qd rfl rfl rfl (r_move (v := (.int .i64 (i9 : Int))) rfl) (qd rfl rfl rfl (r_add rfl rfl (by omega)) (qd rfl rfl rfl (r_assign (v := (.int .i64 ((i9 : Int) + 1))) rfl) (qe (s_lopN (⟨_, ?_, _, rfl, _, i9 + 1, ov, os, GL1, (packS (x := 10) (packS (x := 9) (packS (x := 8) (packS (x := 7) (packS (x := 6) (packS (x := 2) (packS (x := 1) (pack1 (x := 0) rfl) rfl) rfl) rfl) rfl) rfl) rfl) rfl), rfl, hX12, hlek9, (by omega), (run_nil hos ((mark_at (left := false) (c := mineS (false)) h15 h33 (Or.inr ⟨by omega, rfl⟩)).trans (mark_a h157))), (by omega), hw13⟩)))))
 omega
 refine wp_exit (s_thenE (s_lopE (s_blkE (s_then (s_seq (c_reg ?_))))))
 refine qd rfl rfl rfl (r_move (v := ov) rfl) (qd rfl rfl rfl (r_assign (v := ov) rfl) (qe (s_then ?_)))
 refine wp_ret (s_ret (c_ret1 (v := ov) rfl rfl rfl ?_))
 obtain ⟨G195, hle198, hX197, hr196, hf199⟩ := hw13.sealed hX12
 have hin : i9 = s.size := by omega
 subst hin
 exact ⟨_, _, rfl, (by unfold stripM; rw [← hos]; exact hr196), hX197⟩

theorem mv23_spec {w : World} {G : Pin} {kind : Int} {s : ByteArray} {left : Bool} (hP : Pins G w) (hs : s.size ≤ 1000) (hkd : 0 ≤ kind ∧ kind ≤ 3) :
  Calls Tryz.prog 55 [.int .i64 kind, .string s, .bool left].toArray w fun e w' => ∃ (u : Value) (G' : Pin), e = .returned u ∧ RSl eStr G' u (stripM kind s left) ∧ Ext noS G w G' w' := by
 cases left with
 | true => exact mv23_true hP hs hkd
 | false => exact mv23_false hP hs hkd

end PS9
end Go.Proofs.YtianphgdbfekdaaGreatDoor

set_option maxRecDepth 20000
set_option maxHeartbeats 2000000
namespace Go.Proofs.YtianphgdbfekdaaGreatDoor
namespace RM6
open Go.RowKit Go.GL Go.Proofs
open RM5











theorem smoves_true {w : World} {G : Pin} {v : Value} {rows : List ByteArray} (hP : Pins G w) (hv : RSl eStr G v rows) (g : GbP rows) :
  Calls Tryz.prog 40 [(.agg [v].toArray), (.bool true)].toArray w fun e w' => ∃ (u : Value) (G' : Pin), e = .returned u ∧ RSl (eSl eStr) G' u (dmM rows true) ∧ Ext noS G w G' w' := by
 refine s_enter (n := 74) Tryz.func40 Tryz.ntmps40 rfl rfl ?_
 have hX0 : Ext noS G w G w := Ext.refl hP
 have hm := hv.max
 have ghi := g.hi
 have gwd : 1 ≤ (rows.getD 0 ByteArray.empty).size ∧ (rows.getD 0 ByteArray.empty).size ≤ 8 := g.wd
 have geq : ∀ i, i < rows.length → (rows.getD i ByteArray.empty).size = (rows.getD 0 ByteArray.empty).size := g.eq
 have hcl : (cellsM rows).length = rows.length := cells_len
 have hcw : ∀ i, i < rows.length → ((cellsM rows).getD i []).length = (rows.getD 0 ByteArray.empty).size := fun i hi => cells_wd g hi
 refine s_seq (c_reg ?_)
 refine q1 rfl rfl rfl (o_box [v] (v := (.agg [v].toArray)) rfl rfl hX0.pins (fun b1 w2 hk3 hb4 hp5 hl6 => ?_))
 have hX7 := hX0.step hp5 hl6
 have hlo8 : w.heap.size ≤ b1 := by have := hX0.size; omega
 obtain ⟨G9, hle10, hX11, hbp12, hf13⟩ := hb4.shut hX7 hlo8
 refine qd rfl rfl rfl (r_assign (v := (.slice none 0 0)) rfl) (qe (s_then (s_seq (c_reg ?_))))
 refine q1 rfl rfl rfl (o_build0 (E := (eSl eStr)) (e := 56) Tryz.underlying66 sz56 hX11.pins (fun u14 w15 ho16 hp17 hl18 hk19 => ?_))
 have hX20 := hX11.step hp17 hl18
 have ho21 : Own (eSl eStr) 56 G9 w15 w.heap.size u14 ([]) := ho16.weaken hX11.size
 refine qd rfl rfl rfl (r_assign (v := u14) rfl) (qe (s_then (s_seq (c_reg ?_))))
 refine qd rfl rfl rfl (r_ldpA (cs := [v]) ag56 sz56 rfl (fun j u hj => hX20.pins _ _ _ (hbp12 _ _ (by simpa using hj)))) (q1 rfl rfl rfl (o_call (vs := [(.agg [v].toArray)]) Tryz.func64 nm64 rfl rfl rfl ?_))
 refine Calls.mono (cells_spec hX20.pins (hv.mono hle10) g) ?_
 rintro _ w24 ⟨u22, G23, rfl, hd25, hx26⟩
 refine ⟨_, rfl, ?_⟩
 have hX27 := hX20.tr hx26
 have ho28 := ho21.ext hx26
 have hm29 := hd25.max
 refine qd rfl rfl rfl (r_assign (v := u22) rfl) (qe (s_then (s_seq (c_reg ?_))))
 refine qd rfl rfl rfl (r_assign (v := (.int .i64 0)) rfl) (qd rfl rfl rfl (r_assign (v := (.int .i64 1)) rfl) (qe (s_then (s_seq (s_seq (c_reg ?_))))))
 refine qd rfl rfl rfl (r_move (v := (.bool true)) rfl) (qe (s_then ?_))
 refine c_ifT rfl rfl (c_reg (qd rfl rfl rfl (r_assign (v := (.int .i64 1)) rfl) (qd rfl rfl rfl (r_assign (v := (.int .i64 0)) rfl) (qe (s_then (s_seq (s_seq (c_reg ?_))))))))
 refine qd rfl rfl rfl (r_assign (v := (.int .i64 0)) rfl) (qe (s_then ?_))
 refine s_blk (s_loop (fun (k : Nat) (en : Nat → Value) (W : World) => ∃ (env1 : Nat → Value) (i : Nat) (ov : Value) (os : List (List ByteArray)) (GL1 : Pin), en = (upd (upd (upd (upd (upd (upd (upd env1 2 (.pointer (some ⟨b1, 0, none⟩))) 4 (.slice none 0 0)) 5 ov) 6 u22) 7 (.int .i64 1)) 8 (.int .i64 0)) 9 (.int .i64 (i : Int))) ∧ k = rows.length - i ∧ Ext noS G w GL1 W ∧ Pin.le G23 GL1 ∧ (i ≤ rows.length) ∧ (os = dmAll rows true (fun r c => bdM (nextC rows true r c)) i) ∧ (os.length ≤ 8 * i) ∧ (Own (eSl eStr) 56 GL1 W w.heap.size ov (os))) _ ⟨_, 0, u14, [], G23, (packS (x := 9) (packS (x := 8) (packS (x := 7) (packS (x := 6) (packS (x := 5) (packS (x := 4) (pack1 (x := 2) rfl) rfl) rfl) rfl) rfl) rfl) rfl), rfl, hX27, Pin.le_refl _, Nat.zero_le _, rfl, (by simp), ho28⟩ ?_)
 rintro k30 _ w31 ⟨env1, i, ov, os, GL1, rfl, hk32, hX33, hlek30, hi, hos, hol, hw34⟩
 refine s_seq (s_seq (c_reg ?_))
 refine qd rfl rfl rfl (r_move (v := (.int .i64 (i : Int))) rfl) (qd rfl rfl rfl (r_move (v := u22) rfl) (qd rfl rfl rfl (run_len Tryz.underlying80 (v := u22) rfl hd25) (qd rfl rfl rfl (r_lss rfl rfl) (qe (s_then ?_)))))
 refine c_ifd (p := ((i : Int) : Int) < ((cellsM rows).length : Int)) rfl rfl (fun h35 => ?_) (fun h35 => ?_)
 have hci := hcw i (by omega)
 refine wp_skip (s_then (s_seq ?_))
 refine s_blk (s_seq (c_reg ?_))
 refine qd rfl rfl rfl (r_assign (v := (.int .i64 0)) rfl) (qe (s_then ?_))
 refine s_blk (s_loop (fun (k : Nat) (en : Nat → Value) (W : World) => ∃ (env1 : Nat → Value) (q9 : Nat) (ov2 : Value) (os2 : List (List ByteArray)) (GL2 : Pin), en = (upd (upd (upd (upd (upd (upd (upd (upd env1 2 (.pointer (some ⟨b1, 0, none⟩))) 4 (.slice none 0 0)) 5 ov2) 6 u22) 7 (.int .i64 1)) 8 (.int .i64 0)) 9 (.int .i64 (i : Int))) 10 (.int .i64 (q9 : Int))) ∧ k = ((cellsM rows).getD i []).length - q9 ∧ Ext noS G w GL2 W ∧ Pin.le GL1 GL2 ∧ (q9 ≤ ((cellsM rows).getD i []).length) ∧ (os2 = os ++ dmRow rows true (fun r c => bdM (nextC rows true r c)) i q9) ∧ (os2.length ≤ 8 * i + q9) ∧ (Own (eSl eStr) 56 GL2 W w.heap.size ov2 (os2))) _ ⟨_, 0, ov, os, GL1, (packS (x := 10) (packS (x := 9) (packS (x := 8) (packS (x := 7) (packS (x := 6) (packS (x := 5) (packS (x := 4) (pack1 (x := 2) rfl) rfl) rfl) rfl) rfl) rfl) rfl) rfl), rfl, hX33, Pin.le_refl _, Nat.zero_le _, (by simp [dmRow]), (by omega), hw34⟩ ?_)
 rintro k36 _ w37 ⟨env1, q9, ov2, os2, GL2, rfl, hk38, hX39, hlek36, hq, hos2, hol2, hw40⟩
 refine s_seq (s_seq (c_reg ?_))
 refine qd rfl rfl rfl (r_move (v := (.int .i64 (q9 : Int))) rfl) (qd rfl rfl rfl (r_move (v := u22) rfl) (qd rfl rfl rfl (r_move (v := (.int .i64 (i : Int))) rfl) (qd rfl rfl rfl (run_idx Tryz.underlying80 sz82 (v := u22) rfl rfl hd25 (by omega) (by omega)) ?_)))
 obtain ⟨u41, hr42, hl43⟩ := nm_sl (hd25.at (z := (i : Int)) (by omega) (by omega)) (j := i) rfl
 have hm44 := hr42.max
 refine qd rfl rfl rfl (hl43 ag82 rfl (Pins.of_le hX39.pins (Pin.le_trans hlek30 hlek36))) (qd rfl rfl rfl (run_len Tryz.underlying82 (v := u41) rfl hr42) (qd rfl rfl rfl (r_lss rfl rfl) (qe (s_then ?_))))
 refine c_ifd (p := ((q9 : Int) : Int) < (((cellsM rows).getD i []).length : Int)) rfl rfl (fun h45 => ?_) (fun h45 => ?_)
 refine wp_skip (s_then (s_seq ?_))
 refine s_blk (s_seq (s_seq (c_reg ?_)))
 refine qd rfl rfl rfl (r_move (v := u22) rfl) (qd rfl rfl rfl (r_move (v := (.int .i64 (i : Int))) rfl) (qd rfl rfl rfl (run_idx Tryz.underlying80 sz82 (v := u22) rfl rfl hd25 (by omega) (by omega)) ?_))
 obtain ⟨u46, hr47, hl48⟩ := nm_sl (hd25.at (z := (i : Int)) (by omega) (by omega)) (j := i) rfl
 have hm49 := hr47.max
 refine qd rfl rfl rfl (hl48 ag82 rfl (Pins.of_le hX39.pins (Pin.le_trans hlek30 hlek36))) (qd rfl rfl rfl (r_move (v := (.int .i64 (q9 : Int))) rfl) (qd rfl rfl rfl (run_idx Tryz.underlying82 sz4 (v := u46) rfl rfl hr47 (by omega) (by omega)) (qd rfl rfl rfl (run_load_bool (r := ((cellsM rows).getD i []).getD q9 false) rfl ag4 (z := (q9 : Int)) rfl hr47 (Pins.of_le hX39.pins (Pin.le_trans hlek30 hlek36)) (by omega) (by omega)) (qd rfl rfl rfl (r_not rfl) (qd rfl rfl rfl (r_move (v := (.bool (!(((cellsM rows).getD i []).getD q9 false)))) rfl) (qbn (t := 39) rfl (fun h50 => ?_) (fun h50 => ?_)))))))
 refine qdg rfl rfl rfl rfl rfl rfl (r_move (v := u22) rfl) (qdg rfl rfl rfl rfl rfl rfl (r_move (v := (.int .i64 (i : Int))) rfl) (qdg rfl rfl rfl rfl rfl rfl (r_move (v := (.int .i64 1)) rfl) (qdg rfl rfl rfl rfl rfl rfl (r_add rfl rfl (by omega)) (qdg rfl rfl rfl rfl rfl rfl (r_move (v := (.int .i64 (q9 : Int))) rfl) (qdg rfl rfl rfl rfl rfl rfl (r_move (v := (.int .i64 0)) rfl) (qdg rfl rfl rfl rfl rfl rfl (r_add rfl rfl (by omega)) (q1g rfl rfl rfl rfl rfl rfl (o_call (vs := [u22, (.int .i64 ((i : Int) + 1)), (.int .i64 ((q9 : Int) + 0))]) Tryz.func70 nm70 rfl rfl rfl ?_))))))))
 refine Calls.mono (is21_spec (r := ((i : Int) + 1)) (c := ((q9 : Int) + 0)) hX39.pins (hd25.mono (Pin.le_trans hlek30 hlek36)) g) ?_
 rintro _ w52 ⟨G51, rfl, hx53⟩
 refine ⟨_, rfl, ?_⟩
 have hX54 := hX39.tr hx53
 have ho55 := hw40.ext hx53
 refine qdg rfl rfl rfl rfl rfl rfl (r_not rfl) (qd rfl rfl rfl (r_pickF (v := (.bool (!(frI rows ((i : Int) + 1) ((q9 : Int) + 0))))) rfl rfl) (qe (s_then ?_)))
 refine c_ifn rfl rfl (fun h56 => ?_) (fun h56 => ?_)
 refine wp_skip (s_then (s_seq (c_reg ?_)))
 refine qd rfl rfl rfl (r_ldpA (cs := [v]) ag56 sz56 rfl (fun j u hj => (Pins.of_le hX54.pins (Pin.le_trans (Pin.le_trans (Pin.le_trans hx26.le hlek30) hlek36) hx53.le)) _ _ _ (hbp12 _ _ (by simpa using hj)))) (q1 rfl rfl rfl (o_call (vs := [(.agg [v].toArray)]) Tryz.func64 nm64 rfl rfl rfl ?_))
 refine Calls.mono (cells_dspec hX54.pins (hv.mono (Pin.le_trans (Pin.le_trans (Pin.le_trans (Pin.le_trans hle10 hx26.le) hlek30) hlek36) hx53.le)) g) ?_
 rintro _ w59 ⟨u57, G58, rfl, hd60, hx61⟩
 refine ⟨_, rfl, ?_⟩
 have har62 : ∀ k, ov2.ownBlock = some k → w59.heap.size ≤ k ∨ k < w52.heap.size := fun k hk => Or.inr (own_lt ho55 k hk)
 have hao63 : ∀ k, ov2.ownBlock = some k → k < w52.heap.size := own_lt ho55
 have hX64 := hX54.tr hx61
 have ho65 := ho55.ext hx61
 have hone66 := hd60.one
 refine qd rfl rfl rfl (r_assign (v := u57) rfl) (qe (s_then (s_seq (c_reg ?_))))
 have hdm := dms_t g (by omega) (show q9 < (rows.getD 0 ByteArray.empty).size by omega) h50 h56
 have hdi := dm_in g hdm
 have hd1 : i + 1 < rows.length := hdi.1
 have hd2 : q9 + 0 < (rows.getD 0 ByteArray.empty).size := hdi.2
 obtain ⟨us67, hul68, ho69, ho70, hrg71, hst72⟩ := hd60.leaf (i := i) (by first | omega | (simp only [List.length_set]; omega))
 have hlo73 : Lo w (noS) (us67.getD i default).ownBlock := fun k hk => Or.inl (Nat.le_trans hX54.size (hrg71 k hk).1)
 have ha74 : Apart (us67.getD i default).ownBlock ov2.ownBlock := ap_range hrg71 har62
 have hm75 : us67.length = (cellsM rows).length := hul68
 have hm76 : ((cellsM rows).getD i []).length = (rows.getD 0 ByteArray.empty).size := (hcw _ (by omega))
 refine qd rfl rfl rfl (r_move (v := u57) rfl) (qd rfl rfl rfl (r_move (v := (.int .i64 (i : Int))) rfl) (qd rfl rfl rfl (run_idx Tryz.underlying80 sz82 (v := u57) rfl rfl ho69.read (by omega) (by omega)) ?_))
 obtain ⟨cs77, hrep78, hagg79, hcell80⟩ := nm_el (j := i) default (ho69.at (z := (i : Int)) (by omega) (by omega)) rfl
 obtain ⟨rfl, hone83⟩ := hrep78
 refine qd rfl rfl rfl (hcell80 0 (us67.getD i default) (by rw [show (us67.getD i default) = (us67.getD i default) from rfl]; rfl) ag82 rfl (Gadd.pins hX64.pins u57)) (qd rfl rfl rfl (r_move (v := (.int .i64 (q9 : Int))) rfl) (qd rfl rfl rfl (run_idx Tryz.underlying82 sz4 (v := (us67.getD i default)) rfl rfl ho70.read (by omega) (by omega)) (q0 rfl rfl rfl (o_set (E := eBool) (v := (us67.getD i default)) (u := (.bool false)) (z := (q9 : Int)) (false) sz4 rfl rfl rfl rfl hX64.pins ho70 (by omega) (by omega) (fun w84 ho85 hp86 hg87 hz88 => ?_)))))
 have hX89 := hX64.write hp86 hg87 (hlo73)
 have ho90 := ho65.keptA hg87 ha74.symm
 have ho91 : Own eBool 4 G58 w84 w52.heap.size (us67.getD i default) ((((cellsM rows).getD i [])).set q9 false) := ho85
 have hm92 : ((((cellsM rows).getD i [])).set q9 false).length = ((cellsM rows).getD i []).length := List.length_set ..
 refine qe (s_then (s_seq (c_reg ?_)))
 have hd93 := hst72 ho91 hg87
 have hs94 := Nat.le_trans (Nat.le_refl w59.heap.size) hg87.size
 obtain ⟨us95, hul96, ho97, ho98, hrg99, hst100⟩ := hd93.leaf (i := (((i : Int) + 1)).toNat) (by first | omega | (simp only [List.length_set]; omega))
 have hlo101 : Lo w (noS) (us95.getD (((i : Int) + 1)).toNat default).ownBlock := fun k hk => Or.inl (Nat.le_trans hX54.size (hrg99 k hk).1)
 have ha102 : Apart (us95.getD (((i : Int) + 1)).toNat default).ownBlock ov2.ownBlock := ap_range hrg99 har62
 have hm103 : ((cellsM rows).set i ((((cellsM rows).getD i [])).set q9 false)).length = (cellsM rows).length := List.length_set ..
 have hm104 : us95.length = ((cellsM rows).set i ((((cellsM rows).getD i [])).set q9 false)).length := hul96
 have hm105 : (((cellsM rows).set i ((((cellsM rows).getD i [])).set q9 false)).getD (((i : Int) + 1)).toNat []).length = (rows.getD 0 ByteArray.empty).size := (by rw [show (((cellsM rows).set i ((((cellsM rows).getD i [])).set q9 false)).getD (((i : Int) + 1)).toNat []).length = ((setC (cellsM rows) i q9).getD (((i : Int) + 1)).toNat []).length from rfl, set_row]; exact hcw _ (by omega))
 refine qd rfl rfl rfl (r_move (v := u57) rfl) (qd rfl rfl rfl (r_move (v := (.int .i64 (i : Int))) rfl) (qd rfl rfl rfl (r_move (v := (.int .i64 1)) rfl) (qd rfl rfl rfl (r_add rfl rfl (by omega)) (qd rfl rfl rfl (run_idx Tryz.underlying80 sz82 (v := u57) rfl rfl ho97.read (by omega) (by omega)) ?_))))
 obtain ⟨cs106, hrep107, hagg108, hcell109⟩ := nm_el (j := ((i : Int) + 1).toNat) default (ho97.at (z := ((i : Int) + 1)) (by omega) (by omega)) rfl
 obtain ⟨rfl, hone112⟩ := hrep107
 refine qd rfl rfl rfl (hcell109 0 (us95.getD (((i : Int) + 1)).toNat default) (by rw [show (us95.getD (((i : Int) + 1)).toNat default) = (us95.getD (((i : Int) + 1)).toNat default) from rfl]; rfl) ag82 rfl (Gadd.pins hX89.pins u57)) (qd rfl rfl rfl (r_move (v := (.int .i64 (q9 : Int))) rfl) (qd rfl rfl rfl (r_move (v := (.int .i64 0)) rfl) (qd rfl rfl rfl (r_add rfl rfl (by omega)) (qd rfl rfl rfl (run_idx Tryz.underlying82 sz4 (v := (us95.getD (((i : Int) + 1)).toNat default)) rfl rfl ho98.read (by omega) (by omega)) (q0 rfl rfl rfl (o_set (E := eBool) (v := (us95.getD (((i : Int) + 1)).toNat default)) (u := (.bool false)) (z := ((q9 : Int) + 0)) (false) sz4 rfl rfl rfl rfl hX89.pins ho98 (by omega) (by omega) (fun w113 ho114 hp115 hg116 hz117 => ?_)))))))
 have hX118 := hX89.write hp115 hg116 (hlo101)
 have ho119 := ho90.keptA hg116 ha102.symm
 have ho120 : Own eBool 4 G58 w113 w52.heap.size (us95.getD (((i : Int) + 1)).toNat default) (((((cellsM rows).set i ((((cellsM rows).getD i [])).set q9 false)).getD (((i : Int) + 1)).toNat [])).set ((q9 : Int) + 0).toNat false) := ho114
 have hm121 : (((((cellsM rows).set i ((((cellsM rows).getD i [])).set q9 false)).getD (((i : Int) + 1)).toNat [])).set ((q9 : Int) + 0).toNat false).length = (((cellsM rows).set i ((((cellsM rows).getD i [])).set q9 false)).getD (((i : Int) + 1)).toNat []).length := List.length_set ..
 refine qe (s_then (c_reg ?_))
 have hd122 := hst100 ho120 hg116
 have hs123 := Nat.le_trans hs94 hg116.size
 obtain ⟨G124, hle125, hp126, hr127, hf128⟩ := hd122.read hX118.pins
 have hX129 := hX118.promise hle125 hp126 hf128 hX54.size
 have ho130 := ho119.mono hle125 (fun k hk o u hu => (hf128 k o u hu).elim (ho119.free k hk o u) (fun h => by have := hao63 k hk; have := (own_lt ho119 k hk); omega))
 refine qd rfl rfl rfl (r_move (v := ov2) rfl) (qd rfl rfl rfl (r_move (v := u57) rfl) (q1 rfl rfl rfl (o_call (vs := [u57]) Tryz.func69 nm69 rfl rfl rfl ?_)))
 refine Calls.mono (board_spec hX129.pins hr127 ⟨by show (nextC rows true i q9).length ≤ 1000; rw [next_len]; omega, fun p hp => by show ((nextC rows true i q9).getD p []).length ≤ 1000; rw [next_row g (show p < rows.length from (by have h2 : p < (nextC rows true i q9).length := hp; rw [next_len] at h2; exact h2))]; show (rows.getD 0 ByteArray.empty).size ≤ 1000; omega⟩) ?_
 rintro _ w133 ⟨u131, G132, rfl, hr134, hx135⟩
 refine ⟨_, rfl, ?_⟩
 have hX136 := hX129.tr hx135
 have ho137 := ho130.ext hx135
 refine q1 rfl rfl rfl (o_build1 (E := (eSl eStr)) (e := 56) [u131] (bdM (((cellsM rows).set i ((((cellsM rows).getD i [])).set q9 false)).set (((i : Int) + 1)).toNat (((((cellsM rows).set i ((((cellsM rows).getD i [])).set q9 false)).getD (((i : Int) + 1)).toNat [])).set ((q9 : Int) + 0).toNat false))) Tryz.underlying66 sz56 zr56 ⟨_, rfl, hr134⟩ rfl (by decide) hX136.pins (fun u138 w139 ho140 hp141 hl142 hk143 => ?_))
 have hX144 := hX136.step hp141 hl142
 have ho145 := ho137.below hl142
 have ho147 : Own (eSl eStr) 56 G132 w139 w.heap.size u138 ([bdM (((cellsM rows).set i ((((cellsM rows).getD i [])).set q9 false)).set (((i : Int) + 1)).toNat (((((cellsM rows).set i ((((cellsM rows).getD i [])).set q9 false)).getD (((i : Int) + 1)).toNat [])).set ((q9 : Int) + 0).toNat false))]) := ho140.weaken hX136.size
 refine q1 rfl rfl rfl (o_append (E := (eSl eStr)) (v := ov2) (u := u138) 24 Tryz.underlying66 ap56 (by decide) rfl rfl hX144.pins ho145 ho147.src (by first | omega | (rw [List.nil_append]; omega) | (rw [List.length_nil]; omega) | (rw [List.length_append]; omega) | (simp; done) | (simp; omega) | (simp only [List.length_append, List.length_cons, List.length_nil]; omega)) (by first | omega | (rw [List.nil_append]; omega) | (rw [List.length_nil]; omega) | (rw [List.length_append]; omega) | (simp; done) | (simp; omega) | (simp only [List.length_append, List.length_cons, List.length_nil]; omega)) (hX144.size) (fun u148 w149 ho150 hp151 hg152 hw153 => ?_))
 have hX154 := hX144.write hp151 hg152 ((lo_own ho145))
 have hm157 : (os2 ++ ([bdM (((cellsM rows).set i ((((cellsM rows).getD i [])).set q9 false)).set (((i : Int) + 1)).toNat (((((cellsM rows).set i ((((cellsM rows).getD i [])).set q9 false)).getD (((i : Int) + 1)).toNat [])).set ((q9 : Int) + 0).toNat false))])).length = os2.length + 1 := List.length_append
 refine qd rfl rfl rfl (r_assign (v := u148) rfl) (qe (s_blkN (s_then (c_reg ?_))))
 refine qd rfl rfl rfl (r_move (v := (.int .i64 (q9 : Int))) rfl) (qd rfl rfl rfl (r_add rfl rfl (by omega)) (qd rfl rfl rfl (r_assign (v := (.int .i64 ((q9 : Int) + 1))) rfl) (qe (s_lopN (⟨_, ?_, _, rfl, _, q9 + 1, u148, os2 ++ ([bdM (((cellsM rows).set i ((((cellsM rows).getD i [])).set q9 false)).set (((i : Int) + 1)).toNat (((((cellsM rows).set i ((((cellsM rows).getD i [])).set q9 false)).getD (((i : Int) + 1)).toNat [])).set ((q9 : Int) + 0).toNat false))]), G132, (packS (x := 10) (packS (x := 9) (packS (x := 8) (packS (x := 7) (packS (x := 6) (packS (x := 5) (packS (x := 4) (pack1 (x := 2) rfl) rfl) rfl) rfl) rfl) rfl) rfl) rfl), rfl, hX154, (Pin.le_trans (Pin.le_trans (Pin.le_trans (Pin.le_trans hlek36 hx53.le) hx61.le) hle125) hx135.le), (by omega), (by rw [dmRow_yes (dms_t g (by omega) (show q9 < (rows.getD 0 ByteArray.empty).size by omega) h50 h56), hos2, List.append_assoc]; rfl), (by simp; omega), ho150⟩)))))
 omega
 refine wp_exit (s_thenE (s_blkE (s_then (c_reg ?_))))
 refine qd rfl rfl rfl (r_move (v := (.int .i64 (q9 : Int))) rfl) (qd rfl rfl rfl (r_add rfl rfl (by omega)) (qd rfl rfl rfl (r_assign (v := (.int .i64 ((q9 : Int) + 1))) rfl) (qe (s_lopN (⟨_, ?_, _, rfl, _, q9 + 1, ov2, os2, G51, (packS (x := 10) (packS (x := 9) (packS (x := 8) (packS (x := 7) (packS (x := 6) (packS (x := 5) (packS (x := 4) (pack1 (x := 2) rfl) rfl) rfl) rfl) rfl) rfl) rfl) rfl), rfl, hX54, (Pin.le_trans hlek36 hx53.le), (by omega), (by rw [dmRow_no (dms_t g (by omega) (show q9 < (rows.getD 0 ByteArray.empty).size by omega) h50 h56), hos2]), (by omega), ho55⟩)))))
 omega
 refine qs rfl rfl rfl rfl rfl rfl (qs rfl rfl rfl rfl rfl rfl (qs rfl rfl rfl rfl rfl rfl (qs rfl rfl rfl rfl rfl rfl (qs rfl rfl rfl rfl rfl rfl (qs rfl rfl rfl rfl rfl rfl (qs rfl rfl rfl rfl rfl rfl (qs rfl rfl rfl rfl rfl rfl (qs rfl rfl rfl rfl rfl rfl (qd rfl rfl rfl (r_pickT (v := (.bool true)) rfl rfl) (qe (s_then ?_)))))))))))
 refine c_ifT rfl rfl (wp_exit (s_thenE (s_blkE (s_then (c_reg ?_)))))
 refine qd rfl rfl rfl (r_move (v := (.int .i64 (q9 : Int))) rfl) (qd rfl rfl rfl (r_add rfl rfl (by omega)) (qd rfl rfl rfl (r_assign (v := (.int .i64 ((q9 : Int) + 1))) rfl) (qe (s_lopN (⟨_, ?_, _, rfl, _, q9 + 1, ov2, os2, GL2, (packS (x := 10) (packS (x := 9) (packS (x := 8) (packS (x := 7) (packS (x := 6) (packS (x := 5) (packS (x := 4) (pack1 (x := 2) rfl) rfl) rfl) rfl) rfl) rfl) rfl) rfl), rfl, hX39, hlek36, (by omega), (by rw [dmRow_no (dms_0 g (by omega) (show q9 < (rows.getD 0 ByteArray.empty).size by omega) h50), hos2]), (by omega), hw40⟩)))))
 omega
 refine wp_exit (s_thenE (s_lopE (s_blkE (s_blkN (s_then (c_reg ?_))))))
 refine qd rfl rfl rfl (r_move (v := (.int .i64 (i : Int))) rfl) (qd rfl rfl rfl (r_add rfl rfl (by omega)) (qd rfl rfl rfl (r_assign (v := (.int .i64 ((i : Int) + 1))) rfl) (qe (s_lopN (⟨_, ?_, _, rfl, _, i + 1, ov2, os2, GL2, (packS (x := 9) (packS (x := 8) (packS (x := 7) (packS (x := 6) (packS (x := 5) (packS (x := 4) (pack1 (x := 2) rfl) rfl) rfl) rfl) rfl) rfl) rfl), rfl, hX39, (Pin.le_trans hlek30 hlek36), (by omega), (by rw [hos2, hos, dmAll_succ, show q9 = wdS rows by show q9 = (rows.getD 0 ByteArray.empty).size; omega]), (by omega), hw40⟩)))))
 omega
 refine wp_exit (s_thenE (s_lopE (s_blkE (s_then (s_seq (c_reg ?_))))))
 refine qd rfl rfl rfl (r_move (v := ov) rfl) (qd rfl rfl rfl (r_assign (v := ov) rfl) (qe (s_then ?_)))
 refine wp_ret (s_ret (c_ret1 (v := ov) rfl rfl rfl ?_))
 obtain ⟨G158, hle161, hX160, hr159, hf162⟩ := hw34.sealed hX33
 have hin : i = rows.length := by omega
 subst hin
 exact ⟨_, _, rfl, (by show RSl _ _ _ (dmAll rows true _ rows.length); rw [← hos]; exact hr159), hX160⟩

theorem smoves_false {w : World} {G : Pin} {v : Value} {rows : List ByteArray} (hP : Pins G w) (hv : RSl eStr G v rows) (g : GbP rows) :
  Calls Tryz.prog 40 [(.agg [v].toArray), (.bool false)].toArray w fun e w' => ∃ (u : Value) (G' : Pin), e = .returned u ∧ RSl (eSl eStr) G' u (dmM rows false) ∧ Ext noS G w G' w' := by
 refine s_enter (n := 74) Tryz.func40 Tryz.ntmps40 rfl rfl ?_
 have hX0 : Ext noS G w G w := Ext.refl hP
 have hm := hv.max
 have ghi := g.hi
 have gwd : 1 ≤ (rows.getD 0 ByteArray.empty).size ∧ (rows.getD 0 ByteArray.empty).size ≤ 8 := g.wd
 have geq : ∀ i, i < rows.length → (rows.getD i ByteArray.empty).size = (rows.getD 0 ByteArray.empty).size := g.eq
 have hcl : (cellsM rows).length = rows.length := cells_len
 have hcw : ∀ i, i < rows.length → ((cellsM rows).getD i []).length = (rows.getD 0 ByteArray.empty).size := fun i hi => cells_wd g hi
 refine s_seq (c_reg ?_)
 refine q1 rfl rfl rfl (o_box [v] (v := (.agg [v].toArray)) rfl rfl hX0.pins (fun b1 w2 hk3 hb4 hp5 hl6 => ?_))
 have hX7 := hX0.step hp5 hl6
 have hlo8 : w.heap.size ≤ b1 := by have := hX0.size; omega
 obtain ⟨G9, hle10, hX11, hbp12, hf13⟩ := hb4.shut hX7 hlo8
 refine qd rfl rfl rfl (r_assign (v := (.slice none 0 0)) rfl) (qe (s_then (s_seq (c_reg ?_))))
 refine q1 rfl rfl rfl (o_build0 (E := (eSl eStr)) (e := 56) Tryz.underlying66 sz56 hX11.pins (fun u14 w15 ho16 hp17 hl18 hk19 => ?_))
 have hX20 := hX11.step hp17 hl18
 have ho21 : Own (eSl eStr) 56 G9 w15 w.heap.size u14 ([]) := ho16.weaken hX11.size
 refine qd rfl rfl rfl (r_assign (v := u14) rfl) (qe (s_then (s_seq (c_reg ?_))))
 refine qd rfl rfl rfl (r_ldpA (cs := [v]) ag56 sz56 rfl (fun j u hj => hX20.pins _ _ _ (hbp12 _ _ (by simpa using hj)))) (q1 rfl rfl rfl (o_call (vs := [(.agg [v].toArray)]) Tryz.func64 nm64 rfl rfl rfl ?_))
 refine Calls.mono (cells_spec hX20.pins (hv.mono hle10) g) ?_
 rintro _ w24 ⟨u22, G23, rfl, hd25, hx26⟩
 refine ⟨_, rfl, ?_⟩
 have hX27 := hX20.tr hx26
 have ho28 := ho21.ext hx26
 have hm29 := hd25.max
 refine qd rfl rfl rfl (r_assign (v := u22) rfl) (qe (s_then (s_seq (c_reg ?_))))
 refine qd rfl rfl rfl (r_assign (v := (.int .i64 0)) rfl) (qd rfl rfl rfl (r_assign (v := (.int .i64 1)) rfl) (qe (s_then (s_seq (s_seq (c_reg ?_))))))
 refine qd rfl rfl rfl (r_move (v := (.bool false)) rfl) (qe (s_then ?_))
 refine c_ifF rfl rfl (wp_skip (s_then (s_seq (s_seq (c_reg ?_)))))
 refine qd rfl rfl rfl (r_assign (v := (.int .i64 0)) rfl) (qe (s_then ?_))
 refine s_blk (s_loop (fun (k : Nat) (en : Nat → Value) (W : World) => ∃ (env1 : Nat → Value) (i : Nat) (ov : Value) (os : List (List ByteArray)) (GL1 : Pin), en = (upd (upd (upd (upd (upd (upd (upd env1 2 (.pointer (some ⟨b1, 0, none⟩))) 4 (.slice none 0 0)) 5 ov) 6 u22) 7 (.int .i64 0)) 8 (.int .i64 1)) 9 (.int .i64 (i : Int))) ∧ k = rows.length - i ∧ Ext noS G w GL1 W ∧ Pin.le G23 GL1 ∧ (i ≤ rows.length) ∧ (os = dmAll rows false (fun r c => bdM (nextC rows false r c)) i) ∧ (os.length ≤ 8 * i) ∧ (Own (eSl eStr) 56 GL1 W w.heap.size ov (os))) _ ⟨_, 0, u14, [], G23, (packS (x := 9) (packS (x := 8) (packS (x := 7) (packS (x := 6) (packS (x := 5) (packS (x := 4) (pack1 (x := 2) rfl) rfl) rfl) rfl) rfl) rfl) rfl), rfl, hX27, Pin.le_refl _, Nat.zero_le _, rfl, (by simp), ho28⟩ ?_)
 rintro k30 _ w31 ⟨env1, i, ov, os, GL1, rfl, hk32, hX33, hlek30, hi, hos, hol, hw34⟩
 refine s_seq (s_seq (c_reg ?_))
 refine qd rfl rfl rfl (r_move (v := (.int .i64 (i : Int))) rfl) (qd rfl rfl rfl (r_move (v := u22) rfl) (qd rfl rfl rfl (run_len Tryz.underlying80 (v := u22) rfl hd25) (qd rfl rfl rfl (r_lss rfl rfl) (qe (s_then ?_)))))
 refine c_ifd (p := ((i : Int) : Int) < ((cellsM rows).length : Int)) rfl rfl (fun h35 => ?_) (fun h35 => ?_)
 have hci := hcw i (by omega)
 refine wp_skip (s_then (s_seq ?_))
 refine s_blk (s_seq (c_reg ?_))
 refine qd rfl rfl rfl (r_assign (v := (.int .i64 0)) rfl) (qe (s_then ?_))
 refine s_blk (s_loop (fun (k : Nat) (en : Nat → Value) (W : World) => ∃ (env1 : Nat → Value) (q9 : Nat) (ov2 : Value) (os2 : List (List ByteArray)) (GL2 : Pin), en = (upd (upd (upd (upd (upd (upd (upd (upd env1 2 (.pointer (some ⟨b1, 0, none⟩))) 4 (.slice none 0 0)) 5 ov2) 6 u22) 7 (.int .i64 0)) 8 (.int .i64 1)) 9 (.int .i64 (i : Int))) 10 (.int .i64 (q9 : Int))) ∧ k = ((cellsM rows).getD i []).length - q9 ∧ Ext noS G w GL2 W ∧ Pin.le GL1 GL2 ∧ (q9 ≤ ((cellsM rows).getD i []).length) ∧ (os2 = os ++ dmRow rows false (fun r c => bdM (nextC rows false r c)) i q9) ∧ (os2.length ≤ 8 * i + q9) ∧ (Own (eSl eStr) 56 GL2 W w.heap.size ov2 (os2))) _ ⟨_, 0, ov, os, GL1, (packS (x := 10) (packS (x := 9) (packS (x := 8) (packS (x := 7) (packS (x := 6) (packS (x := 5) (packS (x := 4) (pack1 (x := 2) rfl) rfl) rfl) rfl) rfl) rfl) rfl) rfl), rfl, hX33, Pin.le_refl _, Nat.zero_le _, (by simp [dmRow]), (by omega), hw34⟩ ?_)
 rintro k36 _ w37 ⟨env1, q9, ov2, os2, GL2, rfl, hk38, hX39, hlek36, hq, hos2, hol2, hw40⟩
 refine s_seq (s_seq (c_reg ?_))
 refine qd rfl rfl rfl (r_move (v := (.int .i64 (q9 : Int))) rfl) (qd rfl rfl rfl (r_move (v := u22) rfl) (qd rfl rfl rfl (r_move (v := (.int .i64 (i : Int))) rfl) (qd rfl rfl rfl (run_idx Tryz.underlying80 sz82 (v := u22) rfl rfl hd25 (by omega) (by omega)) ?_)))
 obtain ⟨u41, hr42, hl43⟩ := nm_sl (hd25.at (z := (i : Int)) (by omega) (by omega)) (j := i) rfl
 have hm44 := hr42.max
 refine qd rfl rfl rfl (hl43 ag82 rfl (Pins.of_le hX39.pins (Pin.le_trans hlek30 hlek36))) (qd rfl rfl rfl (run_len Tryz.underlying82 (v := u41) rfl hr42) (qd rfl rfl rfl (r_lss rfl rfl) (qe (s_then ?_))))
 refine c_ifd (p := ((q9 : Int) : Int) < (((cellsM rows).getD i []).length : Int)) rfl rfl (fun h45 => ?_) (fun h45 => ?_)
 refine wp_skip (s_then (s_seq ?_))
 refine s_blk (s_seq (s_seq (c_reg ?_)))
 refine qd rfl rfl rfl (r_move (v := u22) rfl) (qd rfl rfl rfl (r_move (v := (.int .i64 (i : Int))) rfl) (qd rfl rfl rfl (run_idx Tryz.underlying80 sz82 (v := u22) rfl rfl hd25 (by omega) (by omega)) ?_))
 obtain ⟨u46, hr47, hl48⟩ := nm_sl (hd25.at (z := (i : Int)) (by omega) (by omega)) (j := i) rfl
 have hm49 := hr47.max
 refine qd rfl rfl rfl (hl48 ag82 rfl (Pins.of_le hX39.pins (Pin.le_trans hlek30 hlek36))) (qd rfl rfl rfl (r_move (v := (.int .i64 (q9 : Int))) rfl) (qd rfl rfl rfl (run_idx Tryz.underlying82 sz4 (v := u46) rfl rfl hr47 (by omega) (by omega)) (qd rfl rfl rfl (run_load_bool (r := ((cellsM rows).getD i []).getD q9 false) rfl ag4 (z := (q9 : Int)) rfl hr47 (Pins.of_le hX39.pins (Pin.le_trans hlek30 hlek36)) (by omega) (by omega)) (qd rfl rfl rfl (r_not rfl) (qd rfl rfl rfl (r_move (v := (.bool (!(((cellsM rows).getD i []).getD q9 false)))) rfl) (qbn (t := 39) rfl (fun h50 => ?_) (fun h50 => ?_)))))))
 refine qdg rfl rfl rfl rfl rfl rfl (r_move (v := u22) rfl) (qdg rfl rfl rfl rfl rfl rfl (r_move (v := (.int .i64 (i : Int))) rfl) (qdg rfl rfl rfl rfl rfl rfl (r_move (v := (.int .i64 0)) rfl) (qdg rfl rfl rfl rfl rfl rfl (r_add rfl rfl (by omega)) (qdg rfl rfl rfl rfl rfl rfl (r_move (v := (.int .i64 (q9 : Int))) rfl) (qdg rfl rfl rfl rfl rfl rfl (r_move (v := (.int .i64 1)) rfl) (qdg rfl rfl rfl rfl rfl rfl (r_add rfl rfl (by omega)) (q1g rfl rfl rfl rfl rfl rfl (o_call (vs := [u22, (.int .i64 ((i : Int) + 0)), (.int .i64 ((q9 : Int) + 1))]) Tryz.func70 nm70 rfl rfl rfl ?_))))))))
 refine Calls.mono (is21_spec (r := ((i : Int) + 0)) (c := ((q9 : Int) + 1)) hX39.pins (hd25.mono (Pin.le_trans hlek30 hlek36)) g) ?_
 rintro _ w52 ⟨G51, rfl, hx53⟩
 refine ⟨_, rfl, ?_⟩
 have hX54 := hX39.tr hx53
 have ho55 := hw40.ext hx53
 refine qdg rfl rfl rfl rfl rfl rfl (r_not rfl) (qd rfl rfl rfl (r_pickF (v := (.bool (!(frI rows ((i : Int) + 0) ((q9 : Int) + 1))))) rfl rfl) (qe (s_then ?_)))
 refine c_ifn rfl rfl (fun h56 => ?_) (fun h56 => ?_)
 refine wp_skip (s_then (s_seq (c_reg ?_)))
 refine qd rfl rfl rfl (r_ldpA (cs := [v]) ag56 sz56 rfl (fun j u hj => (Pins.of_le hX54.pins (Pin.le_trans (Pin.le_trans (Pin.le_trans hx26.le hlek30) hlek36) hx53.le)) _ _ _ (hbp12 _ _ (by simpa using hj)))) (q1 rfl rfl rfl (o_call (vs := [(.agg [v].toArray)]) Tryz.func64 nm64 rfl rfl rfl ?_))
 refine Calls.mono (cells_dspec hX54.pins (hv.mono (Pin.le_trans (Pin.le_trans (Pin.le_trans (Pin.le_trans hle10 hx26.le) hlek30) hlek36) hx53.le)) g) ?_
 rintro _ w59 ⟨u57, G58, rfl, hd60, hx61⟩
 refine ⟨_, rfl, ?_⟩
 have har62 : ∀ k, ov2.ownBlock = some k → w59.heap.size ≤ k ∨ k < w52.heap.size := fun k hk => Or.inr (own_lt ho55 k hk)
 have hao63 : ∀ k, ov2.ownBlock = some k → k < w52.heap.size := own_lt ho55
 have hX64 := hX54.tr hx61
 have ho65 := ho55.ext hx61
 have hone66 := hd60.one
 refine qd rfl rfl rfl (r_assign (v := u57) rfl) (qe (s_then (s_seq (c_reg ?_))))
 have hdm := dms_f g (by omega) (show q9 < (rows.getD 0 ByteArray.empty).size by omega) h50 h56
 have hdi := dm_in g hdm
 have hd1 : i + 0 < rows.length := hdi.1
 have hd2 : q9 + 1 < (rows.getD 0 ByteArray.empty).size := hdi.2
 obtain ⟨us67, hul68, ho69, ho70, hrg71, hst72⟩ := hd60.leaf (i := i) (by first | omega | (simp only [List.length_set]; omega))
 have hlo73 : Lo w (noS) (us67.getD i default).ownBlock := fun k hk => Or.inl (Nat.le_trans hX54.size (hrg71 k hk).1)
 have ha74 : Apart (us67.getD i default).ownBlock ov2.ownBlock := ap_range hrg71 har62
 have hm75 : us67.length = (cellsM rows).length := hul68
 have hm76 : ((cellsM rows).getD i []).length = (rows.getD 0 ByteArray.empty).size := (hcw _ (by omega))
 refine qd rfl rfl rfl (r_move (v := u57) rfl) (qd rfl rfl rfl (r_move (v := (.int .i64 (i : Int))) rfl) (qd rfl rfl rfl (run_idx Tryz.underlying80 sz82 (v := u57) rfl rfl ho69.read (by omega) (by omega)) ?_))
 obtain ⟨cs77, hrep78, hagg79, hcell80⟩ := nm_el (j := i) default (ho69.at (z := (i : Int)) (by omega) (by omega)) rfl
 obtain ⟨rfl, hone83⟩ := hrep78
 refine qd rfl rfl rfl (hcell80 0 (us67.getD i default) (by rw [show (us67.getD i default) = (us67.getD i default) from rfl]; rfl) ag82 rfl (Gadd.pins hX64.pins u57)) (qd rfl rfl rfl (r_move (v := (.int .i64 (q9 : Int))) rfl) (qd rfl rfl rfl (run_idx Tryz.underlying82 sz4 (v := (us67.getD i default)) rfl rfl ho70.read (by omega) (by omega)) (q0 rfl rfl rfl (o_set (E := eBool) (v := (us67.getD i default)) (u := (.bool false)) (z := (q9 : Int)) (false) sz4 rfl rfl rfl rfl hX64.pins ho70 (by omega) (by omega) (fun w84 ho85 hp86 hg87 hz88 => ?_)))))
 have hX89 := hX64.write hp86 hg87 (hlo73)
 have ho90 := ho65.keptA hg87 ha74.symm
 have ho91 : Own eBool 4 G58 w84 w52.heap.size (us67.getD i default) ((((cellsM rows).getD i [])).set q9 false) := ho85
 have hm92 : ((((cellsM rows).getD i [])).set q9 false).length = ((cellsM rows).getD i []).length := List.length_set ..
 refine qe (s_then (s_seq (c_reg ?_)))
 have hd93 := hst72 ho91 hg87
 have hs94 := Nat.le_trans (Nat.le_refl w59.heap.size) hg87.size
 obtain ⟨us95, hul96, ho97, ho98, hrg99, hst100⟩ := hd93.leaf (i := (((i : Int) + 0)).toNat) (by first | omega | (simp only [List.length_set]; omega))
 have hlo101 : Lo w (noS) (us95.getD (((i : Int) + 0)).toNat default).ownBlock := fun k hk => Or.inl (Nat.le_trans hX54.size (hrg99 k hk).1)
 have ha102 : Apart (us95.getD (((i : Int) + 0)).toNat default).ownBlock ov2.ownBlock := ap_range hrg99 har62
 have hm103 : ((cellsM rows).set i ((((cellsM rows).getD i [])).set q9 false)).length = (cellsM rows).length := List.length_set ..
 have hm104 : us95.length = ((cellsM rows).set i ((((cellsM rows).getD i [])).set q9 false)).length := hul96
 have hm105 : (((cellsM rows).set i ((((cellsM rows).getD i [])).set q9 false)).getD (((i : Int) + 0)).toNat []).length = (rows.getD 0 ByteArray.empty).size := (by rw [show (((cellsM rows).set i ((((cellsM rows).getD i [])).set q9 false)).getD (((i : Int) + 0)).toNat []).length = ((setC (cellsM rows) i q9).getD (((i : Int) + 0)).toNat []).length from rfl, set_row]; exact hcw _ (by omega))
 refine qd rfl rfl rfl (r_move (v := u57) rfl) (qd rfl rfl rfl (r_move (v := (.int .i64 (i : Int))) rfl) (qd rfl rfl rfl (r_move (v := (.int .i64 0)) rfl) (qd rfl rfl rfl (r_add rfl rfl (by omega)) (qd rfl rfl rfl (run_idx Tryz.underlying80 sz82 (v := u57) rfl rfl ho97.read (by omega) (by omega)) ?_))))
 obtain ⟨cs106, hrep107, hagg108, hcell109⟩ := nm_el (j := ((i : Int) + 0).toNat) default (ho97.at (z := ((i : Int) + 0)) (by omega) (by omega)) rfl
 obtain ⟨rfl, hone112⟩ := hrep107
 refine qd rfl rfl rfl (hcell109 0 (us95.getD (((i : Int) + 0)).toNat default) (by rw [show (us95.getD (((i : Int) + 0)).toNat default) = (us95.getD (((i : Int) + 0)).toNat default) from rfl]; rfl) ag82 rfl (Gadd.pins hX89.pins u57)) (qd rfl rfl rfl (r_move (v := (.int .i64 (q9 : Int))) rfl) (qd rfl rfl rfl (r_move (v := (.int .i64 1)) rfl) (qd rfl rfl rfl (r_add rfl rfl (by omega)) (qd rfl rfl rfl (run_idx Tryz.underlying82 sz4 (v := (us95.getD (((i : Int) + 0)).toNat default)) rfl rfl ho98.read (by omega) (by omega)) (q0 rfl rfl rfl (o_set (E := eBool) (v := (us95.getD (((i : Int) + 0)).toNat default)) (u := (.bool false)) (z := ((q9 : Int) + 1)) (false) sz4 rfl rfl rfl rfl hX89.pins ho98 (by omega) (by omega) (fun w113 ho114 hp115 hg116 hz117 => ?_)))))))
 have hX118 := hX89.write hp115 hg116 (hlo101)
 have ho119 := ho90.keptA hg116 ha102.symm
 have ho120 : Own eBool 4 G58 w113 w52.heap.size (us95.getD (((i : Int) + 0)).toNat default) (((((cellsM rows).set i ((((cellsM rows).getD i [])).set q9 false)).getD (((i : Int) + 0)).toNat [])).set ((q9 : Int) + 1).toNat false) := ho114
 have hm121 : (((((cellsM rows).set i ((((cellsM rows).getD i [])).set q9 false)).getD (((i : Int) + 0)).toNat [])).set ((q9 : Int) + 1).toNat false).length = (((cellsM rows).set i ((((cellsM rows).getD i [])).set q9 false)).getD (((i : Int) + 0)).toNat []).length := List.length_set ..
 refine qe (s_then (c_reg ?_))
 have hd122 := hst100 ho120 hg116
 have hs123 := Nat.le_trans hs94 hg116.size
 obtain ⟨G124, hle125, hp126, hr127, hf128⟩ := hd122.read hX118.pins
 have hX129 := hX118.promise hle125 hp126 hf128 hX54.size
 have ho130 := ho119.mono hle125 (fun k hk o u hu => (hf128 k o u hu).elim (ho119.free k hk o u) (fun h => by have := hao63 k hk; have := (own_lt ho119 k hk); omega))
 refine qd rfl rfl rfl (r_move (v := ov2) rfl) (qd rfl rfl rfl (r_move (v := u57) rfl) (q1 rfl rfl rfl (o_call (vs := [u57]) Tryz.func69 nm69 rfl rfl rfl ?_)))
 refine Calls.mono (board_spec hX129.pins hr127 ⟨by show (nextC rows false i q9).length ≤ 1000; rw [next_len]; omega, fun p hp => by show ((nextC rows false i q9).getD p []).length ≤ 1000; rw [next_row g (show p < rows.length from (by have h2 : p < (nextC rows false i q9).length := hp; rw [next_len] at h2; exact h2))]; show (rows.getD 0 ByteArray.empty).size ≤ 1000; omega⟩) ?_
 rintro _ w133 ⟨u131, G132, rfl, hr134, hx135⟩
 refine ⟨_, rfl, ?_⟩
 have hX136 := hX129.tr hx135
 have ho137 := ho130.ext hx135
 refine q1 rfl rfl rfl (o_build1 (E := (eSl eStr)) (e := 56) [u131] (bdM (((cellsM rows).set i ((((cellsM rows).getD i [])).set q9 false)).set (((i : Int) + 0)).toNat (((((cellsM rows).set i ((((cellsM rows).getD i [])).set q9 false)).getD (((i : Int) + 0)).toNat [])).set ((q9 : Int) + 1).toNat false))) Tryz.underlying66 sz56 zr56 ⟨_, rfl, hr134⟩ rfl (by decide) hX136.pins (fun u138 w139 ho140 hp141 hl142 hk143 => ?_))
 have hX144 := hX136.step hp141 hl142
 have ho145 := ho137.below hl142
 have ho147 : Own (eSl eStr) 56 G132 w139 w.heap.size u138 ([bdM (((cellsM rows).set i ((((cellsM rows).getD i [])).set q9 false)).set (((i : Int) + 0)).toNat (((((cellsM rows).set i ((((cellsM rows).getD i [])).set q9 false)).getD (((i : Int) + 0)).toNat [])).set ((q9 : Int) + 1).toNat false))]) := ho140.weaken hX136.size
 refine q1 rfl rfl rfl (o_append (E := (eSl eStr)) (v := ov2) (u := u138) 24 Tryz.underlying66 ap56 (by decide) rfl rfl hX144.pins ho145 ho147.src (by first | omega | (rw [List.nil_append]; omega) | (rw [List.length_nil]; omega) | (rw [List.length_append]; omega) | (simp; done) | (simp; omega) | (simp only [List.length_append, List.length_cons, List.length_nil]; omega)) (by first | omega | (rw [List.nil_append]; omega) | (rw [List.length_nil]; omega) | (rw [List.length_append]; omega) | (simp; done) | (simp; omega) | (simp only [List.length_append, List.length_cons, List.length_nil]; omega)) (hX144.size) (fun u148 w149 ho150 hp151 hg152 hw153 => ?_))
 have hX154 := hX144.write hp151 hg152 ((lo_own ho145))
 have hm157 : (os2 ++ ([bdM (((cellsM rows).set i ((((cellsM rows).getD i [])).set q9 false)).set (((i : Int) + 0)).toNat (((((cellsM rows).set i ((((cellsM rows).getD i [])).set q9 false)).getD (((i : Int) + 0)).toNat [])).set ((q9 : Int) + 1).toNat false))])).length = os2.length + 1 := List.length_append
 refine qd rfl rfl rfl (r_assign (v := u148) rfl) (qe (s_blkN (s_then (c_reg ?_))))
 refine qd rfl rfl rfl (r_move (v := (.int .i64 (q9 : Int))) rfl) (qd rfl rfl rfl (r_add rfl rfl (by omega)) (qd rfl rfl rfl (r_assign (v := (.int .i64 ((q9 : Int) + 1))) rfl) (qe (s_lopN (⟨_, ?_, _, rfl, _, q9 + 1, u148, os2 ++ ([bdM (((cellsM rows).set i ((((cellsM rows).getD i [])).set q9 false)).set (((i : Int) + 0)).toNat (((((cellsM rows).set i ((((cellsM rows).getD i [])).set q9 false)).getD (((i : Int) + 0)).toNat [])).set ((q9 : Int) + 1).toNat false))]), G132, (packS (x := 10) (packS (x := 9) (packS (x := 8) (packS (x := 7) (packS (x := 6) (packS (x := 5) (packS (x := 4) (pack1 (x := 2) rfl) rfl) rfl) rfl) rfl) rfl) rfl) rfl), rfl, hX154, (Pin.le_trans (Pin.le_trans (Pin.le_trans (Pin.le_trans hlek36 hx53.le) hx61.le) hle125) hx135.le), (by omega), (by rw [dmRow_yes (dms_f g (by omega) (show q9 < (rows.getD 0 ByteArray.empty).size by omega) h50 h56), hos2, List.append_assoc]; rfl), (by simp; omega), ho150⟩)))))
 omega
 refine wp_exit (s_thenE (s_blkE (s_then (c_reg ?_))))
 refine qd rfl rfl rfl (r_move (v := (.int .i64 (q9 : Int))) rfl) (qd rfl rfl rfl (r_add rfl rfl (by omega)) (qd rfl rfl rfl (r_assign (v := (.int .i64 ((q9 : Int) + 1))) rfl) (qe (s_lopN (⟨_, ?_, _, rfl, _, q9 + 1, ov2, os2, G51, (packS (x := 10) (packS (x := 9) (packS (x := 8) (packS (x := 7) (packS (x := 6) (packS (x := 5) (packS (x := 4) (pack1 (x := 2) rfl) rfl) rfl) rfl) rfl) rfl) rfl) rfl), rfl, hX54, (Pin.le_trans hlek36 hx53.le), (by omega), (by rw [dmRow_no (dms_f g (by omega) (show q9 < (rows.getD 0 ByteArray.empty).size by omega) h50 h56), hos2]), (by omega), ho55⟩)))))
 omega
 refine qs rfl rfl rfl rfl rfl rfl (qs rfl rfl rfl rfl rfl rfl (qs rfl rfl rfl rfl rfl rfl (qs rfl rfl rfl rfl rfl rfl (qs rfl rfl rfl rfl rfl rfl (qs rfl rfl rfl rfl rfl rfl (qs rfl rfl rfl rfl rfl rfl (qs rfl rfl rfl rfl rfl rfl (qs rfl rfl rfl rfl rfl rfl (qd rfl rfl rfl (r_pickT (v := (.bool true)) rfl rfl) (qe (s_then ?_)))))))))))
 refine c_ifT rfl rfl (wp_exit (s_thenE (s_blkE (s_then (c_reg ?_)))))
 refine qd rfl rfl rfl (r_move (v := (.int .i64 (q9 : Int))) rfl) (qd rfl rfl rfl (r_add rfl rfl (by omega)) (qd rfl rfl rfl (r_assign (v := (.int .i64 ((q9 : Int) + 1))) rfl) (qe (s_lopN (⟨_, ?_, _, rfl, _, q9 + 1, ov2, os2, GL2, (packS (x := 10) (packS (x := 9) (packS (x := 8) (packS (x := 7) (packS (x := 6) (packS (x := 5) (packS (x := 4) (pack1 (x := 2) rfl) rfl) rfl) rfl) rfl) rfl) rfl) rfl), rfl, hX39, hlek36, (by omega), (by rw [dmRow_no (dms_0 g (by omega) (show q9 < (rows.getD 0 ByteArray.empty).size by omega) h50), hos2]), (by omega), hw40⟩)))))
 omega
 refine wp_exit (s_thenE (s_lopE (s_blkE (s_blkN (s_then (c_reg ?_))))))
 refine qd rfl rfl rfl (r_move (v := (.int .i64 (i : Int))) rfl) (qd rfl rfl rfl (r_add rfl rfl (by omega)) (qd rfl rfl rfl (r_assign (v := (.int .i64 ((i : Int) + 1))) rfl) (qe (s_lopN (⟨_, ?_, _, rfl, _, i + 1, ov2, os2, GL2, (packS (x := 9) (packS (x := 8) (packS (x := 7) (packS (x := 6) (packS (x := 5) (packS (x := 4) (pack1 (x := 2) rfl) rfl) rfl) rfl) rfl) rfl) rfl), rfl, hX39, (Pin.le_trans hlek30 hlek36), (by omega), (by rw [hos2, hos, dmAll_succ, show q9 = wdS rows by show q9 = (rows.getD 0 ByteArray.empty).size; omega]), (by omega), hw40⟩)))))
 omega
 refine wp_exit (s_thenE (s_lopE (s_blkE (s_then (s_seq (c_reg ?_))))))
 refine qd rfl rfl rfl (r_move (v := ov) rfl) (qd rfl rfl rfl (r_assign (v := ov) rfl) (qe (s_then ?_)))
 refine wp_ret (s_ret (c_ret1 (v := ov) rfl rfl rfl ?_))
 obtain ⟨G158, hle161, hX160, hr159, hf162⟩ := hw34.sealed hX33
 have hin : i = rows.length := by omega
 subst hin
 exact ⟨_, _, rfl, (by show RSl _ _ _ (dmAll rows false _ rows.length); rw [← hos]; exact hr159), hX160⟩

theorem smoves_spec {w : World} {G : Pin} {v : Value} {rows : List ByteArray} (hP : Pins G w) (hv : RSl eStr G v rows) {left : Bool} (g : GbP rows) :
  Calls Tryz.prog 40 [(.agg [v].toArray), (.bool left)].toArray w fun e w' => ∃ (u : Value) (G' : Pin), e = .returned u ∧ RSl (eSl eStr) G' u (dmM rows left) ∧ Ext noS G w G' w' := by
 cases left with
 | true => exact smoves_true hP hv g
 | false => exact smoves_false hP hv g

end RM6
end Go.Proofs.YtianphgdbfekdaaGreatDoor

set_option maxRecDepth 20000
set_option maxHeartbeats 2000000
namespace Go.Proofs.YtianphgdbfekdaaGreatDoor
namespace PW9
open Go.RowKit Go.GL Go.Proofs
open PT3 PTB PW3 PW7 PS9 RM6















theorem l24MovesOf_spec {w : World} {G : Pin} {s : ByteArray} {left : Bool} (hP : Pins G w) (g : SgP s) :
  Calls Tryz.prog 26 [(.string s), (.bool left)].toArray w fun e w' => ∃ (u : Value) (G' : Pin), e = .returned u ∧ RSl eStr G' u (mvW left s) ∧ Ext noS G w G' w' := by
 refine s_enter (n := 115) Tryz.func26 Tryz.ntmps26 rfl rfl ?_
 have hX0 : Ext noS G w G w := Ext.refl hP
 have hg0 := g.1
 have hgi := g.2.hi
 have hsz := sg_size g
 have hag := ag_size g.2
 have hvk := vb_size (kdI s).toNat (by omega)
 have hvl : VB.length = 7 := rfl
 have hsp : spB.size = 1 := rfl
 refine s_seq (c_reg ?_)
 refine qd rfl rfl rfl (r_assign (v := (.slice none 0 0)) rfl) (qe (s_then (s_seq (c_reg ?_))))
 refine qd rfl rfl rfl (r_move (v := (.string s)) rfl) (q1 rfl rfl rfl (o_call (vs := [(.string s)]) Tryz.func30 nm30 rfl rfl rfl ?_))
 refine Calls.mono (l24Cut_spec (s := s) hX0.pins (by omega)) ?_
 rintro _ w2 ⟨G1, rfl, hx3⟩
 refine ⟨_, rfl, ?_⟩
 have hX4 := hX0.tr hx3
 have hm5 := tl_size s
 have hm6 := kd_rng s
 refine qd rfl rfl rfl (r_move (v := (.tuple #[(.int .i64 (kdI s)), (.string (tlB s))])) rfl) (qd rfl rfl rfl (r_extract (v := (.int .i64 (kdI s))) rfl rfl) (qd rfl rfl rfl (r_extract (v := (.string (tlB s))) rfl rfl) (qd rfl rfl rfl (r_assign (v := (.int .i64 (kdI s))) rfl) (qd rfl rfl rfl (r_assign (v := (.string (tlB s))) rfl) (qe (s_then (s_seq (c_reg ?_))))))))
 refine q1 rfl rfl rfl (o_build0 (E := eStr) (e := 9) Tryz.underlying22 sz9 hX4.pins (fun u7 w8 ho9 hp10 hl11 hk12 => ?_))
 have hX13 := hX4.step hp10 hl11
 have ho14 : Own eStr 9 G1 w8 w.heap.size u7 ([]) := ho9.weaken hX4.size
 refine qd rfl rfl rfl (r_assign (v := u7) rfl) (qe (s_then (s_seq ?_)))
 refine s_blk (s_seq (c_reg ?_))
 refine qd rfl rfl rfl (r_move (v := (.int .i64 (kdI s))) rfl) (qd rfl rfl rfl (r_leq rfl rfl) (qd rfl rfl rfl (r_assign (v := (.bool (decide ((kdI s : Int) ≤ 3)))) rfl) (qe (s_then ?_))))
 refine c_ifd (p := (kdI s : Int) ≤ 3) rfl rfl (fun h15 => ?_) (fun h15 => ?_)
 refine s_seq (c_reg ?_)
 refine qd rfl rfl rfl (r_move (v := (.int .i64 (kdI s))) rfl) (qd rfl rfl rfl (r_move (v := (.string (tlB s))) rfl) (qd rfl rfl rfl (r_move (v := (.bool left)) rfl) (q1 rfl rfl rfl (o_call (vs := [(.int .i64 (kdI s)), (.string (tlB s)), (.bool left)]) Tryz.func55 nm55 rfl rfl rfl ?_))))
 refine Calls.mono (mv23_spec (kind := (kdI s)) (s := (tlB s)) (left := left) hX13.pins (by omega) (by omega)) ?_
 rintro _ w18 ⟨u16, G17, rfl, hr19, hx20⟩
 refine ⟨_, rfl, ?_⟩
 have hX21 := hX13.tr hx20
 have ho22 := ho14.ext hx20
 refine qd rfl rfl rfl (r_assign (v := u16) rfl) (qe (s_then (s_seq (c_reg ?_))))
 refine qd rfl rfl rfl (r_assign (v := (.int .i64 0)) rfl) (qe (s_then ?_))
 refine s_blk (s_loop (fun (k : Nat) (en : Nat → Value) (W : World) => ∃ (env1 : Nat → Value) (j : Nat) (ov : Value) (os : List ByteArray) (GL1 : Pin), en = (upd (upd (upd (upd (upd env1 4 (.slice none 0 0)) 5 (.int .i64 (kdI s))) 7 ov) 8 u16) 9 (.int .i64 (j : Int))) ∧ k = (stripM (kdI s) (tlB s) left).length - j ∧ Ext noS G w GL1 W ∧ Pin.le G17 GL1 ∧ (j ≤ (stripM (kdI s) (tlB s) left).length) ∧ (os = ((stripM (kdI s) (tlB s) left).take j).map (fV (kdI s).toNat)) ∧ (os.length = j) ∧ (Own eStr 9 GL1 W w.heap.size ov (os))) _ ⟨_, 0, u7, [], G17, (packS (x := 9) (packS (x := 8) (packS (x := 7) (packS (x := 5) (pack1 (x := 4) rfl) rfl) rfl) rfl) rfl), rfl, hX21, Pin.le_refl _, Nat.zero_le _, rfl, rfl, ho22⟩ ?_)
 rintro k23 _ w24 ⟨env1, j, ov, os, GL1, rfl, hk25, hX26, hlek23, hj, hos, hol, hw27⟩
 refine s_seq (s_seq (c_reg ?_))
 have hst := (g.2.strip (by omega)).2
 have hsl := stripM_len (s := tlB s) (left := left) (kind := kdI s)
 refine qd rfl rfl rfl (r_move (v := (.int .i64 (j : Int))) rfl) (qd rfl rfl rfl (r_move (v := u16) rfl) (qd rfl rfl rfl (run_len Tryz.underlying22 (v := u16) rfl hr19) (qd rfl rfl rfl (r_lss rfl rfl) (qe (s_then ?_)))))
 refine c_ifd (p := ((j : Int) : Int) < ((stripM (kdI s) (tlB s) left).length : Int)) rfl rfl (fun h28 => ?_) (fun h28 => ?_)
 have hxz := strip_mem _ (getD_mem (d := ByteArray.empty) (show j < (stripM (kdI s) (tlB s) left).length by omega))
 refine wp_skip (s_then (s_seq ?_))
 refine s_blk (c_draw (S := fun wz => Pins GL1 wz) (last := 14) (by kernel_rfl) rfl ?_)
 have hl29 : Below w24.heap.size w24 w24.drew := (Below.refl _ _).drew
 have hp30 := hX26.pins.below hl29
 have hX31 := hX26.step hp30 hl29
 have ho32 := hw27.below hl29
 refine dr_take (i := 0) rfl rfl rfl (want_none rfl _) (by kernel_rfl) (fun _ _ => r_move (v := ov) rfl) hX31.pins (dr_take (i := 2) rfl rfl rfl (want_none rfl _) (by kernel_rfl) (fun _ _ => r_move (v := (.int .i64 (kdI s))) rfl) hX31.pins (dr_take (i := 6) rfl rfl rfl (want_none rfl _) (by kernel_rfl) (fun _ _ => r_move (v := u16) rfl) hX31.pins (dr_take (i := 7) rfl rfl rfl (want_none rfl _) (by kernel_rfl) (fun _ _ => r_move (v := (.int .i64 (j : Int))) rfl) hX31.pins (dr_take (i := 8) rfl rfl rfl (want_none rfl _) (by kernel_rfl) (fun _ _ => run_idx Tryz.underlying22 sz9 (v := u16) rfl rfl hr19 (by omega) (by omega)) hX31.pins (dr_take (i := 9) rfl rfl rfl (want_none rfl _) (by kernel_rfl) (fun _ hS => run_load_str (r := (stripM (kdI s) (tlB s) left).getD j ByteArray.empty) rfl ag9 (z := (j : Int)) rfl hr19 (Pins.of_le hS hlek23) (by omega) (by omega)) hX31.pins (dr_one (i := 1) (by kernel_rfl) (drOp1 (i := 1) rfl rfl rfl (want_none rfl _) (o_call (vs := []) Tryz.func38 nm38 rfl rfl rfl ?_))))))))
 refine Calls.mono (verbs_spec hX31.pins) ?_
 rintro _ w35 ⟨u33, G34, rfl, hr36, hx37⟩
 refine ⟨_, rfl, ?_⟩
 have hX38 := hX31.tr hx37
 have ho39 := ho32.ext hx37
 refine ⟨fun _ => (Pins.of_le hX38.pins hx37.le), ?_⟩
 refine dr_take (i := 3) rfl rfl rfl (want_none rfl _) (by kernel_rfl) (fun _ _ => run_idx Tryz.underlying22 sz9 (v := u33) rfl rfl hr36 (by omega) (by omega)) (Pins.of_le hX38.pins hx37.le) (dr_more (S' := fun wz => Pins GL1 wz ∧ Pins G34 wz) (fun _ h => h.1) (dr_take (i := 4) rfl rfl rfl (want_none rfl _) (by kernel_rfl) (fun _ hS => run_load_str (r := VB.getD (kdI s).toNat ByteArray.empty) rfl ag9 (z := (kdI s)) rfl hr36 hS.2 (by omega) (by omega)) ⟨(Pins.of_le hX38.pins hx37.le), hX38.pins⟩ ?_))
 have hm40 : (⟨#[32]⟩ : ByteArray).size = 1 := rfl
 have hm41 : ((VB.getD (kdI s).toNat ByteArray.empty) ++ (⟨#[32]⟩ : ByteArray)).size = (VB.getD (kdI s).toNat ByteArray.empty).size + (⟨#[32]⟩ : ByteArray).size := ByteArray.size_append
 refine dr_take (i := 5) rfl rfl rfl (want_none rfl _) (by kernel_rfl) (fun _ _ => r_addS rfl rfl (by omega)) ⟨(Pins.of_le hX38.pins hx37.le), hX38.pins⟩ ?_
 have hm42 : (((VB.getD (kdI s).toNat ByteArray.empty) ++ (⟨#[32]⟩ : ByteArray)) ++ ((stripM (kdI s) (tlB s) left).getD j ByteArray.empty)).size = ((VB.getD (kdI s).toNat ByteArray.empty) ++ (⟨#[32]⟩ : ByteArray)).size + ((stripM (kdI s) (tlB s) left).getD j ByteArray.empty).size := ByteArray.size_append
 refine dr_take (i := 10) rfl rfl rfl (want_none rfl _) (by kernel_rfl) (fun _ _ => r_addS rfl rfl (by omega)) ⟨(Pins.of_le hX38.pins hx37.le), hX38.pins⟩ (dr_one (i := 11) (by kernel_rfl) (drOp1 (i := 11) rfl rfl rfl (want_none rfl _) (o_buildF (E := eStr) (e := 9) [(.string (((VB.getD (kdI s).toNat ByteArray.empty) ++ (⟨#[32]⟩ : ByteArray)) ++ ((stripM (kdI s) (tlB s) left).getD j ByteArray.empty)))] [((VB.getD (kdI s).toNat ByteArray.empty) ++ (⟨#[32]⟩ : ByteArray)) ++ ((stripM (kdI s) (tlB s) left).getD j ByteArray.empty)] Tryz.underlying22 sz9 zr9 (by exact reps1 (by rfl)) (ones1 (by rfl)) rfl rfl rfl rfl (by decide) hX38.pins (fun u43 w44 ho45 hp46 hl47 hk48 => ?_))))
 have hX49 := hX38.step hp46 hl47
 have ho50 := ho39.below hl47
 have ho52 : Own eStr 9 G34 w44 w.heap.size u43 ([((VB.getD (kdI s).toNat ByteArray.empty) ++ (⟨#[32]⟩ : ByteArray)) ++ ((stripM (kdI s) (tlB s) left).getD j ByteArray.empty)]) := ho45.weaken hX38.size
 refine ⟨fun _ => ⟨(Pins.of_le hX49.pins hx37.le), hX49.pins⟩, ?_⟩
 refine dr_one (i := 12) (by kernel_rfl) (drOp1 (i := 12) rfl rfl rfl (want_none rfl _) (o_append (E := eStr) (v := ov) (u := u43) 16 Tryz.underlying22 ap9 (by decide) rfl rfl hX49.pins ho50 ho52.src (by first | omega | (rw [List.nil_append]; omega) | (rw [List.length_nil]; omega) | (rw [List.length_append]; omega) | (simp; done) | (simp; omega) | (simp only [List.length_cons, List.length_nil]; omega) | (simp only [List.length_append, List.length_cons, List.length_nil]; omega)) (by first | omega | (rw [List.nil_append]; omega) | (rw [List.length_nil]; omega) | (rw [List.length_append]; omega) | (simp; done) | (simp; omega) | (simp only [List.length_cons, List.length_nil]; omega) | (simp only [List.length_append, List.length_cons, List.length_nil]; omega)) (hX49.size) (fun u53 w54 ho55 hp56 hg57 hw58 => ?_)))
 have hX59 := hX49.write hp56 hg57 ((lo_own ho50))
 have hm62 : (os ++ ([((VB.getD (kdI s).toNat ByteArray.empty) ++ (⟨#[32]⟩ : ByteArray)) ++ ((stripM (kdI s) (tlB s) left).getD j ByteArray.empty)])).length = os.length + 1 := List.length_append
 refine ⟨fun _ => ⟨(Pins.of_le hX59.pins hx37.le), hX59.pins⟩, ?_⟩
 refine dr_take (i := 13) rfl rfl rfl (want_none rfl _) (by kernel_rfl) (fun _ _ => r_assign (v := u53) rfl) ⟨(Pins.of_le hX59.pins hx37.le), hX59.pins⟩ (dr_end (by kernel_rfl) (s_blkN (s_then (c_reg ?_))))
 refine qd rfl rfl rfl (r_move (v := (.int .i64 (j : Int))) rfl) (qd rfl rfl rfl (r_add rfl rfl (by omega)) (qd rfl rfl rfl (r_assign (v := (.int .i64 ((j : Int) + 1))) rfl) (qe (s_lopN (⟨_, ?_, _, rfl, _, j + 1, u53, os ++ [fV (kdI s).toNat ((stripM (kdI s) (tlB s) left).getD j ByteArray.empty)], G34, (packS (x := 9) (packS (x := 8) (packS (x := 7) (packS (x := 5) (pack1 (x := 4) rfl) rfl) rfl) rfl) rfl), rfl, hX59, (Pin.le_trans hlek23 hx37.le), (by omega), (mapF_next (by omega) hos), (by simp [hol]), ho55⟩)))))
 omega
 refine wp_exit (s_thenE (s_lopE (s_blkE (s_blkN (s_then (s_seq (c_reg ?_)))))))
 refine qd rfl rfl rfl (r_move (v := ov) rfl) (qd rfl rfl rfl (r_assign (v := ov) rfl) (qe (s_then ?_)))
 refine wp_ret (s_ret (c_ret1 (v := ov) rfl rfl rfl ?_))
 obtain ⟨G63, hle66, hX65, hr64, hf67⟩ := hw27.sealed hX26
 exact ⟨_, _, rfl, (by rw [mvW_eq, arg_3 (by omega), ← map_done (by omega) hos]; exact hr64), hX65⟩
 refine s_seq (c_reg ?_)
 refine qd rfl rfl rfl (r_move (v := (.int .i64 (kdI s))) rfl) (qd rfl rfl rfl (r_eql rfl rfl) (qd rfl rfl rfl (r_assign (v := (.bool (decide ((kdI s : Int) = 4)))) rfl) (qe (s_then ?_))))
 refine c_ifd (p := (kdI s : Int) = 4) rfl rfl (fun h68 => ?_) (fun h68 => ?_)
 refine s_seq (c_reg ?_)
 refine qd rfl rfl rfl (r_move (v := (.string (tlB s))) rfl) (q1 rfl rfl rfl (o_call (vs := [(.string (tlB s))]) Tryz.func32 nm32 rfl rfl rfl ?_))
 refine Calls.mono (sReadBoard_spec (t := (tlB s)) hX13.pins (by omega)) ?_
 rintro _ w71 ⟨u69, G70, rfl, hr72, hx73⟩
 refine ⟨_, rfl, ?_⟩
 have hX74 := hX13.tr hx73
 have ho75 := ho14.ext hx73
 refine qd rfl rfl rfl (r_move (v := (.tuple #[(.agg [u69].toArray), (.bool (rdB9 (tlB s)))])) rfl) (qd rfl rfl rfl (r_extract (v := (.agg [u69].toArray)) rfl rfl) (qd rfl rfl rfl (r_extract (v := (.bool (rdB9 (tlB s)))) rfl rfl) (q1 rfl rfl rfl (o_alloc [(.slice none 0 0)] zr56 rfl hX74.pins (fun b76 w77 hk78 hb79 hp80 hl81 => ?_)))))
 have hX82 := hX74.step hp80 hl81
 have ho83 := ho75.below hl81
 have ha84 : Apart (some b76) u7.ownBlock := new_ne_own (congrArg some hk78) ho75.lt
 have hlo85 : w.heap.size ≤ b76 := by have := hX74.size; omega
 refine q0 rfl rfl rfl (o_stp (cs' := [u69]) (us := [u69]) (v := (.agg [u69].toArray)) sz56 rfl rfl rfl (ones1 hr72.one) hX82.pins hb79 (Nat.le_of_ble_eq_true rfl) rfl (fun w86 hb87 hp88 hg89 hz90 => ?_))
 have hX91 := hX82.write hp88 hg89 ((lo_box hlo85))
 have ho92 := ho83.keptA hg89 ha84.symm
 obtain ⟨G93, hle94, hX95, hbp96, hf97⟩ := hb87.shut hX91 hlo85
 have ho98 := ho92.moreA hle94 hf97 ha84.symm
 refine qd rfl rfl rfl (r_assign (v := (.bool (rdB9 (tlB s)))) rfl) (qe (s_then (s_seq (c_reg ?_))))
 have hgb : GbP (partsB 47 (tlB s)) := (g.2.dom (by omega)).g
 have hdl := dm_len (left := left) hgb
 have hr99 := hr72
 rw [rdF_yes (decP_true.2 hgb)] at hr99
 refine qd rfl rfl rfl (r_ldpA (cs := [u69]) ag56 sz56 rfl (fun j u hj => hX95.pins _ _ _ (hbp96 _ _ (by simpa using hj)))) (qd rfl rfl rfl (r_move (v := (.bool left)) rfl) (q1 rfl rfl rfl (o_call (vs := [(.agg [u69].toArray), (.bool left)]) Tryz.func40 nm40 rfl rfl rfl ?_)))
 refine Calls.mono (smoves_spec (left := left) hX95.pins (hr99.mono hle94) hgb) ?_
 rintro _ w102 ⟨u100, G101, rfl, hr103, hx104⟩
 refine ⟨_, rfl, ?_⟩
 have hX105 := hX95.tr hx104
 have ho106 := ho98.ext hx104
 refine qd rfl rfl rfl (r_assign (v := u100) rfl) (qe (s_then (s_seq (c_reg ?_))))
 refine qd rfl rfl rfl (r_assign (v := (.int .i64 0)) rfl) (qe (s_then ?_))
 refine s_blk (s_loop (fun (k : Nat) (en : Nat → Value) (W : World) => ∃ (env1 : Nat → Value) (j : Nat) (ov : Value) (os : List ByteArray) (GL1 : Pin), en = (upd (upd (upd (upd env1 4 (.slice none 0 0)) 7 ov) 12 u100) 13 (.int .i64 (j : Int))) ∧ k = (dmM (partsB 47 (tlB s)) left).length - j ∧ Ext noS G w GL1 W ∧ Pin.le G101 GL1 ∧ (j ≤ (dmM (partsB 47 (tlB s)) left).length) ∧ (os = (((dmM (partsB 47 (tlB s)) left).take j).map (joinC 47)).map (fV 4)) ∧ (os.length = j) ∧ (Own eStr 9 GL1 W w.heap.size ov (os))) _ ⟨_, 0, u7, [], G101, (packS (x := 13) (packS (x := 12) (packS (x := 7) (pack1 (x := 4) rfl) rfl) rfl) rfl), rfl, hX105, Pin.le_refl _, Nat.zero_le _, rfl, rfl, ho106⟩ ?_)
 rintro k107 _ w108 ⟨env1, j, ov, os, GL1, rfl, hk109, hX110, hlek107, hj, hos, hol, hw111⟩
 refine s_seq (s_seq (c_reg ?_))
 refine qd rfl rfl rfl (r_move (v := (.int .i64 (j : Int))) rfl) (qd rfl rfl rfl (r_move (v := u100) rfl) (qd rfl rfl rfl (run_len Tryz.underlying66 (v := u100) rfl hr103) (qd rfl rfl rfl (r_lss rfl rfl) (qe (s_then ?_)))))
 refine c_ifd (p := ((j : Int) : Int) < ((dmM (partsB 47 (tlB s)) left).length : Int)) rfl rfl (fun h112 => ?_) (fun h112 => ?_)
 have hgx := dm_mem hgb (getD_mem (d := []) (show j < (dmM (partsB 47 (tlB s)) left).length by omega))
 have hgz := bdt_size hgx
 have hd4 : (⟨#[100, 111, 109, 32]⟩ : ByteArray).size = 4 := rfl
 refine wp_skip (s_then (s_seq ?_))
 refine s_blk (c_reg (qd rfl rfl rfl (r_move (v := ov) rfl) (qd rfl rfl rfl (r_move (v := u100) rfl) (qd rfl rfl rfl (r_move (v := (.int .i64 (j : Int))) rfl) (qd rfl rfl rfl (run_idx Tryz.underlying66 sz56 (v := u100) rfl rfl hr103 (by omega) (by omega)) ?_)))))
 obtain ⟨u113, hr114, hl115⟩ := nm_form (hr103.at (z := (j : Int)) (by omega) (by omega)) (j := j) rfl
 have hm116 := hr114.max
 refine qd rfl rfl rfl (hl115 ag56 sz56 rfl (Pins.of_le hX110.pins hlek107)) (q1 rfl rfl rfl (o_call (vs := [(.agg [u113].toArray)]) Tryz.func41 nm41 rfl rfl rfl ?_))
 refine Calls.mono (l21Text_spec hX110.pins (hr114.mono hlek107) (gx_small hgx) (gx_rows hgx)) ?_
 rintro _ w118 ⟨G117, rfl, hx119⟩
 refine ⟨_, rfl, ?_⟩
 have hX120 := hX110.tr hx119
 have ho121 := hw111.ext hx119
 have hm122 : (⟨#[100, 111, 109, 32]⟩ : ByteArray).size = 4 := rfl
 have hm123 : ((⟨#[100, 111, 109, 32]⟩ : ByteArray) ++ (joinC 47 ((dmM (partsB 47 (tlB s)) left).getD j []))).size = (⟨#[100, 111, 109, 32]⟩ : ByteArray).size + (joinC 47 ((dmM (partsB 47 (tlB s)) left).getD j [])).size := ByteArray.size_append
 refine qd rfl rfl rfl (r_addS rfl rfl (by omega)) (q1 rfl rfl rfl (o_buildF (E := eStr) (e := 9) [(.string ((⟨#[100, 111, 109, 32]⟩ : ByteArray) ++ (joinC 47 ((dmM (partsB 47 (tlB s)) left).getD j []))))] [(⟨#[100, 111, 109, 32]⟩ : ByteArray) ++ (joinC 47 ((dmM (partsB 47 (tlB s)) left).getD j []))] Tryz.underlying22 sz9 zr9 (by exact reps1 (by rfl)) (ones1 (by rfl)) rfl rfl rfl rfl (by decide) hX120.pins (fun u124 w125 ho126 hp127 hl128 hk129 => ?_)))
 have hX130 := hX120.step hp127 hl128
 have ho131 := ho121.below hl128
 have ho133 : Own eStr 9 G117 w125 w.heap.size u124 ([(⟨#[100, 111, 109, 32]⟩ : ByteArray) ++ (joinC 47 ((dmM (partsB 47 (tlB s)) left).getD j []))]) := ho126.weaken hX120.size
 refine q1 rfl rfl rfl (o_append (E := eStr) (v := ov) (u := u124) 16 Tryz.underlying22 ap9 (by decide) rfl rfl hX130.pins ho131 ho133.src (by first | omega | (rw [List.nil_append]; omega) | (rw [List.length_nil]; omega) | (rw [List.length_append]; omega) | (simp; done) | (simp; omega) | (simp only [List.length_cons, List.length_nil]; omega) | (simp only [List.length_append, List.length_cons, List.length_nil]; omega)) (by first | omega | (rw [List.nil_append]; omega) | (rw [List.length_nil]; omega) | (rw [List.length_append]; omega) | (simp; done) | (simp; omega) | (simp only [List.length_cons, List.length_nil]; omega) | (simp only [List.length_append, List.length_cons, List.length_nil]; omega)) (hX130.size) (fun u134 w135 ho136 hp137 hg138 hw139 => ?_))
 have hX140 := hX130.write hp137 hg138 ((lo_own ho131))
 have hm143 : (os ++ ([(⟨#[100, 111, 109, 32]⟩ : ByteArray) ++ (joinC 47 ((dmM (partsB 47 (tlB s)) left).getD j []))])).length = os.length + 1 := List.length_append
 refine qd rfl rfl rfl (r_assign (v := u134) rfl) (qe (s_blkN (s_then (c_reg ?_))))
 refine qd rfl rfl rfl (r_move (v := (.int .i64 (j : Int))) rfl) (qd rfl rfl rfl (r_add rfl rfl (by omega)) (qd rfl rfl rfl (r_assign (v := (.int .i64 ((j : Int) + 1))) rfl) (qe (s_lopN (⟨_, ?_, _, rfl, _, j + 1, u134, os ++ [fV 4 (joinC 47 ((dmM (partsB 47 (tlB s)) left).getD j []))], G117, (packS (x := 13) (packS (x := 12) (packS (x := 7) (pack1 (x := 4) rfl) rfl) rfl) rfl), rfl, hX140, (Pin.le_trans hlek107 hx119.le), (by omega), (mapG_next (by omega) hos), (by simp [hol]), ho136⟩)))))
 omega
 refine wp_exit (s_thenE (s_lopE (s_blkE (s_blkN (s_then (s_seq (c_reg ?_)))))))
 refine qd rfl rfl rfl (r_move (v := ov) rfl) (qd rfl rfl rfl (r_assign (v := ov) rfl) (qe (s_then ?_)))
 refine wp_ret (s_ret (c_ret1 (v := ov) rfl rfl rfl ?_))
 obtain ⟨G144, hle147, hX146, hr145, hf148⟩ := hw111.sealed hX110
 exact ⟨_, _, rfl, (by rw [mvW_eq, arg_4 (by omega), show (kdI s).toNat = 4 by omega, ← mapG_done (by omega) hos]; exact hr145), hX146⟩
 refine s_seq (c_reg ?_)
 refine qd rfl rfl rfl (r_move (v := (.int .i64 (kdI s))) rfl) (qd rfl rfl rfl (r_eql rfl rfl) (qd rfl rfl rfl (r_assign (v := (.bool (decide ((kdI s : Int) = 5)))) rfl) (qe (s_then ?_))))
 refine c_ifd (p := (kdI s : Int) = 5) rfl rfl (fun h149 => ?_) (fun h149 => ?_)
 refine s_seq (c_reg ?_)
 refine qd rfl rfl rfl (r_assign (v := (.int .i64 0)) rfl) (qe (s_then ?_))
 refine s_blk (s_loop (fun (k : Nat) (en : Nat → Value) (W : World) => ∃ (env1 : Nat → Value) (j : Nat) (ov : Value) (os : List ByteArray) (GL1 : Pin), en = (upd (upd (upd (upd (upd env1 1 (.bool left)) 4 (.slice none 0 0)) 6 (.string (tlB s))) 7 ov) 14 (.int .i64 (j : Int))) ∧ k = (tlB s).size - j ∧ Ext noS G w GL1 W ∧ Pin.le G1 GL1 ∧ (j ≤ (tlB s).size) ∧ (os = (runM (stalkAt (tlB s) left) j).map (fV 5)) ∧ (os.length ≤ j) ∧ (Own eStr 9 GL1 W w.heap.size ov (os))) _ ⟨_, 0, u7, [], G1, (packS (x := 14) (packS (x := 7) (packS (x := 6) (packS (x := 4) (pack1 (x := 1) rfl) rfl) rfl) rfl) rfl), rfl, hX13, Pin.le_refl _, Nat.zero_le _, rfl, Nat.le_refl _, ho14⟩ ?_)
 rintro k150 _ w151 ⟨env1, j, ov, os, GL1, rfl, hk152, hX153, hlek150, hj, hos, hol, hw154⟩
 refine s_seq (s_seq (c_reg ?_))
 refine qd rfl rfl rfl (r_move (v := (.int .i64 (j : Int))) rfl) (qd rfl rfl rfl (r_move (v := (.string (tlB s))) rfl) (qd rfl rfl rfl (r_lenS Tryz.underlying9 rfl) (qd rfl rfl rfl (r_lss rfl rfl) (qe (s_then ?_)))))
 refine c_ifd (p := ((j : Int) : Int) < ((tlB s).size : Int)) rfl rfl (fun h155 => ?_) (fun h155 => ?_)
 have hd6 : (⟨#[115, 116, 97, 108, 107, 32]⟩ : ByteArray).size = 6 := rfl
 refine wp_skip (s_then (s_seq ?_))
 refine s_blk (s_seq (c_reg ?_))
 refine qd rfl rfl rfl (r_move (v := (.string (tlB s))) rfl) (qd rfl rfl rfl (r_move (v := (.int .i64 (j : Int))) rfl) (qd rfl rfl rfl (r_idxB Tryz.underlying9 rfl rfl (by omega) (by omega)) (qd rfl rfl rfl (r_eql rfl rfl) (qd rfl rfl rfl (r_move (v := (.bool left)) rfl) (qd rfl rfl rfl (r_eqlB Tryz.underlying4 rfl rfl) (qe (s_then ?_)))))))
 refine c_if rfl rfl (fun h156 => ?_) (fun h156 => ?_)
 refine c_reg (qd rfl rfl rfl (r_move (v := ov) rfl) (qd rfl rfl rfl (r_move (v := (.string (tlB s))) rfl) (qd rfl rfl rfl (r_move (v := (.int .i64 (j : Int))) rfl) ?_)))
 have hm157 : ((tlB s).extract 0 j).size = min j (tlB s).size - 0 := ByteArray.size_extract
 refine qd rfl rfl rfl (r_cutS Tryz.underlying9 rfl rfl (by omega) (by omega)) ?_
 have hez : ((tlB s).extract 0 (j : Int).toNat).size ≤ 71 := by rw [ByteArray.size_extract]; omega
 have hm158 : (⟨#[115, 116, 97, 108, 107, 32]⟩ : ByteArray).size = 6 := rfl
 have hm159 : ((⟨#[115, 116, 97, 108, 107, 32]⟩ : ByteArray) ++ ((tlB s).extract 0 j)).size = (⟨#[115, 116, 97, 108, 107, 32]⟩ : ByteArray).size + ((tlB s).extract 0 j).size := ByteArray.size_append
 refine qd rfl rfl rfl (r_addS rfl rfl (by omega)) (q1 rfl rfl rfl (o_buildF (E := eStr) (e := 9) [(.string ((⟨#[115, 116, 97, 108, 107, 32]⟩ : ByteArray) ++ ((tlB s).extract 0 j)))] [(⟨#[115, 116, 97, 108, 107, 32]⟩ : ByteArray) ++ ((tlB s).extract 0 j)] Tryz.underlying22 sz9 zr9 (by exact reps1 (by rfl)) (ones1 (by rfl)) rfl rfl rfl rfl (by decide) hX153.pins (fun u160 w161 ho162 hp163 hl164 hk165 => ?_)))
 have hX166 := hX153.step hp163 hl164
 have ho167 := hw154.below hl164
 have ho169 : Own eStr 9 GL1 w161 w.heap.size u160 ([(⟨#[115, 116, 97, 108, 107, 32]⟩ : ByteArray) ++ ((tlB s).extract 0 j)]) := ho162.weaken hX153.size
 refine q1 rfl rfl rfl (o_append (E := eStr) (v := ov) (u := u160) 16 Tryz.underlying22 ap9 (by decide) rfl rfl hX166.pins ho167 ho169.src (by first | omega | (rw [List.nil_append]; omega) | (rw [List.length_nil]; omega) | (rw [List.length_append]; omega) | (simp; done) | (simp; omega) | (simp only [List.length_cons, List.length_nil]; omega) | (simp only [List.length_append, List.length_cons, List.length_nil]; omega)) (by first | omega | (rw [List.nil_append]; omega) | (rw [List.length_nil]; omega) | (rw [List.length_append]; omega) | (simp; done) | (simp; omega) | (simp only [List.length_cons, List.length_nil]; omega) | (simp only [List.length_append, List.length_cons, List.length_nil]; omega)) (hX166.size) (fun u170 w171 ho172 hp173 hg174 hw175 => ?_))
 have hX176 := hX166.write hp173 hg174 ((lo_own ho167))
 have hm179 : (os ++ ([(⟨#[115, 116, 97, 108, 107, 32]⟩ : ByteArray) ++ ((tlB s).extract 0 j)])).length = os.length + 1 := List.length_append
 refine qd rfl rfl rfl (r_assign (v := u170) rfl) (qe (s_blkN (s_then (c_reg ?_))))
 refine qd rfl rfl rfl (r_move (v := (.int .i64 (j : Int))) rfl) (qd rfl rfl rfl (r_add rfl rfl (by omega)) (qd rfl rfl rfl (r_assign (v := (.int .i64 ((j : Int) + 1))) rfl) (qe (s_lopN (⟨_, ?_, _, rfl, _, j + 1, u170, os ++ [fV 5 ((tlB s).extract 0 j)], GL1, (packS (x := 14) (packS (x := 7) (packS (x := 6) (packS (x := 4) (pack1 (x := 1) rfl) rfl) rfl) rfl) rfl), rfl, hX176, hlek150, (by omega), (runG_y hos (stalk_y (by simpa using h156))), (by simp; omega), ho172⟩)))))
 omega
 refine wp_skip (s_blkN (s_then (c_reg ?_)))
 refine qd rfl rfl rfl (r_move (v := (.int .i64 (j : Int))) rfl) (qd rfl rfl rfl (r_add rfl rfl (by omega)) (qd rfl rfl rfl (r_assign (v := (.int .i64 ((j : Int) + 1))) rfl) (qe (s_lopN (⟨_, ?_, _, rfl, _, j + 1, ov, os, GL1, (packS (x := 14) (packS (x := 7) (packS (x := 6) (packS (x := 4) (pack1 (x := 1) rfl) rfl) rfl) rfl) rfl), rfl, hX153, hlek150, (by omega), (runG_n hos (stalk_n (by simpa using h156))), (by omega), hw154⟩)))))
 omega
 refine wp_exit (s_thenE (s_lopE (s_blkE (s_blkN (s_then (s_seq (c_reg ?_)))))))
 refine qd rfl rfl rfl (r_move (v := ov) rfl) (qd rfl rfl rfl (r_assign (v := ov) rfl) (qe (s_then ?_)))
 refine wp_ret (s_ret (c_ret1 (v := ov) rfl rfl rfl ?_))
 obtain ⟨G180, hle183, hX182, hr181, hf184⟩ := hw154.sealed hX153
 exact ⟨_, _, rfl, (by rw [mvW_eq, arg_5 (by omega), show (kdI s).toNat = 5 by omega]; unfold stalkM; rw [← show j = (tlB s).size by omega, ← hos]; exact hr181), hX182⟩
 refine s_seq (c_reg ?_)
 refine qd rfl rfl rfl (r_move (v := (.string (tlB s))) rfl) (q1 rfl rfl rfl (o_call (vs := [(.string (tlB s))]) Tryz.func35 nm35 rfl rfl rfl ?_))
 refine Calls.mono (l1ReadX_spec (s := (tlB s)) hX13.pins (by omega)) ?_
 rintro _ w188 ⟨n185, ok186, G187, rfl, hrn189, hre190, hx191⟩
 refine ⟨_, rfl, ?_⟩
 have hX192 := hX13.tr hx191
 have ho193 := ho14.ext hx191
 have hm194 := hrn189.lo
 have hm195 := hrn189.hi
 refine qd rfl rfl rfl (r_move (v := (.tuple #[(.int .i64 n185), (.bool ok186)])) rfl) (qd rfl rfl rfl (r_extract (v := (.int .i64 n185)) rfl rfl) (qd rfl rfl rfl (r_extract (v := (.bool ok186)) rfl rfl) (qd rfl rfl rfl (r_assign (v := (.int .i64 n185)) rfl) (qd rfl rfl rfl (r_assign (v := (.bool ok186)) rfl) (qe (s_then (s_seq (c_reg ?_))))))))
 refine qd rfl rfl rfl (r_assign (v := (.int .i64 0)) rfl) (qe (s_then ?_))
 refine s_blk (s_loop (fun (k : Nat) (en : Nat → Value) (W : World) => ∃ (env1 : Nat → Value) (j : Nat) (ov : Value) (os : List ByteArray) (GL1 : Pin), en = (upd (upd (upd (upd env1 4 (.slice none 0 0)) 7 ov) 15 (.int .i64 n185)) 17 (.int .i64 (j : Int))) ∧ k = dgN (tlB s) - j ∧ Ext noS G w GL1 W ∧ Pin.le G187 GL1 ∧ (j ≤ dgN (tlB s)) ∧ (os = ((List.range j).map fun n : Nat => numT (n : Int)).map (fV 6)) ∧ (os.length = j) ∧ (Own eStr 9 GL1 W w.heap.size ov (os))) _ ⟨_, 0, u7, [], G187, (packS (x := 17) (packS (x := 15) (packS (x := 7) (pack1 (x := 4) rfl) rfl) rfl) rfl), rfl, hX192, Pin.le_refl _, Nat.zero_le _, rfl, rfl, ho193⟩ ?_)
 rintro k196 _ w197 ⟨env1, j, ov, os, GL1, rfl, hk198, hX199, hlek196, hj, hos, hol, hw200⟩
 refine s_seq (s_seq (c_reg ?_))
 have hdg := g.2.nim (by omega)
 have hdl := dg_le hdg
 have hrd := rd_dig hdg hrn189
 refine qd rfl rfl rfl (r_move (v := (.int .i64 (j : Int))) rfl) (qd rfl rfl rfl (r_move (v := (.int .i64 n185)) rfl) (qd rfl rfl rfl (r_lss rfl rfl) (qe (s_then ?_))))
 refine c_ifd (p := ((j : Int) : Int) < n185) rfl rfl (fun h201 => ?_) (fun h201 => ?_)
 have hd4 : (⟨#[110, 105, 109, 32]⟩ : ByteArray).size = 4 := rfl
 have hnz := numT_dig_size (n := j) (by omega)
 refine wp_skip (s_then (s_seq ?_))
 refine s_blk (c_reg (qd rfl rfl rfl (r_move (v := ov) rfl) (qd rfl rfl rfl (r_move (v := (.int .i64 (j : Int))) rfl) (q1 rfl rfl rfl (o_call (vs := [(.int .i64 (j : Int))]) Tryz.func56 nm56 rfl rfl rfl ?_)))))
 refine Calls.mono (l1Num_spec (j : Int) (by omega) (by omega) hX199.pins) ?_
 rintro _ w203 ⟨G202, rfl, hx204⟩
 refine ⟨_, rfl, ?_⟩
 have hX205 := hX199.tr hx204
 have ho206 := hw200.ext hx204
 have hm207 : (⟨#[110, 105, 109, 32]⟩ : ByteArray).size = 4 := rfl
 have hm208 : ((⟨#[110, 105, 109, 32]⟩ : ByteArray) ++ (numT (j : Int))).size = (⟨#[110, 105, 109, 32]⟩ : ByteArray).size + (numT (j : Int)).size := ByteArray.size_append
 refine qd rfl rfl rfl (r_addS rfl rfl (by omega)) (q1 rfl rfl rfl (o_buildF (E := eStr) (e := 9) [(.string ((⟨#[110, 105, 109, 32]⟩ : ByteArray) ++ (numT (j : Int))))] [(⟨#[110, 105, 109, 32]⟩ : ByteArray) ++ (numT (j : Int))] Tryz.underlying22 sz9 zr9 (by exact reps1 (by rfl)) (ones1 (by rfl)) rfl rfl rfl rfl (by decide) hX205.pins (fun u209 w210 ho211 hp212 hl213 hk214 => ?_)))
 have hX215 := hX205.step hp212 hl213
 have ho216 := ho206.below hl213
 have ho218 : Own eStr 9 G202 w210 w.heap.size u209 ([(⟨#[110, 105, 109, 32]⟩ : ByteArray) ++ (numT (j : Int))]) := ho211.weaken hX205.size
 refine q1 rfl rfl rfl (o_append (E := eStr) (v := ov) (u := u209) 16 Tryz.underlying22 ap9 (by decide) rfl rfl hX215.pins ho216 ho218.src (by first | omega | (rw [List.nil_append]; omega) | (rw [List.length_nil]; omega) | (rw [List.length_append]; omega) | (simp; done) | (simp; omega) | (simp only [List.length_cons, List.length_nil]; omega) | (simp only [List.length_append, List.length_cons, List.length_nil]; omega)) (by first | omega | (rw [List.nil_append]; omega) | (rw [List.length_nil]; omega) | (rw [List.length_append]; omega) | (simp; done) | (simp; omega) | (simp only [List.length_cons, List.length_nil]; omega) | (simp only [List.length_append, List.length_cons, List.length_nil]; omega)) (hX215.size) (fun u219 w220 ho221 hp222 hg223 hw224 => ?_))
 have hX225 := hX215.write hp222 hg223 ((lo_own ho216))
 have hm228 : (os ++ ([(⟨#[110, 105, 109, 32]⟩ : ByteArray) ++ (numT (j : Int))])).length = os.length + 1 := List.length_append
 refine qd rfl rfl rfl (r_assign (v := u219) rfl) (qe (s_blkN (s_then (c_reg ?_))))
 refine qd rfl rfl rfl (r_move (v := (.int .i64 (j : Int))) rfl) (qd rfl rfl rfl (r_add rfl rfl (by omega)) (qd rfl rfl rfl (r_assign (v := (.int .i64 ((j : Int) + 1))) rfl) (qe (s_lopN (⟨_, ?_, _, rfl, _, j + 1, u219, os ++ [fV 6 (numT (j : Int))], G202, (packS (x := 17) (packS (x := 15) (packS (x := 7) (pack1 (x := 4) rfl) rfl) rfl) rfl), rfl, hX225, (Pin.le_trans hlek196 hx204.le), (by omega), (rngG_next (f := fun n : Nat => numT (n : Int)) hos), (by simp [hol]), ho221⟩)))))
 omega
 refine wp_exit (s_thenE (s_lopE (s_blkE (s_blkN (s_then (s_seq (c_reg ?_)))))))
 refine qd rfl rfl rfl (r_move (v := ov) rfl) (qd rfl rfl rfl (r_assign (v := ov) rfl) (qe (s_then ?_)))
 refine wp_ret (s_ret (c_ret1 (v := ov) rfl rfl rfl ?_))
 obtain ⟨G229, hle232, hX231, hr230, hf233⟩ := hw200.sealed hX199
 exact ⟨_, _, rfl, (by rw [mvW_eq, arg_6 (by omega), show (kdI s).toNat = 6 by omega, ← show j = dgN (tlB s) by omega, ← hos]; exact hr230), hX231⟩

end PW9
end Go.Proofs.YtianphgdbfekdaaGreatDoor

set_option maxRecDepth 20000
set_option maxHeartbeats 2000000
namespace Go.Proofs.YtianphgdbfekdaaGreatDoor
namespace PWA
open Go.RowKit Go.GL Go.Proofs
open PW8 PW9








theorem l24Moves_spec {w : World} {G : Pin} {v : Value} {ws : List ByteArray} {left : Bool} (hP : Pins G w) (hv : RSl eStr G v ws) (hl : ws.length ≤ 6) (hg : ∀ x ∈ ws, SgP x) :
  Calls Tryz.prog 18 [v, (.bool left)].toArray w fun e w' => ∃ (u : Value) (G' : Pin), e = .returned u ∧ RSl eStr G' u (posS ws left) ∧ Ext noS G w G' w' := by
 refine s_enter (n := 45) Tryz.func18 Tryz.ntmps18 rfl rfl ?_
 have hX0 : Ext noS G w G w := Ext.refl hP
 have hmv := hv.max
 have hnl : ([] ++ ws).length = ws.length := rfl
 have hwz : ∀ i, i < ws.length → (ws.getD i ByteArray.empty).size ≤ 200 := fun i hi => by have := sg_size (hg _ (getD_mem (d := ByteArray.empty) hi)); omega
 refine s_seq (c_reg ?_)
 refine qd rfl rfl rfl (r_assign (v := (.slice none 0 0)) rfl) (qe (s_then (s_seq (c_reg ?_))))
 refine q1 rfl rfl rfl (o_build0 (E := eStr) (e := 9) Tryz.underlying22 sz9 hX0.pins (fun u1 w2 ho3 hp4 hl5 hk6 => ?_))
 have hX7 := hX0.step hp4 hl5
 have ho8 : Own eStr 9 G w2 w.heap.size u1 ([]) := ho3.weaken hX0.size
 refine qd rfl rfl rfl (r_assign (v := u1) rfl) (qe (s_then (s_seq (s_seq (c_reg ?_)))))
 refine qd rfl rfl rfl (r_assign (v := (.int .i64 0)) rfl) (qe (s_then ?_))
 refine s_blk (s_loop (fun (k : Nat) (en : Nat → Value) (W : World) => ∃ (env1 : Nat → Value) (j : Nat) (ov : Value) (os : List ByteArray) (GL1 : Pin), en = (upd (upd (upd (upd (upd env1 0 v) 1 (.bool left)) 4 (.slice none 0 0)) 5 ov) 6 (.int .i64 (j : Int))) ∧ k = ws.length - j ∧ Ext noS G w GL1 W ∧ Pin.le G GL1 ∧ (j ≤ ws.length) ∧ (os = runM (fun k => (mvW left (ws.getD k ByteArray.empty)).map fun x => joinQ (ws.set k x)) j) ∧ (os.length ≤ 64 * j) ∧ (Own eStr 9 GL1 W w.heap.size ov (os))) _ ⟨_, 0, u1, [], G, (packS (x := 6) (packS (x := 5) (packS (x := 4) (packS (x := 1) (pack1 (x := 0) rfl) rfl) rfl) rfl) rfl), rfl, hX7, Pin.le_refl _, Nat.zero_le _, rfl, (by simp), ho8⟩ ?_)
 rintro k9 _ w10 ⟨env1, j, ov, os, GL1, rfl, hk11, hX12, hlek9, hj, hos, hol, hw13⟩
 refine s_seq (s_seq (c_reg ?_))
 refine qd rfl rfl rfl (r_move (v := (.int .i64 (j : Int))) rfl) (qd rfl rfl rfl (r_move (v := v) rfl) (qd rfl rfl rfl (run_len Tryz.underlying22 (v := v) rfl hv) (qd rfl rfl rfl (r_lss rfl rfl) (qe (s_then ?_)))))
 refine c_ifd (p := ((j : Int) : Int) < (ws.length : Int)) rfl rfl (fun h14 => ?_) (fun h14 => ?_)
 have hgj : SgP (ws.getD j ByteArray.empty) := hg _ (getD_mem (by omega))
 have hal := mv_len (left := left) hgj
 have ham := mv_size (left := left) hgj
 refine wp_skip (s_then (s_seq ?_))
 refine s_blk (s_seq (c_reg ?_))
 refine qd rfl rfl rfl (r_move (v := v) rfl) (qd rfl rfl rfl (r_move (v := (.int .i64 (j : Int))) rfl) (qd rfl rfl rfl (run_idx Tryz.underlying22 sz9 (v := v) rfl rfl hv (by omega) (by omega)) (qd rfl rfl rfl (run_load_str (r := ws.getD j ByteArray.empty) rfl ag9 (z := (j : Int)) rfl hv (Pins.of_le hX12.pins hlek9) (by omega) (by omega)) (qd rfl rfl rfl (r_move (v := (.bool left)) rfl) (q1 rfl rfl rfl (o_call (vs := [(.string (ws.getD j ByteArray.empty)), (.bool left)]) Tryz.func26 nm26 rfl rfl rfl ?_))))))
 refine Calls.mono (l24MovesOf_spec (s := (ws.getD j ByteArray.empty)) (left := left) hX12.pins hgj) ?_
 rintro _ w17 ⟨u15, G16, rfl, hr18, hx19⟩
 refine ⟨_, rfl, ?_⟩
 have hX20 := hX12.tr hx19
 have ho21 := hw13.ext hx19
 refine qd rfl rfl rfl (r_assign (v := u15) rfl) (qe (s_then (s_seq (c_reg ?_))))
 refine qd rfl rfl rfl (r_assign (v := (.int .i64 0)) rfl) (qe (s_then ?_))
 refine s_blk (s_loop (fun (k : Nat) (en : Nat → Value) (W : World) => ∃ (env1 : Nat → Value) (q9 : Nat) (ov2 : Value) (os2 : List ByteArray) (GL2 : Pin), en = (upd (upd (upd (upd (upd (upd (upd env1 0 v) 1 (.bool left)) 4 (.slice none 0 0)) 5 ov2) 6 (.int .i64 (j : Int))) 7 u15) 8 (.int .i64 (q9 : Int))) ∧ k = (mvW left (ws.getD j ByteArray.empty)).length - q9 ∧ Ext noS G w GL2 W ∧ Pin.le G16 GL2 ∧ (q9 ≤ (mvW left (ws.getD j ByteArray.empty)).length) ∧ (os2 = os ++ ((mvW left (ws.getD j ByteArray.empty)).take q9).map fun x => joinQ (ws.set j x)) ∧ (os2.length ≤ 64 * j + q9) ∧ (Own eStr 9 GL2 W w.heap.size ov2 (os2))) _ ⟨_, 0, ov, os, G16, (packS (x := 8) (packS (x := 7) (packS (x := 6) (packS (x := 5) (packS (x := 4) (packS (x := 1) (pack1 (x := 0) rfl) rfl) rfl) rfl) rfl) rfl) rfl), rfl, hX20, Pin.le_refl _, Nat.zero_le _, (List.append_nil _).symm, (by omega), ho21⟩ ?_)
 rintro k22 _ w23 ⟨env1, q9, ov2, os2, GL2, rfl, hk24, hX25, hlek22, hq, hos2, hol2, hw26⟩
 refine s_seq (s_seq (c_reg ?_))
 refine qd rfl rfl rfl (r_move (v := (.int .i64 (q9 : Int))) rfl) (qd rfl rfl rfl (r_move (v := u15) rfl) (qd rfl rfl rfl (run_len Tryz.underlying22 (v := u15) rfl hr18) (qd rfl rfl rfl (r_lss rfl rfl) (qe (s_then ?_)))))
 refine c_ifd (p := ((q9 : Int) : Int) < ((mvW left (ws.getD j ByteArray.empty)).length : Int)) rfl rfl (fun h27 => ?_) (fun h27 => ?_)
 have haq := ham _ (getD_mem (d := ByteArray.empty) (show q9 < (mvW left (ws.getD j ByteArray.empty)).length by omega))
 refine wp_skip (s_then (s_seq ?_))
 refine s_blk (s_seq (c_reg ?_))
 refine q1 rfl rfl rfl (o_build0 (E := eStr) (e := 9) Tryz.underlying22 sz9 hX25.pins (fun u28 w29 ho30 hp31 hl32 hk33 => ?_))
 have hX34 := hX25.step hp31 hl32
 have ho35 := hw26.below hl32
 have ha36 : Apart u28.ownBlock ov2.ownBlock := new_ne_own hk33 hw26.lt
 have ho37 : Own eStr 9 GL2 w29 w.heap.size u28 ([]) := ho30.weaken hX25.size
 refine qd rfl rfl rfl (r_move (v := v) rfl) (q1 rfl rfl rfl (o_append (E := eStr) (v := u28) (u := v) 16 Tryz.underlying22 ap9 (by decide) rfl rfl hX34.pins ho37 ((hv.mono (Pin.le_trans (Pin.le_trans hlek9 hx19.le) hlek22)).src hX34.pins (by decide)) (by first | omega | (rw [List.nil_append]; omega) | (rw [List.length_nil]; omega) | (rw [List.length_append]; omega) | (simp; done) | (simp; omega) | (simp only [List.length_cons, List.length_nil]; omega) | (simp only [List.length_append, List.length_cons, List.length_nil]; omega)) (by first | omega | (rw [List.nil_append]; omega) | (rw [List.length_nil]; omega) | (rw [List.length_append]; omega) | (simp; done) | (simp; omega) | (simp only [List.length_cons, List.length_nil]; omega) | (simp only [List.length_append, List.length_cons, List.length_nil]; omega)) (hX34.size) (fun u38 w39 ho40 hp41 hg42 hw43 => ?_)))
 have hX44 := hX34.write hp41 hg42 ((lo_own ho37))
 have ho45 := ho35.keptA hg42 ha36.symm
 have ha46 : Apart ov2.ownBlock u38.ownBlock := app_ne_own ha36.symm hw43 ho35.lt
 have hm47 : (([]) ++ ws).length = ([]).length + ws.length := List.length_append
 refine qd rfl rfl rfl (r_assign (v := u38) rfl) (qe (s_then (s_seq (c_reg ?_))))
 refine qd rfl rfl rfl (r_move (v := u38) rfl) (qd rfl rfl rfl (r_move (v := (.int .i64 (j : Int))) rfl) (qd rfl rfl rfl (r_move (v := u15) rfl) (qd rfl rfl rfl (r_move (v := (.int .i64 (q9 : Int))) rfl) (qd rfl rfl rfl (run_idx Tryz.underlying22 sz9 (v := u15) rfl rfl hr18 (by omega) (by omega)) (qd rfl rfl rfl (run_load_str (r := (mvW left (ws.getD j ByteArray.empty)).getD q9 ByteArray.empty) rfl ag9 (z := (q9 : Int)) rfl hr18 (Pins.of_le hX44.pins hlek22) (by omega) (by omega)) (qd rfl rfl rfl (run_idx Tryz.underlying22 sz9 (v := u38) rfl rfl ho40.read (by omega) (by omega)) (q0 rfl rfl rfl (o_set (E := eStr) (v := u38) (u := (.string ((mvW left (ws.getD j ByteArray.empty)).getD q9 ByteArray.empty))) (z := (j : Int)) ((mvW left (ws.getD j ByteArray.empty)).getD q9 ByteArray.empty) sz9 rfl rfl rfl rfl hX44.pins ho40 (by omega) (by omega) (fun w48 ho49 hp50 hg51 hz52 => ?_)))))))))
 have hX53 := hX44.write hp50 hg51 ((lo_own ho40))
 have ho54 := ho45.keptA hg51 ha46
 have ho55 : Own eStr 9 GL2 w48 w.heap.size u38 ((([]) ++ ws).set j ((mvW left (ws.getD j ByteArray.empty)).getD q9 ByteArray.empty)) := ho49
 have hm56 : ((([]) ++ ws).set j ((mvW left (ws.getD j ByteArray.empty)).getD q9 ByteArray.empty)).length = (([]) ++ ws).length := List.length_set ..
 refine qe (s_then (c_reg ?_))
 refine qd rfl rfl rfl (r_move (v := ov2) rfl) (qd rfl rfl rfl (r_move (v := u38) rfl) ?_)
 obtain ⟨G57, hle60, hX59, hr58, hf61⟩ := ho55.sealed hX53
 have ho62 := ho54.moreO hle60 hf61 ha46
 refine q1 rfl rfl rfl (o_call (vs := [u38]) Tryz.func27 nm27 rfl rfl rfl ?_)
 refine Calls.mono (l24Join_spec hX59.pins hr58 ⟨by omega, by omega⟩ (set_size (ws := ws) hwz (by omega))) ?_
 rintro _ w64 ⟨G63, rfl, hx65⟩
 refine ⟨_, rfl, ?_⟩
 have hX66 := hX59.tr hx65
 have ho67 := ho62.ext hx65
 refine q1 rfl rfl rfl (o_buildF (E := eStr) (e := 9) [(.string (joinQ ((([]) ++ ws).set j ((mvW left (ws.getD j ByteArray.empty)).getD q9 ByteArray.empty))))] [joinQ ((([]) ++ ws).set j ((mvW left (ws.getD j ByteArray.empty)).getD q9 ByteArray.empty))] Tryz.underlying22 sz9 zr9 (by exact reps1 (by rfl)) (ones1 (by rfl)) rfl rfl rfl rfl (by decide) hX66.pins (fun u68 w69 ho70 hp71 hl72 hk73 => ?_))
 have hX74 := hX66.step hp71 hl72
 have ho75 := ho67.below hl72
 have ho77 : Own eStr 9 G63 w69 w.heap.size u68 ([joinQ ((([]) ++ ws).set j ((mvW left (ws.getD j ByteArray.empty)).getD q9 ByteArray.empty))]) := ho70.weaken hX66.size
 refine q1 rfl rfl rfl (o_append (E := eStr) (v := ov2) (u := u68) 16 Tryz.underlying22 ap9 (by decide) rfl rfl hX74.pins ho75 ho77.src (by first | omega | (rw [List.nil_append]; omega) | (rw [List.length_nil]; omega) | (rw [List.length_append]; omega) | (simp; done) | (simp; omega) | (simp only [List.length_cons, List.length_nil]; omega) | (simp only [List.length_append, List.length_cons, List.length_nil]; omega)) (by first | omega | (rw [List.nil_append]; omega) | (rw [List.length_nil]; omega) | (rw [List.length_append]; omega) | (simp; done) | (simp; omega) | (simp only [List.length_cons, List.length_nil]; omega) | (simp only [List.length_append, List.length_cons, List.length_nil]; omega)) (hX74.size) (fun u78 w79 ho80 hp81 hg82 hw83 => ?_))
 have hX84 := hX74.write hp81 hg82 ((lo_own ho75))
 have hm87 : (os2 ++ ([joinQ ((([]) ++ ws).set j ((mvW left (ws.getD j ByteArray.empty)).getD q9 ByteArray.empty))])).length = os2.length + 1 := List.length_append
 refine qd rfl rfl rfl (r_assign (v := u78) rfl) (qe (s_blkN (s_then (c_reg ?_))))
 refine qd rfl rfl rfl (r_move (v := (.int .i64 (q9 : Int))) rfl) (qd rfl rfl rfl (r_add rfl rfl (by omega)) (qd rfl rfl rfl (r_assign (v := (.int .i64 ((q9 : Int) + 1))) rfl) (qe (s_lopN (⟨_, ?_, _, rfl, _, q9 + 1, u78, os2 ++ [joinQ (ws.set j ((mvW left (ws.getD j ByteArray.empty)).getD q9 ByteArray.empty))], G63, (packS (x := 8) (packS (x := 7) (packS (x := 6) (packS (x := 5) (packS (x := 4) (packS (x := 1) (pack1 (x := 0) rfl) rfl) rfl) rfl) rfl) rfl) rfl), rfl, hX84, (Pin.le_trans (Pin.le_trans hlek22 hle60) hx65.le), (by omega), (in_next9 (f := fun x => joinQ (ws.set j x)) (by omega) hos2), (by simp; omega), ho80⟩)))))
 omega
 refine wp_exit (s_thenE (s_lopE (s_blkE (s_blkN (s_then (c_reg ?_))))))
 refine qd rfl rfl rfl (r_move (v := (.int .i64 (j : Int))) rfl) (qd rfl rfl rfl (r_add rfl rfl (by omega)) (qd rfl rfl rfl (r_assign (v := (.int .i64 ((j : Int) + 1))) rfl) (qe (s_lopN (⟨_, ?_, _, rfl, _, j + 1, ov2, os2, GL2, (packS (x := 6) (packS (x := 5) (packS (x := 4) (packS (x := 1) (pack1 (x := 0) rfl) rfl) rfl) rfl) rfl), rfl, hX25, (Pin.le_trans (Pin.le_trans hlek9 hx19.le) hlek22), (by omega), (stS_next hos hos2 (by omega)), (by omega), hw26⟩)))))
 omega
 refine wp_exit (s_thenE (s_lopE (s_blkE (s_then (s_seq (c_reg ?_))))))
 refine qd rfl rfl rfl (r_move (v := ov) rfl) (qd rfl rfl rfl (r_assign (v := ov) rfl) (qe (s_then ?_)))
 refine wp_ret (s_ret (c_ret1 (v := ov) rfl rfl rfl ?_))
 obtain ⟨G88, hle91, hX90, hr89, hf92⟩ := hw13.sealed hX12
 have hjc : j = ws.length := by omega
 rw [hjc] at hos
 exact ⟨_, _, rfl, (by unfold posS; rw [← hos]; exact hr89), hX90⟩

theorem sPositionMoves_spec {w : World} {G : Pin} {s : ByteArray} {left : Bool} (hP : Pins G w) (hs : s.size ≤ 1048576) :
  Calls Tryz.prog 10 [(.string s), (.bool left)].toArray w fun e w' => ∃ (u : Value) (G' : Pin), e = .returned (.tuple #[u, .bool (psB s)]) ∧ RSl eStr G' u (posF s left) ∧ Ext noS G w G' w' := by
 refine s_enter (n := 18) Tryz.func10 Tryz.ntmps10 rfl rfl ?_
 have hX0 : Ext noS G w G w := Ext.refl hP
 refine s_seq (c_reg ?_)
 refine qd rfl rfl rfl (r_assign (v := (.slice none 0 0)) rfl) (qd rfl rfl rfl (r_assign (v := (.bool false)) rfl) (qe (s_then (s_seq (c_reg ?_)))))
 refine qd rfl rfl rfl (r_move (v := (.string s)) rfl) (q1 rfl rfl rfl (o_call (vs := [(.string s)]) Tryz.func12 nm12 rfl rfl rfl ?_))
 refine Calls.mono (l24Singles_spec (s := s) hX0.pins (by omega)) ?_
 rintro _ w3 ⟨u1, G2, rfl, hr4, hx5⟩
 refine ⟨_, rfl, ?_⟩
 have hX6 := hX0.tr hx5
 have hpa := psF_all (s := s)
 refine qd rfl rfl rfl (r_move (v := (.tuple #[u1, (.bool (psB s))])) rfl) (qd rfl rfl rfl (r_extract (v := u1) rfl rfl) (qd rfl rfl rfl (r_extract (v := (.bool (psB s))) rfl rfl) (qd rfl rfl rfl (r_assign (v := u1) rfl) (qd rfl rfl rfl (r_assign (v := (.bool (psB s))) rfl) (qe (s_then (s_seq (s_seq (c_reg ?_)))))))))
 refine qd rfl rfl rfl (r_move (v := (.bool (psB s))) rfl) (qd rfl rfl rfl (r_not rfl) (qe (s_then ?_)))
 refine c_ifn rfl rfl (fun h7 => ?_) (fun h7 => ?_)
 refine wp_skip (s_then (s_seq (c_reg ?_)))
 refine qd rfl rfl rfl (r_move (v := u1) rfl) (qd rfl rfl rfl (r_move (v := (.bool left)) rfl) (q1 rfl rfl rfl (o_call (vs := [u1, (.bool left)]) Tryz.func18 nm18 rfl rfl rfl ?_)))
 refine Calls.mono (l24Moves_spec (left := left) hX6.pins hr4 hpa.1 hpa.2) ?_
 rintro _ w10 ⟨u8, G9, rfl, hr11, hx12⟩
 refine ⟨_, rfl, ?_⟩
 have hX13 := hX6.tr hx12
 refine qd rfl rfl rfl (r_assign (v := u8) rfl) (qd rfl rfl rfl (r_assign (v := (.bool true)) rfl) (qe (s_then ?_)))
 exact wp_ret (s_ret (c_ret2 (v := u8) (u := (.bool true)) rfl rfl rfl rfl rfl (⟨_, _, (by rw [h7]), hr11, hX13⟩)))
 refine s_seq (c_reg ?_)
 refine qd rfl rfl rfl (r_assign (v := (.slice none 0 0)) rfl) (qd rfl rfl rfl (r_assign (v := (.bool false)) rfl) (qe (s_then ?_)))
 exact wp_ret (s_ret (c_ret2 (v := (.slice none 0 0)) (u := (.bool false)) rfl rfl rfl rfl rfl (⟨_, _, (by rw [h7]), (by rw [posF_no h7]; exact (nil_reads _ _)), hX6⟩)))

end PWA
end Go.Proofs.YtianphgdbfekdaaGreatDoor

set_option maxRecDepth 20000
set_option maxHeartbeats 2000000
namespace Go.Proofs.YtianphgdbfekdaaGreatDoor
namespace LPM
open Go.RowKit Go.GL Go.Proofs
open PWL PW6 PWA





theorem law {w : World} {G : Pin} {s : ByteArray} (hP : Pins G w) (left : Bool) (hM : MxG 0 G) :
  Calls Tryz.prog 4 [(.string s), (.bool left)].toArray w fun e w' => ∃ G', e = .returned (.bool true) ∧ Ext noS G w G' w' := by
 refine s_enter (n := 71) Tryz.func4 Tryz.ntmps4 rfl rfl ?_
 have hX0 : Ext noS G w G w := Ext.refl hP
 have hgl := posF_len (s := s) (left := left)
 refine s_seq (c_reg ?_)
 refine qd rfl rfl rfl (r_assign (v := (.bool false)) rfl) (qe (s_then (s_seq (s_seq (c_reg ?_)))))
 refine qd rfl rfl rfl (r_move (v := (.string s)) rfl) (qd rfl rfl rfl (r_lenS Tryz.underlying9 rfl) (qd rfl rfl rfl (r_gtr rfl rfl) (qe (s_then ?_))))
 refine c_ifd (p := (1048576 : Int) < (s.size : Int)) rfl rfl (fun h1 => ?_) (fun h1 => ?_)
 refine s_seq (c_reg ?_)
 refine qd rfl rfl rfl (r_assign (v := (.bool true)) rfl) (qe (s_then ?_))
 exact wp_ret (s_ret (c_ret1 (v := (.bool true)) rfl rfl rfl (⟨_, rfl, hX0⟩)))
 refine wp_skip (s_then (s_seq (c_reg ?_)))
 refine qd rfl rfl rfl (r_move (v := (.string s)) rfl) (qd rfl rfl rfl (r_move (v := (.bool left)) rfl) (q1 rfl rfl rfl (o_call (vs := [(.string s), (.bool left)]) Tryz.func10 nm10 rfl rfl rfl ?_)))
 refine Calls.mono (sPositionMoves_spec (s := s) (left := left) hX0.pins (by omega)) ?_
 rintro _ w4 ⟨u2, G3, rfl, hr5, hx6⟩
 refine ⟨_, rfl, ?_⟩
 have hX7 := hX0.tr hx6
 refine qd rfl rfl rfl (r_move (v := (.tuple #[u2, (.bool (psB s))])) rfl) (qd rfl rfl rfl (r_extract (v := u2) rfl rfl) (qd rfl rfl rfl (r_extract (v := (.bool (psB s))) rfl rfl) (qd rfl rfl rfl (r_assign (v := u2) rfl) (qd rfl rfl rfl (r_assign (v := (.bool (psB s))) rfl) (qe (s_then (s_seq (c_reg ?_))))))))
 refine qd rfl rfl rfl (r_move (v := (.string s)) rfl) (qd rfl rfl rfl (r_move (v := (.bool left)) rfl) (q1 rfl rfl rfl (o_call (vs := [(.string s), (.bool left)]) Tryz.func11 nm11 rfl rfl rfl ?_)))
 refine Calls.mono (iPositionMoves_spec (s := s) (left := left) hX7.pins (hM.le hx6.le) (by omega)) ?_
 rintro _ w10 ⟨u8, G9, rfl, ho11, hx12⟩
 refine ⟨_, rfl, ?_⟩
 have hX13 := hX7.tr hx12
 have ho14 : Own eStr 9 G9 w10 w.heap.size u8 (posF s left) := ho11.weaken hX7.size
 refine qd rfl rfl rfl (r_move (v := (.tuple #[u8, (.bool (psB s))])) rfl) (qd rfl rfl rfl (r_extract (v := u8) rfl rfl) (qd rfl rfl rfl (r_extract (v := (.bool (psB s))) rfl rfl) (qd rfl rfl rfl (r_assign (v := u8) rfl) (qd rfl rfl rfl (r_assign (v := (.bool (psB s))) rfl) (qe (s_then (s_seq (s_seq (c_reg ?_)))))))))
 refine qd rfl rfl rfl (r_move (v := u8) rfl) (qd rfl rfl rfl (r_move (v := u2) rfl) (q1 rfl rfl rfl (o_call (vs := [u8, u2]) Tryz.func7 nm7 rfl rfl rfl ?_)))
 refine Calls.mono (eqStringS_same (Gadd.pins hX13.pins u8) ho14.read ((hr5.mono hx12.le).mono (Gadd.le _ _ _))) ?_
 rintro _ w15 ⟨rfl, hx16⟩
 refine ⟨_, rfl, ?_⟩
 have hX17 := hX13.step (hX13.pins.below hx16.below) hx16.below
 have ho18 := ho14.below hx16.below
 refine qd rfl rfl rfl (r_not rfl) (qd rfl rfl rfl (r_move (v := (.bool false)) rfl) (qdg rfl rfl rfl rfl rfl rfl (r_move (v := (.bool (psB s))) rfl) (qdg rfl rfl rfl rfl rfl rfl (r_move (v := (.bool (psB s))) rfl) (qdg rfl rfl rfl rfl rfl rfl (r_neqB_same Tryz.underlying4 rfl rfl) (qd rfl rfl rfl (r_pickF (v := (.bool false)) rfl rfl) (qe (s_then ?_)))))))
 refine c_ifF rfl rfl (wp_skip (s_then (s_seq (c_reg ?_))))
 refine qd rfl rfl rfl (r_assign (v := (.int .i64 1)) rfl) (qe (s_then (s_seq (c_reg ?_))))
 refine qd rfl rfl rfl (r_move (v := u8) rfl) (qd rfl rfl rfl (r_move (v := (.int .i64 1)) rfl) ?_)
 have hlo23 : Lo w noS u8.ownBlock := (lo_own ho18)
 refine q1 rfl rfl rfl (o_call (vs := [u8, (.int .i64 1)]) Tryz.func8 nm8 rfl rfl rfl ?_)
 refine Calls.mono (markStringS_spec hX17.pins (ho18.weaken (Nat.zero_le _)) (by omega) (by omega)) ?_
 rintro _ w19 ⟨rfl, ho20, hx21⟩
 refine ⟨_, rfl, ?_⟩
 have hx22 := inV_O9 hx21
 have hX24 := hX17.trans hx22 (fun i hi => hlo23 i hi)
 have ho25 := ho20.up (lo := w.heap.size) (fun k hk => (hlo23 k hk).elim id (fun h => h.elim))
 refine qd rfl rfl rfl (r_assign (v := (.int .i64 (1 + ((posF s left).length : Int)))) rfl) (qe (s_then (s_seq (c_reg ?_))))
 refine qd rfl rfl rfl (r_assign (v := (.int .i64 1)) rfl) (qe (s_then (s_seq (c_reg ?_))))
 refine qd rfl rfl rfl (r_move (v := u8) rfl) (qd rfl rfl rfl (r_move (v := (.int .i64 1)) rfl) ?_)
 obtain ⟨G26, hle29, hX28, hr27, hf30⟩ := ho25.sealed hX24
 refine q1 rfl rfl rfl (o_call (vs := [u8, (.int .i64 1)]) Tryz.func9 nm9 rfl rfl rfl ?_)
 refine Calls.mono (heldStringS_spec (n := (posF s left).length) (kz := 1) hX28.pins hr27 (by omega) (by omega)) ?_
 rintro _ w31 ⟨rfl, hx32⟩
 refine ⟨_, rfl, ?_⟩
 have hX33 := hX28.step hx32.pins hx32.below
 refine qd rfl rfl rfl (r_assign (v := (.int .i64 (1 + ((posF s left).length : Int)))) rfl) (qe (s_then (s_seq (s_seq (c_reg ?_)))))
 refine qd rfl rfl rfl (r_move (v := (.int .i64 (1 + ((posF s left).length : Int)))) rfl) (qd rfl rfl rfl (r_lss rfl rfl) (qe (s_then ?_)))
 refine c_ifd (p := (1 + ((posF s left).length : Int) : Int) < 0) rfl rfl (fun h34 => ?_) (fun h34 => ?_)
 refine s_seq (c_reg ?_)
 refine qd rfl rfl rfl (r_assign (v := (.bool false)) rfl) (qe (s_then ?_))
 refine wp_ret (s_ret (c_ret1 (v := (.bool false)) rfl rfl rfl ?_))
 exfalso
 first | omega | simp_all
 refine wp_skip (s_then (s_seq (s_seq (c_reg ?_))))
 refine qd rfl rfl rfl (r_move (v := (.int .i64 (1 + ((posF s left).length : Int)))) rfl) (qd rfl rfl rfl (r_move (v := (.int .i64 (1 + ((posF s left).length : Int)))) rfl) (qd rfl rfl rfl (r_neq rfl rfl) (qe (s_then ?_))))
 refine c_ifd (p := (1 + ((posF s left).length : Int) : Int) ≠ (1 + ((posF s left).length : Int))) rfl rfl (fun h35 => ?_) (fun h35 => ?_)
 refine s_seq (c_reg ?_)
 refine qd rfl rfl rfl (r_assign (v := (.bool false)) rfl) (qe (s_then ?_))
 refine wp_ret (s_ret (c_ret1 (v := (.bool false)) rfl rfl rfl ?_))
 exfalso
 first | omega | simp_all
 refine wp_skip (s_then (s_seq (c_reg ?_)))
 refine qd rfl rfl rfl (r_move (v := (.string s)) rfl) (qd rfl rfl rfl (r_move (v := (.bool left)) rfl) (q1 rfl rfl rfl (o_call (vs := [(.string s), (.bool left)]) Tryz.func11 nm11 rfl rfl rfl ?_)))
 refine Calls.mono (iPositionMoves_spec (s := s) (left := left) hX33.pins (hM.le (Pin.le_trans (Pin.le_trans hx6.le hx12.le) hle29)) (by omega)) ?_
 rintro _ w38 ⟨u36, G37, rfl, ho39, hx40⟩
 refine ⟨_, rfl, ?_⟩
 have hX41 := hX33.tr hx40
 have ho42 : Own eStr 9 G37 w38 w.heap.size u36 (posF s left) := ho39.weaken hX33.size
 refine qd rfl rfl rfl (r_move (v := (.tuple #[u36, (.bool (psB s))])) rfl) (qd rfl rfl rfl (r_extract (v := u36) rfl rfl) (qd rfl rfl rfl (r_extract (v := (.bool (psB s))) rfl rfl) (qd rfl rfl rfl (r_assign (v := u36) rfl) (qd rfl rfl rfl (r_assign (v := (.bool (psB s))) rfl) (qe (s_then (s_seq (s_seq (c_reg ?_)))))))))
 refine qd rfl rfl rfl (r_move (v := u36) rfl) (qd rfl rfl rfl (r_move (v := u2) rfl) (q1 rfl rfl rfl (o_call (vs := [u36, u2]) Tryz.func7 nm7 rfl rfl rfl ?_)))
 refine Calls.mono (eqStringS_same (Gadd.pins hX41.pins u36) ho42.read ((hr5.mono (Pin.le_trans (Pin.le_trans hx12.le hle29) hx40.le)).mono (Gadd.le _ _ _))) ?_
 rintro _ w43 ⟨rfl, hx44⟩
 refine ⟨_, rfl, ?_⟩
 have hX45 := hX41.step (hX41.pins.below hx44.below) hx44.below
 refine qd rfl rfl rfl (r_not rfl) (qd rfl rfl rfl (r_move (v := (.bool false)) rfl) (qdg rfl rfl rfl rfl rfl rfl (r_move (v := (.bool (psB s))) rfl) (qdg rfl rfl rfl rfl rfl rfl (r_move (v := (.bool (psB s))) rfl) (qdg rfl rfl rfl rfl rfl rfl (r_neqB_same Tryz.underlying4 rfl rfl) (qd rfl rfl rfl (r_pickF (v := (.bool false)) rfl rfl) (qe (s_then ?_)))))))
 refine c_ifF rfl rfl (wp_skip (s_then (s_seq (c_reg ?_))))
 refine qd rfl rfl rfl (r_assign (v := (.int .i64 1)) rfl) (qe (s_then (s_seq (c_reg ?_))))
 refine qd rfl rfl rfl (r_move (v := u8) rfl) (qd rfl rfl rfl (r_move (v := (.int .i64 1)) rfl) (q1 rfl rfl rfl (o_call (vs := [u8, (.int .i64 1)]) Tryz.func9 nm9 rfl rfl rfl ?_)))
 refine Calls.mono (heldStringS_spec (n := (posF s left).length) (kz := 1) hX45.pins (hr27.mono hx40.le) (by omega) (by omega)) ?_
 rintro _ w47 ⟨rfl, hx48⟩
 refine ⟨_, rfl, ?_⟩
 have hX49 := hX45.step hx48.pins hx48.below
 refine qd rfl rfl rfl (r_assign (v := (.int .i64 (1 + ((posF s left).length : Int)))) rfl) (qe (s_then (s_seq (s_seq (c_reg ?_)))))
 refine qd rfl rfl rfl (r_move (v := (.int .i64 (1 + ((posF s left).length : Int)))) rfl) (qd rfl rfl rfl (r_lss rfl rfl) (qe (s_then ?_)))
 refine c_ifd (p := (1 + ((posF s left).length : Int) : Int) < 0) rfl rfl (fun h => absurd h h34) (fun _ => ?_)
 refine wp_skip (s_then (s_seq (s_seq (c_reg ?_))))
 refine qd rfl rfl rfl (r_move (v := (.int .i64 (1 + ((posF s left).length : Int)))) rfl) (qd rfl rfl rfl (r_move (v := (.int .i64 (1 + ((posF s left).length : Int)))) rfl) (qd rfl rfl rfl (r_neq rfl rfl) (qe (s_then ?_))))
 refine c_ifd (p := (1 + ((posF s left).length : Int) : Int) ≠ (1 + ((posF s left).length : Int))) rfl rfl (fun h => absurd h h35) (fun _ => ?_)
 refine wp_skip (s_then (s_seq (c_reg ?_)))
 refine qd rfl rfl rfl (r_assign (v := (.bool true)) rfl) (qe (s_then ?_))
 exact wp_ret (s_ret (c_ret1 (v := (.bool true)) rfl rfl rfl (⟨_, rfl, hX49⟩)))

end LPM
end Go.Proofs.YtianphgdbfekdaaGreatDoor
