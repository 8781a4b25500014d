/- Texts of this claim in one file: PW7, PW8, Wide, PS6, PS7, PS8, PS9, RM6. -/
import Derived.Test.YtianphgdbfekdaaGreatDoorPp5
import Derived.Test.YtianphgdbfekdaaGreatDoorChecked
set_option maxRecDepth 20000
set_option maxHeartbeats 2000000
namespace Go.Proofs.YtianphgdbfekdaaGreatDoor
namespace PW7
open Go.RowKit Go.GL Go.Proofs
open PT3 PTB PW1 PW2 PW3















theorem verbs_spec {w : World} {G : Pin} (hP : Pins G w) :
  Calls Tryz.prog 38 [].toArray w fun e w' => ∃ (u : Value) (G' : Pin), e = .returned u ∧ RSl eStr G' u (VB) ∧ Ext noS G w G' w' := by
 refine s_enter (n := 2) Tryz.func38 Tryz.ntmps38 rfl rfl ?_
 have hX0 : Ext noS G w G w := Ext.refl hP
 refine s_seq (c_reg ?_)
 refine qd rfl rfl rfl (r_assign (v := (.slice none 0 0)) rfl) (qe (s_then (s_seq (c_reg ?_))))
 refine q1 rfl rfl rfl (o_buildF (E := eStr) (e := 9) [(.string (⟨#[116, 111, 97, 100, 115]⟩ : ByteArray)), (.string (⟨#[99, 108, 111, 98]⟩ : ByteArray)), (.string (⟨#[117, 110, 108, 105, 107, 101]⟩ : ByteArray)), (.string (⟨#[97, 108, 105, 107, 101]⟩ : ByteArray)), (.string (⟨#[100, 111, 109]⟩ : ByteArray)), (.string (⟨#[115, 116, 97, 108, 107]⟩ : ByteArray)), (.string (⟨#[110, 105, 109]⟩ : ByteArray))] [(⟨#[116, 111, 97, 100, 115]⟩ : ByteArray), (⟨#[99, 108, 111, 98]⟩ : ByteArray), (⟨#[117, 110, 108, 105, 107, 101]⟩ : ByteArray), (⟨#[97, 108, 105, 107, 101]⟩ : ByteArray), (⟨#[100, 111, 109]⟩ : ByteArray), (⟨#[115, 116, 97, 108, 107]⟩ : ByteArray), (⟨#[110, 105, 109]⟩ : ByteArray)] Tryz.underlying22 sz9 zr9 (repsC (by rfl) (repsC (by rfl) (repsC (by rfl) (repsC (by rfl) (repsC (by rfl) (repsC (by rfl) (repsC (by rfl) repsN))))))) (onesC (by rfl) (onesC (by rfl) (onesC (by rfl) (onesC (by rfl) (onesC (by rfl) (onesC (by rfl) (onesC (by rfl) onesN))))))) rfl rfl rfl rfl (by decide) hX0.pins (fun u1 w2 ho3 hp4 hl5 hk6 => ?_))
 have hX7 := hX0.step hp4 hl5
 have ho8 : Own eStr 9 G w2 w.heap.size u1 ([(⟨#[116, 111, 97, 100, 115]⟩ : ByteArray), (⟨#[99, 108, 111, 98]⟩ : ByteArray), (⟨#[117, 110, 108, 105, 107, 101]⟩ : ByteArray), (⟨#[97, 108, 105, 107, 101]⟩ : ByteArray), (⟨#[100, 111, 109]⟩ : ByteArray), (⟨#[115, 116, 97, 108, 107]⟩ : ByteArray), (⟨#[110, 105, 109]⟩ : ByteArray)]) := ho3.weaken hX0.size
 refine qd rfl rfl rfl (r_assign (v := u1) rfl) (qe (s_then ?_))
 refine wp_ret (s_ret (c_ret1 (v := u1) rfl rfl rfl ?_))
 obtain ⟨G9, hle12, hX11, hr10, hf13⟩ := ho8.sealed hX7
 exact ⟨_, _, rfl, hr10, hX11⟩

theorem l24Cut_spec {w : World} {G : Pin} {s : ByteArray} (hP : Pins G w) (hs : s.size ≤ 1048576) :
  Calls Tryz.prog 30 [(.string s)].toArray w fun e w' => ∃ G', e = .returned (.tuple #[.int .i64 (kdI s), .string (tlB s)]) ∧ Ext noS G w G' w' := by
 refine s_enter (n := 44) Tryz.func30 Tryz.ntmps30 rfl rfl ?_
 have hX0 : Ext noS G w G w := Ext.refl hP
 have hvl : VB.length = 7 := rfl
 refine s_seq (c_reg ?_)
 refine qd rfl rfl rfl (r_assign (v := (.int .i64 0)) rfl) (qd rfl rfl rfl (r_assign (v := (.string (⟨#[]⟩ : ByteArray))) rfl) (qe (s_then (s_seq (c_reg ?_)))))
 refine q1 rfl rfl rfl (o_call (vs := []) Tryz.func38 nm38 rfl rfl rfl ?_)
 refine Calls.mono (verbs_spec hX0.pins) ?_
 rintro _ w3 ⟨u1, G2, rfl, hr4, hx5⟩
 refine ⟨_, rfl, ?_⟩
 have hX6 := hX0.tr hx5
 refine qd rfl rfl rfl (r_assign (v := u1) rfl) (qe (s_then (s_seq (s_seq (c_reg ?_)))))
 refine qd rfl rfl rfl (r_assign (v := (.int .i64 0)) rfl) (qe (s_then ?_))
 refine s_blk (s_loop (fun (k : Nat) (en : Nat → Value) (W : World) => ∃ (env1 : Nat → Value) (i9 : Nat) (GL1 : Pin), en = (upd (upd (upd env1 0 (.string s)) 4 u1) 5 (.int .i64 (i9 : Int))) ∧ k = 7 - i9 ∧ Ext noS G w GL1 W ∧ Pin.le G2 GL1 ∧ (i9 ≤ 7) ∧ (∀ j, j < i9 → ¬ HitV s j)) _ ⟨_, 0, G2, (packS (x := 5) (packS (x := 4) (pack1 (x := 0) rfl) rfl) rfl), rfl, hX6, Pin.le_refl _, Nat.zero_le _, all_none⟩ ?_)
 rintro k7 _ w8 ⟨env1, i9, GL1, rfl, hk9, hX10, hlek7, hi, hno⟩
 refine s_seq (s_seq (c_reg ?_))
 refine qd rfl rfl rfl (r_move (v := (.int .i64 (i9 : Int))) rfl) (qd rfl rfl rfl (r_move (v := u1) rfl) (qd rfl rfl rfl (run_len Tryz.underlying22 (v := u1) rfl hr4) (qd rfl rfl rfl (r_lss rfl rfl) (qe (s_then ?_)))))
 refine c_ifd (p := ((i9 : Int) : Int) < (VB.length : Int)) rfl rfl (fun h11 => ?_) (fun h11 => ?_)
 refine wp_skip (s_then (s_seq ?_))
 refine s_blk (s_seq (c_reg ?_))
 refine qd rfl rfl rfl (r_move (v := u1) rfl) (qd rfl rfl rfl (r_move (v := (.int .i64 (i9 : Int))) rfl) (qd rfl rfl rfl (run_idx Tryz.underlying22 sz9 (v := u1) rfl rfl hr4 (by omega) (by omega)) (qd rfl rfl rfl (run_load_str (r := VB.getD i9 ByteArray.empty) rfl ag9 (z := (i9 : Int)) rfl hr4 (Pins.of_le hX10.pins hlek7) (by omega) (by omega)) (qd rfl rfl rfl (r_lenS Tryz.underlying9 rfl) (qd rfl rfl rfl (r_assign (v := (.int .i64 ((VB.getD i9 ByteArray.empty).size : Int))) rfl) (qe (s_then (s_seq ?_))))))))
 refine c_draw (S := fun wz => Pins GL1 wz) (last := 20) (by kernel_rfl) rfl ?_
 have hl12 : Below w8.heap.size w8 w8.drew := (Below.refl _ _).drew
 have hp13 := hX10.pins.below hl12
 have hX14 := hX10.step hp13 hl12
 refine dr_take (i := 0) rfl rfl rfl (want_none rfl _) (by kernel_rfl) (fun _ _ => r_move (v := (.string s)) rfl) hX14.pins (dr_take (i := 1) rfl rfl rfl (want_none rfl _) (by kernel_rfl) (fun _ _ => r_lenS Tryz.underlying9 rfl) hX14.pins (dr_take (i := 2) rfl rfl rfl (want_none rfl _) (by kernel_rfl) (fun _ _ => r_move (v := (.int .i64 ((VB.getD i9 ByteArray.empty).size : Int))) rfl) hX14.pins (dr_take (i := 3) rfl rfl rfl (want_none rfl _) (by kernel_rfl) (fun _ _ => r_gtr rfl rfl) hX14.pins (dr_take (i := 4) rfl rfl rfl (want_none rfl _) (by kernel_rfl) (fun _ _ => r_move (v := (.bool (decide ((((VB.getD i9 ByteArray.empty).size : Int) : Int) < (s.size : Int))))) rfl) hX14.pins (drbd (p := (((VB.getD i9 ByteArray.empty).size : Int) : Int) < (s.size : Int)) (t := 23) rfl (fun h15 => ?_) (fun h15 => ?_))))))
 refine dr_take (i := 5) rfl rfl rfl (want_yes rfl rfl rfl rfl) (by kernel_rfl) (fun _ _ => r_move (v := (.string s)) rfl) hX14.pins (dr_take (i := 6) rfl rfl rfl (want_yes rfl rfl rfl rfl) (by kernel_rfl) (fun _ _ => r_move (v := (.int .i64 ((VB.getD i9 ByteArray.empty).size : Int))) rfl) hX14.pins ?_)
 have hm16 : (s.extract 0 ((VB.getD i9 ByteArray.empty).size)).size = min ((VB.getD i9 ByteArray.empty).size) s.size - 0 := ByteArray.size_extract
 refine dr_take (i := 7) rfl rfl rfl (want_yes rfl rfl rfl rfl) (by kernel_rfl) (fun _ _ => r_cutS Tryz.underlying9 rfl rfl (by omega) (by omega)) hX14.pins (dr_take (i := 8) rfl rfl rfl (want_yes rfl rfl rfl rfl) (by kernel_rfl) (fun _ _ => r_move (v := u1) rfl) hX14.pins (dr_take (i := 9) rfl rfl rfl (want_yes rfl rfl rfl rfl) (by kernel_rfl) (fun _ _ => r_move (v := (.int .i64 (i9 : Int))) rfl) hX14.pins (dr_take (i := 10) rfl rfl rfl (want_yes rfl rfl rfl rfl) (by kernel_rfl) (fun _ _ => run_idx Tryz.underlying22 sz9 (v := u1) rfl rfl hr4 (by omega) (by omega)) hX14.pins (dr_take (i := 11) rfl rfl rfl (want_yes rfl rfl rfl rfl) (by kernel_rfl) (fun _ hS => run_load_str (r := VB.getD i9 ByteArray.empty) rfl ag9 (z := (i9 : Int)) rfl hr4 (Pins.of_le hS hlek7) (by omega) (by omega)) hX14.pins (dr_take (i := 12) rfl rfl rfl (want_yes rfl rfl rfl rfl) (by kernel_rfl) (fun _ _ => r_eqlS rfl rfl) hX14.pins (dr_take (i := 13) rfl rfl rfl (want_none rfl _) (by kernel_rfl) (fun _ _ => r_pickT (v := (.bool ((s.extract 0 ((VB.getD i9 ByteArray.empty).size)).toList == (VB.getD i9 ByteArray.empty).toList))) rfl rfl) hX14.pins (dr_take (i := 14) rfl rfl rfl (want_none rfl _) (by kernel_rfl) (fun _ _ => r_move (v := (.bool ((s.extract 0 ((VB.getD i9 ByteArray.empty).size)).toList == (VB.getD i9 ByteArray.empty).toList))) rfl) hX14.pins (drb (t := 33) rfl (fun h17 => ?_) (fun h17 => ?_)))))))))
 refine dr_take (i := 15) rfl rfl rfl (want_yes rfl rfl rfl rfl) (by kernel_rfl) (fun _ _ => r_move (v := (.string s)) rfl) hX14.pins (dr_take (i := 16) rfl rfl rfl (want_yes rfl rfl rfl rfl) (by kernel_rfl) (fun _ _ => r_move (v := (.int .i64 ((VB.getD i9 ByteArray.empty).size : Int))) rfl) hX14.pins (dr_take (i := 17) rfl rfl rfl (want_yes rfl rfl rfl rfl) (by kernel_rfl) (fun _ _ => r_idxB Tryz.underlying9 rfl rfl (by omega) (by omega)) hX14.pins (dr_take (i := 18) rfl rfl rfl (want_yes rfl rfl rfl rfl) (by kernel_rfl) (fun _ _ => r_eql rfl rfl) hX14.pins (dr_take (i := 19) rfl rfl rfl (want_none rfl _) (by kernel_rfl) (fun _ _ => r_pickT (v := (.bool (decide ((((sB s ((VB.getD i9 ByteArray.empty).size)).toNat : Int) : Int) = 32)))) rfl rfl) hX14.pins (dr_end (by kernel_rfl) (s_then (c_ifd (p := (((sB s ((VB.getD i9 ByteArray.empty).size)).toNat : Int) : Int) = 32) rfl rfl (fun h18 => ?_) (fun h18 => ?_))))))))
 refine s_seq (c_draw (S := fun wz => Pins GL1 wz) (last := 7) (by kernel_rfl) rfl ?_)
 have hl19 : Below w8.drew.heap.size w8.drew w8.drew.drew := (Below.refl _ _).drew
 have hp20 := hX14.pins.below hl19
 have hX21 := hX14.step hp20 hl19
 refine dr_take (i := 0) rfl rfl rfl (want_none rfl _) (by kernel_rfl) (fun _ _ => r_move (v := (.int .i64 (i9 : Int))) rfl) hX21.pins (dr_take (i := 1) rfl rfl rfl (want_none rfl _) (by kernel_rfl) (fun _ _ => r_move (v := (.string s)) rfl) hX21.pins (dr_take (i := 2) rfl rfl rfl (want_none rfl _) (by kernel_rfl) (fun _ _ => r_move (v := (.int .i64 ((VB.getD i9 ByteArray.empty).size : Int))) rfl) hX21.pins (dr_take (i := 3) rfl rfl rfl (want_none rfl _) (by kernel_rfl) (fun _ _ => r_add rfl rfl (by omega)) hX21.pins ?_)))
 have hm22 : (s.extract (((VB.getD i9 ByteArray.empty).size : Int) + 1).toNat s.size).size = min s.size s.size - (((VB.getD i9 ByteArray.empty).size : Int) + 1).toNat := ByteArray.size_extract
 refine dr_take (i := 4) rfl rfl rfl (want_none rfl _) (by kernel_rfl) (fun _ _ => r_cutL Tryz.underlying9 rfl rfl (by omega) (by omega)) hX21.pins (dr_take (i := 5) rfl rfl rfl (want_none rfl _) (by kernel_rfl) (fun _ _ => r_assign (v := (.int .i64 (i9 : Int))) rfl) hX21.pins (dr_take (i := 6) rfl rfl rfl (want_none rfl _) (by kernel_rfl) (fun _ _ => r_assign (v := (.string (s.extract (((VB.getD i9 ByteArray.empty).size : Int) + 1).toNat s.size))) rfl) hX21.pins (dr_end (by kernel_rfl) (s_then (wp_ret (s_ret (c_ret2 (v := (.int .i64 (i9 : Int))) (u := (.string (s.extract (((VB.getD i9 ByteArray.empty).size : Int) + 1).toNat s.size))) rfl rfl rfl rfl rfl ?_)))))))
 obtain ⟨k1, k2⟩ := hit_y (w := s) (i := i9) (by omega) (by omega) h17 (by omega)
 have e9 : (((VB.getD i9 ByteArray.empty).size : Int) + 1).toNat = (VB.getD i9 ByteArray.empty).size + 1 := by omega
 exact ⟨_, (by rw [k1, k2, e9]), hX21⟩
 refine wp_skip (s_blkN (s_then (c_reg ?_)))
 refine qd rfl rfl rfl (r_move (v := (.int .i64 (i9 : Int))) rfl) (qd rfl rfl rfl (r_add rfl rfl (by omega)) (qd rfl rfl rfl (r_assign (v := (.int .i64 ((i9 : Int) + 1))) rfl) (qe (s_lopN (⟨_, ?_, _, rfl, _, i9 + 1, GL1, (packS (x := 5) (packS (x := 4) (pack1 (x := 0) rfl) rfl) rfl), rfl, hX14, hlek7, (by omega), (all_next hno (fun g => by have := (hitV_is g).2.2; omega))⟩)))))
 omega
 refine dr_skip (i := 15) rfl rfl (want_no rfl rfl rfl rfl rfl) (by kernel_rfl) hX14.pins (dr_skip (i := 16) rfl rfl (want_no rfl rfl rfl rfl rfl) (by kernel_rfl) hX14.pins (dr_skip (i := 17) rfl rfl (want_no rfl rfl rfl rfl rfl) (by kernel_rfl) hX14.pins (dr_skip (i := 18) rfl rfl (want_no rfl rfl rfl rfl rfl) (by kernel_rfl) hX14.pins (dr_take (i := 19) rfl rfl rfl (want_none rfl _) (by kernel_rfl) (fun _ _ => r_pickF (v := (.bool false)) rfl rfl) hX14.pins (dr_end (by kernel_rfl) (s_then (c_ifF rfl rfl (wp_skip (s_blkN (s_then (c_reg ?_)))))))))))
 refine qd rfl rfl rfl (r_move (v := (.int .i64 (i9 : Int))) rfl) (qd rfl rfl rfl (r_add rfl rfl (by omega)) (qd rfl rfl rfl (r_assign (v := (.int .i64 ((i9 : Int) + 1))) rfl) (qe (s_lopN (⟨_, ?_, _, rfl, _, i9 + 1, GL1, (packS (x := 5) (packS (x := 4) (pack1 (x := 0) rfl) rfl) rfl), rfl, hX14, hlek7, (by omega), (all_next hno (fun g => by have := (hitV_is g).2.1; exact absurd (h17.symm.trans this) (by decide)))⟩)))))
 omega
 refine dr_skip (i := 5) rfl rfl (want_no rfl rfl rfl rfl rfl) (by kernel_rfl) hX14.pins (dr_skip (i := 6) rfl rfl (want_no rfl rfl rfl rfl rfl) (by kernel_rfl) hX14.pins (dr_skip (i := 7) rfl rfl (want_no rfl rfl rfl rfl rfl) (by kernel_rfl) hX14.pins (dr_skip (i := 8) rfl rfl (want_no rfl rfl rfl rfl rfl) (by kernel_rfl) hX14.pins (dr_skip (i := 9) rfl rfl (want_no rfl rfl rfl rfl rfl) (by kernel_rfl) hX14.pins (dr_skip (i := 10) rfl rfl (want_no rfl rfl rfl rfl rfl) (by kernel_rfl) hX14.pins (dr_skip (i := 11) rfl rfl (want_no rfl rfl rfl rfl rfl) (by kernel_rfl) hX14.pins (dr_skip (i := 12) rfl rfl (want_no rfl rfl rfl rfl rfl) (by kernel_rfl) hX14.pins (dr_take (i := 13) rfl rfl rfl (want_none rfl _) (by kernel_rfl) (fun _ _ => r_pickF (v := (.bool false)) rfl rfl) hX14.pins (dr_take (i := 14) rfl rfl rfl (want_none rfl _) (by kernel_rfl) (fun _ _ => r_move (v := (.bool false)) rfl) hX14.pins (dr_skip (i := 15) rfl rfl (want_no rfl rfl rfl rfl rfl) (by kernel_rfl) hX14.pins (dr_skip (i := 16) rfl rfl (want_no rfl rfl rfl rfl rfl) (by kernel_rfl) hX14.pins (dr_skip (i := 17) rfl rfl (want_no rfl rfl rfl rfl rfl) (by kernel_rfl) hX14.pins (dr_skip (i := 18) rfl rfl (want_no rfl rfl rfl rfl rfl) (by kernel_rfl) hX14.pins (dr_take (i := 19) rfl rfl rfl (want_none rfl _) (by kernel_rfl) (fun _ _ => r_pickF (v := (.bool false)) rfl rfl) hX14.pins (dr_end (by kernel_rfl) (s_then (c_ifF rfl rfl (wp_skip (s_blkN (s_then (c_reg ?_)))))))))))))))))))))
 refine qd rfl rfl rfl (r_move (v := (.int .i64 (i9 : Int))) rfl) (qd rfl rfl rfl (r_add rfl rfl (by omega)) (qd rfl rfl rfl (r_assign (v := (.int .i64 ((i9 : Int) + 1))) rfl) (qe (s_lopN (⟨_, ?_, _, rfl, _, i9 + 1, GL1, (packS (x := 5) (packS (x := 4) (pack1 (x := 0) rfl) rfl) rfl), rfl, hX14, hlek7, (by omega), (all_next hno (fun g => by have := (hitV_is g).1; omega))⟩)))))
 omega
 refine wp_exit (s_thenE (s_lopE (s_blkE (s_then (s_seq (c_reg ?_))))))
 refine qd rfl rfl rfl (r_assign (v := (.int .i64 (-1))) rfl) (qd rfl rfl rfl (r_assign (v := (.string (⟨#[]⟩ : ByteArray))) rfl) (qe (s_then ?_)))
 refine wp_ret (s_ret (c_ret2 (v := (.int .i64 (-1))) (u := (.string (⟨#[]⟩ : ByteArray))) rfl rfl rfl rfl rfl ?_))
 obtain ⟨k1, k2⟩ := kd_none (fun j hj => hno j (by omega))
 exact ⟨_, (by rw [k1, k2]), hX10⟩

theorem l1ReadX_spec {w : World} {G : Pin} {s : ByteArray} (hP : Pins G w) (hs : s.size ≤ 1048576) :
  Calls Tryz.prog 35 [(.string s)].toArray w fun e w' => ∃ (n : Int) (ok : Bool) (G' : Pin), e = .returned (.tuple #[.int .i64 n, .bool ok]) ∧ RdN s n ok ∧ (ok = true → numT n = s) ∧ Ext noS G w G' w' := by
 refine s_enter (n := 58) Tryz.func35 Tryz.ntmps35 rfl rfl ?_
 have hX0 : Ext noS G w G w := Ext.refl hP
 refine s_seq (c_reg ?_)
 refine qd rfl rfl rfl (r_assign (v := (.int .i64 0)) rfl) (qd rfl rfl rfl (r_assign (v := (.bool false)) rfl) (qe (s_then (s_seq (c_reg ?_)))))
 refine qd rfl rfl rfl (r_move (v := (.string s)) rfl) (qd rfl rfl rfl (r_assign (v := (.string s)) rfl) (qe (s_then (s_seq (s_seq (c_reg ?_))))))
 refine qd rfl rfl rfl (r_move (v := (.string s)) rfl) (qd rfl rfl rfl (r_lenS Tryz.underlying9 rfl) (qd rfl rfl rfl (r_gtr rfl rfl) (qd rfl rfl rfl (r_move (v := (.bool (decide ((1 : Int) < (s.size : Int))))) rfl) (qbd (p := (1 : Int) < (s.size : Int)) (t := 11) rfl (fun h1 => ?_) (fun h1 => ?_)))))
 refine qdg rfl rfl rfl rfl rfl rfl (r_move (v := (.string s)) rfl) (qdg rfl rfl rfl rfl rfl rfl (r_idxB Tryz.underlying9 rfl rfl (by omega) (by omega)) (qdg rfl rfl rfl rfl rfl rfl (r_eql rfl rfl) (qd rfl rfl rfl (r_pickT (v := (.bool (decide ((((sB s 0).toNat : Int) : Int) = 45)))) rfl rfl) (qe (s_then ?_)))))
 refine c_ifd (p := (((sB s 0).toNat : Int) : Int) = 45) rfl rfl (fun h2 => ?_) (fun h2 => ?_)
 refine c_reg (qd rfl rfl rfl (r_move (v := (.string s)) rfl) ?_)
 have hm3 : (s.extract 1 s.size).size = min s.size s.size - 1 := ByteArray.size_extract
 refine qd rfl rfl rfl (r_cutL Tryz.underlying9 rfl rfl (by omega) (by omega)) (qd rfl rfl rfl (r_assign (v := (.string (s.extract 1 s.size))) rfl) (qe (s_then (s_seq (s_seq (c_reg ?_))))))
 refine qd rfl rfl rfl (r_move (v := (.string (s.extract 1 s.size))) rfl) (qd rfl rfl rfl (r_lenS Tryz.underlying9 rfl) (q1 rfl rfl rfl (o_call (vs := [(.int .i64 ((s.extract 1 s.size).size : Int)), (.int .i64 1), (.int .i64 6)]) Tryz.func36 nm36 rfl rfl rfl ?_)))
 refine Calls.mono (l1InQ_spec hX0.pins) ?_
 rintro _ w5 ⟨G4, rfl, hx6⟩
 refine ⟨_, rfl, ?_⟩
 have hX7 := hX0.tr hx6
 refine qd rfl rfl rfl (r_not rfl) (qe (s_then ?_))
 refine c_ifn rfl rfl (fun h8 => ?_) (fun h8 => ?_)
 replace h8 := of_decide_eq_true h8
 refine wp_skip (s_then (s_seq (c_reg ?_)))
 refine qd rfl rfl rfl (r_assign (v := (.int .i64 0)) rfl) (qe (s_then (s_seq (s_seq (c_reg ?_)))))
 refine qd rfl rfl rfl (r_assign (v := (.int .i64 0)) rfl) (qe (s_then ?_))
 refine s_blk (s_loop (fun (k : Nat) (en : Nat → Value) (W : World) => ∃ (env1 : Nat → Value) (j : Nat) (n9 : Int) (GL1 : Pin), en = (upd (upd (upd (upd env1 0 (.string s)) 4 (.string (s.extract 1 s.size))) 5 (.int .i64 n9)) 6 (.int .i64 (j : Int))) ∧ k = (s.extract 1 s.size).size - j ∧ Ext noS G w GL1 W ∧ Pin.le G4 GL1 ∧ (j ≤ (s.extract 1 s.size).size) ∧ (RdD s (s.extract 1 s.size) j n9) ∧ (0 ≤ n9 ∧ n9 < pw10 j)) _ ⟨_, 0, 0, G4, (packS (x := 6) (packS (x := 5) (packS (x := 4) (pack1 (x := 0) rfl) rfl) rfl) rfl), rfl, hX7, Pin.le_refl _, Nat.zero_le _, (rdd_neg (by omega) h2), (by show (0:Int) ≤ 0 ∧ (0:Int) < 1; omega)⟩ ?_)
 rintro k9 _ w10 ⟨env1, j, n9, GL1, rfl, hk11, hX12, hlek9, hj, hrd, hn9⟩
 have hpj := pw10_le (k := j) (by omega)
 refine s_seq (s_seq (c_reg ?_))
 refine qd rfl rfl rfl (r_move (v := (.int .i64 (j : Int))) rfl) (qd rfl rfl rfl (r_move (v := (.string (s.extract 1 s.size))) rfl) (qd rfl rfl rfl (r_lenS Tryz.underlying9 rfl) (qd rfl rfl rfl (r_lss rfl rfl) (qe (s_then ?_)))))
 refine c_ifd (p := ((j : Int) : Int) < ((s.extract 1 s.size).size : Int)) rfl rfl (fun h13 => ?_) (fun h13 => ?_)
 have hpn := pw10_next (k := j) (by omega)
 refine wp_skip (s_then (s_seq ?_))
 refine s_blk (s_seq (s_seq (c_reg ?_)))
 refine qd rfl rfl rfl (r_move (v := (.string (s.extract 1 s.size))) rfl) (qd rfl rfl rfl (r_move (v := (.int .i64 (j : Int))) rfl) (qd rfl rfl rfl (r_idxB Tryz.underlying9 rfl rfl (by omega) (by omega)) (qd rfl rfl rfl (r_lss rfl rfl) (qd rfl rfl rfl (r_move (v := (.bool (decide ((((sB (s.extract 1 s.size) j).toNat : Int) : Int) < 48)))) rfl) (qbd (p := (((sB (s.extract 1 s.size) j).toNat : Int) : Int) < 48) (t := 32) rfl (fun h14 => ?_) (fun h14 => ?_))))))
 refine qs rfl rfl rfl rfl rfl rfl (qs rfl rfl rfl rfl rfl rfl (qs rfl rfl rfl rfl rfl rfl (qs rfl rfl rfl rfl rfl rfl (qd rfl rfl rfl (r_pickT (v := (.bool true)) rfl rfl) (qe (s_then ?_))))))
 refine c_ifT rfl rfl (s_seq (c_reg ?_))
 refine qd rfl rfl rfl (r_assign (v := (.int .i64 0)) rfl) (qd rfl rfl rfl (r_assign (v := (.bool false)) rfl) (qe (s_then ?_)))
 exact wp_ret (s_ret (c_ret2 (v := (.int .i64 0)) (u := (.bool false)) rfl rfl rfl rfl rfl (⟨_, _, _, rfl, rdd_fail hrd (by omega) (by omega), (fun h => by cases h), hX12⟩)))
 refine qdg rfl rfl rfl rfl rfl rfl (r_move (v := (.string (s.extract 1 s.size))) rfl) (qdg rfl rfl rfl rfl rfl rfl (r_move (v := (.int .i64 (j : Int))) rfl) (qdg rfl rfl rfl rfl rfl rfl (r_idxB Tryz.underlying9 rfl rfl (by omega) (by omega)) (qdg rfl rfl rfl rfl rfl rfl (r_gtr rfl rfl) (qd rfl rfl rfl (r_pickF (v := (.bool (decide ((57 : Int) < ((sB (s.extract 1 s.size) j).toNat : Int))))) rfl rfl) (qe (s_then ?_))))))
 refine c_ifd (p := (57 : Int) < ((sB (s.extract 1 s.size) j).toNat : Int)) rfl rfl (fun h15 => ?_) (fun h15 => ?_)
 refine s_seq (c_reg ?_)
 refine qd rfl rfl rfl (r_assign (v := (.int .i64 0)) rfl) (qd rfl rfl rfl (r_assign (v := (.bool false)) rfl) (qe (s_then ?_)))
 exact wp_ret (s_ret (c_ret2 (v := (.int .i64 0)) (u := (.bool false)) rfl rfl rfl rfl rfl (⟨_, _, _, rfl, rdd_fail hrd (by omega) (by omega), (fun h => by cases h), hX12⟩)))
 refine wp_skip (s_then (c_reg ?_))
 refine qd rfl rfl rfl (r_move (v := (.int .i64 n9)) rfl) (qd rfl rfl rfl (r_mul rfl rfl (by omega)) (qd rfl rfl rfl (r_move (v := (.string (s.extract 1 s.size))) rfl) (qd rfl rfl rfl (r_move (v := (.int .i64 (j : Int))) rfl) (qd rfl rfl rfl (r_idxB Tryz.underlying9 rfl rfl (by omega) (by omega)) (qd rfl rfl rfl (r_sub8 (i := ((sB (s.extract 1 s.size) j).toNat : Int)) (j := 48) rfl rfl (by omega)) (qd rfl rfl rfl (r_conv (j := ((sB (s.extract 1 s.size) j).toNat : Int) - 48) Tryz.underlying5 Tryz.underlying3 rfl (wrapI (by omega))) (qd rfl rfl rfl (r_add rfl rfl (by omega)) (qd rfl rfl rfl (r_assign (v := (.int .i64 ((10 * n9) + (((sB (s.extract 1 s.size) j).toNat : Int) - 48)))) rfl) (qe (s_blkN (s_then (c_reg ?_))))))))))))
 refine qd rfl rfl rfl (r_move (v := (.int .i64 (j : Int))) rfl) (qd rfl rfl rfl (r_add rfl rfl (by omega)) (qd rfl rfl rfl (r_assign (v := (.int .i64 ((j : Int) + 1))) rfl) (qe (s_lopN (⟨_, ?_, _, rfl, _, j + 1, (10 * n9) + (((sB (s.extract 1 s.size) j).toNat : Int) - 48), GL1, (packS (x := 6) (packS (x := 5) (packS (x := 4) (pack1 (x := 0) rfl) rfl) rfl) rfl), rfl, hX12, hlek9, (by omega), (rdd_next hrd (by omega) (by omega) (by omega) (by omega)), (by omega)⟩)))))
 omega
 refine wp_exit (s_thenE (s_lopE (s_blkE (s_then (s_seq (s_seq (c_reg ?_)))))))
 refine qd rfl rfl rfl (r_move (v := (.string (s.extract 1 s.size))) rfl) (qd rfl rfl rfl (r_lenS Tryz.underlying9 rfl) (qd rfl rfl rfl (r_move (v := (.string s)) rfl) (qd rfl rfl rfl (r_lenS Tryz.underlying9 rfl) (qd rfl rfl rfl (r_lss rfl rfl) (qe (s_then ?_))))))
 refine c_ifd (p := (((s.extract 1 s.size).size : Int) : Int) < (s.size : Int)) rfl rfl (fun h16 => ?_) (fun h16 => ?_)
 refine c_reg (qd rfl rfl rfl (r_move (v := (.int .i64 n9)) rfl) (qd rfl rfl rfl (r_neg rfl (by omega)) (qd rfl rfl rfl (r_assign (v := (.int .i64 (-n9))) rfl) (qe (s_then (s_seq (s_seq (c_reg ?_))))))))
 refine qd rfl rfl rfl (r_move (v := (.int .i64 (-n9))) rfl) (q1 rfl rfl rfl (o_call (vs := [(.int .i64 (-n9))]) Tryz.func56 nm56 rfl rfl rfl ?_))
 refine Calls.mono (l1Num_spec (-n9) (by omega) (by omega) hX12.pins) ?_
 rintro _ w18 ⟨G17, rfl, hx19⟩
 refine ⟨_, rfl, ?_⟩
 have hX20 := hX12.tr hx19
 refine qd rfl rfl rfl (r_move (v := (.string s)) rfl) (qd rfl rfl rfl (r_neqS rfl rfl) (qe (s_then ?_)))
 refine c_ifn rfl rfl (fun h21 => ?_) (fun h21 => ?_)
 refine wp_skip (s_then (s_seq (c_reg ?_)))
 refine qd rfl rfl rfl (r_move (v := (.int .i64 (-n9))) rfl) (qd rfl rfl rfl (r_assign (v := (.int .i64 (-n9))) rfl) (qd rfl rfl rfl (r_assign (v := (.bool true)) rfl) (qe (s_then ?_))))
 exact wp_ret (s_ret (c_ret2 (v := (.int .i64 (-n9))) (u := (.bool true)) rfl rfl rfl rfl rfl (⟨_, _, _, rfl, rdd_yes hrd (by omega) (by omega) (fun e9 => by have e8 := congrArg ByteArray.size e9; omega) (by omega) (by omega), (fun _ => ba_of_eq h21), hX20⟩)))
 refine s_seq (c_reg ?_)
 refine qd rfl rfl rfl (r_assign (v := (.int .i64 0)) rfl) (qd rfl rfl rfl (r_assign (v := (.bool false)) rfl) (qe (s_then ?_)))
 exact wp_ret (s_ret (c_ret2 (v := (.int .i64 0)) (u := (.bool false)) rfl rfl rfl rfl rfl (⟨_, _, _, rfl, rdd_no hrd (by omega) (by omega) (fun e9 => by have e8 := congrArg ByteArray.size e9; omega) h21, (fun h => by cases h), hX20⟩)))
 refine wp_skip (s_then (s_seq (s_seq (c_reg ?_))))
 refine qd rfl rfl rfl (r_move (v := (.int .i64 n9)) rfl) (q1 rfl rfl rfl (o_call (vs := [(.int .i64 n9)]) Tryz.func56 nm56 rfl rfl rfl ?_))
 refine Calls.mono (l1Num_spec n9 (by omega) (by omega) hX12.pins) ?_
 rintro _ w23 ⟨G22, rfl, hx24⟩
 refine ⟨_, rfl, ?_⟩
 have hX25 := hX12.tr hx24
 refine qd rfl rfl rfl (r_move (v := (.string s)) rfl) (qd rfl rfl rfl (r_neqS rfl rfl) (qe (s_then ?_)))
 refine c_ifn rfl rfl (fun h26 => ?_) (fun h26 => ?_)
 refine wp_skip (s_then (s_seq (c_reg ?_)))
 refine qd rfl rfl rfl (r_move (v := (.int .i64 n9)) rfl) (qd rfl rfl rfl (r_assign (v := (.int .i64 n9)) rfl) (qd rfl rfl rfl (r_assign (v := (.bool true)) rfl) (qe (s_then ?_))))
 exact wp_ret (s_ret (c_ret2 (v := (.int .i64 n9)) (u := (.bool true)) rfl rfl rfl rfl rfl (⟨_, _, _, rfl, rdd_yes hrd (by omega) (by omega) (fun e9 => by have e8 := congrArg ByteArray.size e9; omega) (by omega) (by omega), (fun _ => ba_of_eq h26), hX25⟩)))
 refine s_seq (c_reg ?_)
 refine qd rfl rfl rfl (r_assign (v := (.int .i64 0)) rfl) (qd rfl rfl rfl (r_assign (v := (.bool false)) rfl) (qe (s_then ?_)))
 exact wp_ret (s_ret (c_ret2 (v := (.int .i64 0)) (u := (.bool false)) rfl rfl rfl rfl rfl (⟨_, _, _, rfl, rdd_no hrd (by omega) (by omega) (fun e9 => by have e8 := congrArg ByteArray.size e9; omega) h26, (fun h => by cases h), hX25⟩)))
 replace h8 := of_decide_eq_false h8
 refine s_seq (c_reg ?_)
 refine qd rfl rfl rfl (r_assign (v := (.int .i64 0)) rfl) (qd rfl rfl rfl (r_assign (v := (.bool false)) rfl) (qe (s_then ?_)))
 exact wp_ret (s_ret (c_ret2 (v := (.int .i64 0)) (u := (.bool false)) rfl rfl rfl rfl rfl (⟨_, _, _, rfl, rdd_len (rdd_neg (T := s.extract 1 s.size) (j := 0) (n := 0) (by omega) h2) (by omega), (fun h => by cases h), hX7⟩)))
 refine wp_skip (s_then (s_seq (s_seq (c_reg ?_))))
 refine qd rfl rfl rfl (r_move (v := (.string s)) rfl) (qd rfl rfl rfl (r_lenS Tryz.underlying9 rfl) (q1 rfl rfl rfl (o_call (vs := [(.int .i64 (s.size : Int)), (.int .i64 1), (.int .i64 6)]) Tryz.func36 nm36 rfl rfl rfl ?_)))
 refine Calls.mono (l1InQ_spec hX0.pins) ?_
 rintro _ w28 ⟨G27, rfl, hx29⟩
 refine ⟨_, rfl, ?_⟩
 have hX30 := hX0.tr hx29
 refine qd rfl rfl rfl (r_not rfl) (qe (s_then ?_))
 refine c_ifn rfl rfl (fun h31 => ?_) (fun h31 => ?_)
 replace h31 := of_decide_eq_true h31
 refine wp_skip (s_then (s_seq (c_reg ?_)))
 refine qd rfl rfl rfl (r_assign (v := (.int .i64 0)) rfl) (qe (s_then (s_seq (s_seq (c_reg ?_)))))
 refine qd rfl rfl rfl (r_assign (v := (.int .i64 0)) rfl) (qe (s_then ?_))
 refine s_blk (s_loop (fun (k : Nat) (en : Nat → Value) (W : World) => ∃ (env1 : Nat → Value) (j : Nat) (n9 : Int) (GL1 : Pin), en = (upd (upd (upd (upd env1 0 (.string s)) 4 (.string s)) 5 (.int .i64 n9)) 6 (.int .i64 (j : Int))) ∧ k = s.size - j ∧ Ext noS G w GL1 W ∧ Pin.le G27 GL1 ∧ (j ≤ s.size) ∧ (RdD s s j n9) ∧ (0 ≤ n9 ∧ n9 < pw10 j)) _ ⟨_, 0, 0, G27, (packS (x := 6) (packS (x := 5) (packS (x := 4) (pack1 (x := 0) rfl) rfl) rfl) rfl), rfl, hX30, Pin.le_refl _, Nat.zero_le _, rdd_zero, (by show (0:Int) ≤ 0 ∧ (0:Int) < 1; omega)⟩ ?_)
 rintro k32 _ w33 ⟨env1, j, n9, GL1, rfl, hk34, hX35, hlek32, hj, hrd, hn9⟩
 have hpj := pw10_le (k := j) (by omega)
 refine s_seq (s_seq (c_reg ?_))
 refine qd rfl rfl rfl (r_move (v := (.int .i64 (j : Int))) rfl) (qd rfl rfl rfl (r_move (v := (.string s)) rfl) (qd rfl rfl rfl (r_lenS Tryz.underlying9 rfl) (qd rfl rfl rfl (r_lss rfl rfl) (qe (s_then ?_)))))
 refine c_ifd (p := ((j : Int) : Int) < (s.size : Int)) rfl rfl (fun h36 => ?_) (fun h36 => ?_)
 have hpn := pw10_next (k := j) (by omega)
 refine wp_skip (s_then (s_seq ?_))
 refine s_blk (s_seq (s_seq (c_reg ?_)))
 refine qd rfl rfl rfl (r_move (v := (.string s)) rfl) (qd rfl rfl rfl (r_move (v := (.int .i64 (j : Int))) rfl) (qd rfl rfl rfl (r_idxB Tryz.underlying9 rfl rfl (by omega) (by omega)) (qd rfl rfl rfl (r_lss rfl rfl) (qd rfl rfl rfl (r_move (v := (.bool (decide ((((sB s j).toNat : Int) : Int) < 48)))) rfl) (qbd (p := (((sB s j).toNat : Int) : Int) < 48) (t := 32) rfl (fun h37 => ?_) (fun h37 => ?_))))))
 refine qs rfl rfl rfl rfl rfl rfl (qs rfl rfl rfl rfl rfl rfl (qs rfl rfl rfl rfl rfl rfl (qs rfl rfl rfl rfl rfl rfl (qd rfl rfl rfl (r_pickT (v := (.bool true)) rfl rfl) (qe (s_then ?_))))))
 refine c_ifT rfl rfl (s_seq (c_reg ?_))
 refine qd rfl rfl rfl (r_assign (v := (.int .i64 0)) rfl) (qd rfl rfl rfl (r_assign (v := (.bool false)) rfl) (qe (s_then ?_)))
 exact wp_ret (s_ret (c_ret2 (v := (.int .i64 0)) (u := (.bool false)) rfl rfl rfl rfl rfl (⟨_, _, _, rfl, rdd_fail hrd (by omega) (by omega), (fun h => by cases h), hX35⟩)))
 refine qdg rfl rfl rfl rfl rfl rfl (r_move (v := (.string s)) rfl) (qdg rfl rfl rfl rfl rfl rfl (r_move (v := (.int .i64 (j : Int))) rfl) (qdg rfl rfl rfl rfl rfl rfl (r_idxB Tryz.underlying9 rfl rfl (by omega) (by omega)) (qdg rfl rfl rfl rfl rfl rfl (r_gtr rfl rfl) (qd rfl rfl rfl (r_pickF (v := (.bool (decide ((57 : Int) < ((sB s j).toNat : Int))))) rfl rfl) (qe (s_then ?_))))))
 refine c_ifd (p := (57 : Int) < ((sB s j).toNat : Int)) rfl rfl (fun h38 => ?_) (fun h38 => ?_)
 refine s_seq (c_reg ?_)
 refine qd rfl rfl rfl (r_assign (v := (.int .i64 0)) rfl) (qd rfl rfl rfl (r_assign (v := (.bool false)) rfl) (qe (s_then ?_)))
 exact wp_ret (s_ret (c_ret2 (v := (.int .i64 0)) (u := (.bool false)) rfl rfl rfl rfl rfl (⟨_, _, _, rfl, rdd_fail hrd (by omega) (by omega), (fun h => by cases h), hX35⟩)))
 refine wp_skip (s_then (c_reg ?_))
 refine qd rfl rfl rfl (r_move (v := (.int .i64 n9)) rfl) (qd rfl rfl rfl (r_mul rfl rfl (by omega)) (qd rfl rfl rfl (r_move (v := (.string s)) rfl) (qd rfl rfl rfl (r_move (v := (.int .i64 (j : Int))) rfl) (qd rfl rfl rfl (r_idxB Tryz.underlying9 rfl rfl (by omega) (by omega)) (qd rfl rfl rfl (r_sub8 (i := ((sB s j).toNat : Int)) (j := 48) rfl rfl (by omega)) (qd rfl rfl rfl (r_conv (j := ((sB s j).toNat : Int) - 48) Tryz.underlying5 Tryz.underlying3 rfl (wrapI (by omega))) (qd rfl rfl rfl (r_add rfl rfl (by omega)) (qd rfl rfl rfl (r_assign (v := (.int .i64 ((10 * n9) + (((sB s j).toNat : Int) - 48)))) rfl) (qe (s_blkN (s_then (c_reg ?_))))))))))))
 refine qd rfl rfl rfl (r_move (v := (.int .i64 (j : Int))) rfl) (qd rfl rfl rfl (r_add rfl rfl (by omega)) (qd rfl rfl rfl (r_assign (v := (.int .i64 ((j : Int) + 1))) rfl) (qe (s_lopN (⟨_, ?_, _, rfl, _, j + 1, (10 * n9) + (((sB s j).toNat : Int) - 48), GL1, (packS (x := 6) (packS (x := 5) (packS (x := 4) (pack1 (x := 0) rfl) rfl) rfl) rfl), rfl, hX35, hlek32, (by omega), (rdd_next hrd (by omega) (by omega) (by omega) (by omega)), (by omega)⟩)))))
 omega
 refine wp_exit (s_thenE (s_lopE (s_blkE (s_then (s_seq (s_seq (c_reg ?_)))))))
 refine qd rfl rfl rfl (r_move (v := (.string s)) rfl) (qd rfl rfl rfl (r_lenS Tryz.underlying9 rfl) (qd rfl rfl rfl (r_move (v := (.string s)) rfl) (qd rfl rfl rfl (r_lenS Tryz.underlying9 rfl) (qd rfl rfl rfl (r_lss rfl rfl) (qe (s_then ?_))))))
 refine c_ifd (p := ((s.size : Int) : Int) < (s.size : Int)) rfl rfl (fun h39 => ?_) (fun h39 => ?_)
 refine c_reg (qd rfl rfl rfl (r_move (v := (.int .i64 n9)) rfl) (qd rfl rfl rfl (r_neg rfl (by omega)) (qd rfl rfl rfl (r_assign (v := (.int .i64 (-n9))) rfl) (qe (s_then (s_seq (s_seq (c_reg ?_))))))))
 refine qd rfl rfl rfl (r_move (v := (.int .i64 (-n9))) rfl) (q1 rfl rfl rfl (o_call (vs := [(.int .i64 (-n9))]) Tryz.func56 nm56 rfl rfl rfl ?_))
 refine Calls.mono (l1Num_spec (-n9) (by omega) (by omega) hX35.pins) ?_
 rintro _ w41 ⟨G40, rfl, hx42⟩
 refine ⟨_, rfl, ?_⟩
 have hX43 := hX35.tr hx42
 refine qd rfl rfl rfl (r_move (v := (.string s)) rfl) (qd rfl rfl rfl (r_neqS rfl rfl) (qe (s_then ?_)))
 refine c_ifn rfl rfl (fun h44 => ?_) (fun h44 => ?_)
 refine wp_skip (s_then (s_seq (c_reg ?_)))
 refine qd rfl rfl rfl (r_move (v := (.int .i64 (-n9))) rfl) (qd rfl rfl rfl (r_assign (v := (.int .i64 (-n9))) rfl) (qd rfl rfl rfl (r_assign (v := (.bool true)) rfl) (qe (s_then ?_))))
 exact wp_ret (s_ret (c_ret2 (v := (.int .i64 (-n9))) (u := (.bool true)) rfl rfl rfl rfl rfl (⟨_, _, _, rfl, rdd_yes hrd (by omega) (by omega) (fun e9 => by have e8 := congrArg ByteArray.size e9; omega) (by omega) (by omega), (fun _ => ba_of_eq h44), hX43⟩)))
 refine s_seq (c_reg ?_)
 refine qd rfl rfl rfl (r_assign (v := (.int .i64 0)) rfl) (qd rfl rfl rfl (r_assign (v := (.bool false)) rfl) (qe (s_then ?_)))
 exact wp_ret (s_ret (c_ret2 (v := (.int .i64 0)) (u := (.bool false)) rfl rfl rfl rfl rfl (⟨_, _, _, rfl, rdd_no hrd (by omega) (by omega) (fun e9 => by have e8 := congrArg ByteArray.size e9; omega) h44, (fun h => by cases h), hX43⟩)))
 refine wp_skip (s_then (s_seq (s_seq (c_reg ?_))))
 refine qd rfl rfl rfl (r_move (v := (.int .i64 n9)) rfl) (q1 rfl rfl rfl (o_call (vs := [(.int .i64 n9)]) Tryz.func56 nm56 rfl rfl rfl ?_))
 refine Calls.mono (l1Num_spec n9 (by omega) (by omega) hX35.pins) ?_
 rintro _ w46 ⟨G45, rfl, hx47⟩
 refine ⟨_, rfl, ?_⟩
 have hX48 := hX35.tr hx47
 refine qd rfl rfl rfl (r_move (v := (.string s)) rfl) (qd rfl rfl rfl (r_neqS rfl rfl) (qe (s_then ?_)))
 refine c_ifn rfl rfl (fun h49 => ?_) (fun h49 => ?_)
 refine wp_skip (s_then (s_seq (c_reg ?_)))
 refine qd rfl rfl rfl (r_move (v := (.int .i64 n9)) rfl) (qd rfl rfl rfl (r_assign (v := (.int .i64 n9)) rfl) (qd rfl rfl rfl (r_assign (v := (.bool true)) rfl) (qe (s_then ?_))))
 exact wp_ret (s_ret (c_ret2 (v := (.int .i64 n9)) (u := (.bool true)) rfl rfl rfl rfl rfl (⟨_, _, _, rfl, rdd_yes hrd (by omega) (by omega) (fun e9 => by have e8 := congrArg ByteArray.size e9; omega) (by omega) (by omega), (fun _ => ba_of_eq h49), hX48⟩)))
 refine s_seq (c_reg ?_)
 refine qd rfl rfl rfl (r_assign (v := (.int .i64 0)) rfl) (qd rfl rfl rfl (r_assign (v := (.bool false)) rfl) (qe (s_then ?_)))
 exact wp_ret (s_ret (c_ret2 (v := (.int .i64 0)) (u := (.bool false)) rfl rfl rfl rfl rfl (⟨_, _, _, rfl, rdd_no hrd (by omega) (by omega) (fun e9 => by have e8 := congrArg ByteArray.size e9; omega) h49, (fun h => by cases h), hX48⟩)))
 replace h31 := of_decide_eq_false h31
 refine s_seq (c_reg ?_)
 refine qd rfl rfl rfl (r_assign (v := (.int .i64 0)) rfl) (qd rfl rfl rfl (r_assign (v := (.bool false)) rfl) (qe (s_then ?_)))
 exact wp_ret (s_ret (c_ret2 (v := (.int .i64 0)) (u := (.bool false)) rfl rfl rfl rfl rfl (⟨_, _, _, rfl, rdd_len rdd_zero (by omega), (fun h => by cases h), hX30⟩)))
 refine qs rfl rfl rfl rfl rfl rfl (qs rfl rfl rfl rfl rfl rfl (qs rfl rfl rfl rfl rfl rfl (qd rfl rfl rfl (r_pickF (v := (.bool false)) rfl rfl) (qe (s_then ?_)))))
 refine c_ifF rfl rfl (wp_skip (s_then (s_seq (s_seq (c_reg ?_)))))
 refine qd rfl rfl rfl (r_move (v := (.string s)) rfl) (qd rfl rfl rfl (r_lenS Tryz.underlying9 rfl) (q1 rfl rfl rfl (o_call (vs := [(.int .i64 (s.size : Int)), (.int .i64 1), (.int .i64 6)]) Tryz.func36 nm36 rfl rfl rfl ?_)))
 refine Calls.mono (l1InQ_spec hX0.pins) ?_
 rintro _ w51 ⟨G50, rfl, hx52⟩
 refine ⟨_, rfl, ?_⟩
 have hX53 := hX0.tr hx52
 refine qd rfl rfl rfl (r_not rfl) (qe (s_then ?_))
 refine c_ifn rfl rfl (fun h54 => ?_) (fun h54 => ?_)
 replace h54 := of_decide_eq_true h54
 refine wp_skip (s_then (s_seq (c_reg ?_)))
 refine qd rfl rfl rfl (r_assign (v := (.int .i64 0)) rfl) (qe (s_then (s_seq (s_seq (c_reg ?_)))))
 refine qd rfl rfl rfl (r_assign (v := (.int .i64 0)) rfl) (qe (s_then ?_))
 refine s_blk (s_loop (fun (k : Nat) (en : Nat → Value) (W : World) => ∃ (env1 : Nat → Value) (j : Nat) (n9 : Int) (GL1 : Pin), en = (upd (upd (upd (upd env1 0 (.string s)) 4 (.string s)) 5 (.int .i64 n9)) 6 (.int .i64 (j : Int))) ∧ k = s.size - j ∧ Ext noS G w GL1 W ∧ Pin.le G50 GL1 ∧ (j ≤ s.size) ∧ (RdD s s j n9) ∧ (0 ≤ n9 ∧ n9 < pw10 j)) _ ⟨_, 0, 0, G50, (packS (x := 6) (packS (x := 5) (packS (x := 4) (pack1 (x := 0) rfl) rfl) rfl) rfl), rfl, hX53, Pin.le_refl _, Nat.zero_le _, rdd_zero, (by show (0:Int) ≤ 0 ∧ (0:Int) < 1; omega)⟩ ?_)
 rintro k55 _ w56 ⟨env1, j, n9, GL1, rfl, hk57, hX58, hlek55, hj, hrd, hn9⟩
 have hpj := pw10_le (k := j) (by omega)
 refine s_seq (s_seq (c_reg ?_))
 refine qd rfl rfl rfl (r_move (v := (.int .i64 (j : Int))) rfl) (qd rfl rfl rfl (r_move (v := (.string s)) rfl) (qd rfl rfl rfl (r_lenS Tryz.underlying9 rfl) (qd rfl rfl rfl (r_lss rfl rfl) (qe (s_then ?_)))))
 refine c_ifd (p := ((j : Int) : Int) < (s.size : Int)) rfl rfl (fun h59 => ?_) (fun h59 => ?_)
 have hpn := pw10_next (k := j) (by omega)
 refine wp_skip (s_then (s_seq ?_))
 refine s_blk (s_seq (s_seq (c_reg ?_)))
 refine qd rfl rfl rfl (r_move (v := (.string s)) rfl) (qd rfl rfl rfl (r_move (v := (.int .i64 (j : Int))) rfl) (qd rfl rfl rfl (r_idxB Tryz.underlying9 rfl rfl (by omega) (by omega)) (qd rfl rfl rfl (r_lss rfl rfl) (qd rfl rfl rfl (r_move (v := (.bool (decide ((((sB s j).toNat : Int) : Int) < 48)))) rfl) (qbd (p := (((sB s j).toNat : Int) : Int) < 48) (t := 32) rfl (fun h60 => ?_) (fun h60 => ?_))))))
 refine qs rfl rfl rfl rfl rfl rfl (qs rfl rfl rfl rfl rfl rfl (qs rfl rfl rfl rfl rfl rfl (qs rfl rfl rfl rfl rfl rfl (qd rfl rfl rfl (r_pickT (v := (.bool true)) rfl rfl) (qe (s_then ?_))))))
 refine c_ifT rfl rfl (s_seq (c_reg ?_))
 refine qd rfl rfl rfl (r_assign (v := (.int .i64 0)) rfl) (qd rfl rfl rfl (r_assign (v := (.bool false)) rfl) (qe (s_then ?_)))
 exact wp_ret (s_ret (c_ret2 (v := (.int .i64 0)) (u := (.bool false)) rfl rfl rfl rfl rfl (⟨_, _, _, rfl, rdd_fail hrd (by omega) (by omega), (fun h => by cases h), hX58⟩)))
 refine qdg rfl rfl rfl rfl rfl rfl (r_move (v := (.string s)) rfl) (qdg rfl rfl rfl rfl rfl rfl (r_move (v := (.int .i64 (j : Int))) rfl) (qdg rfl rfl rfl rfl rfl rfl (r_idxB Tryz.underlying9 rfl rfl (by omega) (by omega)) (qdg rfl rfl rfl rfl rfl rfl (r_gtr rfl rfl) (qd rfl rfl rfl (r_pickF (v := (.bool (decide ((57 : Int) < ((sB s j).toNat : Int))))) rfl rfl) (qe (s_then ?_))))))
 refine c_ifd (p := (57 : Int) < ((sB s j).toNat : Int)) rfl rfl (fun h61 => ?_) (fun h61 => ?_)
 refine s_seq (c_reg ?_)
 refine qd rfl rfl rfl (r_assign (v := (.int .i64 0)) rfl) (qd rfl rfl rfl (r_assign (v := (.bool false)) rfl) (qe (s_then ?_)))
 exact wp_ret (s_ret (c_ret2 (v := (.int .i64 0)) (u := (.bool false)) rfl rfl rfl rfl rfl (⟨_, _, _, rfl, rdd_fail hrd (by omega) (by omega), (fun h => by cases h), hX58⟩)))
 refine wp_skip (s_then (c_reg ?_))
 refine qd rfl rfl rfl (r_move (v := (.int .i64 n9)) rfl) (qd rfl rfl rfl (r_mul rfl rfl (by omega)) (qd rfl rfl rfl (r_move (v := (.string s)) rfl) (qd rfl rfl rfl (r_move (v := (.int .i64 (j : Int))) rfl) (qd rfl rfl rfl (r_idxB Tryz.underlying9 rfl rfl (by omega) (by omega)) (qd rfl rfl rfl (r_sub8 (i := ((sB s j).toNat : Int)) (j := 48) rfl rfl (by omega)) (qd rfl rfl rfl (r_conv (j := ((sB s j).toNat : Int) - 48) Tryz.underlying5 Tryz.underlying3 rfl (wrapI (by omega))) (qd rfl rfl rfl (r_add rfl rfl (by omega)) (qd rfl rfl rfl (r_assign (v := (.int .i64 ((10 * n9) + (((sB s j).toNat : Int) - 48)))) rfl) (qe (s_blkN (s_then (c_reg ?_))))))))))))
 refine qd rfl rfl rfl (r_move (v := (.int .i64 (j : Int))) rfl) (qd rfl rfl rfl (r_add rfl rfl (by omega)) (qd rfl rfl rfl (r_assign (v := (.int .i64 ((j : Int) + 1))) rfl) (qe (s_lopN (⟨_, ?_, _, rfl, _, j + 1, (10 * n9) + (((sB s j).toNat : Int) - 48), GL1, (packS (x := 6) (packS (x := 5) (packS (x := 4) (pack1 (x := 0) rfl) rfl) rfl) rfl), rfl, hX58, hlek55, (by omega), (rdd_next hrd (by omega) (by omega) (by omega) (by omega)), (by omega)⟩)))))
 omega
 refine wp_exit (s_thenE (s_lopE (s_blkE (s_then (s_seq (s_seq (c_reg ?_)))))))
 refine qd rfl rfl rfl (r_move (v := (.string s)) rfl) (qd rfl rfl rfl (r_lenS Tryz.underlying9 rfl) (qd rfl rfl rfl (r_move (v := (.string s)) rfl) (qd rfl rfl rfl (r_lenS Tryz.underlying9 rfl) (qd rfl rfl rfl (r_lss rfl rfl) (qe (s_then ?_))))))
 refine c_ifd (p := ((s.size : Int) : Int) < (s.size : Int)) rfl rfl (fun h62 => ?_) (fun h62 => ?_)
 refine c_reg (qd rfl rfl rfl (r_move (v := (.int .i64 n9)) rfl) (qd rfl rfl rfl (r_neg rfl (by omega)) (qd rfl rfl rfl (r_assign (v := (.int .i64 (-n9))) rfl) (qe (s_then (s_seq (s_seq (c_reg ?_))))))))
 refine qd rfl rfl rfl (r_move (v := (.int .i64 (-n9))) rfl) (q1 rfl rfl rfl (o_call (vs := [(.int .i64 (-n9))]) Tryz.func56 nm56 rfl rfl rfl ?_))
 refine Calls.mono (l1Num_spec (-n9) (by omega) (by omega) hX58.pins) ?_
 rintro _ w64 ⟨G63, rfl, hx65⟩
 refine ⟨_, rfl, ?_⟩
 have hX66 := hX58.tr hx65
 refine qd rfl rfl rfl (r_move (v := (.string s)) rfl) (qd rfl rfl rfl (r_neqS rfl rfl) (qe (s_then ?_)))
 refine c_ifn rfl rfl (fun h67 => ?_) (fun h67 => ?_)
 refine wp_skip (s_then (s_seq (c_reg ?_)))
 refine qd rfl rfl rfl (r_move (v := (.int .i64 (-n9))) rfl) (qd rfl rfl rfl (r_assign (v := (.int .i64 (-n9))) rfl) (qd rfl rfl rfl (r_assign (v := (.bool true)) rfl) (qe (s_then ?_))))
 exact wp_ret (s_ret (c_ret2 (v := (.int .i64 (-n9))) (u := (.bool true)) rfl rfl rfl rfl rfl (⟨_, _, _, rfl, rdd_yes hrd (by omega) (by omega) (fun e9 => by have e8 := congrArg ByteArray.size e9; omega) (by omega) (by omega), (fun _ => ba_of_eq h67), hX66⟩)))
 refine s_seq (c_reg ?_)
 refine qd rfl rfl rfl (r_assign (v := (.int .i64 0)) rfl) (qd rfl rfl rfl (r_assign (v := (.bool false)) rfl) (qe (s_then ?_)))
 exact wp_ret (s_ret (c_ret2 (v := (.int .i64 0)) (u := (.bool false)) rfl rfl rfl rfl rfl (⟨_, _, _, rfl, rdd_no hrd (by omega) (by omega) (fun e9 => by have e8 := congrArg ByteArray.size e9; omega) h67, (fun h => by cases h), hX66⟩)))
 refine wp_skip (s_then (s_seq (s_seq (c_reg ?_))))
 refine qd rfl rfl rfl (r_move (v := (.int .i64 n9)) rfl) (q1 rfl rfl rfl (o_call (vs := [(.int .i64 n9)]) Tryz.func56 nm56 rfl rfl rfl ?_))
 refine Calls.mono (l1Num_spec n9 (by omega) (by omega) hX58.pins) ?_
 rintro _ w69 ⟨G68, rfl, hx70⟩
 refine ⟨_, rfl, ?_⟩
 have hX71 := hX58.tr hx70
 refine qd rfl rfl rfl (r_move (v := (.string s)) rfl) (qd rfl rfl rfl (r_neqS rfl rfl) (qe (s_then ?_)))
 refine c_ifn rfl rfl (fun h72 => ?_) (fun h72 => ?_)
 refine wp_skip (s_then (s_seq (c_reg ?_)))
 refine qd rfl rfl rfl (r_move (v := (.int .i64 n9)) rfl) (qd rfl rfl rfl (r_assign (v := (.int .i64 n9)) rfl) (qd rfl rfl rfl (r_assign (v := (.bool true)) rfl) (qe (s_then ?_))))
 exact wp_ret (s_ret (c_ret2 (v := (.int .i64 n9)) (u := (.bool true)) rfl rfl rfl rfl rfl (⟨_, _, _, rfl, rdd_yes hrd (by omega) (by omega) (fun e9 => by have e8 := congrArg ByteArray.size e9; omega) (by omega) (by omega), (fun _ => ba_of_eq h72), hX71⟩)))
 refine s_seq (c_reg ?_)
 refine qd rfl rfl rfl (r_assign (v := (.int .i64 0)) rfl) (qd rfl rfl rfl (r_assign (v := (.bool false)) rfl) (qe (s_then ?_)))
 exact wp_ret (s_ret (c_ret2 (v := (.int .i64 0)) (u := (.bool false)) rfl rfl rfl rfl rfl (⟨_, _, _, rfl, rdd_no hrd (by omega) (by omega) (fun e9 => by have e8 := congrArg ByteArray.size e9; omega) h72, (fun h => by cases h), hX71⟩)))
 replace h54 := of_decide_eq_false h54
 refine s_seq (c_reg ?_)
 refine qd rfl rfl rfl (r_assign (v := (.int .i64 0)) rfl) (qd rfl rfl rfl (r_assign (v := (.bool false)) rfl) (qe (s_then ?_)))
 exact wp_ret (s_ret (c_ret2 (v := (.int .i64 0)) (u := (.bool false)) rfl rfl rfl rfl rfl (⟨_, _, _, rfl, rdd_len rdd_zero (by omega), (fun h => by cases h), hX53⟩)))

theorem l24Single_spec {w : World} {G : Pin} {s : ByteArray} (hP : Pins G w) (hs : s.size ≤ 1048576) :
  Calls Tryz.prog 20 [(.string s)].toArray w fun e w' => ∃ G', e = .returned (.bool (sgB s)) ∧ Ext noS G w G' w' := by
 refine s_enter (n := 57) Tryz.func20 Tryz.ntmps20 rfl rfl ?_
 have hX0 : Ext noS G w G w := Ext.refl hP
 refine s_seq (c_reg ?_)
 refine qd rfl rfl rfl (r_assign (v := (.bool false)) rfl) (qe (s_then (s_seq (c_reg ?_))))
 refine qd rfl rfl rfl (r_move (v := (.string s)) rfl) (q1 rfl rfl rfl (o_call (vs := [(.string s)]) Tryz.func30 nm30 rfl rfl rfl ?_))
 refine Calls.mono (l24Cut_spec (s := s) hX0.pins (by omega)) ?_
 rintro _ w2 ⟨G1, rfl, hx3⟩
 refine ⟨_, rfl, ?_⟩
 have hX4 := hX0.tr hx3
 have hm5 := tl_size s
 have hm6 := kd_rng s
 refine qd rfl rfl rfl (r_move (v := (.tuple #[(.int .i64 (kdI s)), (.string (tlB s))])) rfl) (qd rfl rfl rfl (r_extract (v := (.int .i64 (kdI s))) rfl rfl) (qd rfl rfl rfl (r_extract (v := (.string (tlB s))) rfl rfl) (qd rfl rfl rfl (r_assign (v := (.int .i64 (kdI s))) rfl) (qd rfl rfl rfl (r_assign (v := (.string (tlB s))) rfl) (qe (s_then (s_seq ?_)))))))
 refine s_blk (s_seq (c_reg ?_))
 refine qd rfl rfl rfl (r_move (v := (.int .i64 (kdI s))) rfl) (qd rfl rfl rfl (r_lss rfl rfl) (qd rfl rfl rfl (r_assign (v := (.bool (decide ((kdI s : Int) < 0)))) rfl) (qe (s_then ?_))))
 refine c_ifd (p := (kdI s : Int) < 0) rfl rfl (fun h7 => ?_) (fun h7 => ?_)
 refine s_seq (c_reg ?_)
 refine qd rfl rfl rfl (r_assign (v := (.bool false)) rfl) (qe (s_then ?_))
 exact wp_ret (s_ret (c_ret1 (v := (.bool false)) rfl rfl rfl (⟨_, congrArg (fun z => Ending.returned (Value.bool z)) (sgB_n (by omega)), hX4⟩)))
 refine s_seq (c_reg ?_)
 refine qd rfl rfl rfl (r_move (v := (.int .i64 (kdI s))) rfl) (qd rfl rfl rfl (r_leq rfl rfl) (qd rfl rfl rfl (r_assign (v := (.bool (decide ((kdI s : Int) ≤ 3)))) rfl) (qe (s_then ?_))))
 refine c_ifd (p := (kdI s : Int) ≤ 3) rfl rfl (fun h8 => ?_) (fun h8 => ?_)
 refine s_seq (c_reg ?_)
 refine qd rfl rfl rfl (r_move (v := (.int .i64 (kdI s))) rfl) (qd rfl rfl rfl (r_move (v := (.string (tlB s))) rfl) (q1 rfl rfl rfl (o_call (vs := [(.int .i64 (kdI s)), (.string (tlB s))]) Tryz.func31 nm31 rfl rfl rfl ?_)))
 refine Calls.mono (sGoodStrip_spec (kd := (kdI s)) (s := (tlB s)) hX4.pins) ?_
 rintro _ w10 ⟨G9, rfl, hx11⟩
 refine ⟨_, rfl, ?_⟩
 have hX12 := hX4.tr hx11
 refine qd rfl rfl rfl (r_move (v := (.bool (gsB (kdI s) (tlB s)))) rfl) (qb (t := 23) rfl (fun h13 => ?_) (fun h13 => ?_))
 refine qdg rfl rfl rfl rfl rfl rfl (r_move (v := (.string (tlB s))) rfl) (qdg rfl rfl rfl rfl rfl rfl (r_lenS Tryz.underlying9 rfl) (qdg rfl rfl rfl rfl rfl rfl (r_leq rfl rfl) (qd rfl rfl rfl (r_pickT (v := (.bool (decide ((((tlB s).size : Int) : Int) ≤ 7)))) rfl rfl) (qd rfl rfl rfl (r_assign (v := (.bool (decide ((((tlB s).size : Int) : Int) ≤ 7)))) rfl) (qe (s_then ?_))))))
 exact wp_ret (s_ret (c_ret1 (v := (.bool (decide ((((tlB s).size : Int) : Int) ≤ 7)))) rfl rfl rfl (⟨_, congrArg (fun z => Ending.returned (Value.bool z)) (sg_t (by omega) (by rw [agk_3 (by omega) (by omega), h13]; try rfl)), hX12⟩)))
 refine qs rfl rfl rfl rfl rfl rfl (qs rfl rfl rfl rfl rfl rfl (qs rfl rfl rfl rfl rfl rfl (qd rfl rfl rfl (r_pickF (v := (.bool false)) rfl rfl) (qd rfl rfl rfl (r_assign (v := (.bool false)) rfl) (qe (s_then ?_))))))
 exact wp_ret (s_ret (c_ret1 (v := (.bool false)) rfl rfl rfl (⟨_, congrArg (fun z => Ending.returned (Value.bool z)) (sg_t (by omega) (by rw [agk_3 (by omega) (by omega), h13]; try rfl)), hX12⟩)))
 refine s_seq (c_reg ?_)
 refine qd rfl rfl rfl (r_move (v := (.int .i64 (kdI s))) rfl) (qd rfl rfl rfl (r_eql rfl rfl) (qd rfl rfl rfl (r_assign (v := (.bool (decide ((kdI s : Int) = 4)))) rfl) (qe (s_then ?_))))
 refine c_ifd (p := (kdI s : Int) = 4) rfl rfl (fun h14 => ?_) (fun h14 => ?_)
 refine s_seq (c_reg ?_)
 refine qd rfl rfl rfl (r_move (v := (.string (tlB s))) rfl) (q1 rfl rfl rfl (o_call (vs := [(.string (tlB s))]) Tryz.func32 nm32 rfl rfl rfl ?_))
 refine Calls.mono (sReadBoard_spec (t := (tlB s)) hX4.pins (by omega)) ?_
 rintro _ w17 ⟨u15, G16, rfl, hr18, hx19⟩
 refine ⟨_, rfl, ?_⟩
 have hX20 := hX4.tr hx19
 refine qd rfl rfl rfl (r_move (v := (.tuple #[(.agg [u15].toArray), (.bool (rdB9 (tlB s)))])) rfl) (qd rfl rfl rfl (r_extract (v := (.agg [u15].toArray)) rfl rfl) (qd rfl rfl rfl (r_extract (v := (.bool (rdB9 (tlB s)))) rfl rfl) (q1 rfl rfl rfl (o_alloc [(.slice none 0 0)] zr56 rfl hX20.pins (fun b21 w22 hk23 hb24 hp25 hl26 => ?_)))))
 have hX27 := hX20.step hp25 hl26
 have hlo28 : w.heap.size ≤ b21 := by have := hX20.size; omega
 refine q0 rfl rfl rfl (o_stp (cs' := [u15]) (us := [u15]) (v := (.agg [u15].toArray)) sz56 rfl rfl rfl (ones1 hr18.one) hX27.pins hb24 (Nat.le_of_ble_eq_true rfl) rfl (fun w29 hb30 hp31 hg32 hz33 => ?_))
 have hX34 := hX27.write hp31 hg32 ((lo_box hlo28))
 obtain ⟨G35, hle36, hX37, hbp38, hf39⟩ := hb30.shut hX34 hlo28
 refine qd rfl rfl rfl (r_assign (v := (.bool (rdB9 (tlB s)))) rfl) (qe (s_then (s_seq (c_reg ?_))))
 refine qd rfl rfl rfl (r_move (v := (.bool (rdB9 (tlB s)))) rfl) (qd rfl rfl rfl (r_move (v := (.bool (rdB9 (tlB s)))) rfl) (qb (t := 37) rfl (fun h40 => ?_) (fun h40 => ?_)))
 have hr41 := hr18
 rw [rdF_yes h40] at hr41
 refine qdg rfl rfl rfl rfl rfl rfl (r_ldpA (cs := [u15]) ag56 sz56 rfl (fun j u hj => hX37.pins _ _ _ (hbp38 _ _ (by simpa using hj)))) (q1g rfl rfl rfl rfl rfl rfl (o_call (vs := [(.agg [u15].toArray)]) Tryz.func33 nm33 rfl rfl rfl ?_))
 refine Calls.mono (l21Free_spec hX37.pins (hr41.mono hle36) (rd_gb h40)) ?_
 rintro _ w43 ⟨G42, rfl, hx44⟩
 refine ⟨_, rfl, ?_⟩
 have hX45 := hX37.tr hx44
 refine qdg rfl rfl rfl rfl rfl rfl (r_leq rfl rfl) (qd rfl rfl rfl (r_pickT (v := (.bool (decide ((((frN (cellsM (partsB 47 (tlB s))) (partsB 47 (tlB s)).length : Nat) : Int) : Int) ≤ 9)))) rfl rfl) (qd rfl rfl rfl (r_assign (v := (.bool (decide ((((frN (cellsM (partsB 47 (tlB s))) (partsB 47 (tlB s)).length : Nat) : Int) : Int) ≤ 9)))) rfl) (qe (s_then ?_))))
 exact wp_ret (s_ret (c_ret1 (v := (.bool (decide ((((frN (cellsM (partsB 47 (tlB s))) (partsB 47 (tlB s)).length : Nat) : Int) : Int) ≤ 9)))) rfl rfl rfl (⟨_, congrArg (fun z => Ending.returned (Value.bool z)) (sg_t (by omega) (agk_4 (by omega) h40)), hX45⟩)))
 refine qs rfl rfl rfl rfl rfl rfl (qs rfl rfl rfl rfl rfl rfl (qs rfl rfl rfl rfl rfl rfl (qd rfl rfl rfl (r_pickF (v := (.bool false)) rfl rfl) (qd rfl rfl rfl (r_assign (v := (.bool false)) rfl) (qe (s_then ?_))))))
 exact wp_ret (s_ret (c_ret1 (v := (.bool false)) rfl rfl rfl (⟨_, congrArg (fun z => Ending.returned (Value.bool z)) (sg_t (by omega) (agk_4n (by omega) h40)), hX37⟩)))
 refine s_seq (c_reg ?_)
 refine qd rfl rfl rfl (r_move (v := (.int .i64 (kdI s))) rfl) (qd rfl rfl rfl (r_eql rfl rfl) (qd rfl rfl rfl (r_assign (v := (.bool (decide ((kdI s : Int) = 5)))) rfl) (qe (s_then ?_))))
 refine c_ifd (p := (kdI s : Int) = 5) rfl rfl (fun h46 => ?_) (fun h46 => ?_)
 refine s_seq (c_reg ?_)
 refine qd rfl rfl rfl (r_move (v := (.string (tlB s))) rfl) (q1 rfl rfl rfl (o_call (vs := [(.string (tlB s)), (.int .i64 8)]) Tryz.func34 nm34 rfl rfl rfl ?_))
 refine Calls.mono (l22Signs_spec (s := (tlB s)) (m := 8) hX4.pins (by omega)) ?_
 rintro _ w48 ⟨G47, rfl, hx49⟩
 refine ⟨_, rfl, ?_⟩
 have hX50 := hX4.tr hx49
 refine qd rfl rfl rfl (r_assign (v := (.bool (decP (SmP (tlB s) 8)))) rfl) (qe (s_then ?_))
 exact wp_ret (s_ret (c_ret1 (v := (.bool (decP (SmP (tlB s) 8)))) rfl rfl rfl (⟨_, congrArg (fun z => Ending.returned (Value.bool z)) (sg_t (by omega) (agk_5 (by omega))), hX50⟩)))
 refine wp_skip (s_blkN (s_then (s_seq (c_reg ?_))))
 refine qd rfl rfl rfl (r_move (v := (.string (tlB s))) rfl) (q1 rfl rfl rfl (o_call (vs := [(.string (tlB s))]) Tryz.func35 nm35 rfl rfl rfl ?_))
 refine Calls.mono (l1ReadX_spec (s := (tlB s)) hX4.pins (by omega)) ?_
 rintro _ w54 ⟨n51, ok52, G53, rfl, hrn55, hre56, hx57⟩
 refine ⟨_, rfl, ?_⟩
 have hX58 := hX4.tr hx57
 have hm59 := hrn55.lo
 have hm60 := hrn55.hi
 refine qd rfl rfl rfl (r_move (v := (.tuple #[(.int .i64 n51), (.bool ok52)])) rfl) (qd rfl rfl rfl (r_extract (v := (.int .i64 n51)) rfl rfl) (qd rfl rfl rfl (r_extract (v := (.bool ok52)) rfl rfl) (qd rfl rfl rfl (r_assign (v := (.int .i64 n51)) rfl) (qd rfl rfl rfl (r_assign (v := (.bool ok52)) rfl) (qe (s_then (s_seq (c_reg ?_))))))))
 refine qd rfl rfl rfl (r_move (v := (.bool ok52)) rfl) (qd rfl rfl rfl (r_move (v := (.bool ok52)) rfl) (qb (t := 53) rfl (fun h61 => ?_) (fun h61 => ?_)))
 refine qdg rfl rfl rfl rfl rfl rfl (r_move (v := (.int .i64 n51)) rfl) (q1g rfl rfl rfl rfl rfl rfl (o_call (vs := [(.int .i64 n51), (.int .i64 0), (.int .i64 7)]) Tryz.func36 nm36 rfl rfl rfl ?_))
 refine Calls.mono (l1InQ_spec hX58.pins) ?_
 rintro _ w63 ⟨G62, rfl, hx64⟩
 refine ⟨_, rfl, ?_⟩
 have hX65 := hX58.tr hx64
 refine qd rfl rfl rfl (r_pickT (v := (.bool (decide ((0 : Int) ≤ n51 ∧ (n51 : Int) ≤ 7)))) rfl rfl) (qd rfl rfl rfl (r_assign (v := (.bool (decide ((0 : Int) ≤ n51 ∧ (n51 : Int) ≤ 7)))) rfl) (qe (s_then ?_)))
 exact wp_ret (s_ret (c_ret1 (v := (.bool (decide ((0 : Int) ≤ n51 ∧ (n51 : Int) ≤ 7)))) rfl rfl rfl (⟨_, congrArg (fun z => Ending.returned (Value.bool z)) (sg_t (by omega) (by rw [agk_6 (by omega) hrn55 hre56, h61]; try rfl)), hX65⟩)))
 refine qs rfl rfl rfl rfl rfl rfl (qs rfl rfl rfl rfl rfl rfl (qd rfl rfl rfl (r_pickF (v := (.bool false)) rfl rfl) (qd rfl rfl rfl (r_assign (v := (.bool false)) rfl) (qe (s_then ?_)))))
 exact wp_ret (s_ret (c_ret1 (v := (.bool false)) rfl rfl rfl (⟨_, congrArg (fun z => Ending.returned (Value.bool z)) (sg_t (by omega) (by rw [agk_6 (by omega) hrn55 hre56, h61]; try rfl)), hX58⟩)))

end PW7
end Go.Proofs.YtianphgdbfekdaaGreatDoor

set_option maxRecDepth 20000
set_option maxHeartbeats 2000000
namespace Go.Proofs.YtianphgdbfekdaaGreatDoor
namespace PW8
open Go.RowKit Go.GL Go.Proofs
open PT3 PTB PW7




theorem l24Singles_spec {w : World} {G : Pin} {s : ByteArray} (hP : Pins G w) (hs : s.size ≤ 1048576) :
  Calls Tryz.prog 12 [(.string s)].toArray w fun e w' => ∃ (u : Value) (G' : Pin), e = .returned (.tuple #[u, .bool (psB s)]) ∧ RSl eStr G' u (psF s) ∧ Ext noS G w G' w' := by
 refine s_enter (n := 62) Tryz.func12 Tryz.ntmps12 rfl rfl ?_
 have hX0 : Ext noS G w G w := Ext.refl hP
 refine s_seq (c_reg ?_)
 refine qd rfl rfl rfl (r_assign (v := (.slice none 0 0)) rfl) (qd rfl rfl rfl (r_assign (v := (.bool false)) rfl) (qe (s_then (s_seq (c_reg ?_)))))
 refine q1 rfl rfl rfl (o_build0 (E := eStr) (e := 9) Tryz.underlying22 sz9 hX0.pins (fun u1 w2 ho3 hp4 hl5 hk6 => ?_))
 have hX7 := hX0.step hp4 hl5
 have ho8 : Own eStr 9 G w2 w.heap.size u1 ([]) := ho3.weaken hX0.size
 refine qd rfl rfl rfl (r_assign (v := u1) rfl) (qe (s_then (s_seq (s_seq (c_reg ?_)))))
 refine qd rfl rfl rfl (r_move (v := (.string s)) rfl) (qd rfl rfl rfl (r_eqlS rfl rfl) (qe (s_then ?_)))
 refine c_if rfl rfl (fun h9 => ?_) (fun h9 => ?_)
 refine s_seq (c_reg ?_)
 refine qd rfl rfl rfl (r_move (v := u1) rfl) (qd rfl rfl rfl (r_assign (v := u1) rfl) (qd rfl rfl rfl (r_assign (v := (.bool true)) rfl) (qe (s_then ?_))))
 refine wp_ret (s_ret (c_ret2 (v := u1) (u := (.bool true)) rfl rfl rfl rfl rfl ?_))
 obtain ⟨G10, hle13, hX12, hr11, hf14⟩ := ho8.sealed hX7
 obtain ⟨e1, e2⟩ := ps_none h9
 exact ⟨_, _, (by rw [e1]), (by rw [e2]; exact hr11), hX12⟩
 refine wp_skip (s_then (s_seq (c_reg ?_)))
 refine qd rfl rfl rfl (r_assign (v := (.int .i64 0)) rfl) (qe (s_then (s_seq (s_seq (c_reg ?_)))))
 refine qd rfl rfl rfl (r_assign (v := (.int .i64 0)) rfl) (qe (s_then ?_))
 refine s_blk (s_loop (fun (k : Nat) (en : Nat → Value) (W : World) => ∃ (env1 : Nat → Value) (i9 : Nat) (f9 : Nat) (ov : Value) (os : List ByteArray) (GL1 : Pin), en = (upd (upd (upd (upd env1 0 (.string s)) 4 ov) 5 (.int .i64 (f9 : Int))) 6 (.int .i64 (i9 : Int))) ∧ k = s.size + 1 - i9 ∧ Ext noS G w GL1 W ∧ Pin.le G GL1 ∧ (i9 ≤ s.size + 1) ∧ (SqJ s i9 f9 os) ∧ (∀ x ∈ os, SgP x) ∧ (os.length ≤ 6) ∧ (Own eStr 9 GL1 W w.heap.size ov (os))) _ ⟨_, 0, 0, u1, [], G, (packS (x := 6) (packS (x := 5) (packS (x := 4) (pack1 (x := 0) rfl) rfl) rfl) rfl), rfl, hX7, Pin.le_refl _, Nat.zero_le _, (Or.inl ⟨Nat.zero_le _, sqI_zero⟩), (fun x hx => (List.not_mem_nil hx).elim), Nat.zero_le _, ho8⟩ ?_)
 rintro k15 _ w16 ⟨env1, i9, f9, ov, os, GL1, rfl, hk17, hX18, hlek15, hi, hsq, hsg, hol, hw19⟩
 refine s_seq (s_seq (c_reg ?_))
 refine qd rfl rfl rfl (r_move (v := (.int .i64 (i9 : Int))) rfl) (qd rfl rfl rfl (r_move (v := (.string s)) rfl) (qd rfl rfl rfl (r_lenS Tryz.underlying9 rfl) (qd rfl rfl rfl (r_leq rfl rfl) (qe (s_then ?_)))))
 refine c_ifd (p := ((i9 : Int) : Int) ≤ (s.size : Int)) rfl rfl (fun h20 => ?_) (fun h20 => ?_)
 have hS := sqJ_in hsq (by omega)
 have hfl := hS.le
 refine wp_skip (s_then (s_seq ?_))
 refine s_blk (s_seq (s_seq (c_reg ?_)))
 refine qd rfl rfl rfl (r_move (v := (.int .i64 (i9 : Int))) rfl) (qd rfl rfl rfl (r_move (v := (.string s)) rfl) (qd rfl rfl rfl (r_lenS Tryz.underlying9 rfl) (qd rfl rfl rfl (r_lss rfl rfl) (qd rfl rfl rfl (r_move (v := (.bool (decide (((i9 : Int) : Int) < (s.size : Int))))) rfl) (qbd (p := ((i9 : Int) : Int) < (s.size : Int)) (t := 21) rfl (fun h21 => ?_) (fun h21 => ?_))))))
 refine qdg rfl rfl rfl rfl rfl rfl (r_move (v := (.int .i64 (i9 : Int))) rfl) (qdg rfl rfl rfl rfl rfl rfl (r_add rfl rfl (by omega)) (qdg rfl rfl rfl rfl rfl rfl (r_move (v := (.string s)) rfl) (qdg rfl rfl rfl rfl rfl rfl (r_lenS Tryz.underlying9 rfl) (qdg rfl rfl rfl rfl rfl rfl (r_gtr rfl rfl) (qdg rfl rfl rfl rfl rfl rfl (r_move (v := (.bool (decide (((s.size : Int) : Int) < ((i9 : Int) + 3))))) rfl) (qbd (p := ((s.size : Int) : Int) < ((i9 : Int) + 3)) (t := 27) rfl (fun h22 => ?_) (fun h22 => ?_)))))))
 refine qs rfl rfl rfl rfl rfl rfl (qs rfl rfl rfl rfl rfl rfl (qs rfl rfl rfl rfl rfl rfl (qs rfl rfl rfl rfl rfl rfl (qs rfl rfl rfl rfl rfl rfl (qs rfl rfl rfl rfl rfl rfl (qdg rfl rfl rfl rfl rfl rfl (r_pickT (v := (.bool true)) rfl rfl) (qd rfl rfl rfl (r_pickT (v := (.bool true)) rfl rfl) (qd rfl rfl rfl (r_move (v := (.bool true)) rfl) (qs rfl rfl rfl rfl rfl rfl (qs rfl rfl rfl rfl rfl rfl (qs rfl rfl rfl rfl rfl rfl (qd rfl rfl rfl (r_pickT (v := (.bool true)) rfl rfl) (qe (s_then ?_))))))))))))))
 refine c_ifT rfl rfl (wp_exit (s_thenE (s_blkE (s_then (c_reg ?_)))))
 refine qd rfl rfl rfl (r_move (v := (.int .i64 (i9 : Int))) rfl) (qd rfl rfl rfl (r_add rfl rfl (by omega)) (qd rfl rfl rfl (r_assign (v := (.int .i64 ((i9 : Int) + 1))) rfl) (qe (s_lopN (⟨_, ?_, _, rfl, _, i9 + 1, f9, ov, os, GL1, (packS (x := 6) (packS (x := 5) (packS (x := 4) (pack1 (x := 0) rfl) rfl) rfl) rfl), rfl, hX18, hlek15, (by omega), (Or.inl ⟨by omega, sqI_end hS (by omega)⟩), hsg, (by omega), hw19⟩)))))
 omega
 refine qdg rfl rfl rfl rfl rfl rfl (r_move (v := (.string s)) rfl) (qdg rfl rfl rfl rfl rfl rfl (r_move (v := (.int .i64 (i9 : Int))) rfl) (qdg rfl rfl rfl rfl rfl rfl (r_move (v := (.int .i64 (i9 : Int))) rfl) (qdg rfl rfl rfl rfl rfl rfl (r_add rfl rfl (by omega)) ?_)))
 have hm23 : (s.extract i9 ((i9 : Int) + 3).toNat).size = min ((i9 : Int) + 3).toNat s.size - i9 := ByteArray.size_extract
 refine qdg rfl rfl rfl rfl rfl rfl (r_cutB Tryz.underlying9 rfl rfl rfl (by omega) (by omega) (by omega)) (qdg rfl rfl rfl rfl rfl rfl (r_neqS rfl rfl) (qdg rfl rfl rfl rfl rfl rfl (r_pickF (v := (.bool (!((s.extract i9 ((i9 : Int) + 3).toNat).toList == (⟨#[32, 43, 32]⟩ : ByteArray).toList)))) rfl rfl) (qd rfl rfl rfl (r_pickT (v := (.bool (!((s.extract i9 ((i9 : Int) + 3).toNat).toList == (⟨#[32, 43, 32]⟩ : ByteArray).toList)))) rfl rfl) (qd rfl rfl rfl (r_move (v := (.bool (!((s.extract i9 ((i9 : Int) + 3).toNat).toList == (⟨#[32, 43, 32]⟩ : ByteArray).toList)))) rfl) (qbn (t := 36) rfl (fun h24 => ?_) (fun h24 => ?_))))))
 refine qdg rfl rfl rfl rfl rfl rfl (r_move (v := (.int .i64 (i9 : Int))) rfl) (qdg rfl rfl rfl rfl rfl rfl (r_move (v := (.int .i64 (f9 : Int))) rfl) (qdg rfl rfl rfl rfl rfl rfl (r_lss rfl rfl) (qd rfl rfl rfl (r_pickF (v := (.bool (decide (((i9 : Int) : Int) < (f9 : Int))))) rfl rfl) (qe (s_then ?_)))))
 refine c_ifd (p := ((i9 : Int) : Int) < (f9 : Int)) rfl rfl (fun h25 => ?_) (fun h25 => ?_)
 refine wp_exit (s_thenE (s_blkE (s_then (c_reg ?_))))
 refine qd rfl rfl rfl (r_move (v := (.int .i64 (i9 : Int))) rfl) (qd rfl rfl rfl (r_add rfl rfl (by omega)) (qd rfl rfl rfl (r_assign (v := (.int .i64 ((i9 : Int) + 1))) rfl) (qe (s_lopN (⟨_, ?_, _, rfl, _, i9 + 1, f9, ov, os, GL1, (packS (x := 6) (packS (x := 5) (packS (x := 4) (pack1 (x := 0) rfl) rfl) rfl) rfl), rfl, hX18, hlek15, (by omega), (Or.inl ⟨by omega, sqI_skip hS (by omega)⟩), hsg, (by omega), hw19⟩)))))
 omega
 refine wp_skip (s_then (s_seq (s_seq (c_reg ?_))))
 refine qd rfl rfl rfl (r_move (v := (.string s)) rfl) (qd rfl rfl rfl (r_move (v := (.int .i64 (f9 : Int))) rfl) (qd rfl rfl rfl (r_move (v := (.int .i64 (i9 : Int))) rfl) ?_))
 have hm26 : (s.extract f9 i9).size = min i9 s.size - f9 := ByteArray.size_extract
 refine qd rfl rfl rfl (r_cutB Tryz.underlying9 rfl rfl rfl (by omega) (by omega) (by omega)) (q1 rfl rfl rfl (o_call (vs := [(.string (s.extract f9 i9))]) Tryz.func20 nm20 rfl rfl rfl ?_))
 refine Calls.mono (l24Single_spec (s := (s.extract f9 i9)) hX18.pins (by omega)) ?_
 rintro _ w28 ⟨G27, rfl, hx29⟩
 refine ⟨_, rfl, ?_⟩
 have hX30 := hX18.tr hx29
 have ho31 := hw19.ext hx29
 refine qd rfl rfl rfl (r_not rfl) (qd rfl rfl rfl (r_move (v := (.bool (!(sgB (s.extract f9 i9))))) rfl) (qbn (t := 47) rfl (fun h32 => ?_) (fun h32 => ?_)))
 refine qdg rfl rfl rfl rfl rfl rfl (r_move (v := ov) rfl) (qdg rfl rfl rfl rfl rfl rfl (run_len Tryz.underlying22 (v := ov) rfl ho31.read) (qdg rfl rfl rfl rfl rfl rfl (r_eql rfl rfl) (qd rfl rfl rfl (r_pickF (v := (.bool (decide (((os.length : Int) : Int) = 6)))) rfl rfl) (qe (s_then ?_)))))
 refine c_ifd (p := ((os.length : Int) : Int) = 6) rfl rfl (fun h33 => ?_) (fun h33 => ?_)
 refine s_seq (c_reg ?_)
 refine qd rfl rfl rfl (r_assign (v := (.slice none 0 0)) rfl) (qd rfl rfl rfl (r_assign (v := (.bool false)) rfl) (qe (s_then ?_)))
 refine wp_ret (s_ret (c_ret2 (v := (.slice none 0 0)) (u := (.bool false)) rfl rfl rfl rfl rfl ?_))
 have hm9 := sq_memY hS (by omega) (by omega) h24
 have hm8 := hm9.2
 have hpb : psB s = false := ps_many h9 (by omega)
 exact ⟨_, _, (by rw [hpb]), (by rw [psF_no hpb]; exact (nil_reads _ _)), hX30⟩
 refine wp_skip (s_then (s_seq (c_reg ?_)))
 refine qd rfl rfl rfl (r_move (v := ov) rfl) (qd rfl rfl rfl (r_move (v := (.string s)) rfl) (qd rfl rfl rfl (r_move (v := (.int .i64 (f9 : Int))) rfl) (qd rfl rfl rfl (r_move (v := (.int .i64 (i9 : Int))) rfl) ?_)))
 have hm34 : (s.extract f9 i9).size = min i9 s.size - f9 := ByteArray.size_extract
 refine qd rfl rfl rfl (r_cutB Tryz.underlying9 rfl rfl rfl (by omega) (by omega) (by omega)) (q1 rfl rfl rfl (o_buildF (E := eStr) (e := 9) [(.string (s.extract f9 i9))] [s.extract f9 i9] Tryz.underlying22 sz9 zr9 (by exact reps1 (by rfl)) (ones1 (by rfl)) rfl rfl rfl rfl (by decide) hX30.pins (fun u35 w36 ho37 hp38 hl39 hk40 => ?_)))
 have hX41 := hX30.step hp38 hl39
 have ho42 := ho31.below hl39
 have ho44 : Own eStr 9 G27 w36 w.heap.size u35 ([s.extract f9 i9]) := ho37.weaken hX30.size
 refine q1 rfl rfl rfl (o_append (E := eStr) (v := ov) (u := u35) 16 Tryz.underlying22 ap9 (by decide) rfl rfl hX41.pins ho42 ho44.src (by first | omega | (rw [List.nil_append]; omega) | (rw [List.length_nil]; omega) | (rw [List.length_append]; omega) | (simp; done) | (simp; omega) | (simp only [List.length_cons, List.length_nil]; omega) | (simp only [List.length_append, List.length_cons, List.length_nil]; omega)) (by first | omega | (rw [List.nil_append]; omega) | (rw [List.length_nil]; omega) | (rw [List.length_append]; omega) | (simp; done) | (simp; omega) | (simp only [List.length_cons, List.length_nil]; omega) | (simp only [List.length_append, List.length_cons, List.length_nil]; omega)) (hX41.size) (fun u45 w46 ho47 hp48 hg49 hw50 => ?_))
 have hX51 := hX41.write hp48 hg49 ((lo_own ho42))
 have hm54 : (os ++ ([s.extract f9 i9])).length = os.length + 1 := List.length_append
 refine qd rfl rfl rfl (r_assign (v := u45) rfl) (qe (s_then (c_reg ?_)))
 refine qd rfl rfl rfl (r_move (v := (.int .i64 (i9 : Int))) rfl) (qd rfl rfl rfl (r_add rfl rfl (by omega)) (qd rfl rfl rfl (r_assign (v := (.int .i64 ((i9 : Int) + 3))) rfl) (qe (s_blkN (s_then (c_reg ?_))))))
 refine qd rfl rfl rfl (r_move (v := (.int .i64 (i9 : Int))) rfl) (qd rfl rfl rfl (r_add rfl rfl (by omega)) (qd rfl rfl rfl (r_assign (v := (.int .i64 ((i9 : Int) + 1))) rfl) (qe (s_lopN (⟨_, ?_, _, rfl, _, i9 + 1, i9 + 3, u45, os ++ ([s.extract f9 i9]), G27, (packS (x := 6) (packS (x := 5) (packS (x := 4) (pack1 (x := 0) rfl) rfl) rfl) rfl), rfl, hX51, (Pin.le_trans hlek15 hx29.le), (by omega), (Or.inl ⟨by omega, sqI_yes hS (by omega) (by omega) h24⟩), (snocP hsg (decP_true.1 h32)), (by simp; omega), ho47⟩)))))
 omega
 refine qs rfl rfl rfl rfl rfl rfl (qs rfl rfl rfl rfl rfl rfl (qs rfl rfl rfl rfl rfl rfl (qd rfl rfl rfl (r_pickT (v := (.bool true)) rfl rfl) (qe (s_then ?_)))))
 refine c_ifT rfl rfl (s_seq (c_reg ?_))
 refine qd rfl rfl rfl (r_assign (v := (.slice none 0 0)) rfl) (qd rfl rfl rfl (r_assign (v := (.bool false)) rfl) (qe (s_then ?_)))
 refine wp_ret (s_ret (c_ret2 (v := (.slice none 0 0)) (u := (.bool false)) rfl rfl rfl rfl rfl ?_))
 have hm9 := sq_memY hS (by omega) (by omega) h24
 have hm8 := hm9.2
 have hpb : psB s = false := ps_bad h9 hm9.1 (decP_false.1 h32)
 exact ⟨_, _, (by rw [hpb]), (by rw [psF_no hpb]; exact (nil_reads _ _)), hX30⟩
 refine qs rfl rfl rfl rfl rfl rfl (qs rfl rfl rfl rfl rfl rfl (qs rfl rfl rfl rfl rfl rfl (qd rfl rfl rfl (r_pickT (v := (.bool true)) rfl rfl) (qe (s_then ?_)))))
 refine c_ifT rfl rfl (wp_exit (s_thenE (s_blkE (s_then (c_reg ?_)))))
 refine qd rfl rfl rfl (r_move (v := (.int .i64 (i9 : Int))) rfl) (qd rfl rfl rfl (r_add rfl rfl (by omega)) (qd rfl rfl rfl (r_assign (v := (.int .i64 ((i9 : Int) + 1))) rfl) (qe (s_lopN (⟨_, ?_, _, rfl, _, i9 + 1, f9, ov, os, GL1, (packS (x := 6) (packS (x := 5) (packS (x := 4) (pack1 (x := 0) rfl) rfl) rfl) rfl), rfl, hX18, hlek15, (by omega), (Or.inl ⟨by omega, sqI_no hS h24⟩), hsg, (by omega), hw19⟩)))))
 omega
 refine qs rfl rfl rfl rfl rfl rfl (qs rfl rfl rfl rfl rfl rfl (qs rfl rfl rfl rfl rfl rfl (qs rfl rfl rfl rfl rfl rfl (qs rfl rfl rfl rfl rfl rfl (qs rfl rfl rfl rfl rfl rfl (qsu rfl rfl rfl rfl rfl (qsu rfl rfl rfl rfl rfl (qsu rfl rfl rfl rfl rfl (qsu rfl rfl rfl rfl rfl (qsu rfl rfl rfl rfl rfl (qsu rfl rfl rfl rfl rfl (qs rfl rfl rfl rfl rfl rfl (qd rfl rfl rfl (r_pickF (v := (.bool false)) rfl rfl) (qd rfl rfl rfl (r_move (v := (.bool false)) rfl) (qdg rfl rfl rfl rfl rfl rfl (r_move (v := (.int .i64 (i9 : Int))) rfl) (qdg rfl rfl rfl rfl rfl rfl (r_move (v := (.int .i64 (f9 : Int))) rfl) (qdg rfl rfl rfl rfl rfl rfl (r_lss rfl rfl) (qd rfl rfl rfl (r_pickF (v := (.bool (decide (((i9 : Int) : Int) < (f9 : Int))))) rfl rfl) (qe (s_then ?_))))))))))))))))))))
 refine c_ifd (p := ((i9 : Int) : Int) < (f9 : Int)) rfl rfl (fun h55 => ?_) (fun h55 => ?_)
 refine wp_exit (s_thenE (s_blkE (s_then (c_reg ?_))))
 refine qd rfl rfl rfl (r_move (v := (.int .i64 (i9 : Int))) rfl) (qd rfl rfl rfl (r_add rfl rfl (by omega)) (qd rfl rfl rfl (r_assign (v := (.int .i64 ((i9 : Int) + 1))) rfl) (qe (s_lopN (⟨_, ?_, _, rfl, _, i9 + 1, f9, ov, os, GL1, (packS (x := 6) (packS (x := 5) (packS (x := 4) (pack1 (x := 0) rfl) rfl) rfl) rfl), rfl, hX18, hlek15, (by omega), (Or.inl ⟨by omega, sqI_skip hS (by omega)⟩), hsg, (by omega), hw19⟩)))))
 omega
 refine wp_skip (s_then (s_seq (s_seq (c_reg ?_))))
 refine qd rfl rfl rfl (r_move (v := (.string s)) rfl) (qd rfl rfl rfl (r_move (v := (.int .i64 (f9 : Int))) rfl) (qd rfl rfl rfl (r_move (v := (.int .i64 (i9 : Int))) rfl) ?_))
 have hm56 : (s.extract f9 i9).size = min i9 s.size - f9 := ByteArray.size_extract
 refine qd rfl rfl rfl (r_cutB Tryz.underlying9 rfl rfl rfl (by omega) (by omega) (by omega)) (q1 rfl rfl rfl (o_call (vs := [(.string (s.extract f9 i9))]) Tryz.func20 nm20 rfl rfl rfl ?_))
 refine Calls.mono (l24Single_spec (s := (s.extract f9 i9)) hX18.pins (by omega)) ?_
 rintro _ w58 ⟨G57, rfl, hx59⟩
 refine ⟨_, rfl, ?_⟩
 have hX60 := hX18.tr hx59
 have ho61 := hw19.ext hx59
 refine qd rfl rfl rfl (r_not rfl) (qd rfl rfl rfl (r_move (v := (.bool (!(sgB (s.extract f9 i9))))) rfl) (qbn (t := 47) rfl (fun h62 => ?_) (fun h62 => ?_)))
 refine qdg rfl rfl rfl rfl rfl rfl (r_move (v := ov) rfl) (qdg rfl rfl rfl rfl rfl rfl (run_len Tryz.underlying22 (v := ov) rfl ho61.read) (qdg rfl rfl rfl rfl rfl rfl (r_eql rfl rfl) (qd rfl rfl rfl (r_pickF (v := (.bool (decide (((os.length : Int) : Int) = 6)))) rfl rfl) (qe (s_then ?_)))))
 refine c_ifd (p := ((os.length : Int) : Int) = 6) rfl rfl (fun h63 => ?_) (fun h63 => ?_)
 refine s_seq (c_reg ?_)
 refine qd rfl rfl rfl (r_assign (v := (.slice none 0 0)) rfl) (qd rfl rfl rfl (r_assign (v := (.bool false)) rfl) (qe (s_then ?_)))
 refine wp_ret (s_ret (c_ret2 (v := (.slice none 0 0)) (u := (.bool false)) rfl rfl rfl rfl rfl ?_))
 have hm9 := sq_memE hS (by omega)
 have hm8 := hm9.2
 have hpb : psB s = false := ps_many h9 (by omega)
 exact ⟨_, _, (by rw [hpb]), (by rw [psF_no hpb]; exact (nil_reads _ _)), hX60⟩
 refine wp_skip (s_then (s_seq (c_reg ?_)))
 refine qd rfl rfl rfl (r_move (v := ov) rfl) (qd rfl rfl rfl (r_move (v := (.string s)) rfl) (qd rfl rfl rfl (r_move (v := (.int .i64 (f9 : Int))) rfl) (qd rfl rfl rfl (r_move (v := (.int .i64 (i9 : Int))) rfl) ?_)))
 have hm64 : (s.extract f9 i9).size = min i9 s.size - f9 := ByteArray.size_extract
 refine qd rfl rfl rfl (r_cutB Tryz.underlying9 rfl rfl rfl (by omega) (by omega) (by omega)) (q1 rfl rfl rfl (o_buildF (E := eStr) (e := 9) [(.string (s.extract f9 i9))] [s.extract f9 i9] Tryz.underlying22 sz9 zr9 (by exact reps1 (by rfl)) (ones1 (by rfl)) rfl rfl rfl rfl (by decide) hX60.pins (fun u65 w66 ho67 hp68 hl69 hk70 => ?_)))
 have hX71 := hX60.step hp68 hl69
 have ho72 := ho61.below hl69
 have ho74 : Own eStr 9 G57 w66 w.heap.size u65 ([s.extract f9 i9]) := ho67.weaken hX60.size
 refine q1 rfl rfl rfl (o_append (E := eStr) (v := ov) (u := u65) 16 Tryz.underlying22 ap9 (by decide) rfl rfl hX71.pins ho72 ho74.src (by first | omega | (rw [List.nil_append]; omega) | (rw [List.length_nil]; omega) | (rw [List.length_append]; omega) | (simp; done) | (simp; omega) | (simp only [List.length_cons, List.length_nil]; omega) | (simp only [List.length_append, List.length_cons, List.length_nil]; omega)) (by first | omega | (rw [List.nil_append]; omega) | (rw [List.length_nil]; omega) | (rw [List.length_append]; omega) | (simp; done) | (simp; omega) | (simp only [List.length_cons, List.length_nil]; omega) | (simp only [List.length_append, List.length_cons, List.length_nil]; omega)) (hX71.size) (fun u75 w76 ho77 hp78 hg79 hw80 => ?_))
 have hX81 := hX71.write hp78 hg79 ((lo_own ho72))
 have hm84 : (os ++ ([s.extract f9 i9])).length = os.length + 1 := List.length_append
 refine qd rfl rfl rfl (r_assign (v := u75) rfl) (qe (s_then (c_reg ?_)))
 refine qd rfl rfl rfl (r_move (v := (.int .i64 (i9 : Int))) rfl) (qd rfl rfl rfl (r_add rfl rfl (by omega)) (qd rfl rfl rfl (r_assign (v := (.int .i64 ((i9 : Int) + 3))) rfl) (qe (s_blkN (s_then (c_reg ?_))))))
 refine qd rfl rfl rfl (r_move (v := (.int .i64 (i9 : Int))) rfl) (qd rfl rfl rfl (r_add rfl rfl (by omega)) (qd rfl rfl rfl (r_assign (v := (.int .i64 ((i9 : Int) + 1))) rfl) (qe (s_lopN (⟨_, ?_, _, rfl, _, i9 + 1, i9 + 3, u75, os ++ ([s.extract f9 i9]), G57, (packS (x := 6) (packS (x := 5) (packS (x := 4) (pack1 (x := 0) rfl) rfl) rfl) rfl), rfl, hX81, (Pin.le_trans hlek15 hx59.le), (by omega), (Or.inr ⟨by omega, by rw [sqI_done hS (by omega), show s.size = i9 by omega]⟩), (snocP hsg (decP_true.1 h62)), (by simp; omega), ho77⟩)))))
 omega
 refine qs rfl rfl rfl rfl rfl rfl (qs rfl rfl rfl rfl rfl rfl (qs rfl rfl rfl rfl rfl rfl (qd rfl rfl rfl (r_pickT (v := (.bool true)) rfl rfl) (qe (s_then ?_)))))
 refine c_ifT rfl rfl (s_seq (c_reg ?_))
 refine qd rfl rfl rfl (r_assign (v := (.slice none 0 0)) rfl) (qd rfl rfl rfl (r_assign (v := (.bool false)) rfl) (qe (s_then ?_)))
 refine wp_ret (s_ret (c_ret2 (v := (.slice none 0 0)) (u := (.bool false)) rfl rfl rfl rfl rfl ?_))
 have hm9 := sq_memE hS (by omega)
 have hm8 := hm9.2
 have hpb : psB s = false := ps_bad h9 hm9.1 (decP_false.1 h62)
 exact ⟨_, _, (by rw [hpb]), (by rw [psF_no hpb]; exact (nil_reads _ _)), hX60⟩
 refine wp_exit (s_thenE (s_lopE (s_blkE (s_then (s_seq (c_reg ?_))))))
 refine qd rfl rfl rfl (r_move (v := ov) rfl) (qd rfl rfl rfl (r_assign (v := ov) rfl) (qd rfl rfl rfl (r_assign (v := (.bool true)) rfl) (qe (s_then ?_))))
 refine wp_ret (s_ret (c_ret2 (v := ov) (u := (.bool true)) rfl rfl rfl rfl rfl ?_))
 obtain ⟨G85, hle88, hX87, hr86, hf89⟩ := hw19.sealed hX18
 have hwo := sqJ_out hsq (by omega)
 obtain ⟨e1, e2⟩ := ps_good h9 (by rw [hwo]; omega) (by rw [hwo]; exact hsg)
 exact ⟨_, _, (by rw [e1]), (by rw [e2, hwo]; exact hr86), hX87⟩

end PW8
end Go.Proofs.YtianphgdbfekdaaGreatDoor

namespace Go.GL
open Go Go.RowKit
theorem dr_weak {P : Program} {md : Region.Mode} {ops : Array Oper} {Q : Exit → Act → World → Prop} {S S' : World → Prop} {last : Nat} (hS : ∀ w, S' w → S w) : ∀ (fuel : Nat) (listed : Array Bool) (a : Act) (w : World), dr P md ops Q S' last fuel listed a w → dr P md ops Q S last fuel listed a w
 | 0, _, _, _, h => h
 | fuel + 1, _, _, _, h => ⟨h.1, fun i hi => wpOp_mono (fun a' w' h' => ⟨fun hne => hS _ (h'.1 hne), dr_weak hS fuel _ a' w' h'.2⟩) (h.2 i hi)⟩
theorem dr_more {P : Program} {ops : Array Oper} {Q : Exit → Act → World → Prop} {S' S : World → Prop} {last fuel : Nat} {listed : Array Bool} {a : Act} {w : World} (hS : ∀ w, S' w → S w) (h : DR P ops Q S' last fuel listed a w) : DR P ops Q S last fuel listed a w :=
 ⟨dr_weak hS _ _ _ _ h.out⟩
end Go.GL

set_option maxRecDepth 20000
set_option maxHeartbeats 2000000
namespace Go.Proofs.YtianphgdbfekdaaGreatDoor
namespace PS6
open Go.RowKit Go.GL Go.Proofs
open PT3 PTB

theorem is23_spec {w : World} {G : Pin} {s : ByteArray} {i : Int} {c : UInt8} (hP : Pins G w) (hs : s.size ≤ 1000) (hc : (c.toNat : Int) ≠ 0) :
  Calls Tryz.prog 87 [(.string s), (.int .i64 i), (.int .u8 (c.toNat : Int))].toArray w fun e w' => ∃ G', e = .returned (.bool (decide (((cB s i).toNat : Int) = (c.toNat : Int)))) ∧ Ext noS G w G' w' := by
 refine s_enter (n := 19) Tryz.func87 Tryz.ntmps87 rfl rfl ?_
 have hX0 : Ext noS G w G w := Ext.refl hP
 refine s_seq (c_reg ?_)
 refine qd rfl rfl rfl (r_assign (v := (.bool false)) rfl) (qe (s_then (s_seq (c_reg ?_))))
 refine qd rfl rfl rfl (r_move (v := (.int .i64 i)) rfl) (qd rfl rfl rfl (r_move (v := (.string s)) rfl) (qd rfl rfl rfl (r_lenS Tryz.underlying9 rfl) (qd rfl rfl rfl (r_sub rfl rfl (by omega)) (q1 rfl rfl rfl (o_call (vs := [(.int .i64 i), (.int .i64 0), (.int .i64 ((s.size : Int) - 1))]) Tryz.func36 nm36 rfl rfl rfl ?_)))))
 refine Calls.mono (l1InQ_spec hX0.pins) ?_
 rintro _ w2 ⟨G1, rfl, hx3⟩
 refine ⟨_, rfl, ?_⟩
 have hX4 := hX0.tr hx3
 refine qd rfl rfl rfl (r_move (v := (.bool (decide ((0 : Int) ≤ i ∧ (i : Int) ≤ ((s.size : Int) - 1))))) rfl) (qbd (p := ((0 : Int) ≤ i ∧ (i : Int) ≤ ((s.size : Int) - 1))) (t := 12) rfl (fun h5 => ?_) (fun h5 => ?_))
 refine qdg rfl rfl rfl rfl rfl rfl (r_move (v := (.string s)) rfl) (qdg rfl rfl rfl rfl rfl rfl (r_move (v := (.int .i64 i)) rfl) (qdg rfl rfl rfl rfl rfl rfl (r_idxB Tryz.underlying9 rfl rfl (by omega) (by omega)) (qdg rfl rfl rfl rfl rfl rfl (r_move (v := (.int .u8 (c.toNat : Int))) rfl) (qdg rfl rfl rfl rfl rfl rfl (r_eql rfl rfl) (qd rfl rfl rfl (r_pickT (v := (.bool (decide ((((sB s (i).toNat).toNat : Int) : Int) = (c.toNat : Int))))) rfl rfl) (qd rfl rfl rfl (r_assign (v := (.bool (decide ((((sB s (i).toNat).toNat : Int) : Int) = (c.toNat : Int))))) rfl) (qe (s_then ?_))))))))
 exact wp_ret (s_ret (c_ret1 (v := (.bool (decide ((((sB s (i).toNat).toNat : Int) : Int) = (c.toNat : Int))))) rfl rfl rfl (⟨_, congrArg (fun z => Ending.returned (Value.bool z)) (by rw [cB_in (by omega)]), hX4⟩)))
 refine qs rfl rfl rfl rfl rfl rfl (qs rfl rfl rfl rfl rfl rfl (qs rfl rfl rfl rfl rfl rfl (qs rfl rfl rfl rfl rfl rfl (qs rfl rfl rfl rfl rfl rfl (qd rfl rfl rfl (r_pickF (v := (.bool false)) rfl rfl) (qd rfl rfl rfl (r_assign (v := (.bool false)) rfl) (qe (s_then ?_))))))))
 exact wp_ret (s_ret (c_ret1 (v := (.bool false)) rfl rfl rfl (⟨_, congrArg (fun z => Ending.returned (Value.bool z)) (decide_eq_false (fun e => by rw [cB_out (by omega)] at e; exact hc e.symm)).symm, hX4⟩)))

end PS6
end Go.Proofs.YtianphgdbfekdaaGreatDoor

set_option maxRecDepth 20000
set_option maxHeartbeats 2000000
namespace Go.Proofs.YtianphgdbfekdaaGreatDoor
namespace PS7
open Go.RowKit Go.GL Go.Proofs

theorem set23_spec {w : World} {G : Pin} {s t : ByteArray} {i : Int} (hP : Pins G w) (hs : s.size ≤ 1000) (ht : t.size ≤ 1000) (hi : 0 ≤ i ∧ i < (s.size : Int)) :
  Calls Tryz.prog 88 [(.string s), (.int .i64 i), (.string t)].toArray w fun e w' => ∃ G', e = .returned (.string (setX s i.toNat t)) ∧ Ext noS G w G' w' := by
 refine s_enter (n := 17) Tryz.func88 Tryz.ntmps88 rfl rfl ?_
 have hX0 : Ext noS G w G w := Ext.refl hP
 refine s_seq (c_reg ?_)
 refine qd rfl rfl rfl (r_assign (v := (.string (⟨#[]⟩ : ByteArray))) rfl) (qe (s_then (s_seq ?_)))
 refine c_draw (S := fun wz => Pins G wz) (last := 11) (by kernel_rfl) rfl ?_
 have hl1 : Below w.heap.size w w.drew := (Below.refl _ _).drew
 have hp2 := hX0.pins.below hl1
 have hX3 := hX0.step hp2 hl1
 refine dr_take (i := 0) rfl rfl rfl (want_none rfl _) (by kernel_rfl) (fun _ _ => r_move (v := (.string s)) rfl) hX3.pins (dr_take (i := 1) rfl rfl rfl (want_none rfl _) (by kernel_rfl) (fun _ _ => r_move (v := (.int .i64 i)) rfl) hX3.pins ?_)
 have hm4 : (s.extract 0 (i).toNat).size = min (i).toNat s.size - 0 := ByteArray.size_extract
 refine dr_take (i := 2) rfl rfl rfl (want_none rfl _) (by kernel_rfl) (fun _ _ => r_cutS Tryz.underlying9 rfl rfl (by omega) (by omega)) hX3.pins (dr_take (i := 3) rfl rfl rfl (want_none rfl _) (by kernel_rfl) (fun _ _ => r_move (v := (.string t)) rfl) hX3.pins ?_)
 have hm5 : ((s.extract 0 (i).toNat) ++ t).size = (s.extract 0 (i).toNat).size + t.size := ByteArray.size_append
 refine dr_take (i := 4) rfl rfl rfl (want_none rfl _) (by kernel_rfl) (fun _ _ => r_addS rfl rfl (by omega)) hX3.pins (dr_take (i := 5) rfl rfl rfl (want_none rfl _) (by kernel_rfl) (fun _ _ => r_move (v := (.string s)) rfl) hX3.pins (dr_take (i := 6) rfl rfl rfl (want_none rfl _) (by kernel_rfl) (fun _ _ => r_move (v := (.int .i64 i)) rfl) hX3.pins (dr_take (i := 7) rfl rfl rfl (want_none rfl _) (by kernel_rfl) (fun _ _ => r_add rfl rfl (by omega)) hX3.pins ?_)))
 have hm6 : (s.extract (i + 1).toNat s.size).size = min s.size s.size - (i + 1).toNat := ByteArray.size_extract
 refine dr_take (i := 8) rfl rfl rfl (want_none rfl _) (by kernel_rfl) (fun _ _ => r_cutL Tryz.underlying9 rfl rfl (by omega) (by omega)) hX3.pins ?_
 have hm7 : (((s.extract 0 (i).toNat) ++ t) ++ (s.extract (i + 1).toNat s.size)).size = ((s.extract 0 (i).toNat) ++ t).size + (s.extract (i + 1).toNat s.size).size := ByteArray.size_append
 refine dr_take (i := 9) rfl rfl rfl (want_none rfl _) (by kernel_rfl) (fun _ _ => r_addS rfl rfl (by omega)) hX3.pins (dr_take (i := 10) rfl rfl rfl (want_none rfl _) (by kernel_rfl) (fun _ _ => r_assign (v := (.string (((s.extract 0 (i).toNat) ++ t) ++ (s.extract (i + 1).toNat s.size)))) rfl) hX3.pins (dr_end (by kernel_rfl) (s_then (wp_ret (s_ret (c_ret1 (v := (.string (((s.extract 0 (i).toNat) ++ t) ++ (s.extract (i + 1).toNat s.size)))) rfl rfl rfl ?_))))))
 have e9 : (i + 1).toNat = i.toNat + 1 := by omega
 exact ⟨_, (by rw [e9]; rfl), hX3⟩

end PS7
end Go.Proofs.YtianphgdbfekdaaGreatDoor

set_option maxRecDepth 20000
set_option maxHeartbeats 2000000
namespace Go.Proofs.YtianphgdbfekdaaGreatDoor
namespace PS8
open Go.RowKit Go.GL Go.Proofs
open PS6 PS7





theorem frog_spec {w : World} {G : Pin} {s : ByteArray} {i : Nat} {stp : Int} {c : UInt8} (hP : Pins G w) (hs : s.size ≤ 1000) (hi : i < s.size) (hst : -1 ≤ stp ∧ stp ≤ 1) (hc : (c.toNat : Int) ≠ 0) :
  Calls Tryz.prog 86 [(.string s), (.int .i64 (i : Int)), (.int .i64 stp), (.int .u8 (c.toNat : Int))].toArray w fun e w' => ∃ (u : Value) (G' : Pin), e = .returned u ∧ RSl eStr G' u (frogM s i stp c) ∧ Ext noS G w G' w' := by
 refine s_enter (n := 60) Tryz.func86 Tryz.ntmps86 rfl rfl ?_
 have hX0 : Ext noS G w G w := Ext.refl hP
 refine s_seq (c_reg ?_)
 refine qd rfl rfl rfl (r_assign (v := (.slice none 0 0)) rfl) (qe (s_then (s_seq (c_reg ?_))))
 refine q1 rfl rfl rfl (o_build0 (E := eStr) (e := 9) Tryz.underlying22 sz9 hX0.pins (fun u1 w2 ho3 hp4 hl5 hk6 => ?_))
 have hX7 := hX0.step hp4 hl5
 have ho8 : Own eStr 9 G w2 w.heap.size u1 ([]) := ho3.weaken hX0.size
 refine qd rfl rfl rfl (r_assign (v := u1) rfl) (qe (s_then (s_seq (c_reg ?_))))
 refine qd rfl rfl rfl (r_move (v := (.string s)) rfl) (qd rfl rfl rfl (r_move (v := (.int .i64 (i : Int))) rfl) (qd rfl rfl rfl (r_move (v := (.int .i64 (i : Int))) rfl) (qd rfl rfl rfl (r_add rfl rfl (by omega)) ?_)))
 have hm9 : (s.extract i ((i : Int) + 1).toNat).size = min ((i : Int) + 1).toNat s.size - i := ByteArray.size_extract
 refine qd rfl rfl rfl (r_cutB Tryz.underlying9 rfl rfl rfl (by omega) (by omega) (by omega)) (qd rfl rfl rfl (r_assign (v := (.string (s.extract i ((i : Int) + 1).toNat))) rfl) (qe (s_then (s_seq (s_seq (c_reg ?_))))))
 refine qd rfl rfl rfl (r_move (v := (.string s)) rfl) (qd rfl rfl rfl (r_move (v := (.int .i64 (i : Int))) rfl) (qd rfl rfl rfl (r_move (v := (.int .i64 stp)) rfl) (qd rfl rfl rfl (r_add rfl rfl (by omega)) (q1 rfl rfl rfl (o_call (vs := [(.string s), (.int .i64 ((i : Int) + stp)), (.int .u8 46)]) Tryz.func87 nm87 rfl rfl rfl ?_)))))
 refine Calls.mono (is23_spec (s := s) (i := ((i : Int) + stp)) (c := (46 : UInt8)) hX7.pins (by omega) (by first | decide | assumption | exact mineS_pos _)) ?_
 rintro _ w11 ⟨G10, rfl, hx12⟩
 refine ⟨_, rfl, ?_⟩
 have hX13 := hX7.tr hx12
 have ho14 := ho8.ext hx12
 refine qe (s_then ?_)
 refine c_ifd (p := ((cB s ((i : Int) + stp)).toNat : Int) = ((46 : UInt8).toNat : Int)) rfl rfl (fun h15 => ?_) (fun h15 => ?_)
 refine c_reg ?_
 have hat := cB_at (by rw [h15]; decide)
 have hsx : (setX s i (⟨#[46]⟩ : ByteArray)).size = s.size := by rw [setX_one hi, st1_size]
 have hmz : (s.extract i (i + 1)).size = 1 := by rw [me_is hi]; rfl
 have h46 : (⟨#[46]⟩ : ByteArray).size = 1 := rfl
 refine qd rfl rfl rfl (r_move (v := u1) rfl) (qd rfl rfl rfl (r_move (v := (.string s)) rfl) (qd rfl rfl rfl (r_move (v := (.int .i64 (i : Int))) rfl) (q1 rfl rfl rfl (o_call (vs := [(.string s), (.int .i64 (i : Int)), (.string (⟨#[46]⟩ : ByteArray))]) Tryz.func88 nm88 rfl rfl rfl ?_))))
 refine Calls.mono (set23_spec (s := s) (i := (i : Int)) (t := (⟨#[46]⟩ : ByteArray)) hX13.pins (by omega) (by omega) (by omega)) ?_
 rintro _ w17 ⟨G16, rfl, hx18⟩
 refine ⟨_, rfl, ?_⟩
 have hX19 := hX13.tr hx18
 have ho20 := ho14.ext hx18
 refine qd rfl rfl rfl (r_move (v := (.int .i64 (i : Int))) rfl) (qd rfl rfl rfl (r_move (v := (.int .i64 stp)) rfl) (qd rfl rfl rfl (r_add rfl rfl (by omega)) (qd rfl rfl rfl (r_move (v := (.string (s.extract i ((i : Int) + 1).toNat))) rfl) (q1 rfl rfl rfl (o_call (vs := [(.string (setX s i (⟨#[46]⟩ : ByteArray))), (.int .i64 ((i : Int) + stp)), (.string (s.extract i ((i : Int) + 1).toNat))]) Tryz.func88 nm88 rfl rfl rfl ?_)))))
 refine Calls.mono (set23_spec (s := (setX s i (⟨#[46]⟩ : ByteArray))) (i := ((i : Int) + stp)) (t := (s.extract i ((i : Int) + 1).toNat)) hX19.pins (by omega) (by omega) (by omega)) ?_
 rintro _ w22 ⟨G21, rfl, hx23⟩
 refine ⟨_, rfl, ?_⟩
 have hX24 := hX19.tr hx23
 have ho25 := ho20.ext hx23
 refine q1 rfl rfl rfl (o_buildF (E := eStr) (e := 9) [(.string (setX (setX s i (⟨#[46]⟩ : ByteArray)) ((i : Int) + stp).toNat (s.extract i ((i : Int) + 1).toNat)))] [setX (setX s i (⟨#[46]⟩ : ByteArray)) ((i : Int) + stp).toNat (s.extract i ((i : Int) + 1).toNat)] Tryz.underlying22 sz9 zr9 (by exact reps1 (by rfl)) (ones1 (by rfl)) rfl rfl rfl rfl (by decide) hX24.pins (fun u26 w27 ho28 hp29 hl30 hk31 => ?_))
 have hX32 := hX24.step hp29 hl30
 have ho33 := ho25.below hl30
 have ho35 : Own eStr 9 G21 w27 w.heap.size u26 ([setX (setX s i (⟨#[46]⟩ : ByteArray)) ((i : Int) + stp).toNat (s.extract i ((i : Int) + 1).toNat)]) := ho28.weaken hX24.size
 refine q1 rfl rfl rfl (o_append (E := eStr) (v := u1) (u := u26) 16 Tryz.underlying22 ap9 (by decide) rfl rfl hX32.pins ho33 ho35.src (by first | omega | (rw [List.nil_append]; omega) | (rw [List.length_nil]; omega) | (rw [List.length_append]; omega) | (simp; done) | (simp; omega) | (simp only [List.length_cons, List.length_nil]; omega) | (simp only [List.length_append, List.length_cons, List.length_nil]; omega)) (by first | omega | (rw [List.nil_append]; omega) | (rw [List.length_nil]; omega) | (rw [List.length_append]; omega) | (simp; done) | (simp; omega) | (simp only [List.length_cons, List.length_nil]; omega) | (simp only [List.length_append, List.length_cons, List.length_nil]; omega)) (hX32.size) (fun u36 w37 ho38 hp39 hg40 hw41 => ?_))
 have hX42 := hX32.write hp39 hg40 ((lo_own ho33))
 have hm45 : (([]) ++ ([setX (setX s i (⟨#[46]⟩ : ByteArray)) ((i : Int) + stp).toNat (s.extract i ((i : Int) + 1).toNat)])).length = ([]).length + 1 := List.length_append
 refine qd rfl rfl rfl (r_assign (v := u36) rfl) (qe (s_then (s_seq (s_seq (c_reg ?_)))))
 refine qd rfl rfl rfl (r_move (v := (.string s)) rfl) (qd rfl rfl rfl (r_move (v := (.int .i64 (i : Int))) rfl) (qd rfl rfl rfl (r_move (v := (.int .i64 stp)) rfl) (qd rfl rfl rfl (r_add rfl rfl (by omega)) (qd rfl rfl rfl (r_move (v := (.int .u8 (c.toNat : Int))) rfl) (q1 rfl rfl rfl (o_call (vs := [(.string s), (.int .i64 ((i : Int) + stp)), (.int .u8 (c.toNat : Int))]) Tryz.func87 nm87 rfl rfl rfl ?_))))))
 refine Calls.mono (is23_spec (s := s) (i := ((i : Int) + stp)) (c := c) hX42.pins (by omega) (by first | decide | assumption | exact mineS_pos _)) ?_
 rintro _ w47 ⟨G46, rfl, hx48⟩
 refine ⟨_, rfl, ?_⟩
 have hX49 := hX42.tr hx48
 have ho50 := ho38.ext hx48
 refine qd rfl rfl rfl (r_move (v := (.bool (decide (((cB s ((i : Int) + stp)).toNat : Int) = (c.toNat : Int))))) rfl) (qbd (p := ((cB s ((i : Int) + stp)).toNat : Int) = (c.toNat : Int)) (t := 39) rfl (fun h51 => ?_) (fun h51 => ?_))
 refine qdg rfl rfl rfl rfl rfl rfl (r_move (v := (.string s)) rfl) (qdg rfl rfl rfl rfl rfl rfl (r_move (v := (.int .i64 (i : Int))) rfl) (qdg rfl rfl rfl rfl rfl rfl (r_move (v := (.int .i64 stp)) rfl) (qdg rfl rfl rfl rfl rfl rfl (r_mul rfl rfl (by omega)) (qdg rfl rfl rfl rfl rfl rfl (r_add rfl rfl (by omega)) (q1g rfl rfl rfl rfl rfl rfl (o_call (vs := [(.string s), (.int .i64 ((i : Int) + (2 * stp))), (.int .u8 46)]) Tryz.func87 nm87 rfl rfl rfl ?_))))))
 refine Calls.mono (is23_spec (s := s) (i := ((i : Int) + (2 * stp))) (c := (46 : UInt8)) hX49.pins (by omega) (by first | decide | assumption | exact mineS_pos _)) ?_
 rintro _ w53 ⟨G52, rfl, hx54⟩
 refine ⟨_, rfl, ?_⟩
 have hX55 := hX49.tr hx54
 have ho56 := ho50.ext hx54
 refine qd rfl rfl rfl (r_pickT (v := (.bool (decide (((cB s ((i : Int) + (2 * stp))).toNat : Int) = ((46 : UInt8).toNat : Int))))) rfl rfl) (qe (s_then ?_))
 refine c_ifd (p := ((cB s ((i : Int) + (2 * stp))).toNat : Int) = ((46 : UInt8).toNat : Int)) rfl rfl (fun h57 => ?_) (fun h57 => ?_)
 refine c_reg ?_
 have hat := cB_at (by rw [h57]; decide)
 have hsx : (setX s i (⟨#[46]⟩ : ByteArray)).size = s.size := by rw [setX_one hi, st1_size]
 have hmz : (s.extract i (i + 1)).size = 1 := by rw [me_is hi]; rfl
 have h46 : (⟨#[46]⟩ : ByteArray).size = 1 := rfl
 refine qd rfl rfl rfl (r_move (v := u36) rfl) (qd rfl rfl rfl (r_move (v := (.string s)) rfl) (qd rfl rfl rfl (r_move (v := (.int .i64 (i : Int))) rfl) (q1 rfl rfl rfl (o_call (vs := [(.string s), (.int .i64 (i : Int)), (.string (⟨#[46]⟩ : ByteArray))]) Tryz.func88 nm88 rfl rfl rfl ?_))))
 refine Calls.mono (set23_spec (s := s) (i := (i : Int)) (t := (⟨#[46]⟩ : ByteArray)) hX55.pins (by omega) (by omega) (by omega)) ?_
 rintro _ w59 ⟨G58, rfl, hx60⟩
 refine ⟨_, rfl, ?_⟩
 have hX61 := hX55.tr hx60
 have ho62 := ho56.ext hx60
 refine qd rfl rfl rfl (r_move (v := (.int .i64 (i : Int))) rfl) (qd rfl rfl rfl (r_move (v := (.int .i64 stp)) rfl) (qd rfl rfl rfl (r_mul rfl rfl (by omega)) (qd rfl rfl rfl (r_add rfl rfl (by omega)) (qd rfl rfl rfl (r_move (v := (.string (s.extract i ((i : Int) + 1).toNat))) rfl) (q1 rfl rfl rfl (o_call (vs := [(.string (setX s i (⟨#[46]⟩ : ByteArray))), (.int .i64 ((i : Int) + (2 * stp))), (.string (s.extract i ((i : Int) + 1).toNat))]) Tryz.func88 nm88 rfl rfl rfl ?_))))))
 refine Calls.mono (set23_spec (s := (setX s i (⟨#[46]⟩ : ByteArray))) (i := ((i : Int) + (2 * stp))) (t := (s.extract i ((i : Int) + 1).toNat)) hX61.pins (by omega) (by omega) (by omega)) ?_
 rintro _ w64 ⟨G63, rfl, hx65⟩
 refine ⟨_, rfl, ?_⟩
 have hX66 := hX61.tr hx65
 have ho67 := ho62.ext hx65
 refine q1 rfl rfl rfl (o_buildF (E := eStr) (e := 9) [(.string (setX (setX s i (⟨#[46]⟩ : ByteArray)) ((i : Int) + (2 * stp)).toNat (s.extract i ((i : Int) + 1).toNat)))] [setX (setX s i (⟨#[46]⟩ : ByteArray)) ((i : Int) + (2 * stp)).toNat (s.extract i ((i : Int) + 1).toNat)] Tryz.underlying22 sz9 zr9 (by exact reps1 (by rfl)) (ones1 (by rfl)) rfl rfl rfl rfl (by decide) hX66.pins (fun u68 w69 ho70 hp71 hl72 hk73 => ?_))
 have hX74 := hX66.step hp71 hl72
 have ho75 := ho67.below hl72
 have ho77 : Own eStr 9 G63 w69 w.heap.size u68 ([setX (setX s i (⟨#[46]⟩ : ByteArray)) ((i : Int) + (2 * stp)).toNat (s.extract i ((i : Int) + 1).toNat)]) := ho70.weaken hX66.size
 refine q1 rfl rfl rfl (o_append (E := eStr) (v := u36) (u := u68) 16 Tryz.underlying22 ap9 (by decide) rfl rfl hX74.pins ho75 ho77.src (by first | omega | (rw [List.nil_append]; omega) | (rw [List.length_nil]; omega) | (rw [List.length_append]; omega) | (simp; done) | (simp; omega) | (simp only [List.length_cons, List.length_nil]; omega) | (simp only [List.length_append, List.length_cons, List.length_nil]; omega)) (by first | omega | (rw [List.nil_append]; omega) | (rw [List.length_nil]; omega) | (rw [List.length_append]; omega) | (simp; done) | (simp; omega) | (simp only [List.length_cons, List.length_nil]; omega) | (simp only [List.length_append, List.length_cons, List.length_nil]; omega)) (hX74.size) (fun u78 w79 ho80 hp81 hg82 hw83 => ?_))
 have hX84 := hX74.write hp81 hg82 ((lo_own ho75))
 have hm87 : ((([]) ++ ([setX (setX s i (⟨#[46]⟩ : ByteArray)) ((i : Int) + stp).toNat (s.extract i ((i : Int) + 1).toNat)])) ++ ([setX (setX s i (⟨#[46]⟩ : ByteArray)) ((i : Int) + (2 * stp)).toNat (s.extract i ((i : Int) + 1).toNat)])).length = (([]) ++ ([setX (setX s i (⟨#[46]⟩ : ByteArray)) ((i : Int) + stp).toNat (s.extract i ((i : Int) + 1).toNat)])).length + 1 := List.length_append
 refine qd rfl rfl rfl (r_assign (v := u78) rfl) (qe (s_then (s_seq (c_reg ?_))))
 refine qd rfl rfl rfl (r_move (v := u78) rfl) (qd rfl rfl rfl (r_assign (v := u78) rfl) (qe (s_then ?_)))
 refine wp_ret (s_ret (c_ret1 (v := u78) rfl rfl rfl ?_))
 obtain ⟨G88, hle91, hX90, hr89, hf92⟩ := ho80.sealed hX84
 exact ⟨_, _, rfl, (by unfold frogM; rw [if_pos (u8_eq h15), if_pos ⟨u8_eq h51, u8_eq h57⟩, ← set_two hi (k := (i : Int) + stp) (cB_at (by rw [h15]; decide)), ← set_two hi (k := (i : Int) + 2 * stp) (cB_at (by rw [h57]; decide))]; exact hr89), hX90⟩
 refine wp_skip (s_then (s_seq (c_reg ?_)))
 refine qd rfl rfl rfl (r_move (v := u36) rfl) (qd rfl rfl rfl (r_assign (v := u36) rfl) (qe (s_then ?_)))
 refine wp_ret (s_ret (c_ret1 (v := u36) rfl rfl rfl ?_))
 obtain ⟨G93, hle96, hX95, hr94, hf97⟩ := ho56.sealed hX55
 exact ⟨_, _, rfl, (by unfold frogM; rw [if_pos (u8_eq h15), if_neg (fun e => u8_ne h57 e.2), ← set_two hi (k := (i : Int) + stp) (cB_at (by rw [h15]; decide))]; exact hr94), hX95⟩
 refine qs rfl rfl rfl rfl rfl rfl (qs rfl rfl rfl rfl rfl rfl (qs rfl rfl rfl rfl rfl rfl (qs rfl rfl rfl rfl rfl rfl (qs rfl rfl rfl rfl rfl rfl (qs rfl rfl rfl rfl rfl rfl (qd rfl rfl rfl (r_pickF (v := (.bool false)) rfl rfl) (qe (s_then ?_))))))))
 refine c_ifF rfl rfl (wp_skip (s_then (s_seq (c_reg ?_))))
 refine qd rfl rfl rfl (r_move (v := u36) rfl) (qd rfl rfl rfl (r_assign (v := u36) rfl) (qe (s_then ?_)))
 refine wp_ret (s_ret (c_ret1 (v := u36) rfl rfl rfl ?_))
 obtain ⟨G98, hle101, hX100, hr99, hf102⟩ := ho50.sealed hX49
 exact ⟨_, _, rfl, (by unfold frogM; rw [if_pos (u8_eq h15), if_neg (fun e => u8_ne h51 e.1), ← set_two hi (k := (i : Int) + stp) (cB_at (by rw [h15]; decide))]; exact hr99), hX100⟩
 refine wp_skip (s_then (s_seq (s_seq (c_reg ?_))))
 refine qd rfl rfl rfl (r_move (v := (.string s)) rfl) (qd rfl rfl rfl (r_move (v := (.int .i64 (i : Int))) rfl) (qd rfl rfl rfl (r_move (v := (.int .i64 stp)) rfl) (qd rfl rfl rfl (r_add rfl rfl (by omega)) (qd rfl rfl rfl (r_move (v := (.int .u8 (c.toNat : Int))) rfl) (q1 rfl rfl rfl (o_call (vs := [(.string s), (.int .i64 ((i : Int) + stp)), (.int .u8 (c.toNat : Int))]) Tryz.func87 nm87 rfl rfl rfl ?_))))))
 refine Calls.mono (is23_spec (s := s) (i := ((i : Int) + stp)) (c := c) hX13.pins (by omega) (by first | decide | assumption | exact mineS_pos _)) ?_
 rintro _ w104 ⟨G103, rfl, hx105⟩
 refine ⟨_, rfl, ?_⟩
 have hX106 := hX13.tr hx105
 have ho107 := ho14.ext hx105
 refine qd rfl rfl rfl (r_move (v := (.bool (decide (((cB s ((i : Int) + stp)).toNat : Int) = (c.toNat : Int))))) rfl) (qbd (p := ((cB s ((i : Int) + stp)).toNat : Int) = (c.toNat : Int)) (t := 39) rfl (fun h108 => ?_) (fun h108 => ?_))
 refine qdg rfl rfl rfl rfl rfl rfl (r_move (v := (.string s)) rfl) (qdg rfl rfl rfl rfl rfl rfl (r_move (v := (.int .i64 (i : Int))) rfl) (qdg rfl rfl rfl rfl rfl rfl (r_move (v := (.int .i64 stp)) rfl) (qdg rfl rfl rfl rfl rfl rfl (r_mul rfl rfl (by omega)) (qdg rfl rfl rfl rfl rfl rfl (r_add rfl rfl (by omega)) (q1g rfl rfl rfl rfl rfl rfl (o_call (vs := [(.string s), (.int .i64 ((i : Int) + (2 * stp))), (.int .u8 46)]) Tryz.func87 nm87 rfl rfl rfl ?_))))))
 refine Calls.mono (is23_spec (s := s) (i := ((i : Int) + (2 * stp))) (c := (46 : UInt8)) hX106.pins (by omega) (by first | decide | assumption | exact mineS_pos _)) ?_
 rintro _ w110 ⟨G109, rfl, hx111⟩
 refine ⟨_, rfl, ?_⟩
 have hX112 := hX106.tr hx111
 have ho113 := ho107.ext hx111
 refine qd rfl rfl rfl (r_pickT (v := (.bool (decide (((cB s ((i : Int) + (2 * stp))).toNat : Int) = ((46 : UInt8).toNat : Int))))) rfl rfl) (qe (s_then ?_))
 refine c_ifd (p := ((cB s ((i : Int) + (2 * stp))).toNat : Int) = ((46 : UInt8).toNat : Int)) rfl rfl (fun h114 => ?_) (fun h114 => ?_)
 refine c_reg ?_
 have hat := cB_at (by rw [h114]; decide)
 have hsx : (setX s i (⟨#[46]⟩ : ByteArray)).size = s.size := by rw [setX_one hi, st1_size]
 have hmz : (s.extract i (i + 1)).size = 1 := by rw [me_is hi]; rfl
 have h46 : (⟨#[46]⟩ : ByteArray).size = 1 := rfl
 refine qd rfl rfl rfl (r_move (v := u1) rfl) (qd rfl rfl rfl (r_move (v := (.string s)) rfl) (qd rfl rfl rfl (r_move (v := (.int .i64 (i : Int))) rfl) (q1 rfl rfl rfl (o_call (vs := [(.string s), (.int .i64 (i : Int)), (.string (⟨#[46]⟩ : ByteArray))]) Tryz.func88 nm88 rfl rfl rfl ?_))))
 refine Calls.mono (set23_spec (s := s) (i := (i : Int)) (t := (⟨#[46]⟩ : ByteArray)) hX112.pins (by omega) (by omega) (by omega)) ?_
 rintro _ w116 ⟨G115, rfl, hx117⟩
 refine ⟨_, rfl, ?_⟩
 have hX118 := hX112.tr hx117
 have ho119 := ho113.ext hx117
 refine qd rfl rfl rfl (r_move (v := (.int .i64 (i : Int))) rfl) (qd rfl rfl rfl (r_move (v := (.int .i64 stp)) rfl) (qd rfl rfl rfl (r_mul rfl rfl (by omega)) (qd rfl rfl rfl (r_add rfl rfl (by omega)) (qd rfl rfl rfl (r_move (v := (.string (s.extract i ((i : Int) + 1).toNat))) rfl) (q1 rfl rfl rfl (o_call (vs := [(.string (setX s i (⟨#[46]⟩ : ByteArray))), (.int .i64 ((i : Int) + (2 * stp))), (.string (s.extract i ((i : Int) + 1).toNat))]) Tryz.func88 nm88 rfl rfl rfl ?_))))))
 refine Calls.mono (set23_spec (s := (setX s i (⟨#[46]⟩ : ByteArray))) (i := ((i : Int) + (2 * stp))) (t := (s.extract i ((i : Int) + 1).toNat)) hX118.pins (by omega) (by omega) (by omega)) ?_
 rintro _ w121 ⟨G120, rfl, hx122⟩
 refine ⟨_, rfl, ?_⟩
 have hX123 := hX118.tr hx122
 have ho124 := ho119.ext hx122
 refine q1 rfl rfl rfl (o_buildF (E := eStr) (e := 9) [(.string (setX (setX s i (⟨#[46]⟩ : ByteArray)) ((i : Int) + (2 * stp)).toNat (s.extract i ((i : Int) + 1).toNat)))] [setX (setX s i (⟨#[46]⟩ : ByteArray)) ((i : Int) + (2 * stp)).toNat (s.extract i ((i : Int) + 1).toNat)] Tryz.underlying22 sz9 zr9 (by exact reps1 (by rfl)) (ones1 (by rfl)) rfl rfl rfl rfl (by decide) hX123.pins (fun u125 w126 ho127 hp128 hl129 hk130 => ?_))
 have hX131 := hX123.step hp128 hl129
 have ho132 := ho124.below hl129
 have ho134 : Own eStr 9 G120 w126 w.heap.size u125 ([setX (setX s i (⟨#[46]⟩ : ByteArray)) ((i : Int) + (2 * stp)).toNat (s.extract i ((i : Int) + 1).toNat)]) := ho127.weaken hX123.size
 refine q1 rfl rfl rfl (o_append (E := eStr) (v := u1) (u := u125) 16 Tryz.underlying22 ap9 (by decide) rfl rfl hX131.pins ho132 ho134.src (by first | omega | (rw [List.nil_append]; omega) | (rw [List.length_nil]; omega) | (rw [List.length_append]; omega) | (simp; done) | (simp; omega) | (simp only [List.length_cons, List.length_nil]; omega) | (simp only [List.length_append, List.length_cons, List.length_nil]; omega)) (by first | omega | (rw [List.nil_append]; omega) | (rw [List.length_nil]; omega) | (rw [List.length_append]; omega) | (simp; done) | (simp; omega) | (simp only [List.length_cons, List.length_nil]; omega) | (simp only [List.length_append, List.length_cons, List.length_nil]; omega)) (hX131.size) (fun u135 w136 ho137 hp138 hg139 hw140 => ?_))
 have hX141 := hX131.write hp138 hg139 ((lo_own ho132))
 have hm144 : (([]) ++ ([setX (setX s i (⟨#[46]⟩ : ByteArray)) ((i : Int) + (2 * stp)).toNat (s.extract i ((i : Int) + 1).toNat)])).length = ([]).length + 1 := List.length_append
 refine qd rfl rfl rfl (r_assign (v := u135) rfl) (qe (s_then (s_seq (c_reg ?_))))
 refine qd rfl rfl rfl (r_move (v := u135) rfl) (qd rfl rfl rfl (r_assign (v := u135) rfl) (qe (s_then ?_)))
 refine wp_ret (s_ret (c_ret1 (v := u135) rfl rfl rfl ?_))
 obtain ⟨G145, hle148, hX147, hr146, hf149⟩ := ho137.sealed hX141
 exact ⟨_, _, rfl, (by unfold frogM; rw [if_neg (u8_ne h15), if_pos ⟨u8_eq h108, u8_eq h114⟩, ← set_two hi (k := (i : Int) + 2 * stp) (cB_at (by rw [h114]; decide))]; exact hr146), hX147⟩
 refine wp_skip (s_then (s_seq (c_reg ?_)))
 refine qd rfl rfl rfl (r_move (v := u1) rfl) (qd rfl rfl rfl (r_assign (v := u1) rfl) (qe (s_then ?_)))
 refine wp_ret (s_ret (c_ret1 (v := u1) rfl rfl rfl ?_))
 obtain ⟨G150, hle153, hX152, hr151, hf154⟩ := ho113.sealed hX112
 exact ⟨_, _, rfl, (by unfold frogM; rw [if_neg (u8_ne h15), if_neg (fun e => u8_ne h114 e.2)]; exact hr151), hX152⟩
 refine qs rfl rfl rfl rfl rfl rfl (qs rfl rfl rfl rfl rfl rfl (qs rfl rfl rfl rfl rfl rfl (qs rfl rfl rfl rfl rfl rfl (qs rfl rfl rfl rfl rfl rfl (qs rfl rfl rfl rfl rfl rfl (qd rfl rfl rfl (r_pickF (v := (.bool false)) rfl rfl) (qe (s_then ?_))))))))
 refine c_ifF rfl rfl (wp_skip (s_then (s_seq (c_reg ?_))))
 refine qd rfl rfl rfl (r_move (v := u1) rfl) (qd rfl rfl rfl (r_assign (v := u1) rfl) (qe (s_then ?_)))
 refine wp_ret (s_ret (c_ret1 (v := u1) rfl rfl rfl ?_))
 obtain ⟨G155, hle158, hX157, hr156, hf159⟩ := ho107.sealed hX106
 exact ⟨_, _, rfl, (by unfold frogM; rw [if_neg (u8_ne h15), if_neg (fun e => u8_ne h108 e.1)]; exact hr156), hX157⟩

end PS8
end Go.Proofs.YtianphgdbfekdaaGreatDoor

set_option maxRecDepth 20000
set_option maxHeartbeats 2000000
namespace Go.Proofs.YtianphgdbfekdaaGreatDoor
namespace PS9
open Go.RowKit Go.GL Go.Proofs
open PS6 PS7 PS8






theorem mv23_true {w : World} {G : Pin} {kind : Int} {s : ByteArray} (hP : Pins G w) (hs : s.size ≤ 1000) (hkd : 0 ≤ kind ∧ kind ≤ 3) :
  Calls Tryz.prog 55 [(.int .i64 kind), (.string s), (.bool true)].toArray w fun e w' => ∃ (u : Value) (G' : Pin), e = .returned u ∧ RSl eStr G' u (stripM kind s true) ∧ Ext noS G w G' w' := by
 refine s_enter (n := 116) Tryz.func55 Tryz.ntmps55 rfl rfl ?_
 have hX0 : Ext noS G w G w := Ext.refl hP
 refine s_seq (c_reg ?_)
 refine qd rfl rfl rfl (r_assign (v := (.slice none 0 0)) rfl) (qe (s_then (s_seq (c_reg ?_))))
 refine q1 rfl rfl rfl (o_build0 (E := eStr) (e := 9) Tryz.underlying22 sz9 hX0.pins (fun u1 w2 ho3 hp4 hl5 hk6 => ?_))
 have hX7 := hX0.step hp4 hl5
 have ho8 : Own eStr 9 G w2 w.heap.size u1 ([]) := ho3.weaken hX0.size
 refine qd rfl rfl rfl (r_assign (v := u1) rfl) (qe (s_then (s_seq (c_reg ?_))))
 refine qd rfl rfl rfl (r_assign (v := (.string (⟨#[76]⟩ : ByteArray))) rfl) (qd rfl rfl rfl (r_assign (v := (.string (⟨#[82]⟩ : ByteArray))) rfl) (qe (s_then (s_seq (s_seq (c_reg ?_))))))
 refine qd rfl rfl rfl (r_move (v := (.bool true)) rfl) (qd rfl rfl rfl (r_not rfl) (qe (s_then ?_)))
 refine c_ifF rfl rfl (wp_skip (s_then (s_seq (s_seq (c_reg ?_)))))
 refine qd rfl rfl rfl (r_assign (v := (.int .i64 0)) rfl) (qe (s_then ?_))
 refine s_blk (s_loop (fun (k : Nat) (en : Nat → Value) (W : World) => ∃ (env1 : Nat → Value) (i9 : Nat) (ov : Value) (os : List ByteArray) (GL1 : Pin), en = (upd (upd (upd (upd (upd (upd (upd (upd env1 0 (.int .i64 kind)) 1 (.string s)) 2 (.bool true)) 6 (.slice none 0 0)) 7 ov) 8 (.string (⟨#[76]⟩ : ByteArray))) 9 (.string (⟨#[82]⟩ : ByteArray))) 10 (.int .i64 (i9 : Int))) ∧ k = s.size - i9 ∧ Ext noS G w GL1 W ∧ Pin.le G GL1 ∧ (i9 ≤ s.size) ∧ (os = runM (cellM kind s true) i9) ∧ (os.length ≤ 2 * i9) ∧ (Own eStr 9 GL1 W w.heap.size ov (os))) _ ⟨_, 0, u1, [], G, (packS (x := 10) (packS (x := 9) (packS (x := 8) (packS (x := 7) (packS (x := 6) (packS (x := 2) (packS (x := 1) (pack1 (x := 0) rfl) rfl) rfl) rfl) rfl) rfl) rfl) rfl), rfl, hX7, Pin.le_refl _, Nat.zero_le _, rfl, (by simp), ho8⟩ ?_)
 rintro k9 _ w10 ⟨env1, i9, ov, os, GL1, rfl, hk11, hX12, hlek9, hi, hos, hol, hw13⟩
 refine s_seq (s_seq (c_reg ?_))
 refine qd rfl rfl rfl (r_move (v := (.int .i64 (i9 : Int))) rfl) (qd rfl rfl rfl (r_move (v := (.string s)) rfl) (qd rfl rfl rfl (r_lenS Tryz.underlying9 rfl) (qd rfl rfl rfl (r_lss rfl rfl) (qe (s_then ?_)))))
 refine c_ifd (p := ((i9 : Int) : Int) < (s.size : Int)) rfl rfl (fun h14 => ?_) (fun h14 => ?_)
 refine wp_skip (s_then (s_seq ?_))
 refine s_blk (s_seq (c_reg ?_))
 refine qd rfl rfl rfl (r_move (v := (.int .i64 kind)) rfl) (qe (s_then ?_))
 refine s_blk (s_seq (c_reg ?_))
 refine qd rfl rfl rfl (r_eql rfl rfl) (qd rfl rfl rfl (r_assign (v := (.bool (decide ((kind : Int) = 0)))) rfl) (qe (s_then ?_)))
 refine c_ifd (p := (kind : Int) = 0) rfl rfl (fun h15 => ?_) (fun h15 => ?_)
 refine s_seq (s_seq (c_reg ?_))
 refine qd rfl rfl rfl (r_move (v := (.bool true)) rfl) (qd rfl rfl rfl (r_move (v := (.bool true)) rfl) (qdg rfl rfl rfl rfl rfl rfl (r_move (v := (.string s)) rfl) (qdg rfl rfl rfl rfl rfl rfl (r_move (v := (.int .i64 (i9 : Int))) rfl) (qdg rfl rfl rfl rfl rfl rfl (r_idxB Tryz.underlying9 rfl rfl (by omega) (by omega)) (qdg rfl rfl rfl rfl rfl rfl (r_eql rfl rfl) (qd rfl rfl rfl (r_pickT (v := (.bool (decide ((((sB s i9).toNat : Int) : Int) = 84)))) rfl rfl) (qe (s_then ?_))))))))
 refine c_ifd (p := (((sB s i9).toNat : Int) : Int) = 84) rfl rfl (fun h16 => ?_) (fun h16 => ?_)
 refine c_reg (qd rfl rfl rfl (r_move (v := ov) rfl) (qd rfl rfl rfl (r_move (v := (.string s)) rfl) (qd rfl rfl rfl (r_move (v := (.int .i64 (i9 : Int))) rfl) (q1 rfl rfl rfl (o_call (vs := [(.string s), (.int .i64 (i9 : Int)), (.int .i64 1), (.int .u8 70)]) Tryz.func86 nm86 rfl rfl rfl ?_)))))
 refine Calls.mono (frog_spec (s := s) (i := i9) (stp := 1) (c := (70 : UInt8)) hX12.pins (by omega) (by omega) (by omega) (by decide)) ?_
 rintro _ w19 ⟨u17, G18, rfl, hr20, hx21⟩
 refine ⟨_, rfl, ?_⟩
 have hX22 := hX12.tr hx21
 have ho23 := hw13.ext hx21
 have hm24 : (frogM s i9 1 (70 : UInt8)).length ≤ 2 := frog_len
 refine q1 rfl rfl rfl (o_append (E := eStr) (v := ov) (u := u17) 16 Tryz.underlying22 ap9 (by decide) rfl rfl hX22.pins ho23 ((hr20.mono (Pin.le_refl _)).src hX22.pins (by decide)) (by first | omega | (rw [List.nil_append]; omega) | (rw [List.length_nil]; omega) | (rw [List.length_append]; omega) | (simp; done) | (simp; omega) | (simp only [List.length_cons, List.length_nil]; omega) | (simp only [List.length_append, List.length_cons, List.length_nil]; omega)) (by first | omega | (rw [List.nil_append]; omega) | (rw [List.length_nil]; omega) | (rw [List.length_append]; omega) | (simp; done) | (simp; omega) | (simp only [List.length_cons, List.length_nil]; omega) | (simp only [List.length_append, List.length_cons, List.length_nil]; omega)) (hX22.size) (fun u25 w26 ho27 hp28 hg29 hw30 => ?_))
 have hX31 := hX22.write hp28 hg29 ((lo_own ho23))
 have hm32 : (os ++ (frogM s i9 1 (70 : UInt8))).length = os.length + (frogM s i9 1 (70 : UInt8)).length := List.length_append
 refine qd rfl rfl rfl (r_assign (v := u25) rfl) (qe (s_then (s_seq (c_reg ?_))))
 refine qd rfl rfl rfl (r_move (v := (.bool true)) rfl) (qd rfl rfl rfl (r_not rfl) (qd rfl rfl rfl (r_move (v := (.bool false)) rfl) (qs rfl rfl rfl rfl rfl rfl (qs rfl rfl rfl rfl rfl rfl (qs rfl rfl rfl rfl rfl rfl (qs rfl rfl rfl rfl rfl rfl (qd rfl rfl rfl (r_pickF (v := (.bool false)) rfl rfl) (qe (s_then ?_)))))))))
 refine c_ifF rfl rfl (wp_skip (s_blkN (s_blkN (s_then (c_reg ?_)))))
 refine qd rfl rfl rfl (r_move (v := (.int .i64 (i9 : Int))) rfl) (qd rfl rfl rfl (r_add rfl rfl (by omega)) (qd rfl rfl rfl (r_assign (v := (.int .i64 ((i9 : Int) + 1))) rfl) (qe (s_lopN (⟨_, ?_, _, rfl, _, i9 + 1, u25, os ++ (frogM s i9 1 (70 : UInt8)), G18, (packS (x := 10) (packS (x := 9) (packS (x := 8) (packS (x := 7) (packS (x := 6) (packS (x := 2) (packS (x := 1) (pack1 (x := 0) rfl) rfl) rfl) rfl) rfl) rfl) rfl) rfl), rfl, hX31, (Pin.le_trans hlek9 hx21.le), (by omega), (run_app hos (frog_at (left := true) h15 h16)), (by simp only [List.length_append]; omega), ho27⟩)))))
 omega
 refine wp_skip (s_then (s_seq (c_reg ?_)))
 refine qd rfl rfl rfl (r_move (v := (.bool true)) rfl) (qd rfl rfl rfl (r_not rfl) (qd rfl rfl rfl (r_move (v := (.bool false)) rfl) (qs rfl rfl rfl rfl rfl rfl (qs rfl rfl rfl rfl rfl rfl (qs rfl rfl rfl rfl rfl rfl (qs rfl rfl rfl rfl rfl rfl (qd rfl rfl rfl (r_pickF (v := (.bool false)) rfl rfl) (qe (s_then ?_)))))))))
 refine c_ifF rfl rfl (wp_skip (s_blkN (s_blkN (s_then (c_reg ?_)))))
 refine qd rfl rfl rfl (r_move (v := (.int .i64 (i9 : Int))) rfl) (qd rfl rfl rfl (r_add rfl rfl (by omega)) (qd rfl rfl rfl (r_assign (v := (.int .i64 ((i9 : Int) + 1))) rfl) (qe (s_lopN (⟨_, ?_, _, rfl, _, i9 + 1, ov, os, GL1, (packS (x := 10) (packS (x := 9) (packS (x := 8) (packS (x := 7) (packS (x := 6) (packS (x := 2) (packS (x := 1) (pack1 (x := 0) rfl) rfl) rfl) rfl) rfl) rfl) rfl) rfl), rfl, hX12, hlek9, (by omega), (run_nil hos (frog_no (left := true) h15 h16)), (by omega), hw13⟩)))))
 omega
 refine s_seq (c_reg ?_)
 refine qd rfl rfl rfl (r_eql rfl rfl) (qd rfl rfl rfl (r_assign (v := (.bool (decide ((kind : Int) = 1)))) rfl) (qe (s_then ?_)))
 refine c_ifd (p := (kind : Int) = 1) rfl rfl (fun h33 => ?_) (fun h33 => ?_)
 refine s_seq (c_reg ?_)
 refine qd rfl rfl rfl (r_assign (v := (.int .i64 (-1))) rfl) (qe (s_then ?_))
 refine s_blk (s_loop (fun (k : Nat) (en : Nat → Value) (W : World) => ∃ (env1 : Nat → Value) (q9 : Nat) (ov2 : Value) (os2 : List ByteArray) (GL2 : Pin), en = (upd (upd (upd (upd (upd (upd (upd (upd (upd env1 0 (.int .i64 kind)) 1 (.string s)) 2 (.bool true)) 6 (.slice none 0 0)) 7 ov2) 8 (.string (⟨#[76]⟩ : ByteArray))) 9 (.string (⟨#[82]⟩ : ByteArray))) 10 (.int .i64 (i9 : Int))) 11 (.int .i64 (2 * (q9 : Int) - 1))) ∧ k = 2 - q9 ∧ Ext noS G w GL2 W ∧ Pin.le GL1 GL2 ∧ (q9 ≤ 2) ∧ (os2 = os ++ runM (clobP s true i9) q9) ∧ (os2.length ≤ 2 * i9 + q9) ∧ (Own eStr 9 GL2 W w.heap.size ov2 (os2))) _ ⟨_, 0, ov, os, GL1, (packS (x := 11) (packS (x := 10) (packS (x := 9) (packS (x := 8) (packS (x := 7) (packS (x := 6) (packS (x := 2) (packS (x := 1) (pack1 (x := 0) rfl) rfl) rfl) rfl) rfl) rfl) rfl) rfl) rfl), rfl, hX12, Pin.le_refl _, Nat.zero_le _, (List.append_nil _).symm, (by omega), hw13⟩ ?_)
 rintro k34 _ w35 ⟨env1, q9, ov2, os2, GL2, rfl, hk36, hX37, hlek34, hq, hos2, hol2, hw38⟩
 refine s_seq (s_seq ?_)
 refine c_draw (S := fun wz => Pins GL2 wz) (last := 10) (by kernel_rfl) rfl ?_
 have hl39 : Below w35.heap.size w35 w35.drew := (Below.refl _ _).drew
 have hp40 := hX37.pins.below hl39
 have hX41 := hX37.step hp40 hl39
 have ho42 := hw38.below hl39
 refine dr_take (i := 0) rfl rfl rfl (want_none rfl _) (by kernel_rfl) (fun _ _ => r_move (v := (.int .i64 (2 * (q9 : Int) - 1))) rfl) hX41.pins (dr_take (i := 1) rfl rfl rfl (want_none rfl _) (by kernel_rfl) (fun _ _ => r_leq rfl rfl) hX41.pins (dr_take (i := 2) rfl rfl rfl (want_none rfl _) (by kernel_rfl) (fun _ _ => r_move (v := (.bool (decide ((2 * (q9 : Int) - 1 : Int) ≤ 1)))) rfl) hX41.pins (drbd (p := (2 * (q9 : Int) - 1 : Int) ≤ 1) (t := 87) rfl (fun h43 => ?_) (fun h43 => ?_))))
 rcases (show q9 = 0 ∨ q9 = 1 by omega) with hcs | hcs
 ·subst hcs
  refine dr_take (i := 3) rfl rfl rfl (want_yes rfl rfl rfl rfl) (by kernel_rfl) (fun _ _ => r_move (v := (.string s)) rfl) hX41.pins (dr_take (i := 4) rfl rfl rfl (want_yes rfl rfl rfl rfl) (by kernel_rfl) (fun _ _ => r_move (v := (.int .i64 (i9 : Int))) rfl) hX41.pins (dr_take (i := 5) rfl rfl rfl (want_yes rfl rfl rfl rfl) (by kernel_rfl) (fun _ _ => r_idxB Tryz.underlying9 rfl rfl (by omega) (by omega)) hX41.pins (dr_take (i := 6) rfl rfl rfl (want_yes rfl rfl rfl rfl) (by kernel_rfl) (fun _ _ => r_move (v := (.string (⟨#[76]⟩ : ByteArray))) rfl) hX41.pins (dr_take (i := 7) rfl rfl rfl (want_yes rfl rfl rfl rfl) (by kernel_rfl) (fun _ _ => r_idx1 (c := 76) Tryz.underlying9 rfl rfl) hX41.pins (dr_take (i := 8) rfl rfl rfl (want_yes rfl rfl rfl rfl) (by kernel_rfl) (fun _ _ => r_eql rfl rfl) hX41.pins (dr_take (i := 9) rfl rfl rfl (want_none rfl _) (by kernel_rfl) (fun _ _ => r_pickT (v := (.bool (decide ((((sB s i9).toNat : Int) : Int) = ((76 : UInt8).toNat : Int))))) rfl rfl) hX41.pins (dr_end (by kernel_rfl) (s_then (c_ifd (p := (((sB s i9).toNat : Int) : Int) = ((76 : UInt8).toNat : Int)) rfl rfl (fun h44 => ?_) (fun h44 => ?_))))))))))
  refine wp_skip (s_then (s_seq ?_))
  refine s_blk (s_seq (c_reg ?_))
  refine qd rfl rfl rfl (r_move (v := (.string s)) rfl) (qd rfl rfl rfl (r_move (v := (.int .i64 (i9 : Int))) rfl) (qd rfl rfl rfl (r_move (v := (.int .i64 (2 * ((0 : Nat) : Int) - 1))) rfl) (qd rfl rfl rfl (r_add rfl rfl (by omega)) (qd rfl rfl rfl (r_move (v := (.string (⟨#[82]⟩ : ByteArray))) rfl) (qd rfl rfl rfl (r_idx1 (c := 82) Tryz.underlying9 rfl rfl) (q1 rfl rfl rfl (o_call (vs := [(.string s), (.int .i64 ((i9 : Int) + (2 * ((0 : Nat) : Int) - 1))), (.int .u8 ((82 : UInt8).toNat : Int))]) Tryz.func87 nm87 rfl rfl rfl ?_)))))))
  refine Calls.mono (is23_spec (s := s) (i := ((i9 : Int) + (2 * ((0 : Nat) : Int) - 1))) (c := (82 : UInt8)) hX41.pins (by omega) (by first | decide | assumption | exact mineS_pos _)) ?_
  rintro _ w46 ⟨G45, rfl, hx47⟩
  refine ⟨_, rfl, ?_⟩
  have hX48 := hX41.tr hx47
  have ho49 := ho42.ext hx47
  refine qe (s_then ?_)
  refine c_ifd (p := ((cB s ((i9 : Int) + (2 * ((0 : Nat) : Int) - 1))).toNat : Int) = ((82 : UInt8).toNat : Int)) rfl rfl (fun h50 => ?_) (fun h50 => ?_)
  refine c_reg ?_
  have hat := cB_at (by rw [h50]; decide)
  have hsx : (setX s i9 (⟨#[46]⟩ : ByteArray)).size = s.size := by rw [setX_one (by omega), st1_size]
  have h46 : (⟨#[46]⟩ : ByteArray).size = 1 := rfl
  have hmn : (⟨#[76]⟩ : ByteArray).size = 1 := rfl
  refine qd rfl rfl rfl (r_move (v := ov2) rfl) (qd rfl rfl rfl (r_move (v := (.string s)) rfl) (qd rfl rfl rfl (r_move (v := (.int .i64 (i9 : Int))) rfl) (q1 rfl rfl rfl (o_call (vs := [(.string s), (.int .i64 (i9 : Int)), (.string (⟨#[46]⟩ : ByteArray))]) Tryz.func88 nm88 rfl rfl rfl ?_))))
  refine Calls.mono (set23_spec (s := s) (i := (i9 : Int)) (t := (⟨#[46]⟩ : ByteArray)) hX48.pins (by omega) (by omega) (by omega)) ?_
  rintro _ w52 ⟨G51, rfl, hx53⟩
  refine ⟨_, rfl, ?_⟩
  have hX54 := hX48.tr hx53
  have ho55 := ho49.ext hx53
  refine qd rfl rfl rfl (r_move (v := (.int .i64 (i9 : Int))) rfl) (qd rfl rfl rfl (r_move (v := (.int .i64 (2 * ((0 : Nat) : Int) - 1))) rfl) (qd rfl rfl rfl (r_add rfl rfl (by omega)) (qd rfl rfl rfl (r_move (v := (.string (⟨#[76]⟩ : ByteArray))) rfl) (q1 rfl rfl rfl (o_call (vs := [(.string (setX s i9 (⟨#[46]⟩ : ByteArray))), (.int .i64 ((i9 : Int) + (2 * ((0 : Nat) : Int) - 1))), (.string (⟨#[76]⟩ : ByteArray))]) Tryz.func88 nm88 rfl rfl rfl ?_)))))
  refine Calls.mono (set23_spec (s := (setX s i9 (⟨#[46]⟩ : ByteArray))) (i := ((i9 : Int) + (2 * ((0 : Nat) : Int) - 1))) (t := (⟨#[76]⟩ : ByteArray)) hX54.pins (by omega) (by omega) (by omega)) ?_
  rintro _ w57 ⟨G56, rfl, hx58⟩
  refine ⟨_, rfl, ?_⟩
  have hX59 := hX54.tr hx58
  have ho60 := ho55.ext hx58
  refine q1 rfl rfl rfl (o_buildF (E := eStr) (e := 9) [(.string (setX (setX s i9 (⟨#[46]⟩ : ByteArray)) ((i9 : Int) + (2 * ((0 : Nat) : Int) - 1)).toNat (⟨#[76]⟩ : ByteArray)))] [setX (setX s i9 (⟨#[46]⟩ : ByteArray)) ((i9 : Int) + (2 * ((0 : Nat) : Int) - 1)).toNat (⟨#[76]⟩ : ByteArray)] Tryz.underlying22 sz9 zr9 (by exact reps1 (by rfl)) (ones1 (by rfl)) rfl rfl rfl rfl (by decide) hX59.pins (fun u61 w62 ho63 hp64 hl65 hk66 => ?_))
  have hX67 := hX59.step hp64 hl65
  have ho68 := ho60.below hl65
  have ho70 : Own eStr 9 G56 w62 w.heap.size u61 ([setX (setX s i9 (⟨#[46]⟩ : ByteArray)) ((i9 : Int) + (2 * ((0 : Nat) : Int) - 1)).toNat (⟨#[76]⟩ : ByteArray)]) := ho63.weaken hX59.size
  refine q1 rfl rfl rfl (o_append (E := eStr) (v := ov2) (u := u61) 16 Tryz.underlying22 ap9 (by decide) rfl rfl hX67.pins ho68 ho70.src (by first | omega | (rw [List.nil_append]; omega) | (rw [List.length_nil]; omega) | (rw [List.length_append]; omega) | (simp; done) | (simp; omega) | (simp only [List.length_cons, List.length_nil]; omega) | (simp only [List.length_append, List.length_cons, List.length_nil]; omega)) (by first | omega | (rw [List.nil_append]; omega) | (rw [List.length_nil]; omega) | (rw [List.length_append]; omega) | (simp; done) | (simp; omega) | (simp only [List.length_cons, List.length_nil]; omega) | (simp only [List.length_append, List.length_cons, List.length_nil]; omega)) (hX67.size) (fun u71 w72 ho73 hp74 hg75 hw76 => ?_))
  have hX77 := hX67.write hp74 hg75 ((lo_own ho68))
  have hm80 : (os2 ++ ([setX (setX s i9 (⟨#[46]⟩ : ByteArray)) ((i9 : Int) + (2 * ((0 : Nat) : Int) - 1)).toNat (⟨#[76]⟩ : ByteArray)])).length = os2.length + 1 := List.length_append
  refine qd rfl rfl rfl (r_assign (v := u71) rfl) (qe (s_blkN (s_then (c_reg ?_))))
  refine qd rfl rfl rfl (r_move (v := (.int .i64 (2 * ((0 : Nat) : Int) - 1))) rfl) (qd rfl rfl rfl (r_add rfl rfl (by omega)) (qd rfl rfl rfl (r_assign (v := (.int .i64 ((2 * ((0 : Nat) : Int) - 1) + 2))) rfl) (qe (s_lopN (⟨_, ?_, _, rfl, _, 0 + 1, u71, os2 ++ ([setX (setX s i9 (⟨#[46]⟩ : ByteArray)) ((i9 : Int) + (2 * ((0 : Nat) : Int) - 1)).toNat (⟨#[76]⟩ : ByteArray)]), G56, (packS (x := 11) (packS (x := 10) (packS (x := 9) (packS (x := 8) (packS (x := 7) (packS (x := 6) (packS (x := 2) (packS (x := 1) (pack1 (x := 0) rfl) rfl) rfl) rfl) rfl) rfl) rfl) rfl) rfl), rfl, hX77, (Pin.le_trans (Pin.le_trans (Pin.le_trans hlek34 hx47.le) hx53.le) hx58.le), (by omega), (by rw [hos2, List.append_assoc]; exact (congrArg (os ++ ·) (run_app rfl (by rw [setX_two (by omega) (by omega)]; exact clobR_y (left := true) (j := 0) (by rw [nb0]; omega) h44 h50)))), (by simp; omega), ho73⟩)))))
  omega
  refine wp_skip (s_blkN (s_then (c_reg ?_)))
  refine qd rfl rfl rfl (r_move (v := (.int .i64 (2 * ((0 : Nat) : Int) - 1))) rfl) (qd rfl rfl rfl (r_add rfl rfl (by omega)) (qd rfl rfl rfl (r_assign (v := (.int .i64 ((2 * ((0 : Nat) : Int) - 1) + 2))) rfl) (qe (s_lopN (⟨_, ?_, _, rfl, _, 0 + 1, ov2, os2, G45, (packS (x := 11) (packS (x := 10) (packS (x := 9) (packS (x := 8) (packS (x := 7) (packS (x := 6) (packS (x := 2) (packS (x := 1) (pack1 (x := 0) rfl) rfl) rfl) rfl) rfl) rfl) rfl) rfl) rfl), rfl, hX48, (Pin.le_trans hlek34 hx47.le), (by omega), (by rw [hos2]; exact (congrArg (os ++ ·) (run_nil rfl (clobR_b (left := true) (j := 0) (by rw [nb0]; omega) h50)))), (by omega), ho49⟩)))))
  omega
  refine wp_exit (s_thenE (s_lopE (s_blkE (s_blkN (s_blkN (s_then (c_reg ?_)))))))
  refine qd rfl rfl rfl (r_move (v := (.int .i64 (i9 : Int))) rfl) (qd rfl rfl rfl (r_add rfl rfl (by omega)) (qd rfl rfl rfl (r_assign (v := (.int .i64 ((i9 : Int) + 1))) rfl) (qe (s_lopN (⟨_, ?_, _, rfl, _, i9 + 1, ov2, os2, GL2, (packS (x := 10) (packS (x := 9) (packS (x := 8) (packS (x := 7) (packS (x := 6) (packS (x := 2) (packS (x := 1) (pack1 (x := 0) rfl) rfl) rfl) rfl) rfl) rfl) rfl) rfl), rfl, hX41, (Pin.le_trans hlek9 hlek34), (by omega), (run_join hos hos2 ((clob_no (left := true) h33 h44 0).symm)), (by omega), ho42⟩)))))
  omega
 ·subst hcs
  refine dr_take (i := 3) rfl rfl rfl (want_yes rfl rfl rfl rfl) (by kernel_rfl) (fun _ _ => r_move (v := (.string s)) rfl) hX41.pins (dr_take (i := 4) rfl rfl rfl (want_yes rfl rfl rfl rfl) (by kernel_rfl) (fun _ _ => r_move (v := (.int .i64 (i9 : Int))) rfl) hX41.pins (dr_take (i := 5) rfl rfl rfl (want_yes rfl rfl rfl rfl) (by kernel_rfl) (fun _ _ => r_idxB Tryz.underlying9 rfl rfl (by omega) (by omega)) hX41.pins (dr_take (i := 6) rfl rfl rfl (want_yes rfl rfl rfl rfl) (by kernel_rfl) (fun _ _ => r_move (v := (.string (⟨#[76]⟩ : ByteArray))) rfl) hX41.pins (dr_take (i := 7) rfl rfl rfl (want_yes rfl rfl rfl rfl) (by kernel_rfl) (fun _ _ => r_idx1 (c := 76) Tryz.underlying9 rfl rfl) hX41.pins (dr_take (i := 8) rfl rfl rfl (want_yes rfl rfl rfl rfl) (by kernel_rfl) (fun _ _ => r_eql rfl rfl) hX41.pins (dr_take (i := 9) rfl rfl rfl (want_none rfl _) (by kernel_rfl) (fun _ _ => r_pickT (v := (.bool (decide ((((sB s i9).toNat : Int) : Int) = ((76 : UInt8).toNat : Int))))) rfl rfl) hX41.pins (dr_end (by kernel_rfl) (s_then (c_ifd (p := (((sB s i9).toNat : Int) : Int) = ((76 : UInt8).toNat : Int)) rfl rfl (fun h81 => ?_) (fun h81 => ?_))))))))))
  refine wp_skip (s_then (s_seq ?_))
  refine s_blk (s_seq (c_reg ?_))
  refine qd rfl rfl rfl (r_move (v := (.string s)) rfl) (qd rfl rfl rfl (r_move (v := (.int .i64 (i9 : Int))) rfl) (qd rfl rfl rfl (r_move (v := (.int .i64 (2 * ((1 : Nat) : Int) - 1))) rfl) (qd rfl rfl rfl (r_add rfl rfl (by omega)) (qd rfl rfl rfl (r_move (v := (.string (⟨#[82]⟩ : ByteArray))) rfl) (qd rfl rfl rfl (r_idx1 (c := 82) Tryz.underlying9 rfl rfl) (q1 rfl rfl rfl (o_call (vs := [(.string s), (.int .i64 ((i9 : Int) + (2 * ((1 : Nat) : Int) - 1))), (.int .u8 ((82 : UInt8).toNat : Int))]) Tryz.func87 nm87 rfl rfl rfl ?_)))))))
  refine Calls.mono (is23_spec (s := s) (i := ((i9 : Int) + (2 * ((1 : Nat) : Int) - 1))) (c := (82 : UInt8)) hX41.pins (by omega) (by first | decide | assumption | exact mineS_pos _)) ?_
  rintro _ w83 ⟨G82, rfl, hx84⟩
  refine ⟨_, rfl, ?_⟩
  have hX85 := hX41.tr hx84
  have ho86 := ho42.ext hx84
  refine qe (s_then ?_)
  refine c_ifd (p := ((cB s ((i9 : Int) + (2 * ((1 : Nat) : Int) - 1))).toNat : Int) = ((82 : UInt8).toNat : Int)) rfl rfl (fun h87 => ?_) (fun h87 => ?_)
  refine c_reg ?_
  have hat := cB_at (by rw [h87]; decide)
  have hsx : (setX s i9 (⟨#[46]⟩ : ByteArray)).size = s.size := by rw [setX_one (by omega), st1_size]
  have h46 : (⟨#[46]⟩ : ByteArray).size = 1 := rfl
  have hmn : (⟨#[76]⟩ : ByteArray).size = 1 := rfl
  refine qd rfl rfl rfl (r_move (v := ov2) rfl) (qd rfl rfl rfl (r_move (v := (.string s)) rfl) (qd rfl rfl rfl (r_move (v := (.int .i64 (i9 : Int))) rfl) (q1 rfl rfl rfl (o_call (vs := [(.string s), (.int .i64 (i9 : Int)), (.string (⟨#[46]⟩ : ByteArray))]) Tryz.func88 nm88 rfl rfl rfl ?_))))
  refine Calls.mono (set23_spec (s := s) (i := (i9 : Int)) (t := (⟨#[46]⟩ : ByteArray)) hX85.pins (by omega) (by omega) (by omega)) ?_
  rintro _ w89 ⟨G88, rfl, hx90⟩
  refine ⟨_, rfl, ?_⟩
  have hX91 := hX85.tr hx90
  have ho92 := ho86.ext hx90
  refine qd rfl rfl rfl (r_move (v := (.int .i64 (i9 : Int))) rfl) (qd rfl rfl rfl (r_move (v := (.int .i64 (2 * ((1 : Nat) : Int) - 1))) rfl) (qd rfl rfl rfl (r_add rfl rfl (by omega)) (qd rfl rfl rfl (r_move (v := (.string (⟨#[76]⟩ : ByteArray))) rfl) (q1 rfl rfl rfl (o_call (vs := [(.string (setX s i9 (⟨#[46]⟩ : ByteArray))), (.int .i64 ((i9 : Int) + (2 * ((1 : Nat) : Int) - 1))), (.string (⟨#[76]⟩ : ByteArray))]) Tryz.func88 nm88 rfl rfl rfl ?_)))))
  refine Calls.mono (set23_spec (s := (setX s i9 (⟨#[46]⟩ : ByteArray))) (i := ((i9 : Int) + (2 * ((1 : Nat) : Int) - 1))) (t := (⟨#[76]⟩ : ByteArray)) hX91.pins (by omega) (by omega) (by omega)) ?_
  rintro _ w94 ⟨G93, rfl, hx95⟩
  refine ⟨_, rfl, ?_⟩
  have hX96 := hX91.tr hx95
  have ho97 := ho92.ext hx95
  refine q1 rfl rfl rfl (o_buildF (E := eStr) (e := 9) [(.string (setX (setX s i9 (⟨#[46]⟩ : ByteArray)) ((i9 : Int) + (2 * ((1 : Nat) : Int) - 1)).toNat (⟨#[76]⟩ : ByteArray)))] [setX (setX s i9 (⟨#[46]⟩ : ByteArray)) ((i9 : Int) + (2 * ((1 : Nat) : Int) - 1)).toNat (⟨#[76]⟩ : ByteArray)] Tryz.underlying22 sz9 zr9 (by exact reps1 (by rfl)) (ones1 (by rfl)) rfl rfl rfl rfl (by decide) hX96.pins (fun u98 w99 ho100 hp101 hl102 hk103 => ?_))
  have hX104 := hX96.step hp101 hl102
  have ho105 := ho97.below hl102
  have ho107 : Own eStr 9 G93 w99 w.heap.size u98 ([setX (setX s i9 (⟨#[46]⟩ : ByteArray)) ((i9 : Int) + (2 * ((1 : Nat) : Int) - 1)).toNat (⟨#[76]⟩ : ByteArray)]) := ho100.weaken hX96.size
  refine q1 rfl rfl rfl (o_append (E := eStr) (v := ov2) (u := u98) 16 Tryz.underlying22 ap9 (by decide) rfl rfl hX104.pins ho105 ho107.src (by first | omega | (rw [List.nil_append]; omega) | (rw [List.length_nil]; omega) | (rw [List.length_append]; omega) | (simp; done) | (simp; omega) | (simp only [List.length_cons, List.length_nil]; omega) | (simp only [List.length_append, List.length_cons, List.length_nil]; omega)) (by first | omega | (rw [List.nil_append]; omega) | (rw [List.length_nil]; omega) | (rw [List.length_append]; omega) | (simp; done) | (simp; omega) | (simp only [List.length_cons, List.length_nil]; omega) | (simp only [List.length_append, List.length_cons, List.length_nil]; omega)) (hX104.size) (fun u108 w109 ho110 hp111 hg112 hw113 => ?_))
  have hX114 := hX104.write hp111 hg112 ((lo_own ho105))
  have hm117 : (os2 ++ ([setX (setX s i9 (⟨#[46]⟩ : ByteArray)) ((i9 : Int) + (2 * ((1 : Nat) : Int) - 1)).toNat (⟨#[76]⟩ : ByteArray)])).length = os2.length + 1 := List.length_append
  refine qd rfl rfl rfl (r_assign (v := u108) rfl) (qe (s_blkN (s_then (c_reg ?_))))
  refine qd rfl rfl rfl (r_move (v := (.int .i64 (2 * ((1 : Nat) : Int) - 1))) rfl) (qd rfl rfl rfl (r_add rfl rfl (by omega)) (qd rfl rfl rfl (r_assign (v := (.int .i64 ((2 * ((1 : Nat) : Int) - 1) + 2))) rfl) (qe (s_lopN (⟨_, ?_, _, rfl, _, 1 + 1, u108, os2 ++ ([setX (setX s i9 (⟨#[46]⟩ : ByteArray)) ((i9 : Int) + (2 * ((1 : Nat) : Int) - 1)).toNat (⟨#[76]⟩ : ByteArray)]), G93, (packS (x := 11) (packS (x := 10) (packS (x := 9) (packS (x := 8) (packS (x := 7) (packS (x := 6) (packS (x := 2) (packS (x := 1) (pack1 (x := 0) rfl) rfl) rfl) rfl) rfl) rfl) rfl) rfl) rfl), rfl, hX114, (Pin.le_trans (Pin.le_trans (Pin.le_trans hlek34 hx84.le) hx90.le) hx95.le), (by omega), (by rw [hos2, List.append_assoc]; exact (congrArg (os ++ ·) (run_app rfl (by rw [setX_two (by omega) (by omega)]; exact clobR_y (left := true) (j := 1) (by rw [nb1]; omega) h81 h87)))), (by simp; omega), ho110⟩)))))
  omega
  refine wp_skip (s_blkN (s_then (c_reg ?_)))
  refine qd rfl rfl rfl (r_move (v := (.int .i64 (2 * ((1 : Nat) : Int) - 1))) rfl) (qd rfl rfl rfl (r_add rfl rfl (by omega)) (qd rfl rfl rfl (r_assign (v := (.int .i64 ((2 * ((1 : Nat) : Int) - 1) + 2))) rfl) (qe (s_lopN (⟨_, ?_, _, rfl, _, 1 + 1, ov2, os2, G82, (packS (x := 11) (packS (x := 10) (packS (x := 9) (packS (x := 8) (packS (x := 7) (packS (x := 6) (packS (x := 2) (packS (x := 1) (pack1 (x := 0) rfl) rfl) rfl) rfl) rfl) rfl) rfl) rfl) rfl), rfl, hX85, (Pin.le_trans hlek34 hx84.le), (by omega), (by rw [hos2]; exact (congrArg (os ++ ·) (run_nil rfl (clobR_b (left := true) (j := 1) (by rw [nb1]; omega) h87)))), (by omega), ho86⟩)))))
  omega
  refine wp_exit (s_thenE (s_lopE (s_blkE (s_blkN (s_blkN (s_then (c_reg ?_)))))))
  refine qd rfl rfl rfl (r_move (v := (.int .i64 (i9 : Int))) rfl) (qd rfl rfl rfl (r_add rfl rfl (by omega)) (qd rfl rfl rfl (r_assign (v := (.int .i64 ((i9 : Int) + 1))) rfl) (qe (s_lopN (⟨_, ?_, _, rfl, _, i9 + 1, ov2, os2, GL2, (packS (x := 10) (packS (x := 9) (packS (x := 8) (packS (x := 7) (packS (x := 6) (packS (x := 2) (packS (x := 1) (pack1 (x := 0) rfl) rfl) rfl) rfl) rfl) rfl) rfl) rfl), rfl, hX41, (Pin.le_trans hlek9 hlek34), (by omega), (run_join hos hos2 ((clob_no (left := true) h33 h81 1).symm)), (by omega), ho42⟩)))))
  omega
 refine dr_skip (i := 3) rfl rfl (want_no rfl rfl rfl rfl rfl) (by kernel_rfl) hX41.pins (dr_skip (i := 4) rfl rfl (want_no rfl rfl rfl rfl rfl) (by kernel_rfl) hX41.pins (dr_skip (i := 5) rfl rfl (want_no rfl rfl rfl rfl rfl) (by kernel_rfl) hX41.pins (dr_skip (i := 6) rfl rfl (want_no rfl rfl rfl rfl rfl) (by kernel_rfl) hX41.pins (dr_skip (i := 7) rfl rfl (want_no rfl rfl rfl rfl rfl) (by kernel_rfl) hX41.pins (dr_skip (i := 8) rfl rfl (want_no rfl rfl rfl rfl rfl) (by kernel_rfl) hX41.pins (dr_take (i := 9) rfl rfl rfl (want_none rfl _) (by kernel_rfl) (fun _ _ => r_pickF (v := (.bool false)) rfl rfl) hX41.pins (dr_end (by kernel_rfl) (s_then (c_ifF rfl rfl (wp_exit (s_thenE (s_lopE (s_blkE (s_blkN (s_blkN (s_then (c_reg ?_)))))))))))))))))
 refine qd rfl rfl rfl (r_move (v := (.int .i64 (i9 : Int))) rfl) (qd rfl rfl rfl (r_add rfl rfl (by omega)) (qd rfl rfl rfl (r_assign (v := (.int .i64 ((i9 : Int) + 1))) rfl) (qe (s_lopN (⟨_, ?_, _, rfl, _, i9 + 1, ov2, os2, GL2, (packS (x := 10) (packS (x := 9) (packS (x := 8) (packS (x := 7) (packS (x := 6) (packS (x := 2) (packS (x := 1) (pack1 (x := 0) rfl) rfl) rfl) rfl) rfl) rfl) rfl) rfl), rfl, hX41, (Pin.le_trans hlek9 hlek34), (by omega), (run_join hos hos2 ((clob_at (left := true) h33).trans (by rw [show q9 = 2 by omega]))), (by omega), ho42⟩)))))
 omega
 refine s_seq (c_reg ?_)
 refine qd rfl rfl rfl (r_move (v := (.string (⟨#[76]⟩ : ByteArray))) rfl) (qd rfl rfl rfl (r_idx1 (c := 76) Tryz.underlying9 rfl rfl) (qd rfl rfl rfl (r_assign (v := (.int .u8 ((76 : UInt8).toNat : Int))) rfl) (qe (s_then (s_seq (s_seq (c_reg ?_)))))))
 refine qd rfl rfl rfl (r_move (v := (.int .i64 kind)) rfl) (qd rfl rfl rfl (r_eql rfl rfl) (qe (s_then ?_)))
 refine c_ifd (p := (kind : Int) = 3) rfl rfl (fun h118 => ?_) (fun h118 => ?_)
 refine c_reg (qd rfl rfl rfl (r_move (v := (.string (⟨#[82]⟩ : ByteArray))) rfl) (qd rfl rfl rfl (r_idx1 (c := 82) Tryz.underlying9 rfl rfl) (qd rfl rfl rfl (r_assign (v := (.int .u8 ((82 : UInt8).toNat : Int))) rfl) (qe (s_then (s_seq (c_reg ?_)))))))
 refine qd rfl rfl rfl (r_move (v := (.string s)) rfl) (qd rfl rfl rfl (r_move (v := (.int .i64 (i9 : Int))) rfl) (qd rfl rfl rfl (r_idxB Tryz.underlying9 rfl rfl (by omega) (by omega)) (qd rfl rfl rfl (r_eql rfl rfl) (qd rfl rfl rfl (r_move (v := (.bool (decide ((((sB s i9).toNat : Int) : Int) = 46)))) rfl) (qbd (p := (((sB s i9).toNat : Int) : Int) = 46) (t := 33) rfl (fun h119 => ?_) (fun h119 => ?_))))))
 refine qdg rfl rfl rfl rfl rfl rfl (r_move (v := (.string s)) rfl) (qdg rfl rfl rfl rfl rfl rfl (r_move (v := (.int .i64 (i9 : Int))) rfl) (qdg rfl rfl rfl rfl rfl rfl (r_sub rfl rfl (by omega)) (qdg rfl rfl rfl rfl rfl rfl (r_move (v := (.int .u8 ((82 : UInt8).toNat : Int))) rfl) (q1g rfl rfl rfl rfl rfl rfl (o_call (vs := [(.string s), (.int .i64 ((i9 : Int) - 1)), (.int .u8 ((82 : UInt8).toNat : Int))]) Tryz.func87 nm87 rfl rfl rfl ?_)))))
 refine Calls.mono (is23_spec (s := s) (i := ((i9 : Int) - 1)) (c := (82 : UInt8)) hX12.pins (by omega) (by first | decide | assumption | exact mineS_pos _)) ?_
 rintro _ w121 ⟨G120, rfl, hx122⟩
 refine ⟨_, rfl, ?_⟩
 have hX123 := hX12.tr hx122
 have ho124 := hw13.ext hx122
 refine qdg rfl rfl rfl rfl rfl rfl (r_not rfl) (qd rfl rfl rfl (r_pickT (v := (.bool (!(decide (((cB s ((i9 : Int) - 1)).toNat : Int) = ((82 : UInt8).toNat : Int)))))) rfl rfl) (qd rfl rfl rfl (r_move (v := (.bool (!(decide (((cB s ((i9 : Int) - 1)).toNat : Int) = ((82 : UInt8).toNat : Int)))))) rfl) (qbn (t := 41) rfl (fun h125 => ?_) (fun h125 => ?_))))
 replace h125 := of_decide_eq_true h125
 refine qs rfl rfl rfl rfl rfl rfl (qs rfl rfl rfl rfl rfl rfl (qs rfl rfl rfl rfl rfl rfl (qs rfl rfl rfl rfl rfl rfl (qs rfl rfl rfl rfl rfl rfl (qs rfl rfl rfl rfl rfl rfl (qd rfl rfl rfl (r_pickF (v := (.bool false)) rfl rfl) (qe (s_then ?_))))))))
 refine c_ifF rfl rfl (wp_skip (s_blkN (s_blkN (s_then (c_reg ?_)))))
 refine qd rfl rfl rfl (r_move (v := (.int .i64 (i9 : Int))) rfl) (qd rfl rfl rfl (r_add rfl rfl (by omega)) (qd rfl rfl rfl (r_assign (v := (.int .i64 ((i9 : Int) + 1))) rfl) (qe (s_lopN (⟨_, ?_, _, rfl, _, i9 + 1, ov, os, G120, (packS (x := 10) (packS (x := 9) (packS (x := 8) (packS (x := 7) (packS (x := 6) (packS (x := 2) (packS (x := 1) (pack1 (x := 0) rfl) rfl) rfl) rfl) rfl) rfl) rfl) rfl), rfl, hX123, (Pin.le_trans hlek9 hx122.le), (by omega), (run_nil hos ((mark_at (left := true) (c := mineS (!true)) h15 h33 (Or.inl ⟨h118, rfl⟩)).trans (mark_b h125))), (by omega), ho124⟩)))))
 omega
 replace h125 := of_decide_eq_false h125
 refine qdg rfl rfl rfl rfl rfl rfl (r_move (v := (.string s)) rfl) (qdg rfl rfl rfl rfl rfl rfl (r_move (v := (.int .i64 (i9 : Int))) rfl) (qdg rfl rfl rfl rfl rfl rfl (r_add rfl rfl (by omega)) (qdg rfl rfl rfl rfl rfl rfl (r_move (v := (.int .u8 ((82 : UInt8).toNat : Int))) rfl) (q1g rfl rfl rfl rfl rfl rfl (o_call (vs := [(.string s), (.int .i64 ((i9 : Int) + 1)), (.int .u8 ((82 : UInt8).toNat : Int))]) Tryz.func87 nm87 rfl rfl rfl ?_)))))
 refine Calls.mono (is23_spec (s := s) (i := ((i9 : Int) + 1)) (c := (82 : UInt8)) hX123.pins (by omega) (by first | decide | assumption | exact mineS_pos _)) ?_
 rintro _ w127 ⟨G126, rfl, hx128⟩
 refine ⟨_, rfl, ?_⟩
 have hX129 := hX123.tr hx128
 have ho130 := ho124.ext hx128
 refine qdg rfl rfl rfl rfl rfl rfl (r_not rfl) (qd rfl rfl rfl (r_pickT (v := (.bool (!(decide (((cB s ((i9 : Int) + 1)).toNat : Int) = ((82 : UInt8).toNat : Int)))))) rfl rfl) (qe (s_then ?_)))
 refine c_ifn rfl rfl (fun h131 => ?_) (fun h131 => ?_)
 replace h131 := of_decide_eq_true h131
 refine wp_skip (s_blkN (s_blkN (s_then (c_reg ?_))))
 refine qd rfl rfl rfl (r_move (v := (.int .i64 (i9 : Int))) rfl) (qd rfl rfl rfl (r_add rfl rfl (by omega)) (qd rfl rfl rfl (r_assign (v := (.int .i64 ((i9 : Int) + 1))) rfl) (qe (s_lopN (⟨_, ?_, _, rfl, _, i9 + 1, ov, os, G126, (packS (x := 10) (packS (x := 9) (packS (x := 8) (packS (x := 7) (packS (x := 6) (packS (x := 2) (packS (x := 1) (pack1 (x := 0) rfl) rfl) rfl) rfl) rfl) rfl) rfl) rfl), rfl, hX129, (Pin.le_trans (Pin.le_trans hlek9 hx122.le) hx128.le), (by omega), (run_nil hos ((mark_at (left := true) (c := mineS (!true)) h15 h33 (Or.inl ⟨h118, rfl⟩)).trans (mark_c h131))), (by omega), ho130⟩)))))
 omega
 replace h131 := of_decide_eq_false h131
 refine c_reg ?_
 have hmn : (⟨#[76]⟩ : ByteArray).size = 1 := rfl
 refine qd rfl rfl rfl (r_move (v := ov) rfl) (qd rfl rfl rfl (r_move (v := (.string s)) rfl) (qd rfl rfl rfl (r_move (v := (.int .i64 (i9 : Int))) rfl) (qd rfl rfl rfl (r_move (v := (.string (⟨#[76]⟩ : ByteArray))) rfl) (q1 rfl rfl rfl (o_call (vs := [(.string s), (.int .i64 (i9 : Int)), (.string (⟨#[76]⟩ : ByteArray))]) Tryz.func88 nm88 rfl rfl rfl ?_)))))
 refine Calls.mono (set23_spec (s := s) (i := (i9 : Int)) (t := (⟨#[76]⟩ : ByteArray)) hX129.pins (by omega) (by omega) (by omega)) ?_
 rintro _ w133 ⟨G132, rfl, hx134⟩
 refine ⟨_, rfl, ?_⟩
 have hX135 := hX129.tr hx134
 have ho136 := ho130.ext hx134
 refine q1 rfl rfl rfl (o_buildF (E := eStr) (e := 9) [(.string (setX s i9 (⟨#[76]⟩ : ByteArray)))] [setX s i9 (⟨#[76]⟩ : ByteArray)] Tryz.underlying22 sz9 zr9 (by exact reps1 (by rfl)) (ones1 (by rfl)) rfl rfl rfl rfl (by decide) hX135.pins (fun u137 w138 ho139 hp140 hl141 hk142 => ?_))
 have hX143 := hX135.step hp140 hl141
 have ho144 := ho136.below hl141
 have ho146 : Own eStr 9 G132 w138 w.heap.size u137 ([setX s i9 (⟨#[76]⟩ : ByteArray)]) := ho139.weaken hX135.size
 refine q1 rfl rfl rfl (o_append (E := eStr) (v := ov) (u := u137) 16 Tryz.underlying22 ap9 (by decide) rfl rfl hX143.pins ho144 ho146.src (by first | omega | (rw [List.nil_append]; omega) | (rw [List.length_nil]; omega) | (rw [List.length_append]; omega) | (simp; done) | (simp; omega) | (simp only [List.length_cons, List.length_nil]; omega) | (simp only [List.length_append, List.length_cons, List.length_nil]; omega)) (by first | omega | (rw [List.nil_append]; omega) | (rw [List.length_nil]; omega) | (rw [List.length_append]; omega) | (simp; done) | (simp; omega) | (simp only [List.length_cons, List.length_nil]; omega) | (simp only [List.length_append, List.length_cons, List.length_nil]; omega)) (hX143.size) (fun u147 w148 ho149 hp150 hg151 hw152 => ?_))
 have hX153 := hX143.write hp150 hg151 ((lo_own ho144))
 have hm156 : (os ++ ([setX s i9 (⟨#[76]⟩ : ByteArray)])).length = os.length + 1 := List.length_append
 refine qd rfl rfl rfl (r_assign (v := u147) rfl) (qe (s_blkN (s_blkN (s_then (c_reg ?_)))))
 refine qd rfl rfl rfl (r_move (v := (.int .i64 (i9 : Int))) rfl) (qd rfl rfl rfl (r_add rfl rfl (by omega)) (qd rfl rfl rfl (r_assign (v := (.int .i64 ((i9 : Int) + 1))) rfl) (qe (s_lopN (⟨_, ?_, _, rfl, _, i9 + 1, u147, os ++ ([setX s i9 (⟨#[76]⟩ : ByteArray)]), G132, (packS (x := 10) (packS (x := 9) (packS (x := 8) (packS (x := 7) (packS (x := 6) (packS (x := 2) (packS (x := 1) (pack1 (x := 0) rfl) rfl) rfl) rfl) rfl) rfl) rfl) rfl), rfl, hX153, (Pin.le_trans (Pin.le_trans (Pin.le_trans hlek9 hx122.le) hx128.le) hx134.le), (by omega), (run_app hos ((mark_at (left := true) (c := mineS (!true)) h15 h33 (Or.inl ⟨h118, rfl⟩)).trans (markX_y (by omega) h119 h125 h131))), (by simp only [List.length_append, List.length_cons, List.length_nil]; omega), ho149⟩)))))
 omega
 refine qs rfl rfl rfl rfl rfl rfl (qs rfl rfl rfl rfl rfl rfl (qs rfl rfl rfl rfl rfl rfl (qs rfl rfl rfl rfl rfl rfl (qs rfl rfl rfl rfl rfl rfl (qs rfl rfl rfl rfl rfl rfl (qd rfl rfl rfl (r_pickF (v := (.bool false)) rfl rfl) (qd rfl rfl rfl (r_move (v := (.bool false)) rfl) (qs rfl rfl rfl rfl rfl rfl (qs rfl rfl rfl rfl rfl rfl (qs rfl rfl rfl rfl rfl rfl (qs rfl rfl rfl rfl rfl rfl (qs rfl rfl rfl rfl rfl rfl (qs rfl rfl rfl rfl rfl rfl (qd rfl rfl rfl (r_pickF (v := (.bool false)) rfl rfl) (qe (s_then ?_))))))))))))))))
 refine c_ifF rfl rfl (wp_skip (s_blkN (s_blkN (s_then (c_reg ?_)))))
 refine qd rfl rfl rfl (r_move (v := (.int .i64 (i9 : Int))) rfl) (qd rfl rfl rfl (r_add rfl rfl (by omega)) (qd rfl rfl rfl (r_assign (v := (.int .i64 ((i9 : Int) + 1))) rfl) (qe (s_lopN (⟨_, ?_, _, rfl, _, i9 + 1, ov, os, GL1, (packS (x := 10) (packS (x := 9) (packS (x := 8) (packS (x := 7) (packS (x := 6) (packS (x := 2) (packS (x := 1) (pack1 (x := 0) rfl) rfl) rfl) rfl) rfl) rfl) rfl) rfl), rfl, hX12, hlek9, (by omega), (run_nil hos ((mark_at (left := true) (c := mineS (!true)) h15 h33 (Or.inl ⟨h118, rfl⟩)).trans (mark_a h119))), (by omega), hw13⟩)))))
 omega
 refine wp_skip (s_then (s_seq (c_reg ?_)))
 refine qd rfl rfl rfl (r_move (v := (.string s)) rfl) (qd rfl rfl rfl (r_move (v := (.int .i64 (i9 : Int))) rfl) (qd rfl rfl rfl (r_idxB Tryz.underlying9 rfl rfl (by omega) (by omega)) (qd rfl rfl rfl (r_eql rfl rfl) (qd rfl rfl rfl (r_move (v := (.bool (decide ((((sB s i9).toNat : Int) : Int) = 46)))) rfl) (qbd (p := (((sB s i9).toNat : Int) : Int) = 46) (t := 33) rfl (fun h157 => ?_) (fun h157 => ?_))))))
 refine qdg rfl rfl rfl rfl rfl rfl (r_move (v := (.string s)) rfl) (qdg rfl rfl rfl rfl rfl rfl (r_move (v := (.int .i64 (i9 : Int))) rfl) (qdg rfl rfl rfl rfl rfl rfl (r_sub rfl rfl (by omega)) (qdg rfl rfl rfl rfl rfl rfl (r_move (v := (.int .u8 ((76 : UInt8).toNat : Int))) rfl) (q1g rfl rfl rfl rfl rfl rfl (o_call (vs := [(.string s), (.int .i64 ((i9 : Int) - 1)), (.int .u8 ((76 : UInt8).toNat : Int))]) Tryz.func87 nm87 rfl rfl rfl ?_)))))
 refine Calls.mono (is23_spec (s := s) (i := ((i9 : Int) - 1)) (c := (76 : UInt8)) hX12.pins (by omega) (by first | decide | assumption | exact mineS_pos _)) ?_
 rintro _ w159 ⟨G158, rfl, hx160⟩
 refine ⟨_, rfl, ?_⟩
 have hX161 := hX12.tr hx160
 have ho162 := hw13.ext hx160
 refine qdg rfl rfl rfl rfl rfl rfl (r_not rfl) (qd rfl rfl rfl (r_pickT (v := (.bool (!(decide (((cB s ((i9 : Int) - 1)).toNat : Int) = ((76 : UInt8).toNat : Int)))))) rfl rfl) (qd rfl rfl rfl (r_move (v := (.bool (!(decide (((cB s ((i9 : Int) - 1)).toNat : Int) = ((76 : UInt8).toNat : Int)))))) rfl) (qbn (t := 41) rfl (fun h163 => ?_) (fun h163 => ?_))))
 replace h163 := of_decide_eq_true h163
 refine qs rfl rfl rfl rfl rfl rfl (qs rfl rfl rfl rfl rfl rfl (qs rfl rfl rfl rfl rfl rfl (qs rfl rfl rfl rfl rfl rfl (qs rfl rfl rfl rfl rfl rfl (qs rfl rfl rfl rfl rfl rfl (qd rfl rfl rfl (r_pickF (v := (.bool false)) rfl rfl) (qe (s_then ?_))))))))
 refine c_ifF rfl rfl (wp_skip (s_blkN (s_blkN (s_then (c_reg ?_)))))
 refine qd rfl rfl rfl (r_move (v := (.int .i64 (i9 : Int))) rfl) (qd rfl rfl rfl (r_add rfl rfl (by omega)) (qd rfl rfl rfl (r_assign (v := (.int .i64 ((i9 : Int) + 1))) rfl) (qe (s_lopN (⟨_, ?_, _, rfl, _, i9 + 1, ov, os, G158, (packS (x := 10) (packS (x := 9) (packS (x := 8) (packS (x := 7) (packS (x := 6) (packS (x := 2) (packS (x := 1) (pack1 (x := 0) rfl) rfl) rfl) rfl) rfl) rfl) rfl) rfl), rfl, hX161, (Pin.le_trans hlek9 hx160.le), (by omega), (run_nil hos ((mark_at (left := true) (c := mineS (true)) h15 h33 (Or.inr ⟨by omega, rfl⟩)).trans (mark_b h163))), (by omega), ho162⟩)))))
 omega
 replace h163 := of_decide_eq_false h163
 refine qdg rfl rfl rfl rfl rfl rfl (r_move (v := (.string s)) rfl) (qdg rfl rfl rfl rfl rfl rfl (r_move (v := (.int .i64 (i9 : Int))) rfl) (qdg rfl rfl rfl rfl rfl rfl (r_add rfl rfl (by omega)) (qdg rfl rfl rfl rfl rfl rfl (r_move (v := (.int .u8 ((76 : UInt8).toNat : Int))) rfl) (q1g rfl rfl rfl rfl rfl rfl (o_call (vs := [(.string s), (.int .i64 ((i9 : Int) + 1)), (.int .u8 ((76 : UInt8).toNat : Int))]) Tryz.func87 nm87 rfl rfl rfl ?_)))))
 refine Calls.mono (is23_spec (s := s) (i := ((i9 : Int) + 1)) (c := (76 : UInt8)) hX161.pins (by omega) (by first | decide | assumption | exact mineS_pos _)) ?_
 rintro _ w165 ⟨G164, rfl, hx166⟩
 refine ⟨_, rfl, ?_⟩
 have hX167 := hX161.tr hx166
 have ho168 := ho162.ext hx166
 refine qdg rfl rfl rfl rfl rfl rfl (r_not rfl) (qd rfl rfl rfl (r_pickT (v := (.bool (!(decide (((cB s ((i9 : Int) + 1)).toNat : Int) = ((76 : UInt8).toNat : Int)))))) rfl rfl) (qe (s_then ?_)))
 refine c_ifn rfl rfl (fun h169 => ?_) (fun h169 => ?_)
 replace h169 := of_decide_eq_true h169
 refine wp_skip (s_blkN (s_blkN (s_then (c_reg ?_))))
 refine qd rfl rfl rfl (r_move (v := (.int .i64 (i9 : Int))) rfl) (qd rfl rfl rfl (r_add rfl rfl (by omega)) (qd rfl rfl rfl (r_assign (v := (.int .i64 ((i9 : Int) + 1))) rfl) (qe (s_lopN (⟨_, ?_, _, rfl, _, i9 + 1, ov, os, G164, (packS (x := 10) (packS (x := 9) (packS (x := 8) (packS (x := 7) (packS (x := 6) (packS (x := 2) (packS (x := 1) (pack1 (x := 0) rfl) rfl) rfl) rfl) rfl) rfl) rfl) rfl), rfl, hX167, (Pin.le_trans (Pin.le_trans hlek9 hx160.le) hx166.le), (by omega), (run_nil hos ((mark_at (left := true) (c := mineS (true)) h15 h33 (Or.inr ⟨by omega, rfl⟩)).trans (mark_c h169))), (by omega), ho168⟩)))))
 omega
 replace h169 := of_decide_eq_false h169
 refine c_reg ?_
 have hmn : (⟨#[76]⟩ : ByteArray).size = 1 := rfl
 refine qd rfl rfl rfl (r_move (v := ov) rfl) (qd rfl rfl rfl (r_move (v := (.string s)) rfl) (qd rfl rfl rfl (r_move (v := (.int .i64 (i9 : Int))) rfl) (qd rfl rfl rfl (r_move (v := (.string (⟨#[76]⟩ : ByteArray))) rfl) (q1 rfl rfl rfl (o_call (vs := [(.string s), (.int .i64 (i9 : Int)), (.string (⟨#[76]⟩ : ByteArray))]) Tryz.func88 nm88 rfl rfl rfl ?_)))))
 refine Calls.mono (set23_spec (s := s) (i := (i9 : Int)) (t := (⟨#[76]⟩ : ByteArray)) hX167.pins (by omega) (by omega) (by omega)) ?_
 rintro _ w171 ⟨G170, rfl, hx172⟩
 refine ⟨_, rfl, ?_⟩
 have hX173 := hX167.tr hx172
 have ho174 := ho168.ext hx172
 refine q1 rfl rfl rfl (o_buildF (E := eStr) (e := 9) [(.string (setX s i9 (⟨#[76]⟩ : ByteArray)))] [setX s i9 (⟨#[76]⟩ : ByteArray)] Tryz.underlying22 sz9 zr9 (by exact reps1 (by rfl)) (ones1 (by rfl)) rfl rfl rfl rfl (by decide) hX173.pins (fun u175 w176 ho177 hp178 hl179 hk180 => ?_))
 have hX181 := hX173.step hp178 hl179
 have ho182 := ho174.below hl179
 have ho184 : Own eStr 9 G170 w176 w.heap.size u175 ([setX s i9 (⟨#[76]⟩ : ByteArray)]) := ho177.weaken hX173.size
 refine q1 rfl rfl rfl (o_append (E := eStr) (v := ov) (u := u175) 16 Tryz.underlying22 ap9 (by decide) rfl rfl hX181.pins ho182 ho184.src (by first | omega | (rw [List.nil_append]; omega) | (rw [List.length_nil]; omega) | (rw [List.length_append]; omega) | (simp; done) | (simp; omega) | (simp only [List.length_cons, List.length_nil]; omega) | (simp only [List.length_append, List.length_cons, List.length_nil]; omega)) (by first | omega | (rw [List.nil_append]; omega) | (rw [List.length_nil]; omega) | (rw [List.length_append]; omega) | (simp; done) | (simp; omega) | (simp only [List.length_cons, List.length_nil]; omega) | (simp only [List.length_append, List.length_cons, List.length_nil]; omega)) (hX181.size) (fun u185 w186 ho187 hp188 hg189 hw190 => ?_))
 have hX191 := hX181.write hp188 hg189 ((lo_own ho182))
 have hm194 : (os ++ ([setX s i9 (⟨#[76]⟩ : ByteArray)])).length = os.length + 1 := List.length_append
 refine qd rfl rfl rfl (r_assign (v := u185) rfl) (qe (s_blkN (s_blkN (s_then (c_reg ?_)))))
 refine qd rfl rfl rfl (r_move (v := (.int .i64 (i9 : Int))) rfl) (qd rfl rfl rfl (r_add rfl rfl (by omega)) (qd rfl rfl rfl (r_assign (v := (.int .i64 ((i9 : Int) + 1))) rfl) (qe (s_lopN (⟨_, ?_, _, rfl, _, i9 + 1, u185, os ++ ([setX s i9 (⟨#[76]⟩ : ByteArray)]), G170, (packS (x := 10) (packS (x := 9) (packS (x := 8) (packS (x := 7) (packS (x := 6) (packS (x := 2) (packS (x := 1) (pack1 (x := 0) rfl) rfl) rfl) rfl) rfl) rfl) rfl) rfl), rfl, hX191, (Pin.le_trans (Pin.le_trans (Pin.le_trans hlek9 hx160.le) hx166.le) hx172.le), (by omega), (run_app hos ((mark_at (left := true) (c := mineS (true)) h15 h33 (Or.inr ⟨by omega, rfl⟩)).trans (markX_y (by omega) h157 h163 h169))), (by simp only [List.length_append, List.length_cons, List.length_nil]; omega), ho187⟩)))))
 omega
 refine qs rfl rfl rfl rfl rfl rfl (qs rfl rfl rfl rfl rfl rfl (qs rfl rfl rfl rfl rfl rfl (qs rfl rfl rfl rfl rfl rfl (qs rfl rfl rfl rfl rfl rfl (qs rfl rfl rfl rfl rfl rfl (qd rfl rfl rfl (r_pickF (v := (.bool false)) rfl rfl) (qd rfl rfl rfl (r_move (v := (.bool false)) rfl) (qs rfl rfl rfl rfl rfl rfl (qs rfl rfl rfl rfl rfl rfl (qs rfl rfl rfl rfl rfl rfl (qs rfl rfl rfl rfl rfl rfl (qs rfl rfl rfl rfl rfl rfl (qs rfl rfl rfl rfl rfl rfl (qd rfl rfl rfl (r_pickF (v := (.bool false)) rfl rfl) (qe (s_then ?_))))))))))))))))
 refine c_ifF rfl rfl (wp_skip (s_blkN (s_blkN (s_then (c_reg ?_)))))
 refine qd rfl rfl rfl (r_move (v := (.int .i64 (i9 : Int))) rfl) (qd rfl rfl rfl (r_add rfl rfl (by omega)) (qd rfl rfl rfl (r_assign (v := (.int .i64 ((i9 : Int) + 1))) rfl) (qe (s_lopN (⟨_, ?_, _, rfl, _, i9 + 1, ov, os, GL1, (packS (x := 10) (packS (x := 9) (packS (x := 8) (packS (x := 7) (packS (x := 6) (packS (x := 2) (packS (x := 1) (pack1 (x := 0) rfl) rfl) rfl) rfl) rfl) rfl) rfl) rfl), rfl, hX12, hlek9, (by omega), (run_nil hos ((mark_at (left := true) (c := mineS (true)) h15 h33 (Or.inr ⟨by omega, rfl⟩)).trans (mark_a h157))), (by omega), hw13⟩)))))
 omega
 refine wp_exit (s_thenE (s_lopE (s_blkE (s_then (s_seq (c_reg ?_))))))
 refine qd rfl rfl rfl (r_move (v := ov) rfl) (qd rfl rfl rfl (r_assign (v := ov) rfl) (qe (s_then ?_)))
 refine wp_ret (s_ret (c_ret1 (v := ov) rfl rfl rfl ?_))
 obtain ⟨G195, hle198, hX197, hr196, hf199⟩ := hw13.sealed hX12
 have hin : i9 = s.size := by omega
 subst hin
 exact ⟨_, _, rfl, (by unfold stripM; rw [← hos]; exact hr196), hX197⟩

theorem mv23_false {w : World} {G : Pin} {kind : Int} {s : ByteArray} (hP : Pins G w) (hs : s.size ≤ 1000) (hkd : 0 ≤ kind ∧ kind ≤ 3) :
  Calls Tryz.prog 55 [(.int .i64 kind), (.string s), (.bool false)].toArray w fun e w' => ∃ (u : Value) (G' : Pin), e = .returned u ∧ RSl eStr G' u (stripM kind s false) ∧ Ext noS G w G' w' := by
 refine s_enter (n := 116) Tryz.func55 Tryz.ntmps55 rfl rfl ?_
 have hX0 : Ext noS G w G w := Ext.refl hP
 refine s_seq (c_reg ?_)
 refine qd rfl rfl rfl (r_assign (v := (.slice none 0 0)) rfl) (qe (s_then (s_seq (c_reg ?_))))
 refine q1 rfl rfl rfl (o_build0 (E := eStr) (e := 9) Tryz.underlying22 sz9 hX0.pins (fun u1 w2 ho3 hp4 hl5 hk6 => ?_))
 have hX7 := hX0.step hp4 hl5
 have ho8 : Own eStr 9 G w2 w.heap.size u1 ([]) := ho3.weaken hX0.size
 refine qd rfl rfl rfl (r_assign (v := u1) rfl) (qe (s_then (s_seq (c_reg ?_))))
 refine qd rfl rfl rfl (r_assign (v := (.string (⟨#[76]⟩ : ByteArray))) rfl) (qd rfl rfl rfl (r_assign (v := (.string (⟨#[82]⟩ : ByteArray))) rfl) (qe (s_then (s_seq (s_seq (c_reg ?_))))))
 refine qd rfl rfl rfl (r_move (v := (.bool false)) rfl) (qd rfl rfl rfl (r_not rfl) (qe (s_then ?_)))
 refine c_ifT rfl rfl (c_reg (qd rfl rfl rfl (r_assign (v := (.string (⟨#[82]⟩ : ByteArray))) rfl) (qd rfl rfl rfl (r_assign (v := (.string (⟨#[76]⟩ : ByteArray))) rfl) (qe (s_then (s_seq (s_seq (c_reg ?_))))))))
 refine qd rfl rfl rfl (r_assign (v := (.int .i64 0)) rfl) (qe (s_then ?_))
 refine s_blk (s_loop (fun (k : Nat) (en : Nat → Value) (W : World) => ∃ (env1 : Nat → Value) (i9 : Nat) (ov : Value) (os : List ByteArray) (GL1 : Pin), en = (upd (upd (upd (upd (upd (upd (upd (upd env1 0 (.int .i64 kind)) 1 (.string s)) 2 (.bool false)) 6 (.slice none 0 0)) 7 ov) 8 (.string (⟨#[82]⟩ : ByteArray))) 9 (.string (⟨#[76]⟩ : ByteArray))) 10 (.int .i64 (i9 : Int))) ∧ k = s.size - i9 ∧ Ext noS G w GL1 W ∧ Pin.le G GL1 ∧ (i9 ≤ s.size) ∧ (os = runM (cellM kind s false) i9) ∧ (os.length ≤ 2 * i9) ∧ (Own eStr 9 GL1 W w.heap.size ov (os))) _ ⟨_, 0, u1, [], G, (packS (x := 10) (packS (x := 9) (packS (x := 8) (packS (x := 7) (packS (x := 6) (packS (x := 2) (packS (x := 1) (pack1 (x := 0) rfl) rfl) rfl) rfl) rfl) rfl) rfl) rfl), rfl, hX7, Pin.le_refl _, Nat.zero_le _, rfl, (by simp), ho8⟩ ?_)
 rintro k9 _ w10 ⟨env1, i9, ov, os, GL1, rfl, hk11, hX12, hlek9, hi, hos, hol, hw13⟩
 refine s_seq (s_seq (c_reg ?_))
 refine qd rfl rfl rfl (r_move (v := (.int .i64 (i9 : Int))) rfl) (qd rfl rfl rfl (r_move (v := (.string s)) rfl) (qd rfl rfl rfl (r_lenS Tryz.underlying9 rfl) (qd rfl rfl rfl (r_lss rfl rfl) (qe (s_then ?_)))))
 refine c_ifd (p := ((i9 : Int) : Int) < (s.size : Int)) rfl rfl (fun h14 => ?_) (fun h14 => ?_)
 refine wp_skip (s_then (s_seq ?_))
 refine s_blk (s_seq (c_reg ?_))
 refine qd rfl rfl rfl (r_move (v := (.int .i64 kind)) rfl) (qe (s_then ?_))
 refine s_blk (s_seq (c_reg ?_))
 refine qd rfl rfl rfl (r_eql rfl rfl) (qd rfl rfl rfl (r_assign (v := (.bool (decide ((kind : Int) = 0)))) rfl) (qe (s_then ?_)))
 refine c_ifd (p := (kind : Int) = 0) rfl rfl (fun h15 => ?_) (fun h15 => ?_)
 refine s_seq (s_seq (c_reg ?_))
 refine qd rfl rfl rfl (r_move (v := (.bool false)) rfl) (qd rfl rfl rfl (r_move (v := (.bool false)) rfl) (qs rfl rfl rfl rfl rfl rfl (qs rfl rfl rfl rfl rfl rfl (qs rfl rfl rfl rfl rfl rfl (qs rfl rfl rfl rfl rfl rfl (qd rfl rfl rfl (r_pickF (v := (.bool false)) rfl rfl) (qe (s_then ?_))))))))
 refine c_ifF rfl rfl (wp_skip (s_then (s_seq (c_reg ?_))))
 refine qd rfl rfl rfl (r_move (v := (.bool false)) rfl) (qd rfl rfl rfl (r_not rfl) (qd rfl rfl rfl (r_move (v := (.bool true)) rfl) (qdg rfl rfl rfl rfl rfl rfl (r_move (v := (.string s)) rfl) (qdg rfl rfl rfl rfl rfl rfl (r_move (v := (.int .i64 (i9 : Int))) rfl) (qdg rfl rfl rfl rfl rfl rfl (r_idxB Tryz.underlying9 rfl rfl (by omega) (by omega)) (qdg rfl rfl rfl rfl rfl rfl (r_eql rfl rfl) (qd rfl rfl rfl (r_pickT (v := (.bool (decide ((((sB s i9).toNat : Int) : Int) = 70)))) rfl rfl) (qe (s_then ?_)))))))))
 refine c_ifd (p := (((sB s i9).toNat : Int) : Int) = 70) rfl rfl (fun h16 => ?_) (fun h16 => ?_)
 refine c_reg (qd rfl rfl rfl (r_move (v := ov) rfl) (qd rfl rfl rfl (r_move (v := (.string s)) rfl) (qd rfl rfl rfl (r_move (v := (.int .i64 (i9 : Int))) rfl) (q1 rfl rfl rfl (o_call (vs := [(.string s), (.int .i64 (i9 : Int)), (.int .i64 (-1)), (.int .u8 84)]) Tryz.func86 nm86 rfl rfl rfl ?_)))))
 refine Calls.mono (frog_spec (s := s) (i := i9) (stp := (-1)) (c := (84 : UInt8)) hX12.pins (by omega) (by omega) (by omega) (by decide)) ?_
 rintro _ w19 ⟨u17, G18, rfl, hr20, hx21⟩
 refine ⟨_, rfl, ?_⟩
 have hX22 := hX12.tr hx21
 have ho23 := hw13.ext hx21
 have hm24 : (frogM s i9 (-1) (84 : UInt8)).length ≤ 2 := frog_len
 refine q1 rfl rfl rfl (o_append (E := eStr) (v := ov) (u := u17) 16 Tryz.underlying22 ap9 (by decide) rfl rfl hX22.pins ho23 ((hr20.mono (Pin.le_refl _)).src hX22.pins (by decide)) (by first | omega | (rw [List.nil_append]; omega) | (rw [List.length_nil]; omega) | (rw [List.length_append]; omega) | (simp; done) | (simp; omega) | (simp only [List.length_cons, List.length_nil]; omega) | (simp only [List.length_append, List.length_cons, List.length_nil]; omega)) (by first | omega | (rw [List.nil_append]; omega) | (rw [List.length_nil]; omega) | (rw [List.length_append]; omega) | (simp; done) | (simp; omega) | (simp only [List.length_cons, List.length_nil]; omega) | (simp only [List.length_append, List.length_cons, List.length_nil]; omega)) (hX22.size) (fun u25 w26 ho27 hp28 hg29 hw30 => ?_))
 have hX31 := hX22.write hp28 hg29 ((lo_own ho23))
 have hm32 : (os ++ (frogM s i9 (-1) (84 : UInt8))).length = os.length + (frogM s i9 (-1) (84 : UInt8)).length := List.length_append
 refine qd rfl rfl rfl (r_assign (v := u25) rfl) (qe (s_blkN (s_blkN (s_then (c_reg ?_)))))
 refine qd rfl rfl rfl (r_move (v := (.int .i64 (i9 : Int))) rfl) (qd rfl rfl rfl (r_add rfl rfl (by omega)) (qd rfl rfl rfl (r_assign (v := (.int .i64 ((i9 : Int) + 1))) rfl) (qe (s_lopN (⟨_, ?_, _, rfl, _, i9 + 1, u25, os ++ (frogM s i9 (-1) (84 : UInt8)), G18, (packS (x := 10) (packS (x := 9) (packS (x := 8) (packS (x := 7) (packS (x := 6) (packS (x := 2) (packS (x := 1) (pack1 (x := 0) rfl) rfl) rfl) rfl) rfl) rfl) rfl) rfl), rfl, hX31, (Pin.le_trans hlek9 hx21.le), (by omega), (run_app hos (frog_at (left := false) h15 h16)), (by simp only [List.length_append]; omega), ho27⟩)))))
 omega
 refine wp_skip (s_blkN (s_blkN (s_then (c_reg ?_))))
 refine qd rfl rfl rfl (r_move (v := (.int .i64 (i9 : Int))) rfl) (qd rfl rfl rfl (r_add rfl rfl (by omega)) (qd rfl rfl rfl (r_assign (v := (.int .i64 ((i9 : Int) + 1))) rfl) (qe (s_lopN (⟨_, ?_, _, rfl, _, i9 + 1, ov, os, GL1, (packS (x := 10) (packS (x := 9) (packS (x := 8) (packS (x := 7) (packS (x := 6) (packS (x := 2) (packS (x := 1) (pack1 (x := 0) rfl) rfl) rfl) rfl) rfl) rfl) rfl) rfl), rfl, hX12, hlek9, (by omega), (run_nil hos (frog_no (left := false) h15 h16)), (by omega), hw13⟩)))))
 omega
 refine s_seq (c_reg ?_)
 refine qd rfl rfl rfl (r_eql rfl rfl) (qd rfl rfl rfl (r_assign (v := (.bool (decide ((kind : Int) = 1)))) rfl) (qe (s_then ?_)))
 refine c_ifd (p := (kind : Int) = 1) rfl rfl (fun h33 => ?_) (fun h33 => ?_)
 refine s_seq (c_reg ?_)
 refine qd rfl rfl rfl (r_assign (v := (.int .i64 (-1))) rfl) (qe (s_then ?_))
 refine s_blk (s_loop (fun (k : Nat) (en : Nat → Value) (W : World) => ∃ (env1 : Nat → Value) (q9 : Nat) (ov2 : Value) (os2 : List ByteArray) (GL2 : Pin), en = (upd (upd (upd (upd (upd (upd (upd (upd (upd env1 0 (.int .i64 kind)) 1 (.string s)) 2 (.bool false)) 6 (.slice none 0 0)) 7 ov2) 8 (.string (⟨#[82]⟩ : ByteArray))) 9 (.string (⟨#[76]⟩ : ByteArray))) 10 (.int .i64 (i9 : Int))) 11 (.int .i64 (2 * (q9 : Int) - 1))) ∧ k = 2 - q9 ∧ Ext noS G w GL2 W ∧ Pin.le GL1 GL2 ∧ (q9 ≤ 2) ∧ (os2 = os ++ runM (clobP s false i9) q9) ∧ (os2.length ≤ 2 * i9 + q9) ∧ (Own eStr 9 GL2 W w.heap.size ov2 (os2))) _ ⟨_, 0, ov, os, GL1, (packS (x := 11) (packS (x := 10) (packS (x := 9) (packS (x := 8) (packS (x := 7) (packS (x := 6) (packS (x := 2) (packS (x := 1) (pack1 (x := 0) rfl) rfl) rfl) rfl) rfl) rfl) rfl) rfl) rfl), rfl, hX12, Pin.le_refl _, Nat.zero_le _, (List.append_nil _).symm, (by omega), hw13⟩ ?_)
 rintro k34 _ w35 ⟨env1, q9, ov2, os2, GL2, rfl, hk36, hX37, hlek34, hq, hos2, hol2, hw38⟩
 refine s_seq (s_seq ?_)
 refine c_draw (S := fun wz => Pins GL2 wz) (last := 10) (by kernel_rfl) rfl ?_
 have hl39 : Below w35.heap.size w35 w35.drew := (Below.refl _ _).drew
 have hp40 := hX37.pins.below hl39
 have hX41 := hX37.step hp40 hl39
 have ho42 := hw38.below hl39
 refine dr_take (i := 0) rfl rfl rfl (want_none rfl _) (by kernel_rfl) (fun _ _ => r_move (v := (.int .i64 (2 * (q9 : Int) - 1))) rfl) hX41.pins (dr_take (i := 1) rfl rfl rfl (want_none rfl _) (by kernel_rfl) (fun _ _ => r_leq rfl rfl) hX41.pins (dr_take (i := 2) rfl rfl rfl (want_none rfl _) (by kernel_rfl) (fun _ _ => r_move (v := (.bool (decide ((2 * (q9 : Int) - 1 : Int) ≤ 1)))) rfl) hX41.pins (drbd (p := (2 * (q9 : Int) - 1 : Int) ≤ 1) (t := 87) rfl (fun h43 => ?_) (fun h43 => ?_))))
 rcases (show q9 = 0 ∨ q9 = 1 by omega) with hcs | hcs
 ·subst hcs
  refine dr_take (i := 3) rfl rfl rfl (want_yes rfl rfl rfl rfl) (by kernel_rfl) (fun _ _ => r_move (v := (.string s)) rfl) hX41.pins (dr_take (i := 4) rfl rfl rfl (want_yes rfl rfl rfl rfl) (by kernel_rfl) (fun _ _ => r_move (v := (.int .i64 (i9 : Int))) rfl) hX41.pins (dr_take (i := 5) rfl rfl rfl (want_yes rfl rfl rfl rfl) (by kernel_rfl) (fun _ _ => r_idxB Tryz.underlying9 rfl rfl (by omega) (by omega)) hX41.pins (dr_take (i := 6) rfl rfl rfl (want_yes rfl rfl rfl rfl) (by kernel_rfl) (fun _ _ => r_move (v := (.string (⟨#[82]⟩ : ByteArray))) rfl) hX41.pins (dr_take (i := 7) rfl rfl rfl (want_yes rfl rfl rfl rfl) (by kernel_rfl) (fun _ _ => r_idx1 (c := 82) Tryz.underlying9 rfl rfl) hX41.pins (dr_take (i := 8) rfl rfl rfl (want_yes rfl rfl rfl rfl) (by kernel_rfl) (fun _ _ => r_eql rfl rfl) hX41.pins (dr_take (i := 9) rfl rfl rfl (want_none rfl _) (by kernel_rfl) (fun _ _ => r_pickT (v := (.bool (decide ((((sB s i9).toNat : Int) : Int) = ((82 : UInt8).toNat : Int))))) rfl rfl) hX41.pins (dr_end (by kernel_rfl) (s_then (c_ifd (p := (((sB s i9).toNat : Int) : Int) = ((82 : UInt8).toNat : Int)) rfl rfl (fun h44 => ?_) (fun h44 => ?_))))))))))
  refine wp_skip (s_then (s_seq ?_))
  refine s_blk (s_seq (c_reg ?_))
  refine qd rfl rfl rfl (r_move (v := (.string s)) rfl) (qd rfl rfl rfl (r_move (v := (.int .i64 (i9 : Int))) rfl) (qd rfl rfl rfl (r_move (v := (.int .i64 (2 * ((0 : Nat) : Int) - 1))) rfl) (qd rfl rfl rfl (r_add rfl rfl (by omega)) (qd rfl rfl rfl (r_move (v := (.string (⟨#[76]⟩ : ByteArray))) rfl) (qd rfl rfl rfl (r_idx1 (c := 76) Tryz.underlying9 rfl rfl) (q1 rfl rfl rfl (o_call (vs := [(.string s), (.int .i64 ((i9 : Int) + (2 * ((0 : Nat) : Int) - 1))), (.int .u8 ((76 : UInt8).toNat : Int))]) Tryz.func87 nm87 rfl rfl rfl ?_)))))))
  refine Calls.mono (is23_spec (s := s) (i := ((i9 : Int) + (2 * ((0 : Nat) : Int) - 1))) (c := (76 : UInt8)) hX41.pins (by omega) (by first | decide | assumption | exact mineS_pos _)) ?_
  rintro _ w46 ⟨G45, rfl, hx47⟩
  refine ⟨_, rfl, ?_⟩
  have hX48 := hX41.tr hx47
  have ho49 := ho42.ext hx47
  refine qe (s_then ?_)
  refine c_ifd (p := ((cB s ((i9 : Int) + (2 * ((0 : Nat) : Int) - 1))).toNat : Int) = ((76 : UInt8).toNat : Int)) rfl rfl (fun h50 => ?_) (fun h50 => ?_)
  refine c_reg ?_
  have hat := cB_at (by rw [h50]; decide)
  have hsx : (setX s i9 (⟨#[46]⟩ : ByteArray)).size = s.size := by rw [setX_one (by omega), st1_size]
  have h46 : (⟨#[46]⟩ : ByteArray).size = 1 := rfl
  have hmn : (⟨#[82]⟩ : ByteArray).size = 1 := rfl
  refine qd rfl rfl rfl (r_move (v := ov2) rfl) (qd rfl rfl rfl (r_move (v := (.string s)) rfl) (qd rfl rfl rfl (r_move (v := (.int .i64 (i9 : Int))) rfl) (q1 rfl rfl rfl (o_call (vs := [(.string s), (.int .i64 (i9 : Int)), (.string (⟨#[46]⟩ : ByteArray))]) Tryz.func88 nm88 rfl rfl rfl ?_))))
  refine Calls.mono (set23_spec (s := s) (i := (i9 : Int)) (t := (⟨#[46]⟩ : ByteArray)) hX48.pins (by omega) (by omega) (by omega)) ?_
  rintro _ w52 ⟨G51, rfl, hx53⟩
  refine ⟨_, rfl, ?_⟩
  have hX54 := hX48.tr hx53
  have ho55 := ho49.ext hx53
  refine qd rfl rfl rfl (r_move (v := (.int .i64 (i9 : Int))) rfl) (qd rfl rfl rfl (r_move (v := (.int .i64 (2 * ((0 : Nat) : Int) - 1))) rfl) (qd rfl rfl rfl (r_add rfl rfl (by omega)) (qd rfl rfl rfl (r_move (v := (.string (⟨#[82]⟩ : ByteArray))) rfl) (q1 rfl rfl rfl (o_call (vs := [(.string (setX s i9 (⟨#[46]⟩ : ByteArray))), (.int .i64 ((i9 : Int) + (2 * ((0 : Nat) : Int) - 1))), (.string (⟨#[82]⟩ : ByteArray))]) Tryz.func88 nm88 rfl rfl rfl ?_)))))
  refine Calls.mono (set23_spec (s := (setX s i9 (⟨#[46]⟩ : ByteArray))) (i := ((i9 : Int) + (2 * ((0 : Nat) : Int) - 1))) (t := (⟨#[82]⟩ : ByteArray)) hX54.pins (by omega) (by omega) (by omega)) ?_
  rintro _ w57 ⟨G56, rfl, hx58⟩
  refine ⟨_, rfl, ?_⟩
  have hX59 := hX54.tr hx58
  have ho60 := ho55.ext hx58
  refine q1 rfl rfl rfl (o_buildF (E := eStr) (e := 9) [(.string (setX (setX s i9 (⟨#[46]⟩ : ByteArray)) ((i9 : Int) + (2 * ((0 : Nat) : Int) - 1)).toNat (⟨#[82]⟩ : ByteArray)))] [setX (setX s i9 (⟨#[46]⟩ : ByteArray)) ((i9 : Int) + (2 * ((0 : Nat) : Int) - 1)).toNat (⟨#[82]⟩ : ByteArray)] Tryz.underlying22 sz9 zr9 (by exact reps1 (by rfl)) (ones1 (by rfl)) rfl rfl rfl rfl (by decide) hX59.pins (fun u61 w62 ho63 hp64 hl65 hk66 => ?_))
  have hX67 := hX59.step hp64 hl65
  have ho68 := ho60.below hl65
  have ho70 : Own eStr 9 G56 w62 w.heap.size u61 ([setX (setX s i9 (⟨#[46]⟩ : ByteArray)) ((i9 : Int) + (2 * ((0 : Nat) : Int) - 1)).toNat (⟨#[82]⟩ : ByteArray)]) := ho63.weaken hX59.size
  refine q1 rfl rfl rfl (o_append (E := eStr) (v := ov2) (u := u61) 16 Tryz.underlying22 ap9 (by decide) rfl rfl hX67.pins ho68 ho70.src (by first | omega | (rw [List.nil_append]; omega) | (rw [List.length_nil]; omega) | (rw [List.length_append]; omega) | (simp; done) | (simp; omega) | (simp only [List.length_cons, List.length_nil]; omega) | (simp only [List.length_append, List.length_cons, List.length_nil]; omega)) (by first | omega | (rw [List.nil_append]; omega) | (rw [List.length_nil]; omega) | (rw [List.length_append]; omega) | (simp; done) | (simp; omega) | (simp only [List.length_cons, List.length_nil]; omega) | (simp only [List.length_append, List.length_cons, List.length_nil]; omega)) (hX67.size) (fun u71 w72 ho73 hp74 hg75 hw76 => ?_))
  have hX77 := hX67.write hp74 hg75 ((lo_own ho68))
  have hm80 : (os2 ++ ([setX (setX s i9 (⟨#[46]⟩ : ByteArray)) ((i9 : Int) + (2 * ((0 : Nat) : Int) - 1)).toNat (⟨#[82]⟩ : ByteArray)])).length = os2.length + 1 := List.length_append
  refine qd rfl rfl rfl (r_assign (v := u71) rfl) (qe (s_blkN (s_then (c_reg ?_))))
  refine qd rfl rfl rfl (r_move (v := (.int .i64 (2 * ((0 : Nat) : Int) - 1))) rfl) (qd rfl rfl rfl (r_add rfl rfl (by omega)) (qd rfl rfl rfl (r_assign (v := (.int .i64 ((2 * ((0 : Nat) : Int) - 1) + 2))) rfl) (qe (s_lopN (⟨_, ?_, _, rfl, _, 0 + 1, u71, os2 ++ ([setX (setX s i9 (⟨#[46]⟩ : ByteArray)) ((i9 : Int) + (2 * ((0 : Nat) : Int) - 1)).toNat (⟨#[82]⟩ : ByteArray)]), G56, (packS (x := 11) (packS (x := 10) (packS (x := 9) (packS (x := 8) (packS (x := 7) (packS (x := 6) (packS (x := 2) (packS (x := 1) (pack1 (x := 0) rfl) rfl) rfl) rfl) rfl) rfl) rfl) rfl) rfl), rfl, hX77, (Pin.le_trans (Pin.le_trans (Pin.le_trans hlek34 hx47.le) hx53.le) hx58.le), (by omega), (by rw [hos2, List.append_assoc]; exact (congrArg (os ++ ·) (run_app rfl (by rw [setX_two (by omega) (by omega)]; exact clobR_y (left := false) (j := 0) (by rw [nb0]; omega) h44 h50)))), (by simp; omega), ho73⟩)))))
  omega
  refine wp_skip (s_blkN (s_then (c_reg ?_)))
  refine qd rfl rfl rfl (r_move (v := (.int .i64 (2 * ((0 : Nat) : Int) - 1))) rfl) (qd rfl rfl rfl (r_add rfl rfl (by omega)) (qd rfl rfl rfl (r_assign (v := (.int .i64 ((2 * ((0 : Nat) : Int) - 1) + 2))) rfl) (qe (s_lopN (⟨_, ?_, _, rfl, _, 0 + 1, ov2, os2, G45, (packS (x := 11) (packS (x := 10) (packS (x := 9) (packS (x := 8) (packS (x := 7) (packS (x := 6) (packS (x := 2) (packS (x := 1) (pack1 (x := 0) rfl) rfl) rfl) rfl) rfl) rfl) rfl) rfl) rfl), rfl, hX48, (Pin.le_trans hlek34 hx47.le), (by omega), (by rw [hos2]; exact (congrArg (os ++ ·) (run_nil rfl (clobR_b (left := false) (j := 0) (by rw [nb0]; omega) h50)))), (by omega), ho49⟩)))))
  omega
  refine wp_exit (s_thenE (s_lopE (s_blkE (s_blkN (s_blkN (s_then (c_reg ?_)))))))
  refine qd rfl rfl rfl (r_move (v := (.int .i64 (i9 : Int))) rfl) (qd rfl rfl rfl (r_add rfl rfl (by omega)) (qd rfl rfl rfl (r_assign (v := (.int .i64 ((i9 : Int) + 1))) rfl) (qe (s_lopN (⟨_, ?_, _, rfl, _, i9 + 1, ov2, os2, GL2, (packS (x := 10) (packS (x := 9) (packS (x := 8) (packS (x := 7) (packS (x := 6) (packS (x := 2) (packS (x := 1) (pack1 (x := 0) rfl) rfl) rfl) rfl) rfl) rfl) rfl) rfl), rfl, hX41, (Pin.le_trans hlek9 hlek34), (by omega), (run_join hos hos2 ((clob_no (left := false) h33 h44 0).symm)), (by omega), ho42⟩)))))
  omega
 ·subst hcs
  refine dr_take (i := 3) rfl rfl rfl (want_yes rfl rfl rfl rfl) (by kernel_rfl) (fun _ _ => r_move (v := (.string s)) rfl) hX41.pins (dr_take (i := 4) rfl rfl rfl (want_yes rfl rfl rfl rfl) (by kernel_rfl) (fun _ _ => r_move (v := (.int .i64 (i9 : Int))) rfl) hX41.pins (dr_take (i := 5) rfl rfl rfl (want_yes rfl rfl rfl rfl) (by kernel_rfl) (fun _ _ => r_idxB Tryz.underlying9 rfl rfl (by omega) (by omega)) hX41.pins (dr_take (i := 6) rfl rfl rfl (want_yes rfl rfl rfl rfl) (by kernel_rfl) (fun _ _ => r_move (v := (.string (⟨#[82]⟩ : ByteArray))) rfl) hX41.pins (dr_take (i := 7) rfl rfl rfl (want_yes rfl rfl rfl rfl) (by kernel_rfl) (fun _ _ => r_idx1 (c := 82) Tryz.underlying9 rfl rfl) hX41.pins (dr_take (i := 8) rfl rfl rfl (want_yes rfl rfl rfl rfl) (by kernel_rfl) (fun _ _ => r_eql rfl rfl) hX41.pins (dr_take (i := 9) rfl rfl rfl (want_none rfl _) (by kernel_rfl) (fun _ _ => r_pickT (v := (.bool (decide ((((sB s i9).toNat : Int) : Int) = ((82 : UInt8).toNat : Int))))) rfl rfl) hX41.pins (dr_end (by kernel_rfl) (s_then (c_ifd (p := (((sB s i9).toNat : Int) : Int) = ((82 : UInt8).toNat : Int)) rfl rfl (fun h81 => ?_) (fun h81 => ?_))))))))))
  refine wp_skip (s_then (s_seq ?_))
  refine s_blk (s_seq (c_reg ?_))
  refine qd rfl rfl rfl (r_move (v := (.string s)) rfl) (qd rfl rfl rfl (r_move (v := (.int .i64 (i9 : Int))) rfl) (qd rfl rfl rfl (r_move (v := (.int .i64 (2 * ((1 : Nat) : Int) - 1))) rfl) (qd rfl rfl rfl (r_add rfl rfl (by omega)) (qd rfl rfl rfl (r_move (v := (.string (⟨#[76]⟩ : ByteArray))) rfl) (qd rfl rfl rfl (r_idx1 (c := 76) Tryz.underlying9 rfl rfl) (q1 rfl rfl rfl (o_call (vs := [(.string s), (.int .i64 ((i9 : Int) + (2 * ((1 : Nat) : Int) - 1))), (.int .u8 ((76 : UInt8).toNat : Int))]) Tryz.func87 nm87 rfl rfl rfl ?_)))))))
  refine Calls.mono (is23_spec (s := s) (i := ((i9 : Int) + (2 * ((1 : Nat) : Int) - 1))) (c := (76 : UInt8)) hX41.pins (by omega) (by first | decide | assumption | exact mineS_pos _)) ?_
  rintro _ w83 ⟨G82, rfl, hx84⟩
  refine ⟨_, rfl, ?_⟩
  have hX85 := hX41.tr hx84
  have ho86 := ho42.ext hx84
  refine qe (s_then ?_)
  refine c_ifd (p := ((cB s ((i9 : Int) + (2 * ((1 : Nat) : Int) - 1))).toNat : Int) = ((76 : UInt8).toNat : Int)) rfl rfl (fun h87 => ?_) (fun h87 => ?_)
  refine c_reg ?_
  have hat := cB_at (by rw [h87]; decide)
  have hsx : (setX s i9 (⟨#[46]⟩ : ByteArray)).size = s.size := by rw [setX_one (by omega), st1_size]
  have h46 : (⟨#[46]⟩ : ByteArray).size = 1 := rfl
  have hmn : (⟨#[82]⟩ : ByteArray).size = 1 := rfl
  refine qd rfl rfl rfl (r_move (v := ov2) rfl) (qd rfl rfl rfl (r_move (v := (.string s)) rfl) (qd rfl rfl rfl (r_move (v := (.int .i64 (i9 : Int))) rfl) (q1 rfl rfl rfl (o_call (vs := [(.string s), (.int .i64 (i9 : Int)), (.string (⟨#[46]⟩ : ByteArray))]) Tryz.func88 nm88 rfl rfl rfl ?_))))
  refine Calls.mono (set23_spec (s := s) (i := (i9 : Int)) (t := (⟨#[46]⟩ : ByteArray)) hX85.pins (by omega) (by omega) (by omega)) ?_
  rintro _ w89 ⟨G88, rfl, hx90⟩
  refine ⟨_, rfl, ?_⟩
  have hX91 := hX85.tr hx90
  have ho92 := ho86.ext hx90
  refine qd rfl rfl rfl (r_move (v := (.int .i64 (i9 : Int))) rfl) (qd rfl rfl rfl (r_move (v := (.int .i64 (2 * ((1 : Nat) : Int) - 1))) rfl) (qd rfl rfl rfl (r_add rfl rfl (by omega)) (qd rfl rfl rfl (r_move (v := (.string (⟨#[82]⟩ : ByteArray))) rfl) (q1 rfl rfl rfl (o_call (vs := [(.string (setX s i9 (⟨#[46]⟩ : ByteArray))), (.int .i64 ((i9 : Int) + (2 * ((1 : Nat) : Int) - 1))), (.string (⟨#[82]⟩ : ByteArray))]) Tryz.func88 nm88 rfl rfl rfl ?_)))))
  refine Calls.mono (set23_spec (s := (setX s i9 (⟨#[46]⟩ : ByteArray))) (i := ((i9 : Int) + (2 * ((1 : Nat) : Int) - 1))) (t := (⟨#[82]⟩ : ByteArray)) hX91.pins (by omega) (by omega) (by omega)) ?_
  rintro _ w94 ⟨G93, rfl, hx95⟩
  refine ⟨_, rfl, ?_⟩
  have hX96 := hX91.tr hx95
  have ho97 := ho92.ext hx95
  refine q1 rfl rfl rfl (o_buildF (E := eStr) (e := 9) [(.string (setX (setX s i9 (⟨#[46]⟩ : ByteArray)) ((i9 : Int) + (2 * ((1 : Nat) : Int) - 1)).toNat (⟨#[82]⟩ : ByteArray)))] [setX (setX s i9 (⟨#[46]⟩ : ByteArray)) ((i9 : Int) + (2 * ((1 : Nat) : Int) - 1)).toNat (⟨#[82]⟩ : ByteArray)] Tryz.underlying22 sz9 zr9 (by exact reps1 (by rfl)) (ones1 (by rfl)) rfl rfl rfl rfl (by decide) hX96.pins (fun u98 w99 ho100 hp101 hl102 hk103 => ?_))
  have hX104 := hX96.step hp101 hl102
  have ho105 := ho97.below hl102
  have ho107 : Own eStr 9 G93 w99 w.heap.size u98 ([setX (setX s i9 (⟨#[46]⟩ : ByteArray)) ((i9 : Int) + (2 * ((1 : Nat) : Int) - 1)).toNat (⟨#[82]⟩ : ByteArray)]) := ho100.weaken hX96.size
  refine q1 rfl rfl rfl (o_append (E := eStr) (v := ov2) (u := u98) 16 Tryz.underlying22 ap9 (by decide) rfl rfl hX104.pins ho105 ho107.src (by first | omega | (rw [List.nil_append]; omega) | (rw [List.length_nil]; omega) | (rw [List.length_append]; omega) | (simp; done) | (simp; omega) | (simp only [List.length_cons, List.length_nil]; omega) | (simp only [List.length_append, List.length_cons, List.length_nil]; omega)) (by first | omega | (rw [List.nil_append]; omega) | (rw [List.length_nil]; omega) | (rw [List.length_append]; omega) | (simp; done) | (simp; omega) | (simp only [List.length_cons, List.length_nil]; omega) | (simp only [List.length_append, List.length_cons, List.length_nil]; omega)) (hX104.size) (fun u108 w109 ho110 hp111 hg112 hw113 => ?_))
  have hX114 := hX104.write hp111 hg112 ((lo_own ho105))
  have hm117 : (os2 ++ ([setX (setX s i9 (⟨#[46]⟩ : ByteArray)) ((i9 : Int) + (2 * ((1 : Nat) : Int) - 1)).toNat (⟨#[82]⟩ : ByteArray)])).length = os2.length + 1 := List.length_append
  refine qd rfl rfl rfl (r_assign (v := u108) rfl) (qe (s_blkN (s_then (c_reg ?_))))
  refine qd rfl rfl rfl (r_move (v := (.int .i64 (2 * ((1 : Nat) : Int) - 1))) rfl) (qd rfl rfl rfl (r_add rfl rfl (by omega)) (qd rfl rfl rfl (r_assign (v := (.int .i64 ((2 * ((1 : Nat) : Int) - 1) + 2))) rfl) (qe (s_lopN (⟨_, ?_, _, rfl, _, 1 + 1, u108, os2 ++ ([setX (setX s i9 (⟨#[46]⟩ : ByteArray)) ((i9 : Int) + (2 * ((1 : Nat) : Int) - 1)).toNat (⟨#[82]⟩ : ByteArray)]), G93, (packS (x := 11) (packS (x := 10) (packS (x := 9) (packS (x := 8) (packS (x := 7) (packS (x := 6) (packS (x := 2) (packS (x := 1) (pack1 (x := 0) rfl) rfl) rfl) rfl) rfl) rfl) rfl) rfl) rfl), rfl, hX114, (Pin.le_trans (Pin.le_trans (Pin.le_trans hlek34 hx84.le) hx90.le) hx95.le), (by omega), (by rw [hos2, List.append_assoc]; exact (congrArg (os ++ ·) (run_app rfl (by rw [setX_two (by omega) (by omega)]; exact clobR_y (left := false) (j := 1) (by rw [nb1]; omega) h81 h87)))), (by simp; omega), ho110⟩)))))
  omega
  refine wp_skip (s_blkN (s_then (c_reg ?_)))
  refine qd rfl rfl rfl (r_move (v := (.int .i64 (2 * ((1 : Nat) : Int) - 1))) rfl) (qd rfl rfl rfl (r_add rfl rfl (by omega)) (qd rfl rfl rfl (r_assign (v := (.int .i64 ((2 * ((1 : Nat) : Int) - 1) + 2))) rfl) (qe (s_lopN (⟨_, ?_, _, rfl, _, 1 + 1, ov2, os2, G82, (packS (x := 11) (packS (x := 10) (packS (x := 9) (packS (x := 8) (packS (x := 7) (packS (x := 6) (packS (x := 2) (packS (x := 1) (pack1 (x := 0) rfl) rfl) rfl) rfl) rfl) rfl) rfl) rfl) rfl), rfl, hX85, (Pin.le_trans hlek34 hx84.le), (by omega), (by rw [hos2]; exact (congrArg (os ++ ·) (run_nil rfl (clobR_b (left := false) (j := 1) (by rw [nb1]; omega) h87)))), (by omega), ho86⟩)))))
  omega
  refine wp_exit (s_thenE (s_lopE (s_blkE (s_blkN (s_blkN (s_then (c_reg ?_)))))))
  refine qd rfl rfl rfl (r_move (v := (.int .i64 (i9 : Int))) rfl) (qd rfl rfl rfl (r_add rfl rfl (by omega)) (qd rfl rfl rfl (r_assign (v := (.int .i64 ((i9 : Int) + 1))) rfl) (qe (s_lopN (⟨_, ?_, _, rfl, _, i9 + 1, ov2, os2, GL2, (packS (x := 10) (packS (x := 9) (packS (x := 8) (packS (x := 7) (packS (x := 6) (packS (x := 2) (packS (x := 1) (pack1 (x := 0) rfl) rfl) rfl) rfl) rfl) rfl) rfl) rfl), rfl, hX41, (Pin.le_trans hlek9 hlek34), (by omega), (run_join hos hos2 ((clob_no (left := false) h33 h81 1).symm)), (by omega), ho42⟩)))))
  omega
 refine dr_skip (i := 3) rfl rfl (want_no rfl rfl rfl rfl rfl) (by kernel_rfl) hX41.pins (dr_skip (i := 4) rfl rfl (want_no rfl rfl rfl rfl rfl) (by kernel_rfl) hX41.pins (dr_skip (i := 5) rfl rfl (want_no rfl rfl rfl rfl rfl) (by kernel_rfl) hX41.pins (dr_skip (i := 6) rfl rfl (want_no rfl rfl rfl rfl rfl) (by kernel_rfl) hX41.pins (dr_skip (i := 7) rfl rfl (want_no rfl rfl rfl rfl rfl) (by kernel_rfl) hX41.pins (dr_skip (i := 8) rfl rfl (want_no rfl rfl rfl rfl rfl) (by kernel_rfl) hX41.pins (dr_take (i := 9) rfl rfl rfl (want_none rfl _) (by kernel_rfl) (fun _ _ => r_pickF (v := (.bool false)) rfl rfl) hX41.pins (dr_end (by kernel_rfl) (s_then (c_ifF rfl rfl (wp_exit (s_thenE (s_lopE (s_blkE (s_blkN (s_blkN (s_then (c_reg ?_)))))))))))))))))
 refine qd rfl rfl rfl (r_move (v := (.int .i64 (i9 : Int))) rfl) (qd rfl rfl rfl (r_add rfl rfl (by omega)) (qd rfl rfl rfl (r_assign (v := (.int .i64 ((i9 : Int) + 1))) rfl) (qe (s_lopN (⟨_, ?_, _, rfl, _, i9 + 1, ov2, os2, GL2, (packS (x := 10) (packS (x := 9) (packS (x := 8) (packS (x := 7) (packS (x := 6) (packS (x := 2) (packS (x := 1) (pack1 (x := 0) rfl) rfl) rfl) rfl) rfl) rfl) rfl) rfl), rfl, hX41, (Pin.le_trans hlek9 hlek34), (by omega), (run_join hos hos2 ((clob_at (left := false) h33).trans (by rw [show q9 = 2 by omega]))), (by omega), ho42⟩)))))
 omega
 refine s_seq (c_reg ?_)
 refine qd rfl rfl rfl (r_move (v := (.string (⟨#[82]⟩ : ByteArray))) rfl) (qd rfl rfl rfl (r_idx1 (c := 82) Tryz.underlying9 rfl rfl) (qd rfl rfl rfl (r_assign (v := (.int .u8 ((82 : UInt8).toNat : Int))) rfl) (qe (s_then (s_seq (s_seq (c_reg ?_)))))))
 refine qd rfl rfl rfl (r_move (v := (.int .i64 kind)) rfl) (qd rfl rfl rfl (r_eql rfl rfl) (qe (s_then ?_)))
 refine c_ifd (p := (kind : Int) = 3) rfl rfl (fun h118 => ?_) (fun h118 => ?_)
 refine c_reg (qd rfl rfl rfl (r_move (v := (.string (⟨#[76]⟩ : ByteArray))) rfl) (qd rfl rfl rfl (r_idx1 (c := 76) Tryz.underlying9 rfl rfl) (qd rfl rfl rfl (r_assign (v := (.int .u8 ((76 : UInt8).toNat : Int))) rfl) (qe (s_then (s_seq (c_reg ?_)))))))
 refine qd rfl rfl rfl (r_move (v := (.string s)) rfl) (qd rfl rfl rfl (r_move (v := (.int .i64 (i9 : Int))) rfl) (qd rfl rfl rfl (r_idxB Tryz.underlying9 rfl rfl (by omega) (by omega)) (qd rfl rfl rfl (r_eql rfl rfl) (qd rfl rfl rfl (r_move (v := (.bool (decide ((((sB s i9).toNat : Int) : Int) = 46)))) rfl) (qbd (p := (((sB s i9).toNat : Int) : Int) = 46) (t := 33) rfl (fun h119 => ?_) (fun h119 => ?_))))))
 refine qdg rfl rfl rfl rfl rfl rfl (r_move (v := (.string s)) rfl) (qdg rfl rfl rfl rfl rfl rfl (r_move (v := (.int .i64 (i9 : Int))) rfl) (qdg rfl rfl rfl rfl rfl rfl (r_sub rfl rfl (by omega)) (qdg rfl rfl rfl rfl rfl rfl (r_move (v := (.int .u8 ((76 : UInt8).toNat : Int))) rfl) (q1g rfl rfl rfl rfl rfl rfl (o_call (vs := [(.string s), (.int .i64 ((i9 : Int) - 1)), (.int .u8 ((76 : UInt8).toNat : Int))]) Tryz.func87 nm87 rfl rfl rfl ?_)))))
 refine Calls.mono (is23_spec (s := s) (i := ((i9 : Int) - 1)) (c := (76 : UInt8)) hX12.pins (by omega) (by first | decide | assumption | exact mineS_pos _)) ?_
 rintro _ w121 ⟨G120, rfl, hx122⟩
 refine ⟨_, rfl, ?_⟩
 have hX123 := hX12.tr hx122
 have ho124 := hw13.ext hx122
 refine qdg rfl rfl rfl rfl rfl rfl (r_not rfl) (qd rfl rfl rfl (r_pickT (v := (.bool (!(decide (((cB s ((i9 : Int) - 1)).toNat : Int) = ((76 : UInt8).toNat : Int)))))) rfl rfl) (qd rfl rfl rfl (r_move (v := (.bool (!(decide (((cB s ((i9 : Int) - 1)).toNat : Int) = ((76 : UInt8).toNat : Int)))))) rfl) (qbn (t := 41) rfl (fun h125 => ?_) (fun h125 => ?_))))
 replace h125 := of_decide_eq_true h125
 refine qs rfl rfl rfl rfl rfl rfl (qs rfl rfl rfl rfl rfl rfl (qs rfl rfl rfl rfl rfl rfl (qs rfl rfl rfl rfl rfl rfl (qs rfl rfl rfl rfl rfl rfl (qs rfl rfl rfl rfl rfl rfl (qd rfl rfl rfl (r_pickF (v := (.bool false)) rfl rfl) (qe (s_then ?_))))))))
 refine c_ifF rfl rfl (wp_skip (s_blkN (s_blkN (s_then (c_reg ?_)))))
 refine qd rfl rfl rfl (r_move (v := (.int .i64 (i9 : Int))) rfl) (qd rfl rfl rfl (r_add rfl rfl (by omega)) (qd rfl rfl rfl (r_assign (v := (.int .i64 ((i9 : Int) + 1))) rfl) (qe (s_lopN (⟨_, ?_, _, rfl, _, i9 + 1, ov, os, G120, (packS (x := 10) (packS (x := 9) (packS (x := 8) (packS (x := 7) (packS (x := 6) (packS (x := 2) (packS (x := 1) (pack1 (x := 0) rfl) rfl) rfl) rfl) rfl) rfl) rfl) rfl), rfl, hX123, (Pin.le_trans hlek9 hx122.le), (by omega), (run_nil hos ((mark_at (left := false) (c := mineS (!false)) h15 h33 (Or.inl ⟨h118, rfl⟩)).trans (mark_b h125))), (by omega), ho124⟩)))))
 omega
 replace h125 := of_decide_eq_false h125
 refine qdg rfl rfl rfl rfl rfl rfl (r_move (v := (.string s)) rfl) (qdg rfl rfl rfl rfl rfl rfl (r_move (v := (.int .i64 (i9 : Int))) rfl) (qdg rfl rfl rfl rfl rfl rfl (r_add rfl rfl (by omega)) (qdg rfl rfl rfl rfl rfl rfl (r_move (v := (.int .u8 ((76 : UInt8).toNat : Int))) rfl) (q1g rfl rfl rfl rfl rfl rfl (o_call (vs := [(.string s), (.int .i64 ((i9 : Int) + 1)), (.int .u8 ((76 : UInt8).toNat : Int))]) Tryz.func87 nm87 rfl rfl rfl ?_)))))
 refine Calls.mono (is23_spec (s := s) (i := ((i9 : Int) + 1)) (c := (76 : UInt8)) hX123.pins (by omega) (by first | decide | assumption | exact mineS_pos _)) ?_
 rintro _ w127 ⟨G126, rfl, hx128⟩
 refine ⟨_, rfl, ?_⟩
 have hX129 := hX123.tr hx128
 have ho130 := ho124.ext hx128
 refine qdg rfl rfl rfl rfl rfl rfl (r_not rfl) (qd rfl rfl rfl (r_pickT (v := (.bool (!(decide (((cB s ((i9 : Int) + 1)).toNat : Int) = ((76 : UInt8).toNat : Int)))))) rfl rfl) (qe (s_then ?_)))
 refine c_ifn rfl rfl (fun h131 => ?_) (fun h131 => ?_)
 replace h131 := of_decide_eq_true h131
 refine wp_skip (s_blkN (s_blkN (s_then (c_reg ?_))))
 refine qd rfl rfl rfl (r_move (v := (.int .i64 (i9 : Int))) rfl) (qd rfl rfl rfl (r_add rfl rfl (by omega)) (qd rfl rfl rfl (r_assign (v := (.int .i64 ((i9 : Int) + 1))) rfl) (qe (s_lopN (⟨_, ?_, _, rfl, _, i9 + 1, ov, os, G126, (packS (x := 10) (packS (x := 9) (packS (x := 8) (packS (x := 7) (packS (x := 6) (packS (x := 2) (packS (x := 1) (pack1 (x := 0) rfl) rfl) rfl) rfl) rfl) rfl) rfl) rfl), rfl, hX129, (Pin.le_trans (Pin.le_trans hlek9 hx122.le) hx128.le), (by omega), (run_nil hos ((mark_at (left := false) (c := mineS (!false)) h15 h33 (Or.inl ⟨h118, rfl⟩)).trans (mark_c h131))), (by omega), ho130⟩)))))
 omega
 replace h131 := of_decide_eq_false h131
 refine c_reg ?_
 have hmn : (⟨#[82]⟩ : ByteArray).size = 1 := rfl
 refine qd rfl rfl rfl (r_move (v := ov) rfl) (qd rfl rfl rfl (r_move (v := (.string s)) rfl) (qd rfl rfl rfl (r_move (v := (.int .i64 (i9 : Int))) rfl) (qd rfl rfl rfl (r_move (v := (.string (⟨#[82]⟩ : ByteArray))) rfl) (q1 rfl rfl rfl (o_call (vs := [(.string s), (.int .i64 (i9 : Int)), (.string (⟨#[82]⟩ : ByteArray))]) Tryz.func88 nm88 rfl rfl rfl ?_)))))
 refine Calls.mono (set23_spec (s := s) (i := (i9 : Int)) (t := (⟨#[82]⟩ : ByteArray)) hX129.pins (by omega) (by omega) (by omega)) ?_
 rintro _ w133 ⟨G132, rfl, hx134⟩
 refine ⟨_, rfl, ?_⟩
 have hX135 := hX129.tr hx134
 have ho136 := ho130.ext hx134
 refine q1 rfl rfl rfl (o_buildF (E := eStr) (e := 9) [(.string (setX s i9 (⟨#[82]⟩ : ByteArray)))] [setX s i9 (⟨#[82]⟩ : ByteArray)] Tryz.underlying22 sz9 zr9 (by exact reps1 (by rfl)) (ones1 (by rfl)) rfl rfl rfl rfl (by decide) hX135.pins (fun u137 w138 ho139 hp140 hl141 hk142 => ?_))
 have hX143 := hX135.step hp140 hl141
 have ho144 := ho136.below hl141
 have ho146 : Own eStr 9 G132 w138 w.heap.size u137 ([setX s i9 (⟨#[82]⟩ : ByteArray)]) := ho139.weaken hX135.size
 refine q1 rfl rfl rfl (o_append (E := eStr) (v := ov) (u := u137) 16 Tryz.underlying22 ap9 (by decide) rfl rfl hX143.pins ho144 ho146.src (by first | omega | (rw [List.nil_append]; omega) | (rw [List.length_nil]; omega) | (rw [List.length_append]; omega) | (simp; done) | (simp; omega) | (simp only [List.length_cons, List.length_nil]; omega) | (simp only [List.length_append, List.length_cons, List.length_nil]; omega)) (by first | omega | (rw [List.nil_append]; omega) | (rw [List.length_nil]; omega) | (rw [List.length_append]; omega) | (simp; done) | (simp; omega) | (simp only [List.length_cons, List.length_nil]; omega) | (simp only [List.length_append, List.length_cons, List.length_nil]; omega)) (hX143.size) (fun u147 w148 ho149 hp150 hg151 hw152 => ?_))
 have hX153 := hX143.write hp150 hg151 ((lo_own ho144))
 have hm156 : (os ++ ([setX s i9 (⟨#[82]⟩ : ByteArray)])).length = os.length + 1 := List.length_append
 refine qd rfl rfl rfl (r_assign (v := u147) rfl) (qe (s_blkN (s_blkN (s_then (c_reg ?_)))))
 refine qd rfl rfl rfl (r_move (v := (.int .i64 (i9 : Int))) rfl) (qd rfl rfl rfl (r_add rfl rfl (by omega)) (qd rfl rfl rfl (r_assign (v := (.int .i64 ((i9 : Int) + 1))) rfl) (qe (s_lopN (⟨_, ?_, _, rfl, _, i9 + 1, u147, os ++ ([setX s i9 (⟨#[82]⟩ : ByteArray)]), G132, (packS (x := 10) (packS (x := 9) (packS (x := 8) (packS (x := 7) (packS (x := 6) (packS (x := 2) (packS (x := 1) (pack1 (x := 0) rfl) rfl) rfl) rfl) rfl) rfl) rfl) rfl), rfl, hX153, (Pin.le_trans (Pin.le_trans (Pin.le_trans hlek9 hx122.le) hx128.le) hx134.le), (by omega), (run_app hos ((mark_at (left := false) (c := mineS (!false)) h15 h33 (Or.inl ⟨h118, rfl⟩)).trans (markX_y (by omega) h119 h125 h131))), (by simp only [List.length_append, List.length_cons, List.length_nil]; omega), ho149⟩)))))
 omega
 refine qs rfl rfl rfl rfl rfl rfl (qs rfl rfl rfl rfl rfl rfl (qs rfl rfl rfl rfl rfl rfl (qs rfl rfl rfl rfl rfl rfl (qs rfl rfl rfl rfl rfl rfl (qs rfl rfl rfl rfl rfl rfl (qd rfl rfl rfl (r_pickF (v := (.bool false)) rfl rfl) (qd rfl rfl rfl (r_move (v := (.bool false)) rfl) (qs rfl rfl rfl rfl rfl rfl (qs rfl rfl rfl rfl rfl rfl (qs rfl rfl rfl rfl rfl rfl (qs rfl rfl rfl rfl rfl rfl (qs rfl rfl rfl rfl rfl rfl (qs rfl rfl rfl rfl rfl rfl (qd rfl rfl rfl (r_pickF (v := (.bool false)) rfl rfl) (qe (s_then ?_))))))))))))))))
 refine c_ifF rfl rfl (wp_skip (s_blkN (s_blkN (s_then (c_reg ?_)))))
 refine qd rfl rfl rfl (r_move (v := (.int .i64 (i9 : Int))) rfl) (qd rfl rfl rfl (r_add rfl rfl (by omega)) (qd rfl rfl rfl (r_assign (v := (.int .i64 ((i9 : Int) + 1))) rfl) (qe (s_lopN (⟨_, ?_, _, rfl, _, i9 + 1, ov, os, GL1, (packS (x := 10) (packS (x := 9) (packS (x := 8) (packS (x := 7) (packS (x := 6) (packS (x := 2) (packS (x := 1) (pack1 (x := 0) rfl) rfl) rfl) rfl) rfl) rfl) rfl) rfl), rfl, hX12, hlek9, (by omega), (run_nil hos ((mark_at (left := false) (c := mineS (!false)) h15 h33 (Or.inl ⟨h118, rfl⟩)).trans (mark_a h119))), (by omega), hw13⟩)))))
 omega
 refine wp_skip (s_then (s_seq (c_reg ?_)))
 refine qd rfl rfl rfl (r_move (v := (.string s)) rfl) (qd rfl rfl rfl (r_move (v := (.int .i64 (i9 : Int))) rfl) (qd rfl rfl rfl (r_idxB Tryz.underlying9 rfl rfl (by omega) (by omega)) (qd rfl rfl rfl (r_eql rfl rfl) (qd rfl rfl rfl (r_move (v := (.bool (decide ((((sB s i9).toNat : Int) : Int) = 46)))) rfl) (qbd (p := (((sB s i9).toNat : Int) : Int) = 46) (t := 33) rfl (fun h157 => ?_) (fun h157 => ?_))))))
 refine qdg rfl rfl rfl rfl rfl rfl (r_move (v := (.string s)) rfl) (qdg rfl rfl rfl rfl rfl rfl (r_move (v := (.int .i64 (i9 : Int))) rfl) (qdg rfl rfl rfl rfl rfl rfl (r_sub rfl rfl (by omega)) (qdg rfl rfl rfl rfl rfl rfl (r_move (v := (.int .u8 ((82 : UInt8).toNat : Int))) rfl) (q1g rfl rfl rfl rfl rfl rfl (o_call (vs := [(.string s), (.int .i64 ((i9 : Int) - 1)), (.int .u8 ((82 : UInt8).toNat : Int))]) Tryz.func87 nm87 rfl rfl rfl ?_)))))
 refine Calls.mono (is23_spec (s := s) (i := ((i9 : Int) - 1)) (c := (82 : UInt8)) hX12.pins (by omega) (by first | decide | assumption | exact mineS_pos _)) ?_
 rintro _ w159 ⟨G158, rfl, hx160⟩
 refine ⟨_, rfl, ?_⟩
 have hX161 := hX12.tr hx160
 have ho162 := hw13.ext hx160
 refine qdg rfl rfl rfl rfl rfl rfl (r_not rfl) (qd rfl rfl rfl (r_pickT (v := (.bool (!(decide (((cB s ((i9 : Int) - 1)).toNat : Int) = ((82 : UInt8).toNat : Int)))))) rfl rfl) (qd rfl rfl rfl (r_move (v := (.bool (!(decide (((cB s ((i9 : Int) - 1)).toNat : Int) = ((82 : UInt8).toNat : Int)))))) rfl) (qbn (t := 41) rfl (fun h163 => ?_) (fun h163 => ?_))))
 replace h163 := of_decide_eq_true h163
 refine qs rfl rfl rfl rfl rfl rfl (qs rfl rfl rfl rfl rfl rfl (qs rfl rfl rfl rfl rfl rfl (qs rfl rfl rfl rfl rfl rfl (qs rfl rfl rfl rfl rfl rfl (qs rfl rfl rfl rfl rfl rfl (qd rfl rfl rfl (r_pickF (v := (.bool false)) rfl rfl) (qe (s_then ?_))))))))
 refine c_ifF rfl rfl (wp_skip (s_blkN (s_blkN (s_then (c_reg ?_)))))
 refine qd rfl rfl rfl (r_move (v := (.int .i64 (i9 : Int))) rfl) (qd rfl rfl rfl (r_add rfl rfl (by omega)) (qd rfl rfl rfl (r_assign (v := (.int .i64 ((i9 : Int) + 1))) rfl) (qe (s_lopN (⟨_, ?_, _, rfl, _, i9 + 1, ov, os, G158, (packS (x := 10) (packS (x := 9) (packS (x := 8) (packS (x := 7) (packS (x := 6) (packS (x := 2) (packS (x := 1) (pack1 (x := 0) rfl) rfl) rfl) rfl) rfl) rfl) rfl) rfl), rfl, hX161, (Pin.le_trans hlek9 hx160.le), (by omega), (run_nil hos ((mark_at (left := false) (c := mineS (false)) h15 h33 (Or.inr ⟨by omega, rfl⟩)).trans (mark_b h163))), (by omega), ho162⟩)))))
 omega
 replace h163 := of_decide_eq_false h163
 refine qdg rfl rfl rfl rfl rfl rfl (r_move (v := (.string s)) rfl) (qdg rfl rfl rfl rfl rfl rfl (r_move (v := (.int .i64 (i9 : Int))) rfl) (qdg rfl rfl rfl rfl rfl rfl (r_add rfl rfl (by omega)) (qdg rfl rfl rfl rfl rfl rfl (r_move (v := (.int .u8 ((82 : UInt8).toNat : Int))) rfl) (q1g rfl rfl rfl rfl rfl rfl (o_call (vs := [(.string s), (.int .i64 ((i9 : Int) + 1)), (.int .u8 ((82 : UInt8).toNat : Int))]) Tryz.func87 nm87 rfl rfl rfl ?_)))))
 refine Calls.mono (is23_spec (s := s) (i := ((i9 : Int) + 1)) (c := (82 : UInt8)) hX161.pins (by omega) (by first | decide | assumption | exact mineS_pos _)) ?_
 rintro _ w165 ⟨G164, rfl, hx166⟩
 refine ⟨_, rfl, ?_⟩
 have hX167 := hX161.tr hx166
 have ho168 := ho162.ext hx166
 refine qdg rfl rfl rfl rfl rfl rfl (r_not rfl) (qd rfl rfl rfl (r_pickT (v := (.bool (!(decide (((cB s ((i9 : Int) + 1)).toNat : Int) = ((82 : UInt8).toNat : Int)))))) rfl rfl) (qe (s_then ?_)))
 refine c_ifn rfl rfl (fun h169 => ?_) (fun h169 => ?_)
 replace h169 := of_decide_eq_true h169
 refine wp_skip (s_blkN (s_blkN (s_then (c_reg ?_))))
 refine qd rfl rfl rfl (r_move (v := (.int .i64 (i9 : Int))) rfl) (qd rfl rfl rfl (r_add rfl rfl (by omega)) (qd rfl rfl rfl (r_assign (v := (.int .i64 ((i9 : Int) + 1))) rfl) (qe (s_lopN (⟨_, ?_, _, rfl, _, i9 + 1, ov, os, G164, (packS (x := 10) (packS (x := 9) (packS (x := 8) (packS (x := 7) (packS (x := 6) (packS (x := 2) (packS (x := 1) (pack1 (x := 0) rfl) rfl) rfl) rfl) rfl) rfl) rfl) rfl), rfl, hX167, (Pin.le_trans (Pin.le_trans hlek9 hx160.le) hx166.le), (by omega), (run_nil hos ((mark_at (left := false) (c := mineS (false)) h15 h33 (Or.inr ⟨by omega, rfl⟩)).trans (mark_c h169))), (by omega), ho168⟩)))))
 omega
 replace h169 := of_decide_eq_false h169
 refine c_reg ?_
 have hmn : (⟨#[82]⟩ : ByteArray).size = 1 := rfl
 refine qd rfl rfl rfl (r_move (v := ov) rfl) (qd rfl rfl rfl (r_move (v := (.string s)) rfl) (qd rfl rfl rfl (r_move (v := (.int .i64 (i9 : Int))) rfl) (qd rfl rfl rfl (r_move (v := (.string (⟨#[82]⟩ : ByteArray))) rfl) (q1 rfl rfl rfl (o_call (vs := [(.string s), (.int .i64 (i9 : Int)), (.string (⟨#[82]⟩ : ByteArray))]) Tryz.func88 nm88 rfl rfl rfl ?_)))))
 refine Calls.mono (set23_spec (s := s) (i := (i9 : Int)) (t := (⟨#[82]⟩ : ByteArray)) hX167.pins (by omega) (by omega) (by omega)) ?_
 rintro _ w171 ⟨G170, rfl, hx172⟩
 refine ⟨_, rfl, ?_⟩
 have hX173 := hX167.tr hx172
 have ho174 := ho168.ext hx172
 refine q1 rfl rfl rfl (o_buildF (E := eStr) (e := 9) [(.string (setX s i9 (⟨#[82]⟩ : ByteArray)))] [setX s i9 (⟨#[82]⟩ : ByteArray)] Tryz.underlying22 sz9 zr9 (by exact reps1 (by rfl)) (ones1 (by rfl)) rfl rfl rfl rfl (by decide) hX173.pins (fun u175 w176 ho177 hp178 hl179 hk180 => ?_))
 have hX181 := hX173.step hp178 hl179
 have ho182 := ho174.below hl179
 have ho184 : Own eStr 9 G170 w176 w.heap.size u175 ([setX s i9 (⟨#[82]⟩ : ByteArray)]) := ho177.weaken hX173.size
 refine q1 rfl rfl rfl (o_append (E := eStr) (v := ov) (u := u175) 16 Tryz.underlying22 ap9 (by decide) rfl rfl hX181.pins ho182 ho184.src (by first | omega | (rw [List.nil_append]; omega) | (rw [List.length_nil]; omega) | (rw [List.length_append]; omega) | (simp; done) | (simp; omega) | (simp only [List.length_cons, List.length_nil]; omega) | (simp only [List.length_append, List.length_cons, List.length_nil]; omega)) (by first | omega | (rw [List.nil_append]; omega) | (rw [List.length_nil]; omega) | (rw [List.length_append]; omega) | (simp; done) | (simp; omega) | (simp only [List.length_cons, List.length_nil]; omega) | (simp only [List.length_append, List.length_cons, List.length_nil]; omega)) (hX181.size) (fun u185 w186 ho187 hp188 hg189 hw190 => ?_))
 have hX191 := hX181.write hp188 hg189 ((lo_own ho182))
 have hm194 : (os ++ ([setX s i9 (⟨#[82]⟩ : ByteArray)])).length = os.length + 1 := List.length_append
 refine qd rfl rfl rfl (r_assign (v := u185) rfl) (qe (s_blkN (s_blkN (s_then (c_reg ?_)))))
 refine qd rfl rfl rfl (r_move (v := (.int .i64 (i9 : Int))) rfl) (qd rfl rfl rfl (r_add rfl rfl (by omega)) (qd rfl rfl rfl (r_assign (v := (.int .i64 ((i9 : Int) + 1))) rfl) (qe (s_lopN (⟨_, ?_, _, rfl, _, i9 + 1, u185, os ++ ([setX s i9 (⟨#[82]⟩ : ByteArray)]), G170, (packS (x := 10) (packS (x := 9) (packS (x := 8) (packS (x := 7) (packS (x := 6) (packS (x := 2) (packS (x := 1) (pack1 (x := 0) rfl) rfl) rfl) rfl) rfl) rfl) rfl) rfl), rfl, hX191, (Pin.le_trans (Pin.le_trans (Pin.le_trans hlek9 hx160.le) hx166.le) hx172.le), (by omega), (run_app hos ((mark_at (left := false) (c := mineS (false)) h15 h33 (Or.inr ⟨by omega, rfl⟩)).trans (markX_y (by omega) h157 h163 h169))), (by simp only [List.length_append, List.length_cons, List.length_nil]; omega), ho187⟩)))))
 omega
 refine qs rfl rfl rfl rfl rfl rfl (qs rfl rfl rfl rfl rfl rfl (qs rfl rfl rfl rfl rfl rfl (qs rfl rfl rfl rfl rfl rfl (qs rfl rfl rfl rfl rfl rfl (qs rfl rfl rfl rfl rfl rfl (qd rfl rfl rfl (r_pickF (v := (.bool false)) rfl rfl) (qd rfl rfl rfl (r_move (v := (.bool false)) rfl) (qs rfl rfl rfl rfl rfl rfl (qs rfl rfl rfl rfl rfl rfl (qs rfl rfl rfl rfl rfl rfl (qs rfl rfl rfl rfl rfl rfl (qs rfl rfl rfl rfl rfl rfl (qs rfl rfl rfl rfl rfl rfl (qd rfl rfl rfl (r_pickF (v := (.bool false)) rfl rfl) (qe (s_then ?_))))))))))))))))
 refine c_ifF rfl rfl (wp_skip (s_blkN (s_blkN (s_then (c_reg ?_)))))
 refine qd rfl rfl rfl (r_move (v := (.int .i64 (i9 : Int))) rfl) (qd rfl rfl rfl (r_add rfl rfl (by omega)) (qd rfl rfl rfl (r_assign (v := (.int .i64 ((i9 : Int) + 1))) rfl) (qe (s_lopN (⟨_, ?_, _, rfl, _, i9 + 1, ov, os, GL1, (packS (x := 10) (packS (x := 9) (packS (x := 8) (packS (x := 7) (packS (x := 6) (packS (x := 2) (packS (x := 1) (pack1 (x := 0) rfl) rfl) rfl) rfl) rfl) rfl) rfl) rfl), rfl, hX12, hlek9, (by omega), (run_nil hos ((mark_at (left := false) (c := mineS (false)) h15 h33 (Or.inr ⟨by omega, rfl⟩)).trans (mark_a h157))), (by omega), hw13⟩)))))
 omega
 refine wp_exit (s_thenE (s_lopE (s_blkE (s_then (s_seq (c_reg ?_))))))
 refine qd rfl rfl rfl (r_move (v := ov) rfl) (qd rfl rfl rfl (r_assign (v := ov) rfl) (qe (s_then ?_)))
 refine wp_ret (s_ret (c_ret1 (v := ov) rfl rfl rfl ?_))
 obtain ⟨G195, hle198, hX197, hr196, hf199⟩ := hw13.sealed hX12
 have hin : i9 = s.size := by omega
 subst hin
 exact ⟨_, _, rfl, (by unfold stripM; rw [← hos]; exact hr196), hX197⟩

theorem mv23_spec {w : World} {G : Pin} {kind : Int} {s : ByteArray} {left : Bool} (hP : Pins G w) (hs : s.size ≤ 1000) (hkd : 0 ≤ kind ∧ kind ≤ 3) :
  Calls Tryz.prog 55 [.int .i64 kind, .string s, .bool left].toArray w fun e w' => ∃ (u : Value) (G' : Pin), e = .returned u ∧ RSl eStr G' u (stripM kind s left) ∧ Ext noS G w G' w' := by
 cases left with
 | true => exact mv23_true hP hs hkd
 | false => exact mv23_false hP hs hkd

end PS9
end Go.Proofs.YtianphgdbfekdaaGreatDoor

set_option maxRecDepth 20000
set_option maxHeartbeats 2000000
namespace Go.Proofs.YtianphgdbfekdaaGreatDoor
namespace RM6
open Go.RowKit Go.GL Go.Proofs
open RM5











theorem smoves_true {w : World} {G : Pin} {v : Value} {rows : List ByteArray} (hP : Pins G w) (hv : RSl eStr G v rows) (g : GbP rows) :
  Calls Tryz.prog 40 [(.agg [v].toArray), (.bool true)].toArray w fun e w' => ∃ (u : Value) (G' : Pin), e = .returned u ∧ RSl (eSl eStr) G' u (dmM rows true) ∧ Ext noS G w G' w' := by
 refine s_enter (n := 74) Tryz.func40 Tryz.ntmps40 rfl rfl ?_
 have hX0 : Ext noS G w G w := Ext.refl hP
 have hm := hv.max
 have ghi := g.hi
 have gwd : 1 ≤ (rows.getD 0 ByteArray.empty).size ∧ (rows.getD 0 ByteArray.empty).size ≤ 8 := g.wd
 have geq : ∀ i, i < rows.length → (rows.getD i ByteArray.empty).size = (rows.getD 0 ByteArray.empty).size := g.eq
 have hcl : (cellsM rows).length = rows.length := cells_len
 have hcw : ∀ i, i < rows.length → ((cellsM rows).getD i []).length = (rows.getD 0 ByteArray.empty).size := fun i hi => cells_wd g hi
 refine s_seq (c_reg ?_)
 refine q1 rfl rfl rfl (o_box [v] (v := (.agg [v].toArray)) rfl rfl hX0.pins (fun b1 w2 hk3 hb4 hp5 hl6 => ?_))
 have hX7 := hX0.step hp5 hl6
 have hlo8 : w.heap.size ≤ b1 := by have := hX0.size; omega
 obtain ⟨G9, hle10, hX11, hbp12, hf13⟩ := hb4.shut hX7 hlo8
 refine qd rfl rfl rfl (r_assign (v := (.slice none 0 0)) rfl) (qe (s_then (s_seq (c_reg ?_))))
 refine q1 rfl rfl rfl (o_build0 (E := (eSl eStr)) (e := 56) Tryz.underlying66 sz56 hX11.pins (fun u14 w15 ho16 hp17 hl18 hk19 => ?_))
 have hX20 := hX11.step hp17 hl18
 have ho21 : Own (eSl eStr) 56 G9 w15 w.heap.size u14 ([]) := ho16.weaken hX11.size
 refine qd rfl rfl rfl (r_assign (v := u14) rfl) (qe (s_then (s_seq (c_reg ?_))))
 refine qd rfl rfl rfl (r_ldpA (cs := [v]) ag56 sz56 rfl (fun j u hj => hX20.pins _ _ _ (hbp12 _ _ (by simpa using hj)))) (q1 rfl rfl rfl (o_call (vs := [(.agg [v].toArray)]) Tryz.func64 nm64 rfl rfl rfl ?_))
 refine Calls.mono (cells_spec hX20.pins (hv.mono hle10) g) ?_
 rintro _ w24 ⟨u22, G23, rfl, hd25, hx26⟩
 refine ⟨_, rfl, ?_⟩
 have hX27 := hX20.tr hx26
 have ho28 := ho21.ext hx26
 have hm29 := hd25.max
 refine qd rfl rfl rfl (r_assign (v := u22) rfl) (qe (s_then (s_seq (c_reg ?_))))
 refine qd rfl rfl rfl (r_assign (v := (.int .i64 0)) rfl) (qd rfl rfl rfl (r_assign (v := (.int .i64 1)) rfl) (qe (s_then (s_seq (s_seq (c_reg ?_))))))
 refine qd rfl rfl rfl (r_move (v := (.bool true)) rfl) (qe (s_then ?_))
 refine c_ifT rfl rfl (c_reg (qd rfl rfl rfl (r_assign (v := (.int .i64 1)) rfl) (qd rfl rfl rfl (r_assign (v := (.int .i64 0)) rfl) (qe (s_then (s_seq (s_seq (c_reg ?_))))))))
 refine qd rfl rfl rfl (r_assign (v := (.int .i64 0)) rfl) (qe (s_then ?_))
 refine s_blk (s_loop (fun (k : Nat) (en : Nat → Value) (W : World) => ∃ (env1 : Nat → Value) (i : Nat) (ov : Value) (os : List (List ByteArray)) (GL1 : Pin), en = (upd (upd (upd (upd (upd (upd (upd env1 2 (.pointer (some ⟨b1, 0, none⟩))) 4 (.slice none 0 0)) 5 ov) 6 u22) 7 (.int .i64 1)) 8 (.int .i64 0)) 9 (.int .i64 (i : Int))) ∧ k = rows.length - i ∧ Ext noS G w GL1 W ∧ Pin.le G23 GL1 ∧ (i ≤ rows.length) ∧ (os = dmAll rows true (fun r c => bdM (nextC rows true r c)) i) ∧ (os.length ≤ 8 * i) ∧ (Own (eSl eStr) 56 GL1 W w.heap.size ov (os))) _ ⟨_, 0, u14, [], G23, (packS (x := 9) (packS (x := 8) (packS (x := 7) (packS (x := 6) (packS (x := 5) (packS (x := 4) (pack1 (x := 2) rfl) rfl) rfl) rfl) rfl) rfl) rfl), rfl, hX27, Pin.le_refl _, Nat.zero_le _, rfl, (by simp), ho28⟩ ?_)
 rintro k30 _ w31 ⟨env1, i, ov, os, GL1, rfl, hk32, hX33, hlek30, hi, hos, hol, hw34⟩
 refine s_seq (s_seq (c_reg ?_))
 refine qd rfl rfl rfl (r_move (v := (.int .i64 (i : Int))) rfl) (qd rfl rfl rfl (r_move (v := u22) rfl) (qd rfl rfl rfl (run_len Tryz.underlying80 (v := u22) rfl hd25) (qd rfl rfl rfl (r_lss rfl rfl) (qe (s_then ?_)))))
 refine c_ifd (p := ((i : Int) : Int) < ((cellsM rows).length : Int)) rfl rfl (fun h35 => ?_) (fun h35 => ?_)
 have hci := hcw i (by omega)
 refine wp_skip (s_then (s_seq ?_))
 refine s_blk (s_seq (c_reg ?_))
 refine qd rfl rfl rfl (r_assign (v := (.int .i64 0)) rfl) (qe (s_then ?_))
 refine s_blk (s_loop (fun (k : Nat) (en : Nat → Value) (W : World) => ∃ (env1 : Nat → Value) (q9 : Nat) (ov2 : Value) (os2 : List (List ByteArray)) (GL2 : Pin), en = (upd (upd (upd (upd (upd (upd (upd (upd env1 2 (.pointer (some ⟨b1, 0, none⟩))) 4 (.slice none 0 0)) 5 ov2) 6 u22) 7 (.int .i64 1)) 8 (.int .i64 0)) 9 (.int .i64 (i : Int))) 10 (.int .i64 (q9 : Int))) ∧ k = ((cellsM rows).getD i []).length - q9 ∧ Ext noS G w GL2 W ∧ Pin.le GL1 GL2 ∧ (q9 ≤ ((cellsM rows).getD i []).length) ∧ (os2 = os ++ dmRow rows true (fun r c => bdM (nextC rows true r c)) i q9) ∧ (os2.length ≤ 8 * i + q9) ∧ (Own (eSl eStr) 56 GL2 W w.heap.size ov2 (os2))) _ ⟨_, 0, ov, os, GL1, (packS (x := 10) (packS (x := 9) (packS (x := 8) (packS (x := 7) (packS (x := 6) (packS (x := 5) (packS (x := 4) (pack1 (x := 2) rfl) rfl) rfl) rfl) rfl) rfl) rfl) rfl), rfl, hX33, Pin.le_refl _, Nat.zero_le _, (by simp [dmRow]), (by omega), hw34⟩ ?_)
 rintro k36 _ w37 ⟨env1, q9, ov2, os2, GL2, rfl, hk38, hX39, hlek36, hq, hos2, hol2, hw40⟩
 refine s_seq (s_seq (c_reg ?_))
 refine qd rfl rfl rfl (r_move (v := (.int .i64 (q9 : Int))) rfl) (qd rfl rfl rfl (r_move (v := u22) rfl) (qd rfl rfl rfl (r_move (v := (.int .i64 (i : Int))) rfl) (qd rfl rfl rfl (run_idx Tryz.underlying80 sz82 (v := u22) rfl rfl hd25 (by omega) (by omega)) ?_)))
 obtain ⟨u41, hr42, hl43⟩ := nm_sl (hd25.at (z := (i : Int)) (by omega) (by omega)) (j := i) rfl
 have hm44 := hr42.max
 refine qd rfl rfl rfl (hl43 ag82 rfl (Pins.of_le hX39.pins (Pin.le_trans hlek30 hlek36))) (qd rfl rfl rfl (run_len Tryz.underlying82 (v := u41) rfl hr42) (qd rfl rfl rfl (r_lss rfl rfl) (qe (s_then ?_))))
 refine c_ifd (p := ((q9 : Int) : Int) < (((cellsM rows).getD i []).length : Int)) rfl rfl (fun h45 => ?_) (fun h45 => ?_)
 refine wp_skip (s_then (s_seq ?_))
 refine s_blk (s_seq (s_seq (c_reg ?_)))
 refine qd rfl rfl rfl (r_move (v := u22) rfl) (qd rfl rfl rfl (r_move (v := (.int .i64 (i : Int))) rfl) (qd rfl rfl rfl (run_idx Tryz.underlying80 sz82 (v := u22) rfl rfl hd25 (by omega) (by omega)) ?_))
 obtain ⟨u46, hr47, hl48⟩ := nm_sl (hd25.at (z := (i : Int)) (by omega) (by omega)) (j := i) rfl
 have hm49 := hr47.max
 refine qd rfl rfl rfl (hl48 ag82 rfl (Pins.of_le hX39.pins (Pin.le_trans hlek30 hlek36))) (qd rfl rfl rfl (r_move (v := (.int .i64 (q9 : Int))) rfl) (qd rfl rfl rfl (run_idx Tryz.underlying82 sz4 (v := u46) rfl rfl hr47 (by omega) (by omega)) (qd rfl rfl rfl (run_load_bool (r := ((cellsM rows).getD i []).getD q9 false) rfl ag4 (z := (q9 : Int)) rfl hr47 (Pins.of_le hX39.pins (Pin.le_trans hlek30 hlek36)) (by omega) (by omega)) (qd rfl rfl rfl (r_not rfl) (qd rfl rfl rfl (r_move (v := (.bool (!(((cellsM rows).getD i []).getD q9 false)))) rfl) (qbn (t := 39) rfl (fun h50 => ?_) (fun h50 => ?_)))))))
 refine qdg rfl rfl rfl rfl rfl rfl (r_move (v := u22) rfl) (qdg rfl rfl rfl rfl rfl rfl (r_move (v := (.int .i64 (i : Int))) rfl) (qdg rfl rfl rfl rfl rfl rfl (r_move (v := (.int .i64 1)) rfl) (qdg rfl rfl rfl rfl rfl rfl (r_add rfl rfl (by omega)) (qdg rfl rfl rfl rfl rfl rfl (r_move (v := (.int .i64 (q9 : Int))) rfl) (qdg rfl rfl rfl rfl rfl rfl (r_move (v := (.int .i64 0)) rfl) (qdg rfl rfl rfl rfl rfl rfl (r_add rfl rfl (by omega)) (q1g rfl rfl rfl rfl rfl rfl (o_call (vs := [u22, (.int .i64 ((i : Int) + 1)), (.int .i64 ((q9 : Int) + 0))]) Tryz.func70 nm70 rfl rfl rfl ?_))))))))
 refine Calls.mono (is21_spec (r := ((i : Int) + 1)) (c := ((q9 : Int) + 0)) hX39.pins (hd25.mono (Pin.le_trans hlek30 hlek36)) g) ?_
 rintro _ w52 ⟨G51, rfl, hx53⟩
 refine ⟨_, rfl, ?_⟩
 have hX54 := hX39.tr hx53
 have ho55 := hw40.ext hx53
 refine qdg rfl rfl rfl rfl rfl rfl (r_not rfl) (qd rfl rfl rfl (r_pickF (v := (.bool (!(frI rows ((i : Int) + 1) ((q9 : Int) + 0))))) rfl rfl) (qe (s_then ?_)))
 refine c_ifn rfl rfl (fun h56 => ?_) (fun h56 => ?_)
 refine wp_skip (s_then (s_seq (c_reg ?_)))
 refine qd rfl rfl rfl (r_ldpA (cs := [v]) ag56 sz56 rfl (fun j u hj => (Pins.of_le hX54.pins (Pin.le_trans (Pin.le_trans (Pin.le_trans hx26.le hlek30) hlek36) hx53.le)) _ _ _ (hbp12 _ _ (by simpa using hj)))) (q1 rfl rfl rfl (o_call (vs := [(.agg [v].toArray)]) Tryz.func64 nm64 rfl rfl rfl ?_))
 refine Calls.mono (cells_dspec hX54.pins (hv.mono (Pin.le_trans (Pin.le_trans (Pin.le_trans (Pin.le_trans hle10 hx26.le) hlek30) hlek36) hx53.le)) g) ?_
 rintro _ w59 ⟨u57, G58, rfl, hd60, hx61⟩
 refine ⟨_, rfl, ?_⟩
 have har62 : ∀ k, ov2.ownBlock = some k → w59.heap.size ≤ k ∨ k < w52.heap.size := fun k hk => Or.inr (own_lt ho55 k hk)
 have hao63 : ∀ k, ov2.ownBlock = some k → k < w52.heap.size := own_lt ho55
 have hX64 := hX54.tr hx61
 have ho65 := ho55.ext hx61
 have hone66 := hd60.one
 refine qd rfl rfl rfl (r_assign (v := u57) rfl) (qe (s_then (s_seq (c_reg ?_))))
 have hdm := dms_t g (by omega) (show q9 < (rows.getD 0 ByteArray.empty).size by omega) h50 h56
 have hdi := dm_in g hdm
 have hd1 : i + 1 < rows.length := hdi.1
 have hd2 : q9 + 0 < (rows.getD 0 ByteArray.empty).size := hdi.2
 obtain ⟨us67, hul68, ho69, ho70, hrg71, hst72⟩ := hd60.leaf (i := i) (by first | omega | (simp only [List.length_set]; omega))
 have hlo73 : Lo w (noS) (us67.getD i default).ownBlock := fun k hk => Or.inl (Nat.le_trans hX54.size (hrg71 k hk).1)
 have ha74 : Apart (us67.getD i default).ownBlock ov2.ownBlock := ap_range hrg71 har62
 have hm75 : us67.length = (cellsM rows).length := hul68
 have hm76 : ((cellsM rows).getD i []).length = (rows.getD 0 ByteArray.empty).size := (hcw _ (by omega))
 refine qd rfl rfl rfl (r_move (v := u57) rfl) (qd rfl rfl rfl (r_move (v := (.int .i64 (i : Int))) rfl) (qd rfl rfl rfl (run_idx Tryz.underlying80 sz82 (v := u57) rfl rfl ho69.read (by omega) (by omega)) ?_))
 obtain ⟨cs77, hrep78, hagg79, hcell80⟩ := nm_el (j := i) default (ho69.at (z := (i : Int)) (by omega) (by omega)) rfl
 obtain ⟨rfl, hone83⟩ := hrep78
 refine qd rfl rfl rfl (hcell80 0 (us67.getD i default) (by rw [show (us67.getD i default) = (us67.getD i default) from rfl]; rfl) ag82 rfl (Gadd.pins hX64.pins u57)) (qd rfl rfl rfl (r_move (v := (.int .i64 (q9 : Int))) rfl) (qd rfl rfl rfl (run_idx Tryz.underlying82 sz4 (v := (us67.getD i default)) rfl rfl ho70.read (by omega) (by omega)) (q0 rfl rfl rfl (o_set (E := eBool) (v := (us67.getD i default)) (u := (.bool false)) (z := (q9 : Int)) (false) sz4 rfl rfl rfl rfl hX64.pins ho70 (by omega) (by omega) (fun w84 ho85 hp86 hg87 hz88 => ?_)))))
 have hX89 := hX64.write hp86 hg87 (hlo73)
 have ho90 := ho65.keptA hg87 ha74.symm
 have ho91 : Own eBool 4 G58 w84 w52.heap.size (us67.getD i default) ((((cellsM rows).getD i [])).set q9 false) := ho85
 have hm92 : ((((cellsM rows).getD i [])).set q9 false).length = ((cellsM rows).getD i []).length := List.length_set ..
 refine qe (s_then (s_seq (c_reg ?_)))
 have hd93 := hst72 ho91 hg87
 have hs94 := Nat.le_trans (Nat.le_refl w59.heap.size) hg87.size
 obtain ⟨us95, hul96, ho97, ho98, hrg99, hst100⟩ := hd93.leaf (i := (((i : Int) + 1)).toNat) (by first | omega | (simp only [List.length_set]; omega))
 have hlo101 : Lo w (noS) (us95.getD (((i : Int) + 1)).toNat default).ownBlock := fun k hk => Or.inl (Nat.le_trans hX54.size (hrg99 k hk).1)
 have ha102 : Apart (us95.getD (((i : Int) + 1)).toNat default).ownBlock ov2.ownBlock := ap_range hrg99 har62
 have hm103 : ((cellsM rows).set i ((((cellsM rows).getD i [])).set q9 false)).length = (cellsM rows).length := List.length_set ..
 have hm104 : us95.length = ((cellsM rows).set i ((((cellsM rows).getD i [])).set q9 false)).length := hul96
 have hm105 : (((cellsM rows).set i ((((cellsM rows).getD i [])).set q9 false)).getD (((i : Int) + 1)).toNat []).length = (rows.getD 0 ByteArray.empty).size := (by rw [show (((cellsM rows).set i ((((cellsM rows).getD i [])).set q9 false)).getD (((i : Int) + 1)).toNat []).length = ((setC (cellsM rows) i q9).getD (((i : Int) + 1)).toNat []).length from rfl, set_row]; exact hcw _ (by omega))
 refine qd rfl rfl rfl (r_move (v := u57) rfl) (qd rfl rfl rfl (r_move (v := (.int .i64 (i : Int))) rfl) (qd rfl rfl rfl (r_move (v := (.int .i64 1)) rfl) (qd rfl rfl rfl (r_add rfl rfl (by omega)) (qd rfl rfl rfl (run_idx Tryz.underlying80 sz82 (v := u57) rfl rfl ho97.read (by omega) (by omega)) ?_))))
 obtain ⟨cs106, hrep107, hagg108, hcell109⟩ := nm_el (j := ((i : Int) + 1).toNat) default (ho97.at (z := ((i : Int) + 1)) (by omega) (by omega)) rfl
 obtain ⟨rfl, hone112⟩ := hrep107
 refine qd rfl rfl rfl (hcell109 0 (us95.getD (((i : Int) + 1)).toNat default) (by rw [show (us95.getD (((i : Int) + 1)).toNat default) = (us95.getD (((i : Int) + 1)).toNat default) from rfl]; rfl) ag82 rfl (Gadd.pins hX89.pins u57)) (qd rfl rfl rfl (r_move (v := (.int .i64 (q9 : Int))) rfl) (qd rfl rfl rfl (r_move (v := (.int .i64 0)) rfl) (qd rfl rfl rfl (r_add rfl rfl (by omega)) (qd rfl rfl rfl (run_idx Tryz.underlying82 sz4 (v := (us95.getD (((i : Int) + 1)).toNat default)) rfl rfl ho98.read (by omega) (by omega)) (q0 rfl rfl rfl (o_set (E := eBool) (v := (us95.getD (((i : Int) + 1)).toNat default)) (u := (.bool false)) (z := ((q9 : Int) + 0)) (false) sz4 rfl rfl rfl rfl hX89.pins ho98 (by omega) (by omega) (fun w113 ho114 hp115 hg116 hz117 => ?_)))))))
 have hX118 := hX89.write hp115 hg116 (hlo101)
 have ho119 := ho90.keptA hg116 ha102.symm
 have ho120 : Own eBool 4 G58 w113 w52.heap.size (us95.getD (((i : Int) + 1)).toNat default) (((((cellsM rows).set i ((((cellsM rows).getD i [])).set q9 false)).getD (((i : Int) + 1)).toNat [])).set ((q9 : Int) + 0).toNat false) := ho114
 have hm121 : (((((cellsM rows).set i ((((cellsM rows).getD i [])).set q9 false)).getD (((i : Int) + 1)).toNat [])).set ((q9 : Int) + 0).toNat false).length = (((cellsM rows).set i ((((cellsM rows).getD i [])).set q9 false)).getD (((i : Int) + 1)).toNat []).length := List.length_set ..
 refine qe (s_then (c_reg ?_))
 have hd122 := hst100 ho120 hg116
 have hs123 := Nat.le_trans hs94 hg116.size
 obtain ⟨G124, hle125, hp126, hr127, hf128⟩ := hd122.read hX118.pins
 have hX129 := hX118.promise hle125 hp126 hf128 hX54.size
 have ho130 := ho119.mono hle125 (fun k hk o u hu => (hf128 k o u hu).elim (ho119.free k hk o u) (fun h => by have := hao63 k hk; have := (own_lt ho119 k hk); omega))
 refine qd rfl rfl rfl (r_move (v := ov2) rfl) (qd rfl rfl rfl (r_move (v := u57) rfl) (q1 rfl rfl rfl (o_call (vs := [u57]) Tryz.func69 nm69 rfl rfl rfl ?_)))
 refine Calls.mono (board_spec hX129.pins hr127 ⟨by show (nextC rows true i q9).length ≤ 1000; rw [next_len]; omega, fun p hp => by show ((nextC rows true i q9).getD p []).length ≤ 1000; rw [next_row g (show p < rows.length from (by have h2 : p < (nextC rows true i q9).length := hp; rw [next_len] at h2; exact h2))]; show (rows.getD 0 ByteArray.empty).size ≤ 1000; omega⟩) ?_
 rintro _ w133 ⟨u131, G132, rfl, hr134, hx135⟩
 refine ⟨_, rfl, ?_⟩
 have hX136 := hX129.tr hx135
 have ho137 := ho130.ext hx135
 refine q1 rfl rfl rfl (o_build1 (E := (eSl eStr)) (e := 56) [u131] (bdM (((cellsM rows).set i ((((cellsM rows).getD i [])).set q9 false)).set (((i : Int) + 1)).toNat (((((cellsM rows).set i ((((cellsM rows).getD i [])).set q9 false)).getD (((i : Int) + 1)).toNat [])).set ((q9 : Int) + 0).toNat false))) Tryz.underlying66 sz56 zr56 ⟨_, rfl, hr134⟩ rfl (by decide) hX136.pins (fun u138 w139 ho140 hp141 hl142 hk143 => ?_))
 have hX144 := hX136.step hp141 hl142
 have ho145 := ho137.below hl142
 have ho147 : Own (eSl eStr) 56 G132 w139 w.heap.size u138 ([bdM (((cellsM rows).set i ((((cellsM rows).getD i [])).set q9 false)).set (((i : Int) + 1)).toNat (((((cellsM rows).set i ((((cellsM rows).getD i [])).set q9 false)).getD (((i : Int) + 1)).toNat [])).set ((q9 : Int) + 0).toNat false))]) := ho140.weaken hX136.size
 refine q1 rfl rfl rfl (o_append (E := (eSl eStr)) (v := ov2) (u := u138) 24 Tryz.underlying66 ap56 (by decide) rfl rfl hX144.pins ho145 ho147.src (by first | omega | (rw [List.nil_append]; omega) | (rw [List.length_nil]; omega) | (rw [List.length_append]; omega) | (simp; done) | (simp; omega) | (simp only [List.length_append, List.length_cons, List.length_nil]; omega)) (by first | omega | (rw [List.nil_append]; omega) | (rw [List.length_nil]; omega) | (rw [List.length_append]; omega) | (simp; done) | (simp; omega) | (simp only [List.length_append, List.length_cons, List.length_nil]; omega)) (hX144.size) (fun u148 w149 ho150 hp151 hg152 hw153 => ?_))
 have hX154 := hX144.write hp151 hg152 ((lo_own ho145))
 have hm157 : (os2 ++ ([bdM (((cellsM rows).set i ((((cellsM rows).getD i [])).set q9 false)).set (((i : Int) + 1)).toNat (((((cellsM rows).set i ((((cellsM rows).getD i [])).set q9 false)).getD (((i : Int) + 1)).toNat [])).set ((q9 : Int) + 0).toNat false))])).length = os2.length + 1 := List.length_append
 refine qd rfl rfl rfl (r_assign (v := u148) rfl) (qe (s_blkN (s_then (c_reg ?_))))
 refine qd rfl rfl rfl (r_move (v := (.int .i64 (q9 : Int))) rfl) (qd rfl rfl rfl (r_add rfl rfl (by omega)) (qd rfl rfl rfl (r_assign (v := (.int .i64 ((q9 : Int) + 1))) rfl) (qe (s_lopN (⟨_, ?_, _, rfl, _, q9 + 1, u148, os2 ++ ([bdM (((cellsM rows).set i ((((cellsM rows).getD i [])).set q9 false)).set (((i : Int) + 1)).toNat (((((cellsM rows).set i ((((cellsM rows).getD i [])).set q9 false)).getD (((i : Int) + 1)).toNat [])).set ((q9 : Int) + 0).toNat false))]), G132, (packS (x := 10) (packS (x := 9) (packS (x := 8) (packS (x := 7) (packS (x := 6) (packS (x := 5) (packS (x := 4) (pack1 (x := 2) rfl) rfl) rfl) rfl) rfl) rfl) rfl) rfl), rfl, hX154, (Pin.le_trans (Pin.le_trans (Pin.le_trans (Pin.le_trans hlek36 hx53.le) hx61.le) hle125) hx135.le), (by omega), (by rw [dmRow_yes (dms_t g (by omega) (show q9 < (rows.getD 0 ByteArray.empty).size by omega) h50 h56), hos2, List.append_assoc]; rfl), (by simp; omega), ho150⟩)))))
 omega
 refine wp_exit (s_thenE (s_blkE (s_then (c_reg ?_))))
 refine qd rfl rfl rfl (r_move (v := (.int .i64 (q9 : Int))) rfl) (qd rfl rfl rfl (r_add rfl rfl (by omega)) (qd rfl rfl rfl (r_assign (v := (.int .i64 ((q9 : Int) + 1))) rfl) (qe (s_lopN (⟨_, ?_, _, rfl, _, q9 + 1, ov2, os2, G51, (packS (x := 10) (packS (x := 9) (packS (x := 8) (packS (x := 7) (packS (x := 6) (packS (x := 5) (packS (x := 4) (pack1 (x := 2) rfl) rfl) rfl) rfl) rfl) rfl) rfl) rfl), rfl, hX54, (Pin.le_trans hlek36 hx53.le), (by omega), (by rw [dmRow_no (dms_t g (by omega) (show q9 < (rows.getD 0 ByteArray.empty).size by omega) h50 h56), hos2]), (by omega), ho55⟩)))))
 omega
 refine qs rfl rfl rfl rfl rfl rfl (qs rfl rfl rfl rfl rfl rfl (qs rfl rfl rfl rfl rfl rfl (qs rfl rfl rfl rfl rfl rfl (qs rfl rfl rfl rfl rfl rfl (qs rfl rfl rfl rfl rfl rfl (qs rfl rfl rfl rfl rfl rfl (qs rfl rfl rfl rfl rfl rfl (qs rfl rfl rfl rfl rfl rfl (qd rfl rfl rfl (r_pickT (v := (.bool true)) rfl rfl) (qe (s_then ?_)))))))))))
 refine c_ifT rfl rfl (wp_exit (s_thenE (s_blkE (s_then (c_reg ?_)))))
 refine qd rfl rfl rfl (r_move (v := (.int .i64 (q9 : Int))) rfl) (qd rfl rfl rfl (r_add rfl rfl (by omega)) (qd rfl rfl rfl (r_assign (v := (.int .i64 ((q9 : Int) + 1))) rfl) (qe (s_lopN (⟨_, ?_, _, rfl, _, q9 + 1, ov2, os2, GL2, (packS (x := 10) (packS (x := 9) (packS (x := 8) (packS (x := 7) (packS (x := 6) (packS (x := 5) (packS (x := 4) (pack1 (x := 2) rfl) rfl) rfl) rfl) rfl) rfl) rfl) rfl), rfl, hX39, hlek36, (by omega), (by rw [dmRow_no (dms_0 g (by omega) (show q9 < (rows.getD 0 ByteArray.empty).size by omega) h50), hos2]), (by omega), hw40⟩)))))
 omega
 refine wp_exit (s_thenE (s_lopE (s_blkE (s_blkN (s_then (c_reg ?_))))))
 refine qd rfl rfl rfl (r_move (v := (.int .i64 (i : Int))) rfl) (qd rfl rfl rfl (r_add rfl rfl (by omega)) (qd rfl rfl rfl (r_assign (v := (.int .i64 ((i : Int) + 1))) rfl) (qe (s_lopN (⟨_, ?_, _, rfl, _, i + 1, ov2, os2, GL2, (packS (x := 9) (packS (x := 8) (packS (x := 7) (packS (x := 6) (packS (x := 5) (packS (x := 4) (pack1 (x := 2) rfl) rfl) rfl) rfl) rfl) rfl) rfl), rfl, hX39, (Pin.le_trans hlek30 hlek36), (by omega), (by rw [hos2, hos, dmAll_succ, show q9 = wdS rows by show q9 = (rows.getD 0 ByteArray.empty).size; omega]), (by omega), hw40⟩)))))
 omega
 refine wp_exit (s_thenE (s_lopE (s_blkE (s_then (s_seq (c_reg ?_))))))
 refine qd rfl rfl rfl (r_move (v := ov) rfl) (qd rfl rfl rfl (r_assign (v := ov) rfl) (qe (s_then ?_)))
 refine wp_ret (s_ret (c_ret1 (v := ov) rfl rfl rfl ?_))
 obtain ⟨G158, hle161, hX160, hr159, hf162⟩ := hw34.sealed hX33
 have hin : i = rows.length := by omega
 subst hin
 exact ⟨_, _, rfl, (by show RSl _ _ _ (dmAll rows true _ rows.length); rw [← hos]; exact hr159), hX160⟩

theorem smoves_false {w : World} {G : Pin} {v : Value} {rows : List ByteArray} (hP : Pins G w) (hv : RSl eStr G v rows) (g : GbP rows) :
  Calls Tryz.prog 40 [(.agg [v].toArray), (.bool false)].toArray w fun e w' => ∃ (u : Value) (G' : Pin), e = .returned u ∧ RSl (eSl eStr) G' u (dmM rows false) ∧ Ext noS G w G' w' := by
 refine s_enter (n := 74) Tryz.func40 Tryz.ntmps40 rfl rfl ?_
 have hX0 : Ext noS G w G w := Ext.refl hP
 have hm := hv.max
 have ghi := g.hi
 have gwd : 1 ≤ (rows.getD 0 ByteArray.empty).size ∧ (rows.getD 0 ByteArray.empty).size ≤ 8 := g.wd
 have geq : ∀ i, i < rows.length → (rows.getD i ByteArray.empty).size = (rows.getD 0 ByteArray.empty).size := g.eq
 have hcl : (cellsM rows).length = rows.length := cells_len
 have hcw : ∀ i, i < rows.length → ((cellsM rows).getD i []).length = (rows.getD 0 ByteArray.empty).size := fun i hi => cells_wd g hi
 refine s_seq (c_reg ?_)
 refine q1 rfl rfl rfl (o_box [v] (v := (.agg [v].toArray)) rfl rfl hX0.pins (fun b1 w2 hk3 hb4 hp5 hl6 => ?_))
 have hX7 := hX0.step hp5 hl6
 have hlo8 : w.heap.size ≤ b1 := by have := hX0.size; omega
 obtain ⟨G9, hle10, hX11, hbp12, hf13⟩ := hb4.shut hX7 hlo8
 refine qd rfl rfl rfl (r_assign (v := (.slice none 0 0)) rfl) (qe (s_then (s_seq (c_reg ?_))))
 refine q1 rfl rfl rfl (o_build0 (E := (eSl eStr)) (e := 56) Tryz.underlying66 sz56 hX11.pins (fun u14 w15 ho16 hp17 hl18 hk19 => ?_))
 have hX20 := hX11.step hp17 hl18
 have ho21 : Own (eSl eStr) 56 G9 w15 w.heap.size u14 ([]) := ho16.weaken hX11.size
 refine qd rfl rfl rfl (r_assign (v := u14) rfl) (qe (s_then (s_seq (c_reg ?_))))
 refine qd rfl rfl rfl (r_ldpA (cs := [v]) ag56 sz56 rfl (fun j u hj => hX20.pins _ _ _ (hbp12 _ _ (by simpa using hj)))) (q1 rfl rfl rfl (o_call (vs := [(.agg [v].toArray)]) Tryz.func64 nm64 rfl rfl rfl ?_))
 refine Calls.mono (cells_spec hX20.pins (hv.mono hle10) g) ?_
 rintro _ w24 ⟨u22, G23, rfl, hd25, hx26⟩
 refine ⟨_, rfl, ?_⟩
 have hX27 := hX20.tr hx26
 have ho28 := ho21.ext hx26
 have hm29 := hd25.max
 refine qd rfl rfl rfl (r_assign (v := u22) rfl) (qe (s_then (s_seq (c_reg ?_))))
 refine qd rfl rfl rfl (r_assign (v := (.int .i64 0)) rfl) (qd rfl rfl rfl (r_assign (v := (.int .i64 1)) rfl) (qe (s_then (s_seq (s_seq (c_reg ?_))))))
 refine qd rfl rfl rfl (r_move (v := (.bool false)) rfl) (qe (s_then ?_))
 refine c_ifF rfl rfl (wp_skip (s_then (s_seq (s_seq (c_reg ?_)))))
 refine qd rfl rfl rfl (r_assign (v := (.int .i64 0)) rfl) (qe (s_then ?_))
 refine s_blk (s_loop (fun (k : Nat) (en : Nat → Value) (W : World) => ∃ (env1 : Nat → Value) (i : Nat) (ov : Value) (os : List (List ByteArray)) (GL1 : Pin), en = (upd (upd (upd (upd (upd (upd (upd env1 2 (.pointer (some ⟨b1, 0, none⟩))) 4 (.slice none 0 0)) 5 ov) 6 u22) 7 (.int .i64 0)) 8 (.int .i64 1)) 9 (.int .i64 (i : Int))) ∧ k = rows.length - i ∧ Ext noS G w GL1 W ∧ Pin.le G23 GL1 ∧ (i ≤ rows.length) ∧ (os = dmAll rows false (fun r c => bdM (nextC rows false r c)) i) ∧ (os.length ≤ 8 * i) ∧ (Own (eSl eStr) 56 GL1 W w.heap.size ov (os))) _ ⟨_, 0, u14, [], G23, (packS (x := 9) (packS (x := 8) (packS (x := 7) (packS (x := 6) (packS (x := 5) (packS (x := 4) (pack1 (x := 2) rfl) rfl) rfl) rfl) rfl) rfl) rfl), rfl, hX27, Pin.le_refl _, Nat.zero_le _, rfl, (by simp), ho28⟩ ?_)
 rintro k30 _ w31 ⟨env1, i, ov, os, GL1, rfl, hk32, hX33, hlek30, hi, hos, hol, hw34⟩
 refine s_seq (s_seq (c_reg ?_))
 refine qd rfl rfl rfl (r_move (v := (.int .i64 (i : Int))) rfl) (qd rfl rfl rfl (r_move (v := u22) rfl) (qd rfl rfl rfl (run_len Tryz.underlying80 (v := u22) rfl hd25) (qd rfl rfl rfl (r_lss rfl rfl) (qe (s_then ?_)))))
 refine c_ifd (p := ((i : Int) : Int) < ((cellsM rows).length : Int)) rfl rfl (fun h35 => ?_) (fun h35 => ?_)
 have hci := hcw i (by omega)
 refine wp_skip (s_then (s_seq ?_))
 refine s_blk (s_seq (c_reg ?_))
 refine qd rfl rfl rfl (r_assign (v := (.int .i64 0)) rfl) (qe (s_then ?_))
 refine s_blk (s_loop (fun (k : Nat) (en : Nat → Value) (W : World) => ∃ (env1 : Nat → Value) (q9 : Nat) (ov2 : Value) (os2 : List (List ByteArray)) (GL2 : Pin), en = (upd (upd (upd (upd (upd (upd (upd (upd env1 2 (.pointer (some ⟨b1, 0, none⟩))) 4 (.slice none 0 0)) 5 ov2) 6 u22) 7 (.int .i64 0)) 8 (.int .i64 1)) 9 (.int .i64 (i : Int))) 10 (.int .i64 (q9 : Int))) ∧ k = ((cellsM rows).getD i []).length - q9 ∧ Ext noS G w GL2 W ∧ Pin.le GL1 GL2 ∧ (q9 ≤ ((cellsM rows).getD i []).length) ∧ (os2 = os ++ dmRow rows false (fun r c => bdM (nextC rows false r c)) i q9) ∧ (os2.length ≤ 8 * i + q9) ∧ (Own (eSl eStr) 56 GL2 W w.heap.size ov2 (os2))) _ ⟨_, 0, ov, os, GL1, (packS (x := 10) (packS (x := 9) (packS (x := 8) (packS (x := 7) (packS (x := 6) (packS (x := 5) (packS (x := 4) (pack1 (x := 2) rfl) rfl) rfl) rfl) rfl) rfl) rfl) rfl), rfl, hX33, Pin.le_refl _, Nat.zero_le _, (by simp [dmRow]), (by omega), hw34⟩ ?_)
 rintro k36 _ w37 ⟨env1, q9, ov2, os2, GL2, rfl, hk38, hX39, hlek36, hq, hos2, hol2, hw40⟩
 refine s_seq (s_seq (c_reg ?_))
 refine qd rfl rfl rfl (r_move (v := (.int .i64 (q9 : Int))) rfl) (qd rfl rfl rfl (r_move (v := u22) rfl) (qd rfl rfl rfl (r_move (v := (.int .i64 (i : Int))) rfl) (qd rfl rfl rfl (run_idx Tryz.underlying80 sz82 (v := u22) rfl rfl hd25 (by omega) (by omega)) ?_)))
 obtain ⟨u41, hr42, hl43⟩ := nm_sl (hd25.at (z := (i : Int)) (by omega) (by omega)) (j := i) rfl
 have hm44 := hr42.max
 refine qd rfl rfl rfl (hl43 ag82 rfl (Pins.of_le hX39.pins (Pin.le_trans hlek30 hlek36))) (qd rfl rfl rfl (run_len Tryz.underlying82 (v := u41) rfl hr42) (qd rfl rfl rfl (r_lss rfl rfl) (qe (s_then ?_))))
 refine c_ifd (p := ((q9 : Int) : Int) < (((cellsM rows).getD i []).length : Int)) rfl rfl (fun h45 => ?_) (fun h45 => ?_)
 refine wp_skip (s_then (s_seq ?_))
 refine s_blk (s_seq (s_seq (c_reg ?_)))
 refine qd rfl rfl rfl (r_move (v := u22) rfl) (qd rfl rfl rfl (r_move (v := (.int .i64 (i : Int))) rfl) (qd rfl rfl rfl (run_idx Tryz.underlying80 sz82 (v := u22) rfl rfl hd25 (by omega) (by omega)) ?_))
 obtain ⟨u46, hr47, hl48⟩ := nm_sl (hd25.at (z := (i : Int)) (by omega) (by omega)) (j := i) rfl
 have hm49 := hr47.max
 refine qd rfl rfl rfl (hl48 ag82 rfl (Pins.of_le hX39.pins (Pin.le_trans hlek30 hlek36))) (qd rfl rfl rfl (r_move (v := (.int .i64 (q9 : Int))) rfl) (qd rfl rfl rfl (run_idx Tryz.underlying82 sz4 (v := u46) rfl rfl hr47 (by omega) (by omega)) (qd rfl rfl rfl (run_load_bool (r := ((cellsM rows).getD i []).getD q9 false) rfl ag4 (z := (q9 : Int)) rfl hr47 (Pins.of_le hX39.pins (Pin.le_trans hlek30 hlek36)) (by omega) (by omega)) (qd rfl rfl rfl (r_not rfl) (qd rfl rfl rfl (r_move (v := (.bool (!(((cellsM rows).getD i []).getD q9 false)))) rfl) (qbn (t := 39) rfl (fun h50 => ?_) (fun h50 => ?_)))))))
 refine qdg rfl rfl rfl rfl rfl rfl (r_move (v := u22) rfl) (qdg rfl rfl rfl rfl rfl rfl (r_move (v := (.int .i64 (i : Int))) rfl) (qdg rfl rfl rfl rfl rfl rfl (r_move (v := (.int .i64 0)) rfl) (qdg rfl rfl rfl rfl rfl rfl (r_add rfl rfl (by omega)) (qdg rfl rfl rfl rfl rfl rfl (r_move (v := (.int .i64 (q9 : Int))) rfl) (qdg rfl rfl rfl rfl rfl rfl (r_move (v := (.int .i64 1)) rfl) (qdg rfl rfl rfl rfl rfl rfl (r_add rfl rfl (by omega)) (q1g rfl rfl rfl rfl rfl rfl (o_call (vs := [u22, (.int .i64 ((i : Int) + 0)), (.int .i64 ((q9 : Int) + 1))]) Tryz.func70 nm70 rfl rfl rfl ?_))))))))
 refine Calls.mono (is21_spec (r := ((i : Int) + 0)) (c := ((q9 : Int) + 1)) hX39.pins (hd25.mono (Pin.le_trans hlek30 hlek36)) g) ?_
 rintro _ w52 ⟨G51, rfl, hx53⟩
 refine ⟨_, rfl, ?_⟩
 have hX54 := hX39.tr hx53
 have ho55 := hw40.ext hx53
 refine qdg rfl rfl rfl rfl rfl rfl (r_not rfl) (qd rfl rfl rfl (r_pickF (v := (.bool (!(frI rows ((i : Int) + 0) ((q9 : Int) + 1))))) rfl rfl) (qe (s_then ?_)))
 refine c_ifn rfl rfl (fun h56 => ?_) (fun h56 => ?_)
 refine wp_skip (s_then (s_seq (c_reg ?_)))
 refine qd rfl rfl rfl (r_ldpA (cs := [v]) ag56 sz56 rfl (fun j u hj => (Pins.of_le hX54.pins (Pin.le_trans (Pin.le_trans (Pin.le_trans hx26.le hlek30) hlek36) hx53.le)) _ _ _ (hbp12 _ _ (by simpa using hj)))) (q1 rfl rfl rfl (o_call (vs := [(.agg [v].toArray)]) Tryz.func64 nm64 rfl rfl rfl ?_))
 refine Calls.mono (cells_dspec hX54.pins (hv.mono (Pin.le_trans (Pin.le_trans (Pin.le_trans (Pin.le_trans hle10 hx26.le) hlek30) hlek36) hx53.le)) g) ?_
 rintro _ w59 ⟨u57, G58, rfl, hd60, hx61⟩
 refine ⟨_, rfl, ?_⟩
 have har62 : ∀ k, ov2.ownBlock = some k → w59.heap.size ≤ k ∨ k < w52.heap.size := fun k hk => Or.inr (own_lt ho55 k hk)
 have hao63 : ∀ k, ov2.ownBlock = some k → k < w52.heap.size := own_lt ho55
 have hX64 := hX54.tr hx61
 have ho65 := ho55.ext hx61
 have hone66 := hd60.one
 refine qd rfl rfl rfl (r_assign (v := u57) rfl) (qe (s_then (s_seq (c_reg ?_))))
 have hdm := dms_f g (by omega) (show q9 < (rows.getD 0 ByteArray.empty).size by omega) h50 h56
 have hdi := dm_in g hdm
 have hd1 : i + 0 < rows.length := hdi.1
 have hd2 : q9 + 1 < (rows.getD 0 ByteArray.empty).size := hdi.2
 obtain ⟨us67, hul68, ho69, ho70, hrg71, hst72⟩ := hd60.leaf (i := i) (by first | omega | (simp only [List.length_set]; omega))
 have hlo73 : Lo w (noS) (us67.getD i default).ownBlock := fun k hk => Or.inl (Nat.le_trans hX54.size (hrg71 k hk).1)
 have ha74 : Apart (us67.getD i default).ownBlock ov2.ownBlock := ap_range hrg71 har62
 have hm75 : us67.length = (cellsM rows).length := hul68
 have hm76 : ((cellsM rows).getD i []).length = (rows.getD 0 ByteArray.empty).size := (hcw _ (by omega))
 refine qd rfl rfl rfl (r_move (v := u57) rfl) (qd rfl rfl rfl (r_move (v := (.int .i64 (i : Int))) rfl) (qd rfl rfl rfl (run_idx Tryz.underlying80 sz82 (v := u57) rfl rfl ho69.read (by omega) (by omega)) ?_))
 obtain ⟨cs77, hrep78, hagg79, hcell80⟩ := nm_el (j := i) default (ho69.at (z := (i : Int)) (by omega) (by omega)) rfl
 obtain ⟨rfl, hone83⟩ := hrep78
 refine qd rfl rfl rfl (hcell80 0 (us67.getD i default) (by rw [show (us67.getD i default) = (us67.getD i default) from rfl]; rfl) ag82 rfl (Gadd.pins hX64.pins u57)) (qd rfl rfl rfl (r_move (v := (.int .i64 (q9 : Int))) rfl) (qd rfl rfl rfl (run_idx Tryz.underlying82 sz4 (v := (us67.getD i default)) rfl rfl ho70.read (by omega) (by omega)) (q0 rfl rfl rfl (o_set (E := eBool) (v := (us67.getD i default)) (u := (.bool false)) (z := (q9 : Int)) (false) sz4 rfl rfl rfl rfl hX64.pins ho70 (by omega) (by omega) (fun w84 ho85 hp86 hg87 hz88 => ?_)))))
 have hX89 := hX64.write hp86 hg87 (hlo73)
 have ho90 := ho65.keptA hg87 ha74.symm
 have ho91 : Own eBool 4 G58 w84 w52.heap.size (us67.getD i default) ((((cellsM rows).getD i [])).set q9 false) := ho85
 have hm92 : ((((cellsM rows).getD i [])).set q9 false).length = ((cellsM rows).getD i []).length := List.length_set ..
 refine qe (s_then (s_seq (c_reg ?_)))
 have hd93 := hst72 ho91 hg87
 have hs94 := Nat.le_trans (Nat.le_refl w59.heap.size) hg87.size
 obtain ⟨us95, hul96, ho97, ho98, hrg99, hst100⟩ := hd93.leaf (i := (((i : Int) + 0)).toNat) (by first | omega | (simp only [List.length_set]; omega))
 have hlo101 : Lo w (noS) (us95.getD (((i : Int) + 0)).toNat default).ownBlock := fun k hk => Or.inl (Nat.le_trans hX54.size (hrg99 k hk).1)
 have ha102 : Apart (us95.getD (((i : Int) + 0)).toNat default).ownBlock ov2.ownBlock := ap_range hrg99 har62
 have hm103 : ((cellsM rows).set i ((((cellsM rows).getD i [])).set q9 false)).length = (cellsM rows).length := List.length_set ..
 have hm104 : us95.length = ((cellsM rows).set i ((((cellsM rows).getD i [])).set q9 false)).length := hul96
 have hm105 : (((cellsM rows).set i ((((cellsM rows).getD i [])).set q9 false)).getD (((i : Int) + 0)).toNat []).length = (rows.getD 0 ByteArray.empty).size := (by rw [show (((cellsM rows).set i ((((cellsM rows).getD i [])).set q9 false)).getD (((i : Int) + 0)).toNat []).length = ((setC (cellsM rows) i q9).getD (((i : Int) + 0)).toNat []).length from rfl, set_row]; exact hcw _ (by omega))
 refine qd rfl rfl rfl (r_move (v := u57) rfl) (qd rfl rfl rfl (r_move (v := (.int .i64 (i : Int))) rfl) (qd rfl rfl rfl (r_move (v := (.int .i64 0)) rfl) (qd rfl rfl rfl (r_add rfl rfl (by omega)) (qd rfl rfl rfl (run_idx Tryz.underlying80 sz82 (v := u57) rfl rfl ho97.read (by omega) (by omega)) ?_))))
 obtain ⟨cs106, hrep107, hagg108, hcell109⟩ := nm_el (j := ((i : Int) + 0).toNat) default (ho97.at (z := ((i : Int) + 0)) (by omega) (by omega)) rfl
 obtain ⟨rfl, hone112⟩ := hrep107
 refine qd rfl rfl rfl (hcell109 0 (us95.getD (((i : Int) + 0)).toNat default) (by rw [show (us95.getD (((i : Int) + 0)).toNat default) = (us95.getD (((i : Int) + 0)).toNat default) from rfl]; rfl) ag82 rfl (Gadd.pins hX89.pins u57)) (qd rfl rfl rfl (r_move (v := (.int .i64 (q9 : Int))) rfl) (qd rfl rfl rfl (r_move (v := (.int .i64 1)) rfl) (qd rfl rfl rfl (r_add rfl rfl (by omega)) (qd rfl rfl rfl (run_idx Tryz.underlying82 sz4 (v := (us95.getD (((i : Int) + 0)).toNat default)) rfl rfl ho98.read (by omega) (by omega)) (q0 rfl rfl rfl (o_set (E := eBool) (v := (us95.getD (((i : Int) + 0)).toNat default)) (u := (.bool false)) (z := ((q9 : Int) + 1)) (false) sz4 rfl rfl rfl rfl hX89.pins ho98 (by omega) (by omega) (fun w113 ho114 hp115 hg116 hz117 => ?_)))))))
 have hX118 := hX89.write hp115 hg116 (hlo101)
 have ho119 := ho90.keptA hg116 ha102.symm
 have ho120 : Own eBool 4 G58 w113 w52.heap.size (us95.getD (((i : Int) + 0)).toNat default) (((((cellsM rows).set i ((((cellsM rows).getD i [])).set q9 false)).getD (((i : Int) + 0)).toNat [])).set ((q9 : Int) + 1).toNat false) := ho114
 have hm121 : (((((cellsM rows).set i ((((cellsM rows).getD i [])).set q9 false)).getD (((i : Int) + 0)).toNat [])).set ((q9 : Int) + 1).toNat false).length = (((cellsM rows).set i ((((cellsM rows).getD i [])).set q9 false)).getD (((i : Int) + 0)).toNat []).length := List.length_set ..
 refine qe (s_then (c_reg ?_))
 have hd122 := hst100 ho120 hg116
 have hs123 := Nat.le_trans hs94 hg116.size
 obtain ⟨G124, hle125, hp126, hr127, hf128⟩ := hd122.read hX118.pins
 have hX129 := hX118.promise hle125 hp126 hf128 hX54.size
 have ho130 := ho119.mono hle125 (fun k hk o u hu => (hf128 k o u hu).elim (ho119.free k hk o u) (fun h => by have := hao63 k hk; have := (own_lt ho119 k hk); omega))
 refine qd rfl rfl rfl (r_move (v := ov2) rfl) (qd rfl rfl rfl (r_move (v := u57) rfl) (q1 rfl rfl rfl (o_call (vs := [u57]) Tryz.func69 nm69 rfl rfl rfl ?_)))
 refine Calls.mono (board_spec hX129.pins hr127 ⟨by show (nextC rows false i q9).length ≤ 1000; rw [next_len]; omega, fun p hp => by show ((nextC rows false i q9).getD p []).length ≤ 1000; rw [next_row g (show p < rows.length from (by have h2 : p < (nextC rows false i q9).length := hp; rw [next_len] at h2; exact h2))]; show (rows.getD 0 ByteArray.empty).size ≤ 1000; omega⟩) ?_
 rintro _ w133 ⟨u131, G132, rfl, hr134, hx135⟩
 refine ⟨_, rfl, ?_⟩
 have hX136 := hX129.tr hx135
 have ho137 := ho130.ext hx135
 refine q1 rfl rfl rfl (o_build1 (E := (eSl eStr)) (e := 56) [u131] (bdM (((cellsM rows).set i ((((cellsM rows).getD i [])).set q9 false)).set (((i : Int) + 0)).toNat (((((cellsM rows).set i ((((cellsM rows).getD i [])).set q9 false)).getD (((i : Int) + 0)).toNat [])).set ((q9 : Int) + 1).toNat false))) Tryz.underlying66 sz56 zr56 ⟨_, rfl, hr134⟩ rfl (by decide) hX136.pins (fun u138 w139 ho140 hp141 hl142 hk143 => ?_))
 have hX144 := hX136.step hp141 hl142
 have ho145 := ho137.below hl142
 have ho147 : Own (eSl eStr) 56 G132 w139 w.heap.size u138 ([bdM (((cellsM rows).set i ((((cellsM rows).getD i [])).set q9 false)).set (((i : Int) + 0)).toNat (((((cellsM rows).set i ((((cellsM rows).getD i [])).set q9 false)).getD (((i : Int) + 0)).toNat [])).set ((q9 : Int) + 1).toNat false))]) := ho140.weaken hX136.size
 refine q1 rfl rfl rfl (o_append (E := (eSl eStr)) (v := ov2) (u := u138) 24 Tryz.underlying66 ap56 (by decide) rfl rfl hX144.pins ho145 ho147.src (by first | omega | (rw [List.nil_append]; omega) | (rw [List.length_nil]; omega) | (rw [List.length_append]; omega) | (simp; done) | (simp; omega) | (simp only [List.length_append, List.length_cons, List.length_nil]; omega)) (by first | omega | (rw [List.nil_append]; omega) | (rw [List.length_nil]; omega) | (rw [List.length_append]; omega) | (simp; done) | (simp; omega) | (simp only [List.length_append, List.length_cons, List.length_nil]; omega)) (hX144.size) (fun u148 w149 ho150 hp151 hg152 hw153 => ?_))
 have hX154 := hX144.write hp151 hg152 ((lo_own ho145))
 have hm157 : (os2 ++ ([bdM (((cellsM rows).set i ((((cellsM rows).getD i [])).set q9 false)).set (((i : Int) + 0)).toNat (((((cellsM rows).set i ((((cellsM rows).getD i [])).set q9 false)).getD (((i : Int) + 0)).toNat [])).set ((q9 : Int) + 1).toNat false))])).length = os2.length + 1 := List.length_append
 refine qd rfl rfl rfl (r_assign (v := u148) rfl) (qe (s_blkN (s_then (c_reg ?_))))
 refine qd rfl rfl rfl (r_move (v := (.int .i64 (q9 : Int))) rfl) (qd rfl rfl rfl (r_add rfl rfl (by omega)) (qd rfl rfl rfl (r_assign (v := (.int .i64 ((q9 : Int) + 1))) rfl) (qe (s_lopN (⟨_, ?_, _, rfl, _, q9 + 1, u148, os2 ++ ([bdM (((cellsM rows).set i ((((cellsM rows).getD i [])).set q9 false)).set (((i : Int) + 0)).toNat (((((cellsM rows).set i ((((cellsM rows).getD i [])).set q9 false)).getD (((i : Int) + 0)).toNat [])).set ((q9 : Int) + 1).toNat false))]), G132, (packS (x := 10) (packS (x := 9) (packS (x := 8) (packS (x := 7) (packS (x := 6) (packS (x := 5) (packS (x := 4) (pack1 (x := 2) rfl) rfl) rfl) rfl) rfl) rfl) rfl) rfl), rfl, hX154, (Pin.le_trans (Pin.le_trans (Pin.le_trans (Pin.le_trans hlek36 hx53.le) hx61.le) hle125) hx135.le), (by omega), (by rw [dmRow_yes (dms_f g (by omega) (show q9 < (rows.getD 0 ByteArray.empty).size by omega) h50 h56), hos2, List.append_assoc]; rfl), (by simp; omega), ho150⟩)))))
 omega
 refine wp_exit (s_thenE (s_blkE (s_then (c_reg ?_))))
 refine qd rfl rfl rfl (r_move (v := (.int .i64 (q9 : Int))) rfl) (qd rfl rfl rfl (r_add rfl rfl (by omega)) (qd rfl rfl rfl (r_assign (v := (.int .i64 ((q9 : Int) + 1))) rfl) (qe (s_lopN (⟨_, ?_, _, rfl, _, q9 + 1, ov2, os2, G51, (packS (x := 10) (packS (x := 9) (packS (x := 8) (packS (x := 7) (packS (x := 6) (packS (x := 5) (packS (x := 4) (pack1 (x := 2) rfl) rfl) rfl) rfl) rfl) rfl) rfl) rfl), rfl, hX54, (Pin.le_trans hlek36 hx53.le), (by omega), (by rw [dmRow_no (dms_f g (by omega) (show q9 < (rows.getD 0 ByteArray.empty).size by omega) h50 h56), hos2]), (by omega), ho55⟩)))))
 omega
 refine qs rfl rfl rfl rfl rfl rfl (qs rfl rfl rfl rfl rfl rfl (qs rfl rfl rfl rfl rfl rfl (qs rfl rfl rfl rfl rfl rfl (qs rfl rfl rfl rfl rfl rfl (qs rfl rfl rfl rfl rfl rfl (qs rfl rfl rfl rfl rfl rfl (qs rfl rfl rfl rfl rfl rfl (qs rfl rfl rfl rfl rfl rfl (qd rfl rfl rfl (r_pickT (v := (.bool true)) rfl rfl) (qe (s_then ?_)))))))))))
 refine c_ifT rfl rfl (wp_exit (s_thenE (s_blkE (s_then (c_reg ?_)))))
 refine qd rfl rfl rfl (r_move (v := (.int .i64 (q9 : Int))) rfl) (qd rfl rfl rfl (r_add rfl rfl (by omega)) (qd rfl rfl rfl (r_assign (v := (.int .i64 ((q9 : Int) + 1))) rfl) (qe (s_lopN (⟨_, ?_, _, rfl, _, q9 + 1, ov2, os2, GL2, (packS (x := 10) (packS (x := 9) (packS (x := 8) (packS (x := 7) (packS (x := 6) (packS (x := 5) (packS (x := 4) (pack1 (x := 2) rfl) rfl) rfl) rfl) rfl) rfl) rfl) rfl), rfl, hX39, hlek36, (by omega), (by rw [dmRow_no (dms_0 g (by omega) (show q9 < (rows.getD 0 ByteArray.empty).size by omega) h50), hos2]), (by omega), hw40⟩)))))
 omega
 refine wp_exit (s_thenE (s_lopE (s_blkE (s_blkN (s_then (c_reg ?_))))))
 refine qd rfl rfl rfl (r_move (v := (.int .i64 (i : Int))) rfl) (qd rfl rfl rfl (r_add rfl rfl (by omega)) (qd rfl rfl rfl (r_assign (v := (.int .i64 ((i : Int) + 1))) rfl) (qe (s_lopN (⟨_, ?_, _, rfl, _, i + 1, ov2, os2, GL2, (packS (x := 9) (packS (x := 8) (packS (x := 7) (packS (x := 6) (packS (x := 5) (packS (x := 4) (pack1 (x := 2) rfl) rfl) rfl) rfl) rfl) rfl) rfl), rfl, hX39, (Pin.le_trans hlek30 hlek36), (by omega), (by rw [hos2, hos, dmAll_succ, show q9 = wdS rows by show q9 = (rows.getD 0 ByteArray.empty).size; omega]), (by omega), hw40⟩)))))
 omega
 refine wp_exit (s_thenE (s_lopE (s_blkE (s_then (s_seq (c_reg ?_))))))
 refine qd rfl rfl rfl (r_move (v := ov) rfl) (qd rfl rfl rfl (r_assign (v := ov) rfl) (qe (s_then ?_)))
 refine wp_ret (s_ret (c_ret1 (v := ov) rfl rfl rfl ?_))
 obtain ⟨G158, hle161, hX160, hr159, hf162⟩ := hw34.sealed hX33
 have hin : i = rows.length := by omega
 subst hin
 exact ⟨_, _, rfl, (by show RSl _ _ _ (dmAll rows false _ rows.length); rw [← hos]; exact hr159), hX160⟩

theorem smoves_spec {w : World} {G : Pin} {v : Value} {rows : List ByteArray} (hP : Pins G w) (hv : RSl eStr G v rows) {left : Bool} (g : GbP rows) :
  Calls Tryz.prog 40 [(.agg [v].toArray), (.bool left)].toArray w fun e w' => ∃ (u : Value) (G' : Pin), e = .returned u ∧ RSl (eSl eStr) G' u (dmM rows left) ∧ Ext noS G w G' w' := by
 cases left with
 | true => exact smoves_true hP hv g
 | false => exact smoves_false hP hv g

end RM6
end Go.Proofs.YtianphgdbfekdaaGreatDoor
