/- Texts of this claim in one file: C1, D1. -/
import Derived.Test.YtdongckiecjbaaaLf3
import Derived.Test.YtdongckiecjbaaaChecked
set_option maxRecDepth 20000
set_option maxHeartbeats 2000000
namespace Go.Proofs.Ytdongckiecjbaaa
namespace C1
open Go.RowKit Go.GL Go.Proofs
open B1











theorem l1In_spec {w : World} {G : Pin} {x a b : Int} (hP : Pins G w) :
  Calls Try.prog 59 [(.int .i64 x), (.int .i64 a), (.int .i64 b)].toArray w fun e w' => e = .returned (.bool (decide (a ≤ x ∧ x ≤ b))) ∧ w' = w := by
 refine s_enter (n := 15) Try.func59 Try.ntmps59 rfl rfl ?_
 have hX0 : Ext noS G w G w := Ext.refl hP
 refine s_seq (c_reg ?_)
 refine qd rfl rfl rfl (r_assign (v := (.bool false)) rfl) (qe (s_then (s_seq (c_reg ?_))))
 refine qd rfl rfl rfl (r_move (v := (.int .i64 x)) rfl) (qd rfl rfl rfl (r_move (v := (.int .i64 a)) rfl) (qd rfl rfl rfl (r_geq rfl rfl) (qd rfl rfl rfl (r_move (v := (.bool (decide ((a : Int) ≤ x)))) rfl) (qbd (p := (a : Int) ≤ x) (t := 10) rfl (fun h1 => ?_) (fun h1 => ?_)))))
 refine qdg rfl rfl rfl rfl rfl rfl (r_move (v := (.int .i64 x)) rfl) (qdg rfl rfl rfl rfl rfl rfl (r_move (v := (.int .i64 b)) rfl) (qdg rfl rfl rfl rfl rfl rfl (r_leq rfl rfl) (qd rfl rfl rfl (r_pickT (v := (.bool (decide ((x : Int) ≤ b)))) rfl rfl) (qd rfl rfl rfl (r_assign (v := (.bool (decide ((x : Int) ≤ b)))) rfl) (qe (s_then ?_))))))
 exact wp_ret (s_ret (c_ret1 (v := (.bool (decide ((x : Int) ≤ b)))) rfl rfl rfl (⟨congrArg (fun z => Ending.returned (Value.bool z)) (decide_eq_decide.2 (by omega)), rfl⟩)))
 refine qs rfl rfl rfl rfl rfl rfl (qs rfl rfl rfl rfl rfl rfl (qs rfl rfl rfl rfl rfl rfl (qd rfl rfl rfl (r_pickF (v := (.bool false)) rfl rfl) (qd rfl rfl rfl (r_assign (v := (.bool false)) rfl) (qe (s_then ?_))))))
 exact wp_ret (s_ret (c_ret1 (v := (.bool false)) rfl rfl rfl (⟨congrArg (fun z => Ending.returned (Value.bool z)) ((decide_eq_false (by omega)).symm), rfl⟩)))

theorem l1Most_spec {w : World} {G : Pin} {x y : Int} (hP : Pins G w) :
  Calls Try.prog 57 [(.int .i64 x), (.int .i64 y)].toArray w fun e w' => e = .returned (.int .i64 (max x y)) ∧ w' = w := by
 refine s_enter (n := 10) Try.func57 Try.ntmps57 rfl rfl ?_
 have hX0 : Ext noS G w G w := Ext.refl hP
 refine s_seq (c_reg ?_)
 refine qd rfl rfl rfl (r_assign (v := (.int .i64 0)) rfl) (qe (s_then (s_seq (s_seq (c_reg ?_)))))
 refine qd rfl rfl rfl (r_move (v := (.int .i64 x)) rfl) (qd rfl rfl rfl (r_move (v := (.int .i64 y)) rfl) (qd rfl rfl rfl (r_gtr rfl rfl) (qe (s_then ?_))))
 refine c_ifd (p := (y : Int) < x) rfl rfl (fun h1 => ?_) (fun h1 => ?_)
 refine s_seq (c_reg ?_)
 refine qd rfl rfl rfl (r_move (v := (.int .i64 x)) rfl) (qd rfl rfl rfl (r_assign (v := (.int .i64 x)) rfl) (qe (s_then ?_)))
 exact wp_ret (s_ret (c_ret1 (v := (.int .i64 x)) rfl rfl rfl (⟨congrArg (fun z => Ending.returned (Value.int .i64 z)) (by omega), rfl⟩)))
 refine wp_skip (s_then (s_seq (c_reg ?_)))
 refine qd rfl rfl rfl (r_move (v := (.int .i64 y)) rfl) (qd rfl rfl rfl (r_assign (v := (.int .i64 y)) rfl) (qe (s_then ?_)))
 exact wp_ret (s_ret (c_ret1 (v := (.int .i64 y)) rfl rfl rfl (⟨congrArg (fun z => Ending.returned (Value.int .i64 z)) (by omega), rfl⟩)))

theorem l1Rising_spec {w : World} {G : Pin} {v : Value} {xs : List Int} {lo hi : Int} (hP : Pins G w) (hv : RSl eInt G v xs) :
  Calls Try.prog 48 [v, (.int .i64 lo), (.int .i64 hi)].toArray w fun e w' => e = .returned (.bool (decP (Rise xs lo hi))) ∧ Ext noS G w G w' := by
 refine s_enter (n := 38) Try.func48 Try.ntmps48 rfl rfl ?_
 have hX0 : Ext noS G w G w := Ext.refl hP
 have hm := hv.max
 refine s_seq (c_reg ?_)
 refine qd rfl rfl rfl (r_assign (v := (.bool false)) rfl) (qe (s_then (s_seq (s_seq (c_reg ?_)))))
 refine qd rfl rfl rfl (r_assign (v := (.int .i64 0)) rfl) (qe (s_then ?_))
 refine s_blk (s_loop (fun (k : Nat) (en : Nat → Value) (W : World) => ∃ (env1 : Nat → Value) (j : Nat), en = (upd (upd (upd (upd env1 0 v) 1 (.int .i64 lo)) 2 (.int .i64 hi)) 7 (.int .i64 (j : Int))) ∧ k = xs.length - j ∧ Ext noS G w G W ∧ (j ≤ xs.length) ∧ (∀ i, i < j → (lo ≤ xs.getD i 0 ∧ xs.getD i 0 ≤ hi) ∧ (0 < i → xs.getD (i - 1) 0 < xs.getD i 0))) _ ⟨_, 0, (packS (x := 7) (packS (x := 2) (packS (x := 1) (pack1 (x := 0) rfl) rfl) rfl) rfl), rfl, hX0, Nat.zero_le _, (fun i hi => absurd hi (Nat.not_lt_zero i))⟩ ?_)
 rintro k1 _ w2 ⟨env1, j, rfl, hk3, hX4, hj, hp⟩
 refine s_seq (s_seq (c_reg ?_))
 refine qd rfl rfl rfl (r_move (v := (.int .i64 (j : Int))) rfl) (qd rfl rfl rfl (r_move (v := v) rfl) (qd rfl rfl rfl (run_len Try.underlying46 (v := v) rfl hv) (qd rfl rfl rfl (r_lss rfl rfl) (qe (s_then ?_)))))
 refine c_ifd (p := ((j : Int) : Int) < (xs.length : Int)) rfl rfl (fun h5 => ?_) (fun h5 => ?_)
 refine wp_skip (s_then (s_seq ?_))
 refine s_blk (s_seq (c_draw (S := fun wz => Pins G wz) (last := 24) (by kernel_rfl) rfl ?_))
 have hl6 : Below w2.heap.size w2 w2.drew := (Below.refl _ _).drew
 have hp7 := hX4.pins.below hl6
 have hX8 := hX4.step hp7 hl6
 refine dr_take (i := 0) rfl rfl rfl (want_none rfl _) (by kernel_rfl) (fun _ _ => r_move (v := v) rfl) hX8.pins (dr_take (i := 1) rfl rfl rfl (want_none rfl _) (by kernel_rfl) (fun _ _ => r_move (v := (.int .i64 (j : Int))) rfl) hX8.pins (dr_take (i := 2) rfl rfl rfl (want_none rfl _) (by kernel_rfl) (fun _ _ => run_idx Try.underlying46 sz3 (v := v) rfl rfl hv (by omega) (by omega)) hX8.pins (dr_take (i := 3) rfl rfl rfl (want_none rfl _) (by kernel_rfl) (fun _ hS => run_load_int (r := xs.getD j 0) rfl ag3 (z := (j : Int)) rfl hv hS (by omega) (by omega)) hX8.pins (dr_take (i := 4) rfl rfl rfl (want_none rfl _) (by kernel_rfl) (fun _ _ => r_move (v := (.int .i64 lo)) rfl) hX8.pins (dr_take (i := 5) rfl rfl rfl (want_none rfl _) (by kernel_rfl) (fun _ _ => r_move (v := (.int .i64 hi)) rfl) hX8.pins (dr_one (i := 6) (by kernel_rfl) (drOp1 (i := 6) rfl rfl rfl (want_none rfl _) (o_call (vs := [(.int .i64 (xs.getD j 0)), (.int .i64 lo), (.int .i64 hi)]) Try.func59 nm59 rfl rfl rfl ?_))))))))
 refine Calls.mono (l1In_spec hX8.pins) ?_
 rintro _ _ ⟨rfl, rfl⟩
 refine ⟨_, rfl, ?_⟩
 refine ⟨fun _ => hX8.pins, ?_⟩
 refine dr_take (i := 7) rfl rfl rfl (want_none rfl _) (by kernel_rfl) (fun _ _ => r_not rfl) hX8.pins (dr_take (i := 8) rfl rfl rfl (want_none rfl _) (by kernel_rfl) (fun _ _ => r_move (v := (.bool (!(decide ((lo : Int) ≤ (xs.getD j 0) ∧ (xs.getD j 0 : Int) ≤ hi))))) rfl) hX8.pins (drbn (t := 22) rfl (fun h9 => ?_) (fun h9 => ?_)))
 replace h9 := of_decide_eq_true h9
 refine dr_take (i := 9) rfl rfl rfl (want_yes rfl rfl rfl rfl) (by kernel_rfl) (fun _ _ => r_move (v := (.int .i64 (j : Int))) rfl) hX8.pins (dr_take (i := 10) rfl rfl rfl (want_yes rfl rfl rfl rfl) (by kernel_rfl) (fun _ _ => r_gtr rfl rfl) hX8.pins (dr_take (i := 11) rfl rfl rfl (want_yes rfl rfl rfl rfl) (by kernel_rfl) (fun _ _ => r_move (v := (.bool (decide ((0 : Int) < (j : Int))))) rfl) hX8.pins (drbd (p := (0 : Int) < (j : Int)) (t := 25) rfl (fun h10 => ?_) (fun h10 => ?_))))
 refine dr_take (i := 12) rfl rfl rfl (want_yes rfl rfl rfl rfl) (by kernel_rfl) (fun _ _ => r_move (v := v) rfl) hX8.pins (dr_take (i := 13) rfl rfl rfl (want_yes rfl rfl rfl rfl) (by kernel_rfl) (fun _ _ => r_move (v := (.int .i64 (j : Int))) rfl) hX8.pins (dr_take (i := 14) rfl rfl rfl (want_yes rfl rfl rfl rfl) (by kernel_rfl) (fun _ _ => r_sub rfl rfl (by omega)) hX8.pins (dr_take (i := 15) rfl rfl rfl (want_yes rfl rfl rfl rfl) (by kernel_rfl) (fun _ _ => run_idx Try.underlying46 sz3 (v := v) rfl rfl hv (by omega) (by omega)) hX8.pins (dr_take (i := 16) rfl rfl rfl (want_yes rfl rfl rfl rfl) (by kernel_rfl) (fun _ hS => run_load_int (r := xs.getD ((j : Int) - 1).toNat 0) rfl ag3 (z := ((j : Int) - 1)) rfl hv hS (by omega) (by omega)) hX8.pins (dr_take (i := 17) rfl rfl rfl (want_yes rfl rfl rfl rfl) (by kernel_rfl) (fun _ _ => r_move (v := v) rfl) hX8.pins (dr_take (i := 18) rfl rfl rfl (want_yes rfl rfl rfl rfl) (by kernel_rfl) (fun _ _ => r_move (v := (.int .i64 (j : Int))) rfl) hX8.pins (dr_take (i := 19) rfl rfl rfl (want_yes rfl rfl rfl rfl) (by kernel_rfl) (fun _ _ => run_idx Try.underlying46 sz3 (v := v) rfl rfl hv (by omega) (by omega)) hX8.pins (dr_take (i := 20) rfl rfl rfl (want_yes rfl rfl rfl rfl) (by kernel_rfl) (fun _ hS => run_load_int (r := xs.getD j 0) rfl ag3 (z := (j : Int)) rfl hv hS (by omega) (by omega)) hX8.pins (dr_take (i := 21) rfl rfl rfl (want_yes rfl rfl rfl rfl) (by kernel_rfl) (fun _ _ => r_geq rfl rfl) hX8.pins (dr_take (i := 22) rfl rfl rfl (want_yes rfl rfl rfl rfl) (by kernel_rfl) (fun _ _ => r_pickT (v := (.bool (decide ((xs.getD j 0 : Int) ≤ (xs.getD ((j : Int) - 1).toNat 0))))) rfl rfl) hX8.pins (dr_take (i := 23) rfl rfl rfl (want_none rfl _) (by kernel_rfl) (fun _ _ => r_pickF (v := (.bool (decide ((xs.getD j 0 : Int) ≤ (xs.getD ((j : Int) - 1).toNat 0))))) rfl rfl) hX8.pins (dr_end (by kernel_rfl) (s_then (c_ifd (p := (xs.getD j 0 : Int) ≤ (xs.getD ((j : Int) - 1).toNat 0)) rfl rfl (fun h11 => ?_) (fun h11 => ?_)))))))))))))))
 refine s_seq (c_reg ?_)
 refine qd rfl rfl rfl (r_assign (v := (.bool false)) rfl) (qe (s_then ?_))
 exact wp_ret (s_ret (c_ret1 (v := (.bool false)) rfl rfl rfl (⟨congrArg (fun z => Ending.returned (Value.bool z)) (decP_false.2 (fun hR => by have := hR j (by omega); rw [show j - 1 = ((j : Int) - 1).toNat by omega] at this; omega)).symm, hX8⟩)))
 refine wp_skip (s_blkN (s_then (c_reg ?_)))
 refine qd rfl rfl rfl (r_move (v := (.int .i64 (j : Int))) rfl) (qd rfl rfl rfl (r_add rfl rfl (by omega)) (qd rfl rfl rfl (r_assign (v := (.int .i64 ((j : Int) + 1))) rfl) (qe (s_lopN (⟨_, ?_, _, rfl, _, j + 1, (packS (x := 7) (packS (x := 2) (packS (x := 1) (pack1 (x := 0) rfl) rfl) rfl) rfl), rfl, hX8, (by omega), (rise_step hp (by omega) (fun h0 => by rw [show j - 1 = ((j : Int) - 1).toNat by omega]; omega))⟩)))))
 omega
 refine dr_skip (i := 12) rfl rfl (want_no rfl rfl rfl rfl rfl) (by kernel_rfl) hX8.pins (dr_skip (i := 13) rfl rfl (want_no rfl rfl rfl rfl rfl) (by kernel_rfl) hX8.pins (dr_skip (i := 14) rfl rfl (want_no rfl rfl rfl rfl rfl) (by kernel_rfl) hX8.pins (dr_skip (i := 15) rfl rfl (want_no rfl rfl rfl rfl rfl) (by kernel_rfl) hX8.pins (dr_skip (i := 16) rfl rfl (want_no rfl rfl rfl rfl rfl) (by kernel_rfl) hX8.pins (dr_skip (i := 17) rfl rfl (want_no rfl rfl rfl rfl rfl) (by kernel_rfl) hX8.pins (dr_skip (i := 18) rfl rfl (want_no rfl rfl rfl rfl rfl) (by kernel_rfl) hX8.pins (dr_skip (i := 19) rfl rfl (want_no rfl rfl rfl rfl rfl) (by kernel_rfl) hX8.pins (dr_skip (i := 20) rfl rfl (want_no rfl rfl rfl rfl rfl) (by kernel_rfl) hX8.pins (dr_skip (i := 21) rfl rfl (want_no rfl rfl rfl rfl rfl) (by kernel_rfl) hX8.pins (dr_take (i := 22) rfl rfl rfl (want_yes rfl rfl rfl rfl) (by kernel_rfl) (fun _ _ => r_pickF (v := (.bool false)) rfl rfl) hX8.pins (dr_take (i := 23) rfl rfl rfl (want_none rfl _) (by kernel_rfl) (fun _ _ => r_pickF (v := (.bool false)) rfl rfl) hX8.pins (dr_end (by kernel_rfl) (s_then (c_ifF rfl rfl (wp_skip (s_blkN (s_then (c_reg ?_))))))))))))))))))
 refine qd rfl rfl rfl (r_move (v := (.int .i64 (j : Int))) rfl) (qd rfl rfl rfl (r_add rfl rfl (by omega)) (qd rfl rfl rfl (r_assign (v := (.int .i64 ((j : Int) + 1))) rfl) (qe (s_lopN (⟨_, ?_, _, rfl, _, j + 1, (packS (x := 7) (packS (x := 2) (packS (x := 1) (pack1 (x := 0) rfl) rfl) rfl) rfl), rfl, hX8, (by omega), (rise_step hp (by omega) (fun h0 => by rw [show j - 1 = ((j : Int) - 1).toNat by omega]; omega))⟩)))))
 omega
 replace h9 := of_decide_eq_false h9
 refine dr_skip (i := 9) rfl rfl (want_no rfl rfl rfl rfl rfl) (by kernel_rfl) hX8.pins (dr_skip (i := 10) rfl rfl (want_no rfl rfl rfl rfl rfl) (by kernel_rfl) hX8.pins (dr_skip (i := 11) rfl rfl (want_no rfl rfl rfl rfl rfl) (by kernel_rfl) hX8.pins (dr_skip (i := 12) rfl rfl (want_undef rfl rfl rfl rfl) (by kernel_rfl) hX8.pins (dr_skip (i := 13) rfl rfl (want_undef rfl rfl rfl rfl) (by kernel_rfl) hX8.pins (dr_skip (i := 14) rfl rfl (want_undef rfl rfl rfl rfl) (by kernel_rfl) hX8.pins (dr_skip (i := 15) rfl rfl (want_undef rfl rfl rfl rfl) (by kernel_rfl) hX8.pins (dr_skip (i := 16) rfl rfl (want_undef rfl rfl rfl rfl) (by kernel_rfl) hX8.pins (dr_skip (i := 17) rfl rfl (want_undef rfl rfl rfl rfl) (by kernel_rfl) hX8.pins (dr_skip (i := 18) rfl rfl (want_undef rfl rfl rfl rfl) (by kernel_rfl) hX8.pins (dr_skip (i := 19) rfl rfl (want_undef rfl rfl rfl rfl) (by kernel_rfl) hX8.pins (dr_skip (i := 20) rfl rfl (want_undef rfl rfl rfl rfl) (by kernel_rfl) hX8.pins (dr_skip (i := 21) rfl rfl (want_undef rfl rfl rfl rfl) (by kernel_rfl) hX8.pins (dr_skip (i := 22) rfl rfl (want_no rfl rfl rfl rfl rfl) (by kernel_rfl) hX8.pins (dr_take (i := 23) rfl rfl rfl (want_none rfl _) (by kernel_rfl) (fun _ _ => r_pickT (v := (.bool true)) rfl rfl) hX8.pins (dr_end (by kernel_rfl) (s_then (c_ifT rfl rfl (s_seq (c_reg ?_)))))))))))))))))))
 refine qd rfl rfl rfl (r_assign (v := (.bool false)) rfl) (qe (s_then ?_))
 exact wp_ret (s_ret (c_ret1 (v := (.bool false)) rfl rfl rfl (⟨congrArg (fun z => Ending.returned (Value.bool z)) (decP_false.2 (fun hR => by have := hR j (by omega); rw [show j - 1 = ((j : Int) - 1).toNat by omega] at this; omega)).symm, hX8⟩)))
 refine wp_exit (s_thenE (s_lopE (s_blkE (s_then (s_seq (c_reg ?_))))))
 refine qd rfl rfl rfl (r_assign (v := (.bool true)) rfl) (qe (s_then ?_))
 exact wp_ret (s_ret (c_ret1 (v := (.bool true)) rfl rfl rfl (⟨congrArg (fun z => Ending.returned (Value.bool z)) (decP_true.2 (Rise.done (by omega) hp)).symm, hX4⟩)))

theorem l3Fits_spec {w : World} {G : Pin} {v : Value} {ns : List Nd} (hP : Pins G w) (hv : RSl eNode G v ns) :
  Calls Try.prog 47 [(.agg [v].toArray)].toArray w fun e w' => ∃ G', e = .returned (.bool (decP (FitsP ns))) ∧ Ext noS G w G' w' := by
 refine s_enter (n := 37) Try.func47 Try.ntmps47 rfl rfl ?_
 have hX0 : Ext noS G w G w := Ext.refl hP
 have hm := hv.max
 refine s_seq (c_reg ?_)
 refine q1 rfl rfl rfl (o_box [v] (v := (.agg [v].toArray)) rfl rfl hX0.pins (fun b1 w2 hk3 hb4 hp5 hl6 => ?_))
 have hX7 := hX0.step hp5 hl6
 have hlo8 : w.heap.size ≤ b1 := by have := hX0.size; omega
 obtain ⟨G9, hle10, hX11, hbp12, hf13⟩ := hb4.shut hX7 hlo8
 refine qd rfl rfl rfl (r_assign (v := (.bool false)) rfl) (qe (s_then (s_seq (s_seq (c_reg ?_)))))
 refine qd rfl rfl rfl (r_assign (v := (.int .i64 0)) rfl) (qe (s_then ?_))
 refine s_blk (s_loop (fun (k : Nat) (en : Nat → Value) (W : World) => ∃ (env1 : Nat → Value) (j : Nat), en = (upd (upd env1 1 (.pointer (some ⟨b1, 0, none⟩))) 3 (.int .i64 (j : Int))) ∧ k = 121 - j ∧ Ext noS G w G9 W ∧ (j ≤ ns.length ∧ j ≤ 121) ∧ (∀ k, k < j → (ns.getD k default).l.length ≤ 24 ∧ (ns.getD k default).r.length ≤ 24)) _ ⟨_, 0, (packS (x := 3) (pack1 (x := 1) rfl) rfl), rfl, hX11, (by omega), (fun i hi => absurd hi (Nat.not_lt_zero i))⟩ ?_)
 rintro k14 _ w15 ⟨env1, j, rfl, hk16, hX17, hj, hp⟩
 refine s_seq (s_seq (c_reg ?_))
 refine qd rfl rfl rfl (r_move (v := (.int .i64 (j : Int))) rfl) (qd rfl rfl rfl (r_fldp (k := 0) rfl Try.underlying26 rfl nz24 rfl) (qd rfl rfl rfl (r_ldp1 (u := v) ag24 rfl (hX17.pins _ _ _ (hbp12 0 _ rfl))) (qd rfl rfl rfl (run_len Try.underlying24 (v := v) rfl hv) (qd rfl rfl rfl (r_lss rfl rfl) (qd rfl rfl rfl (r_move (v := (.bool (decide (((j : Int) : Int) < (ns.length : Int))))) rfl) (qbd (p := ((j : Int) : Int) < (ns.length : Int)) (t := 9) rfl (fun h18 => ?_) (fun h18 => ?_)))))))
 refine qdg rfl rfl rfl rfl rfl rfl (r_move (v := (.int .i64 (j : Int))) rfl) (qdg rfl rfl rfl rfl rfl rfl (r_leq rfl rfl) (qd rfl rfl rfl (r_pickT (v := (.bool (decide (((j : Int) : Int) ≤ 120)))) rfl rfl) (qe (s_then ?_))))
 refine c_ifd (p := ((j : Int) : Int) ≤ 120) rfl rfl (fun h19 => ?_) (fun h19 => ?_)
 refine wp_skip (s_then (s_seq ?_))
 refine s_blk (s_seq (c_reg ?_))
 refine qd rfl rfl rfl (r_fldp (k := 0) rfl Try.underlying26 rfl nz24 rfl) (qd rfl rfl rfl (r_ldp1 (u := v) ag24 rfl (hX17.pins _ _ _ (hbp12 0 _ rfl))) (qd rfl rfl rfl (r_move (v := (.int .i64 (j : Int))) rfl) (qd rfl rfl rfl (run_idx Try.underlying24 sz48 (v := v) rfl rfl hv (by omega) (by omega)) (qd rfl rfl rfl (run_fld (off := 0) Try.underlying48 rfl rfl nz46 (z := (j : Int)) (k := 0) rfl hv (by omega) (by omega)) ?_))))
 obtain ⟨u20, hr21, hl22⟩ := nm_nl (hv.at (z := (j : Int)) (by omega) (by omega)) (j := j) rfl
 have hm23 := hr21.max
 refine qd rfl rfl rfl (hl22 ag46 rfl (Pins.of_le hX17.pins hle10)) (qd rfl rfl rfl (run_len Try.underlying46 (v := u20) rfl hr21) (qd rfl rfl rfl (r_gtr rfl rfl) (qd rfl rfl rfl (r_move (v := (.bool (decide ((24 : Int) < (((ns.getD j default).l).length : Int))))) rfl) (qbd (p := (24 : Int) < (((ns.getD j default).l).length : Int)) (t := 23) rfl (fun h24 => ?_) (fun h24 => ?_)))))
 refine qs rfl rfl rfl rfl rfl rfl (qs rfl rfl rfl rfl rfl rfl (qs rfl rfl rfl rfl rfl rfl (qs rfl rfl rfl rfl rfl rfl (qs rfl rfl rfl rfl rfl rfl (qs rfl rfl rfl rfl rfl rfl (qs rfl rfl rfl rfl rfl rfl (qs rfl rfl rfl rfl rfl rfl (qd rfl rfl rfl (r_pickT (v := (.bool true)) rfl rfl) (qe (s_then ?_))))))))))
 refine c_ifT rfl rfl (s_seq (c_reg ?_))
 refine qd rfl rfl rfl (r_assign (v := (.bool false)) rfl) (qe (s_then ?_))
 exact wp_ret (s_ret (c_ret1 (v := (.bool false)) rfl rfl rfl (⟨_, congrArg (fun z => Ending.returned (Value.bool z)) (decP_false.2 (fun g => by have := g.opts j (by omega); omega)).symm, hX17⟩)))
 refine qdg rfl rfl rfl rfl rfl rfl (r_fldp (k := 0) rfl Try.underlying26 rfl nz24 rfl) (qdg rfl rfl rfl rfl rfl rfl (r_ldp1 (u := v) ag24 rfl (hX17.pins _ _ _ (hbp12 0 _ rfl))) (qdg rfl rfl rfl rfl rfl rfl (r_move (v := (.int .i64 (j : Int))) rfl) (qdg rfl rfl rfl rfl rfl rfl (run_idx Try.underlying24 sz48 (v := v) rfl rfl hv (by omega) (by omega)) (qdg rfl rfl rfl rfl rfl rfl (run_fld (off := 1) Try.underlying48 rfl rfl nz46 (z := (j : Int)) (k := 0) rfl hv (by omega) (by omega)) ?_))))
 obtain ⟨u25, hr26, hl27⟩ := nm_nr (hv.at (z := (j : Int)) (by omega) (by omega)) (j := j) rfl
 have hm28 := hr26.max
 refine qdg rfl rfl rfl rfl rfl rfl (hl27 ag46 rfl (Pins.of_le hX17.pins hle10)) (qdg rfl rfl rfl rfl rfl rfl (run_len Try.underlying46 (v := u25) rfl hr26) (qdg rfl rfl rfl rfl rfl rfl (r_gtr rfl rfl) (qd rfl rfl rfl (r_pickF (v := (.bool (decide ((24 : Int) < (((ns.getD j default).r).length : Int))))) rfl rfl) (qe (s_then ?_)))))
 refine c_ifd (p := (24 : Int) < (((ns.getD j default).r).length : Int)) rfl rfl (fun h29 => ?_) (fun h29 => ?_)
 refine s_seq (c_reg ?_)
 refine qd rfl rfl rfl (r_assign (v := (.bool false)) rfl) (qe (s_then ?_))
 exact wp_ret (s_ret (c_ret1 (v := (.bool false)) rfl rfl rfl (⟨_, congrArg (fun z => Ending.returned (Value.bool z)) (decP_false.2 (fun g => by have := g.opts j (by omega); omega)).symm, hX17⟩)))
 refine wp_skip (s_blkN (s_then (c_reg ?_)))
 refine qd rfl rfl rfl (r_move (v := (.int .i64 (j : Int))) rfl) (qd rfl rfl rfl (r_add rfl rfl (by omega)) (qd rfl rfl rfl (r_assign (v := (.int .i64 ((j : Int) + 1))) rfl) (qe (s_lopN (⟨_, ?_, _, rfl, _, j + 1, (packS (x := 3) (pack1 (x := 1) rfl) rfl), rfl, hX17, (by omega), (fun k hk => if h3 : k = j then h3 ▸ ⟨by omega, by omega⟩ else hp k (by omega))⟩)))))
 omega
 refine wp_exit (s_thenE (s_lopE (s_blkE (s_then (s_seq (c_reg ?_))))))
 refine qd rfl rfl rfl (r_fldp (k := 0) rfl Try.underlying26 rfl nz24 rfl) (qd rfl rfl rfl (r_ldp1 (u := v) ag24 rfl (hX17.pins _ _ _ (hbp12 0 _ rfl))) (qd rfl rfl rfl (run_len Try.underlying24 (v := v) rfl hv) (q1 rfl rfl rfl (o_call (vs := [(.int .i64 (ns.length : Int)), (.int .i64 1), (.int .i64 120)]) Try.func59 nm59 rfl rfl rfl ?_))))
 refine Calls.mono (l1In_spec hX17.pins) ?_
 rintro _ _ ⟨rfl, rfl⟩
 refine ⟨_, rfl, ?_⟩
 refine qd rfl rfl rfl (r_assign (v := (.bool (decide ((1 : Int) ≤ (ns.length : Int) ∧ ((ns.length : Int) : Int) ≤ 120)))) rfl) (qe (s_then ?_))
 exact wp_ret (s_ret (c_ret1 (v := (.bool (decide ((1 : Int) ≤ (ns.length : Int) ∧ ((ns.length : Int) : Int) ≤ 120)))) rfl rfl rfl (⟨_, congrArg (fun z => Ending.returned (Value.bool z)) (fits_end hp (by omega) (by omega)), hX17⟩)))
 refine qs rfl rfl rfl rfl rfl rfl (qs rfl rfl rfl rfl rfl rfl (qd rfl rfl rfl (r_pickF (v := (.bool false)) rfl rfl) (qe (s_then ?_))))
 refine c_ifF rfl rfl (wp_exit (s_thenE (s_lopE (s_blkE (s_then (s_seq (c_reg ?_)))))))
 refine qd rfl rfl rfl (r_fldp (k := 0) rfl Try.underlying26 rfl nz24 rfl) (qd rfl rfl rfl (r_ldp1 (u := v) ag24 rfl (hX17.pins _ _ _ (hbp12 0 _ rfl))) (qd rfl rfl rfl (run_len Try.underlying24 (v := v) rfl hv) (q1 rfl rfl rfl (o_call (vs := [(.int .i64 (ns.length : Int)), (.int .i64 1), (.int .i64 120)]) Try.func59 nm59 rfl rfl rfl ?_))))
 refine Calls.mono (l1In_spec hX17.pins) ?_
 rintro _ _ ⟨rfl, rfl⟩
 refine ⟨_, rfl, ?_⟩
 refine qd rfl rfl rfl (r_assign (v := (.bool (decide ((1 : Int) ≤ (ns.length : Int) ∧ ((ns.length : Int) : Int) ≤ 120)))) rfl) (qe (s_then ?_))
 exact wp_ret (s_ret (c_ret1 (v := (.bool (decide ((1 : Int) ≤ (ns.length : Int) ∧ ((ns.length : Int) : Int) ≤ 120)))) rfl rfl rfl (⟨_, congrArg (fun z => Ending.returned (Value.bool z)) (fits_end hp (by omega) (by omega)), hX17⟩)))

theorem l1Put_spec {w : World} {G : Pin} {v : Value} {xs : List Int} {n : Int} (hP : Pins G w) (hv : RSl eInt G v xs) (hs : xs.length ≤ 2097152) :
  Calls Try.prog 56 [v, (.int .i64 n)].toArray w fun e w' => ∃ (u : Value) (G' : Pin), e = .returned u ∧ RSl eInt G' u (putL xs n) ∧ Ext noS G w G' w' := by
 refine s_enter (n := 45) Try.func56 Try.ntmps56 rfl rfl ?_
 have hX0 : Ext noS G w G w := Ext.refl hP
 refine s_seq (c_reg ?_)
 refine qd rfl rfl rfl (r_assign (v := (.slice none 0 0)) rfl) (qe (s_then (s_seq (c_reg ?_))))
 refine qd rfl rfl rfl (r_assign (v := (.int .i64 0)) rfl) (qe (s_then (s_seq ?_)))
 refine s_blk (s_loop (fun (k : Nat) (en : Nat → Value) (W : World) => ∃ (env1 : Nat → Value) (j : Nat), en = (upd (upd (upd (upd env1 0 v) 1 (.int .i64 n)) 4 (.slice none 0 0)) 5 (.int .i64 (j : Int))) ∧ k = xs.length - j ∧ Ext noS G w G W ∧ (j ≤ xs.length) ∧ (putL xs n = xs.take j ++ putL (xs.drop j) n)) _ ⟨_, 0, (packS (x := 5) (packS (x := 4) (packS (x := 1) (pack1 (x := 0) rfl) rfl) rfl) rfl), rfl, hX0, Nat.zero_le _, rfl⟩ ?_)
 rintro k1 _ w2 ⟨env1, j, rfl, hk3, hX4, hj, hr⟩
 refine s_seq (s_seq (c_reg ?_))
 refine qd rfl rfl rfl (r_move (v := (.int .i64 (j : Int))) rfl) (qd rfl rfl rfl (r_move (v := v) rfl) (qd rfl rfl rfl (run_len Try.underlying46 (v := v) rfl hv) (qd rfl rfl rfl (r_lss rfl rfl) (qd rfl rfl rfl (r_move (v := (.bool (decide (((j : Int) : Int) < (xs.length : Int))))) rfl) (qbd (p := ((j : Int) : Int) < (xs.length : Int)) (t := 10) rfl (fun h5 => ?_) (fun h5 => ?_))))))
 refine qdg rfl rfl rfl rfl rfl rfl (r_move (v := v) rfl) (qdg rfl rfl rfl rfl rfl rfl (r_move (v := (.int .i64 (j : Int))) rfl) (qdg rfl rfl rfl rfl rfl rfl (run_idx Try.underlying46 sz3 (v := v) rfl rfl hv (by omega) (by omega)) (qdg rfl rfl rfl rfl rfl rfl (run_load_int (r := xs.getD j 0) rfl ag3 (z := (j : Int)) rfl hv hX4.pins (by omega) (by omega)) (qdg rfl rfl rfl rfl rfl rfl (r_move (v := (.int .i64 n)) rfl) (qdg rfl rfl rfl rfl rfl rfl (r_lss rfl rfl) (qd rfl rfl rfl (r_pickT (v := (.bool (decide ((xs.getD j 0 : Int) < n)))) rfl rfl) (qe (s_then ?_))))))))
 refine c_ifd (p := (xs.getD j 0 : Int) < n) rfl rfl (fun h6 => ?_) (fun h6 => ?_)
 refine wp_skip (s_then (s_blk (c_reg (qd rfl rfl rfl (r_move (v := (.int .i64 (j : Int))) rfl) (qd rfl rfl rfl (r_add rfl rfl (by omega)) (qd rfl rfl rfl (r_assign (v := (.int .i64 ((j : Int) + 1))) rfl) (qe (s_blkN (s_lopN (⟨_, ?_, _, rfl, _, j + 1, (packS (x := 5) (packS (x := 4) (packS (x := 1) (pack1 (x := 0) rfl) rfl) rfl) rfl), rfl, hX4, (by omega), (put_next (by omega) (by omega) hr)⟩))))))))))
 omega
 refine wp_exit (s_thenE (s_lopE (s_blkE (s_then (s_seq (s_seq (c_reg ?_)))))))
 refine qd rfl rfl rfl (r_move (v := (.int .i64 (j : Int))) rfl) (qd rfl rfl rfl (r_move (v := v) rfl) (qd rfl rfl rfl (run_len Try.underlying46 (v := v) rfl hv) (qd rfl rfl rfl (r_lss rfl rfl) (qd rfl rfl rfl (r_move (v := (.bool (decide (((j : Int) : Int) < (xs.length : Int))))) rfl) (qbd (p := ((j : Int) : Int) < (xs.length : Int)) (t := 24) rfl (fun _ => ?_) (fun h => absurd h5 h))))))
 refine qdg rfl rfl rfl rfl rfl rfl (r_move (v := v) rfl) (qdg rfl rfl rfl rfl rfl rfl (r_move (v := (.int .i64 (j : Int))) rfl) (qdg rfl rfl rfl rfl rfl rfl (run_idx Try.underlying46 sz3 (v := v) rfl rfl hv (by omega) (by omega)) (qdg rfl rfl rfl rfl rfl rfl (run_load_int (r := xs.getD j 0) rfl ag3 (z := (j : Int)) rfl hv hX4.pins (by omega) (by omega)) (qdg rfl rfl rfl rfl rfl rfl (r_move (v := (.int .i64 n)) rfl) (qdg rfl rfl rfl rfl rfl rfl (r_eql rfl rfl) (qd rfl rfl rfl (r_pickT (v := (.bool (decide ((xs.getD j 0 : Int) = n)))) rfl rfl) (qe (s_then ?_))))))))
 refine c_ifd (p := (xs.getD j 0 : Int) = n) rfl rfl (fun h8 => ?_) (fun h8 => ?_)
 refine s_seq (c_reg ?_)
 refine qd rfl rfl rfl (r_move (v := v) rfl) (qd rfl rfl rfl (r_assign (v := v) rfl) (qe (s_then ?_)))
 exact wp_ret (s_ret (c_ret1 (v := v) rfl rfl rfl (⟨_, _, rfl, (by rw [put_hit (by omega) (by omega) hr]; exact hv), hX4⟩)))
 refine wp_skip (s_then (s_seq ?_))
 refine c_cut (fun (en : Nat → Value) (W : World) => ∃ (env1 : Nat → Value) (c9 : Value) (G10 : Pin), en = (upd env1 4 c9) ∧ Ext noS G w G10 W ∧ Pin.le G G10 ∧ (Own eInt 3 G10 W w.heap.size c9 (((([]) ++ ((xs.take j).drop 0)) ++ ([n])) ++ ((xs.take xs.length).drop j)))) ?_ ?_
 ·rintro _ w11 ⟨env1, c9, G10, rfl, hX13, hle14, ho12⟩
  refine s_then (wp_ret (s_ret (c_ret1 (v := c9) rfl rfl rfl ?_)))
  obtain ⟨G15, hle18, hX17, hr16, hf19⟩ := ho12.sealed hX13
  exact ⟨_, _, rfl, (by rw [← put_new (fun h => ⟨by omega, by omega⟩) hr]; exact hr16), hX17⟩
 refine c_draw (S := fun wz => Pins G wz) (last := 13) (by kernel_rfl) rfl ?_
 have hl20 : Below w2.heap.size w2 w2.drew := (Below.refl _ _).drew
 have hp21 := hX4.pins.below hl20
 have hX22 := hX4.step hp21 hl20
 refine dr_take (i := 1) rfl rfl rfl (want_none rfl _) (by kernel_rfl) (fun _ _ => r_move (v := v) rfl) hX22.pins (dr_take (i := 2) rfl rfl rfl (want_none rfl _) (by kernel_rfl) (fun _ _ => r_move (v := (.int .i64 (j : Int))) rfl) hX22.pins ?_)
 obtain ⟨u23, hr24, hl25⟩ := name_slice hv (lo := none) (hi := (some ((j : Int)))) (0) (j) (Or.inl ⟨rfl, rfl⟩) (Or.inr ⟨_, rfl, (by omega), rfl⟩) (by omega) (by omega)
 refine dr_take (i := 3) rfl rfl rfl (want_none rfl _) (by kernel_rfl) (fun _ _ => hl25 Try.underlying46 sz3 rfl rfl rfl) hX22.pins (dr_take (i := 5) rfl rfl rfl (want_none rfl _) (by kernel_rfl) (fun _ _ => r_move (v := (.int .i64 n)) rfl) hX22.pins (dr_take (i := 8) rfl rfl rfl (want_none rfl _) (by kernel_rfl) (fun _ _ => r_move (v := v) rfl) hX22.pins (dr_take (i := 9) rfl rfl rfl (want_none rfl _) (by kernel_rfl) (fun _ _ => r_move (v := (.int .i64 (j : Int))) rfl) hX22.pins ?_)))
 obtain ⟨u26, hr27, hl28⟩ := name_slice hv (lo := (some ((j : Int)))) (hi := none) (j) (xs.length) (Or.inr ⟨_, rfl, (by omega), rfl⟩) (Or.inl ⟨rfl, rfl⟩) (by omega) (by omega)
 refine dr_take (i := 10) rfl rfl rfl (want_none rfl _) (by kernel_rfl) (fun _ _ => hl28 Try.underlying46 sz3 rfl rfl rfl) hX22.pins (dr_two (i := 0) (j := 6) (by kernel_rfl) ?_ ?_)
 refine (drOp1 (i := 0) rfl rfl rfl (want_none rfl _) (o_build0 (E := eInt) (e := 3) Try.underlying46 sz3 hX22.pins (fun u29 w30 ho31 hp32 hl33 hk34 => ?_)))
 have hX35 := hX22.step hp32 hl33
 have ho36 : Own eInt 3 G w30 w.heap.size u29 ([]) := ho31.weaken hX22.size
 refine ⟨fun _ => hX35.pins, ?_⟩
 refine dr_two (i := 4) (j := 6) (by kernel_rfl) ?_ ?_
 refine (drOp1 (i := 4) rfl rfl rfl (want_none rfl _) (o_append (E := eInt) (v := u29) (u := u23) 8 Try.underlying46 ap3 (by decide) rfl rfl hX35.pins ho36 ((hr24.mono (Pin.le_refl _)).src hX35.pins (by decide)) (by first | omega | (rw [List.nil_append]; omega) | (rw [List.length_nil]; omega) | (rw [List.length_append]; omega) | (simp; done) | (simp; omega) | (simp only [List.length_append, List.length_cons, List.length_nil]; omega)) (by first | omega | (rw [List.nil_append]; omega) | (rw [List.length_nil]; omega) | (rw [List.length_append]; omega) | (simp; done) | (simp; omega) | (simp only [List.length_append, List.length_cons, List.length_nil]; omega)) (hX35.size) (fun u37 w38 ho39 hp40 hg41 hw42 => ?_)))
 have hX43 := hX35.write hp40 hg41 ((lo_own ho36))
 have hm44 : (([]) ++ ((xs.take j).drop 0)).length = ([]).length + ((xs.take j).drop 0).length := List.length_append
 refine ⟨fun _ => hX43.pins, ?_⟩
 refine dr_one (i := 6) (by kernel_rfl) (drOp1 (i := 6) rfl rfl rfl (want_none rfl _) (o_buildF (E := eInt) (e := 3) [(.int .i64 n)] [n] Try.underlying46 sz3 zr3 (by exact reps1 (by rfl)) (ones1 (by rfl)) rfl rfl rfl rfl (by decide) hX43.pins (fun u45 w46 ho47 hp48 hl49 hk50 => ?_)))
 have hX51 := hX43.step hp48 hl49
 have ho52 := ho39.below hl49
 have ho54 : Own eInt 3 G w46 w.heap.size u45 ([n]) := ho47.weaken hX43.size
 refine ⟨fun _ => hX51.pins, ?_⟩
 refine dr_one (i := 7) (by kernel_rfl) (drOp1 (i := 7) rfl rfl rfl (want_none rfl _) (o_append (E := eInt) (v := u37) (u := u45) 8 Try.underlying46 ap3 (by decide) rfl rfl hX51.pins ho52 ho54.src (by first | omega | (rw [List.nil_append]; omega) | (rw [List.length_nil]; omega) | (rw [List.length_append]; omega) | (simp; done) | (simp; omega) | (simp only [List.length_append, List.length_cons, List.length_nil]; omega)) (by first | omega | (rw [List.nil_append]; omega) | (rw [List.length_nil]; omega) | (rw [List.length_append]; omega) | (simp; done) | (simp; omega) | (simp only [List.length_append, List.length_cons, List.length_nil]; omega)) (hX51.size) (fun u55 w56 ho57 hp58 hg59 hw60 => ?_)))
 have hX61 := hX51.write hp58 hg59 ((lo_own ho52))
 have hm64 : ((([]) ++ ((xs.take j).drop 0)) ++ ([n])).length = (([]) ++ ((xs.take j).drop 0)).length + 1 := List.length_append
 refine ⟨fun _ => hX61.pins, ?_⟩
 refine dr_one (i := 11) (by kernel_rfl) (drOp1 (i := 11) rfl rfl rfl (want_none rfl _) (o_append (E := eInt) (v := u55) (u := u26) 8 Try.underlying46 ap3 (by decide) rfl rfl hX61.pins ho57 ((hr27.mono (Pin.le_refl _)).src hX61.pins (by decide)) (by first | omega | (rw [List.nil_append]; omega) | (rw [List.length_nil]; omega) | (rw [List.length_append]; omega) | (simp; done) | (simp; omega) | (simp only [List.length_append, List.length_cons, List.length_nil]; omega)) (by first | omega | (rw [List.nil_append]; omega) | (rw [List.length_nil]; omega) | (rw [List.length_append]; omega) | (simp; done) | (simp; omega) | (simp only [List.length_append, List.length_cons, List.length_nil]; omega)) (hX61.size) (fun u65 w66 ho67 hp68 hg69 hw70 => ?_)))
 have hX71 := hX61.write hp68 hg69 ((lo_own ho57))
 have hm72 : (((([]) ++ ((xs.take j).drop 0)) ++ ([n])) ++ ((xs.take xs.length).drop j)).length = ((([]) ++ ((xs.take j).drop 0)) ++ ([n])).length + ((xs.take xs.length).drop j).length := List.length_append
 refine ⟨fun _ => hX71.pins, ?_⟩
 exact dr_take (i := 12) rfl rfl rfl (want_none rfl _) (by kernel_rfl) (fun _ _ => r_assign (v := u65) rfl) hX71.pins (dr_end (by kernel_rfl) (cut_in ⟨_, u65, G, (pack1 (x := 4) rfl), hX71, (Pin.le_refl _), ho67⟩))
 refine (drOp1 (i := 6) rfl rfl rfl (want_none rfl _) (o_buildF (E := eInt) (e := 3) [(.int .i64 n)] [n] Try.underlying46 sz3 zr3 (by exact reps1 (by rfl)) (ones1 (by rfl)) rfl rfl rfl rfl (by decide) hX35.pins (fun u73 w74 ho75 hp76 hl77 hk78 => ?_)))
 have hX79 := hX35.step hp76 hl77
 have ho80 := ho36.below hl77
 have ha81 : Apart u73.ownBlock u29.ownBlock := new_ne_own hk78 ho36.lt
 have ho82 : Own eInt 3 G w74 w.heap.size u73 ([n]) := ho75.weaken hX35.size
 refine ⟨fun _ => hX79.pins, ?_⟩
 refine dr_one (i := 4) (by kernel_rfl) (drOp1 (i := 4) rfl rfl rfl (want_none rfl _) (o_append (E := eInt) (v := u29) (u := u23) 8 Try.underlying46 ap3 (by decide) rfl rfl hX79.pins ho80 ((hr24.mono (Pin.le_refl _)).src hX79.pins (by decide)) (by first | omega | (rw [List.nil_append]; omega) | (rw [List.length_nil]; omega) | (rw [List.length_append]; omega) | (simp; done) | (simp; omega) | (simp only [List.length_append, List.length_cons, List.length_nil]; omega)) (by first | omega | (rw [List.nil_append]; omega) | (rw [List.length_nil]; omega) | (rw [List.length_append]; omega) | (simp; done) | (simp; omega) | (simp only [List.length_append, List.length_cons, List.length_nil]; omega)) (hX79.size) (fun u83 w84 ho85 hp86 hg87 hw88 => ?_)))
 have hX89 := hX79.write hp86 hg87 ((lo_own ho80))
 have ho90 := ho82.keptA hg87 ha81
 have hm92 : (([]) ++ ((xs.take j).drop 0)).length = ([]).length + ((xs.take j).drop 0).length := List.length_append
 refine ⟨fun _ => hX89.pins, ?_⟩
 refine dr_one (i := 7) (by kernel_rfl) (drOp1 (i := 7) rfl rfl rfl (want_none rfl _) (o_append (E := eInt) (v := u83) (u := u73) 8 Try.underlying46 ap3 (by decide) rfl rfl hX89.pins ho85 ho90.src (by first | omega | (rw [List.nil_append]; omega) | (rw [List.length_nil]; omega) | (rw [List.length_append]; omega) | (simp; done) | (simp; omega) | (simp only [List.length_append, List.length_cons, List.length_nil]; omega)) (by first | omega | (rw [List.nil_append]; omega) | (rw [List.length_nil]; omega) | (rw [List.length_append]; omega) | (simp; done) | (simp; omega) | (simp only [List.length_append, List.length_cons, List.length_nil]; omega)) (hX89.size) (fun u93 w94 ho95 hp96 hg97 hw98 => ?_)))
 have hX99 := hX89.write hp96 hg97 ((lo_own ho85))
 have hm102 : ((([]) ++ ((xs.take j).drop 0)) ++ ([n])).length = (([]) ++ ((xs.take j).drop 0)).length + 1 := List.length_append
 refine ⟨fun _ => hX99.pins, ?_⟩
 refine dr_one (i := 11) (by kernel_rfl) (drOp1 (i := 11) rfl rfl rfl (want_none rfl _) (o_append (E := eInt) (v := u93) (u := u26) 8 Try.underlying46 ap3 (by decide) rfl rfl hX99.pins ho95 ((hr27.mono (Pin.le_refl _)).src hX99.pins (by decide)) (by first | omega | (rw [List.nil_append]; omega) | (rw [List.length_nil]; omega) | (rw [List.length_append]; omega) | (simp; done) | (simp; omega) | (simp only [List.length_append, List.length_cons, List.length_nil]; omega)) (by first | omega | (rw [List.nil_append]; omega) | (rw [List.length_nil]; omega) | (rw [List.length_append]; omega) | (simp; done) | (simp; omega) | (simp only [List.length_append, List.length_cons, List.length_nil]; omega)) (hX99.size) (fun u103 w104 ho105 hp106 hg107 hw108 => ?_)))
 have hX109 := hX99.write hp106 hg107 ((lo_own ho95))
 have hm110 : (((([]) ++ ((xs.take j).drop 0)) ++ ([n])) ++ ((xs.take xs.length).drop j)).length = ((([]) ++ ((xs.take j).drop 0)) ++ ([n])).length + ((xs.take xs.length).drop j).length := List.length_append
 refine ⟨fun _ => hX109.pins, ?_⟩
 exact dr_take (i := 12) rfl rfl rfl (want_none rfl _) (by kernel_rfl) (fun _ _ => r_assign (v := u103) rfl) hX109.pins (dr_end (by kernel_rfl) (cut_in ⟨_, u103, G, (pack1 (x := 4) rfl), hX109, (Pin.le_refl _), ho105⟩))
 refine (drOp1 (i := 6) rfl rfl rfl (want_none rfl _) (o_buildF (E := eInt) (e := 3) [(.int .i64 n)] [n] Try.underlying46 sz3 zr3 (by exact reps1 (by rfl)) (ones1 (by rfl)) rfl rfl rfl rfl (by decide) hX22.pins (fun u111 w112 ho113 hp114 hl115 hk116 => ?_)))
 have hX117 := hX22.step hp114 hl115
 have ho118 : Own eInt 3 G w112 w.heap.size u111 ([n]) := ho113.weaken hX22.size
 refine ⟨fun _ => hX117.pins, ?_⟩
 refine dr_one (i := 0) (by kernel_rfl) (drOp1 (i := 0) rfl rfl rfl (want_none rfl _) (o_build0 (E := eInt) (e := 3) Try.underlying46 sz3 hX117.pins (fun u119 w120 ho121 hp122 hl123 hk124 => ?_)))
 have hX125 := hX117.step hp122 hl123
 have ho126 := ho118.below hl123
 have ha127 : Apart u119.ownBlock u111.ownBlock := new_ne_own hk124 ho118.lt
 have ho128 : Own eInt 3 G w120 w.heap.size u119 ([]) := ho121.weaken hX117.size
 refine ⟨fun _ => hX125.pins, ?_⟩
 refine dr_one (i := 4) (by kernel_rfl) (drOp1 (i := 4) rfl rfl rfl (want_none rfl _) (o_append (E := eInt) (v := u119) (u := u23) 8 Try.underlying46 ap3 (by decide) rfl rfl hX125.pins ho128 ((hr24.mono (Pin.le_refl _)).src hX125.pins (by decide)) (by first | omega | (rw [List.nil_append]; omega) | (rw [List.length_nil]; omega) | (rw [List.length_append]; omega) | (simp; done) | (simp; omega) | (simp only [List.length_append, List.length_cons, List.length_nil]; omega)) (by first | omega | (rw [List.nil_append]; omega) | (rw [List.length_nil]; omega) | (rw [List.length_append]; omega) | (simp; done) | (simp; omega) | (simp only [List.length_append, List.length_cons, List.length_nil]; omega)) (hX125.size) (fun u129 w130 ho131 hp132 hg133 hw134 => ?_)))
 have hX135 := hX125.write hp132 hg133 ((lo_own ho128))
 have ho136 := ho126.keptA hg133 ha127.symm
 have hm138 : (([]) ++ ((xs.take j).drop 0)).length = ([]).length + ((xs.take j).drop 0).length := List.length_append
 refine ⟨fun _ => hX135.pins, ?_⟩
 refine dr_one (i := 7) (by kernel_rfl) (drOp1 (i := 7) rfl rfl rfl (want_none rfl _) (o_append (E := eInt) (v := u129) (u := u111) 8 Try.underlying46 ap3 (by decide) rfl rfl hX135.pins ho131 ho136.src (by first | omega | (rw [List.nil_append]; omega) | (rw [List.length_nil]; omega) | (rw [List.length_append]; omega) | (simp; done) | (simp; omega) | (simp only [List.length_append, List.length_cons, List.length_nil]; omega)) (by first | omega | (rw [List.nil_append]; omega) | (rw [List.length_nil]; omega) | (rw [List.length_append]; omega) | (simp; done) | (simp; omega) | (simp only [List.length_append, List.length_cons, List.length_nil]; omega)) (hX135.size) (fun u139 w140 ho141 hp142 hg143 hw144 => ?_)))
 have hX145 := hX135.write hp142 hg143 ((lo_own ho131))
 have hm148 : ((([]) ++ ((xs.take j).drop 0)) ++ ([n])).length = (([]) ++ ((xs.take j).drop 0)).length + 1 := List.length_append
 refine ⟨fun _ => hX145.pins, ?_⟩
 refine dr_one (i := 11) (by kernel_rfl) (drOp1 (i := 11) rfl rfl rfl (want_none rfl _) (o_append (E := eInt) (v := u139) (u := u26) 8 Try.underlying46 ap3 (by decide) rfl rfl hX145.pins ho141 ((hr27.mono (Pin.le_refl _)).src hX145.pins (by decide)) (by first | omega | (rw [List.nil_append]; omega) | (rw [List.length_nil]; omega) | (rw [List.length_append]; omega) | (simp; done) | (simp; omega) | (simp only [List.length_append, List.length_cons, List.length_nil]; omega)) (by first | omega | (rw [List.nil_append]; omega) | (rw [List.length_nil]; omega) | (rw [List.length_append]; omega) | (simp; done) | (simp; omega) | (simp only [List.length_append, List.length_cons, List.length_nil]; omega)) (hX145.size) (fun u149 w150 ho151 hp152 hg153 hw154 => ?_)))
 have hX155 := hX145.write hp152 hg153 ((lo_own ho141))
 have hm156 : (((([]) ++ ((xs.take j).drop 0)) ++ ([n])) ++ ((xs.take xs.length).drop j)).length = ((([]) ++ ((xs.take j).drop 0)) ++ ([n])).length + ((xs.take xs.length).drop j).length := List.length_append
 refine ⟨fun _ => hX155.pins, ?_⟩
 exact dr_take (i := 12) rfl rfl rfl (want_none rfl _) (by kernel_rfl) (fun _ _ => r_assign (v := u149) rfl) hX155.pins (dr_end (by kernel_rfl) (cut_in ⟨_, u149, G, (pack1 (x := 4) rfl), hX155, (Pin.le_refl _), ho151⟩))
 refine qs rfl rfl rfl rfl rfl rfl (qs rfl rfl rfl rfl rfl rfl (qs rfl rfl rfl rfl rfl rfl (qs rfl rfl rfl rfl rfl rfl (qs rfl rfl rfl rfl rfl rfl (qs rfl rfl rfl rfl rfl rfl (qd rfl rfl rfl (r_pickF (v := (.bool false)) rfl rfl) (qe (s_then ?_))))))))
 refine c_ifF rfl rfl (wp_exit (s_thenE (s_lopE (s_blkE (s_then (s_seq (s_seq (c_reg ?_))))))))
 refine qd rfl rfl rfl (r_move (v := (.int .i64 (j : Int))) rfl) (qd rfl rfl rfl (r_move (v := v) rfl) (qd rfl rfl rfl (run_len Try.underlying46 (v := v) rfl hv) (qd rfl rfl rfl (r_lss rfl rfl) (qd rfl rfl rfl (r_move (v := (.bool (decide (((j : Int) : Int) < (xs.length : Int))))) rfl) (qbd (p := ((j : Int) : Int) < (xs.length : Int)) (t := 24) rfl (fun h => absurd h h5) (fun _ => ?_))))))
 refine qs rfl rfl rfl rfl rfl rfl (qs rfl rfl rfl rfl rfl rfl (qs rfl rfl rfl rfl rfl rfl (qs rfl rfl rfl rfl rfl rfl (qs rfl rfl rfl rfl rfl rfl (qs rfl rfl rfl rfl rfl rfl (qd rfl rfl rfl (r_pickF (v := (.bool false)) rfl rfl) (qe (s_then ?_))))))))
 refine c_ifF rfl rfl (wp_skip (s_then (s_seq ?_)))
 refine c_cut (fun (en : Nat → Value) (W : World) => ∃ (env1 : Nat → Value) (c158 : Value) (G159 : Pin), en = (upd env1 4 c158) ∧ Ext noS G w G159 W ∧ Pin.le G G159 ∧ (Own eInt 3 G159 W w.heap.size c158 (((([]) ++ ((xs.take j).drop 0)) ++ ([n])) ++ ((xs.take xs.length).drop j)))) ?_ ?_
 ·rintro _ w160 ⟨env1, c158, G159, rfl, hX162, hle163, ho161⟩
  refine s_then (wp_ret (s_ret (c_ret1 (v := c158) rfl rfl rfl ?_)))
  obtain ⟨G164, hle167, hX166, hr165, hf168⟩ := ho161.sealed hX162
  exact ⟨_, _, rfl, (by rw [← put_new (fun h => ⟨by omega, by omega⟩) hr]; exact hr165), hX166⟩
 refine c_draw (S := fun wz => Pins G wz) (last := 13) (by kernel_rfl) rfl ?_
 have hl169 : Below w2.heap.size w2 w2.drew := (Below.refl _ _).drew
 have hp170 := hX4.pins.below hl169
 have hX171 := hX4.step hp170 hl169
 refine dr_take (i := 1) rfl rfl rfl (want_none rfl _) (by kernel_rfl) (fun _ _ => r_move (v := v) rfl) hX171.pins (dr_take (i := 2) rfl rfl rfl (want_none rfl _) (by kernel_rfl) (fun _ _ => r_move (v := (.int .i64 (j : Int))) rfl) hX171.pins ?_)
 obtain ⟨u172, hr173, hl174⟩ := name_slice hv (lo := none) (hi := (some ((j : Int)))) (0) (j) (Or.inl ⟨rfl, rfl⟩) (Or.inr ⟨_, rfl, (by omega), rfl⟩) (by omega) (by omega)
 refine dr_take (i := 3) rfl rfl rfl (want_none rfl _) (by kernel_rfl) (fun _ _ => hl174 Try.underlying46 sz3 rfl rfl rfl) hX171.pins (dr_take (i := 5) rfl rfl rfl (want_none rfl _) (by kernel_rfl) (fun _ _ => r_move (v := (.int .i64 n)) rfl) hX171.pins (dr_take (i := 8) rfl rfl rfl (want_none rfl _) (by kernel_rfl) (fun _ _ => r_move (v := v) rfl) hX171.pins (dr_take (i := 9) rfl rfl rfl (want_none rfl _) (by kernel_rfl) (fun _ _ => r_move (v := (.int .i64 (j : Int))) rfl) hX171.pins ?_)))
 obtain ⟨u175, hr176, hl177⟩ := name_slice hv (lo := (some ((j : Int)))) (hi := none) (j) (xs.length) (Or.inr ⟨_, rfl, (by omega), rfl⟩) (Or.inl ⟨rfl, rfl⟩) (by omega) (by omega)
 refine dr_take (i := 10) rfl rfl rfl (want_none rfl _) (by kernel_rfl) (fun _ _ => hl177 Try.underlying46 sz3 rfl rfl rfl) hX171.pins (dr_two (i := 0) (j := 6) (by kernel_rfl) ?_ ?_)
 refine (drOp1 (i := 0) rfl rfl rfl (want_none rfl _) (o_build0 (E := eInt) (e := 3) Try.underlying46 sz3 hX171.pins (fun u178 w179 ho180 hp181 hl182 hk183 => ?_)))
 have hX184 := hX171.step hp181 hl182
 have ho185 : Own eInt 3 G w179 w.heap.size u178 ([]) := ho180.weaken hX171.size
 refine ⟨fun _ => hX184.pins, ?_⟩
 refine dr_two (i := 4) (j := 6) (by kernel_rfl) ?_ ?_
 refine (drOp1 (i := 4) rfl rfl rfl (want_none rfl _) (o_append (E := eInt) (v := u178) (u := u172) 8 Try.underlying46 ap3 (by decide) rfl rfl hX184.pins ho185 ((hr173.mono (Pin.le_refl _)).src hX184.pins (by decide)) (by first | omega | (rw [List.nil_append]; omega) | (rw [List.length_nil]; omega) | (rw [List.length_append]; omega) | (simp; done) | (simp; omega) | (simp only [List.length_append, List.length_cons, List.length_nil]; omega)) (by first | omega | (rw [List.nil_append]; omega) | (rw [List.length_nil]; omega) | (rw [List.length_append]; omega) | (simp; done) | (simp; omega) | (simp only [List.length_append, List.length_cons, List.length_nil]; omega)) (hX184.size) (fun u186 w187 ho188 hp189 hg190 hw191 => ?_)))
 have hX192 := hX184.write hp189 hg190 ((lo_own ho185))
 have hm193 : (([]) ++ ((xs.take j).drop 0)).length = ([]).length + ((xs.take j).drop 0).length := List.length_append
 refine ⟨fun _ => hX192.pins, ?_⟩
 refine dr_one (i := 6) (by kernel_rfl) (drOp1 (i := 6) rfl rfl rfl (want_none rfl _) (o_buildF (E := eInt) (e := 3) [(.int .i64 n)] [n] Try.underlying46 sz3 zr3 (by exact reps1 (by rfl)) (ones1 (by rfl)) rfl rfl rfl rfl (by decide) hX192.pins (fun u194 w195 ho196 hp197 hl198 hk199 => ?_)))
 have hX200 := hX192.step hp197 hl198
 have ho201 := ho188.below hl198
 have ho203 : Own eInt 3 G w195 w.heap.size u194 ([n]) := ho196.weaken hX192.size
 refine ⟨fun _ => hX200.pins, ?_⟩
 refine dr_one (i := 7) (by kernel_rfl) (drOp1 (i := 7) rfl rfl rfl (want_none rfl _) (o_append (E := eInt) (v := u186) (u := u194) 8 Try.underlying46 ap3 (by decide) rfl rfl hX200.pins ho201 ho203.src (by first | omega | (rw [List.nil_append]; omega) | (rw [List.length_nil]; omega) | (rw [List.length_append]; omega) | (simp; done) | (simp; omega) | (simp only [List.length_append, List.length_cons, List.length_nil]; omega)) (by first | omega | (rw [List.nil_append]; omega) | (rw [List.length_nil]; omega) | (rw [List.length_append]; omega) | (simp; done) | (simp; omega) | (simp only [List.length_append, List.length_cons, List.length_nil]; omega)) (hX200.size) (fun u204 w205 ho206 hp207 hg208 hw209 => ?_)))
 have hX210 := hX200.write hp207 hg208 ((lo_own ho201))
 have hm213 : ((([]) ++ ((xs.take j).drop 0)) ++ ([n])).length = (([]) ++ ((xs.take j).drop 0)).length + 1 := List.length_append
 refine ⟨fun _ => hX210.pins, ?_⟩
 refine dr_one (i := 11) (by kernel_rfl) (drOp1 (i := 11) rfl rfl rfl (want_none rfl _) (o_append (E := eInt) (v := u204) (u := u175) 8 Try.underlying46 ap3 (by decide) rfl rfl hX210.pins ho206 ((hr176.mono (Pin.le_refl _)).src hX210.pins (by decide)) (by first | omega | (rw [List.nil_append]; omega) | (rw [List.length_nil]; omega) | (rw [List.length_append]; omega) | (simp; done) | (simp; omega) | (simp only [List.length_append, List.length_cons, List.length_nil]; omega)) (by first | omega | (rw [List.nil_append]; omega) | (rw [List.length_nil]; omega) | (rw [List.length_append]; omega) | (simp; done) | (simp; omega) | (simp only [List.length_append, List.length_cons, List.length_nil]; omega)) (hX210.size) (fun u214 w215 ho216 hp217 hg218 hw219 => ?_)))
 have hX220 := hX210.write hp217 hg218 ((lo_own ho206))
 have hm221 : (((([]) ++ ((xs.take j).drop 0)) ++ ([n])) ++ ((xs.take xs.length).drop j)).length = ((([]) ++ ((xs.take j).drop 0)) ++ ([n])).length + ((xs.take xs.length).drop j).length := List.length_append
 refine ⟨fun _ => hX220.pins, ?_⟩
 exact dr_take (i := 12) rfl rfl rfl (want_none rfl _) (by kernel_rfl) (fun _ _ => r_assign (v := u214) rfl) hX220.pins (dr_end (by kernel_rfl) (cut_in ⟨_, u214, G, (pack1 (x := 4) rfl), hX220, (Pin.le_refl _), ho216⟩))
 refine (drOp1 (i := 6) rfl rfl rfl (want_none rfl _) (o_buildF (E := eInt) (e := 3) [(.int .i64 n)] [n] Try.underlying46 sz3 zr3 (by exact reps1 (by rfl)) (ones1 (by rfl)) rfl rfl rfl rfl (by decide) hX184.pins (fun u222 w223 ho224 hp225 hl226 hk227 => ?_)))
 have hX228 := hX184.step hp225 hl226
 have ho229 := ho185.below hl226
 have ha230 : Apart u222.ownBlock u178.ownBlock := new_ne_own hk227 ho185.lt
 have ho231 : Own eInt 3 G w223 w.heap.size u222 ([n]) := ho224.weaken hX184.size
 refine ⟨fun _ => hX228.pins, ?_⟩
 refine dr_one (i := 4) (by kernel_rfl) (drOp1 (i := 4) rfl rfl rfl (want_none rfl _) (o_append (E := eInt) (v := u178) (u := u172) 8 Try.underlying46 ap3 (by decide) rfl rfl hX228.pins ho229 ((hr173.mono (Pin.le_refl _)).src hX228.pins (by decide)) (by first | omega | (rw [List.nil_append]; omega) | (rw [List.length_nil]; omega) | (rw [List.length_append]; omega) | (simp; done) | (simp; omega) | (simp only [List.length_append, List.length_cons, List.length_nil]; omega)) (by first | omega | (rw [List.nil_append]; omega) | (rw [List.length_nil]; omega) | (rw [List.length_append]; omega) | (simp; done) | (simp; omega) | (simp only [List.length_append, List.length_cons, List.length_nil]; omega)) (hX228.size) (fun u232 w233 ho234 hp235 hg236 hw237 => ?_)))
 have hX238 := hX228.write hp235 hg236 ((lo_own ho229))
 have ho239 := ho231.keptA hg236 ha230
 have hm241 : (([]) ++ ((xs.take j).drop 0)).length = ([]).length + ((xs.take j).drop 0).length := List.length_append
 refine ⟨fun _ => hX238.pins, ?_⟩
 refine dr_one (i := 7) (by kernel_rfl) (drOp1 (i := 7) rfl rfl rfl (want_none rfl _) (o_append (E := eInt) (v := u232) (u := u222) 8 Try.underlying46 ap3 (by decide) rfl rfl hX238.pins ho234 ho239.src (by first | omega | (rw [List.nil_append]; omega) | (rw [List.length_nil]; omega) | (rw [List.length_append]; omega) | (simp; done) | (simp; omega) | (simp only [List.length_append, List.length_cons, List.length_nil]; omega)) (by first | omega | (rw [List.nil_append]; omega) | (rw [List.length_nil]; omega) | (rw [List.length_append]; omega) | (simp; done) | (simp; omega) | (simp only [List.length_append, List.length_cons, List.length_nil]; omega)) (hX238.size) (fun u242 w243 ho244 hp245 hg246 hw247 => ?_)))
 have hX248 := hX238.write hp245 hg246 ((lo_own ho234))
 have hm251 : ((([]) ++ ((xs.take j).drop 0)) ++ ([n])).length = (([]) ++ ((xs.take j).drop 0)).length + 1 := List.length_append
 refine ⟨fun _ => hX248.pins, ?_⟩
 refine dr_one (i := 11) (by kernel_rfl) (drOp1 (i := 11) rfl rfl rfl (want_none rfl _) (o_append (E := eInt) (v := u242) (u := u175) 8 Try.underlying46 ap3 (by decide) rfl rfl hX248.pins ho244 ((hr176.mono (Pin.le_refl _)).src hX248.pins (by decide)) (by first | omega | (rw [List.nil_append]; omega) | (rw [List.length_nil]; omega) | (rw [List.length_append]; omega) | (simp; done) | (simp; omega) | (simp only [List.length_append, List.length_cons, List.length_nil]; omega)) (by first | omega | (rw [List.nil_append]; omega) | (rw [List.length_nil]; omega) | (rw [List.length_append]; omega) | (simp; done) | (simp; omega) | (simp only [List.length_append, List.length_cons, List.length_nil]; omega)) (hX248.size) (fun u252 w253 ho254 hp255 hg256 hw257 => ?_)))
 have hX258 := hX248.write hp255 hg256 ((lo_own ho244))
 have hm259 : (((([]) ++ ((xs.take j).drop 0)) ++ ([n])) ++ ((xs.take xs.length).drop j)).length = ((([]) ++ ((xs.take j).drop 0)) ++ ([n])).length + ((xs.take xs.length).drop j).length := List.length_append
 refine ⟨fun _ => hX258.pins, ?_⟩
 exact dr_take (i := 12) rfl rfl rfl (want_none rfl _) (by kernel_rfl) (fun _ _ => r_assign (v := u252) rfl) hX258.pins (dr_end (by kernel_rfl) (cut_in ⟨_, u252, G, (pack1 (x := 4) rfl), hX258, (Pin.le_refl _), ho254⟩))
 refine (drOp1 (i := 6) rfl rfl rfl (want_none rfl _) (o_buildF (E := eInt) (e := 3) [(.int .i64 n)] [n] Try.underlying46 sz3 zr3 (by exact reps1 (by rfl)) (ones1 (by rfl)) rfl rfl rfl rfl (by decide) hX171.pins (fun u260 w261 ho262 hp263 hl264 hk265 => ?_)))
 have hX266 := hX171.step hp263 hl264
 have ho267 : Own eInt 3 G w261 w.heap.size u260 ([n]) := ho262.weaken hX171.size
 refine ⟨fun _ => hX266.pins, ?_⟩
 refine dr_one (i := 0) (by kernel_rfl) (drOp1 (i := 0) rfl rfl rfl (want_none rfl _) (o_build0 (E := eInt) (e := 3) Try.underlying46 sz3 hX266.pins (fun u268 w269 ho270 hp271 hl272 hk273 => ?_)))
 have hX274 := hX266.step hp271 hl272
 have ho275 := ho267.below hl272
 have ha276 : Apart u268.ownBlock u260.ownBlock := new_ne_own hk273 ho267.lt
 have ho277 : Own eInt 3 G w269 w.heap.size u268 ([]) := ho270.weaken hX266.size
 refine ⟨fun _ => hX274.pins, ?_⟩
 refine dr_one (i := 4) (by kernel_rfl) (drOp1 (i := 4) rfl rfl rfl (want_none rfl _) (o_append (E := eInt) (v := u268) (u := u172) 8 Try.underlying46 ap3 (by decide) rfl rfl hX274.pins ho277 ((hr173.mono (Pin.le_refl _)).src hX274.pins (by decide)) (by first | omega | (rw [List.nil_append]; omega) | (rw [List.length_nil]; omega) | (rw [List.length_append]; omega) | (simp; done) | (simp; omega) | (simp only [List.length_append, List.length_cons, List.length_nil]; omega)) (by first | omega | (rw [List.nil_append]; omega) | (rw [List.length_nil]; omega) | (rw [List.length_append]; omega) | (simp; done) | (simp; omega) | (simp only [List.length_append, List.length_cons, List.length_nil]; omega)) (hX274.size) (fun u278 w279 ho280 hp281 hg282 hw283 => ?_)))
 have hX284 := hX274.write hp281 hg282 ((lo_own ho277))
 have ho285 := ho275.keptA hg282 ha276.symm
 have hm287 : (([]) ++ ((xs.take j).drop 0)).length = ([]).length + ((xs.take j).drop 0).length := List.length_append
 refine ⟨fun _ => hX284.pins, ?_⟩
 refine dr_one (i := 7) (by kernel_rfl) (drOp1 (i := 7) rfl rfl rfl (want_none rfl _) (o_append (E := eInt) (v := u278) (u := u260) 8 Try.underlying46 ap3 (by decide) rfl rfl hX284.pins ho280 ho285.src (by first | omega | (rw [List.nil_append]; omega) | (rw [List.length_nil]; omega) | (rw [List.length_append]; omega) | (simp; done) | (simp; omega) | (simp only [List.length_append, List.length_cons, List.length_nil]; omega)) (by first | omega | (rw [List.nil_append]; omega) | (rw [List.length_nil]; omega) | (rw [List.length_append]; omega) | (simp; done) | (simp; omega) | (simp only [List.length_append, List.length_cons, List.length_nil]; omega)) (hX284.size) (fun u288 w289 ho290 hp291 hg292 hw293 => ?_)))
 have hX294 := hX284.write hp291 hg292 ((lo_own ho280))
 have hm297 : ((([]) ++ ((xs.take j).drop 0)) ++ ([n])).length = (([]) ++ ((xs.take j).drop 0)).length + 1 := List.length_append
 refine ⟨fun _ => hX294.pins, ?_⟩
 refine dr_one (i := 11) (by kernel_rfl) (drOp1 (i := 11) rfl rfl rfl (want_none rfl _) (o_append (E := eInt) (v := u288) (u := u175) 8 Try.underlying46 ap3 (by decide) rfl rfl hX294.pins ho290 ((hr176.mono (Pin.le_refl _)).src hX294.pins (by decide)) (by first | omega | (rw [List.nil_append]; omega) | (rw [List.length_nil]; omega) | (rw [List.length_append]; omega) | (simp; done) | (simp; omega) | (simp only [List.length_append, List.length_cons, List.length_nil]; omega)) (by first | omega | (rw [List.nil_append]; omega) | (rw [List.length_nil]; omega) | (rw [List.length_append]; omega) | (simp; done) | (simp; omega) | (simp only [List.length_append, List.length_cons, List.length_nil]; omega)) (hX294.size) (fun u298 w299 ho300 hp301 hg302 hw303 => ?_)))
 have hX304 := hX294.write hp301 hg302 ((lo_own ho290))
 have hm305 : (((([]) ++ ((xs.take j).drop 0)) ++ ([n])) ++ ((xs.take xs.length).drop j)).length = ((([]) ++ ((xs.take j).drop 0)) ++ ([n])).length + ((xs.take xs.length).drop j).length := List.length_append
 refine ⟨fun _ => hX304.pins, ?_⟩
 exact dr_take (i := 12) rfl rfl rfl (want_none rfl _) (by kernel_rfl) (fun _ _ => r_assign (v := u298) rfl) hX304.pins (dr_end (by kernel_rfl) (cut_in ⟨_, u298, G, (pack1 (x := 4) rfl), hX304, (Pin.le_refl _), ho300⟩))

theorem l1Same_spec {w : World} {G : Pin} {u v : Value} {xs ys : List Int} (hP : Pins G w) (hu : RSl eInt G u xs) (hv : RSl eInt G v ys) :
  Calls Try.prog 58 [u, v].toArray w fun e w' => e = .returned (.bool (decide (xs = ys))) ∧ Ext noS G w G w' := by
 refine s_enter (n := 26) Try.func58 Try.ntmps58 rfl rfl ?_
 have hX0 : Ext noS G w G w := Ext.refl hP
 have hm := hu.max
 refine s_seq (c_reg ?_)
 refine qd rfl rfl rfl (r_assign (v := (.bool false)) rfl) (qe (s_then (s_seq (s_seq (c_reg ?_)))))
 refine qd rfl rfl rfl (r_move (v := u) rfl) (qd rfl rfl rfl (run_len Try.underlying46 (v := u) rfl hu) (qd rfl rfl rfl (r_move (v := v) rfl) (qd rfl rfl rfl (run_len Try.underlying46 (v := v) rfl hv) (qd rfl rfl rfl (r_neq rfl rfl) (qe (s_then ?_))))))
 refine c_ifd (p := ((xs.length : Int) : Int) ≠ (ys.length : Int)) rfl rfl (fun h1 => ?_) (fun h1 => ?_)
 refine s_seq (c_reg ?_)
 refine qd rfl rfl rfl (r_assign (v := (.bool false)) rfl) (qe (s_then ?_))
 exact wp_ret (s_ret (c_ret1 (v := (.bool false)) rfl rfl rfl (⟨congrArg (fun z => Ending.returned (Value.bool z)) (decide_eq_false (fun e => h1 (by rw [e]))).symm, hX0⟩)))
 refine wp_skip (s_then (s_seq (s_seq (c_reg ?_))))
 refine qd rfl rfl rfl (r_assign (v := (.int .i64 0)) rfl) (qe (s_then ?_))
 refine s_blk (s_loop (fun (k : Nat) (en : Nat → Value) (W : World) => ∃ (env1 : Nat → Value) (j : Nat), en = (upd (upd (upd env1 0 u) 1 v) 5 (.int .i64 (j : Int))) ∧ k = xs.length - j ∧ Ext noS G w G W ∧ (j ≤ xs.length) ∧ (xs.length = ys.length) ∧ (∀ i, i < j → xs.getD i 0 = ys.getD i 0)) _ ⟨_, 0, (packS (x := 5) (packS (x := 1) (pack1 (x := 0) rfl) rfl) rfl), rfl, hX0, Nat.zero_le _, (by omega), (fun i hi => absurd hi (Nat.not_lt_zero i))⟩ ?_)
 rintro k2 _ w3 ⟨env1, j, rfl, hk4, hX5, hj, heq, hp⟩
 refine s_seq (s_seq (c_reg ?_))
 refine qd rfl rfl rfl (r_move (v := (.int .i64 (j : Int))) rfl) (qd rfl rfl rfl (r_move (v := u) rfl) (qd rfl rfl rfl (run_len Try.underlying46 (v := u) rfl hu) (qd rfl rfl rfl (r_lss rfl rfl) (qe (s_then ?_)))))
 refine c_ifd (p := ((j : Int) : Int) < (xs.length : Int)) rfl rfl (fun h6 => ?_) (fun h6 => ?_)
 refine wp_skip (s_then (s_seq ?_))
 refine s_blk (s_seq (c_draw (S := fun wz => Pins G wz) (last := 9) (by kernel_rfl) rfl ?_))
 have hl7 : Below w3.heap.size w3 w3.drew := (Below.refl _ _).drew
 have hp8 := hX5.pins.below hl7
 have hX9 := hX5.step hp8 hl7
 refine dr_take (i := 0) rfl rfl rfl (want_none rfl _) (by kernel_rfl) (fun _ _ => r_move (v := u) rfl) hX9.pins (dr_take (i := 1) rfl rfl rfl (want_none rfl _) (by kernel_rfl) (fun _ _ => r_move (v := (.int .i64 (j : Int))) rfl) hX9.pins (dr_take (i := 2) rfl rfl rfl (want_none rfl _) (by kernel_rfl) (fun _ _ => run_idx Try.underlying46 sz3 (v := u) rfl rfl hu (by omega) (by omega)) hX9.pins (dr_take (i := 3) rfl rfl rfl (want_none rfl _) (by kernel_rfl) (fun _ hS => run_load_int (r := xs.getD j 0) rfl ag3 (z := (j : Int)) rfl hu hS (by omega) (by omega)) hX9.pins (dr_take (i := 4) rfl rfl rfl (want_none rfl _) (by kernel_rfl) (fun _ _ => r_move (v := v) rfl) hX9.pins (dr_take (i := 5) rfl rfl rfl (want_none rfl _) (by kernel_rfl) (fun _ _ => r_move (v := (.int .i64 (j : Int))) rfl) hX9.pins (dr_take (i := 6) rfl rfl rfl (want_none rfl _) (by kernel_rfl) (fun _ _ => run_idx Try.underlying46 sz3 (v := v) rfl rfl hv (by omega) (by omega)) hX9.pins (dr_take (i := 7) rfl rfl rfl (want_none rfl _) (by kernel_rfl) (fun _ hS => run_load_int (r := ys.getD j 0) rfl ag3 (z := (j : Int)) rfl hv hS (by omega) (by omega)) hX9.pins (dr_take (i := 8) rfl rfl rfl (want_none rfl _) (by kernel_rfl) (fun _ _ => r_neq rfl rfl) hX9.pins (dr_end (by kernel_rfl) (s_then (c_ifd (p := (xs.getD j 0 : Int) ≠ (ys.getD j 0)) rfl rfl (fun h10 => ?_) (fun h10 => ?_))))))))))))
 refine s_seq (c_reg ?_)
 refine qd rfl rfl rfl (r_assign (v := (.bool false)) rfl) (qe (s_then ?_))
 exact wp_ret (s_ret (c_ret1 (v := (.bool false)) rfl rfl rfl (⟨congrArg (fun z => Ending.returned (Value.bool z)) (decide_eq_false (fun e => h10 (by rw [e]))).symm, hX9⟩)))
 refine wp_skip (s_blkN (s_then (c_reg ?_)))
 refine qd rfl rfl rfl (r_move (v := (.int .i64 (j : Int))) rfl) (qd rfl rfl rfl (r_add rfl rfl (by omega)) (qd rfl rfl rfl (r_assign (v := (.int .i64 ((j : Int) + 1))) rfl) (qe (s_lopN (⟨_, ?_, _, rfl, _, j + 1, (packS (x := 5) (packS (x := 1) (pack1 (x := 0) rfl) rfl) rfl), rfl, hX9, (by omega), heq, (eqstep hp h10)⟩)))))
 omega
 refine wp_exit (s_thenE (s_lopE (s_blkE (s_then (s_seq (c_reg ?_))))))
 refine qd rfl rfl rfl (r_assign (v := (.bool true)) rfl) (qe (s_then ?_))
 exact wp_ret (s_ret (c_ret1 (v := (.bool true)) rfl rfl rfl (⟨congrArg (fun z => Ending.returned (Value.bool z)) (decide_eq_true (eqdone heq (by omega) hp)).symm, hX5⟩)))

theorem l3At_spec {w : World} {G Gr : Pin} {u v : Value} {a xs : List Int} (hP : Pins G w) (hPr : Pins Gr w) (hu : RSl eInt Gr u a) (hv : RSl eInt G v xs) (hs : xs.length ≤ 1048576) (hk : ∀ i, i < xs.length → 0 ≤ xs.getD i 0 ∧ xs.getD i 0 < a.length) :
  Calls Try.prog 54 [u, v].toArray w fun e w' => ∃ (u : Value) (G' : Pin), e = .returned u ∧ Own eInt 3 G' w' w.heap.size u (atL a xs) ∧ Ext noS G w G' w' := by
 refine s_enter (n := 25) Try.func54 Try.ntmps54 rfl rfl ?_
 have hX0 : Ext noS G w G w := Ext.refl hP
 refine s_seq (c_reg ?_)
 refine qd rfl rfl rfl (r_assign (v := (.slice none 0 0)) rfl) (qe (s_then (s_seq (c_reg ?_))))
 refine q1 rfl rfl rfl (o_build0 (E := eInt) (e := 3) Try.underlying46 sz3 hX0.pins (fun u1 w2 ho3 hp4 hl5 hk6 => ?_))
 have hX7 := hX0.step hp4 hl5
 have ho8 : Own eInt 3 G w2 w.heap.size u1 ([]) := ho3.weaken hX0.size
 refine qd rfl rfl rfl (r_assign (v := u1) rfl) (qe (s_then (s_seq (s_seq (c_reg ?_)))))
 refine qd rfl rfl rfl (r_assign (v := (.int .i64 0)) rfl) (qe (s_then ?_))
 refine s_blk (s_loop (fun (k : Nat) (en : Nat → Value) (W : World) => ∃ (env1 : Nat → Value) (j : Nat) (o : Value) (os : List Int), en = (upd (upd (upd (upd (upd env1 0 u) 1 v) 4 (.slice none 0 0)) 5 o) 6 (.int .i64 (j : Int))) ∧ k = xs.length - j ∧ Ext noS G w G W ∧ (j ≤ xs.length) ∧ (os = atL a (xs.take j)) ∧ (os.length = j) ∧ (Own eInt 3 G W w.heap.size o (os))) _ ⟨_, 0, u1, [], (packS (x := 6) (packS (x := 5) (packS (x := 4) (packS (x := 1) (pack1 (x := 0) rfl) rfl) rfl) rfl) rfl), rfl, hX7, Nat.zero_le _, rfl, rfl, ho8⟩ ?_)
 rintro k9 _ w10 ⟨env1, j, o, os, rfl, hk11, hX12, hj, hr, hol, hw13⟩
 refine s_seq (s_seq (c_reg ?_))
 refine qd rfl rfl rfl (r_move (v := (.int .i64 (j : Int))) rfl) (qd rfl rfl rfl (r_move (v := v) rfl) (qd rfl rfl rfl (run_len Try.underlying46 (v := v) rfl hv) (qd rfl rfl rfl (r_lss rfl rfl) (qe (s_then ?_)))))
 refine c_ifd (p := ((j : Int) : Int) < (xs.length : Int)) rfl rfl (fun h14 => ?_) (fun h14 => ?_)
 have hkj := hk j (by omega)
 refine wp_skip (s_then (s_seq ?_))
 refine s_blk (c_reg (qd rfl rfl rfl (r_move (v := o) rfl) (qd rfl rfl rfl (r_move (v := u) rfl) (qd rfl rfl rfl (r_move (v := v) rfl) (qd rfl rfl rfl (r_move (v := (.int .i64 (j : Int))) rfl) (qd rfl rfl rfl (run_idx Try.underlying46 sz3 (v := v) rfl rfl hv (by omega) (by omega)) (qd rfl rfl rfl (run_load_int (r := xs.getD j 0) rfl ag3 (z := (j : Int)) rfl hv hX12.pins (by omega) (by omega)) (qd rfl rfl rfl (run_idx Try.underlying46 sz3 (v := u) rfl rfl hu (by omega) (by omega)) (qd rfl rfl rfl (run_load_int (r := a.getD (xs.getD j 0).toNat 0) rfl ag3 (z := (xs.getD j 0)) rfl hu (hPr.ext0 hX12) (by omega) (by omega)) (q1 rfl rfl rfl (o_buildF (E := eInt) (e := 3) [(.int .i64 (a.getD (xs.getD j 0).toNat 0))] [a.getD (xs.getD j 0).toNat 0] Try.underlying46 sz3 zr3 (by exact reps1 (by rfl)) (ones1 (by rfl)) rfl rfl rfl rfl (by decide) hX12.pins (fun u15 w16 ho17 hp18 hl19 hk20 => ?_))))))))))))
 have hX21 := hX12.step hp18 hl19
 have ho22 := hw13.below hl19
 have ho24 : Own eInt 3 G w16 w.heap.size u15 ([a.getD (xs.getD j 0).toNat 0]) := ho17.weaken hX12.size
 refine q1 rfl rfl rfl (o_append (E := eInt) (v := o) (u := u15) 8 Try.underlying46 ap3 (by decide) rfl rfl hX21.pins ho22 ho24.src (by first | omega | (rw [List.nil_append]; omega) | (rw [List.length_nil]; omega) | (rw [List.length_append]; omega) | (simp; done) | (simp; omega) | (simp only [List.length_append, List.length_cons, List.length_nil]; omega)) (by first | omega | (rw [List.nil_append]; omega) | (rw [List.length_nil]; omega) | (rw [List.length_append]; omega) | (simp; done) | (simp; omega) | (simp only [List.length_append, List.length_cons, List.length_nil]; omega)) (hX21.size) (fun u25 w26 ho27 hp28 hg29 hw30 => ?_))
 have hX31 := hX21.write hp28 hg29 ((lo_own ho22))
 have hm34 : (os ++ ([a.getD (xs.getD j 0).toNat 0])).length = os.length + 1 := List.length_append
 refine qd rfl rfl rfl (r_assign (v := u25) rfl) (qe (s_blkN (s_then (c_reg ?_))))
 refine qd rfl rfl rfl (r_move (v := (.int .i64 (j : Int))) rfl) (qd rfl rfl rfl (r_add rfl rfl (by omega)) (qd rfl rfl rfl (r_assign (v := (.int .i64 ((j : Int) + 1))) rfl) (qe (s_lopN (⟨_, ?_, _, rfl, _, j + 1, u25, os ++ [a.getD (xs.getD j 0).toNat 0], (packS (x := 6) (packS (x := 5) (packS (x := 4) (packS (x := 1) (pack1 (x := 0) rfl) rfl) rfl) rfl) rfl), rfl, hX31, (by omega), (by rw [hr, at_next (by omega)]), (by rw [List.length_append, hol]; rfl), ho27⟩)))))
 omega
 refine wp_exit (s_thenE (s_lopE (s_blkE (s_then (s_seq (c_reg ?_))))))
 refine qd rfl rfl rfl (r_move (v := o) rfl) (qd rfl rfl rfl (r_assign (v := o) rfl) (qe (s_then ?_)))
 exact wp_ret (s_ret (c_ret1 (v := o) rfl rfl rfl (⟨_, _, rfl, (by rw [take_all (by omega)] at hr; rw [← hr]; exact hw13), hX12⟩)))

theorem l3Sorted_spec {w : World} {G : Pin} {v : Value} {xs : List Int} (hP : Pins G w) (hv : RSl eInt G v xs) (hs : xs.length ≤ 1048576) :
  Calls Try.prog 53 [v].toArray w fun e w' => ∃ (u : Value) (G' : Pin), e = .returned u ∧ RSl eInt G' u (sortL xs) ∧ Ext noS G w G' w' := by
 refine s_enter (n := 19) Try.func53 Try.ntmps53 rfl rfl ?_
 have hX0 : Ext noS G w G w := Ext.refl hP
 refine s_seq (c_reg ?_)
 refine qd rfl rfl rfl (r_assign (v := (.slice none 0 0)) rfl) (qe (s_then (s_seq (c_reg ?_))))
 refine q1 rfl rfl rfl (o_build0 (E := eInt) (e := 3) Try.underlying46 sz3 hX0.pins (fun u1 w2 ho3 hp4 hl5 hk6 => ?_))
 have hX7 := hX0.step hp4 hl5
 have ho8 : Own eInt 3 G w2 w.heap.size u1 ([]) := ho3.weaken hX0.size
 refine qd rfl rfl rfl (r_assign (v := u1) rfl) (qe (s_then (s_seq (s_seq (c_reg ?_)))))
 refine qd rfl rfl rfl (r_assign (v := (.int .i64 0)) rfl) (qe (s_then ?_))
 refine s_blk ?_
 obtain ⟨G13, hle16, hX15, hr14, hf17⟩ := ho8.sealed hX7
 refine s_loop (fun (k : Nat) (en : Nat → Value) (W : World) => ∃ (env1 : Nat → Value) (j : Nat) (o : Value) (os : List Int) (GL1 : Pin), en = (upd (upd (upd (upd env1 0 v) 2 (.slice none 0 0)) 3 o) 4 (.int .i64 (j : Int))) ∧ k = xs.length - j ∧ Ext noS G w GL1 W ∧ Pin.le G13 GL1 ∧ (j ≤ xs.length) ∧ (os = sortL (xs.take j)) ∧ (os.length ≤ j) ∧ (RSl eInt GL1 o (os))) _ ⟨_, 0, u1, [], G13, (packS (x := 4) (packS (x := 3) (packS (x := 2) (pack1 (x := 0) rfl) rfl) rfl) rfl), rfl, hX15, Pin.le_refl _, Nat.zero_le _, rfl, Nat.le_refl 0, hr14⟩ ?_
 rintro k9 _ w10 ⟨env1, j, o, os, GL1, rfl, hk11, hX12, hlek9, hj, hr, hol, hr18⟩
 refine s_seq (s_seq (c_reg ?_))
 refine qd rfl rfl rfl (r_move (v := (.int .i64 (j : Int))) rfl) (qd rfl rfl rfl (r_move (v := v) rfl) (qd rfl rfl rfl (run_len Try.underlying46 (v := v) rfl hv) (qd rfl rfl rfl (r_lss rfl rfl) (qe (s_then ?_)))))
 refine c_ifd (p := ((j : Int) : Int) < (xs.length : Int)) rfl rfl (fun h19 => ?_) (fun h19 => ?_)
 refine wp_skip (s_then (s_seq ?_))
 refine s_blk (c_reg (qd rfl rfl rfl (r_move (v := o) rfl) (qd rfl rfl rfl (r_move (v := v) rfl) (qd rfl rfl rfl (r_move (v := (.int .i64 (j : Int))) rfl) (qd rfl rfl rfl (run_idx Try.underlying46 sz3 (v := v) rfl rfl hv (by omega) (by omega)) (qd rfl rfl rfl (run_load_int (r := xs.getD j 0) rfl ag3 (z := (j : Int)) rfl hv (Pins.of_le hX12.pins (Pin.le_trans hle16 hlek9)) (by omega) (by omega)) (q1 rfl rfl rfl (o_call (vs := [o, (.int .i64 (xs.getD j 0))]) Try.func56 nm56 rfl rfl rfl ?_))))))))
 refine Calls.mono (l1Put_spec hX12.pins hr18 (by omega)) ?_
 rintro _ w22 ⟨u20, G21, rfl, hr23, hx24⟩
 refine ⟨_, rfl, ?_⟩
 have hX25 := hX12.tr hx24
 refine qd rfl rfl rfl (r_assign (v := u20) rfl) (qe (s_blkN (s_then (c_reg ?_))))
 refine qd rfl rfl rfl (r_move (v := (.int .i64 (j : Int))) rfl) (qd rfl rfl rfl (r_add rfl rfl (by omega)) (qd rfl rfl rfl (r_assign (v := (.int .i64 ((j : Int) + 1))) rfl) (qe (s_lopN (⟨_, ?_, _, rfl, _, j + 1, u20, putL os (xs.getD j 0), G21, (packS (x := 4) (packS (x := 3) (packS (x := 2) (pack1 (x := 0) rfl) rfl) rfl) rfl), rfl, hX25, (Pin.le_trans hlek9 hx24.le), (by omega), (by rw [hr, sort_next (by omega)]), (Nat.le_trans putL_length (by omega)), hr23⟩)))))
 omega
 refine wp_exit (s_thenE (s_lopE (s_blkE (s_then (s_seq (c_reg ?_))))))
 refine qd rfl rfl rfl (r_move (v := o) rfl) (qd rfl rfl rfl (r_assign (v := o) rfl) (qe (s_then ?_)))
 exact wp_ret (s_ret (c_ret1 (v := o) rfl rfl rfl (⟨_, _, rfl, (by rw [take_all (by omega)] at hr; rw [← hr]; exact hr18), hX12⟩)))

end C1
end Go.Proofs.Ytdongckiecjbaaa

set_option maxRecDepth 20000
set_option maxHeartbeats 2000000
namespace Go.Proofs.Ytdongckiecjbaaa
namespace D1
open Go.RowKit Go.GL Go.Proofs
open C1











theorem pl48 : (Try.prog.underlying 48).bind (placesD Try.prog) = some [(0, 1), (1, 1)] := by kernel_rfl






theorem l3List_spec {w : World} {G : Pin} {u v : Value} {xs ys : List Int} (hP : Pins G w) (hu : RSl eInt G u xs) (hv : RSl eInt G v ys) :
  Calls Try.prog 61 [u, v].toArray w fun e w' => e = .returned (.int .i64 (cmpL xs ys)) ∧ Ext noS G w G w' := by
 refine s_enter (n := 48) Try.func61 Try.ntmps61 rfl rfl ?_
 have hX0 : Ext noS G w G w := Ext.refl hP
 have hm := hu.max
 refine s_seq (c_reg ?_)
 refine qd rfl rfl rfl (r_assign (v := (.int .i64 0)) rfl) (qe (s_then (s_seq (s_seq (c_reg ?_)))))
 refine qd rfl rfl rfl (r_assign (v := (.int .i64 0)) rfl) (qe (s_then ?_))
 refine s_blk (s_loop (fun (k : Nat) (en : Nat → Value) (W : World) => ∃ (env1 : Nat → Value) (j : Nat), en = (upd (upd (upd env1 0 u) 1 v) 5 (.int .i64 (j : Int))) ∧ k = xs.length - j ∧ Ext noS G w G W ∧ (j ≤ xs.length ∧ j ≤ ys.length) ∧ (cmpL xs ys = cmpL (xs.drop j) (ys.drop j))) _ ⟨_, 0, (packS (x := 5) (packS (x := 1) (pack1 (x := 0) rfl) rfl) rfl), rfl, hX0, ⟨Nat.zero_le _, Nat.zero_le _⟩, rfl⟩ ?_)
 rintro k1 _ w2 ⟨env1, j, rfl, hk3, hX4, hj, hr⟩
 refine s_seq (s_seq (c_reg ?_))
 refine qd rfl rfl rfl (r_move (v := (.int .i64 (j : Int))) rfl) (qd rfl rfl rfl (r_move (v := u) rfl) (qd rfl rfl rfl (run_len Try.underlying46 (v := u) rfl hu) (qd rfl rfl rfl (r_lss rfl rfl) (qd rfl rfl rfl (r_move (v := (.bool (decide (((j : Int) : Int) < (xs.length : Int))))) rfl) (qbd (p := ((j : Int) : Int) < (xs.length : Int)) (t := 10) rfl (fun h5 => ?_) (fun h5 => ?_))))))
 refine qdg rfl rfl rfl rfl rfl rfl (r_move (v := (.int .i64 (j : Int))) rfl) (qdg rfl rfl rfl rfl rfl rfl (r_move (v := v) rfl) (qdg rfl rfl rfl rfl rfl rfl (run_len Try.underlying46 (v := v) rfl hv) (qdg rfl rfl rfl rfl rfl rfl (r_lss rfl rfl) (qd rfl rfl rfl (r_pickT (v := (.bool (decide (((j : Int) : Int) < (ys.length : Int))))) rfl rfl) (qe (s_then ?_))))))
 refine c_ifd (p := ((j : Int) : Int) < (ys.length : Int)) rfl rfl (fun h6 => ?_) (fun h6 => ?_)
 refine wp_skip (s_then (s_seq ?_))
 refine s_blk (s_seq (c_draw (S := fun wz => Pins G wz) (last := 9) (by kernel_rfl) rfl ?_))
 have hl7 : Below w2.heap.size w2 w2.drew := (Below.refl _ _).drew
 have hp8 := hX4.pins.below hl7
 have hX9 := hX4.step hp8 hl7
 refine dr_take (i := 0) rfl rfl rfl (want_none rfl _) (by kernel_rfl) (fun _ _ => r_move (v := u) rfl) hX9.pins (dr_take (i := 1) rfl rfl rfl (want_none rfl _) (by kernel_rfl) (fun _ _ => r_move (v := (.int .i64 (j : Int))) rfl) hX9.pins (dr_take (i := 2) rfl rfl rfl (want_none rfl _) (by kernel_rfl) (fun _ _ => run_idx Try.underlying46 sz3 (v := u) rfl rfl hu (by omega) (by omega)) hX9.pins (dr_take (i := 3) rfl rfl rfl (want_none rfl _) (by kernel_rfl) (fun _ hS => run_load_int (r := xs.getD j 0) rfl ag3 (z := (j : Int)) rfl hu hS (by omega) (by omega)) hX9.pins (dr_take (i := 4) rfl rfl rfl (want_none rfl _) (by kernel_rfl) (fun _ _ => r_move (v := v) rfl) hX9.pins (dr_take (i := 5) rfl rfl rfl (want_none rfl _) (by kernel_rfl) (fun _ _ => r_move (v := (.int .i64 (j : Int))) rfl) hX9.pins (dr_take (i := 6) rfl rfl rfl (want_none rfl _) (by kernel_rfl) (fun _ _ => run_idx Try.underlying46 sz3 (v := v) rfl rfl hv (by omega) (by omega)) hX9.pins (dr_take (i := 7) rfl rfl rfl (want_none rfl _) (by kernel_rfl) (fun _ hS => run_load_int (r := ys.getD j 0) rfl ag3 (z := (j : Int)) rfl hv hS (by omega) (by omega)) hX9.pins (dr_take (i := 8) rfl rfl rfl (want_none rfl _) (by kernel_rfl) (fun _ _ => r_neq rfl rfl) hX9.pins (dr_end (by kernel_rfl) (s_then (c_ifd (p := (xs.getD j 0 : Int) ≠ (ys.getD j 0)) rfl rfl (fun h10 => ?_) (fun h10 => ?_))))))))))))
 refine s_seq (s_seq ?_)
 refine c_draw (S := fun wz => Pins G wz) (last := 9) (by kernel_rfl) rfl ?_
 have hl11 : Below w2.drew.heap.size w2.drew w2.drew.drew := (Below.refl _ _).drew
 have hp12 := hX9.pins.below hl11
 have hX13 := hX9.step hp12 hl11
 refine dr_take (i := 0) rfl rfl rfl (want_none rfl _) (by kernel_rfl) (fun _ _ => r_move (v := u) rfl) hX13.pins (dr_take (i := 1) rfl rfl rfl (want_none rfl _) (by kernel_rfl) (fun _ _ => r_move (v := (.int .i64 (j : Int))) rfl) hX13.pins (dr_take (i := 2) rfl rfl rfl (want_none rfl _) (by kernel_rfl) (fun _ _ => run_idx Try.underlying46 sz3 (v := u) rfl rfl hu (by omega) (by omega)) hX13.pins (dr_take (i := 3) rfl rfl rfl (want_none rfl _) (by kernel_rfl) (fun _ hS => run_load_int (r := xs.getD j 0) rfl ag3 (z := (j : Int)) rfl hu hS (by omega) (by omega)) hX13.pins (dr_take (i := 4) rfl rfl rfl (want_none rfl _) (by kernel_rfl) (fun _ _ => r_move (v := v) rfl) hX13.pins (dr_take (i := 5) rfl rfl rfl (want_none rfl _) (by kernel_rfl) (fun _ _ => r_move (v := (.int .i64 (j : Int))) rfl) hX13.pins (dr_take (i := 6) rfl rfl rfl (want_none rfl _) (by kernel_rfl) (fun _ _ => run_idx Try.underlying46 sz3 (v := v) rfl rfl hv (by omega) (by omega)) hX13.pins (dr_take (i := 7) rfl rfl rfl (want_none rfl _) (by kernel_rfl) (fun _ hS => run_load_int (r := ys.getD j 0) rfl ag3 (z := (j : Int)) rfl hv hS (by omega) (by omega)) hX13.pins (dr_take (i := 8) rfl rfl rfl (want_none rfl _) (by kernel_rfl) (fun _ _ => r_lss rfl rfl) hX13.pins (dr_end (by kernel_rfl) (s_then (c_ifd (p := (xs.getD j 0 : Int) < (ys.getD j 0)) rfl rfl (fun h14 => ?_) (fun h14 => ?_))))))))))))
 refine s_seq (c_reg ?_)
 refine qd rfl rfl rfl (r_assign (v := (.int .i64 (-1))) rfl) (qe (s_then ?_))
 exact wp_ret (s_ret (c_ret1 (v := (.int .i64 (-1))) rfl rfl rfl (⟨congrArg (fun z => Ending.returned (Value.int .i64 z)) ((hr.trans ((cmpL_ne (by omega) (by omega) (by unfold cmpI; split <;> omega)).trans (by unfold cmpI; rw [if_pos h14]))).symm), hX13⟩)))
 refine wp_skip (s_then (s_seq (c_reg ?_)))
 refine qd rfl rfl rfl (r_assign (v := (.int .i64 1)) rfl) (qe (s_then ?_))
 exact wp_ret (s_ret (c_ret1 (v := (.int .i64 1)) rfl rfl rfl (⟨congrArg (fun z => Ending.returned (Value.int .i64 z)) ((hr.trans ((cmpL_ne (by omega) (by omega) (by unfold cmpI; split <;> omega)).trans (by unfold cmpI; rw [if_neg h14, if_pos (by omega)]))).symm), hX13⟩)))
 refine wp_skip (s_blkN (s_then (c_reg ?_)))
 refine qd rfl rfl rfl (r_move (v := (.int .i64 (j : Int))) rfl) (qd rfl rfl rfl (r_add rfl rfl (by omega)) (qd rfl rfl rfl (r_assign (v := (.int .i64 ((j : Int) + 1))) rfl) (qe (s_lopN (⟨_, ?_, _, rfl, _, j + 1, (packS (x := 5) (packS (x := 1) (pack1 (x := 0) rfl) rfl) rfl), rfl, hX9, (by omega), (hr.trans (cmpL_eq (by omega) (by omega) (by unfold cmpI; rw [if_neg (by omega), if_neg (by omega)]; omega)))⟩)))))
 omega
 refine wp_exit (s_thenE (s_lopE (s_blkE (s_then (s_seq ?_)))))
 refine s_blk (s_seq (c_reg ?_))
 refine qd rfl rfl rfl (r_move (v := u) rfl) (qd rfl rfl rfl (run_len Try.underlying46 (v := u) rfl hu) (qd rfl rfl rfl (r_move (v := v) rfl) (qd rfl rfl rfl (run_len Try.underlying46 (v := v) rfl hv) (qd rfl rfl rfl (r_lss rfl rfl) (qd rfl rfl rfl (r_assign (v := (.bool (decide (((xs.length : Int) : Int) < (ys.length : Int))))) rfl) (qe (s_then ?_)))))))
 refine c_ifd (p := ((xs.length : Int) : Int) < (ys.length : Int)) rfl rfl (fun h15 => ?_) (fun h15 => ?_)
 refine s_seq (c_reg ?_)
 refine qd rfl rfl rfl (r_assign (v := (.int .i64 (-1))) rfl) (qe (s_then ?_))
 exact wp_ret (s_ret (c_ret1 (v := (.int .i64 (-1))) rfl rfl rfl (⟨congrArg (fun z => Ending.returned (Value.int .i64 z)) ((hr.trans (cmpL_less (by omega) (by omega))).symm), hX4⟩)))
 refine s_seq (c_reg ?_)
 refine qd rfl rfl rfl (r_move (v := u) rfl) (qd rfl rfl rfl (run_len Try.underlying46 (v := u) rfl hu) (qd rfl rfl rfl (r_move (v := v) rfl) (qd rfl rfl rfl (run_len Try.underlying46 (v := v) rfl hv) (qd rfl rfl rfl (r_gtr rfl rfl) (qd rfl rfl rfl (r_assign (v := (.bool (decide (((ys.length : Int) : Int) < (xs.length : Int))))) rfl) (qe (s_then ?_)))))))
 refine c_ifd (p := ((ys.length : Int) : Int) < (xs.length : Int)) rfl rfl (fun h16 => ?_) (fun h16 => ?_)
 refine s_seq (c_reg ?_)
 refine qd rfl rfl rfl (r_assign (v := (.int .i64 1)) rfl) (qe (s_then ?_))
 exact wp_ret (s_ret (c_ret1 (v := (.int .i64 1)) rfl rfl rfl (⟨congrArg (fun z => Ending.returned (Value.int .i64 z)) ((hr.trans (cmpL_more (by omega) (by omega))).symm), hX4⟩)))
 refine wp_skip (s_blkN (s_then (s_seq (c_reg ?_))))
 refine qd rfl rfl rfl (r_assign (v := (.int .i64 0)) rfl) (qe (s_then ?_))
 exact wp_ret (s_ret (c_ret1 (v := (.int .i64 0)) rfl rfl rfl (⟨congrArg (fun z => Ending.returned (Value.int .i64 z)) ((hr.trans (cmpL_same (by omega) (by omega))).symm), hX4⟩)))
 refine qs rfl rfl rfl rfl rfl rfl (qs rfl rfl rfl rfl rfl rfl (qs rfl rfl rfl rfl rfl rfl (qs rfl rfl rfl rfl rfl rfl (qd rfl rfl rfl (r_pickF (v := (.bool false)) rfl rfl) (qe (s_then ?_))))))
 refine c_ifF rfl rfl (wp_exit (s_thenE (s_lopE (s_blkE (s_then (s_seq ?_))))))
 refine s_blk (s_seq (c_reg ?_))
 refine qd rfl rfl rfl (r_move (v := u) rfl) (qd rfl rfl rfl (run_len Try.underlying46 (v := u) rfl hu) (qd rfl rfl rfl (r_move (v := v) rfl) (qd rfl rfl rfl (run_len Try.underlying46 (v := v) rfl hv) (qd rfl rfl rfl (r_lss rfl rfl) (qd rfl rfl rfl (r_assign (v := (.bool (decide (((xs.length : Int) : Int) < (ys.length : Int))))) rfl) (qe (s_then ?_)))))))
 refine c_ifd (p := ((xs.length : Int) : Int) < (ys.length : Int)) rfl rfl (fun h17 => ?_) (fun h17 => ?_)
 refine s_seq (c_reg ?_)
 refine qd rfl rfl rfl (r_assign (v := (.int .i64 (-1))) rfl) (qe (s_then ?_))
 exact wp_ret (s_ret (c_ret1 (v := (.int .i64 (-1))) rfl rfl rfl (⟨congrArg (fun z => Ending.returned (Value.int .i64 z)) ((hr.trans (cmpL_less (by omega) (by omega))).symm), hX4⟩)))
 refine s_seq (c_reg ?_)
 refine qd rfl rfl rfl (r_move (v := u) rfl) (qd rfl rfl rfl (run_len Try.underlying46 (v := u) rfl hu) (qd rfl rfl rfl (r_move (v := v) rfl) (qd rfl rfl rfl (run_len Try.underlying46 (v := v) rfl hv) (qd rfl rfl rfl (r_gtr rfl rfl) (qd rfl rfl rfl (r_assign (v := (.bool (decide (((ys.length : Int) : Int) < (xs.length : Int))))) rfl) (qe (s_then ?_)))))))
 refine c_ifd (p := ((ys.length : Int) : Int) < (xs.length : Int)) rfl rfl (fun h18 => ?_) (fun h18 => ?_)
 refine s_seq (c_reg ?_)
 refine qd rfl rfl rfl (r_assign (v := (.int .i64 1)) rfl) (qe (s_then ?_))
 exact wp_ret (s_ret (c_ret1 (v := (.int .i64 1)) rfl rfl rfl (⟨congrArg (fun z => Ending.returned (Value.int .i64 z)) ((hr.trans (cmpL_more (by omega) (by omega))).symm), hX4⟩)))
 refine wp_skip (s_blkN (s_then (s_seq (c_reg ?_))))
 refine qd rfl rfl rfl (r_assign (v := (.int .i64 0)) rfl) (qe (s_then ?_))
 exact wp_ret (s_ret (c_ret1 (v := (.int .i64 0)) rfl rfl rfl (⟨congrArg (fun z => Ending.returned (Value.int .i64 z)) ((hr.trans (cmpL_same (by omega) (by omega))).symm), hX4⟩)))

theorem l3NodeAhead_spec {w : World} {G : Pin} {al ar bl br : Value} {a b : Nd} (hP : Pins G w) (hal : RSl eInt G al a.l) (har : RSl eInt G ar a.r) (hbl : RSl eInt G bl b.l) (hbr : RSl eInt G br b.r) :
  Calls Try.prog 55 [(.agg [al, ar].toArray), (.agg [bl, br].toArray)].toArray w fun e w' => ∃ G', e = .returned (.bool (decide (aheadI a b < 0))) ∧ Ext noS G w G' w' := by
 refine s_enter (n := 21) Try.func55 Try.ntmps55 rfl rfl ?_
 have hX0 : Ext noS G w G w := Ext.refl hP
 refine s_seq (c_reg ?_)
 refine q1 rfl rfl rfl (o_box [al, ar] (v := (.agg [al, ar].toArray)) rfl rfl hX0.pins (fun b1 w2 hk3 hb4 hp5 hl6 => ?_))
 have hX7 := hX0.step hp5 hl6
 have hlo8 : w.heap.size ≤ b1 := by have := hX0.size; omega
 obtain ⟨G9, hle10, hX11, hbp12, hf13⟩ := hb4.shut hX7 hlo8
 refine q1 rfl rfl rfl (o_box [bl, br] (v := (.agg [bl, br].toArray)) rfl rfl hX11.pins (fun b14 w15 hk16 hb17 hp18 hl19 => ?_))
 have hX20 := hX11.step hp18 hl19
 have hlo21 : w.heap.size ≤ b14 := by have := hX11.size; omega
 obtain ⟨G22, hle23, hX24, hbp25, hf26⟩ := hb17.shut hX20 hlo21
 refine qd rfl rfl rfl (r_assign (v := (.bool false)) rfl) (qe (s_then (s_seq (s_seq (c_reg ?_)))))
 refine qd rfl rfl rfl (r_fldp (k := 0) rfl Try.underlying48 rfl nz46 rfl) (qd rfl rfl rfl (r_ldp1 (u := al) ag46 rfl ((Pins.of_le hX24.pins hle23) _ _ _ (hbp12 0 _ rfl))) (qd rfl rfl rfl (r_fldp (k := 0) rfl Try.underlying48 rfl nz46 rfl) (qd rfl rfl rfl (r_ldp1 (u := bl) ag46 rfl (hX24.pins _ _ _ (hbp25 0 _ rfl))) (q1 rfl rfl rfl (o_call (vs := [al, bl]) Try.func61 nm61 rfl rfl rfl ?_)))))
 refine Calls.mono (l3List_spec hX24.pins (hal.mono (Pin.le_trans hle10 hle23)) (hbl.mono (Pin.le_trans hle10 hle23))) ?_
 rintro _ w27 ⟨rfl, hx28⟩
 refine ⟨_, rfl, ?_⟩
 have hX29 := hX24.step hx28.pins hx28.below
 refine qd rfl rfl rfl (r_assign (v := (.int .i64 (cmpL a.l b.l))) rfl) (qe (s_then (s_seq (c_reg ?_))))
 refine qd rfl rfl rfl (r_move (v := (.int .i64 (cmpL a.l b.l))) rfl) (qd rfl rfl rfl (r_neq rfl rfl) (qe (s_then ?_)))
 refine c_ifd (p := (cmpL a.l b.l : Int) ≠ 0) rfl rfl (fun h30 => ?_) (fun h30 => ?_)
 refine s_seq (c_reg ?_)
 refine qd rfl rfl rfl (r_move (v := (.int .i64 (cmpL a.l b.l))) rfl) (qd rfl rfl rfl (r_lss rfl rfl) (qd rfl rfl rfl (r_assign (v := (.bool (decide ((cmpL a.l b.l : Int) < 0)))) rfl) (qe (s_then ?_))))
 exact wp_ret (s_ret (c_ret1 (v := (.bool (decide ((cmpL a.l b.l : Int) < 0)))) rfl rfl rfl (⟨_, congrArg (fun z => Ending.returned (Value.bool z)) (by rw [ahead_left h30]), hX29⟩)))
 refine wp_skip (s_then (s_seq (c_reg ?_)))
 refine qd rfl rfl rfl (r_fldp (k := 1) rfl Try.underlying48 rfl nz46 rfl) (qd rfl rfl rfl (r_ldp1 (u := ar) ag46 rfl ((Pins.of_le hX29.pins hle23) _ _ _ (hbp12 1 _ rfl))) (qd rfl rfl rfl (r_fldp (k := 1) rfl Try.underlying48 rfl nz46 rfl) (qd rfl rfl rfl (r_ldp1 (u := br) ag46 rfl (hX29.pins _ _ _ (hbp25 1 _ rfl))) (q1 rfl rfl rfl (o_call (vs := [ar, br]) Try.func61 nm61 rfl rfl rfl ?_)))))
 refine Calls.mono (l3List_spec hX29.pins (har.mono (Pin.le_trans hle10 hle23)) (hbr.mono (Pin.le_trans hle10 hle23))) ?_
 rintro _ w31 ⟨rfl, hx32⟩
 refine ⟨_, rfl, ?_⟩
 have hX33 := hX29.step hx32.pins hx32.below
 refine qd rfl rfl rfl (r_lss rfl rfl) (qd rfl rfl rfl (r_assign (v := (.bool (decide ((cmpL a.r b.r : Int) < 0)))) rfl) (qe (s_then ?_)))
 exact wp_ret (s_ret (c_ret1 (v := (.bool (decide ((cmpL a.r b.r : Int) < 0)))) rfl rfl rfl (⟨_, congrArg (fun z => Ending.returned (Value.bool z)) (by rw [ahead_right (by omega)]), hX33⟩)))

theorem l3Same_spec {w : World} {G : Pin} {u v : Value} {xs ys : List Nd} (hP : Pins G w) (hu : RSl eNode G u xs) (hv : RSl eNode G v ys) :
  Calls Try.prog 49 [(.agg [u].toArray), (.agg [v].toArray)].toArray w fun e w' => ∃ G', e = .returned (.bool (decide (xs = ys))) ∧ Ext noS G w G' w' := by
 refine s_enter (n := 50) Try.func49 Try.ntmps49 rfl rfl ?_
 have hX0 : Ext noS G w G w := Ext.refl hP
 have hm := hu.max
 refine s_seq (c_reg ?_)
 refine q1 rfl rfl rfl (o_box [u] (v := (.agg [u].toArray)) rfl rfl hX0.pins (fun b1 w2 hk3 hb4 hp5 hl6 => ?_))
 have hX7 := hX0.step hp5 hl6
 have hlo8 : w.heap.size ≤ b1 := by have := hX0.size; omega
 obtain ⟨G9, hle10, hX11, hbp12, hf13⟩ := hb4.shut hX7 hlo8
 refine q1 rfl rfl rfl (o_box [v] (v := (.agg [v].toArray)) rfl rfl hX11.pins (fun b14 w15 hk16 hb17 hp18 hl19 => ?_))
 have hX20 := hX11.step hp18 hl19
 have hlo21 : w.heap.size ≤ b14 := by have := hX11.size; omega
 obtain ⟨G22, hle23, hX24, hbp25, hf26⟩ := hb17.shut hX20 hlo21
 refine qd rfl rfl rfl (r_assign (v := (.bool false)) rfl) (qe (s_then (s_seq (s_seq (c_reg ?_)))))
 refine qd rfl rfl rfl (r_fldp (k := 0) rfl Try.underlying26 rfl nz24 rfl) (qd rfl rfl rfl (r_ldp1 (u := u) ag24 rfl ((Pins.of_le hX24.pins hle23) _ _ _ (hbp12 0 _ rfl))) (qd rfl rfl rfl (run_len Try.underlying24 (v := u) rfl hu) (qd rfl rfl rfl (r_fldp (k := 0) rfl Try.underlying26 rfl nz24 rfl) (qd rfl rfl rfl (r_ldp1 (u := v) ag24 rfl (hX24.pins _ _ _ (hbp25 0 _ rfl))) (qd rfl rfl rfl (run_len Try.underlying24 (v := v) rfl hv) (qd rfl rfl rfl (r_neq rfl rfl) (qe (s_then ?_))))))))
 refine c_ifd (p := ((xs.length : Int) : Int) ≠ (ys.length : Int)) rfl rfl (fun h27 => ?_) (fun h27 => ?_)
 refine s_seq (c_reg ?_)
 refine qd rfl rfl rfl (r_assign (v := (.bool false)) rfl) (qe (s_then ?_))
 exact wp_ret (s_ret (c_ret1 (v := (.bool false)) rfl rfl rfl (⟨_, congrArg (fun z => Ending.returned (Value.bool z)) (decide_eq_false (fun e => h27 (by rw [e]))).symm, hX24⟩)))
 refine wp_skip (s_then (s_seq (s_seq (c_reg ?_))))
 refine qd rfl rfl rfl (r_assign (v := (.int .i64 0)) rfl) (qe (s_then ?_))
 refine s_blk (s_loop (fun (k : Nat) (en : Nat → Value) (W : World) => ∃ (env1 : Nat → Value) (j : Nat), en = (upd (upd (upd env1 2 (.pointer (some ⟨b1, 0, none⟩))) 3 (.pointer (some ⟨b14, 0, none⟩))) 5 (.int .i64 (j : Int))) ∧ k = xs.length - j ∧ Ext noS G w G22 W ∧ (j ≤ xs.length) ∧ (xs.length = ys.length) ∧ (∀ i, i < j → xs.getD i default = ys.getD i default)) _ ⟨_, 0, (packS (x := 5) (packS (x := 3) (pack1 (x := 2) rfl) rfl) rfl), rfl, hX24, Nat.zero_le _, (by omega), (fun i hi => absurd hi (Nat.not_lt_zero i))⟩ ?_)
 rintro k28 _ w29 ⟨env1, j, rfl, hk30, hX31, hj, heq, hp⟩
 refine s_seq (s_seq (c_reg ?_))
 refine qd rfl rfl rfl (r_move (v := (.int .i64 (j : Int))) rfl) (qd rfl rfl rfl (r_fldp (k := 0) rfl Try.underlying26 rfl nz24 rfl) (qd rfl rfl rfl (r_ldp1 (u := u) ag24 rfl ((Pins.of_le hX31.pins hle23) _ _ _ (hbp12 0 _ rfl))) (qd rfl rfl rfl (run_len Try.underlying24 (v := u) rfl hu) (qd rfl rfl rfl (r_lss rfl rfl) (qe (s_then ?_))))))
 refine c_ifd (p := ((j : Int) : Int) < (xs.length : Int)) rfl rfl (fun h32 => ?_) (fun h32 => ?_)
 refine wp_skip (s_then (s_seq ?_))
 refine s_blk (s_seq (c_draw (S := fun wz => Pins G22 wz) (last := 30) (by kernel_rfl) rfl ?_))
 have hl33 : Below w29.heap.size w29 w29.drew := (Below.refl _ _).drew
 have hp34 := hX31.pins.below hl33
 have hX35 := hX31.step hp34 hl33
 refine dr_take (i := 0) rfl rfl rfl (want_none rfl _) (by kernel_rfl) (fun _ _ => r_fldp (k := 0) rfl Try.underlying26 rfl nz24 rfl) hX35.pins (dr_take (i := 1) rfl rfl rfl (want_none rfl _) (by kernel_rfl) (fun _ hS => r_ldp1 (u := u) ag24 rfl ((Pins.of_le hS hle23) _ _ _ (hbp12 0 _ rfl))) hX35.pins (dr_take (i := 2) rfl rfl rfl (want_none rfl _) (by kernel_rfl) (fun _ _ => r_move (v := (.int .i64 (j : Int))) rfl) hX35.pins (dr_take (i := 3) rfl rfl rfl (want_none rfl _) (by kernel_rfl) (fun _ _ => run_idx Try.underlying24 sz48 (v := u) rfl rfl hu (by omega) (by omega)) hX35.pins (dr_take (i := 4) rfl rfl rfl (want_none rfl _) (by kernel_rfl) (fun _ _ => run_fld (off := 0) Try.underlying48 rfl rfl nz46 (z := (j : Int)) (k := 0) rfl hu (by omega) (by omega)) hX35.pins ?_))))
 obtain ⟨u36, hr37, hl38⟩ := nm_nl (hu.at (z := (j : Int)) (by omega) (by omega)) (j := j) rfl
 have hm39 := hr37.max
 refine dr_take (i := 5) rfl rfl rfl (want_none rfl _) (by kernel_rfl) (fun _ hS => hl38 ag46 rfl (Pins.of_le hS (Pin.le_trans hle10 hle23))) hX35.pins (dr_take (i := 6) rfl rfl rfl (want_none rfl _) (by kernel_rfl) (fun _ _ => r_fldp (k := 0) rfl Try.underlying26 rfl nz24 rfl) hX35.pins (dr_take (i := 7) rfl rfl rfl (want_none rfl _) (by kernel_rfl) (fun _ hS => r_ldp1 (u := v) ag24 rfl (hS _ _ _ (hbp25 0 _ rfl))) hX35.pins (dr_take (i := 8) rfl rfl rfl (want_none rfl _) (by kernel_rfl) (fun _ _ => r_move (v := (.int .i64 (j : Int))) rfl) hX35.pins (dr_take (i := 9) rfl rfl rfl (want_none rfl _) (by kernel_rfl) (fun _ _ => run_idx Try.underlying24 sz48 (v := v) rfl rfl hv (by omega) (by omega)) hX35.pins (dr_take (i := 10) rfl rfl rfl (want_none rfl _) (by kernel_rfl) (fun _ _ => run_fld (off := 0) Try.underlying48 rfl rfl nz46 (z := (j : Int)) (k := 0) rfl hv (by omega) (by omega)) hX35.pins ?_)))))
 obtain ⟨u40, hr41, hl42⟩ := nm_nl (hv.at (z := (j : Int)) (by omega) (by omega)) (j := j) rfl
 have hm43 := hr41.max
 refine dr_take (i := 11) rfl rfl rfl (want_none rfl _) (by kernel_rfl) (fun _ hS => hl42 ag46 rfl (Pins.of_le hS (Pin.le_trans hle10 hle23))) hX35.pins (dr_one (i := 12) (by kernel_rfl) (drOp1 (i := 12) rfl rfl rfl (want_none rfl _) (o_call (vs := [u36, u40]) Try.func58 nm58 rfl rfl rfl ?_)))
 refine Calls.mono (l1Same_spec hX35.pins (hr37.mono (Pin.le_trans hle10 hle23)) (hr41.mono (Pin.le_trans hle10 hle23))) ?_
 rintro _ w44 ⟨rfl, hx45⟩
 refine ⟨_, rfl, ?_⟩
 have hX46 := hX35.step hx45.pins hx45.below
 refine ⟨fun _ => hX46.pins, ?_⟩
 refine dr_take (i := 13) rfl rfl rfl (want_none rfl _) (by kernel_rfl) (fun _ _ => r_not rfl) hX46.pins (dr_take (i := 14) rfl rfl rfl (want_none rfl _) (by kernel_rfl) (fun _ _ => r_move (v := (.bool (!(decide (((xs.getD j default).l) = ((ys.getD j default).l)))))) rfl) hX46.pins (drbn (t := 34) rfl (fun h47 => ?_) (fun h47 => ?_)))
 replace h47 := of_decide_eq_true h47
 refine dr_take (i := 15) rfl rfl rfl (want_yes rfl rfl rfl rfl) (by kernel_rfl) (fun _ _ => r_fldp (k := 0) rfl Try.underlying26 rfl nz24 rfl) hX46.pins (dr_take (i := 16) rfl rfl rfl (want_yes rfl rfl rfl rfl) (by kernel_rfl) (fun _ hS => r_ldp1 (u := u) ag24 rfl ((Pins.of_le hS hle23) _ _ _ (hbp12 0 _ rfl))) hX46.pins (dr_take (i := 17) rfl rfl rfl (want_yes rfl rfl rfl rfl) (by kernel_rfl) (fun _ _ => r_move (v := (.int .i64 (j : Int))) rfl) hX46.pins (dr_take (i := 18) rfl rfl rfl (want_yes rfl rfl rfl rfl) (by kernel_rfl) (fun _ _ => run_idx Try.underlying24 sz48 (v := u) rfl rfl hu (by omega) (by omega)) hX46.pins (dr_take (i := 19) rfl rfl rfl (want_yes rfl rfl rfl rfl) (by kernel_rfl) (fun _ _ => run_fld (off := 1) Try.underlying48 rfl rfl nz46 (z := (j : Int)) (k := 0) rfl hu (by omega) (by omega)) hX46.pins ?_))))
 obtain ⟨u48, hr49, hl50⟩ := nm_nr (hu.at (z := (j : Int)) (by omega) (by omega)) (j := j) rfl
 have hm51 := hr49.max
 refine dr_take (i := 20) rfl rfl rfl (want_yes rfl rfl rfl rfl) (by kernel_rfl) (fun _ hS => hl50 ag46 rfl (Pins.of_le hS (Pin.le_trans hle10 hle23))) hX46.pins (dr_take (i := 21) rfl rfl rfl (want_yes rfl rfl rfl rfl) (by kernel_rfl) (fun _ _ => r_fldp (k := 0) rfl Try.underlying26 rfl nz24 rfl) hX46.pins (dr_take (i := 22) rfl rfl rfl (want_yes rfl rfl rfl rfl) (by kernel_rfl) (fun _ hS => r_ldp1 (u := v) ag24 rfl (hS _ _ _ (hbp25 0 _ rfl))) hX46.pins (dr_take (i := 23) rfl rfl rfl (want_yes rfl rfl rfl rfl) (by kernel_rfl) (fun _ _ => r_move (v := (.int .i64 (j : Int))) rfl) hX46.pins (dr_take (i := 24) rfl rfl rfl (want_yes rfl rfl rfl rfl) (by kernel_rfl) (fun _ _ => run_idx Try.underlying24 sz48 (v := v) rfl rfl hv (by omega) (by omega)) hX46.pins (dr_take (i := 25) rfl rfl rfl (want_yes rfl rfl rfl rfl) (by kernel_rfl) (fun _ _ => run_fld (off := 1) Try.underlying48 rfl rfl nz46 (z := (j : Int)) (k := 0) rfl hv (by omega) (by omega)) hX46.pins ?_)))))
 obtain ⟨u52, hr53, hl54⟩ := nm_nr (hv.at (z := (j : Int)) (by omega) (by omega)) (j := j) rfl
 have hm55 := hr53.max
 refine dr_take (i := 26) rfl rfl rfl (want_yes rfl rfl rfl rfl) (by kernel_rfl) (fun _ hS => hl54 ag46 rfl (Pins.of_le hS (Pin.le_trans hle10 hle23))) hX46.pins (dr_one (i := 27) (by kernel_rfl) (drOp1 (i := 27) rfl rfl rfl (want_yes rfl rfl rfl rfl) (o_call (vs := [u48, u52]) Try.func58 nm58 rfl rfl rfl ?_)))
 refine Calls.mono (l1Same_spec hX46.pins (hr49.mono (Pin.le_trans hle10 hle23)) (hr53.mono (Pin.le_trans hle10 hle23))) ?_
 rintro _ w56 ⟨rfl, hx57⟩
 refine ⟨_, rfl, ?_⟩
 have hX58 := hX46.step hx57.pins hx57.below
 refine ⟨fun _ => hX58.pins, ?_⟩
 refine dr_take (i := 28) rfl rfl rfl (want_yes rfl rfl rfl rfl) (by kernel_rfl) (fun _ _ => r_not rfl) hX58.pins (dr_take (i := 29) rfl rfl rfl (want_none rfl _) (by kernel_rfl) (fun _ _ => r_pickF (v := (.bool (!(decide (((xs.getD j default).r) = ((ys.getD j default).r)))))) rfl rfl) hX58.pins (dr_end (by kernel_rfl) (s_then (c_ifn rfl rfl (fun h59 => ?_) (fun h59 => ?_)))))
 replace h59 := of_decide_eq_true h59
 refine wp_skip (s_blkN (s_then (c_reg ?_)))
 refine qd rfl rfl rfl (r_move (v := (.int .i64 (j : Int))) rfl) (qd rfl rfl rfl (r_add rfl rfl (by omega)) (qd rfl rfl rfl (r_assign (v := (.int .i64 ((j : Int) + 1))) rfl) (qe (s_lopN (⟨_, ?_, _, rfl, _, j + 1, (packS (x := 5) (packS (x := 3) (pack1 (x := 2) rfl) rfl) rfl), rfl, hX58, (by omega), heq, (eqstepN hp h47 h59)⟩)))))
 omega
 replace h59 := of_decide_eq_false h59
 refine s_seq (c_reg ?_)
 refine qd rfl rfl rfl (r_assign (v := (.bool false)) rfl) (qe (s_then ?_))
 exact wp_ret (s_ret (c_ret1 (v := (.bool false)) rfl rfl rfl (⟨_, congrArg (fun z => Ending.returned (Value.bool z)) (decide_eq_false (fun e => h59 (by rw [e]))).symm, hX58⟩)))
 replace h47 := of_decide_eq_false h47
 refine dr_skip (i := 15) rfl rfl (want_no rfl rfl rfl rfl rfl) (by kernel_rfl) hX46.pins (dr_skip (i := 16) rfl rfl (want_no rfl rfl rfl rfl rfl) (by kernel_rfl) hX46.pins (dr_skip (i := 17) rfl rfl (want_no rfl rfl rfl rfl rfl) (by kernel_rfl) hX46.pins (dr_skip (i := 18) rfl rfl (want_no rfl rfl rfl rfl rfl) (by kernel_rfl) hX46.pins (dr_skip (i := 19) rfl rfl (want_no rfl rfl rfl rfl rfl) (by kernel_rfl) hX46.pins (dr_skip (i := 20) rfl rfl (want_no rfl rfl rfl rfl rfl) (by kernel_rfl) hX46.pins (dr_skip (i := 21) rfl rfl (want_no rfl rfl rfl rfl rfl) (by kernel_rfl) hX46.pins (dr_skip (i := 22) rfl rfl (want_no rfl rfl rfl rfl rfl) (by kernel_rfl) hX46.pins (dr_skip (i := 23) rfl rfl (want_no rfl rfl rfl rfl rfl) (by kernel_rfl) hX46.pins (dr_skip (i := 24) rfl rfl (want_no rfl rfl rfl rfl rfl) (by kernel_rfl) hX46.pins (dr_skip (i := 25) rfl rfl (want_no rfl rfl rfl rfl rfl) (by kernel_rfl) hX46.pins (dr_skip (i := 26) rfl rfl (want_no rfl rfl rfl rfl rfl) (by kernel_rfl) hX46.pins (dr_skip (i := 27) rfl rfl (want_no rfl rfl rfl rfl rfl) (by kernel_rfl) hX46.pins (dr_skip (i := 28) rfl rfl (want_no rfl rfl rfl rfl rfl) (by kernel_rfl) hX46.pins (dr_take (i := 29) rfl rfl rfl (want_none rfl _) (by kernel_rfl) (fun _ _ => r_pickT (v := (.bool true)) rfl rfl) hX46.pins (dr_end (by kernel_rfl) (s_then (c_ifT rfl rfl (s_seq (c_reg ?_)))))))))))))))))))
 refine qd rfl rfl rfl (r_assign (v := (.bool false)) rfl) (qe (s_then ?_))
 exact wp_ret (s_ret (c_ret1 (v := (.bool false)) rfl rfl rfl (⟨_, congrArg (fun z => Ending.returned (Value.bool z)) (decide_eq_false (fun e => h47 (by rw [e]))).symm, hX46⟩)))
 refine wp_exit (s_thenE (s_lopE (s_blkE (s_then (s_seq (c_reg ?_))))))
 refine qd rfl rfl rfl (r_assign (v := (.bool true)) rfl) (qe (s_then ?_))
 exact wp_ret (s_ret (c_ret1 (v := (.bool true)) rfl rfl rfl (⟨_, congrArg (fun z => Ending.returned (Value.bool z)) (decide_eq_true (eqdoneN heq (by omega) hp)).symm, hX31⟩)))

theorem put_spec {w : World} {G : Pin} {b : Nat} {bu bv : Value} {ns : List Nd} {bs : List Int} (hP : Pins G w) (hB : Bk 48 3 G w b bu bv ns bs) (hok : BookOk ns bs) {x y : Value} {xs ys : List Int} (hx : RSl eInt G x xs) (hy : RSl eInt G y ys) (hls : xs.length ≤ 1048576 ∧ ys.length ≤ 1048576) (hk1 : ∀ i, i < xs.length → 0 ≤ xs.getD i 0 ∧ xs.getD i 0 < ns.length) (hk2 : ∀ i, i < ys.length → 0 ≤ ys.getD i 0 ∧ ys.getD i 0 < ns.length) :
  Calls Try.prog 44 [(.pointer (some ⟨b, 0, none⟩)), x, y].toArray w fun e w' => ∃ (u' v' : Value) (G' : Pin), e = .returned (.int .i64 (putK ns bs xs ys)) ∧ Bk 48 3 G' w' b u' v' (putN ns bs xs ys) (putB ns bs xs ys) ∧ Ext (inS b bu bv) G w G' w' ∧ Lo w (inS b bu bv) u'.ownBlock ∧ Lo w (inS b bu bv) v'.ownBlock := by
 refine s_enter (n := 136) Try.func44 Try.ntmps44 rfl rfl ?_
 have hX0 : Ext (inS b bu bv) G w G w := Ext.refl hP
 have hbx := hB.bx
 have hou := hB.ou
 have hov := hB.ov
 have habu := hB.abu
 have habv := hB.abv
 have hauv := hB.auv
 have hlob : Lo w (inS b bu bv) (some b) := lo_b
 have hlou : Lo w (inS b bu bv) bu.ownBlock := lo_u
 have hlov : Lo w (inS b bu bv) bv.ownBlock := lo_v
 have hlen := hok.len
 have hlim := hok.lim
 refine s_seq (c_reg ?_)
 refine qd rfl rfl rfl (r_assign (v := (.int .i64 0)) rfl) (qe (s_then (s_seq (c_reg ?_))))
 refine q1 rfl rfl rfl (o_build0 (E := eInt) (e := 3) Try.underlying46 sz3 hX0.pins (fun u1 w2 ho3 hp4 hl5 hk6 => ?_))
 have hX7 := hX0.step hp4 hl5
 have ho8 := hou.below hl5
 have ho9 := hov.below hl5
 have hb10 := hbx.below hl5
 have ha11 : Apart u1.ownBlock bu.ownBlock := new_ne_own hk6 hou.lt
 have ha12 : Apart u1.ownBlock bv.ownBlock := new_ne_own hk6 hov.lt
 have ha13 : Apart u1.ownBlock (some b) := new_ne_box hk6 hbx.lt
 have ho14 : Own eInt 3 G w2 w.heap.size u1 ([]) := ho3.weaken hX0.size
 refine q1 rfl rfl rfl (o_build0 (E := eInt) (e := 3) Try.underlying46 sz3 hX7.pins (fun u15 w16 ho17 hp18 hl19 hk20 => ?_))
 have hX21 := hX7.step hp18 hl19
 have ho22 := ho8.below hl19
 have ho23 := ho9.below hl19
 have ho24 := ho14.below hl19
 have hb25 := hb10.below hl19
 have ha26 : Apart u15.ownBlock bu.ownBlock := new_ne_own hk20 ho8.lt
 have ha27 : Apart u15.ownBlock bv.ownBlock := new_ne_own hk20 ho9.lt
 have ha28 : Apart u15.ownBlock u1.ownBlock := new_ne_own hk20 ho14.lt
 have ha29 : Apart u15.ownBlock (some b) := new_ne_box hk20 hb10.lt
 have ho30 : Own eInt 3 G w16 w.heap.size u15 ([]) := ho17.weaken hX7.size
 refine qd rfl rfl rfl (r_assign (v := u1) rfl) (qd rfl rfl rfl (r_assign (v := u15) rfl) (qe (s_then (s_seq (c_reg ?_)))))
 refine qd rfl rfl rfl (r_assign (v := (.int .i64 0)) rfl) (qe (s_then (s_seq (s_seq (c_reg ?_)))))
 refine qd rfl rfl rfl (r_assign (v := (.int .i64 0)) rfl) (qe (s_then ?_))
 refine s_blk ?_
 obtain ⟨G35, hle38, hX37, hr36, hf39⟩ := ho24.sealed hX21
 have ho40 := ho22.moreO hle38 hf39 ha11.symm
 have ho41 := ho23.moreO hle38 hf39 ha12.symm
 have ho42 := ho30.moreO hle38 hf39 ha28
 have hb43 := hb25.moreO hf39 ha13.symm
 refine s_loop (fun (k : Nat) (en : Nat → Value) (W : World) => ∃ (env1 : Nat → Value) (i : Nat) (lo : Value) (ls : List Int) (bn : Int) (GLi : Pin), en = (upd (upd (upd (upd (upd (upd (upd (upd env1 0 (.pointer (some ⟨b, 0, none⟩))) 1 x) 2 y) 6 (.int .i64 0)) 7 lo) 8 u15) 9 (.int .i64 bn)) 10 (.int .i64 (i : Int))) ∧ k = xs.length - i ∧ Ext (inS b bu bv) G w GLi W ∧ Pin.le G35 GLi ∧ (i ≤ xs.length) ∧ (ls = sortL (xs.take i)) ∧ (ls.length ≤ i) ∧ (bn = bornOf bs (xs.take i) 0) ∧ (0 ≤ bn ∧ bn ≤ ns.length) ∧ (Own eNode 48 GLi W 0 bu (ns)) ∧ (Own eInt 3 GLi W 0 bv (bs)) ∧ (Own eInt 3 GLi W w.heap.size u15 ([])) ∧ (Bx GLi W b [bu, bv]) ∧ (RSl eInt GLi lo (ls))) _ ⟨_, 0, u1, [], 0, G35, (packS (x := 10) (packS (x := 9) (packS (x := 8) (packS (x := 7) (packS (x := 6) (packS (x := 2) (packS (x := 1) (pack1 (x := 0) rfl) rfl) rfl) rfl) rfl) rfl) rfl) rfl), rfl, hX37, Pin.le_refl _, Nat.zero_le _, rfl, Nat.le_refl 0, rfl, (by omega), ho40, ho41, ho42, hb43, hr36⟩ ?_
 rintro k31 _ w32 ⟨env1, i, lo, ls, bn, GLi, rfl, hk33, hX34, hlek31, hji, hrls, holls, hbbn, hlbn, hw44, hw45, hw46, hw47, hr48⟩
 refine s_seq (s_seq (c_reg ?_))
 refine qd rfl rfl rfl (r_move (v := (.int .i64 (i : Int))) rfl) (qd rfl rfl rfl (r_move (v := x) rfl) (qd rfl rfl rfl (run_len Try.underlying46 (v := x) rfl hx) (qd rfl rfl rfl (r_lss rfl rfl) (qe (s_then ?_)))))
 refine c_ifd (p := ((i : Int) : Int) < (xs.length : Int)) rfl rfl (fun h49 => ?_) (fun h49 => ?_)
 have hki := hk1 i (by omega)
 have hbk := hok.born (xs.getD i 0).toNat (by omega)
 refine wp_skip (s_then (s_seq ?_))
 refine s_blk (s_seq (c_reg ?_))
 refine qd rfl rfl rfl (r_move (v := lo) rfl) (qd rfl rfl rfl (r_move (v := x) rfl) (qd rfl rfl rfl (r_move (v := (.int .i64 (i : Int))) rfl) (qd rfl rfl rfl (run_idx Try.underlying46 sz3 (v := x) rfl rfl hx (by omega) (by omega)) (qd rfl rfl rfl (run_load_int (r := xs.getD i 0) rfl ag3 (z := (i : Int)) rfl hx (Pins.of_le hX34.pins (Pin.le_trans hle38 hlek31)) (by omega) (by omega)) (q1 rfl rfl rfl (o_call (vs := [lo, (.int .i64 (xs.getD i 0))]) Try.func56 nm56 rfl rfl rfl ?_))))))
 refine Calls.mono (l1Put_spec hX34.pins hr48 (by omega)) ?_
 rintro _ w52 ⟨u50, G51, rfl, hr53, hx54⟩
 refine ⟨_, rfl, ?_⟩
 have hX55 := hX34.tr hx54
 have ho56 := hw44.ext hx54
 have ho57 := hw45.ext hx54
 have ho58 := hw46.ext hx54
 have hb59 := hw47.ext hx54
 refine qd rfl rfl rfl (r_assign (v := u50) rfl) (qe (s_then ?_))
 have hq60 := Gadd.pins hX55.pins bv
 have hr61 := ho57.read
 refine c_draw (S := fun wz => BxR wz b [bu, bv] ∧ Pins G51 wz ∧ Pins (Gadd G51 w52 bv) wz) (last := 14) (by kernel_rfl) rfl ?_
 have hl62 : Below w52.heap.size w52 w52.drew := (Below.refl _ _).drew
 have hp63 := hX55.pins.below hl62
 have hX64 := hX55.step hp63 hl62
 have ho65 := ho56.below hl62
 have ho66 := ho57.below hl62
 have ho67 := ho58.below hl62
 have hb68 := hb59.below hl62
 have hq69 := hq60.below hl62
 refine dr_take (i := 0) rfl rfl rfl (want_none rfl _) (by kernel_rfl) (fun _ _ => r_move (v := (.int .i64 bn)) rfl) ⟨hb68.reads, hX64.pins, hq69⟩ (dr_take (i := 1) rfl rfl rfl (want_none rfl _) (by kernel_rfl) (fun _ _ => r_move (v := (.pointer (some ⟨b, 0, none⟩))) rfl) ⟨hb68.reads, hX64.pins, hq69⟩ (dr_take (i := 2) rfl rfl rfl (want_none rfl _) (by kernel_rfl) (fun _ _ => r_nil rfl) ⟨hb68.reads, hX64.pins, hq69⟩ (dr_take (i := 3) rfl rfl rfl (want_none rfl _) (by kernel_rfl) (fun _ _ => r_fldp (k := 1) rfl Try.underlying81 rfl nz46 rfl) ⟨hb68.reads, hX64.pins, hq69⟩ (dr_take (i := 4) rfl rfl rfl (want_none rfl _) (by kernel_rfl) (fun _ hS => r_ldp1 (u := bv) ag46 rfl (hS.1 1 _ rfl)) ⟨hb68.reads, hX64.pins, hq69⟩ (dr_take (i := 5) rfl rfl rfl (want_none rfl _) (by kernel_rfl) (fun _ _ => r_move (v := x) rfl) ⟨hb68.reads, hX64.pins, hq69⟩ (dr_take (i := 6) rfl rfl rfl (want_none rfl _) (by kernel_rfl) (fun _ _ => r_move (v := (.int .i64 (i : Int))) rfl) ⟨hb68.reads, hX64.pins, hq69⟩ (dr_take (i := 7) rfl rfl rfl (want_none rfl _) (by kernel_rfl) (fun _ _ => run_idx Try.underlying46 sz3 (v := x) rfl rfl hx (by omega) (by omega)) ⟨hb68.reads, hX64.pins, hq69⟩ (dr_take (i := 8) rfl rfl rfl (want_none rfl _) (by kernel_rfl) (fun _ hS => run_load_int (r := xs.getD i 0) rfl ag3 (z := (i : Int)) rfl hx (Pins.of_le hS.2.1 (Pin.le_trans (Pin.le_trans hle38 hlek31) hx54.le)) (by omega) (by omega)) ⟨hb68.reads, hX64.pins, hq69⟩ (dr_take (i := 9) rfl rfl rfl (want_none rfl _) (by kernel_rfl) (fun _ _ => run_idx Try.underlying46 sz3 (v := bv) rfl rfl hr61 (by omega) (by omega)) ⟨hb68.reads, hX64.pins, hq69⟩ (dr_take (i := 10) rfl rfl rfl (want_none rfl _) (by kernel_rfl) (fun _ hS => run_load_int (r := bs.getD (xs.getD i 0).toNat 0) rfl ag3 (z := (xs.getD i 0)) rfl hr61 hS.2.2 (by omega) (by omega)) ⟨hb68.reads, hX64.pins, hq69⟩ (dr_take (i := 11) rfl rfl rfl (want_none rfl _) (by kernel_rfl) (fun _ _ => r_add rfl rfl (by omega)) ⟨hb68.reads, hX64.pins, hq69⟩ (dr_one (i := 12) (by kernel_rfl) (drOp1 (i := 12) rfl rfl rfl (want_none rfl _) (o_call (vs := [(.int .i64 bn), (.int .i64 ((bs.getD (xs.getD i 0).toNat 0) + 1))]) Try.func57 nm57 rfl rfl rfl ?_))))))))))))))
 refine Calls.mono (l1Most_spec hX64.pins) ?_
 rintro _ _ ⟨rfl, rfl⟩
 refine ⟨_, rfl, ?_⟩
 refine ⟨fun _ => ⟨hb68.reads, hX64.pins, hq69⟩, ?_⟩
 refine dr_take (i := 13) rfl rfl rfl (want_none rfl _) (by kernel_rfl) (fun _ _ => r_assign (v := (.int .i64 (max bn ((bs.getD (xs.getD i 0).toNat 0) + 1)))) rfl) ⟨hb68.reads, hX64.pins, hq69⟩ (dr_end (by kernel_rfl) (s_blkN (s_then (c_reg ?_))))
 refine qd rfl rfl rfl (r_move (v := (.int .i64 (i : Int))) rfl) (qd rfl rfl rfl (r_add rfl rfl (by omega)) (qd rfl rfl rfl (r_assign (v := (.int .i64 ((i : Int) + 1))) rfl) (qe (s_lopN (⟨_, ?_, _, rfl, _, i + 1, u50, putL ls (xs.getD i 0), max bn ((bs.getD (xs.getD i 0).toNat 0) + 1), G51, (packS (x := 10) (packS (x := 9) (packS (x := 8) (packS (x := 7) (packS (x := 6) (packS (x := 2) (packS (x := 1) (pack1 (x := 0) rfl) rfl) rfl) rfl) rfl) rfl) rfl) rfl), rfl, hX64, (Pin.le_trans hlek31 hx54.le), (by omega), (by rw [hrls, sort_next (by omega)]), (Nat.le_trans putL_length (by omega)), (by rw [hbbn, born_next (by omega)]), (by omega), ho65, ho66, ho67, hb68, hr53⟩)))))
 omega
 refine wp_exit (s_thenE (s_lopE (s_blkE (s_then (s_seq (s_seq (c_reg ?_)))))))
 refine qd rfl rfl rfl (r_assign (v := (.int .i64 0)) rfl) (qe (s_then ?_))
 refine s_blk ?_
 obtain ⟨G74, hle77, hX76, hr75, hf78⟩ := hw46.sealed hX34
 have ho79 := hw44.moreO hle77 hf78 ha26.symm
 have ho80 := hw45.moreO hle77 hf78 ha27.symm
 have hb81 := hw47.moreO hf78 ha29.symm
 refine s_loop (fun (k : Nat) (en : Nat → Value) (W : World) => ∃ (env1 : Nat → Value) (i2 : Nat) (ro : Value) (rs : List Int) (bm : Int) (GLi2 : Pin), en = (upd (upd (upd (upd (upd (upd (upd env1 0 (.pointer (some ⟨b, 0, none⟩))) 2 y) 6 (.int .i64 0)) 7 lo) 8 ro) 9 (.int .i64 bm)) 11 (.int .i64 (i2 : Int))) ∧ k = ys.length - i2 ∧ Ext (inS b bu bv) G w GLi2 W ∧ Pin.le G74 GLi2 ∧ (i2 ≤ ys.length) ∧ (rs = sortL (ys.take i2)) ∧ (rs.length ≤ i2) ∧ (bm = bornOf bs (ys.take i2) bn) ∧ (0 ≤ bm ∧ bm ≤ ns.length) ∧ (Own eNode 48 GLi2 W 0 bu (ns)) ∧ (Own eInt 3 GLi2 W 0 bv (bs)) ∧ (Bx GLi2 W b [bu, bv]) ∧ (RSl eInt GLi2 ro (rs))) _ ⟨_, 0, u15, [], bn, G74, (packS (x := 11) (packS (x := 9) (packS (x := 8) (packS (x := 7) (packS (x := 6) (packS (x := 2) (pack1 (x := 0) rfl) rfl) rfl) rfl) rfl) rfl) rfl), rfl, hX76, Pin.le_refl _, Nat.zero_le _, rfl, Nat.le_refl 0, rfl, (by omega), ho79, ho80, hb81, hr75⟩ ?_
 rintro k70 _ w71 ⟨env1, i2, ro, rs, bm, GLi2, rfl, hk72, hX73, hlek70, hji2, hrrs, holrs, hbbm, hlbm, hw82, hw83, hw84, hr85⟩
 refine s_seq (s_seq (c_reg ?_))
 refine qd rfl rfl rfl (r_move (v := (.int .i64 (i2 : Int))) rfl) (qd rfl rfl rfl (r_move (v := y) rfl) (qd rfl rfl rfl (run_len Try.underlying46 (v := y) rfl hy) (qd rfl rfl rfl (r_lss rfl rfl) (qe (s_then ?_)))))
 refine c_ifd (p := ((i2 : Int) : Int) < (ys.length : Int)) rfl rfl (fun h86 => ?_) (fun h86 => ?_)
 have hki := hk2 i2 (by omega)
 have hbk := hok.born (ys.getD i2 0).toNat (by omega)
 refine wp_skip (s_then (s_seq ?_))
 refine s_blk (s_seq (c_reg ?_))
 refine qd rfl rfl rfl (r_move (v := ro) rfl) (qd rfl rfl rfl (r_move (v := y) rfl) (qd rfl rfl rfl (r_move (v := (.int .i64 (i2 : Int))) rfl) (qd rfl rfl rfl (run_idx Try.underlying46 sz3 (v := y) rfl rfl hy (by omega) (by omega)) (qd rfl rfl rfl (run_load_int (r := ys.getD i2 0) rfl ag3 (z := (i2 : Int)) rfl hy (Pins.of_le hX73.pins (Pin.le_trans (Pin.le_trans (Pin.le_trans hle38 hlek31) hle77) hlek70)) (by omega) (by omega)) (q1 rfl rfl rfl (o_call (vs := [ro, (.int .i64 (ys.getD i2 0))]) Try.func56 nm56 rfl rfl rfl ?_))))))
 refine Calls.mono (l1Put_spec hX73.pins hr85 (by omega)) ?_
 rintro _ w89 ⟨u87, G88, rfl, hr90, hx91⟩
 refine ⟨_, rfl, ?_⟩
 have hX92 := hX73.tr hx91
 have ho93 := hw82.ext hx91
 have ho94 := hw83.ext hx91
 have hb95 := hw84.ext hx91
 refine qd rfl rfl rfl (r_assign (v := u87) rfl) (qe (s_then ?_))
 have hq96 := Gadd.pins hX92.pins bv
 have hr97 := ho94.read
 refine c_draw (S := fun wz => BxR wz b [bu, bv] ∧ Pins G88 wz ∧ Pins (Gadd G88 w89 bv) wz) (last := 14) (by kernel_rfl) rfl ?_
 have hl98 : Below w89.heap.size w89 w89.drew := (Below.refl _ _).drew
 have hp99 := hX92.pins.below hl98
 have hX100 := hX92.step hp99 hl98
 have ho101 := ho93.below hl98
 have ho102 := ho94.below hl98
 have hb103 := hb95.below hl98
 have hq104 := hq96.below hl98
 refine dr_take (i := 0) rfl rfl rfl (want_none rfl _) (by kernel_rfl) (fun _ _ => r_move (v := (.int .i64 bm)) rfl) ⟨hb103.reads, hX100.pins, hq104⟩ (dr_take (i := 1) rfl rfl rfl (want_none rfl _) (by kernel_rfl) (fun _ _ => r_move (v := (.pointer (some ⟨b, 0, none⟩))) rfl) ⟨hb103.reads, hX100.pins, hq104⟩ (dr_take (i := 2) rfl rfl rfl (want_none rfl _) (by kernel_rfl) (fun _ _ => r_nil rfl) ⟨hb103.reads, hX100.pins, hq104⟩ (dr_take (i := 3) rfl rfl rfl (want_none rfl _) (by kernel_rfl) (fun _ _ => r_fldp (k := 1) rfl Try.underlying81 rfl nz46 rfl) ⟨hb103.reads, hX100.pins, hq104⟩ (dr_take (i := 4) rfl rfl rfl (want_none rfl _) (by kernel_rfl) (fun _ hS => r_ldp1 (u := bv) ag46 rfl (hS.1 1 _ rfl)) ⟨hb103.reads, hX100.pins, hq104⟩ (dr_take (i := 5) rfl rfl rfl (want_none rfl _) (by kernel_rfl) (fun _ _ => r_move (v := y) rfl) ⟨hb103.reads, hX100.pins, hq104⟩ (dr_take (i := 6) rfl rfl rfl (want_none rfl _) (by kernel_rfl) (fun _ _ => r_move (v := (.int .i64 (i2 : Int))) rfl) ⟨hb103.reads, hX100.pins, hq104⟩ (dr_take (i := 7) rfl rfl rfl (want_none rfl _) (by kernel_rfl) (fun _ _ => run_idx Try.underlying46 sz3 (v := y) rfl rfl hy (by omega) (by omega)) ⟨hb103.reads, hX100.pins, hq104⟩ (dr_take (i := 8) rfl rfl rfl (want_none rfl _) (by kernel_rfl) (fun _ hS => run_load_int (r := ys.getD i2 0) rfl ag3 (z := (i2 : Int)) rfl hy (Pins.of_le hS.2.1 (Pin.le_trans (Pin.le_trans (Pin.le_trans (Pin.le_trans hle38 hlek31) hle77) hlek70) hx91.le)) (by omega) (by omega)) ⟨hb103.reads, hX100.pins, hq104⟩ (dr_take (i := 9) rfl rfl rfl (want_none rfl _) (by kernel_rfl) (fun _ _ => run_idx Try.underlying46 sz3 (v := bv) rfl rfl hr97 (by omega) (by omega)) ⟨hb103.reads, hX100.pins, hq104⟩ (dr_take (i := 10) rfl rfl rfl (want_none rfl _) (by kernel_rfl) (fun _ hS => run_load_int (r := bs.getD (ys.getD i2 0).toNat 0) rfl ag3 (z := (ys.getD i2 0)) rfl hr97 hS.2.2 (by omega) (by omega)) ⟨hb103.reads, hX100.pins, hq104⟩ (dr_take (i := 11) rfl rfl rfl (want_none rfl _) (by kernel_rfl) (fun _ _ => r_add rfl rfl (by omega)) ⟨hb103.reads, hX100.pins, hq104⟩ (dr_one (i := 12) (by kernel_rfl) (drOp1 (i := 12) rfl rfl rfl (want_none rfl _) (o_call (vs := [(.int .i64 bm), (.int .i64 ((bs.getD (ys.getD i2 0).toNat 0) + 1))]) Try.func57 nm57 rfl rfl rfl ?_))))))))))))))
 refine Calls.mono (l1Most_spec hX100.pins) ?_
 rintro _ _ ⟨rfl, rfl⟩
 refine ⟨_, rfl, ?_⟩
 refine ⟨fun _ => ⟨hb103.reads, hX100.pins, hq104⟩, ?_⟩
 refine dr_take (i := 13) rfl rfl rfl (want_none rfl _) (by kernel_rfl) (fun _ _ => r_assign (v := (.int .i64 (max bm ((bs.getD (ys.getD i2 0).toNat 0) + 1)))) rfl) ⟨hb103.reads, hX100.pins, hq104⟩ (dr_end (by kernel_rfl) (s_blkN (s_then (c_reg ?_))))
 refine qd rfl rfl rfl (r_move (v := (.int .i64 (i2 : Int))) rfl) (qd rfl rfl rfl (r_add rfl rfl (by omega)) (qd rfl rfl rfl (r_assign (v := (.int .i64 ((i2 : Int) + 1))) rfl) (qe (s_lopN (⟨_, ?_, _, rfl, _, i2 + 1, u87, putL rs (ys.getD i2 0), max bm ((bs.getD (ys.getD i2 0).toNat 0) + 1), G88, (packS (x := 11) (packS (x := 9) (packS (x := 8) (packS (x := 7) (packS (x := 6) (packS (x := 2) (pack1 (x := 0) rfl) rfl) rfl) rfl) rfl) rfl) rfl), rfl, hX100, (Pin.le_trans hlek70 hx91.le), (by omega), (by rw [hrrs, sort_next (by omega)]), (Nat.le_trans putL_length (by omega)), (by rw [hbbm, born_next (by omega)]), (by omega), ho101, ho102, hb103, hr90⟩)))))
 omega
 refine wp_exit (s_thenE (s_lopE (s_blkE (s_then (s_seq (s_seq (c_reg ?_)))))))
 rw [take_all (by omega)] at hrls hrrs hbbn hbbm
 have e1 : putNd xs ys = ⟨ls, rs⟩ := by unfold putNd; rw [hrls, hrrs]
 have e2 : putBorn bs xs ys = bm := by unfold putBorn; rw [← hbbn, ← hbbm]
 refine qd rfl rfl rfl (r_assign (v := (.int .i64 0)) rfl) (qe (s_then ?_))
 refine s_blk ?_
 have e0 : True := trivial
 refine s_loop (fun (k : Nat) (en : Nat → Value) (W : World) => ∃ (env1 : Nat → Value) (q : Nat), en = (upd (upd (upd (upd (upd env1 0 (.pointer (some ⟨b, 0, none⟩))) 7 lo) 8 ro) 9 (.int .i64 bm)) 12 (.int .i64 (q : Int))) ∧ k = ns.length - q ∧ Ext (inS b bu bv) G w GLi2 W ∧ (q ≤ ns.length) ∧ (∀ i, i < q → NotAt ns bs ⟨ls, rs⟩ bm i) ∧ (Own eNode 48 GLi2 W 0 bu (ns)) ∧ (Own eInt 3 GLi2 W 0 bv (bs)) ∧ (Bx GLi2 W b [bu, bv])) _ ⟨_, 0, (packS (x := 12) (packS (x := 9) (packS (x := 8) (packS (x := 7) (pack1 (x := 0) rfl) rfl) rfl) rfl) rfl), rfl, hX73, Nat.zero_le _, (fun i hi => absurd hi (Nat.not_lt_zero i)), hw82, hw83, hw84⟩ ?_
 rintro k105 _ w106 ⟨env1, q, rfl, hk107, hX108, hk3, hp, hw109, hw110, hw111⟩
 refine s_seq (s_seq (c_reg ?_))
 refine qd rfl rfl rfl (r_move (v := (.int .i64 (q : Int))) rfl) (qd rfl rfl rfl (r_move (v := (.pointer (some ⟨b, 0, none⟩))) rfl) (qd rfl rfl rfl (r_nil rfl) (qd rfl rfl rfl (r_fldp (k := 0) rfl Try.underlying81 rfl nz24 rfl) (qd rfl rfl rfl (r_ldp1 (u := bu) ag24 rfl (hw111.cell (o := 0) rfl)) (qd rfl rfl rfl (run_len Try.underlying24 (v := bu) rfl hw109.read) (qd rfl rfl rfl (r_lss rfl rfl) (qe (s_then ?_))))))))
 refine c_ifd (p := ((q : Int) : Int) < (ns.length : Int)) rfl rfl (fun h112 => ?_) (fun h112 => ?_)
 refine wp_skip (s_then (s_seq ?_))
 refine s_blk (s_seq (c_reg ?_))
 refine qd rfl rfl rfl (r_move (v := (.pointer (some ⟨b, 0, none⟩))) rfl) (qd rfl rfl rfl (r_nil rfl) (qd rfl rfl rfl (r_fldp (k := 1) rfl Try.underlying81 rfl nz46 rfl) (qd rfl rfl rfl (r_ldp1 (u := bv) ag46 rfl (hw111.cell (o := 1) rfl)) (qd rfl rfl rfl (r_move (v := (.int .i64 (q : Int))) rfl) (qd rfl rfl rfl (run_idx Try.underlying46 sz3 (v := bv) rfl rfl hw110.read (by omega) (by omega)) (qd rfl rfl rfl (run_load_int (r := bs.getD q 0) rfl ag3 (z := (q : Int)) rfl hw110.read (Gadd.pins hX108.pins bv) (by omega) (by omega)) (qd rfl rfl rfl (r_move (v := (.int .i64 bm)) rfl) (qd rfl rfl rfl (r_eql rfl rfl) (qd rfl rfl rfl (r_move (v := (.bool (decide ((bs.getD q 0 : Int) = bm)))) rfl) (qbd (p := (bs.getD q 0 : Int) = bm) (t := 83) rfl (fun h113 => ?_) (fun h113 => ?_)))))))))))
 refine qdg rfl rfl rfl rfl rfl rfl (r_move (v := (.pointer (some ⟨b, 0, none⟩))) rfl) (qdg rfl rfl rfl rfl rfl rfl (r_nil rfl) (qdg rfl rfl rfl rfl rfl rfl (r_fldp (k := 0) rfl Try.underlying81 rfl nz24 rfl) (qdg rfl rfl rfl rfl rfl rfl (r_ldp1 (u := bu) ag24 rfl (hw111.cell (o := 0) rfl)) (qdg rfl rfl rfl rfl rfl rfl (r_move (v := (.int .i64 (q : Int))) rfl) (qdg rfl rfl rfl rfl rfl rfl (run_idx Try.underlying24 sz48 (v := bu) rfl rfl hw109.read (by omega) (by omega)) (qdg rfl rfl rfl rfl rfl rfl (run_fld (off := 0) Try.underlying48 rfl rfl nz46 (z := (q : Int)) (k := 0) rfl hw109.read (by omega) (by omega)) ?_))))))
 obtain ⟨u114, hr115, hl116⟩ := nm_nl (hw109.at (z := (q : Int)) (by omega) (by omega)) (j := q) rfl
 have hm117 := hr115.max
 refine qdg rfl rfl rfl rfl rfl rfl (hl116 ag46 rfl (Gadd.pins hX108.pins bu)) (qdg rfl rfl rfl rfl rfl rfl (r_move (v := lo) rfl) (q1g rfl rfl rfl rfl rfl rfl (o_call (vs := [u114, lo]) Try.func58 nm58 rfl rfl rfl ?_)))
 refine Calls.mono (l1Same_spec hX108.pins hr115 (hr48.mono (Pin.le_trans hle77 hlek70))) ?_
 rintro _ w118 ⟨rfl, hx119⟩
 refine ⟨_, rfl, ?_⟩
 have hX120 := hX108.step hx119.pins hx119.below
 have ho121 := hw109.below hx119.below
 have ho122 := hw110.below hx119.below
 have hb123 := hw111.below hx119.below
 refine qd rfl rfl rfl (r_pickT (v := (.bool (decide (((ns.getD q default).l) = ls)))) rfl rfl) (qd rfl rfl rfl (r_move (v := (.bool (decide (((ns.getD q default).l) = ls)))) rfl) (qbd (p := (((ns.getD q default).l) = ls)) (t := 95) rfl (fun h124 => ?_) (fun h124 => ?_)))
 refine qdg rfl rfl rfl rfl rfl rfl (r_move (v := (.pointer (some ⟨b, 0, none⟩))) rfl) (qdg rfl rfl rfl rfl rfl rfl (r_nil rfl) (qdg rfl rfl rfl rfl rfl rfl (r_fldp (k := 0) rfl Try.underlying81 rfl nz24 rfl) (qdg rfl rfl rfl rfl rfl rfl (r_ldp1 (u := bu) ag24 rfl (hb123.cell (o := 0) rfl)) (qdg rfl rfl rfl rfl rfl rfl (r_move (v := (.int .i64 (q : Int))) rfl) (qdg rfl rfl rfl rfl rfl rfl (run_idx Try.underlying24 sz48 (v := bu) rfl rfl ho121.read (by omega) (by omega)) (qdg rfl rfl rfl rfl rfl rfl (run_fld (off := 1) Try.underlying48 rfl rfl nz46 (z := (q : Int)) (k := 0) rfl ho121.read (by omega) (by omega)) ?_))))))
 obtain ⟨u125, hr126, hl127⟩ := nm_nr (ho121.at (z := (q : Int)) (by omega) (by omega)) (j := q) rfl
 have hm128 := hr126.max
 refine qdg rfl rfl rfl rfl rfl rfl (hl127 ag46 rfl (Gadd.pins hX120.pins bu)) (qdg rfl rfl rfl rfl rfl rfl (r_move (v := ro) rfl) (q1g rfl rfl rfl rfl rfl rfl (o_call (vs := [u125, ro]) Try.func58 nm58 rfl rfl rfl ?_)))
 refine Calls.mono (l1Same_spec hX120.pins hr126 hr85) ?_
 rintro _ w129 ⟨rfl, hx130⟩
 refine ⟨_, rfl, ?_⟩
 have hX131 := hX120.step hx130.pins hx130.below
 have ho132 := ho121.below hx130.below
 have ho133 := ho122.below hx130.below
 have hb134 := hb123.below hx130.below
 refine qd rfl rfl rfl (r_pickT (v := (.bool (decide (((ns.getD q default).r) = rs)))) rfl rfl) (qe (s_then ?_))
 refine c_ifd (p := (((ns.getD q default).r) = rs)) rfl rfl (fun h135 => ?_) (fun h135 => ?_)
 refine s_seq (c_reg ?_)
 refine qd rfl rfl rfl (r_move (v := (.int .i64 (q : Int))) rfl) (qd rfl rfl rfl (r_assign (v := (.int .i64 (q : Int))) rfl) (qe (s_then ?_)))
 refine wp_ret (s_ret (c_ret1 (v := (.int .i64 (q : Int))) rfl rfl rfl ?_))
 have hf : findK ns bs (putNd xs ys) (putBorn bs xs ys) = some q := by rw [e1, e2]; exact find_some (by omega) hp ⟨h113, h124, h135⟩
 have eN : putN ns bs xs ys = ns := by unfold putN; rw [hf]
 have eB : putB ns bs xs ys = bs := by unfold putB; rw [hf]
 refine ⟨bu, bv, _, congrArg (fun z => Ending.returned (Value.int .i64 z)) (by unfold putK; rw [hf]), ?_, hX131, hlou, hlov⟩
 rw [eN, eB]
 exact ⟨hb134, ho132, ho133, habu, habv, hauv⟩
 refine wp_skip (s_blkN (s_then (c_reg ?_)))
 refine qd rfl rfl rfl (r_move (v := (.int .i64 (q : Int))) rfl) (qd rfl rfl rfl (r_add rfl rfl (by omega)) (qd rfl rfl rfl (r_assign (v := (.int .i64 ((q : Int) + 1))) rfl) (qe (s_lopN (⟨_, ?_, _, rfl, _, q + 1, (packS (x := 12) (packS (x := 9) (packS (x := 8) (packS (x := 7) (pack1 (x := 0) rfl) rfl) rfl) rfl) rfl), rfl, hX131, (by omega), (fun i hi => if h3 : i = q then h3 ▸ (fun g => absurd g.2.2 h135) else hp i (by omega)), ho132, ho133, hb134⟩)))))
 omega
 refine qs rfl rfl rfl rfl rfl rfl (qs rfl rfl rfl rfl rfl rfl (qs rfl rfl rfl rfl rfl rfl (qs rfl rfl rfl rfl rfl rfl (qs rfl rfl rfl rfl rfl rfl (qs rfl rfl rfl rfl rfl rfl (qs rfl rfl rfl rfl rfl rfl (qs rfl rfl rfl rfl rfl rfl (qs rfl rfl rfl rfl rfl rfl (qs rfl rfl rfl rfl rfl rfl (qd rfl rfl rfl (r_pickF (v := (.bool false)) rfl rfl) (qe (s_then ?_))))))))))))
 refine c_ifF rfl rfl (wp_skip (s_blkN (s_then (c_reg ?_))))
 refine qd rfl rfl rfl (r_move (v := (.int .i64 (q : Int))) rfl) (qd rfl rfl rfl (r_add rfl rfl (by omega)) (qd rfl rfl rfl (r_assign (v := (.int .i64 ((q : Int) + 1))) rfl) (qe (s_lopN (⟨_, ?_, _, rfl, _, q + 1, (packS (x := 12) (packS (x := 9) (packS (x := 8) (packS (x := 7) (pack1 (x := 0) rfl) rfl) rfl) rfl) rfl), rfl, hX120, (by omega), (fun i hi => if h3 : i = q then h3 ▸ (fun g => absurd g.2.1 h124) else hp i (by omega)), ho121, ho122, hb123⟩)))))
 omega
 refine qs rfl rfl rfl rfl rfl rfl (qs rfl rfl rfl rfl rfl rfl (qs rfl rfl rfl rfl rfl rfl (qs rfl rfl rfl rfl rfl rfl (qs rfl rfl rfl rfl rfl rfl (qs rfl rfl rfl rfl rfl rfl (qs rfl rfl rfl rfl rfl rfl (qs rfl rfl rfl rfl rfl rfl (qs rfl rfl rfl rfl rfl rfl (qs rfl rfl rfl rfl rfl rfl (qd rfl rfl rfl (r_pickF (v := (.bool false)) rfl rfl) (qd rfl rfl rfl (r_move (v := (.bool false)) rfl) (qs rfl rfl rfl rfl rfl rfl (qs rfl rfl rfl rfl rfl rfl (qs rfl rfl rfl rfl rfl rfl (qs rfl rfl rfl rfl rfl rfl (qs rfl rfl rfl rfl rfl rfl (qs rfl rfl rfl rfl rfl rfl (qs rfl rfl rfl rfl rfl rfl (qs rfl rfl rfl rfl rfl rfl (qs rfl rfl rfl rfl rfl rfl (qs rfl rfl rfl rfl rfl rfl (qd rfl rfl rfl (r_pickF (v := (.bool false)) rfl rfl) (qe (s_then ?_))))))))))))))))))))))))
 refine c_ifF rfl rfl (wp_skip (s_blkN (s_then (c_reg ?_))))
 refine qd rfl rfl rfl (r_move (v := (.int .i64 (q : Int))) rfl) (qd rfl rfl rfl (r_add rfl rfl (by omega)) (qd rfl rfl rfl (r_assign (v := (.int .i64 ((q : Int) + 1))) rfl) (qe (s_lopN (⟨_, ?_, _, rfl, _, q + 1, (packS (x := 12) (packS (x := 9) (packS (x := 8) (packS (x := 7) (pack1 (x := 0) rfl) rfl) rfl) rfl) rfl), rfl, hX108, (by omega), (fun i hi => if h3 : i = q then h3 ▸ (fun g => absurd g.1 h113) else hp i (by omega)), hw109, hw110, hw111⟩)))))
 omega
 refine wp_exit (s_thenE (s_lopE (s_blkE (s_then (s_seq (c_reg ?_))))))
 refine qd rfl rfl rfl (r_move (v := (.pointer (some ⟨b, 0, none⟩))) rfl) (qd rfl rfl rfl (r_move (v := (.pointer (some ⟨b, 0, none⟩))) rfl) (qd rfl rfl rfl (r_nil rfl) (qd rfl rfl rfl (r_fldp (k := 0) rfl Try.underlying81 rfl nz24 rfl) (qd rfl rfl rfl (r_ldp1 (u := bu) ag24 rfl (hw111.cell (o := 0) rfl)) (qd rfl rfl rfl (r_move (v := lo) rfl) (qd rfl rfl rfl (r_move (v := ro) rfl) (qd rfl rfl rfl (r_build [(.slice none 0 0), (.slice none 0 0)] [lo, ro] [(0, lo, [lo]), (1, ro, [ro])] Try.underlying48 zr48 rfl pl48 rfl (List.forall_mem_cons.2 ⟨(cells_one hr48.one), (List.forall_mem_cons.2 ⟨(cells_one hr85.one), (fun _ h => by cases h)⟩)⟩) rfl) (q1 rfl rfl rfl (o_build1 (E := eNode) (e := 48) [lo, ro] (⟨ls, rs⟩ : Nd) Try.underlying24 sz48 zr48 ⟨_, _, rfl, (hr48.mono (Pin.le_trans hle77 hlek70)), hr85⟩ rfl (by decide) hX108.pins (fun u136 w137 ho138 hp139 hl140 hk141 => ?_))))))))))
 have hX142 := hX108.step hp139 hl140
 have ho143 := hw109.below hl140
 have ho144 := hw110.below hl140
 have hb145 := hw111.below hl140
 have ho149 : Own eNode 48 GLi2 w137 w.heap.size u136 ([(⟨ls, rs⟩ : Nd)]) := ho138.weaken hX108.size
 refine q1 rfl rfl rfl (o_append (E := eNode) (v := bu) (u := u136) 48 Try.underlying24 ap48 (by decide) rfl rfl hX142.pins ho143 ho149.src (by first | omega | (rw [List.nil_append]; omega) | (rw [List.length_nil]; omega) | (rw [List.length_append]; omega) | (simp; done) | (simp; omega) | (simp only [List.length_append, List.length_cons, List.length_nil]; omega)) (by first | omega | (rw [List.nil_append]; omega) | (rw [List.length_nil]; omega) | (rw [List.length_append]; omega) | (simp; done) | (simp; omega) | (simp only [List.length_append, List.length_cons, List.length_nil]; omega)) (Nat.zero_le _) (fun u150 w151 ho152 hp153 hg154 hw155 => ?_))
 have hX156 := hX142.write hp153 hg154 (hlou)
 have ho157 := ho144.keptA hg154 hauv.symm
 have hb159 := hb145.keptA hg154 habu
 have ha160 : Apart bv.ownBlock u150.ownBlock := app_ne_own hauv.symm hw155 ho144.lt
 have ha162 : Apart (some b) u150.ownBlock := app_ne_box habu hw155 hb145.lt
 have hlo163 : Lo w (inS b bu bv) u150.ownBlock := lo_app hlou hw155 hX142.size
 have hm164 : (ns ++ ([(⟨ls, rs⟩ : Nd)])).length = ns.length + 1 := List.length_append
 refine qd rfl rfl rfl (r_nil rfl) (qd rfl rfl rfl (r_fldp (k := 0) rfl Try.underlying81 rfl nz24 rfl) (q0 rfl rfl rfl (o_stp (cs' := [u150, bv]) (us := [u150]) (v := u150) sz24 rfl rfl (cells1 ho152.one) (ones1 ho152.one) hX156.pins hb159 (Nat.le_of_ble_eq_true rfl) rfl (fun w165 hb166 hp167 hg168 hz169 => ?_))))
 have hX170 := hX156.write hp167 hg168 (hlob)
 have ho171 := ho157.keptA hg168 habv.symm
 have ho172 := ho152.keptA hg168 ha162.symm
 refine qe (s_then (s_seq (c_reg ?_)))
 refine qd rfl rfl rfl (r_move (v := (.pointer (some ⟨b, 0, none⟩))) rfl) (qd rfl rfl rfl (r_move (v := (.pointer (some ⟨b, 0, none⟩))) rfl) (qd rfl rfl rfl (r_nil rfl) (qd rfl rfl rfl (r_fldp (k := 1) rfl Try.underlying81 rfl nz46 rfl) (qd rfl rfl rfl (r_ldp1 (u := bv) ag46 rfl (hb166.cell (o := 1) rfl)) (qd rfl rfl rfl (r_move (v := (.int .i64 bm)) rfl) (q1 rfl rfl rfl (o_buildF (E := eInt) (e := 3) [(.int .i64 bm)] [bm] Try.underlying46 sz3 zr3 (by exact reps1 (by rfl)) (ones1 (by rfl)) rfl rfl rfl rfl (by decide) hX170.pins (fun u173 w174 ho175 hp176 hl177 hk178 => ?_))))))))
 have hX179 := hX170.step hp176 hl177
 have ho180 := ho171.below hl177
 have ho181 := ho172.below hl177
 have hb182 := hb166.below hl177
 have ho186 : Own eInt 3 GLi2 w174 w.heap.size u173 ([bm]) := ho175.weaken hX170.size
 refine q1 rfl rfl rfl (o_append (E := eInt) (v := bv) (u := u173) 8 Try.underlying46 ap3 (by decide) rfl rfl hX179.pins ho180 ho186.src (by first | omega | (rw [List.nil_append]; omega) | (rw [List.length_nil]; omega) | (rw [List.length_append]; omega) | (simp; done) | (simp; omega) | (simp only [List.length_append, List.length_cons, List.length_nil]; omega)) (by first | omega | (rw [List.nil_append]; omega) | (rw [List.length_nil]; omega) | (rw [List.length_append]; omega) | (simp; done) | (simp; omega) | (simp only [List.length_append, List.length_cons, List.length_nil]; omega)) (Nat.zero_le _) (fun u187 w188 ho189 hp190 hg191 hw192 => ?_))
 have hX193 := hX179.write hp190 hg191 (hlov)
 have ho194 := ho181.keptA hg191 ha160.symm
 have hb196 := hb182.keptA hg191 habv
 have ha197 : Apart u150.ownBlock u187.ownBlock := app_ne_own ha160.symm hw192 ho181.lt
 have ha199 : Apart (some b) u187.ownBlock := app_ne_box habv hw192 hb182.lt
 have hlo200 : Lo w (inS b bu bv) u187.ownBlock := lo_app hlov hw192 hX179.size
 have hm201 : (bs ++ ([bm])).length = bs.length + 1 := List.length_append
 refine qd rfl rfl rfl (r_nil rfl) (qd rfl rfl rfl (r_fldp (k := 1) rfl Try.underlying81 rfl nz46 rfl) (q0 rfl rfl rfl (o_stp (cs' := [u150, u187]) (us := [u187]) (v := u187) sz46 rfl rfl (cells1 ho189.one) (ones1 ho189.one) hX193.pins hb196 (Nat.le_of_ble_eq_true rfl) rfl (fun w202 hb203 hp204 hg205 hz206 => ?_))))
 have hX207 := hX193.write hp204 hg205 (hlob)
 have ho208 := ho194.keptA hg205 ha162.symm
 have ho209 := ho189.keptA hg205 ha199.symm
 refine qe (s_then (s_seq (c_reg ?_)))
 refine qd rfl rfl rfl (r_move (v := (.pointer (some ⟨b, 0, none⟩))) rfl) (qd rfl rfl rfl (r_nil rfl) (qd rfl rfl rfl (r_fldp (k := 0) rfl Try.underlying81 rfl nz24 rfl) (qd rfl rfl rfl (r_ldp1 (u := u150) ag24 rfl (hb203.cell (o := 0) rfl)) (qd rfl rfl rfl (run_len Try.underlying24 (v := u150) rfl ho208.read) (qd rfl rfl rfl (r_sub rfl rfl (by omega)) (qd rfl rfl rfl (r_assign (v := (.int .i64 (((ns ++ ([(⟨ls, rs⟩ : Nd)])).length : Int) - 1))) rfl) (qe (s_then ?_))))))))
 refine wp_ret (s_ret (c_ret1 (v := (.int .i64 (((ns ++ ([(⟨ls, rs⟩ : Nd)])).length : Int) - 1))) rfl rfl rfl ?_))
 have hf : findK ns bs (putNd xs ys) (putBorn bs xs ys) = none := by rw [e1, e2]; exact find_none (by omega) hp
 have eN : putN ns bs xs ys = ns ++ [⟨ls, rs⟩] := by unfold putN; rw [hf, e1]
 have eB : putB ns bs xs ys = bs ++ [bm] := by unfold putB; rw [hf, e2]
 refine ⟨u150, u187, _, congrArg (fun z => Ending.returned (Value.int .i64 z)) (by unfold putK; rw [hf]; simp), ?_, hX207, hlo163, hlo200⟩
 rw [eN, eB]
 exact ⟨hb203, ho208, ho209, ha162, ha199, ha197⟩

end D1
end Go.Proofs.Ytdongckiecjbaaa
