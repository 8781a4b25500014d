/- Texts of this claim in one file: RM5, RM6, RD1, RD2, RD3, LRM. -/
import Derived.Test.YtajkbplgbikgdaaDoorRm3
import Derived.Test.YtajkbplgbikgdaaDoorChecked
set_option maxRecDepth 20000
set_option maxHeartbeats 2000000
namespace Go.Proofs.YtajkbplgbikgdaaDoor
namespace RM5
open Go.RowKit Go.GL Go.Proofs










theorem pl26 : (Tryd.prog.underlying 26).bind (placesD Tryd.prog) = some [(0, 1)] := by kernel_rfl









theorem l1In_spec {w : World} {G : Pin} {x a b : Int} (hP : Pins G w) :
  Calls Tryd.prog 24 [(.int .i64 x), (.int .i64 a), (.int .i64 b)].toArray w fun e w' => e = .returned (.bool (decide (a ≤ x ∧ x ≤ b))) ∧ w' = w := by
 refine s_enter (n := 15) Tryd.func24 Tryd.ntmps24 rfl rfl ?_
 have hX0 : Ext noS G w G w := Ext.refl hP
 refine s_seq (c_reg ?_)
 refine qd rfl rfl rfl (r_assign (v := (.bool false)) rfl) (qe (s_then (s_seq (c_reg ?_))))
 refine qd rfl rfl rfl (r_move (v := (.int .i64 x)) rfl) (qd rfl rfl rfl (r_move (v := (.int .i64 a)) rfl) (qd rfl rfl rfl (r_geq rfl rfl) (qd rfl rfl rfl (r_move (v := (.bool (decide ((a : Int) ≤ x)))) rfl) (qbd (p := (a : Int) ≤ x) (t := 10) rfl (fun h1 => ?_) (fun h1 => ?_)))))
 refine qdg rfl rfl rfl rfl rfl rfl (r_move (v := (.int .i64 x)) rfl) (qdg rfl rfl rfl rfl rfl rfl (r_move (v := (.int .i64 b)) rfl) (qdg rfl rfl rfl rfl rfl rfl (r_leq rfl rfl) (qd rfl rfl rfl (r_pickT (v := (.bool (decide ((x : Int) ≤ b)))) rfl rfl) (qd rfl rfl rfl (r_assign (v := (.bool (decide ((x : Int) ≤ b)))) rfl) (qe (s_then ?_))))))
 exact wp_ret (s_ret (c_ret1 (v := (.bool (decide ((x : Int) ≤ b)))) rfl rfl rfl (⟨congrArg (fun z => Ending.returned (Value.bool z)) (decide_eq_decide.2 (by omega)), rfl⟩)))
 refine qs rfl rfl rfl rfl rfl rfl (qs rfl rfl rfl rfl rfl rfl (qs rfl rfl rfl rfl rfl rfl (qd rfl rfl rfl (r_pickF (v := (.bool false)) rfl rfl) (qd rfl rfl rfl (r_assign (v := (.bool false)) rfl) (qe (s_then ?_))))))
 exact wp_ret (s_ret (c_ret1 (v := (.bool false)) rfl rfl rfl (⟨congrArg (fun z => Ending.returned (Value.bool z)) ((decide_eq_false (by omega)).symm), rfl⟩)))

theorem sGoodBoard_spec {w : World} {G : Pin} {v : Value} {rows : List ByteArray} (hP : Pins G w) (hv : RSl eStr G v rows) :
  Calls Tryd.prog 14 [(.agg [v].toArray)].toArray w fun e w' => ∃ G', e = .returned (.bool (gbB rows)) ∧ Ext noS G w G' w' := by
 refine s_enter (n := 67) Tryd.func14 Tryd.ntmps14 rfl rfl ?_
 have hX0 : Ext noS G w G w := Ext.refl hP
 have hm := hv.max
 refine s_seq (c_reg ?_)
 refine q1 rfl rfl rfl (o_box [v] (v := (.agg [v].toArray)) rfl rfl hX0.pins (fun b1 w2 hk3 hb4 hp5 hl6 => ?_))
 have hX7 := hX0.step hp5 hl6
 have hlo8 : w.heap.size ≤ b1 := by have := hX0.size; omega
 obtain ⟨G9, hle10, hX11, hbp12, hf13⟩ := hb4.shut hX7 hlo8
 refine qd rfl rfl rfl (r_assign (v := (.bool false)) rfl) (qe (s_then (s_seq (s_seq (c_reg ?_)))))
 refine qd rfl rfl rfl (r_fldp (k := 0) rfl Tryd.underlying26 rfl nz24 rfl) (qd rfl rfl rfl (r_ldp1 (u := v) ag24 rfl (hX11.pins _ _ _ (hbp12 0 _ rfl))) (qd rfl rfl rfl (run_len Tryd.underlying24 (v := v) rfl hv) (q1 rfl rfl rfl (o_call (vs := [(.int .i64 (rows.length : Int)), (.int .i64 1), (.int .i64 8)]) Tryd.func24 nm24 rfl rfl rfl ?_))))
 refine Calls.mono (l1In_spec hX11.pins) ?_
 rintro _ _ ⟨rfl, rfl⟩
 refine ⟨_, rfl, ?_⟩
 refine qd rfl rfl rfl (r_not rfl) (qe (s_then ?_))
 refine c_ifn rfl rfl (fun h14 => ?_) (fun h14 => ?_)
 replace h14 := of_decide_eq_true h14
 refine wp_skip (s_then (s_seq (s_seq (c_reg ?_))))
 refine qd rfl rfl rfl (r_assign (v := (.int .i64 0)) rfl) (qe (s_then ?_))
 refine s_blk (s_loop (fun (k : Nat) (en : Nat → Value) (W : World) => ∃ (env1 : Nat → Value) (p : Nat) (GL1 : Pin), en = (upd (upd env1 1 (.pointer (some ⟨b1, 0, none⟩))) 3 (.int .i64 (p : Int))) ∧ k = rows.length - p ∧ Ext noS G w GL1 W ∧ Pin.le G9 GL1 ∧ (p ≤ rows.length) ∧ (∀ i, i < p → RowOk (rows.getD i ByteArray.empty) (rows.getD 0 ByteArray.empty).size) ∧ (p = 0 ∨ 1 ≤ (rows.getD 0 ByteArray.empty).size ∧ (rows.getD 0 ByteArray.empty).size ≤ 8)) _ ⟨_, 0, G9, (packS (x := 3) (pack1 (x := 1) rfl) rfl), rfl, hX11, Pin.le_refl _, Nat.zero_le _, (fun i hi => absurd hi (Nat.not_lt_zero i)), (Or.inl rfl)⟩ ?_)
 rintro k15 _ w16 ⟨env1, p, GL1, rfl, hk17, hX18, hlek15, hi, hr, hw⟩
 refine s_seq (s_seq (c_reg ?_))
 refine qd rfl rfl rfl (r_move (v := (.int .i64 (p : Int))) rfl) (qd rfl rfl rfl (r_fldp (k := 0) rfl Tryd.underlying26 rfl nz24 rfl) (qd rfl rfl rfl (r_ldp1 (u := v) ag24 rfl ((Pins.of_le hX18.pins hlek15) _ _ _ (hbp12 0 _ rfl))) (qd rfl rfl rfl (run_len Tryd.underlying24 (v := v) rfl hv) (qd rfl rfl rfl (r_lss rfl rfl) (qe (s_then ?_))))))
 refine c_ifd (p := ((p : Int) : Int) < (rows.length : Int)) rfl rfl (fun h19 => ?_) (fun h19 => ?_)
 refine wp_skip (s_then (s_seq ?_))
 refine s_blk (s_seq (s_seq ?_))
 refine c_draw (S := fun wz => Pins GL1 wz) (last := 22) (by kernel_rfl) rfl ?_
 have hl20 : Below w16.heap.size w16 w16.drew := (Below.refl _ _).drew
 have hp21 := hX18.pins.below hl20
 have hX22 := hX18.step hp21 hl20
 refine dr_take (i := 0) rfl rfl rfl (want_none rfl _) (by kernel_rfl) (fun _ _ => r_fldp (k := 0) rfl Tryd.underlying26 rfl nz24 rfl) hX22.pins (dr_take (i := 1) rfl rfl rfl (want_none rfl _) (by kernel_rfl) (fun _ hS => r_ldp1 (u := v) ag24 rfl ((Pins.of_le hS hlek15) _ _ _ (hbp12 0 _ rfl))) hX22.pins (dr_take (i := 2) rfl rfl rfl (want_none rfl _) (by kernel_rfl) (fun _ _ => r_move (v := (.int .i64 (p : Int))) rfl) hX22.pins (dr_take (i := 3) rfl rfl rfl (want_none rfl _) (by kernel_rfl) (fun _ _ => run_idx Tryd.underlying24 sz9 (v := v) rfl rfl hv (by omega) (by omega)) hX22.pins (dr_take (i := 4) rfl rfl rfl (want_none rfl _) (by kernel_rfl) (fun _ hS => run_load_str (r := rows.getD p ByteArray.empty) rfl ag9 (z := (p : Int)) rfl hv (Pins.of_le hS (Pin.le_trans hle10 hlek15)) (by omega) (by omega)) hX22.pins (dr_take (i := 5) rfl rfl rfl (want_none rfl _) (by kernel_rfl) (fun _ _ => r_lenS Tryd.underlying9 rfl) hX22.pins (dr_one (i := 6) (by kernel_rfl) (drOp1 (i := 6) rfl rfl rfl (want_none rfl _) (o_call (vs := [(.int .i64 ((rows.getD p ByteArray.empty).size : Int)), (.int .i64 1), (.int .i64 8)]) Tryd.func24 nm24 rfl rfl rfl ?_))))))))
 refine Calls.mono (l1In_spec hX22.pins) ?_
 rintro _ _ ⟨rfl, rfl⟩
 refine ⟨_, rfl, ?_⟩
 refine ⟨fun _ => hX22.pins, ?_⟩
 refine dr_take (i := 7) rfl rfl rfl (want_none rfl _) (by kernel_rfl) (fun _ _ => r_not rfl) hX22.pins (dr_take (i := 8) rfl rfl rfl (want_none rfl _) (by kernel_rfl) (fun _ _ => r_move (v := (.bool (!(decide ((1 : Int) ≤ ((rows.getD p ByteArray.empty).size : Int) ∧ (((rows.getD p ByteArray.empty).size : Int) : Int) ≤ 8))))) rfl) hX22.pins (drbn (t := 25) rfl (fun h23 => ?_) (fun h23 => ?_)))
 replace h23 := of_decide_eq_true h23
 refine dr_take (i := 9) rfl rfl rfl (want_yes rfl rfl rfl rfl) (by kernel_rfl) (fun _ _ => r_fldp (k := 0) rfl Tryd.underlying26 rfl nz24 rfl) hX22.pins (dr_take (i := 10) rfl rfl rfl (want_yes rfl rfl rfl rfl) (by kernel_rfl) (fun _ hS => r_ldp1 (u := v) ag24 rfl ((Pins.of_le hS hlek15) _ _ _ (hbp12 0 _ rfl))) hX22.pins (dr_take (i := 11) rfl rfl rfl (want_yes rfl rfl rfl rfl) (by kernel_rfl) (fun _ _ => r_move (v := (.int .i64 (p : Int))) rfl) hX22.pins (dr_take (i := 12) rfl rfl rfl (want_yes rfl rfl rfl rfl) (by kernel_rfl) (fun _ _ => run_idx Tryd.underlying24 sz9 (v := v) rfl rfl hv (by omega) (by omega)) hX22.pins (dr_take (i := 13) rfl rfl rfl (want_yes rfl rfl rfl rfl) (by kernel_rfl) (fun _ hS => run_load_str (r := rows.getD p ByteArray.empty) rfl ag9 (z := (p : Int)) rfl hv (Pins.of_le hS (Pin.le_trans hle10 hlek15)) (by omega) (by omega)) hX22.pins (dr_take (i := 14) rfl rfl rfl (want_yes rfl rfl rfl rfl) (by kernel_rfl) (fun _ _ => r_lenS Tryd.underlying9 rfl) hX22.pins (dr_take (i := 15) rfl rfl rfl (want_yes rfl rfl rfl rfl) (by kernel_rfl) (fun _ _ => r_fldp (k := 0) rfl Tryd.underlying26 rfl nz24 rfl) hX22.pins (dr_take (i := 16) rfl rfl rfl (want_yes rfl rfl rfl rfl) (by kernel_rfl) (fun _ hS => r_ldp1 (u := v) ag24 rfl ((Pins.of_le hS hlek15) _ _ _ (hbp12 0 _ rfl))) hX22.pins (dr_take (i := 17) rfl rfl rfl (want_yes rfl rfl rfl rfl) (by kernel_rfl) (fun _ _ => run_idx Tryd.underlying24 sz9 (v := v) rfl rfl hv (by omega) (by omega)) hX22.pins (dr_take (i := 18) rfl rfl rfl (want_yes rfl rfl rfl rfl) (by kernel_rfl) (fun _ hS => run_load_str (r := rows.getD 0 ByteArray.empty) rfl ag9 (z := 0) rfl hv (Pins.of_le hS (Pin.le_trans hle10 hlek15)) (by omega) (by omega)) hX22.pins (dr_take (i := 19) rfl rfl rfl (want_yes rfl rfl rfl rfl) (by kernel_rfl) (fun _ _ => r_lenS Tryd.underlying9 rfl) hX22.pins (dr_take (i := 20) rfl rfl rfl (want_yes rfl rfl rfl rfl) (by kernel_rfl) (fun _ _ => r_neq rfl rfl) hX22.pins (dr_take (i := 21) rfl rfl rfl (want_none rfl _) (by kernel_rfl) (fun _ _ => r_pickF (v := (.bool (decide ((((rows.getD p ByteArray.empty).size : Int) : Int) ≠ ((rows.getD 0 ByteArray.empty).size : Int))))) rfl rfl) hX22.pins (dr_end (by kernel_rfl) (s_then (c_ifd (p := (((rows.getD p ByteArray.empty).size : Int) : Int) ≠ ((rows.getD 0 ByteArray.empty).size : Int)) rfl rfl (fun h24 => ?_) (fun h24 => ?_))))))))))))))))
 refine s_seq (c_reg ?_)
 refine qd rfl rfl rfl (r_assign (v := (.bool false)) rfl) (qe (s_then ?_))
 exact wp_ret (s_ret (c_ret1 (v := (.bool false)) rfl rfl rfl (⟨_, congrArg (fun z => Ending.returned (Value.bool z)) (by first | exact (gb_row (i := p) (by omega) (fun z => by have := z.1; have e : (rows.getD p ByteArray.empty).size = (rows.getD 0 ByteArray.empty).size := this; omega)).symm | exact (decP_false.2 (fun g => by have a := g.eq p (by omega); have b := g.wd; have a2 : (rows.getD p ByteArray.empty).size = (rows.getD 0 ByteArray.empty).size := a; have b2 : 1 ≤ (rows.getD 0 ByteArray.empty).size ∧ (rows.getD 0 ByteArray.empty).size ≤ 8 := b; omega)).symm), hX22⟩)))
 refine wp_skip (s_then (s_seq (c_reg ?_)))
 refine qd rfl rfl rfl (r_assign (v := (.int .i64 0)) rfl) (qe (s_then ?_))
 refine s_blk (s_loop (fun (k : Nat) (en : Nat → Value) (W : World) => ∃ (env1 : Nat → Value) (q9 : Nat) (GL2 : Pin), en = (upd (upd (upd env1 1 (.pointer (some ⟨b1, 0, none⟩))) 3 (.int .i64 (p : Int))) 4 (.int .i64 (q9 : Int))) ∧ k = (rows.getD p ByteArray.empty).size - q9 ∧ Ext noS G w GL2 W ∧ Pin.le GL1 GL2 ∧ (q9 ≤ (rows.getD p ByteArray.empty).size) ∧ (∀ q, q < q9 → ((sB (rows.getD p ByteArray.empty) q).toNat : Int) = 46 ∨ ((sB (rows.getD p ByteArray.empty) q).toNat : Int) = 35)) _ ⟨_, 0, GL1, (packS (x := 4) (packS (x := 3) (pack1 (x := 1) rfl) rfl) rfl), rfl, hX22, Pin.le_refl _, Nat.zero_le _, (fun i hi => absurd hi (Nat.not_lt_zero i))⟩ ?_)
 rintro k25 _ w26 ⟨env1, q9, GL2, rfl, hk27, hX28, hlek25, hkl, hk⟩
 refine s_seq (s_seq (c_reg ?_))
 refine qd rfl rfl rfl (r_move (v := (.int .i64 (q9 : Int))) rfl) (qd rfl rfl rfl (r_fldp (k := 0) rfl Tryd.underlying26 rfl nz24 rfl) (qd rfl rfl rfl (r_ldp1 (u := v) ag24 rfl ((Pins.of_le hX28.pins (Pin.le_trans hlek15 hlek25)) _ _ _ (hbp12 0 _ rfl))) (qd rfl rfl rfl (r_move (v := (.int .i64 (p : Int))) rfl) (qd rfl rfl rfl (run_idx Tryd.underlying24 sz9 (v := v) rfl rfl hv (by omega) (by omega)) (qd rfl rfl rfl (run_load_str (r := rows.getD p ByteArray.empty) rfl ag9 (z := (p : Int)) rfl hv (Pins.of_le hX28.pins (Pin.le_trans (Pin.le_trans hle10 hlek15) hlek25)) (by omega) (by omega)) (qd rfl rfl rfl (r_lenS Tryd.underlying9 rfl) (qd rfl rfl rfl (r_lss rfl rfl) (qe (s_then ?_)))))))))
 refine c_ifd (p := ((q9 : Int) : Int) < ((rows.getD p ByteArray.empty).size : Int)) rfl rfl (fun h29 => ?_) (fun h29 => ?_)
 refine wp_skip (s_then (s_seq ?_))
 refine s_blk (s_seq (c_reg ?_))
 refine qd rfl rfl rfl (r_fldp (k := 0) rfl Tryd.underlying26 rfl nz24 rfl) (qd rfl rfl rfl (r_ldp1 (u := v) ag24 rfl ((Pins.of_le hX28.pins (Pin.le_trans hlek15 hlek25)) _ _ _ (hbp12 0 _ rfl))) (qd rfl rfl rfl (r_move (v := (.int .i64 (p : Int))) rfl) (qd rfl rfl rfl (run_idx Tryd.underlying24 sz9 (v := v) rfl rfl hv (by omega) (by omega)) (qd rfl rfl rfl (run_load_str (r := rows.getD p ByteArray.empty) rfl ag9 (z := (p : Int)) rfl hv (Pins.of_le hX28.pins (Pin.le_trans (Pin.le_trans hle10 hlek15) hlek25)) (by omega) (by omega)) (qd rfl rfl rfl (r_move (v := (.int .i64 (q9 : Int))) rfl) (qd rfl rfl rfl (r_idxB Tryd.underlying9 rfl rfl (by omega) (by omega)) (qd rfl rfl rfl (r_neq rfl rfl) (qd rfl rfl rfl (r_move (v := (.bool (decide ((((sB (rows.getD p ByteArray.empty) q9).toNat : Int) : Int) ≠ 46)))) rfl) (qbd (p := (((sB (rows.getD p ByteArray.empty) q9).toNat : Int) : Int) ≠ 46) (t := 57) rfl (fun h30 => ?_) (fun h30 => ?_))))))))))
 refine qdg rfl rfl rfl rfl rfl rfl (r_fldp (k := 0) rfl Tryd.underlying26 rfl nz24 rfl) (qdg rfl rfl rfl rfl rfl rfl (r_ldp1 (u := v) ag24 rfl ((Pins.of_le hX28.pins (Pin.le_trans hlek15 hlek25)) _ _ _ (hbp12 0 _ rfl))) (qdg rfl rfl rfl rfl rfl rfl (r_move (v := (.int .i64 (p : Int))) rfl) (qdg rfl rfl rfl rfl rfl rfl (run_idx Tryd.underlying24 sz9 (v := v) rfl rfl hv (by omega) (by omega)) (qdg rfl rfl rfl rfl rfl rfl (run_load_str (r := rows.getD p ByteArray.empty) rfl ag9 (z := (p : Int)) rfl hv (Pins.of_le hX28.pins (Pin.le_trans (Pin.le_trans hle10 hlek15) hlek25)) (by omega) (by omega)) (qdg rfl rfl rfl rfl rfl rfl (r_move (v := (.int .i64 (q9 : Int))) rfl) (qdg rfl rfl rfl rfl rfl rfl (r_idxB Tryd.underlying9 rfl rfl (by omega) (by omega)) (qdg rfl rfl rfl rfl rfl rfl (r_neq rfl rfl) (qd rfl rfl rfl (r_pickT (v := (.bool (decide ((((sB (rows.getD p ByteArray.empty) q9).toNat : Int) : Int) ≠ 35)))) rfl rfl) (qe (s_then ?_))))))))))
 refine c_ifd (p := (((sB (rows.getD p ByteArray.empty) q9).toNat : Int) : Int) ≠ 35) rfl rfl (fun h31 => ?_) (fun h31 => ?_)
 refine s_seq (c_reg ?_)
 refine qd rfl rfl rfl (r_assign (v := (.bool false)) rfl) (qe (s_then ?_))
 exact wp_ret (s_ret (c_ret1 (v := (.bool false)) rfl rfl rfl (⟨_, congrArg (fun z => Ending.returned (Value.bool z)) (gb_row (i := p) (by omega) (fun z => by have := z.2 q9 (by show q9 < (rows.getD p ByteArray.empty).size; omega); unfold rwS at this; omega)).symm, hX28⟩)))
 refine wp_skip (s_blkN (s_then (c_reg ?_)))
 refine qd rfl rfl rfl (r_move (v := (.int .i64 (q9 : Int))) rfl) (qd rfl rfl rfl (r_add rfl rfl (by omega)) (qd rfl rfl rfl (r_assign (v := (.int .i64 ((q9 : Int) + 1))) rfl) (qe (s_lopN (⟨_, ?_, _, rfl, _, q9 + 1, GL2, (packS (x := 4) (packS (x := 3) (pack1 (x := 1) rfl) rfl) rfl), rfl, hX28, hlek25, (by omega), (fun q hq => if e : q = q9 then e ▸ (Or.inr (by omega)) else hk q (by omega))⟩)))))
 omega
 refine qs rfl rfl rfl rfl rfl rfl (qs rfl rfl rfl rfl rfl rfl (qs rfl rfl rfl rfl rfl rfl (qs rfl rfl rfl rfl rfl rfl (qs rfl rfl rfl rfl rfl rfl (qs rfl rfl rfl rfl rfl rfl (qs rfl rfl rfl rfl rfl rfl (qs rfl rfl rfl rfl rfl rfl (qd rfl rfl rfl (r_pickF (v := (.bool false)) rfl rfl) (qe (s_then ?_))))))))))
 refine c_ifF rfl rfl (wp_skip (s_blkN (s_then (c_reg ?_))))
 refine qd rfl rfl rfl (r_move (v := (.int .i64 (q9 : Int))) rfl) (qd rfl rfl rfl (r_add rfl rfl (by omega)) (qd rfl rfl rfl (r_assign (v := (.int .i64 ((q9 : Int) + 1))) rfl) (qe (s_lopN (⟨_, ?_, _, rfl, _, q9 + 1, GL2, (packS (x := 4) (packS (x := 3) (pack1 (x := 1) rfl) rfl) rfl), rfl, hX28, hlek25, (by omega), (fun q hq => if e : q = q9 then e ▸ (Or.inl (by omega)) else hk q (by omega))⟩)))))
 omega
 refine wp_exit (s_thenE (s_lopE (s_blkE (s_blkN (s_then (c_reg ?_))))))
 have hk2 : ∀ q, q < (rows.getD p ByteArray.empty).size → ((sB (rows.getD p ByteArray.empty) q).toNat : Int) = 46 ∨ ((sB (rows.getD p ByteArray.empty) q).toNat : Int) = 35 := fun q hq => hk q (by omega)
 refine qd rfl rfl rfl (r_move (v := (.int .i64 (p : Int))) rfl) (qd rfl rfl rfl (r_add rfl rfl (by omega)) (qd rfl rfl rfl (r_assign (v := (.int .i64 ((p : Int) + 1))) rfl) (qe (s_lopN (⟨_, ?_, _, rfl, _, p + 1, GL2, (packS (x := 3) (pack1 (x := 1) rfl) rfl), rfl, hX28, (Pin.le_trans hlek15 hlek25), (by omega), (fun q hq => if e : q = p then e ▸ ⟨by omega, hk2⟩ else hr q (by omega)), (by omega)⟩)))))
 omega
 replace h23 := of_decide_eq_false h23
 refine dr_skip (i := 9) rfl rfl (want_no rfl rfl rfl rfl rfl) (by kernel_rfl) hX22.pins (dr_skip (i := 10) rfl rfl (want_no rfl rfl rfl rfl rfl) (by kernel_rfl) hX22.pins (dr_skip (i := 11) rfl rfl (want_no rfl rfl rfl rfl rfl) (by kernel_rfl) hX22.pins (dr_skip (i := 12) rfl rfl (want_no rfl rfl rfl rfl rfl) (by kernel_rfl) hX22.pins (dr_skip (i := 13) rfl rfl (want_no rfl rfl rfl rfl rfl) (by kernel_rfl) hX22.pins (dr_skip (i := 14) rfl rfl (want_no rfl rfl rfl rfl rfl) (by kernel_rfl) hX22.pins (dr_skip (i := 15) rfl rfl (want_no rfl rfl rfl rfl rfl) (by kernel_rfl) hX22.pins (dr_skip (i := 16) rfl rfl (want_no rfl rfl rfl rfl rfl) (by kernel_rfl) hX22.pins (dr_skip (i := 17) rfl rfl (want_no rfl rfl rfl rfl rfl) (by kernel_rfl) hX22.pins (dr_skip (i := 18) rfl rfl (want_no rfl rfl rfl rfl rfl) (by kernel_rfl) hX22.pins (dr_skip (i := 19) rfl rfl (want_no rfl rfl rfl rfl rfl) (by kernel_rfl) hX22.pins (dr_skip (i := 20) rfl rfl (want_no rfl rfl rfl rfl rfl) (by kernel_rfl) hX22.pins (dr_take (i := 21) rfl rfl rfl (want_none rfl _) (by kernel_rfl) (fun _ _ => r_pickT (v := (.bool true)) rfl rfl) hX22.pins (dr_end (by kernel_rfl) (s_then (c_ifT rfl rfl (s_seq (c_reg ?_)))))))))))))))))
 refine qd rfl rfl rfl (r_assign (v := (.bool false)) rfl) (qe (s_then ?_))
 exact wp_ret (s_ret (c_ret1 (v := (.bool false)) rfl rfl rfl (⟨_, congrArg (fun z => Ending.returned (Value.bool z)) (by first | exact (gb_row (i := p) (by omega) (fun z => by have := z.1; have e : (rows.getD p ByteArray.empty).size = (rows.getD 0 ByteArray.empty).size := this; omega)).symm | exact (decP_false.2 (fun g => by have a := g.eq p (by omega); have b := g.wd; have a2 : (rows.getD p ByteArray.empty).size = (rows.getD 0 ByteArray.empty).size := a; have b2 : 1 ≤ (rows.getD 0 ByteArray.empty).size ∧ (rows.getD 0 ByteArray.empty).size ≤ 8 := b; omega)).symm), hX22⟩)))
 refine wp_exit (s_thenE (s_lopE (s_blkE (s_then (s_seq (c_reg ?_))))))
 refine qd rfl rfl rfl (r_assign (v := (.bool true)) rfl) (qe (s_then ?_))
 exact wp_ret (s_ret (c_ret1 (v := (.bool true)) rfl rfl rfl (⟨_, congrArg (fun z => Ending.returned (Value.bool z)) (gb_done (by omega) (by show 1 ≤ (rows.getD 0 ByteArray.empty).size ∧ (rows.getD 0 ByteArray.empty).size ≤ 8; omega) (fun q hq => hr q (by omega))).symm, hX18⟩)))
 replace h14 := of_decide_eq_false h14
 refine s_seq (c_reg ?_)
 refine qd rfl rfl rfl (r_assign (v := (.bool false)) rfl) (qe (s_then ?_))
 exact wp_ret (s_ret (c_ret1 (v := (.bool false)) rfl rfl rfl (⟨_, congrArg (fun z => Ending.returned (Value.bool z)) (by first | exact (gb_hi (by omega)).symm | exact (gb_wd (by show ¬ (1 ≤ (rows.getD 0 ByteArray.empty).size ∧ (rows.getD 0 ByteArray.empty).size ≤ 8); omega)).symm), hX11⟩)))

theorem cells_dspec {w : World} {G : Pin} {v : Value} {rows : List ByteArray} (hP : Pins G w) (hv : RSl eStr G v rows) (g : GbP rows) :
  Calls Tryd.prog 25 [(.agg [v].toArray)].toArray w fun e w' => ∃ (u : Value) (G' : Pin), e = .returned u ∧ DGrid 53 4 G' w' w.heap.size w'.heap.size u (cellsM rows) ∧ Ext noS G w G' w' := by
 refine s_enter (n := 42) Tryd.func25 Tryd.ntmps25 rfl rfl ?_
 have hX0 : Ext noS G w G w := Ext.refl hP
 have hm := hv.max
 have ghi := g.hi
 have gwd : 1 ≤ (rows.getD 0 ByteArray.empty).size ∧ (rows.getD 0 ByteArray.empty).size ≤ 8 := g.wd
 have geq : ∀ i, i < rows.length → (rows.getD i ByteArray.empty).size = (rows.getD 0 ByteArray.empty).size := g.eq
 have hlv0 : LvsB 4 G w w.heap.size w.heap.size [] := LvsB.nil
 refine s_seq (c_reg ?_)
 refine q1 rfl rfl rfl (o_box [v] (v := (.agg [v].toArray)) rfl rfl hX0.pins (fun b1 w2 hk3 hb4 hp5 hl6 => ?_))
 have hX7 := hX0.step hp5 hl6
 have hlv8 := (hlv0.below hl6).top
 have ha9 : ApLB [] (some b1) := ApLB.fresh hlv0 (fun k hk => by rw [(congrArg some hk3)] at hk; cases hk; exact Nat.le_refl _)
 have hlo10 : w.heap.size ≤ b1 := by have := hX0.size; omega
 obtain ⟨G11, hle12, hX13, hbp14, hf15⟩ := hb4.shut hX7 hlo10
 have hlv16 := hlv8.more hle12 hf15 ha9
 refine qd rfl rfl rfl (r_assign (v := (.slice none 0 0)) rfl) (qe (s_then (s_seq (c_reg ?_))))
 refine q1 rfl rfl rfl (o_build0 (E := eVal) (e := 53) Tryd.underlying51 sz53 hX13.pins (fun u17 w18 ho19 hp20 hl21 hk22 => ?_))
 have hX23 := hX13.step hp20 hl21
 have hlv24 := (hlv16.below hl21).top
 have ha25 : ApLB [] u17.ownBlock := ApLB.fresh hlv16 (fun k hk => by rw [hk22] at hk; cases hk; exact Nat.le_refl _)
 have ho26 : Own eVal 53 G11 w18 w.heap.size u17 ([]) := ho19.weaken hX13.size
 refine qd rfl rfl rfl (r_assign (v := u17) rfl) (qe (s_then (s_seq (s_seq (c_reg ?_)))))
 refine qd rfl rfl rfl (r_assign (v := (.int .i64 0)) rfl) (qe (s_then ?_))
 refine s_blk (s_loop (fun (k : Nat) (en : Nat → Value) (W : World) => ∃ (env1 : Nat → Value) (i : Nat) (ov : Value) (us : List Value) (LV : List LeafB) (GL1 : Pin), en = (upd (upd (upd (upd env1 1 (.pointer (some ⟨b1, 0, none⟩))) 2 (.slice none 0 0)) 3 ov) 4 (.int .i64 (i : Int))) ∧ k = rows.length - i ∧ Ext noS G w GL1 W ∧ Pin.le G11 GL1 ∧ (i ≤ rows.length) ∧ (us.length = i) ∧ (LV = lvG us ((List.range i).map fun i => lineC (rwS rows i).size (frB rows i))) ∧ (Own eVal 53 GL1 W w.heap.size ov (us)) ∧ (LvsB 4 GL1 W w.heap.size W.heap.size LV) ∧ (ApLB LV ov.ownBlock)) _ ⟨_, 0, u17, [], [], G11, (packS (x := 4) (packS (x := 3) (packS (x := 2) (pack1 (x := 1) rfl) rfl) rfl) rfl), rfl, hX23, Pin.le_refl _, Nat.zero_le _, rfl, rfl, ho26, hlv24, ha25⟩ ?_)
 rintro k27 _ w28 ⟨env1, i, ov, us, LV, GL1, rfl, hk29, hX30, hlek27, hi, hul, hLV, hw31, hlv32, ha33⟩
 refine s_seq (s_seq (c_reg ?_))
 refine qd rfl rfl rfl (r_move (v := (.int .i64 (i : Int))) rfl) (qd rfl rfl rfl (r_fldp (k := 0) rfl Tryd.underlying26 rfl nz24 rfl) (qd rfl rfl rfl (r_ldp1 (u := v) ag24 rfl ((Pins.of_le hX30.pins hlek27) _ _ _ (hbp14 0 _ rfl))) (qd rfl rfl rfl (run_len Tryd.underlying24 (v := v) rfl hv) (qd rfl rfl rfl (r_lss rfl rfl) (qe (s_then ?_))))))
 refine c_ifd (p := ((i : Int) : Int) < (rows.length : Int)) rfl rfl (fun h34 => ?_) (fun h34 => ?_)
 have hri := geq i (by omega)
 refine wp_skip (s_then (s_seq ?_))
 refine s_blk (s_seq (c_reg ?_))
 refine q1 rfl rfl rfl (o_build0 (E := eBool) (e := 4) Tryd.underlying53 sz4 hX30.pins (fun u35 w36 ho37 hp38 hl39 hk40 => ?_))
 have hX41 := hX30.step hp38 hl39
 have ho42 := hw31.below hl39
 have hlv43 := (hlv32.below hl39).top
 have ha44 : Apart u35.ownBlock ov.ownBlock := new_ne_own hk40 hw31.lt
 have ha45 : ApLB LV u35.ownBlock := ApLB.fresh hlv32 (fun k hk => by rw [hk40] at hk; cases hk; exact Nat.le_refl _)
 have ho46 : Own eBool 4 GL1 w36 w.heap.size u35 ([]) := ho37.weaken hX30.size
 refine qd rfl rfl rfl (r_assign (v := u35) rfl) (qe (s_then (s_seq (s_seq (c_reg ?_)))))
 refine qd rfl rfl rfl (r_assign (v := (.int .i64 0)) rfl) (qe (s_then ?_))
 refine s_blk (s_loop (fun (k : Nat) (en : Nat → Value) (W : World) => ∃ (env1 : Nat → Value) (q9 : Nat) (rv : Value) (rs : List Bool) (GL2 : Pin), en = (upd (upd (upd (upd (upd (upd env1 1 (.pointer (some ⟨b1, 0, none⟩))) 2 (.slice none 0 0)) 3 ov) 4 (.int .i64 (i : Int))) 5 rv) 6 (.int .i64 (q9 : Int))) ∧ k = (rows.getD i ByteArray.empty).size - q9 ∧ Ext noS G w GL2 W ∧ Pin.le GL1 GL2 ∧ (q9 ≤ (rows.getD i ByteArray.empty).size) ∧ (rs = lineC q9 (frB rows i)) ∧ (rs.length = q9) ∧ (Own eBool 4 GL2 W w.heap.size rv (rs)) ∧ (Own eVal 53 GL2 W w.heap.size ov (us)) ∧ (Apart rv.ownBlock ov.ownBlock) ∧ (LvsB 4 GL2 W w.heap.size W.heap.size LV) ∧ (ApLB LV rv.ownBlock) ∧ (ApLB LV ov.ownBlock)) _ ⟨_, 0, u35, [], GL1, (packS (x := 6) (packS (x := 5) (packS (x := 4) (packS (x := 3) (packS (x := 2) (pack1 (x := 1) rfl) rfl) rfl) rfl) rfl) rfl), rfl, hX41, Pin.le_refl _, Nat.zero_le _, rfl, rfl, ho46, ho42, ha44, hlv43, ha45, ha33⟩ ?_)
 rintro k47 _ w48 ⟨env1, q9, rv, rs, GL2, rfl, hk49, hX50, hlek47, hk, hrs, hrl, hw51, hw52, ha53, hlv54, ha55, ha56⟩
 refine s_seq (s_seq (c_reg ?_))
 refine qd rfl rfl rfl (r_move (v := (.int .i64 (q9 : Int))) rfl) (qd rfl rfl rfl (r_fldp (k := 0) rfl Tryd.underlying26 rfl nz24 rfl) (qd rfl rfl rfl (r_ldp1 (u := v) ag24 rfl ((Pins.of_le hX50.pins (Pin.le_trans hlek27 hlek47)) _ _ _ (hbp14 0 _ rfl))) (qd rfl rfl rfl (r_move (v := (.int .i64 (i : Int))) rfl) (qd rfl rfl rfl (run_idx Tryd.underlying24 sz9 (v := v) rfl rfl hv (by omega) (by omega)) (qd rfl rfl rfl (run_load_str (r := rows.getD i ByteArray.empty) rfl ag9 (z := (i : Int)) rfl hv (Pins.of_le hX50.pins (Pin.le_trans (Pin.le_trans hle12 hlek27) hlek47)) (by omega) (by omega)) (qd rfl rfl rfl (r_lenS Tryd.underlying9 rfl) (qd rfl rfl rfl (r_lss rfl rfl) (qe (s_then ?_)))))))))
 refine c_ifd (p := ((q9 : Int) : Int) < ((rows.getD i ByteArray.empty).size : Int)) rfl rfl (fun h57 => ?_) (fun h57 => ?_)
 refine wp_skip (s_then (s_seq ?_))
 refine s_blk (c_reg (qd rfl rfl rfl (r_move (v := rv) rfl) (qd rfl rfl rfl (r_fldp (k := 0) rfl Tryd.underlying26 rfl nz24 rfl) (qd rfl rfl rfl (r_ldp1 (u := v) ag24 rfl ((Pins.of_le hX50.pins (Pin.le_trans hlek27 hlek47)) _ _ _ (hbp14 0 _ rfl))) (qd rfl rfl rfl (r_move (v := (.int .i64 (i : Int))) rfl) (qd rfl rfl rfl (run_idx Tryd.underlying24 sz9 (v := v) rfl rfl hv (by omega) (by omega)) (qd rfl rfl rfl (run_load_str (r := rows.getD i ByteArray.empty) rfl ag9 (z := (i : Int)) rfl hv (Pins.of_le hX50.pins (Pin.le_trans (Pin.le_trans hle12 hlek27) hlek47)) (by omega) (by omega)) (qd rfl rfl rfl (r_move (v := (.int .i64 (q9 : Int))) rfl) (qd rfl rfl rfl (r_idxB Tryd.underlying9 rfl rfl (by omega) (by omega)) (qd rfl rfl rfl (r_eql rfl rfl) (q1 rfl rfl rfl (o_buildF (E := eBool) (e := 4) [(.bool (decide ((((sB (rows.getD i ByteArray.empty) q9).toNat : Int) : Int) = 46)))] [decide ((((sB (rows.getD i ByteArray.empty) q9).toNat : Int) : Int) = 46)] Tryd.underlying53 sz4 zr4 (by exact reps1 (by rfl)) (ones1 (by rfl)) rfl rfl rfl rfl (by decide) hX50.pins (fun u58 w59 ho60 hp61 hl62 hk63 => ?_)))))))))))))
 have hX64 := hX50.step hp61 hl62
 have ho65 := hw51.below hl62
 have ho66 := hw52.below hl62
 have hlv67 := (hlv54.below hl62).top
 have ha70 : ApLB LV u58.ownBlock := ApLB.fresh hlv54 (fun k hk => by rw [hk63] at hk; cases hk; exact Nat.le_refl _)
 have ho71 : Own eBool 4 GL2 w59 w.heap.size u58 ([decide ((((sB (rows.getD i ByteArray.empty) q9).toNat : Int) : Int) = 46)]) := ho60.weaken hX50.size
 refine q1 rfl rfl rfl (o_append (E := eBool) (v := rv) (u := u58) 1 Tryd.underlying53 ap4 (by decide) rfl rfl hX64.pins ho65 ho71.src (by first | omega | (rw [List.nil_append]; omega) | (rw [List.length_nil]; omega) | (rw [List.length_append]; omega) | (simp; done) | (simp; omega) | (simp only [List.length_append, List.length_cons, List.length_nil]; omega)) (by first | omega | (rw [List.nil_append]; omega) | (rw [List.length_nil]; omega) | (rw [List.length_append]; omega) | (simp; done) | (simp; omega) | (simp only [List.length_append, List.length_cons, List.length_nil]; omega)) (hX64.size) (fun u72 w73 ho74 hp75 hg76 hw77 => ?_))
 have hX78 := hX64.write hp75 hg76 ((lo_own ho65))
 have ho79 := ho66.keptA hg76 ha53.symm
 have hlv81 := (hlv67.kept hg76 ha55).top
 have ha82 : Apart ov.ownBlock u72.ownBlock := app_ne_own ha53.symm hw77 ho66.lt
 have ha84 : ApLB LV u72.ownBlock := ApLB.app hlv67 ha55 hw77
 have hm85 : (rs ++ ([decide ((((sB (rows.getD i ByteArray.empty) q9).toNat : Int) : Int) = 46)])).length = rs.length + 1 := List.length_append
 refine qd rfl rfl rfl (r_assign (v := u72) rfl) (qe (s_blkN (s_then (c_reg ?_))))
 refine qd rfl rfl rfl (r_move (v := (.int .i64 (q9 : Int))) rfl) (qd rfl rfl rfl (r_add rfl rfl (by omega)) (qd rfl rfl rfl (r_assign (v := (.int .i64 ((q9 : Int) + 1))) rfl) (qe (s_lopN (⟨_, ?_, _, rfl, _, q9 + 1, u72, rs ++ ([decide ((((sB (rows.getD i ByteArray.empty) q9).toNat : Int) : Int) = 46)]), GL2, (packS (x := 6) (packS (x := 5) (packS (x := 4) (packS (x := 3) (packS (x := 2) (pack1 (x := 1) rfl) rfl) rfl) rfl) rfl) rfl), rfl, hX78, hlek47, (by omega), (by rw [hrs, lineC_succ]; rfl), (by simp [hrl]), ho74, ho79, ha82.symm, hlv81, ha84, ha56⟩)))))
 omega
 refine wp_exit (s_thenE (s_lopE (s_blkE (s_then (c_reg ?_)))))
 refine qd rfl rfl rfl (r_move (v := ov) rfl) (qd rfl rfl rfl (r_move (v := rv) rfl) (q1 rfl rfl rfl (o_buildF (E := eVal) (e := 53) [rv] [rv] Tryd.underlying51 sz53 zr53 (by exact reps1 (⟨rfl, hw51.one⟩)) (ones1 hw51.one) rfl rfl rfl rfl (by decide) hX50.pins (fun u86 w87 ho88 hp89 hl90 hk91 => ?_))))
 have hX92 := hX50.step hp89 hl90
 have ho93 := hw51.below hl90
 have ho94 := hw52.below hl90
 have hlv95 := (hlv54.below hl90).top
 have ha98 : ApLB LV u86.ownBlock := ApLB.fresh hlv54 (fun k hk => by rw [hk91] at hk; cases hk; exact Nat.le_refl _)
 have ho99 : Own eVal 53 GL2 w87 w.heap.size u86 ([rv]) := ho88.weaken hX50.size
 refine q1 rfl rfl rfl (o_append (E := eVal) (v := ov) (u := u86) 24 Tryd.underlying51 ap53 (by decide) rfl rfl hX92.pins ho94 ho99.src (by first | omega | (rw [List.nil_append]; omega) | (rw [List.length_nil]; omega) | (rw [List.length_append]; omega) | (simp; done) | (simp; omega) | (simp only [List.length_append, List.length_cons, List.length_nil]; omega)) (by first | omega | (rw [List.nil_append]; omega) | (rw [List.length_nil]; omega) | (rw [List.length_append]; omega) | (simp; done) | (simp; omega) | (simp only [List.length_append, List.length_cons, List.length_nil]; omega)) (hX92.size) (fun u100 w101 ho102 hp103 hg104 hw105 => ?_))
 have hX106 := hX92.write hp103 hg104 ((lo_own ho94))
 have ho107 := ho93.keptA hg104 ha53
 have hlv109 := (hlv95.kept hg104 ha56).top
 have ha110 : Apart rv.ownBlock u100.ownBlock := app_ne_own ha53 hw105 ho93.lt
 have ha112 : ApLB LV u100.ownBlock := ApLB.app hlv95 ha56 hw105
 have hm113 : (us ++ ([rv])).length = us.length + 1 := List.length_append
 refine qd rfl rfl rfl (r_assign (v := u100) rfl) (qe (s_blkN (s_then (c_reg ?_))))
 refine qd rfl rfl rfl (r_move (v := (.int .i64 (i : Int))) rfl) (qd rfl rfl rfl (r_add rfl rfl (by omega)) (qd rfl rfl rfl (r_assign (v := (.int .i64 ((i : Int) + 1))) rfl) (qe (s_lopN ?_))))
 have hlv114 := hlv109.add ho107 ha55
 have ha115 : ApLB (LV ++ [(rv, rs)]) u100.ownBlock := ha112.add ha110
 refine ⟨_, ?_, _, rfl, _, i + 1, u100, us ++ ([rv]), (LV ++ [(rv, rs)]), GL2, (packS (x := 4) (packS (x := 3) (packS (x := 2) (pack1 (x := 1) rfl) rfl) rfl) rfl), rfl, hX106, (Pin.le_trans hlek27 hlek47), (by omega), (by simp [hul]), (by rw [hLV, hrs, List.range_succ, List.map_append]; exact (lvG_snoc _ _ (by simp [hul])).symm.trans (by rw [show q9 = (rows.getD i ByteArray.empty).size by omega]; rfl)), ho102, hlv114, ha115⟩
 omega
 refine wp_exit (s_thenE (s_lopE (s_blkE (s_then (s_seq (c_reg ?_))))))
 refine qd rfl rfl rfl (r_move (v := ov) rfl) (qd rfl rfl rfl (r_assign (v := ov) rfl) (qe (s_then ?_)))
 refine wp_ret (s_ret (c_ret1 (v := ov) rfl rfl rfl ?_))
 have hin : i = rows.length := by omega
 subst hin
 exact ⟨_, _, rfl, DGrid.make (by rw [cells_len, hul]) hw31 (hLV ▸ hlv32) (hLV ▸ ha33), hX30⟩

theorem cells_spec {w : World} {G : Pin} {v : Value} {rows : List ByteArray} (hP : Pins G w) (hv : RSl eStr G v rows) (g : GbP rows) :
  Calls Tryd.prog 25 [(.agg [v].toArray)].toArray w fun e w' => ∃ (u : Value) (G' : Pin), e = .returned u ∧ RSl (eSl eBool) G' u (cellsM rows) ∧ Ext noS G w G' w' := by
 refine (cells_dspec hP hv g).mono ?_
 rintro e w' ⟨u, G', rfl, hd, hx⟩
 obtain ⟨G2, hr, hx2⟩ := hd.give hx
 exact ⟨u, G2, rfl, hr, hx2⟩

theorem is21_spec {w : World} {G : Pin} {v : Value} {rows : List ByteArray} {r c : Int} (hP : Pins G w) (hv : RSl (eSl eBool) G v (cellsM rows)) (g : GbP rows) :
  Calls Tryd.prog 26 [v, (.int .i64 r), (.int .i64 c)].toArray w fun e w' => ∃ G', e = .returned (.bool (frI rows r c)) ∧ Ext noS G w G' w' := by
 refine s_enter (n := 30) Tryd.func26 Tryd.ntmps26 rfl rfl ?_
 have hX0 : Ext noS G w G w := Ext.refl hP
 have hm := hv.max
 have hcl : (cellsM rows).length = rows.length := cells_len
 have ghi := g.hi
 have gwd : 1 ≤ (rows.getD 0 ByteArray.empty).size ∧ (rows.getD 0 ByteArray.empty).size ≤ 8 := g.wd
 have hcw : ∀ i, i < rows.length → ((cellsM rows).getD i []).length = (rows.getD 0 ByteArray.empty).size := fun i hi => cells_wd g hi
 have hc0 := hcw 0 (by omega)
 have hcr : 0 ≤ r → r < rows.length → ((cellsM rows).getD r.toNat []).length = (rows.getD 0 ByteArray.empty).size := fun h1 h2 => hcw _ (by omega)
 refine s_seq (c_reg ?_)
 refine qd rfl rfl rfl (r_assign (v := (.bool false)) rfl) (qe (s_then (s_seq (c_reg ?_))))
 refine qd rfl rfl rfl (r_move (v := (.int .i64 r)) rfl) (qd rfl rfl rfl (r_move (v := v) rfl) (qd rfl rfl rfl (run_len Tryd.underlying51 (v := v) rfl hv) (qd rfl rfl rfl (r_sub rfl rfl (by omega)) (q1 rfl rfl rfl (o_call (vs := [(.int .i64 r), (.int .i64 0), (.int .i64 (((cellsM rows).length : Int) - 1))]) Tryd.func24 nm24 rfl rfl rfl ?_)))))
 refine Calls.mono (l1In_spec hX0.pins) ?_
 rintro _ _ ⟨rfl, rfl⟩
 refine ⟨_, rfl, ?_⟩
 refine qd rfl rfl rfl (r_move (v := (.bool (decide ((0 : Int) ≤ r ∧ (r : Int) ≤ (((cellsM rows).length : Int) - 1))))) rfl) (qbd (p := ((0 : Int) ≤ r ∧ (r : Int) ≤ (((cellsM rows).length : Int) - 1))) (t := 12) rfl (fun h1 => ?_) (fun h1 => ?_))
 refine qdg rfl rfl rfl rfl rfl rfl (r_move (v := (.int .i64 c)) rfl) (qdg rfl rfl rfl rfl rfl rfl (r_move (v := v) rfl) (qdg rfl rfl rfl rfl rfl rfl (run_idx Tryd.underlying51 sz53 (v := v) rfl rfl hv (by omega) (by omega)) ?_))
 obtain ⟨u2, hr3, hl4⟩ := nm_sl (hv.at (z := 0) (by omega) (by omega)) (j := 0) rfl
 have hm5 := hr3.max
 refine qdg rfl rfl rfl rfl rfl rfl (hl4 ag53 rfl hX0.pins) (qdg rfl rfl rfl rfl rfl rfl (run_len Tryd.underlying53 (v := u2) rfl hr3) (qdg rfl rfl rfl rfl rfl rfl (r_sub rfl rfl (by omega)) (q1g rfl rfl rfl rfl rfl rfl (o_call (vs := [(.int .i64 c), (.int .i64 0), (.int .i64 ((((cellsM rows).getD 0 []).length : Int) - 1))]) Tryd.func24 nm24 rfl rfl rfl ?_))))
 refine Calls.mono (l1In_spec hX0.pins) ?_
 rintro _ _ ⟨rfl, rfl⟩
 refine ⟨_, rfl, ?_⟩
 refine qd rfl rfl rfl (r_pickT (v := (.bool (decide ((0 : Int) ≤ c ∧ (c : Int) ≤ ((((cellsM rows).getD 0 []).length : Int) - 1))))) rfl rfl) (qd rfl rfl rfl (r_move (v := (.bool (decide ((0 : Int) ≤ c ∧ (c : Int) ≤ ((((cellsM rows).getD 0 []).length : Int) - 1))))) rfl) (qbd (p := ((0 : Int) ≤ c ∧ (c : Int) ≤ ((((cellsM rows).getD 0 []).length : Int) - 1))) (t := 21) rfl (fun h6 => ?_) (fun h6 => ?_)))
 refine qdg rfl rfl rfl rfl rfl rfl (r_move (v := v) rfl) (qdg rfl rfl rfl rfl rfl rfl (r_move (v := (.int .i64 r)) rfl) ?_)
 try have hcr2 := hcr (by omega) (by omega)
 refine qdg rfl rfl rfl rfl rfl rfl (run_idx Tryd.underlying51 sz53 (v := v) rfl rfl hv (by omega) (by omega)) ?_
 obtain ⟨u7, hr8, hl9⟩ := nm_sl (hv.at (z := r) (by omega) (by omega)) (j := (r).toNat) rfl
 have hm10 := hr8.max
 refine qdg rfl rfl rfl rfl rfl rfl (hl9 ag53 rfl hX0.pins) (qdg rfl rfl rfl rfl rfl rfl (r_move (v := (.int .i64 c)) rfl) (qdg rfl rfl rfl rfl rfl rfl (run_idx Tryd.underlying53 sz4 (v := u7) rfl rfl hr8 (by omega) (by omega)) (qdg rfl rfl rfl rfl rfl rfl (run_load_bool (r := ((cellsM rows).getD (r).toNat []).getD (c).toNat false) rfl ag4 (z := c) rfl hr8 hX0.pins (by omega) (by omega)) (qd rfl rfl rfl (r_pickT (v := (.bool (((cellsM rows).getD (r).toNat []).getD (c).toNat false))) rfl rfl) (qd rfl rfl rfl (r_assign (v := (.bool (((cellsM rows).getD (r).toNat []).getD (c).toNat false))) rfl) (qe (s_then ?_)))))))
 exact wp_ret (s_ret (c_ret1 (v := (.bool (((cellsM rows).getD (r).toNat []).getD (c).toNat false))) rfl rfl rfl (⟨_, congrArg (fun z => Ending.returned (Value.bool z)) (is_in g (by omega) (by omega) (by omega) (by show c < ((rows.getD 0 ByteArray.empty).size : Int); omega)), hX0⟩)))
 refine qs rfl rfl rfl rfl rfl rfl (qs rfl rfl rfl rfl rfl rfl ?_)
 try have hcr2 := hcr (by omega) (by omega)
 refine qs rfl rfl rfl rfl rfl rfl (qs rfl rfl rfl rfl rfl rfl (qs rfl rfl rfl rfl rfl rfl (qs rfl rfl rfl rfl rfl rfl (qs rfl rfl rfl rfl rfl rfl (qd rfl rfl rfl (r_pickF (v := (.bool false)) rfl rfl) (qd rfl rfl rfl (r_assign (v := (.bool false)) rfl) (qe (s_then ?_))))))))
 exact wp_ret (s_ret (c_ret1 (v := (.bool false)) rfl rfl rfl (⟨_, congrArg (fun z => Ending.returned (Value.bool z)) (by first | exact (frI_out1 (by omega)).symm | exact (frI_out2 g (by omega) (by show ¬ ((0 : Int) ≤ c ∧ c ≤ ((rows.getD 0 ByteArray.empty).size : Int) - 1); omega)).symm), hX0⟩)))
 refine qs rfl rfl rfl rfl rfl rfl (qs rfl rfl rfl rfl rfl rfl (qs rfl rfl rfl rfl rfl rfl (qs rfl rfl rfl rfl rfl rfl (qs rfl rfl rfl rfl rfl rfl (qs rfl rfl rfl rfl rfl rfl (qs rfl rfl rfl rfl rfl rfl (qd rfl rfl rfl (r_pickF (v := (.bool false)) rfl rfl) (qd rfl rfl rfl (r_move (v := (.bool false)) rfl) (qs rfl rfl rfl rfl rfl rfl (qs rfl rfl rfl rfl rfl rfl ?_))))))))))
 try have hcr2 := hcr (by omega) (by omega)
 refine qs rfl rfl rfl rfl rfl rfl (qs rfl rfl rfl rfl rfl rfl (qs rfl rfl rfl rfl rfl rfl (qs rfl rfl rfl rfl rfl rfl (qs rfl rfl rfl rfl rfl rfl (qd rfl rfl rfl (r_pickF (v := (.bool false)) rfl rfl) (qd rfl rfl rfl (r_assign (v := (.bool false)) rfl) (qe (s_then ?_))))))))
 exact wp_ret (s_ret (c_ret1 (v := (.bool false)) rfl rfl rfl (⟨_, congrArg (fun z => Ending.returned (Value.bool z)) (by first | exact (frI_out1 (by omega)).symm | exact (frI_out2 g (by omega) (by show ¬ ((0 : Int) ≤ c ∧ c ≤ ((rows.getD 0 ByteArray.empty).size : Int) - 1); omega)).symm), hX0⟩)))

theorem board_spec {w : World} {G : Pin} {v : Value} {cells : List (List Bool)} (hP : Pins G w) (hv : RSl (eSl eBool) G v cells) (hb : cells.length ≤ 1000 ∧ ∀ i, i < cells.length → (cells.getD i []).length ≤ 1000) :
  Calls Tryd.prog 27 [v].toArray w fun e w' => ∃ (u : Value) (G' : Pin), e = .returned (.agg [u].toArray) ∧ RSl eStr G' u (bdM cells) ∧ Ext noS G w G' w' := by
 refine s_enter (n := 41) Tryd.func27 Tryd.ntmps27 rfl rfl ?_
 have hX0 : Ext noS G w G w := Ext.refl hP
 have hm := hv.max
 have hb1 := hb.1
 refine s_seq (c_reg ?_)
 refine q1 rfl rfl rfl (o_alloc [(.slice none 0 0)] zr26 rfl hX0.pins (fun b1 w2 hk3 hb4 hp5 hl6 => ?_))
 have hX7 := hX0.step hp5 hl6
 have hlo8 : w.heap.size ≤ b1 := by have := hX0.size; omega
 refine qe (s_then (s_seq (c_reg ?_)))
 refine qd rfl rfl rfl (r_build [(.slice none 0 0)] [(.slice none 0 0)] [] Tryd.underlying26 zr26 rfl pl26 rfl (fun _ h => by cases h) rfl) (q1 rfl rfl rfl (o_alloc [(.slice none 0 0)] zr26 rfl hX7.pins (fun b9 w10 hk11 hb12 hp13 hl14 => ?_)))
 have hX15 := hX7.step hp13 hl14
 have hb16 := hb4.below hl14
 have ha17 : Apart (some b9) (some b1) := new_ne_box (congrArg some hk11) hb4.lt
 have hlo18 : w.heap.size ≤ b9 := by have := hX7.size; omega
 refine q0 rfl rfl rfl (o_stp (cs' := [(.slice none 0 0)]) (us := [(.slice none 0 0)]) (v := (.agg [(.slice none 0 0)].toArray)) sz26 rfl rfl rfl (ones1 (by rfl)) hX15.pins hb12 (Nat.le_of_ble_eq_true rfl) rfl (fun w19 hb20 hp21 hg22 hz23 => ?_))
 have hX24 := hX15.write hp21 hg22 ((lo_box hlo18))
 have hb25 := hb16.keptA hg22 ha17.symm
 refine qe (s_then (s_seq (s_seq (c_reg ?_))))
 refine qd rfl rfl rfl (r_assign (v := (.int .i64 0)) rfl) (qe (s_then ?_))
 refine s_blk (s_loop (fun (k : Nat) (en : Nat → Value) (W : World) => ∃ (env1 : Nat → Value) (i : Nat) (ov : Value) (os : List ByteArray) (GL1 : Pin), en = (upd (upd (upd (upd env1 0 v) 2 (.pointer (some ⟨b1, 0, none⟩))) 3 (.pointer (some ⟨b9, 0, none⟩))) 4 (.int .i64 (i : Int))) ∧ k = cells.length - i ∧ Ext noS G w GL1 W ∧ Pin.le G GL1 ∧ (i ≤ cells.length) ∧ (os = (List.range i).map fun i => rowM (cells.getD i [])) ∧ (os.length = i) ∧ (Own eStr 9 GL1 W w.heap.size ov (os)) ∧ (Bx GL1 W b1 [(.slice none 0 0)]) ∧ (Bx GL1 W b9 [ov]) ∧ (Apart ov.ownBlock (some b1)) ∧ (Apart ov.ownBlock (some b9))) _ ⟨_, 0, (.slice none 0 0), [], G, (packS (x := 4) (packS (x := 3) (packS (x := 2) (pack1 (x := 0) rfl) rfl) rfl) rfl), rfl, hX24, Pin.le_refl _, Nat.zero_le _, rfl, rfl, (Own.nil _ _ _ _ _), hb25, hb20, apart_none, apart_none⟩ ?_)
 rintro k26 _ w27 ⟨env1, i, ov, os, GL1, rfl, hk28, hX29, hlek26, hi, hos, hol, hw30, hw31, hw32, ha33, ha34⟩
 refine s_seq (s_seq (c_reg ?_))
 refine qd rfl rfl rfl (r_move (v := (.int .i64 (i : Int))) rfl) (qd rfl rfl rfl (r_move (v := v) rfl) (qd rfl rfl rfl (run_len Tryd.underlying51 (v := v) rfl hv) (qd rfl rfl rfl (r_lss rfl rfl) (qe (s_then ?_)))))
 refine c_ifd (p := ((i : Int) : Int) < (cells.length : Int)) rfl rfl (fun h35 => ?_) (fun h35 => ?_)
 have hci := hb.2 i (by omega)
 refine wp_skip (s_then (s_seq ?_))
 refine s_blk (s_seq (c_reg ?_))
 refine qd rfl rfl rfl (r_assign (v := (.string (⟨#[]⟩ : ByteArray))) rfl) (qe (s_then (s_seq (s_seq (c_reg ?_)))))
 refine qd rfl rfl rfl (r_assign (v := (.int .i64 0)) rfl) (qe (s_then ?_))
 refine s_blk (s_loop (fun (k : Nat) (en : Nat → Value) (W : World) => ∃ (env1 : Nat → Value) (q9 : Nat) (s : ByteArray) (GL2 : Pin), en = (upd (upd (upd (upd (upd (upd env1 0 v) 2 (.pointer (some ⟨b1, 0, none⟩))) 3 (.pointer (some ⟨b9, 0, none⟩))) 4 (.int .i64 (i : Int))) 5 (.string s)) 6 (.int .i64 (q9 : Int))) ∧ k = (cells.getD i []).length - q9 ∧ Ext noS G w GL2 W ∧ Pin.le GL1 GL2 ∧ (q9 ≤ (cells.getD i []).length) ∧ (s = rowM ((cells.getD i []).take q9)) ∧ (Own eStr 9 GL2 W w.heap.size ov (os)) ∧ (Bx GL2 W b1 [(.slice none 0 0)]) ∧ (Bx GL2 W b9 [ov])) _ ⟨_, 0, (⟨#[]⟩ : ByteArray), GL1, (packS (x := 6) (packS (x := 5) (packS (x := 4) (packS (x := 3) (packS (x := 2) (pack1 (x := 0) rfl) rfl) rfl) rfl) rfl) rfl), rfl, hX29, Pin.le_refl _, Nat.zero_le _, rfl, hw30, hw31, hw32⟩ ?_)
 rintro k36 _ w37 ⟨env1, q9, s, GL2, rfl, hk38, hX39, hlek36, hq, hs, hw40, hw41, hw42⟩
 have hss : s.size = q9 := by rw [hs, row_size, List.length_take]; omega
 refine s_seq (s_seq (c_reg ?_))
 refine qd rfl rfl rfl (r_move (v := (.int .i64 (q9 : Int))) rfl) (qd rfl rfl rfl (r_move (v := v) rfl) (qd rfl rfl rfl (r_move (v := (.int .i64 (i : Int))) rfl) (qd rfl rfl rfl (run_idx Tryd.underlying51 sz53 (v := v) rfl rfl hv (by omega) (by omega)) ?_)))
 obtain ⟨u43, hr44, hl45⟩ := nm_sl (hv.at (z := (i : Int)) (by omega) (by omega)) (j := i) rfl
 have hm46 := hr44.max
 refine qd rfl rfl rfl (hl45 ag53 rfl (Pins.of_le hX39.pins (Pin.le_trans hlek26 hlek36))) (qd rfl rfl rfl (run_len Tryd.underlying53 (v := u43) rfl hr44) (qd rfl rfl rfl (r_lss rfl rfl) (qe (s_then ?_))))
 refine c_ifd (p := ((q9 : Int) : Int) < ((cells.getD i []).length : Int)) rfl rfl (fun h47 => ?_) (fun h47 => ?_)
 refine wp_skip (s_then (s_seq ?_))
 refine s_blk (s_seq (c_reg ?_))
 refine qd rfl rfl rfl (r_move (v := v) rfl) (qd rfl rfl rfl (r_move (v := (.int .i64 (i : Int))) rfl) (qd rfl rfl rfl (run_idx Tryd.underlying51 sz53 (v := v) rfl rfl hv (by omega) (by omega)) ?_))
 obtain ⟨u48, hr49, hl50⟩ := nm_sl (hv.at (z := (i : Int)) (by omega) (by omega)) (j := i) rfl
 have hm51 := hr49.max
 refine qd rfl rfl rfl (hl50 ag53 rfl (Pins.of_le hX39.pins (Pin.le_trans hlek26 hlek36))) (qd rfl rfl rfl (r_move (v := (.int .i64 (q9 : Int))) rfl) (qd rfl rfl rfl (run_idx Tryd.underlying53 sz4 (v := u48) rfl rfl hr49 (by omega) (by omega)) (qd rfl rfl rfl (run_load_bool (r := (cells.getD i []).getD q9 false) rfl ag4 (z := (q9 : Int)) rfl hr49 (Pins.of_le hX39.pins (Pin.le_trans hlek26 hlek36)) (by omega) (by omega)) (qe (s_then ?_)))))
 refine c_if rfl rfl (fun h52 => ?_) (fun h52 => ?_)
 refine c_reg (qd rfl rfl rfl (r_move (v := (.string s)) rfl) ?_)
 have hm53 : (⟨#[46]⟩ : ByteArray).size = 1 := rfl
 have hm54 : (s ++ (⟨#[46]⟩ : ByteArray)).size = s.size + (⟨#[46]⟩ : ByteArray).size := ByteArray.size_append
 refine qd rfl rfl rfl (r_addS rfl rfl (by omega)) (qd rfl rfl rfl (r_assign (v := (.string (s ++ (⟨#[46]⟩ : ByteArray)))) rfl) (qe (s_blkN (s_then (c_reg ?_)))))
 refine qd rfl rfl rfl (r_move (v := (.int .i64 (q9 : Int))) rfl) (qd rfl rfl rfl (r_add rfl rfl (by omega)) (qd rfl rfl rfl (r_assign (v := (.int .i64 ((q9 : Int) + 1))) rfl) (qe (s_lopN (⟨_, ?_, _, rfl, _, q9 + 1, s ++ (⟨#[46]⟩ : ByteArray), GL2, (packS (x := 6) (packS (x := 5) (packS (x := 4) (packS (x := 3) (packS (x := 2) (pack1 (x := 0) rfl) rfl) rfl) rfl) rfl) rfl), rfl, hX39, hlek36, (by omega), (row_step (b := true) (by omega) hs h52), hw40, hw41, hw42⟩)))))
 omega
 refine c_reg (qd rfl rfl rfl (r_move (v := (.string s)) rfl) ?_)
 have hm55 : (⟨#[35]⟩ : ByteArray).size = 1 := rfl
 have hm56 : (s ++ (⟨#[35]⟩ : ByteArray)).size = s.size + (⟨#[35]⟩ : ByteArray).size := ByteArray.size_append
 refine qd rfl rfl rfl (r_addS rfl rfl (by omega)) (qd rfl rfl rfl (r_assign (v := (.string (s ++ (⟨#[35]⟩ : ByteArray)))) rfl) (qe (s_blkN (s_then (c_reg ?_)))))
 refine qd rfl rfl rfl (r_move (v := (.int .i64 (q9 : Int))) rfl) (qd rfl rfl rfl (r_add rfl rfl (by omega)) (qd rfl rfl rfl (r_assign (v := (.int .i64 ((q9 : Int) + 1))) rfl) (qe (s_lopN (⟨_, ?_, _, rfl, _, q9 + 1, s ++ (⟨#[35]⟩ : ByteArray), GL2, (packS (x := 6) (packS (x := 5) (packS (x := 4) (packS (x := 3) (packS (x := 2) (pack1 (x := 0) rfl) rfl) rfl) rfl) rfl) rfl), rfl, hX39, hlek36, (by omega), (row_step (b := false) (by omega) hs h52), hw40, hw41, hw42⟩)))))
 omega
 refine wp_exit (s_thenE (s_lopE (s_blkE (s_then (c_reg ?_)))))
 refine qd rfl rfl rfl (r_fldp (k := 0) rfl Tryd.underlying26 rfl nz24 rfl) (qd rfl rfl rfl (r_ldp1 (u := ov) ag24 rfl (hw42.cell (o := 0) rfl)) (qd rfl rfl rfl (r_move (v := (.string s)) rfl) (q1 rfl rfl rfl (o_buildF (E := eStr) (e := 9) [(.string s)] [s] Tryd.underlying24 sz9 zr9 (by exact reps1 (by rfl)) (ones1 (by rfl)) rfl rfl rfl rfl (by decide) hX39.pins (fun u57 w58 ho59 hp60 hl61 hk62 => ?_)))))
 have hX63 := hX39.step hp60 hl61
 have ho64 := hw40.below hl61
 have hb65 := hw41.below hl61
 have hb66 := hw42.below hl61
 have ho70 : Own eStr 9 GL2 w58 w.heap.size u57 ([s]) := ho59.weaken hX39.size
 refine q1 rfl rfl rfl (o_append (E := eStr) (v := ov) (u := u57) 16 Tryd.underlying24 ap9 (by decide) rfl rfl hX63.pins ho64 ho70.src (by first | omega | (rw [List.nil_append]; omega) | (rw [List.length_nil]; omega) | (rw [List.length_append]; omega) | (simp; done) | (simp; omega) | (simp only [List.length_append, List.length_cons, List.length_nil]; omega)) (by first | omega | (rw [List.nil_append]; omega) | (rw [List.length_nil]; omega) | (rw [List.length_append]; omega) | (simp; done) | (simp; omega) | (simp only [List.length_append, List.length_cons, List.length_nil]; omega)) (hX63.size) (fun u71 w72 ho73 hp74 hg75 hw76 => ?_))
 have hX77 := hX63.write hp74 hg75 ((lo_own ho64))
 have hb79 := hb65.keptA hg75 ha33.symm
 have hb80 := hb66.keptA hg75 ha34.symm
 have ha82 : Apart (some b1) u71.ownBlock := app_ne_box ha33.symm hw76 hb65.lt
 have ha83 : Apart (some b9) u71.ownBlock := app_ne_box ha34.symm hw76 hb66.lt
 have hm84 : (os ++ ([s])).length = os.length + 1 := List.length_append
 refine qd rfl rfl rfl (r_fldp (k := 0) rfl Tryd.underlying26 rfl nz24 rfl) (q0 rfl rfl rfl (o_stp (cs' := [u71]) (us := [u71]) (v := u71) sz24 rfl rfl (cells1 ho73.one) (ones1 ho73.one) hX77.pins hb80 (Nat.le_of_ble_eq_true rfl) rfl (fun w85 hb86 hp87 hg88 hz89 => ?_)))
 have hX90 := hX77.write hp87 hg88 ((lo_box hlo18))
 have ho91 := ho73.keptA hg88 ha83.symm
 have hb92 := hb79.keptA hg88 ha17.symm
 refine qe (s_blkN (s_then (c_reg ?_)))
 refine qd rfl rfl rfl (r_move (v := (.int .i64 (i : Int))) rfl) (qd rfl rfl rfl (r_add rfl rfl (by omega)) (qd rfl rfl rfl (r_assign (v := (.int .i64 ((i : Int) + 1))) rfl) (qe (s_lopN (⟨_, ?_, _, rfl, _, i + 1, u71, os ++ ([s]), GL2, (packS (x := 4) (packS (x := 3) (packS (x := 2) (pack1 (x := 0) rfl) rfl) rfl) rfl), rfl, hX90, (Pin.le_trans hlek26 hlek36), (by omega), (by rw [hos, List.range_succ, List.map_append]; congr 1; show [_] = [rowM _]; rw [hs, List.take_of_length_le (by omega)]), (by simp [hol]), ho91, hb92, hb86, ha82.symm, ha83.symm⟩)))))
 omega
 refine wp_exit (s_thenE (s_lopE (s_blkE (s_then (s_seq (c_reg ?_))))))
 refine qd rfl rfl rfl (r_ldpA (cs := [ov]) ag26 sz26 rfl (fun j u hj => hw32.cell (by simpa using hj))) (q0 rfl rfl rfl (o_stp (cs' := [ov]) (us := [ov]) (v := (.agg [ov].toArray)) sz26 rfl rfl rfl (ones1 hw30.one) hX29.pins hw31 (Nat.le_of_ble_eq_true rfl) rfl (fun w93 hb94 hp95 hg96 hz97 => ?_)))
 have hX98 := hX29.write hp95 hg96 ((lo_box hlo8))
 have ho99 := hw30.keptA hg96 ha33
 refine qe (s_then ?_)
 refine wp_ret (s_ret (c_retc (cs := [ov]) rfl rfl rfl ag26 sz26 (fun j u hj => by rw [Nat.zero_add]; exact hb94.cell hj) ?_))
 obtain ⟨G101, hle104, hX103, hr102, hf105⟩ := ho99.sealed hX98
 have hin : i = cells.length := by omega
 subst hin
 exact ⟨_, _, rfl, (by rw [← bd_range, ← hos]; exact hr102), hX103⟩

end RM5
end Go.Proofs.YtajkbplgbikgdaaDoor

set_option maxRecDepth 20000
set_option maxHeartbeats 2000000
namespace Go.Proofs.YtajkbplgbikgdaaDoor
namespace RM6
open Go.RowKit Go.GL Go.Proofs
open RM5













theorem smoves_true {w : World} {G : Pin} {v : Value} {rows : List ByteArray} (hP : Pins G w) (hv : RSl eStr G v rows) (g : GbP rows) :
  Calls Tryd.prog 15 [(.agg [v].toArray), (.bool true)].toArray w fun e w' => ∃ (u : Value) (G' : Pin), e = .returned u ∧ RSl (eSl eStr) G' u (dmM rows true) ∧ Ext noS G w G' w' := by
 refine s_enter (n := 74) Tryd.func15 Tryd.ntmps15 rfl rfl ?_
 have hX0 : Ext noS G w G w := Ext.refl hP
 have hm := hv.max
 have ghi := g.hi
 have gwd : 1 ≤ (rows.getD 0 ByteArray.empty).size ∧ (rows.getD 0 ByteArray.empty).size ≤ 8 := g.wd
 have geq : ∀ i, i < rows.length → (rows.getD i ByteArray.empty).size = (rows.getD 0 ByteArray.empty).size := g.eq
 have hcl : (cellsM rows).length = rows.length := cells_len
 have hcw : ∀ i, i < rows.length → ((cellsM rows).getD i []).length = (rows.getD 0 ByteArray.empty).size := fun i hi => cells_wd g hi
 refine s_seq (c_reg ?_)
 refine q1 rfl rfl rfl (o_box [v] (v := (.agg [v].toArray)) rfl rfl hX0.pins (fun b1 w2 hk3 hb4 hp5 hl6 => ?_))
 have hX7 := hX0.step hp5 hl6
 have hlo8 : w.heap.size ≤ b1 := by have := hX0.size; omega
 obtain ⟨G9, hle10, hX11, hbp12, hf13⟩ := hb4.shut hX7 hlo8
 refine qd rfl rfl rfl (r_assign (v := (.slice none 0 0)) rfl) (qe (s_then (s_seq (c_reg ?_))))
 refine q1 rfl rfl rfl (o_build0 (E := (eSl eStr)) (e := 26) Tryd.underlying29 sz26 hX11.pins (fun u14 w15 ho16 hp17 hl18 hk19 => ?_))
 have hX20 := hX11.step hp17 hl18
 have ho21 : Own (eSl eStr) 26 G9 w15 w.heap.size u14 ([]) := ho16.weaken hX11.size
 refine qd rfl rfl rfl (r_assign (v := u14) rfl) (qe (s_then (s_seq (c_reg ?_))))
 refine qd rfl rfl rfl (r_ldpA (cs := [v]) ag26 sz26 rfl (fun j u hj => hX20.pins _ _ _ (hbp12 _ _ (by simpa using hj)))) (q1 rfl rfl rfl (o_call (vs := [(.agg [v].toArray)]) Tryd.func25 nm25 rfl rfl rfl ?_))
 refine Calls.mono (cells_spec hX20.pins (hv.mono hle10) g) ?_
 rintro _ w24 ⟨u22, G23, rfl, hd25, hx26⟩
 refine ⟨_, rfl, ?_⟩
 have hX27 := hX20.tr hx26
 have ho28 := ho21.ext hx26
 have hm29 := hd25.max
 refine qd rfl rfl rfl (r_assign (v := u22) rfl) (qe (s_then (s_seq (c_reg ?_))))
 refine qd rfl rfl rfl (r_assign (v := (.int .i64 0)) rfl) (qd rfl rfl rfl (r_assign (v := (.int .i64 1)) rfl) (qe (s_then (s_seq (s_seq (c_reg ?_))))))
 refine qd rfl rfl rfl (r_move (v := (.bool true)) rfl) (qe (s_then ?_))
 refine c_ifT rfl rfl (c_reg (qd rfl rfl rfl (r_assign (v := (.int .i64 1)) rfl) (qd rfl rfl rfl (r_assign (v := (.int .i64 0)) rfl) (qe (s_then (s_seq (s_seq (c_reg ?_))))))))
 refine qd rfl rfl rfl (r_assign (v := (.int .i64 0)) rfl) (qe (s_then ?_))
 refine s_blk (s_loop (fun (k : Nat) (en : Nat → Value) (W : World) => ∃ (env1 : Nat → Value) (i : Nat) (ov : Value) (os : List (List ByteArray)) (GL1 : Pin), en = (upd (upd (upd (upd (upd (upd (upd env1 2 (.pointer (some ⟨b1, 0, none⟩))) 4 (.slice none 0 0)) 5 ov) 6 u22) 7 (.int .i64 1)) 8 (.int .i64 0)) 9 (.int .i64 (i : Int))) ∧ k = rows.length - i ∧ Ext noS G w GL1 W ∧ Pin.le G23 GL1 ∧ (i ≤ rows.length) ∧ (os = dmAll rows true (fun r c => bdM (nextC rows true r c)) i) ∧ (os.length ≤ 8 * i) ∧ (Own (eSl eStr) 26 GL1 W w.heap.size ov (os))) _ ⟨_, 0, u14, [], G23, (packS (x := 9) (packS (x := 8) (packS (x := 7) (packS (x := 6) (packS (x := 5) (packS (x := 4) (pack1 (x := 2) rfl) rfl) rfl) rfl) rfl) rfl) rfl), rfl, hX27, Pin.le_refl _, Nat.zero_le _, rfl, (by simp), ho28⟩ ?_)
 rintro k30 _ w31 ⟨env1, i, ov, os, GL1, rfl, hk32, hX33, hlek30, hi, hos, hol, hw34⟩
 refine s_seq (s_seq (c_reg ?_))
 refine qd rfl rfl rfl (r_move (v := (.int .i64 (i : Int))) rfl) (qd rfl rfl rfl (r_move (v := u22) rfl) (qd rfl rfl rfl (run_len Tryd.underlying51 (v := u22) rfl hd25) (qd rfl rfl rfl (r_lss rfl rfl) (qe (s_then ?_)))))
 refine c_ifd (p := ((i : Int) : Int) < ((cellsM rows).length : Int)) rfl rfl (fun h35 => ?_) (fun h35 => ?_)
 have hci := hcw i (by omega)
 refine wp_skip (s_then (s_seq ?_))
 refine s_blk (s_seq (c_reg ?_))
 refine qd rfl rfl rfl (r_assign (v := (.int .i64 0)) rfl) (qe (s_then ?_))
 refine s_blk (s_loop (fun (k : Nat) (en : Nat → Value) (W : World) => ∃ (env1 : Nat → Value) (q9 : Nat) (ov2 : Value) (os2 : List (List ByteArray)) (GL2 : Pin), en = (upd (upd (upd (upd (upd (upd (upd (upd env1 2 (.pointer (some ⟨b1, 0, none⟩))) 4 (.slice none 0 0)) 5 ov2) 6 u22) 7 (.int .i64 1)) 8 (.int .i64 0)) 9 (.int .i64 (i : Int))) 10 (.int .i64 (q9 : Int))) ∧ k = ((cellsM rows).getD i []).length - q9 ∧ Ext noS G w GL2 W ∧ Pin.le GL1 GL2 ∧ (q9 ≤ ((cellsM rows).getD i []).length) ∧ (os2 = os ++ dmRow rows true (fun r c => bdM (nextC rows true r c)) i q9) ∧ (os2.length ≤ 8 * i + q9) ∧ (Own (eSl eStr) 26 GL2 W w.heap.size ov2 (os2))) _ ⟨_, 0, ov, os, GL1, (packS (x := 10) (packS (x := 9) (packS (x := 8) (packS (x := 7) (packS (x := 6) (packS (x := 5) (packS (x := 4) (pack1 (x := 2) rfl) rfl) rfl) rfl) rfl) rfl) rfl) rfl), rfl, hX33, Pin.le_refl _, Nat.zero_le _, (by simp [dmRow]), (by omega), hw34⟩ ?_)
 rintro k36 _ w37 ⟨env1, q9, ov2, os2, GL2, rfl, hk38, hX39, hlek36, hq, hos2, hol2, hw40⟩
 refine s_seq (s_seq (c_reg ?_))
 refine qd rfl rfl rfl (r_move (v := (.int .i64 (q9 : Int))) rfl) (qd rfl rfl rfl (r_move (v := u22) rfl) (qd rfl rfl rfl (r_move (v := (.int .i64 (i : Int))) rfl) (qd rfl rfl rfl (run_idx Tryd.underlying51 sz53 (v := u22) rfl rfl hd25 (by omega) (by omega)) ?_)))
 obtain ⟨u41, hr42, hl43⟩ := nm_sl (hd25.at (z := (i : Int)) (by omega) (by omega)) (j := i) rfl
 have hm44 := hr42.max
 refine qd rfl rfl rfl (hl43 ag53 rfl (Pins.of_le hX39.pins (Pin.le_trans hlek30 hlek36))) (qd rfl rfl rfl (run_len Tryd.underlying53 (v := u41) rfl hr42) (qd rfl rfl rfl (r_lss rfl rfl) (qe (s_then ?_))))
 refine c_ifd (p := ((q9 : Int) : Int) < (((cellsM rows).getD i []).length : Int)) rfl rfl (fun h45 => ?_) (fun h45 => ?_)
 refine wp_skip (s_then (s_seq ?_))
 refine s_blk (s_seq (s_seq (c_reg ?_)))
 refine qd rfl rfl rfl (r_move (v := u22) rfl) (qd rfl rfl rfl (r_move (v := (.int .i64 (i : Int))) rfl) (qd rfl rfl rfl (run_idx Tryd.underlying51 sz53 (v := u22) rfl rfl hd25 (by omega) (by omega)) ?_))
 obtain ⟨u46, hr47, hl48⟩ := nm_sl (hd25.at (z := (i : Int)) (by omega) (by omega)) (j := i) rfl
 have hm49 := hr47.max
 refine qd rfl rfl rfl (hl48 ag53 rfl (Pins.of_le hX39.pins (Pin.le_trans hlek30 hlek36))) (qd rfl rfl rfl (r_move (v := (.int .i64 (q9 : Int))) rfl) (qd rfl rfl rfl (run_idx Tryd.underlying53 sz4 (v := u46) rfl rfl hr47 (by omega) (by omega)) (qd rfl rfl rfl (run_load_bool (r := ((cellsM rows).getD i []).getD q9 false) rfl ag4 (z := (q9 : Int)) rfl hr47 (Pins.of_le hX39.pins (Pin.le_trans hlek30 hlek36)) (by omega) (by omega)) (qd rfl rfl rfl (r_not rfl) (qd rfl rfl rfl (r_move (v := (.bool (!(((cellsM rows).getD i []).getD q9 false)))) rfl) (qbn (t := 39) rfl (fun h50 => ?_) (fun h50 => ?_)))))))
 refine qdg rfl rfl rfl rfl rfl rfl (r_move (v := u22) rfl) (qdg rfl rfl rfl rfl rfl rfl (r_move (v := (.int .i64 (i : Int))) rfl) (qdg rfl rfl rfl rfl rfl rfl (r_move (v := (.int .i64 1)) rfl) (qdg rfl rfl rfl rfl rfl rfl (r_add rfl rfl (by omega)) (qdg rfl rfl rfl rfl rfl rfl (r_move (v := (.int .i64 (q9 : Int))) rfl) (qdg rfl rfl rfl rfl rfl rfl (r_move (v := (.int .i64 0)) rfl) (qdg rfl rfl rfl rfl rfl rfl (r_add rfl rfl (by omega)) (q1g rfl rfl rfl rfl rfl rfl (o_call (vs := [u22, (.int .i64 ((i : Int) + 1)), (.int .i64 ((q9 : Int) + 0))]) Tryd.func26 nm26 rfl rfl rfl ?_))))))))
 refine Calls.mono (is21_spec (r := ((i : Int) + 1)) (c := ((q9 : Int) + 0)) hX39.pins (hd25.mono (Pin.le_trans hlek30 hlek36)) g) ?_
 rintro _ w52 ⟨G51, rfl, hx53⟩
 refine ⟨_, rfl, ?_⟩
 have hX54 := hX39.tr hx53
 have ho55 := hw40.ext hx53
 refine qdg rfl rfl rfl rfl rfl rfl (r_not rfl) (qd rfl rfl rfl (r_pickF (v := (.bool (!(frI rows ((i : Int) + 1) ((q9 : Int) + 0))))) rfl rfl) (qe (s_then ?_)))
 refine c_ifn rfl rfl (fun h56 => ?_) (fun h56 => ?_)
 refine wp_skip (s_then (s_seq (c_reg ?_)))
 refine qd rfl rfl rfl (r_ldpA (cs := [v]) ag26 sz26 rfl (fun j u hj => (Pins.of_le hX54.pins (Pin.le_trans (Pin.le_trans (Pin.le_trans hx26.le hlek30) hlek36) hx53.le)) _ _ _ (hbp12 _ _ (by simpa using hj)))) (q1 rfl rfl rfl (o_call (vs := [(.agg [v].toArray)]) Tryd.func25 nm25 rfl rfl rfl ?_))
 refine Calls.mono (cells_dspec hX54.pins (hv.mono (Pin.le_trans (Pin.le_trans (Pin.le_trans (Pin.le_trans hle10 hx26.le) hlek30) hlek36) hx53.le)) g) ?_
 rintro _ w59 ⟨u57, G58, rfl, hd60, hx61⟩
 refine ⟨_, rfl, ?_⟩
 have har62 : ∀ k, ov2.ownBlock = some k → w59.heap.size ≤ k ∨ k < w52.heap.size := fun k hk => Or.inr (own_lt ho55 k hk)
 have hao63 : ∀ k, ov2.ownBlock = some k → k < w52.heap.size := own_lt ho55
 have hX64 := hX54.tr hx61
 have ho65 := ho55.ext hx61
 have hone66 := hd60.one
 refine qd rfl rfl rfl (r_assign (v := u57) rfl) (qe (s_then (s_seq (c_reg ?_))))
 have hdm := dms_t g (by omega) (show q9 < (rows.getD 0 ByteArray.empty).size by omega) h50 h56
 have hdi := dm_in g hdm
 have hd1 : i + 1 < rows.length := hdi.1
 have hd2 : q9 + 0 < (rows.getD 0 ByteArray.empty).size := hdi.2
 obtain ⟨us67, hul68, ho69, ho70, hrg71, hst72⟩ := hd60.leaf (i := i) (by first | omega | (simp only [List.length_set]; omega))
 have hlo73 : Lo w (noS) (us67.getD i default).ownBlock := fun k hk => Or.inl (Nat.le_trans hX54.size (hrg71 k hk).1)
 have ha74 : Apart (us67.getD i default).ownBlock ov2.ownBlock := ap_range hrg71 har62
 have hm75 : us67.length = (cellsM rows).length := hul68
 have hm76 : ((cellsM rows).getD i []).length = (rows.getD 0 ByteArray.empty).size := (hcw _ (by omega))
 refine qd rfl rfl rfl (r_move (v := u57) rfl) (qd rfl rfl rfl (r_move (v := (.int .i64 (i : Int))) rfl) (qd rfl rfl rfl (run_idx Tryd.underlying51 sz53 (v := u57) rfl rfl ho69.read (by omega) (by omega)) ?_))
 obtain ⟨cs77, hrep78, hagg79, hcell80⟩ := nm_el (j := i) default (ho69.at (z := (i : Int)) (by omega) (by omega)) rfl
 obtain ⟨rfl, hone83⟩ := hrep78
 refine qd rfl rfl rfl (hcell80 0 (us67.getD i default) (by rw [show (us67.getD i default) = (us67.getD i default) from rfl]; rfl) ag53 rfl (Gadd.pins hX64.pins u57)) (qd rfl rfl rfl (r_move (v := (.int .i64 (q9 : Int))) rfl) (qd rfl rfl rfl (run_idx Tryd.underlying53 sz4 (v := (us67.getD i default)) rfl rfl ho70.read (by omega) (by omega)) (q0 rfl rfl rfl (o_set (E := eBool) (v := (us67.getD i default)) (u := (.bool false)) (z := (q9 : Int)) (false) sz4 rfl rfl rfl rfl hX64.pins ho70 (by omega) (by omega) (fun w84 ho85 hp86 hg87 hz88 => ?_)))))
 have hX89 := hX64.write hp86 hg87 (hlo73)
 have ho90 := ho65.keptA hg87 ha74.symm
 have ho91 : Own eBool 4 G58 w84 w52.heap.size (us67.getD i default) ((((cellsM rows).getD i [])).set q9 false) := ho85
 have hm92 : ((((cellsM rows).getD i [])).set q9 false).length = ((cellsM rows).getD i []).length := List.length_set ..
 refine qe (s_then (s_seq (c_reg ?_)))
 have hd93 := hst72 ho91 hg87
 have hs94 := Nat.le_trans (Nat.le_refl w59.heap.size) hg87.size
 obtain ⟨us95, hul96, ho97, ho98, hrg99, hst100⟩ := hd93.leaf (i := (((i : Int) + 1)).toNat) (by first | omega | (simp only [List.length_set]; omega))
 have hlo101 : Lo w (noS) (us95.getD (((i : Int) + 1)).toNat default).ownBlock := fun k hk => Or.inl (Nat.le_trans hX54.size (hrg99 k hk).1)
 have ha102 : Apart (us95.getD (((i : Int) + 1)).toNat default).ownBlock ov2.ownBlock := ap_range hrg99 har62
 have hm103 : ((cellsM rows).set i ((((cellsM rows).getD i [])).set q9 false)).length = (cellsM rows).length := List.length_set ..
 have hm104 : us95.length = ((cellsM rows).set i ((((cellsM rows).getD i [])).set q9 false)).length := hul96
 have hm105 : (((cellsM rows).set i ((((cellsM rows).getD i [])).set q9 false)).getD (((i : Int) + 1)).toNat []).length = (rows.getD 0 ByteArray.empty).size := (by rw [show (((cellsM rows).set i ((((cellsM rows).getD i [])).set q9 false)).getD (((i : Int) + 1)).toNat []).length = ((setC (cellsM rows) i q9).getD (((i : Int) + 1)).toNat []).length from rfl, set_row]; exact hcw _ (by omega))
 refine qd rfl rfl rfl (r_move (v := u57) rfl) (qd rfl rfl rfl (r_move (v := (.int .i64 (i : Int))) rfl) (qd rfl rfl rfl (r_move (v := (.int .i64 1)) rfl) (qd rfl rfl rfl (r_add rfl rfl (by omega)) (qd rfl rfl rfl (run_idx Tryd.underlying51 sz53 (v := u57) rfl rfl ho97.read (by omega) (by omega)) ?_))))
 obtain ⟨cs106, hrep107, hagg108, hcell109⟩ := nm_el (j := ((i : Int) + 1).toNat) default (ho97.at (z := ((i : Int) + 1)) (by omega) (by omega)) rfl
 obtain ⟨rfl, hone112⟩ := hrep107
 refine qd rfl rfl rfl (hcell109 0 (us95.getD (((i : Int) + 1)).toNat default) (by rw [show (us95.getD (((i : Int) + 1)).toNat default) = (us95.getD (((i : Int) + 1)).toNat default) from rfl]; rfl) ag53 rfl (Gadd.pins hX89.pins u57)) (qd rfl rfl rfl (r_move (v := (.int .i64 (q9 : Int))) rfl) (qd rfl rfl rfl (r_move (v := (.int .i64 0)) rfl) (qd rfl rfl rfl (r_add rfl rfl (by omega)) (qd rfl rfl rfl (run_idx Tryd.underlying53 sz4 (v := (us95.getD (((i : Int) + 1)).toNat default)) rfl rfl ho98.read (by omega) (by omega)) (q0 rfl rfl rfl (o_set (E := eBool) (v := (us95.getD (((i : Int) + 1)).toNat default)) (u := (.bool false)) (z := ((q9 : Int) + 0)) (false) sz4 rfl rfl rfl rfl hX89.pins ho98 (by omega) (by omega) (fun w113 ho114 hp115 hg116 hz117 => ?_)))))))
 have hX118 := hX89.write hp115 hg116 (hlo101)
 have ho119 := ho90.keptA hg116 ha102.symm
 have ho120 : Own eBool 4 G58 w113 w52.heap.size (us95.getD (((i : Int) + 1)).toNat default) (((((cellsM rows).set i ((((cellsM rows).getD i [])).set q9 false)).getD (((i : Int) + 1)).toNat [])).set ((q9 : Int) + 0).toNat false) := ho114
 have hm121 : (((((cellsM rows).set i ((((cellsM rows).getD i [])).set q9 false)).getD (((i : Int) + 1)).toNat [])).set ((q9 : Int) + 0).toNat false).length = (((cellsM rows).set i ((((cellsM rows).getD i [])).set q9 false)).getD (((i : Int) + 1)).toNat []).length := List.length_set ..
 refine qe (s_then (c_reg ?_))
 have hd122 := hst100 ho120 hg116
 have hs123 := Nat.le_trans hs94 hg116.size
 obtain ⟨G124, hle125, hp126, hr127, hf128⟩ := hd122.read hX118.pins
 have hX129 := hX118.promise hle125 hp126 hf128 hX54.size
 have ho130 := ho119.mono hle125 (fun k hk o u hu => (hf128 k o u hu).elim (ho119.free k hk o u) (fun h => by have := hao63 k hk; have := (own_lt ho119 k hk); omega))
 refine qd rfl rfl rfl (r_move (v := ov2) rfl) (qd rfl rfl rfl (r_move (v := u57) rfl) (q1 rfl rfl rfl (o_call (vs := [u57]) Tryd.func27 nm27 rfl rfl rfl ?_)))
 refine Calls.mono (board_spec hX129.pins hr127 ⟨by show (nextC rows true i q9).length ≤ 1000; rw [next_len]; omega, fun p hp => by show ((nextC rows true i q9).getD p []).length ≤ 1000; rw [next_row g (show p < rows.length from (by have h2 : p < (nextC rows true i q9).length := hp; rw [next_len] at h2; exact h2))]; show (rows.getD 0 ByteArray.empty).size ≤ 1000; omega⟩) ?_
 rintro _ w133 ⟨u131, G132, rfl, hr134, hx135⟩
 refine ⟨_, rfl, ?_⟩
 have hX136 := hX129.tr hx135
 have ho137 := ho130.ext hx135
 refine q1 rfl rfl rfl (o_build1 (E := (eSl eStr)) (e := 26) [u131] (bdM (((cellsM rows).set i ((((cellsM rows).getD i [])).set q9 false)).set (((i : Int) + 1)).toNat (((((cellsM rows).set i ((((cellsM rows).getD i [])).set q9 false)).getD (((i : Int) + 1)).toNat [])).set ((q9 : Int) + 0).toNat false))) Tryd.underlying29 sz26 zr26 ⟨_, rfl, hr134⟩ rfl (by decide) hX136.pins (fun u138 w139 ho140 hp141 hl142 hk143 => ?_))
 have hX144 := hX136.step hp141 hl142
 have ho145 := ho137.below hl142
 have ho147 : Own (eSl eStr) 26 G132 w139 w.heap.size u138 ([bdM (((cellsM rows).set i ((((cellsM rows).getD i [])).set q9 false)).set (((i : Int) + 1)).toNat (((((cellsM rows).set i ((((cellsM rows).getD i [])).set q9 false)).getD (((i : Int) + 1)).toNat [])).set ((q9 : Int) + 0).toNat false))]) := ho140.weaken hX136.size
 refine q1 rfl rfl rfl (o_append (E := (eSl eStr)) (v := ov2) (u := u138) 24 Tryd.underlying29 ap26 (by decide) rfl rfl hX144.pins ho145 ho147.src (by first | omega | (rw [List.nil_append]; omega) | (rw [List.length_nil]; omega) | (rw [List.length_append]; omega) | (simp; done) | (simp; omega) | (simp only [List.length_append, List.length_cons, List.length_nil]; omega)) (by first | omega | (rw [List.nil_append]; omega) | (rw [List.length_nil]; omega) | (rw [List.length_append]; omega) | (simp; done) | (simp; omega) | (simp only [List.length_append, List.length_cons, List.length_nil]; omega)) (hX144.size) (fun u148 w149 ho150 hp151 hg152 hw153 => ?_))
 have hX154 := hX144.write hp151 hg152 ((lo_own ho145))
 have hm157 : (os2 ++ ([bdM (((cellsM rows).set i ((((cellsM rows).getD i [])).set q9 false)).set (((i : Int) + 1)).toNat (((((cellsM rows).set i ((((cellsM rows).getD i [])).set q9 false)).getD (((i : Int) + 1)).toNat [])).set ((q9 : Int) + 0).toNat false))])).length = os2.length + 1 := List.length_append
 refine qd rfl rfl rfl (r_assign (v := u148) rfl) (qe (s_blkN (s_then (c_reg ?_))))
 refine qd rfl rfl rfl (r_move (v := (.int .i64 (q9 : Int))) rfl) (qd rfl rfl rfl (r_add rfl rfl (by omega)) (qd rfl rfl rfl (r_assign (v := (.int .i64 ((q9 : Int) + 1))) rfl) (qe (s_lopN (⟨_, ?_, _, rfl, _, q9 + 1, u148, os2 ++ ([bdM (((cellsM rows).set i ((((cellsM rows).getD i [])).set q9 false)).set (((i : Int) + 1)).toNat (((((cellsM rows).set i ((((cellsM rows).getD i [])).set q9 false)).getD (((i : Int) + 1)).toNat [])).set ((q9 : Int) + 0).toNat false))]), G132, (packS (x := 10) (packS (x := 9) (packS (x := 8) (packS (x := 7) (packS (x := 6) (packS (x := 5) (packS (x := 4) (pack1 (x := 2) rfl) rfl) rfl) rfl) rfl) rfl) rfl) rfl), rfl, hX154, (Pin.le_trans (Pin.le_trans (Pin.le_trans (Pin.le_trans hlek36 hx53.le) hx61.le) hle125) hx135.le), (by omega), (by rw [dmRow_yes (dms_t g (by omega) (show q9 < (rows.getD 0 ByteArray.empty).size by omega) h50 h56), hos2, List.append_assoc]; rfl), (by simp; omega), ho150⟩)))))
 omega
 refine wp_exit (s_thenE (s_blkE (s_then (c_reg ?_))))
 refine qd rfl rfl rfl (r_move (v := (.int .i64 (q9 : Int))) rfl) (qd rfl rfl rfl (r_add rfl rfl (by omega)) (qd rfl rfl rfl (r_assign (v := (.int .i64 ((q9 : Int) + 1))) rfl) (qe (s_lopN (⟨_, ?_, _, rfl, _, q9 + 1, ov2, os2, G51, (packS (x := 10) (packS (x := 9) (packS (x := 8) (packS (x := 7) (packS (x := 6) (packS (x := 5) (packS (x := 4) (pack1 (x := 2) rfl) rfl) rfl) rfl) rfl) rfl) rfl) rfl), rfl, hX54, (Pin.le_trans hlek36 hx53.le), (by omega), (by rw [dmRow_no (dms_t g (by omega) (show q9 < (rows.getD 0 ByteArray.empty).size by omega) h50 h56), hos2]), (by omega), ho55⟩)))))
 omega
 refine qs rfl rfl rfl rfl rfl rfl (qs rfl rfl rfl rfl rfl rfl (qs rfl rfl rfl rfl rfl rfl (qs rfl rfl rfl rfl rfl rfl (qs rfl rfl rfl rfl rfl rfl (qs rfl rfl rfl rfl rfl rfl (qs rfl rfl rfl rfl rfl rfl (qs rfl rfl rfl rfl rfl rfl (qs rfl rfl rfl rfl rfl rfl (qd rfl rfl rfl (r_pickT (v := (.bool true)) rfl rfl) (qe (s_then ?_)))))))))))
 refine c_ifT rfl rfl (wp_exit (s_thenE (s_blkE (s_then (c_reg ?_)))))
 refine qd rfl rfl rfl (r_move (v := (.int .i64 (q9 : Int))) rfl) (qd rfl rfl rfl (r_add rfl rfl (by omega)) (qd rfl rfl rfl (r_assign (v := (.int .i64 ((q9 : Int) + 1))) rfl) (qe (s_lopN (⟨_, ?_, _, rfl, _, q9 + 1, ov2, os2, GL2, (packS (x := 10) (packS (x := 9) (packS (x := 8) (packS (x := 7) (packS (x := 6) (packS (x := 5) (packS (x := 4) (pack1 (x := 2) rfl) rfl) rfl) rfl) rfl) rfl) rfl) rfl), rfl, hX39, hlek36, (by omega), (by rw [dmRow_no (dms_0 g (by omega) (show q9 < (rows.getD 0 ByteArray.empty).size by omega) h50), hos2]), (by omega), hw40⟩)))))
 omega
 refine wp_exit (s_thenE (s_lopE (s_blkE (s_blkN (s_then (c_reg ?_))))))
 refine qd rfl rfl rfl (r_move (v := (.int .i64 (i : Int))) rfl) (qd rfl rfl rfl (r_add rfl rfl (by omega)) (qd rfl rfl rfl (r_assign (v := (.int .i64 ((i : Int) + 1))) rfl) (qe (s_lopN (⟨_, ?_, _, rfl, _, i + 1, ov2, os2, GL2, (packS (x := 9) (packS (x := 8) (packS (x := 7) (packS (x := 6) (packS (x := 5) (packS (x := 4) (pack1 (x := 2) rfl) rfl) rfl) rfl) rfl) rfl) rfl), rfl, hX39, (Pin.le_trans hlek30 hlek36), (by omega), (by rw [hos2, hos, dmAll_succ, show q9 = wdS rows by show q9 = (rows.getD 0 ByteArray.empty).size; omega]), (by omega), hw40⟩)))))
 omega
 refine wp_exit (s_thenE (s_lopE (s_blkE (s_then (s_seq (c_reg ?_))))))
 refine qd rfl rfl rfl (r_move (v := ov) rfl) (qd rfl rfl rfl (r_assign (v := ov) rfl) (qe (s_then ?_)))
 refine wp_ret (s_ret (c_ret1 (v := ov) rfl rfl rfl ?_))
 obtain ⟨G158, hle161, hX160, hr159, hf162⟩ := hw34.sealed hX33
 have hin : i = rows.length := by omega
 subst hin
 exact ⟨_, _, rfl, (by show RSl _ _ _ (dmAll rows true _ rows.length); rw [← hos]; exact hr159), hX160⟩

theorem smoves_false {w : World} {G : Pin} {v : Value} {rows : List ByteArray} (hP : Pins G w) (hv : RSl eStr G v rows) (g : GbP rows) :
  Calls Tryd.prog 15 [(.agg [v].toArray), (.bool false)].toArray w fun e w' => ∃ (u : Value) (G' : Pin), e = .returned u ∧ RSl (eSl eStr) G' u (dmM rows false) ∧ Ext noS G w G' w' := by
 refine s_enter (n := 74) Tryd.func15 Tryd.ntmps15 rfl rfl ?_
 have hX0 : Ext noS G w G w := Ext.refl hP
 have hm := hv.max
 have ghi := g.hi
 have gwd : 1 ≤ (rows.getD 0 ByteArray.empty).size ∧ (rows.getD 0 ByteArray.empty).size ≤ 8 := g.wd
 have geq : ∀ i, i < rows.length → (rows.getD i ByteArray.empty).size = (rows.getD 0 ByteArray.empty).size := g.eq
 have hcl : (cellsM rows).length = rows.length := cells_len
 have hcw : ∀ i, i < rows.length → ((cellsM rows).getD i []).length = (rows.getD 0 ByteArray.empty).size := fun i hi => cells_wd g hi
 refine s_seq (c_reg ?_)
 refine q1 rfl rfl rfl (o_box [v] (v := (.agg [v].toArray)) rfl rfl hX0.pins (fun b1 w2 hk3 hb4 hp5 hl6 => ?_))
 have hX7 := hX0.step hp5 hl6
 have hlo8 : w.heap.size ≤ b1 := by have := hX0.size; omega
 obtain ⟨G9, hle10, hX11, hbp12, hf13⟩ := hb4.shut hX7 hlo8
 refine qd rfl rfl rfl (r_assign (v := (.slice none 0 0)) rfl) (qe (s_then (s_seq (c_reg ?_))))
 refine q1 rfl rfl rfl (o_build0 (E := (eSl eStr)) (e := 26) Tryd.underlying29 sz26 hX11.pins (fun u14 w15 ho16 hp17 hl18 hk19 => ?_))
 have hX20 := hX11.step hp17 hl18
 have ho21 : Own (eSl eStr) 26 G9 w15 w.heap.size u14 ([]) := ho16.weaken hX11.size
 refine qd rfl rfl rfl (r_assign (v := u14) rfl) (qe (s_then (s_seq (c_reg ?_))))
 refine qd rfl rfl rfl (r_ldpA (cs := [v]) ag26 sz26 rfl (fun j u hj => hX20.pins _ _ _ (hbp12 _ _ (by simpa using hj)))) (q1 rfl rfl rfl (o_call (vs := [(.agg [v].toArray)]) Tryd.func25 nm25 rfl rfl rfl ?_))
 refine Calls.mono (cells_spec hX20.pins (hv.mono hle10) g) ?_
 rintro _ w24 ⟨u22, G23, rfl, hd25, hx26⟩
 refine ⟨_, rfl, ?_⟩
 have hX27 := hX20.tr hx26
 have ho28 := ho21.ext hx26
 have hm29 := hd25.max
 refine qd rfl rfl rfl (r_assign (v := u22) rfl) (qe (s_then (s_seq (c_reg ?_))))
 refine qd rfl rfl rfl (r_assign (v := (.int .i64 0)) rfl) (qd rfl rfl rfl (r_assign (v := (.int .i64 1)) rfl) (qe (s_then (s_seq (s_seq (c_reg ?_))))))
 refine qd rfl rfl rfl (r_move (v := (.bool false)) rfl) (qe (s_then ?_))
 refine c_ifF rfl rfl (wp_skip (s_then (s_seq (s_seq (c_reg ?_)))))
 refine qd rfl rfl rfl (r_assign (v := (.int .i64 0)) rfl) (qe (s_then ?_))
 refine s_blk (s_loop (fun (k : Nat) (en : Nat → Value) (W : World) => ∃ (env1 : Nat → Value) (i : Nat) (ov : Value) (os : List (List ByteArray)) (GL1 : Pin), en = (upd (upd (upd (upd (upd (upd (upd env1 2 (.pointer (some ⟨b1, 0, none⟩))) 4 (.slice none 0 0)) 5 ov) 6 u22) 7 (.int .i64 0)) 8 (.int .i64 1)) 9 (.int .i64 (i : Int))) ∧ k = rows.length - i ∧ Ext noS G w GL1 W ∧ Pin.le G23 GL1 ∧ (i ≤ rows.length) ∧ (os = dmAll rows false (fun r c => bdM (nextC rows false r c)) i) ∧ (os.length ≤ 8 * i) ∧ (Own (eSl eStr) 26 GL1 W w.heap.size ov (os))) _ ⟨_, 0, u14, [], G23, (packS (x := 9) (packS (x := 8) (packS (x := 7) (packS (x := 6) (packS (x := 5) (packS (x := 4) (pack1 (x := 2) rfl) rfl) rfl) rfl) rfl) rfl) rfl), rfl, hX27, Pin.le_refl _, Nat.zero_le _, rfl, (by simp), ho28⟩ ?_)
 rintro k30 _ w31 ⟨env1, i, ov, os, GL1, rfl, hk32, hX33, hlek30, hi, hos, hol, hw34⟩
 refine s_seq (s_seq (c_reg ?_))
 refine qd rfl rfl rfl (r_move (v := (.int .i64 (i : Int))) rfl) (qd rfl rfl rfl (r_move (v := u22) rfl) (qd rfl rfl rfl (run_len Tryd.underlying51 (v := u22) rfl hd25) (qd rfl rfl rfl (r_lss rfl rfl) (qe (s_then ?_)))))
 refine c_ifd (p := ((i : Int) : Int) < ((cellsM rows).length : Int)) rfl rfl (fun h35 => ?_) (fun h35 => ?_)
 have hci := hcw i (by omega)
 refine wp_skip (s_then (s_seq ?_))
 refine s_blk (s_seq (c_reg ?_))
 refine qd rfl rfl rfl (r_assign (v := (.int .i64 0)) rfl) (qe (s_then ?_))
 refine s_blk (s_loop (fun (k : Nat) (en : Nat → Value) (W : World) => ∃ (env1 : Nat → Value) (q9 : Nat) (ov2 : Value) (os2 : List (List ByteArray)) (GL2 : Pin), en = (upd (upd (upd (upd (upd (upd (upd (upd env1 2 (.pointer (some ⟨b1, 0, none⟩))) 4 (.slice none 0 0)) 5 ov2) 6 u22) 7 (.int .i64 0)) 8 (.int .i64 1)) 9 (.int .i64 (i : Int))) 10 (.int .i64 (q9 : Int))) ∧ k = ((cellsM rows).getD i []).length - q9 ∧ Ext noS G w GL2 W ∧ Pin.le GL1 GL2 ∧ (q9 ≤ ((cellsM rows).getD i []).length) ∧ (os2 = os ++ dmRow rows false (fun r c => bdM (nextC rows false r c)) i q9) ∧ (os2.length ≤ 8 * i + q9) ∧ (Own (eSl eStr) 26 GL2 W w.heap.size ov2 (os2))) _ ⟨_, 0, ov, os, GL1, (packS (x := 10) (packS (x := 9) (packS (x := 8) (packS (x := 7) (packS (x := 6) (packS (x := 5) (packS (x := 4) (pack1 (x := 2) rfl) rfl) rfl) rfl) rfl) rfl) rfl) rfl), rfl, hX33, Pin.le_refl _, Nat.zero_le _, (by simp [dmRow]), (by omega), hw34⟩ ?_)
 rintro k36 _ w37 ⟨env1, q9, ov2, os2, GL2, rfl, hk38, hX39, hlek36, hq, hos2, hol2, hw40⟩
 refine s_seq (s_seq (c_reg ?_))
 refine qd rfl rfl rfl (r_move (v := (.int .i64 (q9 : Int))) rfl) (qd rfl rfl rfl (r_move (v := u22) rfl) (qd rfl rfl rfl (r_move (v := (.int .i64 (i : Int))) rfl) (qd rfl rfl rfl (run_idx Tryd.underlying51 sz53 (v := u22) rfl rfl hd25 (by omega) (by omega)) ?_)))
 obtain ⟨u41, hr42, hl43⟩ := nm_sl (hd25.at (z := (i : Int)) (by omega) (by omega)) (j := i) rfl
 have hm44 := hr42.max
 refine qd rfl rfl rfl (hl43 ag53 rfl (Pins.of_le hX39.pins (Pin.le_trans hlek30 hlek36))) (qd rfl rfl rfl (run_len Tryd.underlying53 (v := u41) rfl hr42) (qd rfl rfl rfl (r_lss rfl rfl) (qe (s_then ?_))))
 refine c_ifd (p := ((q9 : Int) : Int) < (((cellsM rows).getD i []).length : Int)) rfl rfl (fun h45 => ?_) (fun h45 => ?_)
 refine wp_skip (s_then (s_seq ?_))
 refine s_blk (s_seq (s_seq (c_reg ?_)))
 refine qd rfl rfl rfl (r_move (v := u22) rfl) (qd rfl rfl rfl (r_move (v := (.int .i64 (i : Int))) rfl) (qd rfl rfl rfl (run_idx Tryd.underlying51 sz53 (v := u22) rfl rfl hd25 (by omega) (by omega)) ?_))
 obtain ⟨u46, hr47, hl48⟩ := nm_sl (hd25.at (z := (i : Int)) (by omega) (by omega)) (j := i) rfl
 have hm49 := hr47.max
 refine qd rfl rfl rfl (hl48 ag53 rfl (Pins.of_le hX39.pins (Pin.le_trans hlek30 hlek36))) (qd rfl rfl rfl (r_move (v := (.int .i64 (q9 : Int))) rfl) (qd rfl rfl rfl (run_idx Tryd.underlying53 sz4 (v := u46) rfl rfl hr47 (by omega) (by omega)) (qd rfl rfl rfl (run_load_bool (r := ((cellsM rows).getD i []).getD q9 false) rfl ag4 (z := (q9 : Int)) rfl hr47 (Pins.of_le hX39.pins (Pin.le_trans hlek30 hlek36)) (by omega) (by omega)) (qd rfl rfl rfl (r_not rfl) (qd rfl rfl rfl (r_move (v := (.bool (!(((cellsM rows).getD i []).getD q9 false)))) rfl) (qbn (t := 39) rfl (fun h50 => ?_) (fun h50 => ?_)))))))
 refine qdg rfl rfl rfl rfl rfl rfl (r_move (v := u22) rfl) (qdg rfl rfl rfl rfl rfl rfl (r_move (v := (.int .i64 (i : Int))) rfl) (qdg rfl rfl rfl rfl rfl rfl (r_move (v := (.int .i64 0)) rfl) (qdg rfl rfl rfl rfl rfl rfl (r_add rfl rfl (by omega)) (qdg rfl rfl rfl rfl rfl rfl (r_move (v := (.int .i64 (q9 : Int))) rfl) (qdg rfl rfl rfl rfl rfl rfl (r_move (v := (.int .i64 1)) rfl) (qdg rfl rfl rfl rfl rfl rfl (r_add rfl rfl (by omega)) (q1g rfl rfl rfl rfl rfl rfl (o_call (vs := [u22, (.int .i64 ((i : Int) + 0)), (.int .i64 ((q9 : Int) + 1))]) Tryd.func26 nm26 rfl rfl rfl ?_))))))))
 refine Calls.mono (is21_spec (r := ((i : Int) + 0)) (c := ((q9 : Int) + 1)) hX39.pins (hd25.mono (Pin.le_trans hlek30 hlek36)) g) ?_
 rintro _ w52 ⟨G51, rfl, hx53⟩
 refine ⟨_, rfl, ?_⟩
 have hX54 := hX39.tr hx53
 have ho55 := hw40.ext hx53
 refine qdg rfl rfl rfl rfl rfl rfl (r_not rfl) (qd rfl rfl rfl (r_pickF (v := (.bool (!(frI rows ((i : Int) + 0) ((q9 : Int) + 1))))) rfl rfl) (qe (s_then ?_)))
 refine c_ifn rfl rfl (fun h56 => ?_) (fun h56 => ?_)
 refine wp_skip (s_then (s_seq (c_reg ?_)))
 refine qd rfl rfl rfl (r_ldpA (cs := [v]) ag26 sz26 rfl (fun j u hj => (Pins.of_le hX54.pins (Pin.le_trans (Pin.le_trans (Pin.le_trans hx26.le hlek30) hlek36) hx53.le)) _ _ _ (hbp12 _ _ (by simpa using hj)))) (q1 rfl rfl rfl (o_call (vs := [(.agg [v].toArray)]) Tryd.func25 nm25 rfl rfl rfl ?_))
 refine Calls.mono (cells_dspec hX54.pins (hv.mono (Pin.le_trans (Pin.le_trans (Pin.le_trans (Pin.le_trans hle10 hx26.le) hlek30) hlek36) hx53.le)) g) ?_
 rintro _ w59 ⟨u57, G58, rfl, hd60, hx61⟩
 refine ⟨_, rfl, ?_⟩
 have har62 : ∀ k, ov2.ownBlock = some k → w59.heap.size ≤ k ∨ k < w52.heap.size := fun k hk => Or.inr (own_lt ho55 k hk)
 have hao63 : ∀ k, ov2.ownBlock = some k → k < w52.heap.size := own_lt ho55
 have hX64 := hX54.tr hx61
 have ho65 := ho55.ext hx61
 have hone66 := hd60.one
 refine qd rfl rfl rfl (r_assign (v := u57) rfl) (qe (s_then (s_seq (c_reg ?_))))
 have hdm := dms_f g (by omega) (show q9 < (rows.getD 0 ByteArray.empty).size by omega) h50 h56
 have hdi := dm_in g hdm
 have hd1 : i + 0 < rows.length := hdi.1
 have hd2 : q9 + 1 < (rows.getD 0 ByteArray.empty).size := hdi.2
 obtain ⟨us67, hul68, ho69, ho70, hrg71, hst72⟩ := hd60.leaf (i := i) (by first | omega | (simp only [List.length_set]; omega))
 have hlo73 : Lo w (noS) (us67.getD i default).ownBlock := fun k hk => Or.inl (Nat.le_trans hX54.size (hrg71 k hk).1)
 have ha74 : Apart (us67.getD i default).ownBlock ov2.ownBlock := ap_range hrg71 har62
 have hm75 : us67.length = (cellsM rows).length := hul68
 have hm76 : ((cellsM rows).getD i []).length = (rows.getD 0 ByteArray.empty).size := (hcw _ (by omega))
 refine qd rfl rfl rfl (r_move (v := u57) rfl) (qd rfl rfl rfl (r_move (v := (.int .i64 (i : Int))) rfl) (qd rfl rfl rfl (run_idx Tryd.underlying51 sz53 (v := u57) rfl rfl ho69.read (by omega) (by omega)) ?_))
 obtain ⟨cs77, hrep78, hagg79, hcell80⟩ := nm_el (j := i) default (ho69.at (z := (i : Int)) (by omega) (by omega)) rfl
 obtain ⟨rfl, hone83⟩ := hrep78
 refine qd rfl rfl rfl (hcell80 0 (us67.getD i default) (by rw [show (us67.getD i default) = (us67.getD i default) from rfl]; rfl) ag53 rfl (Gadd.pins hX64.pins u57)) (qd rfl rfl rfl (r_move (v := (.int .i64 (q9 : Int))) rfl) (qd rfl rfl rfl (run_idx Tryd.underlying53 sz4 (v := (us67.getD i default)) rfl rfl ho70.read (by omega) (by omega)) (q0 rfl rfl rfl (o_set (E := eBool) (v := (us67.getD i default)) (u := (.bool false)) (z := (q9 : Int)) (false) sz4 rfl rfl rfl rfl hX64.pins ho70 (by omega) (by omega) (fun w84 ho85 hp86 hg87 hz88 => ?_)))))
 have hX89 := hX64.write hp86 hg87 (hlo73)
 have ho90 := ho65.keptA hg87 ha74.symm
 have ho91 : Own eBool 4 G58 w84 w52.heap.size (us67.getD i default) ((((cellsM rows).getD i [])).set q9 false) := ho85
 have hm92 : ((((cellsM rows).getD i [])).set q9 false).length = ((cellsM rows).getD i []).length := List.length_set ..
 refine qe (s_then (s_seq (c_reg ?_)))
 have hd93 := hst72 ho91 hg87
 have hs94 := Nat.le_trans (Nat.le_refl w59.heap.size) hg87.size
 obtain ⟨us95, hul96, ho97, ho98, hrg99, hst100⟩ := hd93.leaf (i := (((i : Int) + 0)).toNat) (by first | omega | (simp only [List.length_set]; omega))
 have hlo101 : Lo w (noS) (us95.getD (((i : Int) + 0)).toNat default).ownBlock := fun k hk => Or.inl (Nat.le_trans hX54.size (hrg99 k hk).1)
 have ha102 : Apart (us95.getD (((i : Int) + 0)).toNat default).ownBlock ov2.ownBlock := ap_range hrg99 har62
 have hm103 : ((cellsM rows).set i ((((cellsM rows).getD i [])).set q9 false)).length = (cellsM rows).length := List.length_set ..
 have hm104 : us95.length = ((cellsM rows).set i ((((cellsM rows).getD i [])).set q9 false)).length := hul96
 have hm105 : (((cellsM rows).set i ((((cellsM rows).getD i [])).set q9 false)).getD (((i : Int) + 0)).toNat []).length = (rows.getD 0 ByteArray.empty).size := (by rw [show (((cellsM rows).set i ((((cellsM rows).getD i [])).set q9 false)).getD (((i : Int) + 0)).toNat []).length = ((setC (cellsM rows) i q9).getD (((i : Int) + 0)).toNat []).length from rfl, set_row]; exact hcw _ (by omega))
 refine qd rfl rfl rfl (r_move (v := u57) rfl) (qd rfl rfl rfl (r_move (v := (.int .i64 (i : Int))) rfl) (qd rfl rfl rfl (r_move (v := (.int .i64 0)) rfl) (qd rfl rfl rfl (r_add rfl rfl (by omega)) (qd rfl rfl rfl (run_idx Tryd.underlying51 sz53 (v := u57) rfl rfl ho97.read (by omega) (by omega)) ?_))))
 obtain ⟨cs106, hrep107, hagg108, hcell109⟩ := nm_el (j := ((i : Int) + 0).toNat) default (ho97.at (z := ((i : Int) + 0)) (by omega) (by omega)) rfl
 obtain ⟨rfl, hone112⟩ := hrep107
 refine qd rfl rfl rfl (hcell109 0 (us95.getD (((i : Int) + 0)).toNat default) (by rw [show (us95.getD (((i : Int) + 0)).toNat default) = (us95.getD (((i : Int) + 0)).toNat default) from rfl]; rfl) ag53 rfl (Gadd.pins hX89.pins u57)) (qd rfl rfl rfl (r_move (v := (.int .i64 (q9 : Int))) rfl) (qd rfl rfl rfl (r_move (v := (.int .i64 1)) rfl) (qd rfl rfl rfl (r_add rfl rfl (by omega)) (qd rfl rfl rfl (run_idx Tryd.underlying53 sz4 (v := (us95.getD (((i : Int) + 0)).toNat default)) rfl rfl ho98.read (by omega) (by omega)) (q0 rfl rfl rfl (o_set (E := eBool) (v := (us95.getD (((i : Int) + 0)).toNat default)) (u := (.bool false)) (z := ((q9 : Int) + 1)) (false) sz4 rfl rfl rfl rfl hX89.pins ho98 (by omega) (by omega) (fun w113 ho114 hp115 hg116 hz117 => ?_)))))))
 have hX118 := hX89.write hp115 hg116 (hlo101)
 have ho119 := ho90.keptA hg116 ha102.symm
 have ho120 : Own eBool 4 G58 w113 w52.heap.size (us95.getD (((i : Int) + 0)).toNat default) (((((cellsM rows).set i ((((cellsM rows).getD i [])).set q9 false)).getD (((i : Int) + 0)).toNat [])).set ((q9 : Int) + 1).toNat false) := ho114
 have hm121 : (((((cellsM rows).set i ((((cellsM rows).getD i [])).set q9 false)).getD (((i : Int) + 0)).toNat [])).set ((q9 : Int) + 1).toNat false).length = (((cellsM rows).set i ((((cellsM rows).getD i [])).set q9 false)).getD (((i : Int) + 0)).toNat []).length := List.length_set ..
 refine qe (s_then (c_reg ?_))
 have hd122 := hst100 ho120 hg116
 have hs123 := Nat.le_trans hs94 hg116.size
 obtain ⟨G124, hle125, hp126, hr127, hf128⟩ := hd122.read hX118.pins
 have hX129 := hX118.promise hle125 hp126 hf128 hX54.size
 have ho130 := ho119.mono hle125 (fun k hk o u hu => (hf128 k o u hu).elim (ho119.free k hk o u) (fun h => by have := hao63 k hk; have := (own_lt ho119 k hk); omega))
 refine qd rfl rfl rfl (r_move (v := ov2) rfl) (qd rfl rfl rfl (r_move (v := u57) rfl) (q1 rfl rfl rfl (o_call (vs := [u57]) Tryd.func27 nm27 rfl rfl rfl ?_)))
 refine Calls.mono (board_spec hX129.pins hr127 ⟨by show (nextC rows false i q9).length ≤ 1000; rw [next_len]; omega, fun p hp => by show ((nextC rows false i q9).getD p []).length ≤ 1000; rw [next_row g (show p < rows.length from (by have h2 : p < (nextC rows false i q9).length := hp; rw [next_len] at h2; exact h2))]; show (rows.getD 0 ByteArray.empty).size ≤ 1000; omega⟩) ?_
 rintro _ w133 ⟨u131, G132, rfl, hr134, hx135⟩
 refine ⟨_, rfl, ?_⟩
 have hX136 := hX129.tr hx135
 have ho137 := ho130.ext hx135
 refine q1 rfl rfl rfl (o_build1 (E := (eSl eStr)) (e := 26) [u131] (bdM (((cellsM rows).set i ((((cellsM rows).getD i [])).set q9 false)).set (((i : Int) + 0)).toNat (((((cellsM rows).set i ((((cellsM rows).getD i [])).set q9 false)).getD (((i : Int) + 0)).toNat [])).set ((q9 : Int) + 1).toNat false))) Tryd.underlying29 sz26 zr26 ⟨_, rfl, hr134⟩ rfl (by decide) hX136.pins (fun u138 w139 ho140 hp141 hl142 hk143 => ?_))
 have hX144 := hX136.step hp141 hl142
 have ho145 := ho137.below hl142
 have ho147 : Own (eSl eStr) 26 G132 w139 w.heap.size u138 ([bdM (((cellsM rows).set i ((((cellsM rows).getD i [])).set q9 false)).set (((i : Int) + 0)).toNat (((((cellsM rows).set i ((((cellsM rows).getD i [])).set q9 false)).getD (((i : Int) + 0)).toNat [])).set ((q9 : Int) + 1).toNat false))]) := ho140.weaken hX136.size
 refine q1 rfl rfl rfl (o_append (E := (eSl eStr)) (v := ov2) (u := u138) 24 Tryd.underlying29 ap26 (by decide) rfl rfl hX144.pins ho145 ho147.src (by first | omega | (rw [List.nil_append]; omega) | (rw [List.length_nil]; omega) | (rw [List.length_append]; omega) | (simp; done) | (simp; omega) | (simp only [List.length_append, List.length_cons, List.length_nil]; omega)) (by first | omega | (rw [List.nil_append]; omega) | (rw [List.length_nil]; omega) | (rw [List.length_append]; omega) | (simp; done) | (simp; omega) | (simp only [List.length_append, List.length_cons, List.length_nil]; omega)) (hX144.size) (fun u148 w149 ho150 hp151 hg152 hw153 => ?_))
 have hX154 := hX144.write hp151 hg152 ((lo_own ho145))
 have hm157 : (os2 ++ ([bdM (((cellsM rows).set i ((((cellsM rows).getD i [])).set q9 false)).set (((i : Int) + 0)).toNat (((((cellsM rows).set i ((((cellsM rows).getD i [])).set q9 false)).getD (((i : Int) + 0)).toNat [])).set ((q9 : Int) + 1).toNat false))])).length = os2.length + 1 := List.length_append
 refine qd rfl rfl rfl (r_assign (v := u148) rfl) (qe (s_blkN (s_then (c_reg ?_))))
 refine qd rfl rfl rfl (r_move (v := (.int .i64 (q9 : Int))) rfl) (qd rfl rfl rfl (r_add rfl rfl (by omega)) (qd rfl rfl rfl (r_assign (v := (.int .i64 ((q9 : Int) + 1))) rfl) (qe (s_lopN (⟨_, ?_, _, rfl, _, q9 + 1, u148, os2 ++ ([bdM (((cellsM rows).set i ((((cellsM rows).getD i [])).set q9 false)).set (((i : Int) + 0)).toNat (((((cellsM rows).set i ((((cellsM rows).getD i [])).set q9 false)).getD (((i : Int) + 0)).toNat [])).set ((q9 : Int) + 1).toNat false))]), G132, (packS (x := 10) (packS (x := 9) (packS (x := 8) (packS (x := 7) (packS (x := 6) (packS (x := 5) (packS (x := 4) (pack1 (x := 2) rfl) rfl) rfl) rfl) rfl) rfl) rfl) rfl), rfl, hX154, (Pin.le_trans (Pin.le_trans (Pin.le_trans (Pin.le_trans hlek36 hx53.le) hx61.le) hle125) hx135.le), (by omega), (by rw [dmRow_yes (dms_f g (by omega) (show q9 < (rows.getD 0 ByteArray.empty).size by omega) h50 h56), hos2, List.append_assoc]; rfl), (by simp; omega), ho150⟩)))))
 omega
 refine wp_exit (s_thenE (s_blkE (s_then (c_reg ?_))))
 refine qd rfl rfl rfl (r_move (v := (.int .i64 (q9 : Int))) rfl) (qd rfl rfl rfl (r_add rfl rfl (by omega)) (qd rfl rfl rfl (r_assign (v := (.int .i64 ((q9 : Int) + 1))) rfl) (qe (s_lopN (⟨_, ?_, _, rfl, _, q9 + 1, ov2, os2, G51, (packS (x := 10) (packS (x := 9) (packS (x := 8) (packS (x := 7) (packS (x := 6) (packS (x := 5) (packS (x := 4) (pack1 (x := 2) rfl) rfl) rfl) rfl) rfl) rfl) rfl) rfl), rfl, hX54, (Pin.le_trans hlek36 hx53.le), (by omega), (by rw [dmRow_no (dms_f g (by omega) (show q9 < (rows.getD 0 ByteArray.empty).size by omega) h50 h56), hos2]), (by omega), ho55⟩)))))
 omega
 refine qs rfl rfl rfl rfl rfl rfl (qs rfl rfl rfl rfl rfl rfl (qs rfl rfl rfl rfl rfl rfl (qs rfl rfl rfl rfl rfl rfl (qs rfl rfl rfl rfl rfl rfl (qs rfl rfl rfl rfl rfl rfl (qs rfl rfl rfl rfl rfl rfl (qs rfl rfl rfl rfl rfl rfl (qs rfl rfl rfl rfl rfl rfl (qd rfl rfl rfl (r_pickT (v := (.bool true)) rfl rfl) (qe (s_then ?_)))))))))))
 refine c_ifT rfl rfl (wp_exit (s_thenE (s_blkE (s_then (c_reg ?_)))))
 refine qd rfl rfl rfl (r_move (v := (.int .i64 (q9 : Int))) rfl) (qd rfl rfl rfl (r_add rfl rfl (by omega)) (qd rfl rfl rfl (r_assign (v := (.int .i64 ((q9 : Int) + 1))) rfl) (qe (s_lopN (⟨_, ?_, _, rfl, _, q9 + 1, ov2, os2, GL2, (packS (x := 10) (packS (x := 9) (packS (x := 8) (packS (x := 7) (packS (x := 6) (packS (x := 5) (packS (x := 4) (pack1 (x := 2) rfl) rfl) rfl) rfl) rfl) rfl) rfl) rfl), rfl, hX39, hlek36, (by omega), (by rw [dmRow_no (dms_0 g (by omega) (show q9 < (rows.getD 0 ByteArray.empty).size by omega) h50), hos2]), (by omega), hw40⟩)))))
 omega
 refine wp_exit (s_thenE (s_lopE (s_blkE (s_blkN (s_then (c_reg ?_))))))
 refine qd rfl rfl rfl (r_move (v := (.int .i64 (i : Int))) rfl) (qd rfl rfl rfl (r_add rfl rfl (by omega)) (qd rfl rfl rfl (r_assign (v := (.int .i64 ((i : Int) + 1))) rfl) (qe (s_lopN (⟨_, ?_, _, rfl, _, i + 1, ov2, os2, GL2, (packS (x := 9) (packS (x := 8) (packS (x := 7) (packS (x := 6) (packS (x := 5) (packS (x := 4) (pack1 (x := 2) rfl) rfl) rfl) rfl) rfl) rfl) rfl), rfl, hX39, (Pin.le_trans hlek30 hlek36), (by omega), (by rw [hos2, hos, dmAll_succ, show q9 = wdS rows by show q9 = (rows.getD 0 ByteArray.empty).size; omega]), (by omega), hw40⟩)))))
 omega
 refine wp_exit (s_thenE (s_lopE (s_blkE (s_then (s_seq (c_reg ?_))))))
 refine qd rfl rfl rfl (r_move (v := ov) rfl) (qd rfl rfl rfl (r_assign (v := ov) rfl) (qe (s_then ?_)))
 refine wp_ret (s_ret (c_ret1 (v := ov) rfl rfl rfl ?_))
 obtain ⟨G158, hle161, hX160, hr159, hf162⟩ := hw34.sealed hX33
 have hin : i = rows.length := by omega
 subst hin
 exact ⟨_, _, rfl, (by show RSl _ _ _ (dmAll rows false _ rows.length); rw [← hos]; exact hr159), hX160⟩

theorem smoves_spec {w : World} {G : Pin} {v : Value} {rows : List ByteArray} (hP : Pins G w) (hv : RSl eStr G v rows) {left : Bool} (g : GbP rows) :
  Calls Tryd.prog 15 [(.agg [v].toArray), (.bool left)].toArray w fun e w' => ∃ (u : Value) (G' : Pin), e = .returned u ∧ RSl (eSl eStr) G' u (dmM rows left) ∧ Ext noS G w G' w' := by
 cases left with
 | true => exact smoves_true hP hv g
 | false => exact smoves_false hP hv g

theorem sDominoMoves_spec {w : World} {G : Pin} {v : Value} {rows : List ByteArray} (hP : Pins G w) (hv : RSl eStr G v rows) {left : Bool} :
  Calls Tryd.prog 7 [(.agg [v].toArray), (.bool left)].toArray w fun e w' => ∃ (u : Value) (G' : Pin), e = .returned (.tuple #[u, .bool (gbB rows)]) ∧ RSl (eSl eStr) G' u (dmF rows left) ∧ Ext noS G w G' w' := by
 refine s_enter (n := 12) Tryd.func7 Tryd.ntmps7 rfl rfl ?_
 have hX0 : Ext noS G w G w := Ext.refl hP
 have hm := hv.max
 refine s_seq (c_reg ?_)
 refine q1 rfl rfl rfl (o_box [v] (v := (.agg [v].toArray)) rfl rfl hX0.pins (fun b1 w2 hk3 hb4 hp5 hl6 => ?_))
 have hX7 := hX0.step hp5 hl6
 have hlo8 : w.heap.size ≤ b1 := by have := hX0.size; omega
 obtain ⟨G9, hle10, hX11, hbp12, hf13⟩ := hb4.shut hX7 hlo8
 refine qd rfl rfl rfl (r_assign (v := (.slice none 0 0)) rfl) (qd rfl rfl rfl (r_assign (v := (.bool false)) rfl) (qe (s_then (s_seq (s_seq (c_reg ?_))))))
 refine qd rfl rfl rfl (r_ldpA (cs := [v]) ag26 sz26 rfl (fun j u hj => hX11.pins _ _ _ (hbp12 _ _ (by simpa using hj)))) (q1 rfl rfl rfl (o_call (vs := [(.agg [v].toArray)]) Tryd.func14 nm14 rfl rfl rfl ?_))
 refine Calls.mono (sGoodBoard_spec hX11.pins (hv.mono hle10)) ?_
 rintro _ w15 ⟨G14, rfl, hx16⟩
 refine ⟨_, rfl, ?_⟩
 have hX17 := hX11.tr hx16
 refine qd rfl rfl rfl (r_not rfl) (qe (s_then ?_))
 refine c_ifn rfl rfl (fun h18 => ?_) (fun h18 => ?_)
 refine wp_skip (s_then (s_seq (c_reg ?_)))
 refine qd rfl rfl rfl (r_ldpA (cs := [v]) ag26 sz26 rfl (fun j u hj => (Pins.of_le hX17.pins hx16.le) _ _ _ (hbp12 _ _ (by simpa using hj)))) (qd rfl rfl rfl (r_move (v := (.bool left)) rfl) (q1 rfl rfl rfl (o_call (vs := [(.agg [v].toArray), (.bool left)]) Tryd.func15 nm15 rfl rfl rfl ?_)))
 refine Calls.mono (smoves_spec (left := left) hX17.pins (hv.mono (Pin.le_trans hle10 hx16.le)) (decP_true.1 h18)) ?_
 rintro _ w21 ⟨u19, G20, rfl, hr22, hx23⟩
 refine ⟨_, rfl, ?_⟩
 have hX24 := hX17.tr hx23
 refine qd rfl rfl rfl (r_assign (v := u19) rfl) (qd rfl rfl rfl (r_assign (v := (.bool true)) rfl) (qe (s_then ?_)))
 refine wp_ret (s_ret (c_ret2 (v := u19) (u := (.bool true)) rfl rfl rfl rfl rfl ?_))
 rw [h18, dmF_yes h18]
 exact ⟨_, _, rfl, hr22, hX24⟩
 refine s_seq (c_reg ?_)
 refine qd rfl rfl rfl (r_assign (v := (.slice none 0 0)) rfl) (qd rfl rfl rfl (r_assign (v := (.bool false)) rfl) (qe (s_then ?_)))
 refine wp_ret (s_ret (c_ret2 (v := (.slice none 0 0)) (u := (.bool false)) rfl rfl rfl rfl rfl ?_))
 rw [h18, dmF_no h18]
 exact ⟨_, _, rfl, (nil_reads _ _), hX17⟩

end RM6
end Go.Proofs.YtajkbplgbikgdaaDoor

set_option maxRecDepth 20000
set_option maxHeartbeats 2000000
namespace Go.Proofs.YtajkbplgbikgdaaDoor
namespace RD1
open Go.RowKit Go.GL Go.Proofs












theorem next_spec {w : World} {G : Pin} {c : Nat} {cv : Value} {code : List UInt8} {a s : Int} (hP : Pins G w) (hB : Bx G w c [cv, .int .i64 a, .int .u64 s]) (hc : RSl eByte G cv code) (ha : 0 ≤ a ∧ a + 1 ≤ 1000000) (_ : 0 ≤ s ∧ s < 18446744073709551616) :
  Calls Tryd.prog 29 [(.pointer (some ⟨c, 0, none⟩))].toArray w fun e w' => ∃ (z : Int) (a' s' : Int), e = .returned (.int .i64 z) ∧ (0 ≤ z ∧ z ≤ 255) ∧ Bx G w' c [cv, .int .i64 a', .int .u64 s'] ∧ (a ≤ a' ∧ a' ≤ a + 1) ∧ (0 ≤ s' ∧ s' < 18446744073709551616) ∧ Ext (inO (some c)) G w G w' := by
 refine s_enter (n := 62) Tryd.func29 Tryd.ntmps29 rfl rfl ?_
 have hX0 : Ext (inO (some c)) G w G w := Ext.refl hP
 have hm := hc.max
 refine s_seq (c_reg ?_)
 refine qd rfl rfl rfl (r_assign (v := (.int .i64 0)) rfl) (qe (s_then (s_seq (c_reg ?_))))
 refine qd rfl rfl rfl (r_assign (v := (.int .i64 0)) rfl) (qe (s_then (s_seq (s_seq ?_))))
 refine c_draw (S := fun wz => BxR wz c [cv, (.int .i64 a), (.int .u64 s)]) (last := 10) (by kernel_rfl) rfl ?_
 have hl1 : Below w.heap.size w w.drew := (Below.refl _ _).drew
 have hp2 := hX0.pins.below hl1
 have hX3 := hX0.step hp2 hl1
 have hb4 := hB.below hl1
 refine dr_take (i := 0) rfl rfl rfl (want_none rfl _) (by kernel_rfl) (fun _ _ => r_move (v := (.pointer (some ⟨c, 0, none⟩))) rfl) hb4.reads (dr_take (i := 1) rfl rfl rfl (want_none rfl _) (by kernel_rfl) (fun _ _ => r_nil rfl) hb4.reads (dr_take (i := 2) rfl rfl rfl (want_none rfl _) (by kernel_rfl) (fun _ _ => r_fldp (k := 1) rfl Tryd.underlying38 rfl nz3 rfl) hb4.reads (dr_take (i := 3) rfl rfl rfl (want_none rfl _) (by kernel_rfl) (fun _ hS => r_ldp1 (u := (.int .i64 a)) ag3 rfl (hS 1 _ rfl)) hb4.reads (dr_take (i := 4) rfl rfl rfl (want_none rfl _) (by kernel_rfl) (fun _ _ => r_move (v := (.pointer (some ⟨c, 0, none⟩))) rfl) hb4.reads (dr_take (i := 5) rfl rfl rfl (want_none rfl _) (by kernel_rfl) (fun _ _ => r_nil rfl) hb4.reads (dr_take (i := 6) rfl rfl rfl (want_none rfl _) (by kernel_rfl) (fun _ _ => r_fldp (k := 0) rfl Tryd.underlying38 rfl nz22 rfl) hb4.reads (dr_take (i := 7) rfl rfl rfl (want_none rfl _) (by kernel_rfl) (fun _ hS => r_ldp1 (u := cv) ag22 rfl (hS 0 _ rfl)) hb4.reads (dr_take (i := 8) rfl rfl rfl (want_none rfl _) (by kernel_rfl) (fun _ _ => run_len Tryd.underlying22 (v := cv) rfl hc) hb4.reads (dr_take (i := 9) rfl rfl rfl (want_none rfl _) (by kernel_rfl) (fun _ _ => r_lss rfl rfl) hb4.reads (dr_end (by kernel_rfl) (s_then (c_ifd (p := (a : Int) < (code.length : Int)) rfl rfl (fun h5 => ?_) (fun h5 => ?_)))))))))))))
 have h255 := (code.getD a.toNat 0).toNat_lt
 refine c_draw (S := fun wz => BxR wz c [cv, (.int .i64 a), (.int .u64 s)] ∧ Pins G wz) (last := 12) (by kernel_rfl) rfl ?_
 have hl6 : Below w.drew.heap.size w.drew w.drew.drew := (Below.refl _ _).drew
 have hp7 := hX3.pins.below hl6
 have hX8 := hX3.step hp7 hl6
 have hb9 := hb4.below hl6
 refine dr_take (i := 0) rfl rfl rfl (want_none rfl _) (by kernel_rfl) (fun _ _ => r_move (v := (.pointer (some ⟨c, 0, none⟩))) rfl) ⟨hb9.reads, hX8.pins⟩ (dr_take (i := 1) rfl rfl rfl (want_none rfl _) (by kernel_rfl) (fun _ _ => r_nil rfl) ⟨hb9.reads, hX8.pins⟩ (dr_take (i := 2) rfl rfl rfl (want_none rfl _) (by kernel_rfl) (fun _ _ => r_fldp (k := 0) rfl Tryd.underlying38 rfl nz22 rfl) ⟨hb9.reads, hX8.pins⟩ (dr_take (i := 3) rfl rfl rfl (want_none rfl _) (by kernel_rfl) (fun _ hS => r_ldp1 (u := cv) ag22 rfl (hS.1 0 _ rfl)) ⟨hb9.reads, hX8.pins⟩ (dr_take (i := 4) rfl rfl rfl (want_none rfl _) (by kernel_rfl) (fun _ _ => r_move (v := (.pointer (some ⟨c, 0, none⟩))) rfl) ⟨hb9.reads, hX8.pins⟩ (dr_take (i := 5) rfl rfl rfl (want_none rfl _) (by kernel_rfl) (fun _ _ => r_nil rfl) ⟨hb9.reads, hX8.pins⟩ (dr_take (i := 6) rfl rfl rfl (want_none rfl _) (by kernel_rfl) (fun _ _ => r_fldp (k := 1) rfl Tryd.underlying38 rfl nz3 rfl) ⟨hb9.reads, hX8.pins⟩ (dr_take (i := 7) rfl rfl rfl (want_none rfl _) (by kernel_rfl) (fun _ hS => r_ldp1 (u := (.int .i64 a)) ag3 rfl (hS.1 1 _ rfl)) ⟨hb9.reads, hX8.pins⟩ (dr_take (i := 8) rfl rfl rfl (want_none rfl _) (by kernel_rfl) (fun _ _ => run_idx Tryd.underlying22 sz5 (v := cv) rfl rfl hc (by omega) (by omega)) ⟨hb9.reads, hX8.pins⟩ (dr_take (i := 9) rfl rfl rfl (want_none rfl _) (by kernel_rfl) (fun _ hS => run_load_byte (r := code.getD (a).toNat 0) rfl ag5 (z := a) rfl hc hS.2 (by omega) (by omega)) ⟨hb9.reads, hX8.pins⟩ (dr_take (i := 10) rfl rfl rfl (want_none rfl _) (by kernel_rfl) (fun _ _ => r_conv (j := ((code.getD (a).toNat 0).toNat : Int)) Tryd.underlying5 Tryd.underlying3 rfl (wrapI (by omega))) ⟨hb9.reads, hX8.pins⟩ (dr_take (i := 11) rfl rfl rfl (want_none rfl _) (by kernel_rfl) (fun _ _ => r_assign (v := (.int .i64 ((code.getD (a).toNat 0).toNat : Int))) rfl) ⟨hb9.reads, hX8.pins⟩ (dr_end (by kernel_rfl) (s_then (s_seq (c_reg ?_)))))))))))))))
 refine qd rfl rfl rfl (r_move (v := (.pointer (some ⟨c, 0, none⟩))) rfl) (qd rfl rfl rfl (r_nil rfl) (qd rfl rfl rfl (r_fldp (k := 1) rfl Tryd.underlying38 rfl nz3 rfl) (qd rfl rfl rfl (r_ldp1 (u := (.int .i64 a)) ag3 rfl (hb9.cell (o := 1) rfl)) (qd rfl rfl rfl (r_add rfl rfl (by omega)) (qd rfl rfl rfl (r_nil rfl) (qd rfl rfl rfl (r_fldp (k := 1) rfl Tryd.underlying38 rfl nz3 rfl) (q0 rfl rfl rfl (o_stp (cs' := [cv, (.int .i64 (a + 1)), (.int .u64 s)]) (us := [(.int .i64 (a + 1))]) (v := (.int .i64 (a + 1))) sz3 rfl rfl rfl (ones1 (by rfl)) hX8.pins hb9 (Nat.le_of_ble_eq_true rfl) rfl (fun w10 hb11 hp12 hg13 hz14 => ?_)))))))))
 have hX15 := hX8.write hp12 hg13 (lo_self)
 refine qe (s_then (s_seq (c_reg ?_)))
 refine qd rfl rfl rfl (r_move (v := (.pointer (some ⟨c, 0, none⟩))) rfl) (qd rfl rfl rfl (r_move (v := (.pointer (some ⟨c, 0, none⟩))) rfl) (qd rfl rfl rfl (r_nil rfl) (qd rfl rfl rfl (r_fldp (k := 2) rfl Tryd.underlying38 rfl nz36 rfl) (qd rfl rfl rfl (r_ldp1 (u := (.int .u64 s)) ag36 rfl (hb11.cell (o := 2) rfl)) (qd rfl rfl rfl (r_mulU rfl rfl) (qd rfl rfl rfl (r_move (v := (.int .i64 ((code.getD (a).toNat 0).toNat : Int))) rfl) (qd rfl rfl rfl (r_conv (j := ((code.getD (a).toNat 0).toNat : Int)) Tryd.underlying3 Tryd.underlying36 rfl (wrapU (by omega))) (qd rfl rfl rfl (r_addU rfl rfl) (qd rfl rfl rfl (r_addU rfl rfl) (qd rfl rfl rfl (r_nil rfl) (qd rfl rfl rfl (r_fldp (k := 2) rfl Tryd.underlying38 rfl nz36 rfl) (q0 rfl rfl rfl (o_stp (cs' := [cv, (.int .i64 (a + 1)), (.int .u64 (IntKind.u64.wrap ((IntKind.u64.wrap ((IntKind.u64.wrap (s * 6364136223846793005)) + ((code.getD (a).toNat 0).toNat : Int))) + 868868)))]) (us := [(.int .u64 (IntKind.u64.wrap ((IntKind.u64.wrap ((IntKind.u64.wrap (s * 6364136223846793005)) + ((code.getD (a).toNat 0).toNat : Int))) + 868868)))]) (v := (.int .u64 (IntKind.u64.wrap ((IntKind.u64.wrap ((IntKind.u64.wrap (s * 6364136223846793005)) + ((code.getD (a).toNat 0).toNat : Int))) + 868868)))) sz36 rfl rfl rfl (ones1 (by rfl)) hX15.pins hb11 (Nat.le_of_ble_eq_true rfl) rfl (fun w16 hb17 hp18 hg19 hz20 => ?_))))))))))))))
 have hX21 := hX15.write hp18 hg19 (lo_self)
 refine qe (s_then (s_seq (s_seq ?_)))
 refine c_draw (S := fun wz => BxR wz c [cv, (.int .i64 (a + 1)), (.int .u64 (IntKind.u64.wrap ((IntKind.u64.wrap ((IntKind.u64.wrap (s * 6364136223846793005)) + ((code.getD (a).toNat 0).toNat : Int))) + 868868)))]) (last := 10) (by kernel_rfl) rfl ?_
 have hl22 : Below w16.heap.size w16 w16.drew := (Below.refl _ _).drew
 have hp23 := hX21.pins.below hl22
 have hX24 := hX21.step hp23 hl22
 have hb25 := hb17.below hl22
 refine dr_take (i := 0) rfl rfl rfl (want_none rfl _) (by kernel_rfl) (fun _ _ => r_move (v := (.pointer (some ⟨c, 0, none⟩))) rfl) hb25.reads (dr_take (i := 1) rfl rfl rfl (want_none rfl _) (by kernel_rfl) (fun _ _ => r_nil rfl) hb25.reads (dr_take (i := 2) rfl rfl rfl (want_none rfl _) (by kernel_rfl) (fun _ _ => r_fldp (k := 1) rfl Tryd.underlying38 rfl nz3 rfl) hb25.reads (dr_take (i := 3) rfl rfl rfl (want_none rfl _) (by kernel_rfl) (fun _ hS => r_ldp1 (u := (.int .i64 (a + 1))) ag3 rfl (hS 1 _ rfl)) hb25.reads (dr_take (i := 4) rfl rfl rfl (want_none rfl _) (by kernel_rfl) (fun _ _ => r_move (v := (.pointer (some ⟨c, 0, none⟩))) rfl) hb25.reads (dr_take (i := 5) rfl rfl rfl (want_none rfl _) (by kernel_rfl) (fun _ _ => r_nil rfl) hb25.reads (dr_take (i := 6) rfl rfl rfl (want_none rfl _) (by kernel_rfl) (fun _ _ => r_fldp (k := 0) rfl Tryd.underlying38 rfl nz22 rfl) hb25.reads (dr_take (i := 7) rfl rfl rfl (want_none rfl _) (by kernel_rfl) (fun _ hS => r_ldp1 (u := cv) ag22 rfl (hS 0 _ rfl)) hb25.reads (dr_take (i := 8) rfl rfl rfl (want_none rfl _) (by kernel_rfl) (fun _ _ => run_len Tryd.underlying22 (v := cv) rfl hc) hb25.reads (dr_take (i := 9) rfl rfl rfl (want_none rfl _) (by kernel_rfl) (fun _ _ => r_leq rfl rfl) hb25.reads (dr_end (by kernel_rfl) (s_then (c_ifd (p := (a + 1 : Int) ≤ (code.length : Int)) rfl rfl (fun h26 => ?_) (fun h26 => ?_)))))))))))))
 refine s_seq (c_reg ?_)
 refine qd rfl rfl rfl (r_move (v := (.int .i64 ((code.getD (a).toNat 0).toNat : Int))) rfl) (qd rfl rfl rfl (r_assign (v := (.int .i64 ((code.getD (a).toNat 0).toNat : Int))) rfl) (qe (s_then ?_)))
 refine wp_ret (s_ret (c_ret1 (v := (.int .i64 ((code.getD (a).toNat 0).toNat : Int))) rfl rfl rfl ?_))
 have hwr := wrapU_lt (((IntKind.u64.wrap ((IntKind.u64.wrap (s * 6364136223846793005)) + ((code.getD (a).toNat 0).toNat : Int))) + 868868))
 exact ⟨_, _, _, rfl, (by omega), hb25, (by omega), (by omega), hX24⟩
 refine wp_skip (s_then (s_seq (c_reg ?_)))
 refine qd rfl rfl rfl (r_move (v := (.pointer (some ⟨c, 0, none⟩))) rfl) (qd rfl rfl rfl (r_nil rfl) (qd rfl rfl rfl (r_fldp (k := 2) rfl Tryd.underlying38 rfl nz36 rfl) (qd rfl rfl rfl (r_ldp1 (u := (.int .u64 (IntKind.u64.wrap ((IntKind.u64.wrap ((IntKind.u64.wrap (s * 6364136223846793005)) + ((code.getD (a).toNat 0).toNat : Int))) + 868868)))) ag36 rfl (hb25.cell (o := 2) rfl)) (qd rfl rfl rfl (r_shrU rfl rfl (by omega)) (qd rfl rfl rfl (r_and rfl rfl) ?_)))))
 have hl827 := low8_lt (Int.fdiv (IntKind.u64.wrap ((IntKind.u64.wrap ((IntKind.u64.wrap (s * 6364136223846793005)) + ((code.getD (a).toNat 0).toNat : Int))) + 868868)) (2 ^ (min (40 : Int).toNat 64)))
 refine qd rfl rfl rfl (r_conv (j := andW .u64 (Int.fdiv (IntKind.u64.wrap ((IntKind.u64.wrap ((IntKind.u64.wrap (s * 6364136223846793005)) + ((code.getD (a).toNat 0).toNat : Int))) + 868868)) (2 ^ (min (40 : Int).toNat 64))) 255) Tryd.underlying36 Tryd.underlying3 rfl (wrapI (by omega))) (qd rfl rfl rfl (r_assign (v := (.int .i64 (andW .u64 (Int.fdiv (IntKind.u64.wrap ((IntKind.u64.wrap ((IntKind.u64.wrap (s * 6364136223846793005)) + ((code.getD (a).toNat 0).toNat : Int))) + 868868)) (2 ^ (min (40 : Int).toNat 64))) 255))) rfl) (qe (s_then ?_)))
 refine wp_ret (s_ret (c_ret1 (v := (.int .i64 (andW .u64 (Int.fdiv (IntKind.u64.wrap ((IntKind.u64.wrap ((IntKind.u64.wrap (s * 6364136223846793005)) + ((code.getD (a).toNat 0).toNat : Int))) + 868868)) (2 ^ (min (40 : Int).toNat 64))) 255))) rfl rfl rfl ?_))
 have hwr := wrapU_lt (((IntKind.u64.wrap ((IntKind.u64.wrap (s * 6364136223846793005)) + ((code.getD (a).toNat 0).toNat : Int))) + 868868))
 exact ⟨_, _, _, rfl, (by omega), hb25, (by omega), (by omega), hX24⟩
 refine wp_skip (s_then (s_seq (c_reg ?_)))
 refine qd rfl rfl rfl (r_move (v := (.pointer (some ⟨c, 0, none⟩))) rfl) (qd rfl rfl rfl (r_nil rfl) (qd rfl rfl rfl (r_fldp (k := 1) rfl Tryd.underlying38 rfl nz3 rfl) (qd rfl rfl rfl (r_ldp1 (u := (.int .i64 a)) ag3 rfl (hb4.cell (o := 1) rfl)) (qd rfl rfl rfl (r_add rfl rfl (by omega)) (qd rfl rfl rfl (r_nil rfl) (qd rfl rfl rfl (r_fldp (k := 1) rfl Tryd.underlying38 rfl nz3 rfl) (q0 rfl rfl rfl (o_stp (cs' := [cv, (.int .i64 (a + 1)), (.int .u64 s)]) (us := [(.int .i64 (a + 1))]) (v := (.int .i64 (a + 1))) sz3 rfl rfl rfl (ones1 (by rfl)) hX3.pins hb4 (Nat.le_of_ble_eq_true rfl) rfl (fun w28 hb29 hp30 hg31 hz32 => ?_)))))))))
 have hX33 := hX3.write hp30 hg31 (lo_self)
 refine qe (s_then (s_seq (c_reg ?_)))
 refine qd rfl rfl rfl (r_move (v := (.pointer (some ⟨c, 0, none⟩))) rfl) (qd rfl rfl rfl (r_move (v := (.pointer (some ⟨c, 0, none⟩))) rfl) (qd rfl rfl rfl (r_nil rfl) (qd rfl rfl rfl (r_fldp (k := 2) rfl Tryd.underlying38 rfl nz36 rfl) (qd rfl rfl rfl (r_ldp1 (u := (.int .u64 s)) ag36 rfl (hb29.cell (o := 2) rfl)) (qd rfl rfl rfl (r_mulU rfl rfl) (qd rfl rfl rfl (r_move (v := (.int .i64 0)) rfl) (qd rfl rfl rfl (r_conv (j := 0) Tryd.underlying3 Tryd.underlying36 rfl (wrapU (by omega))) (qd rfl rfl rfl (r_addU rfl rfl) (qd rfl rfl rfl (r_addU rfl rfl) (qd rfl rfl rfl (r_nil rfl) (qd rfl rfl rfl (r_fldp (k := 2) rfl Tryd.underlying38 rfl nz36 rfl) (q0 rfl rfl rfl (o_stp (cs' := [cv, (.int .i64 (a + 1)), (.int .u64 (IntKind.u64.wrap ((IntKind.u64.wrap ((IntKind.u64.wrap (s * 6364136223846793005)) + 0)) + 868868)))]) (us := [(.int .u64 (IntKind.u64.wrap ((IntKind.u64.wrap ((IntKind.u64.wrap (s * 6364136223846793005)) + 0)) + 868868)))]) (v := (.int .u64 (IntKind.u64.wrap ((IntKind.u64.wrap ((IntKind.u64.wrap (s * 6364136223846793005)) + 0)) + 868868)))) sz36 rfl rfl rfl (ones1 (by rfl)) hX33.pins hb29 (Nat.le_of_ble_eq_true rfl) rfl (fun w34 hb35 hp36 hg37 hz38 => ?_))))))))))))))
 have hX39 := hX33.write hp36 hg37 (lo_self)
 refine qe (s_then (s_seq (s_seq ?_)))
 refine c_draw (S := fun wz => BxR wz c [cv, (.int .i64 (a + 1)), (.int .u64 (IntKind.u64.wrap ((IntKind.u64.wrap ((IntKind.u64.wrap (s * 6364136223846793005)) + 0)) + 868868)))]) (last := 10) (by kernel_rfl) rfl ?_
 have hl40 : Below w34.heap.size w34 w34.drew := (Below.refl _ _).drew
 have hp41 := hX39.pins.below hl40
 have hX42 := hX39.step hp41 hl40
 have hb43 := hb35.below hl40
 refine dr_take (i := 0) rfl rfl rfl (want_none rfl _) (by kernel_rfl) (fun _ _ => r_move (v := (.pointer (some ⟨c, 0, none⟩))) rfl) hb43.reads (dr_take (i := 1) rfl rfl rfl (want_none rfl _) (by kernel_rfl) (fun _ _ => r_nil rfl) hb43.reads (dr_take (i := 2) rfl rfl rfl (want_none rfl _) (by kernel_rfl) (fun _ _ => r_fldp (k := 1) rfl Tryd.underlying38 rfl nz3 rfl) hb43.reads (dr_take (i := 3) rfl rfl rfl (want_none rfl _) (by kernel_rfl) (fun _ hS => r_ldp1 (u := (.int .i64 (a + 1))) ag3 rfl (hS 1 _ rfl)) hb43.reads (dr_take (i := 4) rfl rfl rfl (want_none rfl _) (by kernel_rfl) (fun _ _ => r_move (v := (.pointer (some ⟨c, 0, none⟩))) rfl) hb43.reads (dr_take (i := 5) rfl rfl rfl (want_none rfl _) (by kernel_rfl) (fun _ _ => r_nil rfl) hb43.reads (dr_take (i := 6) rfl rfl rfl (want_none rfl _) (by kernel_rfl) (fun _ _ => r_fldp (k := 0) rfl Tryd.underlying38 rfl nz22 rfl) hb43.reads (dr_take (i := 7) rfl rfl rfl (want_none rfl _) (by kernel_rfl) (fun _ hS => r_ldp1 (u := cv) ag22 rfl (hS 0 _ rfl)) hb43.reads (dr_take (i := 8) rfl rfl rfl (want_none rfl _) (by kernel_rfl) (fun _ _ => run_len Tryd.underlying22 (v := cv) rfl hc) hb43.reads (dr_take (i := 9) rfl rfl rfl (want_none rfl _) (by kernel_rfl) (fun _ _ => r_leq rfl rfl) hb43.reads (dr_end (by kernel_rfl) (s_then (c_ifd (p := (a + 1 : Int) ≤ (code.length : Int)) rfl rfl (fun h44 => ?_) (fun h44 => ?_)))))))))))))
 refine s_seq (c_reg ?_)
 refine qd rfl rfl rfl (r_move (v := (.int .i64 0)) rfl) (qd rfl rfl rfl (r_assign (v := (.int .i64 0)) rfl) (qe (s_then ?_)))
 refine wp_ret (s_ret (c_ret1 (v := (.int .i64 0)) rfl rfl rfl ?_))
 have hwr := wrapU_lt (((IntKind.u64.wrap ((IntKind.u64.wrap (s * 6364136223846793005)) + 0)) + 868868))
 exact ⟨_, _, _, rfl, (by omega), hb43, (by omega), (by omega), hX42⟩
 refine wp_skip (s_then (s_seq (c_reg ?_)))
 refine qd rfl rfl rfl (r_move (v := (.pointer (some ⟨c, 0, none⟩))) rfl) (qd rfl rfl rfl (r_nil rfl) (qd rfl rfl rfl (r_fldp (k := 2) rfl Tryd.underlying38 rfl nz36 rfl) (qd rfl rfl rfl (r_ldp1 (u := (.int .u64 (IntKind.u64.wrap ((IntKind.u64.wrap ((IntKind.u64.wrap (s * 6364136223846793005)) + 0)) + 868868)))) ag36 rfl (hb43.cell (o := 2) rfl)) (qd rfl rfl rfl (r_shrU rfl rfl (by omega)) (qd rfl rfl rfl (r_and rfl rfl) ?_)))))
 have hl845 := low8_lt (Int.fdiv (IntKind.u64.wrap ((IntKind.u64.wrap ((IntKind.u64.wrap (s * 6364136223846793005)) + 0)) + 868868)) (2 ^ (min (40 : Int).toNat 64)))
 refine qd rfl rfl rfl (r_conv (j := andW .u64 (Int.fdiv (IntKind.u64.wrap ((IntKind.u64.wrap ((IntKind.u64.wrap (s * 6364136223846793005)) + 0)) + 868868)) (2 ^ (min (40 : Int).toNat 64))) 255) Tryd.underlying36 Tryd.underlying3 rfl (wrapI (by omega))) (qd rfl rfl rfl (r_assign (v := (.int .i64 (andW .u64 (Int.fdiv (IntKind.u64.wrap ((IntKind.u64.wrap ((IntKind.u64.wrap (s * 6364136223846793005)) + 0)) + 868868)) (2 ^ (min (40 : Int).toNat 64))) 255))) rfl) (qe (s_then ?_)))
 refine wp_ret (s_ret (c_ret1 (v := (.int .i64 (andW .u64 (Int.fdiv (IntKind.u64.wrap ((IntKind.u64.wrap ((IntKind.u64.wrap (s * 6364136223846793005)) + 0)) + 868868)) (2 ^ (min (40 : Int).toNat 64))) 255))) rfl rfl rfl ?_))
 have hwr := wrapU_lt (((IntKind.u64.wrap ((IntKind.u64.wrap (s * 6364136223846793005)) + 0)) + 868868))
 exact ⟨_, _, _, rfl, (by omega), hb43, (by omega), (by omega), hX42⟩

theorem pick_spec {w : World} {G : Pin} {c : Nat} {cv : Value} {code : List UInt8} {a s : Int} {n : Int} (hP : Pins G w) (hB : Bx G w c [cv, .int .i64 a, .int .u64 s]) (hc : RSl eByte G cv code) (ha : 0 ≤ a ∧ a + 2 ≤ 1000000) (hs : 0 ≤ s ∧ s < 18446744073709551616) (hn : n ≤ 1000) :
  Calls Tryd.prog 19 [(.pointer (some ⟨c, 0, none⟩)), (.int .i64 n)].toArray w fun e w' => ∃ (z : Int) (a' s' : Int), e = .returned (.int .i64 z) ∧ (0 ≤ z ∧ (z < n ∨ z = 0)) ∧ Bx G w' c [cv, .int .i64 a', .int .u64 s'] ∧ (a ≤ a' ∧ a' ≤ a + 2) ∧ (0 ≤ s' ∧ s' < 18446744073709551616) ∧ Ext (inO (some c)) G w G w' := by
 refine s_enter (n := 20) Tryd.func19 Tryd.ntmps19 rfl rfl ?_
 have hX0 : Ext (inO (some c)) G w G w := Ext.refl hP
 have hm := hc.max
 refine s_seq (c_reg ?_)
 refine qd rfl rfl rfl (r_assign (v := (.int .i64 0)) rfl) (qe (s_then (s_seq (s_seq (c_reg ?_)))))
 refine qd rfl rfl rfl (r_move (v := (.int .i64 n)) rfl) (qd rfl rfl rfl (r_leq rfl rfl) (qe (s_then ?_)))
 refine c_ifd (p := (n : Int) ≤ 1) rfl rfl (fun h1 => ?_) (fun h1 => ?_)
 refine s_seq (c_reg ?_)
 refine qd rfl rfl rfl (r_assign (v := (.int .i64 0)) rfl) (qe (s_then ?_))
 exact wp_ret (s_ret (c_ret1 (v := (.int .i64 0)) rfl rfl rfl (⟨_, _, _, rfl, (by omega), hB, (by omega), (by omega), hX0⟩)))
 refine wp_skip (s_then (s_seq (c_reg ?_)))
 refine qd rfl rfl rfl (r_move (v := (.pointer (some ⟨c, 0, none⟩))) rfl) (q1 rfl rfl rfl (o_call (vs := [(.pointer (some ⟨c, 0, none⟩))]) Tryd.func29 nm29 rfl rfl rfl ?_))
 refine Calls.mono (next_spec hX0.pins hB hc (by omega) (by omega)) ?_
 rintro _ w6 ⟨z2, a4, s5, rfl, hz3, hb7, hda8, hds9, hx10⟩
 refine ⟨_, rfl, ?_⟩
 have hX11 := hX0.trans hx10 (fun i hi => lo_self i hi)
 refine qd rfl rfl rfl (r_assign (v := (.int .i64 z2)) rfl) (qe (s_then (s_seq (s_seq (c_reg ?_)))))
 refine qd rfl rfl rfl (r_move (v := (.int .i64 n)) rfl) (qd rfl rfl rfl (r_gtr rfl rfl) (qe (s_then ?_)))
 refine c_ifd (p := (200 : Int) < n) rfl rfl (fun h12 => ?_) (fun h12 => ?_)
 refine c_reg (qd rfl rfl rfl (r_move (v := (.int .i64 z2)) rfl) (qd rfl rfl rfl (r_mul rfl rfl (by omega)) (qd rfl rfl rfl (r_move (v := (.pointer (some ⟨c, 0, none⟩))) rfl) (q1 rfl rfl rfl (o_call (vs := [(.pointer (some ⟨c, 0, none⟩))]) Tryd.func29 nm29 rfl rfl rfl ?_)))))
 refine Calls.mono (next_spec hX11.pins hb7 hc (by omega) (by omega)) ?_
 rintro _ w17 ⟨z13, a15, s16, rfl, hz14, hb18, hda19, hds20, hx21⟩
 refine ⟨_, rfl, ?_⟩
 have hX22 := hX11.trans hx21 (fun i hi => lo_self i hi)
 refine qd rfl rfl rfl (r_add rfl rfl (by omega)) (qd rfl rfl rfl (r_assign (v := (.int .i64 ((z2 * 256) + z13))) rfl) (qe (s_then (s_seq (c_reg ?_)))))
 refine qd rfl rfl rfl (r_move (v := (.int .i64 ((z2 * 256) + z13))) rfl) (qd rfl rfl rfl (r_move (v := (.int .i64 n)) rfl) (qd rfl rfl rfl (r_rem rfl rfl (by omega) (by omega)) (qd rfl rfl rfl (r_assign (v := (.int .i64 (((z2 * 256) + z13) % n))) rfl) (qe (s_then ?_)))))
 refine wp_ret (s_ret (c_ret1 (v := (.int .i64 (((z2 * 256) + z13) % n))) rfl rfl rfl ?_))
 have hr1 := Int.emod_nonneg (((z2 * 256) + z13)) (show n ≠ 0 by omega)
 have hr2 := Int.emod_lt_of_pos (((z2 * 256) + z13)) (show 0 < n by omega)
 exact ⟨_, _, _, rfl, (by omega), hb18, (by omega), (by omega), hX22⟩
 refine wp_skip (s_then (s_seq (c_reg ?_)))
 refine qd rfl rfl rfl (r_move (v := (.int .i64 z2)) rfl) (qd rfl rfl rfl (r_move (v := (.int .i64 n)) rfl) (qd rfl rfl rfl (r_rem rfl rfl (by omega) (by omega)) (qd rfl rfl rfl (r_assign (v := (.int .i64 (z2 % n))) rfl) (qe (s_then ?_)))))
 refine wp_ret (s_ret (c_ret1 (v := (.int .i64 (z2 % n))) rfl rfl rfl ?_))
 have hr1 := Int.emod_nonneg (z2) (show n ≠ 0 by omega)
 have hr2 := Int.emod_lt_of_pos (z2) (show 0 < n by omega)
 exact ⟨_, _, _, rfl, (by omega), hb7, (by omega), (by omega), hX11⟩

theorem one_spec {w : World} {G : Pin} {c : Nat} {cv : Value} {code : List UInt8} {a s : Int} {n : Int} (hP : Pins G w) (hB : Bx G w c [cv, .int .i64 a, .int .u64 s]) (hc : RSl eByte G cv code) (ha : 0 ≤ a ∧ a + 2 ≤ 1000000) (hs : 0 ≤ s ∧ s < 18446744073709551616) (hn : n ≤ 1000) :
  Calls Tryd.prog 11 [(.pointer (some ⟨c, 0, none⟩)), (.int .i64 n)].toArray w fun e w' => ∃ (z : Bool) (a' s' : Int), e = .returned (.bool z) ∧ Bx G w' c [cv, .int .i64 a', .int .u64 s'] ∧ (a ≤ a' ∧ a' ≤ a + 2) ∧ (0 ≤ s' ∧ s' < 18446744073709551616) ∧ Ext (inO (some c)) G w G w' := by
 refine s_enter (n := 9) Tryd.func11 Tryd.ntmps11 rfl rfl ?_
 have hX0 : Ext (inO (some c)) G w G w := Ext.refl hP
 have hm := hc.max
 refine s_seq (c_reg ?_)
 refine qd rfl rfl rfl (r_assign (v := (.bool false)) rfl) (qe (s_then (s_seq (c_reg ?_))))
 refine qd rfl rfl rfl (r_move (v := (.pointer (some ⟨c, 0, none⟩))) rfl) (qd rfl rfl rfl (r_move (v := (.int .i64 n)) rfl) (q1 rfl rfl rfl (o_call (vs := [(.pointer (some ⟨c, 0, none⟩)), (.int .i64 n)]) Tryd.func19 nm19 rfl rfl rfl ?_)))
 refine Calls.mono (pick_spec hX0.pins hB hc (by omega) (by omega) (n := n) (by omega)) ?_
 rintro _ w5 ⟨z1, a3, s4, rfl, hz2, hb6, hda7, hds8, hx9⟩
 refine ⟨_, rfl, ?_⟩
 have hX10 := hX0.trans hx9 (fun i hi => lo_self i hi)
 refine qd rfl rfl rfl (r_eql rfl rfl) (qd rfl rfl rfl (r_assign (v := (.bool (decide ((z1 : Int) = 0)))) rfl) (qe (s_then ?_)))
 exact wp_ret (s_ret (c_ret1 (v := (.bool (decide ((z1 : Int) = 0)))) rfl rfl rfl (⟨_, _, _, rfl, hb6, (by omega), (by omega), hX10⟩)))

theorem spoilt_spec {w : World} {G : Pin} {c : Nat} {cv : Value} {code : List UInt8} {a s : Int} {t x : ByteArray} (hP : Pins G w) (hB : Bx G w c [cv, .int .i64 a, .int .u64 s]) (hc : RSl eByte G cv code) (ha : 0 ≤ a ∧ a + 6 ≤ 1000000) (hs : 0 ≤ s ∧ s < 18446744073709551616) (ht : t.size ≤ 1000 ∧ 1 ≤ x.size ∧ x.size ≤ 100) :
  Calls Tryd.prog 20 [(.pointer (some ⟨c, 0, none⟩)), (.string t), (.string x)].toArray w fun e w' => ∃ (z : ByteArray) (a' s' : Int), e = .returned (.string z) ∧ z.size ≤ t.size + 1 ∧ Bx G w' c [cv, .int .i64 a', .int .u64 s'] ∧ (a ≤ a' ∧ a' ≤ a + 6) ∧ (0 ≤ s' ∧ s' < 18446744073709551616) ∧ Ext (inO (some c)) G w G w' := by
 refine s_enter (n := 57) Tryd.func20 Tryd.ntmps20 rfl rfl ?_
 have hX0 : Ext (inO (some c)) G w G w := Ext.refl hP
 have hm := hc.max
 have hes : (⟨#[]⟩ : ByteArray).size = 0 := rfl
 refine s_seq (c_reg ?_)
 refine qd rfl rfl rfl (r_assign (v := (.string (⟨#[]⟩ : ByteArray))) rfl) (qe (s_then (s_seq (s_seq (c_reg ?_)))))
 refine qd rfl rfl rfl (r_move (v := (.string t)) rfl) (qd rfl rfl rfl (r_eqlS rfl rfl) (qe (s_then ?_)))
 refine c_if rfl rfl (fun h1 => ?_) (fun h1 => ?_)
 refine s_seq (c_reg ?_)
 refine qd rfl rfl rfl (r_move (v := (.string x)) rfl) ?_
 have hm2 : (x.extract 0 1).size = min 1 x.size - 0 := ByteArray.size_extract
 refine qd rfl rfl rfl (r_cutS Tryd.underlying9 rfl rfl (by omega) (by omega)) (qd rfl rfl rfl (r_assign (v := (.string (x.extract 0 1))) rfl) (qe (s_then ?_)))
 exact wp_ret (s_ret (c_ret1 (v := (.string (x.extract 0 1))) rfl rfl rfl (⟨_, _, _, rfl, (by omega), hB, (by omega), (by omega), hX0⟩)))
 refine wp_skip (s_then (s_seq (c_reg ?_)))
 have htn := txt_ne h1
 refine qd rfl rfl rfl (r_move (v := (.pointer (some ⟨c, 0, none⟩))) rfl) (qd rfl rfl rfl (r_move (v := (.string t)) rfl) (qd rfl rfl rfl (r_lenS Tryd.underlying9 rfl) (q1 rfl rfl rfl (o_call (vs := [(.pointer (some ⟨c, 0, none⟩)), (.int .i64 (t.size : Int))]) Tryd.func19 nm19 rfl rfl rfl ?_))))
 refine Calls.mono (pick_spec hX0.pins hB hc (by omega) (by omega) (n := (t.size : Int)) (by omega)) ?_
 rintro _ w7 ⟨z3, a5, s6, rfl, hz4, hb8, hda9, hds10, hx11⟩
 refine ⟨_, rfl, ?_⟩
 have hX12 := hX0.trans hx11 (fun i hi => lo_self i hi)
 refine qd rfl rfl rfl (r_assign (v := (.int .i64 z3)) rfl) (qe (s_then (s_seq (c_reg ?_))))
 refine qd rfl rfl rfl (r_move (v := (.string x)) rfl) (qd rfl rfl rfl (r_move (v := (.pointer (some ⟨c, 0, none⟩))) rfl) (qd rfl rfl rfl (r_move (v := (.string x)) rfl) (qd rfl rfl rfl (r_lenS Tryd.underlying9 rfl) (q1 rfl rfl rfl (o_call (vs := [(.pointer (some ⟨c, 0, none⟩)), (.int .i64 (x.size : Int))]) Tryd.func19 nm19 rfl rfl rfl ?_)))))
 refine Calls.mono (pick_spec hX12.pins hb8 hc (by omega) (by omega) (n := (x.size : Int)) (by omega)) ?_
 rintro _ w17 ⟨z13, a15, s16, rfl, hz14, hb18, hda19, hds20, hx21⟩
 refine ⟨_, rfl, ?_⟩
 have hX22 := hX12.trans hx21 (fun i hi => lo_self i hi)
 have hm23 : (x.extract (z13).toNat x.size).size = min x.size x.size - (z13).toNat := ByteArray.size_extract
 refine qd rfl rfl rfl (r_cutL Tryd.underlying9 rfl rfl (by omega) (by omega)) ?_
 have hm24 : ((x.extract (z13).toNat x.size).extract 0 1).size = min 1 (x.extract (z13).toNat x.size).size - 0 := ByteArray.size_extract
 refine qd rfl rfl rfl (r_cutS Tryd.underlying9 rfl rfl (by omega) (by omega)) (qd rfl rfl rfl (r_assign (v := (.string ((x.extract (z13).toNat x.size).extract 0 1))) rfl) (qe (s_then (s_seq (s_seq (c_reg ?_))))))
 refine qd rfl rfl rfl (r_move (v := (.pointer (some ⟨c, 0, none⟩))) rfl) (q1 rfl rfl rfl (o_call (vs := [(.pointer (some ⟨c, 0, none⟩)), (.int .i64 3)]) Tryd.func19 nm19 rfl rfl rfl ?_))
 refine Calls.mono (pick_spec hX22.pins hb18 hc (by omega) (by omega) (n := 3) (by omega)) ?_
 rintro _ w29 ⟨z25, a27, s28, rfl, hz26, hb30, hda31, hds32, hx33⟩
 refine ⟨_, rfl, ?_⟩
 have hX34 := hX22.trans hx33 (fun i hi => lo_self i hi)
 refine qe (s_then ?_)
 refine s_blk (s_seq (c_reg ?_))
 refine qd rfl rfl rfl (r_eql rfl rfl) (qd rfl rfl rfl (r_assign (v := (.bool (decide ((z25 : Int) = 0)))) rfl) (qe (s_then ?_)))
 refine c_ifd (p := (z25 : Int) = 0) rfl rfl (fun h35 => ?_) (fun h35 => ?_)
 refine s_seq (c_draw (S := fun wz => Pins G wz) (last := 10) (by kernel_rfl) rfl ?_)
 have hl36 : Below w29.heap.size w29 w29.drew := (Below.refl _ _).drew
 have hp37 := hX34.pins.below hl36
 have hX38 := hX34.step hp37 hl36
 have hb39 := hb30.below hl36
 refine dr_take (i := 0) rfl rfl rfl (want_none rfl _) (by kernel_rfl) (fun _ _ => r_move (v := (.string t)) rfl) hX38.pins (dr_take (i := 1) rfl rfl rfl (want_none rfl _) (by kernel_rfl) (fun _ _ => r_move (v := (.int .i64 z3)) rfl) hX38.pins ?_)
 have hm40 : (t.extract 0 (z3).toNat).size = min (z3).toNat t.size - 0 := ByteArray.size_extract
 refine dr_take (i := 2) rfl rfl rfl (want_none rfl _) (by kernel_rfl) (fun _ _ => r_cutS Tryd.underlying9 rfl rfl (by omega) (by omega)) hX38.pins (dr_take (i := 3) rfl rfl rfl (want_none rfl _) (by kernel_rfl) (fun _ _ => r_move (v := (.string ((x.extract (z13).toNat x.size).extract 0 1))) rfl) hX38.pins ?_)
 have hm41 : ((t.extract 0 (z3).toNat) ++ ((x.extract (z13).toNat x.size).extract 0 1)).size = (t.extract 0 (z3).toNat).size + ((x.extract (z13).toNat x.size).extract 0 1).size := ByteArray.size_append
 refine dr_take (i := 4) rfl rfl rfl (want_none rfl _) (by kernel_rfl) (fun _ _ => r_addS rfl rfl (by omega)) hX38.pins (dr_take (i := 5) rfl rfl rfl (want_none rfl _) (by kernel_rfl) (fun _ _ => r_move (v := (.string t)) rfl) hX38.pins (dr_take (i := 6) rfl rfl rfl (want_none rfl _) (by kernel_rfl) (fun _ _ => r_move (v := (.int .i64 z3)) rfl) hX38.pins ?_))
 have hm42 : (t.extract (z3).toNat t.size).size = min t.size t.size - (z3).toNat := ByteArray.size_extract
 refine dr_take (i := 7) rfl rfl rfl (want_none rfl _) (by kernel_rfl) (fun _ _ => r_cutL Tryd.underlying9 rfl rfl (by omega) (by omega)) hX38.pins ?_
 have hm43 : (((t.extract 0 (z3).toNat) ++ ((x.extract (z13).toNat x.size).extract 0 1)) ++ (t.extract (z3).toNat t.size)).size = ((t.extract 0 (z3).toNat) ++ ((x.extract (z13).toNat x.size).extract 0 1)).size + (t.extract (z3).toNat t.size).size := ByteArray.size_append
 exact dr_take (i := 8) rfl rfl rfl (want_none rfl _) (by kernel_rfl) (fun _ _ => r_addS rfl rfl (by omega)) hX38.pins (dr_take (i := 9) rfl rfl rfl (want_none rfl _) (by kernel_rfl) (fun _ _ => r_assign (v := (.string (((t.extract 0 (z3).toNat) ++ ((x.extract (z13).toNat x.size).extract 0 1)) ++ (t.extract (z3).toNat t.size)))) rfl) hX38.pins (dr_end (by kernel_rfl) (s_then (wp_ret (s_ret (c_ret1 (v := (.string (((t.extract 0 (z3).toNat) ++ ((x.extract (z13).toNat x.size).extract 0 1)) ++ (t.extract (z3).toNat t.size)))) rfl rfl rfl (⟨_, _, _, rfl, (by omega), hb39, (by omega), (by omega), hX38⟩)))))))
 refine s_seq (c_reg ?_)
 refine qd rfl rfl rfl (r_eql rfl rfl) (qd rfl rfl rfl (r_assign (v := (.bool (decide ((z25 : Int) = 1)))) rfl) (qe (s_then ?_)))
 refine c_ifd (p := (z25 : Int) = 1) rfl rfl (fun h44 => ?_) (fun h44 => ?_)
 refine s_seq (c_draw (S := fun wz => Pins G wz) (last := 11) (by kernel_rfl) rfl ?_)
 have hl45 : Below w29.heap.size w29 w29.drew := (Below.refl _ _).drew
 have hp46 := hX34.pins.below hl45
 have hX47 := hX34.step hp46 hl45
 have hb48 := hb30.below hl45
 refine dr_take (i := 0) rfl rfl rfl (want_none rfl _) (by kernel_rfl) (fun _ _ => r_move (v := (.string t)) rfl) hX47.pins (dr_take (i := 1) rfl rfl rfl (want_none rfl _) (by kernel_rfl) (fun _ _ => r_move (v := (.int .i64 z3)) rfl) hX47.pins ?_)
 have hm49 : (t.extract 0 (z3).toNat).size = min (z3).toNat t.size - 0 := ByteArray.size_extract
 refine dr_take (i := 2) rfl rfl rfl (want_none rfl _) (by kernel_rfl) (fun _ _ => r_cutS Tryd.underlying9 rfl rfl (by omega) (by omega)) hX47.pins (dr_take (i := 3) rfl rfl rfl (want_none rfl _) (by kernel_rfl) (fun _ _ => r_move (v := (.string ((x.extract (z13).toNat x.size).extract 0 1))) rfl) hX47.pins ?_)
 have hm50 : ((t.extract 0 (z3).toNat) ++ ((x.extract (z13).toNat x.size).extract 0 1)).size = (t.extract 0 (z3).toNat).size + ((x.extract (z13).toNat x.size).extract 0 1).size := ByteArray.size_append
 refine dr_take (i := 4) rfl rfl rfl (want_none rfl _) (by kernel_rfl) (fun _ _ => r_addS rfl rfl (by omega)) hX47.pins (dr_take (i := 5) rfl rfl rfl (want_none rfl _) (by kernel_rfl) (fun _ _ => r_move (v := (.string t)) rfl) hX47.pins (dr_take (i := 6) rfl rfl rfl (want_none rfl _) (by kernel_rfl) (fun _ _ => r_move (v := (.int .i64 z3)) rfl) hX47.pins (dr_take (i := 7) rfl rfl rfl (want_none rfl _) (by kernel_rfl) (fun _ _ => r_add rfl rfl (by omega)) hX47.pins ?_)))
 have hm51 : (t.extract (z3 + 1).toNat t.size).size = min t.size t.size - (z3 + 1).toNat := ByteArray.size_extract
 refine dr_take (i := 8) rfl rfl rfl (want_none rfl _) (by kernel_rfl) (fun _ _ => r_cutL Tryd.underlying9 rfl rfl (by omega) (by omega)) hX47.pins ?_
 have hm52 : (((t.extract 0 (z3).toNat) ++ ((x.extract (z13).toNat x.size).extract 0 1)) ++ (t.extract (z3 + 1).toNat t.size)).size = ((t.extract 0 (z3).toNat) ++ ((x.extract (z13).toNat x.size).extract 0 1)).size + (t.extract (z3 + 1).toNat t.size).size := ByteArray.size_append
 exact dr_take (i := 9) rfl rfl rfl (want_none rfl _) (by kernel_rfl) (fun _ _ => r_addS rfl rfl (by omega)) hX47.pins (dr_take (i := 10) rfl rfl rfl (want_none rfl _) (by kernel_rfl) (fun _ _ => r_assign (v := (.string (((t.extract 0 (z3).toNat) ++ ((x.extract (z13).toNat x.size).extract 0 1)) ++ (t.extract (z3 + 1).toNat t.size)))) rfl) hX47.pins (dr_end (by kernel_rfl) (s_then (wp_ret (s_ret (c_ret1 (v := (.string (((t.extract 0 (z3).toNat) ++ ((x.extract (z13).toNat x.size).extract 0 1)) ++ (t.extract (z3 + 1).toNat t.size)))) rfl rfl rfl (⟨_, _, _, rfl, (by omega), hb48, (by omega), (by omega), hX47⟩)))))))
 refine wp_skip (s_blkN (s_then (s_seq ?_)))
 refine c_draw (S := fun wz => Pins G wz) (last := 9) (by kernel_rfl) rfl ?_
 have hl53 : Below w29.heap.size w29 w29.drew := (Below.refl _ _).drew
 have hp54 := hX34.pins.below hl53
 have hX55 := hX34.step hp54 hl53
 have hb56 := hb30.below hl53
 refine dr_take (i := 0) rfl rfl rfl (want_none rfl _) (by kernel_rfl) (fun _ _ => r_move (v := (.string t)) rfl) hX55.pins (dr_take (i := 1) rfl rfl rfl (want_none rfl _) (by kernel_rfl) (fun _ _ => r_move (v := (.int .i64 z3)) rfl) hX55.pins ?_)
 have hm57 : (t.extract 0 (z3).toNat).size = min (z3).toNat t.size - 0 := ByteArray.size_extract
 refine dr_take (i := 2) rfl rfl rfl (want_none rfl _) (by kernel_rfl) (fun _ _ => r_cutS Tryd.underlying9 rfl rfl (by omega) (by omega)) hX55.pins (dr_take (i := 3) rfl rfl rfl (want_none rfl _) (by kernel_rfl) (fun _ _ => r_move (v := (.string t)) rfl) hX55.pins (dr_take (i := 4) rfl rfl rfl (want_none rfl _) (by kernel_rfl) (fun _ _ => r_move (v := (.int .i64 z3)) rfl) hX55.pins (dr_take (i := 5) rfl rfl rfl (want_none rfl _) (by kernel_rfl) (fun _ _ => r_add rfl rfl (by omega)) hX55.pins ?_)))
 have hm58 : (t.extract (z3 + 1).toNat t.size).size = min t.size t.size - (z3 + 1).toNat := ByteArray.size_extract
 refine dr_take (i := 6) rfl rfl rfl (want_none rfl _) (by kernel_rfl) (fun _ _ => r_cutL Tryd.underlying9 rfl rfl (by omega) (by omega)) hX55.pins ?_
 have hm59 : ((t.extract 0 (z3).toNat) ++ (t.extract (z3 + 1).toNat t.size)).size = (t.extract 0 (z3).toNat).size + (t.extract (z3 + 1).toNat t.size).size := ByteArray.size_append
 exact dr_take (i := 7) rfl rfl rfl (want_none rfl _) (by kernel_rfl) (fun _ _ => r_addS rfl rfl (by omega)) hX55.pins (dr_take (i := 8) rfl rfl rfl (want_none rfl _) (by kernel_rfl) (fun _ _ => r_assign (v := (.string ((t.extract 0 (z3).toNat) ++ (t.extract (z3 + 1).toNat t.size)))) rfl) hX55.pins (dr_end (by kernel_rfl) (s_then (wp_ret (s_ret (c_ret1 (v := (.string ((t.extract 0 (z3).toNat) ++ (t.extract (z3 + 1).toNat t.size)))) rfl rfl rfl (⟨_, _, _, rfl, (by omega), hb56, (by omega), (by omega), hX55⟩)))))))

end RD1
end Go.Proofs.YtajkbplgbikgdaaDoor

set_option maxRecDepth 20000
set_option maxHeartbeats 2000000
namespace Go.Proofs.YtajkbplgbikgdaaDoor
namespace RD2
open Go.RowKit Go.GL Go.Proofs
open RD1





theorem pl26 : (Tryd.prog.underlying 26).bind (placesD Tryd.prog) = some [(0, 1)] := by kernel_rfl





theorem drawboard_spec {w : World} {G : Pin} {c : Nat} {cv : Value} {code : List UInt8} {a s : Int} {m : Int} (hP : Pins G w) (hB : Bx G w c [cv, .int .i64 a, .int .u64 s]) (hc : RSl eByte G cv code) (ha : 0 ≤ a ∧ a + 40 ≤ 1000000) (hs : 0 ≤ s ∧ s < 18446744073709551616) (hm0 : 0 ≤ m ∧ m ≤ 100) :
  Calls Tryd.prog 18 [(.pointer (some ⟨c, 0, none⟩)), (.int .i64 m)].toArray w fun e w' => ∃ (u : Value) (rows : List ByteArray) (a' s' : Int) (G' : Pin), e = .returned (.agg [u].toArray) ∧ Own eStr 9 G' w' w.heap.size u rows ∧ 1 ≤ rows.length ∧ rows.length ≤ 4 ∧ (∀ y ∈ rows, y.size ≤ 4) ∧ Bx G' w' c [cv, .int .i64 a', .int .u64 s'] ∧ (a ≤ a' ∧ a' ≤ a + 40) ∧ (0 ≤ s' ∧ s' < 18446744073709551616) ∧ Ext (inO (some c)) G w G' w' := by
 refine s_enter (n := 50) Tryd.func18 Tryd.ntmps18 rfl rfl ?_
 have hX0 : Ext (inO (some c)) G w G w := Ext.refl hP
 have hm := hc.max
 refine s_seq (c_reg ?_)
 refine q1 rfl rfl rfl (o_alloc [(.slice none 0 0)] zr26 rfl hX0.pins (fun b1 w2 hk3 hb4 hp5 hl6 => ?_))
 have hX7 := hX0.step hp5 hl6
 have hb8 := hB.below hl6
 have ha9 : Apart (some b1) (some c) := new_ne_box (congrArg some hk3) hB.lt
 have hlo10 : w.heap.size ≤ b1 := by have := hX0.size; omega
 refine qe (s_then (s_seq (c_reg ?_)))
 refine qd rfl rfl rfl (r_move (v := (.pointer (some ⟨c, 0, none⟩))) rfl) (q1 rfl rfl rfl (o_call (vs := [(.pointer (some ⟨c, 0, none⟩)), (.int .i64 4)]) Tryd.func19 nm19 rfl rfl rfl ?_))
 refine Calls.mono (pick_spec hX7.pins hb8 hc (by omega) (by omega) (n := 4) (by omega)) ?_
 rintro _ w15 ⟨z11, a13, s14, rfl, hz12, hb16, hda17, hds18, hx19⟩
 refine ⟨_, rfl, ?_⟩
 have hX20 := hX7.trans hx19 (fun i hi => lo_self i hi)
 have hb21 := hb4.extS hx19 (notOb ha9)
 refine qd rfl rfl rfl (r_add rfl rfl (by omega)) (qd rfl rfl rfl (r_assign (v := (.int .i64 (1 + z11))) rfl) (qe (s_then (s_seq (c_reg ?_)))))
 refine qd rfl rfl rfl (r_move (v := (.pointer (some ⟨c, 0, none⟩))) rfl) (q1 rfl rfl rfl (o_call (vs := [(.pointer (some ⟨c, 0, none⟩)), (.int .i64 4)]) Tryd.func19 nm19 rfl rfl rfl ?_))
 refine Calls.mono (pick_spec hX20.pins hb16 hc (by omega) (by omega) (n := 4) (by omega)) ?_
 rintro _ w26 ⟨z22, a24, s25, rfl, hz23, hb27, hda28, hds29, hx30⟩
 refine ⟨_, rfl, ?_⟩
 have hX31 := hX20.trans hx30 (fun i hi => lo_self i hi)
 have hb32 := hb21.extS hx30 (notOb ha9)
 refine qd rfl rfl rfl (r_add rfl rfl (by omega)) (qd rfl rfl rfl (r_assign (v := (.int .i64 (1 + z22))) rfl) (qe (s_then (s_seq (c_reg ?_)))))
 refine qd rfl rfl rfl (r_assign (v := (.int .i64 0)) rfl) (qe (s_then (s_seq (c_reg ?_))))
 refine qd rfl rfl rfl (r_build [(.slice none 0 0)] [(.slice none 0 0)] [] Tryd.underlying26 zr26 rfl pl26 rfl (fun _ h => by cases h) rfl) (q1 rfl rfl rfl (o_alloc [(.slice none 0 0)] zr26 rfl hX31.pins (fun b33 w34 hk35 hb36 hp37 hl38 => ?_)))
 have hX39 := hX31.step hp37 hl38
 have hb40 := hb27.below hl38
 have hb41 := hb32.below hl38
 have ha42 : Apart (some b33) (some c) := new_ne_box (congrArg some hk35) hb27.lt
 have ha43 : Apart (some b33) (some b1) := new_ne_box (congrArg some hk35) hb32.lt
 have hlo44 : w.heap.size ≤ b33 := by have := hX31.size; omega
 refine q0 rfl rfl rfl (o_stp (cs' := [(.slice none 0 0)]) (us := [(.slice none 0 0)]) (v := (.agg [(.slice none 0 0)].toArray)) sz26 rfl rfl rfl (ones1 (by rfl)) hX39.pins hb36 (Nat.le_of_ble_eq_true rfl) rfl (fun w45 hb46 hp47 hg48 hz49 => ?_))
 have hX50 := hX39.write hp47 hg48 ((lo_box hlo44))
 have hb51 := hb40.keptA hg48 ha42.symm
 have hb52 := hb41.keptA hg48 ha43.symm
 refine qe (s_then (s_seq (s_seq (c_reg ?_))))
 refine qd rfl rfl rfl (r_assign (v := (.int .i64 0)) rfl) (qe (s_then ?_))
 refine s_blk (s_loop (fun (k : Nat) (en : Nat → Value) (W : World) => ∃ (env1 : Nat → Value) (i : Nat) (ov : Value) (os : List ByteArray) (fr : Int) (a1 : Int) (s1 : Int) (GL1 : Pin), en = (upd (upd (upd (upd (upd (upd (upd (upd env1 0 (.pointer (some ⟨c, 0, none⟩))) 1 (.int .i64 m)) 4 (.pointer (some ⟨b1, 0, none⟩))) 5 (.int .i64 (1 + z11))) 6 (.int .i64 (1 + z22))) 7 (.int .i64 fr)) 8 (.pointer (some ⟨b33, 0, none⟩))) 9 (.int .i64 (i : Int))) ∧ k = 4 - i ∧ Ext (inO (some c)) G w GL1 W ∧ Pin.le G GL1 ∧ (i ≤ 4) ∧ (os.length = i) ∧ (∀ y ∈ os, y.size ≤ 4) ∧ (0 ≤ fr ∧ fr ≤ 4 * (i : Int)) ∧ (a ≤ a1 ∧ a1 ≤ a + 4 + 8 * (i : Int)) ∧ (0 ≤ s1 ∧ s1 < 18446744073709551616) ∧ (Own eStr 9 GL1 W w.heap.size ov (os)) ∧ (Bx GL1 W c [cv, (.int .i64 a1), (.int .u64 s1)]) ∧ (Bx GL1 W b1 [(.slice none 0 0)]) ∧ (Bx GL1 W b33 [ov]) ∧ (Apart ov.ownBlock (some c)) ∧ (Apart ov.ownBlock (some b1)) ∧ (Apart ov.ownBlock (some b33))) _ ⟨_, 0, (.slice none 0 0), [], 0, a24, s25, G, (packS (x := 9) (packS (x := 8) (packS (x := 7) (packS (x := 6) (packS (x := 5) (packS (x := 4) (packS (x := 1) (pack1 (x := 0) rfl) rfl) rfl) rfl) rfl) rfl) rfl) rfl), rfl, hX50, Pin.le_refl _, Nat.zero_le _, rfl, (fun y hy => (List.not_mem_nil hy).elim), (by omega), (by omega), (by omega), (Own.nil _ _ _ _ _), hb51, hb52, hb46, apart_none, apart_none, apart_none⟩ ?_)
 rintro k53 _ w54 ⟨env1, i, ov, os, fr, a1, s1, GL1, rfl, hk55, hX56, hlek53, hi, hol, hos, hfr, hda, hds, hw57, hw58, hw59, hw60, ha61, ha62, ha63⟩
 refine s_seq (s_seq (c_reg ?_))
 refine qd rfl rfl rfl (r_move (v := (.int .i64 (i : Int))) rfl) (qd rfl rfl rfl (r_move (v := (.int .i64 (1 + z11))) rfl) (qd rfl rfl rfl (r_lss rfl rfl) (qe (s_then ?_))))
 refine c_ifd (p := ((i : Int) : Int) < (1 + z11)) rfl rfl (fun h64 => ?_) (fun h64 => ?_)
 refine wp_skip (s_then (s_seq ?_))
 refine s_blk (s_seq (c_reg ?_))
 refine qd rfl rfl rfl (r_assign (v := (.string (⟨#[]⟩ : ByteArray))) rfl) (qe (s_then (s_seq (s_seq (c_reg ?_)))))
 refine qd rfl rfl rfl (r_assign (v := (.int .i64 0)) rfl) (qe (s_then ?_))
 refine s_blk (s_loop (fun (k : Nat) (en : Nat → Value) (W : World) => ∃ (env1 : Nat → Value) (q9 : Nat) (s9 : ByteArray) (f2 : Int) (a2 : Int) (s2 : Int) (GL2 : Pin), en = (upd (upd (upd (upd (upd (upd (upd (upd (upd (upd env1 0 (.pointer (some ⟨c, 0, none⟩))) 1 (.int .i64 m)) 4 (.pointer (some ⟨b1, 0, none⟩))) 5 (.int .i64 (1 + z11))) 6 (.int .i64 (1 + z22))) 7 (.int .i64 f2)) 8 (.pointer (some ⟨b33, 0, none⟩))) 9 (.int .i64 (i : Int))) 10 (.string s9)) 11 (.int .i64 (q9 : Int))) ∧ k = 4 - q9 ∧ Ext (inO (some c)) G w GL2 W ∧ Pin.le GL1 GL2 ∧ (q9 ≤ 4) ∧ (s9.size = q9) ∧ (0 ≤ f2 ∧ f2 ≤ 4 * (i : Int) + q9) ∧ (a1 ≤ a2 ∧ a2 ≤ a1 + 2 * (q9 : Int)) ∧ (0 ≤ s2 ∧ s2 < 18446744073709551616) ∧ (Own eStr 9 GL2 W w.heap.size ov (os)) ∧ (Bx GL2 W c [cv, (.int .i64 a2), (.int .u64 s2)]) ∧ (Bx GL2 W b1 [(.slice none 0 0)]) ∧ (Bx GL2 W b33 [ov])) _ ⟨_, 0, (⟨#[]⟩ : ByteArray), fr, a1, s1, GL1, (packS (x := 11) (packS (x := 10) (packS (x := 9) (packS (x := 8) (packS (x := 7) (packS (x := 6) (packS (x := 5) (packS (x := 4) (packS (x := 1) (pack1 (x := 0) rfl) rfl) rfl) rfl) rfl) rfl) rfl) rfl) rfl) rfl), rfl, hX56, Pin.le_refl _, Nat.zero_le _, rfl, (by omega), (by omega), (by omega), hw57, hw58, hw59, hw60⟩ ?_)
 rintro k65 _ w66 ⟨env1, q9, s9, f2, a2, s2, GL2, rfl, hk67, hX68, hlek65, hq, hs9, hf2, hda2, hds2, hw69, hw70, hw71, hw72⟩
 refine s_seq (s_seq (c_reg ?_))
 refine qd rfl rfl rfl (r_move (v := (.int .i64 (q9 : Int))) rfl) (qd rfl rfl rfl (r_move (v := (.int .i64 (1 + z22))) rfl) (qd rfl rfl rfl (r_lss rfl rfl) (qe (s_then ?_))))
 refine c_ifd (p := ((q9 : Int) : Int) < (1 + z22)) rfl rfl (fun h73 => ?_) (fun h73 => ?_)
 refine wp_skip (s_then (s_seq ?_))
 refine s_blk (s_seq (c_reg ?_))
 refine qd rfl rfl rfl (r_move (v := (.int .i64 f2)) rfl) (qd rfl rfl rfl (r_move (v := (.int .i64 m)) rfl) (qd rfl rfl rfl (r_lss rfl rfl) (qd rfl rfl rfl (r_move (v := (.bool (decide ((f2 : Int) < m)))) rfl) (qbd (p := (f2 : Int) < m) (t := 32) rfl (fun h74 => ?_) (fun h74 => ?_)))))
 refine qdg rfl rfl rfl rfl rfl rfl (r_move (v := (.pointer (some ⟨c, 0, none⟩))) rfl) (q1g rfl rfl rfl rfl rfl rfl (o_call (vs := [(.pointer (some ⟨c, 0, none⟩)), (.int .i64 4)]) Tryd.func19 nm19 rfl rfl rfl ?_))
 refine Calls.mono (pick_spec hX68.pins hw70 (hc.mono (Pin.le_trans hlek53 hlek65)) (by omega) (by omega) (n := 4) (by omega)) ?_
 rintro _ w79 ⟨z75, a77, s78, rfl, hz76, hb80, hda81, hds82, hx83⟩
 refine ⟨_, rfl, ?_⟩
 have hX84 := hX68.trans hx83 (fun i hi => lo_self i hi)
 have ho85 := hw69.extS hx83 (notO ha61)
 have hb86 := hw71.extS hx83 (notOb ha9)
 have hb87 := hw72.extS hx83 (notOb ha42)
 refine qdg rfl rfl rfl rfl rfl rfl (r_gtr rfl rfl) (qd rfl rfl rfl (r_pickT (v := (.bool (decide ((0 : Int) < z75)))) rfl rfl) (qe (s_then ?_)))
 refine c_ifd (p := (0 : Int) < z75) rfl rfl (fun h88 => ?_) (fun h88 => ?_)
 refine s_seq (c_reg ?_)
 refine qd rfl rfl rfl (r_move (v := (.string s9)) rfl) ?_
 have hm89 : (⟨#[46]⟩ : ByteArray).size = 1 := rfl
 have hm90 : (s9 ++ (⟨#[46]⟩ : ByteArray)).size = s9.size + (⟨#[46]⟩ : ByteArray).size := ByteArray.size_append
 refine qd rfl rfl rfl (r_addS rfl rfl (by omega)) (qd rfl rfl rfl (r_assign (v := (.string (s9 ++ (⟨#[46]⟩ : ByteArray)))) rfl) (qe (s_then (c_reg ?_))))
 refine qd rfl rfl rfl (r_move (v := (.int .i64 f2)) rfl) (qd rfl rfl rfl (r_add rfl rfl (by omega)) (qd rfl rfl rfl (r_assign (v := (.int .i64 (f2 + 1))) rfl) (qe (s_blkN (s_then (c_reg ?_))))))
 refine qd rfl rfl rfl (r_move (v := (.int .i64 (q9 : Int))) rfl) (qd rfl rfl rfl (r_add rfl rfl (by omega)) (qd rfl rfl rfl (r_assign (v := (.int .i64 ((q9 : Int) + 1))) rfl) (qe (s_lopN (⟨_, ?_, _, rfl, _, q9 + 1, s9 ++ (⟨#[46]⟩ : ByteArray), f2 + 1, a77, s78, GL2, (packS (x := 11) (packS (x := 10) (packS (x := 9) (packS (x := 8) (packS (x := 7) (packS (x := 6) (packS (x := 5) (packS (x := 4) (packS (x := 1) (pack1 (x := 0) rfl) rfl) rfl) rfl) rfl) rfl) rfl) rfl) rfl) rfl), rfl, hX84, hlek65, (by omega), (by have e1 : (⟨#[46]⟩ : ByteArray).size = 1 := rfl; have e2 : (⟨#[35]⟩ : ByteArray).size = 1 := rfl; simp only [ByteArray.size_append]; omega), (by omega), (by omega), (by omega), ho85, hb80, hb86, hb87⟩)))))
 omega
 refine c_reg (qd rfl rfl rfl (r_move (v := (.string s9)) rfl) ?_)
 have hm91 : (⟨#[35]⟩ : ByteArray).size = 1 := rfl
 have hm92 : (s9 ++ (⟨#[35]⟩ : ByteArray)).size = s9.size + (⟨#[35]⟩ : ByteArray).size := ByteArray.size_append
 refine qd rfl rfl rfl (r_addS rfl rfl (by omega)) (qd rfl rfl rfl (r_assign (v := (.string (s9 ++ (⟨#[35]⟩ : ByteArray)))) rfl) (qe (s_blkN (s_then (c_reg ?_)))))
 refine qd rfl rfl rfl (r_move (v := (.int .i64 (q9 : Int))) rfl) (qd rfl rfl rfl (r_add rfl rfl (by omega)) (qd rfl rfl rfl (r_assign (v := (.int .i64 ((q9 : Int) + 1))) rfl) (qe (s_lopN (⟨_, ?_, _, rfl, _, q9 + 1, s9 ++ (⟨#[35]⟩ : ByteArray), f2, a77, s78, GL2, (packS (x := 11) (packS (x := 10) (packS (x := 9) (packS (x := 8) (packS (x := 7) (packS (x := 6) (packS (x := 5) (packS (x := 4) (packS (x := 1) (pack1 (x := 0) rfl) rfl) rfl) rfl) rfl) rfl) rfl) rfl) rfl) rfl), rfl, hX84, hlek65, (by omega), (by have e1 : (⟨#[46]⟩ : ByteArray).size = 1 := rfl; have e2 : (⟨#[35]⟩ : ByteArray).size = 1 := rfl; simp only [ByteArray.size_append]; omega), (by omega), (by omega), (by omega), ho85, hb80, hb86, hb87⟩)))))
 omega
 refine qs rfl rfl rfl rfl rfl rfl (qs rfl rfl rfl rfl rfl rfl (qs rfl rfl rfl rfl rfl rfl (qd rfl rfl rfl (r_pickF (v := (.bool false)) rfl rfl) (qe (s_then ?_)))))
 refine c_ifF rfl rfl (c_reg (qd rfl rfl rfl (r_move (v := (.string s9)) rfl) ?_))
 have hm93 : (⟨#[35]⟩ : ByteArray).size = 1 := rfl
 have hm94 : (s9 ++ (⟨#[35]⟩ : ByteArray)).size = s9.size + (⟨#[35]⟩ : ByteArray).size := ByteArray.size_append
 refine qd rfl rfl rfl (r_addS rfl rfl (by omega)) (qd rfl rfl rfl (r_assign (v := (.string (s9 ++ (⟨#[35]⟩ : ByteArray)))) rfl) (qe (s_blkN (s_then (c_reg ?_)))))
 refine qd rfl rfl rfl (r_move (v := (.int .i64 (q9 : Int))) rfl) (qd rfl rfl rfl (r_add rfl rfl (by omega)) (qd rfl rfl rfl (r_assign (v := (.int .i64 ((q9 : Int) + 1))) rfl) (qe (s_lopN (⟨_, ?_, _, rfl, _, q9 + 1, s9 ++ (⟨#[35]⟩ : ByteArray), f2, a2, s2, GL2, (packS (x := 11) (packS (x := 10) (packS (x := 9) (packS (x := 8) (packS (x := 7) (packS (x := 6) (packS (x := 5) (packS (x := 4) (packS (x := 1) (pack1 (x := 0) rfl) rfl) rfl) rfl) rfl) rfl) rfl) rfl) rfl) rfl), rfl, hX68, hlek65, (by omega), (by have e1 : (⟨#[46]⟩ : ByteArray).size = 1 := rfl; have e2 : (⟨#[35]⟩ : ByteArray).size = 1 := rfl; simp only [ByteArray.size_append]; omega), (by omega), (by omega), (by omega), hw69, hw70, hw71, hw72⟩)))))
 omega
 refine wp_exit (s_thenE (s_lopE (s_blkE (s_then (c_reg ?_)))))
 refine qd rfl rfl rfl (r_fldp (k := 0) rfl Tryd.underlying26 rfl nz24 rfl) (qd rfl rfl rfl (r_ldp1 (u := ov) ag24 rfl (hw72.cell (o := 0) rfl)) (qd rfl rfl rfl (r_move (v := (.string s9)) rfl) (q1 rfl rfl rfl (o_buildF (E := eStr) (e := 9) [(.string s9)] [s9] Tryd.underlying24 sz9 zr9 (by exact reps1 (by rfl)) (ones1 (by rfl)) rfl rfl rfl rfl (by decide) hX68.pins (fun u95 w96 ho97 hp98 hl99 hk100 => ?_)))))
 have hX101 := hX68.step hp98 hl99
 have ho102 := hw69.below hl99
 have hb103 := hw70.below hl99
 have hb104 := hw71.below hl99
 have hb105 := hw72.below hl99
 have ho110 : Own eStr 9 GL2 w96 w.heap.size u95 ([s9]) := ho97.weaken hX68.size
 refine q1 rfl rfl rfl (o_append (E := eStr) (v := ov) (u := u95) 16 Tryd.underlying24 ap9 (by decide) rfl rfl hX101.pins ho102 ho110.src (by first | omega | (rw [List.nil_append]; omega) | (rw [List.length_nil]; omega) | (rw [List.length_append]; omega) | (simp; done) | (simp; omega) | (simp only [List.length_append, List.length_cons, List.length_nil]; omega)) (by first | omega | (rw [List.nil_append]; omega) | (rw [List.length_nil]; omega) | (rw [List.length_append]; omega) | (simp; done) | (simp; omega) | (simp only [List.length_append, List.length_cons, List.length_nil]; omega)) (hX101.size) (fun u111 w112 ho113 hp114 hg115 hw116 => ?_))
 have hX117 := hX101.write hp114 hg115 ((lo_own ho102))
 have hb119 := hb103.keptA hg115 ha61.symm
 have hb120 := hb104.keptA hg115 ha62.symm
 have hb121 := hb105.keptA hg115 ha63.symm
 have ha123 : Apart (some c) u111.ownBlock := app_ne_box ha61.symm hw116 hb103.lt
 have ha124 : Apart (some b1) u111.ownBlock := app_ne_box ha62.symm hw116 hb104.lt
 have ha125 : Apart (some b33) u111.ownBlock := app_ne_box ha63.symm hw116 hb105.lt
 have hm126 : (os ++ ([s9])).length = os.length + 1 := List.length_append
 refine qd rfl rfl rfl (r_fldp (k := 0) rfl Tryd.underlying26 rfl nz24 rfl) (q0 rfl rfl rfl (o_stp (cs' := [u111]) (us := [u111]) (v := u111) sz24 rfl rfl (cells1 ho113.one) (ones1 ho113.one) hX117.pins hb121 (Nat.le_of_ble_eq_true rfl) rfl (fun w127 hb128 hp129 hg130 hz131 => ?_)))
 have hX132 := hX117.write hp129 hg130 ((lo_box hlo44))
 have ho133 := ho113.keptA hg130 ha125.symm
 have hb134 := hb119.keptA hg130 ha42.symm
 have hb135 := hb120.keptA hg130 ha43.symm
 refine qe (s_blkN (s_then (c_reg ?_)))
 refine qd rfl rfl rfl (r_move (v := (.int .i64 (i : Int))) rfl) (qd rfl rfl rfl (r_add rfl rfl (by omega)) (qd rfl rfl rfl (r_assign (v := (.int .i64 ((i : Int) + 1))) rfl) (qe (s_lopN (⟨_, ?_, _, rfl, _, i + 1, u111, os ++ ([s9]), f2, a2, s2, GL2, (packS (x := 9) (packS (x := 8) (packS (x := 7) (packS (x := 6) (packS (x := 5) (packS (x := 4) (packS (x := 1) (pack1 (x := 0) rfl) rfl) rfl) rfl) rfl) rfl) rfl) rfl), rfl, hX132, (Pin.le_trans hlek53 hlek65), (by omega), (by simp [hol]), (snoc_all hos (by omega)), (by omega), (by omega), (by omega), ho133, hb134, hb135, hb128, ha123.symm, ha124.symm, ha125.symm⟩)))))
 omega
 refine wp_exit (s_thenE (s_lopE (s_blkE (s_then (s_seq (c_reg ?_))))))
 refine qd rfl rfl rfl (r_ldpA (cs := [ov]) ag26 sz26 rfl (fun j u hj => hw60.cell (by simpa using hj))) (q0 rfl rfl rfl (o_stp (cs' := [ov]) (us := [ov]) (v := (.agg [ov].toArray)) sz26 rfl rfl rfl (ones1 hw57.one) hX56.pins hw59 (Nat.le_of_ble_eq_true rfl) rfl (fun w136 hb137 hp138 hg139 hz140 => ?_)))
 have hX141 := hX56.write hp138 hg139 ((lo_box hlo10))
 have ho142 := hw57.keptA hg139 ha62
 have hb143 := hw58.keptA hg139 ha9.symm
 refine qe (s_then ?_)
 exact wp_ret (s_ret (c_retc (cs := [ov]) rfl rfl rfl ag26 sz26 (fun j u hj => by rw [Nat.zero_add]; exact hb137.cell hj) (⟨_, _, _, _, _, rfl, ho142, (by omega), (by omega), hos, hb143, (by omega), (by omega), hX141⟩)))

end RD2
end Go.Proofs.YtajkbplgbikgdaaDoor

set_option maxRecDepth 20000
set_option maxHeartbeats 2000000
namespace Go.Proofs.YtajkbplgbikgdaaDoor
namespace RD3
open Go.RowKit Go.GL Go.Proofs
open RD1 RD2










theorem pl38 : (Tryd.prog.underlying 38).bind (placesD Tryd.prog) = some [(0, 1), (1, 1), (2, 1)] := by kernel_rfl






theorem loose_spec {w : World} {G : Pin} {c : Nat} {cv : Value} {code : List UInt8} {a s : Int} {m : Int} (hP : Pins G w) (hB : Bx G w c [cv, .int .i64 a, .int .u64 s]) (hc : RSl eByte G cv code) (ha : 0 ≤ a ∧ a + 70 ≤ 1000000) (hs : 0 ≤ s ∧ s < 18446744073709551616) (hm0 : 0 ≤ m ∧ m ≤ 100) :
  Calls Tryd.prog 10 [(.pointer (some ⟨c, 0, none⟩)), (.int .i64 m)].toArray w fun e w' => ∃ (u : Value) (rows : List ByteArray) (a' s' : Int) (G' : Pin), e = .returned (.agg [u].toArray) ∧ RSl eStr G' u rows ∧ rows.length ≤ 9 ∧ (∀ y ∈ rows, y.size ≤ 12) ∧ Bx G' w' c [cv, .int .i64 a', .int .u64 s'] ∧ (a ≤ a' ∧ a' ≤ a + 70) ∧ (0 ≤ s' ∧ s' < 18446744073709551616) ∧ Ext (inO (some c)) G w G' w' := by
 refine s_enter (n := 66) Tryd.func10 Tryd.ntmps10 rfl rfl ?_
 have hX0 : Ext (inO (some c)) G w G w := Ext.refl hP
 have hm := hc.max
 refine s_seq (c_reg ?_)
 refine q1 rfl rfl rfl (o_alloc [(.slice none 0 0)] zr26 rfl hX0.pins (fun b1 w2 hk3 hb4 hp5 hl6 => ?_))
 have hX7 := hX0.step hp5 hl6
 have hb8 := hB.below hl6
 have ha9 : Apart (some b1) (some c) := new_ne_box (congrArg some hk3) hB.lt
 have hlo10 : w.heap.size ≤ b1 := by have := hX0.size; omega
 refine qe (s_then (s_seq (c_reg ?_)))
 refine qd rfl rfl rfl (r_move (v := (.pointer (some ⟨c, 0, none⟩))) rfl) (qd rfl rfl rfl (r_move (v := (.int .i64 m)) rfl) (q1 rfl rfl rfl (o_call (vs := [(.pointer (some ⟨c, 0, none⟩)), (.int .i64 m)]) Tryd.func18 nm18 rfl rfl rfl ?_)))
 refine Calls.mono (drawboard_spec (m := m) hX7.pins hb8 hc (by omega) (by omega) (by omega)) ?_
 rintro _ w16 ⟨u11, rows12, a13, s14, G15, rfl, ho17, hl18, hl19, hal20, hb21, hda22, hds23, hx24⟩
 refine ⟨_, rfl, ?_⟩
 have hX25 := hX7.trans hx24 (fun i hi => lo_self i hi)
 have hb26 := hb4.extS hx24 (notOb ha9)
 have ha27 : Apart u11.ownBlock (some c) := made_ne_box ho17.lt hb8.lt
 have ha28 : Apart u11.ownBlock (some b1) := made_ne_box ho17.lt hb4.lt
 have ho29 : Own eStr 9 G15 w16 w.heap.size u11 rows12 := ho17.weaken hX7.size
 refine q1 rfl rfl rfl (o_alloc [(.slice none 0 0)] zr26 rfl hX25.pins (fun b30 w31 hk32 hb33 hp34 hl35 => ?_))
 have hX36 := hX25.step hp34 hl35
 have ho37 := ho29.below hl35
 have hb38 := hb21.below hl35
 have hb39 := hb26.below hl35
 have ha40 : Apart (some b30) u11.ownBlock := new_ne_own (congrArg some hk32) ho29.lt
 have ha41 : Apart (some b30) (some c) := new_ne_box (congrArg some hk32) hb21.lt
 have ha42 : Apart (some b30) (some b1) := new_ne_box (congrArg some hk32) hb26.lt
 have hlo43 : w.heap.size ≤ b30 := by have := hX25.size; omega
 refine q0 rfl rfl rfl (o_stp (cs' := [u11]) (us := [u11]) (v := (.agg [u11].toArray)) sz26 rfl rfl rfl (ones1 ho37.one) hX36.pins hb33 (Nat.le_of_ble_eq_true rfl) rfl (fun w44 hb45 hp46 hg47 hz48 => ?_))
 have hX49 := hX36.write hp46 hg47 ((lo_box hlo43))
 have ho50 := ho37.keptA hg47 ha40.symm
 have hb51 := hb38.keptA hg47 ha41.symm
 have hb52 := hb39.keptA hg47 ha42.symm
 refine qe (s_then (s_seq (s_seq (c_reg ?_))))
 refine qd rfl rfl rfl (r_move (v := (.pointer (some ⟨c, 0, none⟩))) rfl) (q1 rfl rfl rfl (o_call (vs := [(.pointer (some ⟨c, 0, none⟩)), (.int .i64 12)]) Tryd.func11 nm11 rfl rfl rfl ?_))
 refine Calls.mono (one_spec hX49.pins hb51 (hc.mono hx24.le) (by omega) (by omega) (n := 12) (by omega)) ?_
 rintro _ w56 ⟨z53, a54, s55, rfl, hb57, hda58, hds59, hx60⟩
 refine ⟨_, rfl, ?_⟩
 have hX61 := hX49.trans hx60 (fun i hi => lo_self i hi)
 have ho62 := ho50.extS hx60 (notO ha27)
 have hb63 := hb52.extS hx60 (notOb ha9)
 have hb64 := hb45.extS hx60 (notOb ha41)
 refine qe (s_then ?_)
 refine c_if rfl rfl (fun h65 => ?_) (fun h65 => ?_)
 refine s_seq (c_reg ?_)
 refine qd rfl rfl rfl (r_move (v := (.pointer (some ⟨c, 0, none⟩))) rfl) (qd rfl rfl rfl (r_fldp (k := 0) rfl Tryd.underlying26 rfl nz24 rfl) (qd rfl rfl rfl (r_ldp1 (u := u11) ag24 rfl (hb64.cell (o := 0) rfl)) (qd rfl rfl rfl (run_len Tryd.underlying24 (v := u11) rfl ho62.read) (q1 rfl rfl rfl (o_call (vs := [(.pointer (some ⟨c, 0, none⟩)), (.int .i64 (rows12.length : Int))]) Tryd.func19 nm19 rfl rfl rfl ?_)))))
 refine Calls.mono (pick_spec hX61.pins hb57 (hc.mono hx24.le) (by omega) (by omega) (n := (rows12.length : Int)) (by omega)) ?_
 rintro _ w70 ⟨z66, a68, s69, rfl, hz67, hb71, hda72, hds73, hx74⟩
 refine ⟨_, rfl, ?_⟩
 have hX75 := hX61.trans hx74 (fun i hi => lo_self i hi)
 have ho76 := ho62.extS hx74 (notO ha27)
 have hb77 := hb63.extS hx74 (notOb ha9)
 have hb78 := hb64.extS hx74 (notOb ha41)
 refine qd rfl rfl rfl (r_assign (v := (.int .i64 z66)) rfl) (qe (s_then (s_seq (c_reg ?_))))
 refine qd rfl rfl rfl (r_move (v := (.pointer (some ⟨c, 0, none⟩))) rfl) (q1 rfl rfl rfl (o_call (vs := [(.pointer (some ⟨c, 0, none⟩)), (.int .i64 4)]) Tryd.func19 nm19 rfl rfl rfl ?_))
 refine Calls.mono (pick_spec hX75.pins hb71 (hc.mono hx24.le) (by omega) (by omega) (n := 4) (by omega)) ?_
 rintro _ w83 ⟨z79, a81, s82, rfl, hz80, hb84, hda85, hds86, hx87⟩
 refine ⟨_, rfl, ?_⟩
 have hX88 := hX75.trans hx87 (fun i hi => lo_self i hi)
 have ho89 := ho76.extS hx87 (notO ha27)
 have hb90 := hb77.extS hx87 (notOb ha9)
 have hb91 := hb78.extS hx87 (notOb ha41)
 refine qe (s_then ?_)
 refine s_blk (s_seq (c_reg ?_))
 refine qd rfl rfl rfl (r_eql rfl rfl) (qd rfl rfl rfl (r_assign (v := (.bool (decide ((z79 : Int) = 0)))) rfl) (qe (s_then ?_)))
 refine c_ifd (p := (z79 : Int) = 0) rfl rfl (fun h92 => ?_) (fun h92 => ?_)
 have hyi := hal20 _ (getD_mem (d := ByteArray.empty) (show (z66).toNat < rows12.length by omega))
 have hq93 := Gadd.pins hX88.pins u11
 have hr94 := ho89.read
 refine c_draw (S := fun wz => BxR wz b30 [u11] ∧ Pins (Gadd G15 w83 u11) wz) (last := 11) (by kernel_rfl) rfl ?_
 have hl95 : Below w83.heap.size w83 w83.drew := (Below.refl _ _).drew
 have hp96 := hX88.pins.below hl95
 have hX97 := hX88.step hp96 hl95
 have ho98 := ho89.below hl95
 have hb99 := hb84.below hl95
 have hb100 := hb90.below hl95
 have hb101 := hb91.below hl95
 have hq102 := hq93.below hl95
 refine dr_take (i := 0) rfl rfl rfl (want_none rfl _) (by kernel_rfl) (fun _ _ => r_fldp (k := 0) rfl Tryd.underlying26 rfl nz24 rfl) ⟨hb101.reads, hq102⟩ (dr_take (i := 1) rfl rfl rfl (want_none rfl _) (by kernel_rfl) (fun _ hS => r_ldp1 (u := u11) ag24 rfl (hS.1 0 _ rfl)) ⟨hb101.reads, hq102⟩ (dr_take (i := 2) rfl rfl rfl (want_none rfl _) (by kernel_rfl) (fun _ _ => r_move (v := (.int .i64 z66)) rfl) ⟨hb101.reads, hq102⟩ (dr_take (i := 3) rfl rfl rfl (want_none rfl _) (by kernel_rfl) (fun _ _ => r_move (v := (.pointer (some ⟨c, 0, none⟩))) rfl) ⟨hb101.reads, hq102⟩ (dr_take (i := 4) rfl rfl rfl (want_none rfl _) (by kernel_rfl) (fun _ _ => r_fldp (k := 0) rfl Tryd.underlying26 rfl nz24 rfl) ⟨hb101.reads, hq102⟩ (dr_take (i := 5) rfl rfl rfl (want_none rfl _) (by kernel_rfl) (fun _ hS => r_ldp1 (u := u11) ag24 rfl (hS.1 0 _ rfl)) ⟨hb101.reads, hq102⟩ (dr_take (i := 6) rfl rfl rfl (want_none rfl _) (by kernel_rfl) (fun _ _ => r_move (v := (.int .i64 z66)) rfl) ⟨hb101.reads, hq102⟩ (dr_take (i := 7) rfl rfl rfl (want_none rfl _) (by kernel_rfl) (fun _ _ => run_idx Tryd.underlying24 sz9 (v := u11) rfl rfl hr94 (by omega) (by omega)) ⟨hb101.reads, hq102⟩ (dr_take (i := 8) rfl rfl rfl (want_none rfl _) (by kernel_rfl) (fun _ hS => run_load_str (r := rows12.getD (z66).toNat ByteArray.empty) rfl ag9 (z := z66) rfl hr94 hS.2 (by omega) (by omega)) ⟨hb101.reads, hq102⟩ (dr_one (i := 9) (by kernel_rfl) (drOp1 (i := 9) rfl rfl rfl (want_none rfl _) (o_call (vs := [(.pointer (some ⟨c, 0, none⟩)), (.string (rows12.getD (z66).toNat ByteArray.empty)), (.string (⟨#[46, 35, 120]⟩ : ByteArray))]) Tryd.func20 nm20 rfl rfl rfl ?_)))))))))))
 refine Calls.mono (spoilt_spec (t := (rows12.getD (z66).toNat ByteArray.empty)) (x := (⟨#[46, 35, 120]⟩ : ByteArray)) hX97.pins hb99 (hc.mono hx24.le) (by omega) (by omega) (by first | omega | exact ⟨by omega, by decide, by decide⟩)) ?_
 rintro _ w106 ⟨z103, a104, s105, rfl, hz107, hb108, hda109, hds110, hx111⟩
 refine ⟨_, rfl, ?_⟩
 have hX112 := hX97.trans hx111 (fun i hi => lo_self i hi)
 have ho113 := ho98.extS hx111 (notO ha27)
 have hb114 := hb100.extS hx111 (notOb ha9)
 have hb115 := hb101.extS hx111 (notOb ha41)
 have hq116 := Gadd.turn hq102 (Pins.of_le hX112.pins (Pin.le_refl _)) hx111 (notO ha27)
 refine ⟨fun _ => ⟨hb115.reads, hq116⟩, ?_⟩
 refine dr_take (i := 10) rfl rfl rfl (want_none rfl _) (by kernel_rfl) (fun _ _ => run_idx Tryd.underlying24 sz9 (v := u11) rfl rfl hr94 (by omega) (by omega)) ⟨hb115.reads, hq116⟩ (dr_one (i := 11) (by kernel_rfl) (drOp0 (i := 11) rfl rfl rfl (want_none rfl _) (o_set (E := eStr) (v := u11) (u := (.string z103)) (z := z66) (z103) sz9 rfl rfl rfl rfl hX112.pins ho113 (by omega) (by omega) (fun w117 ho118 hp119 hg120 hz121 => ?_))))
 have hX122 := hX112.write hp119 hg120 ((lo_own ho113))
 have hb123 := hb108.keptA hg120 ha27.symm
 have hb124 := hb114.keptA hg120 ha28.symm
 have hb125 := hb115.keptA hg120 ha40
 have ho126 : Own eStr 9 G15 w117 w.heap.size u11 ((rows12).set (z66).toNat z103) := ho118
 have hm127 : ((rows12).set (z66).toNat z103).length = rows12.length := List.length_set ..
 refine ⟨fun h => absurd rfl h, ?_⟩
 refine dr_end (by kernel_rfl) (s_blkN (s_then (s_seq (c_reg ?_))))
 refine qd rfl rfl rfl (r_ldpA (cs := [u11]) ag26 sz26 rfl (fun j u hj => hb125.cell (by simpa using hj))) (q0 rfl rfl rfl (o_stp (cs' := [u11]) (us := [u11]) (v := (.agg [u11].toArray)) sz26 rfl rfl rfl (ones1 ho126.one) hX122.pins hb124 (Nat.le_of_ble_eq_true rfl) rfl (fun w128 hb129 hp130 hg131 hz132 => ?_)))
 have hX133 := hX122.write hp130 hg131 ((lo_box hlo10))
 have ho134 := ho126.keptA hg131 ha28
 have hb135 := hb123.keptA hg131 ha9.symm
 refine qe (s_then ?_)
 refine wp_ret (s_ret (c_retc (cs := [u11]) rfl rfl rfl ag26 sz26 (fun j u hj => by rw [Nat.zero_add]; exact hb129.cell hj) ?_))
 obtain ⟨G137, hle140, hX139, hr138, hf141⟩ := ho134.sealed hX133
 have hb142 := hb135.moreO hf141 ha27.symm
 have hal9 : ∀ y ∈ (rows12).set (z66).toNat z103, y.size ≤ 12 := by
  refine set_all (fun y hy => Nat.le_trans (hal20 y hy) (by omega)) ?_
  have e1 : (⟨#[46, 46, 46, 46, 46, 46, 46, 46]⟩ : ByteArray).size = 8 := rfl
  first | omega | (simp only [ByteArray.size_append]; omega)
 exact ⟨_, _, _, _, _, rfl, hr138, (by first | omega | (simp; done) | (simp; omega)), hal9, hb142, (by omega), (by omega), hX139⟩
 refine s_seq (c_reg ?_)
 refine qd rfl rfl rfl (r_eql rfl rfl) (qd rfl rfl rfl (r_assign (v := (.bool (decide ((z79 : Int) = 1)))) rfl) (qe (s_then ?_)))
 refine c_ifd (p := (z79 : Int) = 1) rfl rfl (fun h145 => ?_) (fun h145 => ?_)
 refine c_reg (qd rfl rfl rfl (r_fldp (k := 0) rfl Tryd.underlying26 rfl nz24 rfl) (q0 rfl rfl rfl (o_stp (cs' := [(.slice none 0 0)]) (us := [(.slice none 0 0)]) (v := (.slice none 0 0)) sz24 rfl rfl rfl (ones1 (by rfl)) hX88.pins hb91 (Nat.le_of_ble_eq_true rfl) rfl (fun w146 hb147 hp148 hg149 hz150 => ?_))))
 have hX151 := hX88.write hp148 hg149 ((lo_box hlo43))
 have hb153 := hb84.keptA hg149 ha41.symm
 have hb154 := hb90.keptA hg149 ha42.symm
 refine qe (s_blkN (s_then (s_seq (c_reg ?_))))
 refine qd rfl rfl rfl (r_ldpA (cs := [(.slice none 0 0)]) ag26 sz26 rfl (fun j u hj => hb147.cell (by simpa using hj))) (q0 rfl rfl rfl (o_stp (cs' := [(.slice none 0 0)]) (us := [(.slice none 0 0)]) (v := (.agg [(.slice none 0 0)].toArray)) sz26 rfl rfl rfl (ones1 (by rfl)) hX151.pins hb154 (Nat.le_of_ble_eq_true rfl) rfl (fun w155 hb156 hp157 hg158 hz159 => ?_)))
 have hX160 := hX151.write hp157 hg158 ((lo_box hlo10))
 have hb162 := hb153.keptA hg158 ha9.symm
 refine qe (s_then ?_)
 exact wp_ret (s_ret (c_retc (cs := [(.slice none 0 0)]) rfl rfl rfl ag26 sz26 (fun j u hj => by rw [Nat.zero_add]; exact hb156.cell hj) (⟨_, _, _, _, _, rfl, (nil_reads _ _), (by first | omega | (simp; done) | (simp; omega)), (fun y hy => (List.not_mem_nil hy).elim), hb162, (by omega), (by omega), hX160⟩)))
 refine s_seq (c_reg ?_)
 refine qd rfl rfl rfl (r_eql rfl rfl) (qd rfl rfl rfl (r_assign (v := (.bool (decide ((z79 : Int) = 2)))) rfl) (qe (s_then ?_)))
 refine c_ifd (p := (z79 : Int) = 2) rfl rfl (fun h164 => ?_) (fun h164 => ?_)
 refine s_blk (s_loop (fun (k : Nat) (en : Nat → Value) (W : World) => ∃ (env1 : Nat → Value) (ov : Value) (os : List ByteArray) (a1 : Int) (s1 : Int) (GL1 : Pin), en = (upd (upd (upd env1 0 (.pointer (some ⟨c, 0, none⟩))) 4 (.pointer (some ⟨b1, 0, none⟩))) 5 (.pointer (some ⟨b30, 0, none⟩))) ∧ k = 10 - os.length ∧ Ext (inO (some c)) G w GL1 W ∧ Pin.le G15 GL1 ∧ (1 ≤ os.length ∧ os.length ≤ 9) ∧ (∀ y ∈ os, y.size ≤ 4) ∧ (a ≤ a1 ∧ a1 ≤ a + 46 + 2 * (os.length : Int)) ∧ (0 ≤ s1 ∧ s1 < 18446744073709551616) ∧ (Own eStr 9 GL1 W w.heap.size ov (os)) ∧ (Bx GL1 W c [cv, (.int .i64 a1), (.int .u64 s1)]) ∧ (Bx GL1 W b1 [(.slice none 0 0)]) ∧ (Bx GL1 W b30 [ov]) ∧ (Apart ov.ownBlock (some c)) ∧ (Apart ov.ownBlock (some b1)) ∧ (Apart ov.ownBlock (some b30))) _ ⟨_, u11, rows12, a81, s82, G15, (packS (x := 5) (packS (x := 4) (pack1 (x := 0) rfl) rfl) rfl), rfl, hX88, Pin.le_refl _, (by omega), hal20, (by omega), (by omega), ho89, hb84, hb90, hb91, ha27, ha28, ha40.symm⟩ ?_)
 rintro k165 _ w166 ⟨env1, ov, os, a1, s1, GL1, rfl, hk167, hX168, hlek165, hol, hall2, hda, hds, hw169, hw170, hw171, hw172, ha173, ha174, ha175⟩
 refine s_seq (s_seq ?_)
 have hq176 := Gadd.pins hX168.pins ov
 have hr177 := hw169.read
 refine c_draw (S := fun wz => BxR wz b30 [ov] ∧ Pins (Gadd GL1 w166 ov) wz) (last := 7) (by kernel_rfl) rfl ?_
 have hl178 : Below w166.heap.size w166 w166.drew := (Below.refl _ _).drew
 have hp179 := hX168.pins.below hl178
 have hX180 := hX168.step hp179 hl178
 have ho181 := hw169.below hl178
 have hb182 := hw170.below hl178
 have hb183 := hw171.below hl178
 have hb184 := hw172.below hl178
 have hq185 := hq176.below hl178
 refine dr_take (i := 0) rfl rfl rfl (want_none rfl _) (by kernel_rfl) (fun _ _ => r_fldp (k := 0) rfl Tryd.underlying26 rfl nz24 rfl) ⟨hb184.reads, hq185⟩ (dr_take (i := 1) rfl rfl rfl (want_none rfl _) (by kernel_rfl) (fun _ hS => r_ldp1 (u := ov) ag24 rfl (hS.1 0 _ rfl)) ⟨hb184.reads, hq185⟩ (dr_take (i := 2) rfl rfl rfl (want_none rfl _) (by kernel_rfl) (fun _ _ => run_len Tryd.underlying24 (v := ov) rfl hr177) ⟨hb184.reads, hq185⟩ (dr_take (i := 3) rfl rfl rfl (want_none rfl _) (by kernel_rfl) (fun _ _ => r_move (v := (.pointer (some ⟨c, 0, none⟩))) rfl) ⟨hb184.reads, hq185⟩ (dr_one (i := 4) (by kernel_rfl) (drOp1 (i := 4) rfl rfl rfl (want_none rfl _) (o_call (vs := [(.pointer (some ⟨c, 0, none⟩)), (.int .i64 2)]) Tryd.func19 nm19 rfl rfl rfl ?_))))))
 refine Calls.mono (pick_spec hX180.pins hb182 (hc.mono (Pin.le_trans hx24.le hlek165)) (by omega) (by omega) (n := 2) (by omega)) ?_
 rintro _ w190 ⟨z186, a188, s189, rfl, hz187, hb191, hda192, hds193, hx194⟩
 refine ⟨_, rfl, ?_⟩
 have hX195 := hX180.trans hx194 (fun i hi => lo_self i hi)
 have ho196 := ho181.extS hx194 (notO ha173)
 have hb197 := hb183.extS hx194 (notOb ha9)
 have hb198 := hb184.extS hx194 (notOb ha41)
 have hq199 := Gadd.turn hq185 (Pins.of_le hX195.pins (Pin.le_refl _)) hx194 (notO ha173)
 refine ⟨fun _ => ⟨hb198.reads, hq199⟩, ?_⟩
 refine dr_take (i := 5) rfl rfl rfl (want_none rfl _) (by kernel_rfl) (fun _ _ => r_add rfl rfl (by omega)) ⟨hb198.reads, hq199⟩ (dr_take (i := 6) rfl rfl rfl (want_none rfl _) (by kernel_rfl) (fun _ _ => r_lss rfl rfl) ⟨hb198.reads, hq199⟩ (dr_end (by kernel_rfl) (s_then (c_ifd (p := ((os.length : Int) : Int) < (8 + z186)) rfl rfl (fun h200 => ?_) (fun h200 => ?_)))))
 refine wp_skip (s_then (s_blk ?_))
 have hq201 := Gadd.pins hX195.pins ov
 have hr202 := ho196.read
 refine c_drawL (S := fun wz => BxR wz b30 [ov] ∧ Pins (Gadd GL1 w190 ov) wz) (lt := [7, 8, 9]) (by kernel_rfl) rfl ?_
 have hl203 : Below w190.heap.size w190 w190.drew := (Below.refl _ _).drew
 have hp204 := hX195.pins.below hl203
 have hX205 := hX195.step hp204 hl203
 have ho206 := ho196.below hl203
 have hb207 := hb191.below hl203
 have hb208 := hb197.below hl203
 have hb209 := hb198.below hl203
 have hq210 := hq201.below hl203
 refine dr_takeL [1, 7, 8, 9] (i := 0) rfl rfl rfl (want_none rfl _) (by kernel_rfl) (fun _ _ => r_fldp (k := 0) rfl Tryd.underlying26 rfl nz24 rfl) ⟨hb209.reads, hq210⟩ (dr_takeL [7, 8, 9] (i := 1) rfl rfl rfl (want_none rfl _) (by kernel_rfl) (fun _ hS => r_ldp1 (u := ov) ag24 rfl (hS.1 0 _ rfl)) ⟨hb209.reads, hq210⟩ (dr_takeL [3, 4, 5, 6, 7, 8, 9] (i := 2) rfl rfl rfl (want_none rfl _) (by kernel_rfl) (fun _ _ => r_fldp (k := 0) rfl Tryd.underlying26 rfl nz24 rfl) ⟨hb209.reads, hq210⟩ (dr_takeL [4, 5, 6, 7, 8, 9] (i := 3) rfl rfl rfl (want_none rfl _) (by kernel_rfl) (fun _ hS => r_ldp1 (u := ov) ag24 rfl (hS.1 0 _ rfl)) ⟨hb209.reads, hq210⟩ (dr_takeL [5, 6, 7, 8, 9] (i := 4) rfl rfl rfl (want_none rfl _) (by kernel_rfl) (fun _ _ => run_idx Tryd.underlying24 sz9 (v := ov) rfl rfl hr202 (by omega) (by omega)) ⟨hb209.reads, hq210⟩ (dr_takeL [6, 7, 8, 9] (i := 5) rfl rfl rfl (want_none rfl _) (by kernel_rfl) (fun _ hS => run_load_str (r := os.getD 0 ByteArray.empty) rfl ag9 (z := 0) rfl hr202 hS.2 (by omega) (by omega)) ⟨hb209.reads, hq210⟩ (dr_oneL (i := 6) (by kernel_rfl) (drOp1L (i := 6) rfl rfl rfl (want_none rfl _) (o_buildF (E := eStr) (e := 9) [(.string (os.getD 0 ByteArray.empty))] [os.getD 0 ByteArray.empty] Tryd.underlying24 sz9 zr9 (by exact reps1 (by rfl)) (ones1 (by rfl)) rfl rfl rfl rfl (by decide) hX205.pins (fun u211 w212 ho213 hp214 hl215 hk216 => ?_)))))))))
 have hX217 := hX205.step hp214 hl215
 have ho218 := ho206.below hl215
 have hb219 := hb207.below hl215
 have hb220 := hb208.below hl215
 have hb221 := hb209.below hl215
 have ho226 : Own eStr 9 GL1 w212 w.heap.size u211 ([os.getD 0 ByteArray.empty]) := ho213.weaken hX205.size
 have hq227 := hq210.below hl215
 refine ⟨fun _ => ⟨hb221.reads, hq227⟩, ?_⟩
 refine dr_oneL (i := 7) (by kernel_rfl) (drOp1L (i := 7) rfl rfl rfl (want_none rfl _) (o_append (E := eStr) (v := ov) (u := u211) 16 Tryd.underlying24 ap9 (by decide) rfl rfl hX217.pins ho218 ho226.src (by first | omega | (rw [List.nil_append]; omega) | (rw [List.length_nil]; omega) | (rw [List.length_append]; omega) | (simp; done) | (simp; omega) | (simp only [List.length_append, List.length_cons, List.length_nil]; omega)) (by first | omega | (rw [List.nil_append]; omega) | (rw [List.length_nil]; omega) | (rw [List.length_append]; omega) | (simp; done) | (simp; omega) | (simp only [List.length_append, List.length_cons, List.length_nil]; omega)) (hX217.size) (fun u228 w229 ho230 hp231 hg232 hw233 => ?_)))
 have hX234 := hX217.write hp231 hg232 ((lo_own ho218))
 have hb236 := hb219.keptA hg232 ha173.symm
 have hb237 := hb220.keptA hg232 ha174.symm
 have hb238 := hb221.keptA hg232 ha175.symm
 have ha240 : Apart (some c) u228.ownBlock := app_ne_box ha173.symm hw233 hb219.lt
 have ha241 : Apart (some b1) u228.ownBlock := app_ne_box ha174.symm hw233 hb220.lt
 have ha242 : Apart (some b30) u228.ownBlock := app_ne_box ha175.symm hw233 hb221.lt
 have hm243 : (os ++ ([os.getD 0 ByteArray.empty])).length = os.length + 1 := List.length_append
 refine ⟨fun h => absurd (by decide) h, ?_⟩
 refine dr_oneL (i := 8) (by kernel_rfl) (drOp1L (i := 8) rfl rfl rfl (want_none rfl _) (EO.run (r_fldp (k := 0) rfl Tryd.underlying26 rfl nz24 rfl) ?_))
 refine ⟨fun h => absurd (by decide) h, ?_⟩
 refine dr_oneL (i := 9) (by kernel_rfl) (drOp0L (i := 9) rfl rfl rfl (want_none rfl _) (o_stp (cs' := [u228]) (us := [u228]) (v := u228) sz24 rfl rfl (cells1 ho230.one) (ones1 ho230.one) hX234.pins hb238 (Nat.le_of_ble_eq_true rfl) rfl (fun w244 hb245 hp246 hg247 hz248 => ?_)))
 have hX249 := hX234.write hp246 hg247 ((lo_box hlo43))
 have ho250 := ho230.keptA hg247 ha242.symm
 have hb251 := hb236.keptA hg247 ha41.symm
 have hb252 := hb237.keptA hg247 ha42.symm
 refine ⟨fun h => absurd (by decide) h, ?_⟩
 refine dr_endL (by kernel_rfl) (s_blkN (s_lopN (⟨_, ?_, _, rfl, _, u228, os ++ ([os.getD 0 ByteArray.empty]), a188, s189, GL1, (packS (x := 5) (packS (x := 4) (pack1 (x := 0) rfl) rfl) rfl), rfl, hX249, hlek165, (by simp; omega), (snoc_all hall2 (hall2 _ (getD_mem (by omega)))), (by simp; omega), (by omega), ho250, hb251, hb252, hb245, ha240.symm, ha241.symm, ha242.symm⟩)))
 (simp; omega)
 refine wp_exit (s_thenE (s_lopE (s_blkE (s_blkN (s_then (s_seq (c_reg ?_)))))))
 refine qd rfl rfl rfl (r_ldpA (cs := [ov]) ag26 sz26 rfl (fun j u hj => hb198.cell (by simpa using hj))) (q0 rfl rfl rfl (o_stp (cs' := [ov]) (us := [ov]) (v := (.agg [ov].toArray)) sz26 rfl rfl rfl (ones1 ho196.one) hX195.pins hb197 (Nat.le_of_ble_eq_true rfl) rfl (fun w253 hb254 hp255 hg256 hz257 => ?_)))
 have hX258 := hX195.write hp255 hg256 ((lo_box hlo10))
 have ho259 := ho196.keptA hg256 ha174
 have hb260 := hb191.keptA hg256 ha9.symm
 refine qe (s_then ?_)
 refine wp_ret (s_ret (c_retc (cs := [ov]) rfl rfl rfl ag26 sz26 (fun j u hj => by rw [Nat.zero_add]; exact hb254.cell hj) ?_))
 obtain ⟨G262, hle265, hX264, hr263, hf266⟩ := ho259.sealed hX258
 have hb267 := hb260.moreO hf266 ha173.symm
 exact ⟨_, _, _, _, _, rfl, hr263, (by first | omega | (simp; done) | (simp; omega)), (fun y hy => Nat.le_trans (hall2 y hy) (by omega)), hb267, (by omega), (by omega), hX264⟩
 refine s_seq (c_reg ?_)
 refine qd rfl rfl rfl (r_eql rfl rfl) (qd rfl rfl rfl (r_assign (v := (.bool (decide ((z79 : Int) = 3)))) rfl) (qe (s_then ?_)))
 refine c_ifd (p := (z79 : Int) = 3) rfl rfl (fun h270 => ?_) (fun h270 => ?_)
 have hyi := hal20 _ (getD_mem (d := ByteArray.empty) (show (z66).toNat < rows12.length by omega))
 have hq271 := Gadd.pins hX88.pins u11
 have hr272 := ho89.read
 refine c_draw (S := fun wz => BxR wz b30 [u11] ∧ Pins (Gadd G15 w83 u11) wz) (last := 10) (by kernel_rfl) rfl ?_
 have hl273 : Below w83.heap.size w83 w83.drew := (Below.refl _ _).drew
 have hp274 := hX88.pins.below hl273
 have hX275 := hX88.step hp274 hl273
 have ho276 := ho89.below hl273
 have hb277 := hb84.below hl273
 have hb278 := hb90.below hl273
 have hb279 := hb91.below hl273
 have hq280 := hq271.below hl273
 refine dr_take (i := 0) rfl rfl rfl (want_none rfl _) (by kernel_rfl) (fun _ _ => r_fldp (k := 0) rfl Tryd.underlying26 rfl nz24 rfl) ⟨hb279.reads, hq280⟩ (dr_take (i := 1) rfl rfl rfl (want_none rfl _) (by kernel_rfl) (fun _ hS => r_ldp1 (u := u11) ag24 rfl (hS.1 0 _ rfl)) ⟨hb279.reads, hq280⟩ (dr_take (i := 2) rfl rfl rfl (want_none rfl _) (by kernel_rfl) (fun _ _ => r_move (v := (.int .i64 z66)) rfl) ⟨hb279.reads, hq280⟩ (dr_take (i := 3) rfl rfl rfl (want_none rfl _) (by kernel_rfl) (fun _ _ => r_fldp (k := 0) rfl Tryd.underlying26 rfl nz24 rfl) ⟨hb279.reads, hq280⟩ (dr_take (i := 4) rfl rfl rfl (want_none rfl _) (by kernel_rfl) (fun _ hS => r_ldp1 (u := u11) ag24 rfl (hS.1 0 _ rfl)) ⟨hb279.reads, hq280⟩ (dr_take (i := 5) rfl rfl rfl (want_none rfl _) (by kernel_rfl) (fun _ _ => r_move (v := (.int .i64 z66)) rfl) ⟨hb279.reads, hq280⟩ (dr_take (i := 6) rfl rfl rfl (want_none rfl _) (by kernel_rfl) (fun _ _ => run_idx Tryd.underlying24 sz9 (v := u11) rfl rfl hr272 (by omega) (by omega)) ⟨hb279.reads, hq280⟩ (dr_take (i := 7) rfl rfl rfl (want_none rfl _) (by kernel_rfl) (fun _ hS => run_load_str (r := rows12.getD (z66).toNat ByteArray.empty) rfl ag9 (z := z66) rfl hr272 hS.2 (by omega) (by omega)) ⟨hb279.reads, hq280⟩ ?_)))))))
 have hm281 : (⟨#[46, 46, 46, 46, 46, 46, 46, 46]⟩ : ByteArray).size = 8 := rfl
 have hm282 : ((rows12.getD (z66).toNat ByteArray.empty) ++ (⟨#[46, 46, 46, 46, 46, 46, 46, 46]⟩ : ByteArray)).size = (rows12.getD (z66).toNat ByteArray.empty).size + (⟨#[46, 46, 46, 46, 46, 46, 46, 46]⟩ : ByteArray).size := ByteArray.size_append
 refine dr_take (i := 8) rfl rfl rfl (want_none rfl _) (by kernel_rfl) (fun _ _ => r_addS rfl rfl (by omega)) ⟨hb279.reads, hq280⟩ (dr_take (i := 9) rfl rfl rfl (want_none rfl _) (by kernel_rfl) (fun _ _ => run_idx Tryd.underlying24 sz9 (v := u11) rfl rfl hr272 (by omega) (by omega)) ⟨hb279.reads, hq280⟩ (dr_one (i := 10) (by kernel_rfl) (drOp0 (i := 10) rfl rfl rfl (want_none rfl _) (o_set (E := eStr) (v := u11) (u := (.string ((rows12.getD (z66).toNat ByteArray.empty) ++ (⟨#[46, 46, 46, 46, 46, 46, 46, 46]⟩ : ByteArray)))) (z := z66) ((rows12.getD (z66).toNat ByteArray.empty) ++ (⟨#[46, 46, 46, 46, 46, 46, 46, 46]⟩ : ByteArray)) sz9 rfl rfl rfl rfl hX275.pins ho276 (by omega) (by omega) (fun w283 ho284 hp285 hg286 hz287 => ?_)))))
 have hX288 := hX275.write hp285 hg286 ((lo_own ho276))
 have hb289 := hb277.keptA hg286 ha27.symm
 have hb290 := hb278.keptA hg286 ha28.symm
 have hb291 := hb279.keptA hg286 ha40
 have ho292 : Own eStr 9 G15 w283 w.heap.size u11 ((rows12).set (z66).toNat ((rows12.getD (z66).toNat ByteArray.empty) ++ (⟨#[46, 46, 46, 46, 46, 46, 46, 46]⟩ : ByteArray))) := ho284
 have hm293 : ((rows12).set (z66).toNat ((rows12.getD (z66).toNat ByteArray.empty) ++ (⟨#[46, 46, 46, 46, 46, 46, 46, 46]⟩ : ByteArray))).length = rows12.length := List.length_set ..
 refine ⟨fun h => absurd rfl h, ?_⟩
 refine dr_end (by kernel_rfl) (s_blkN (s_then (s_seq (c_reg ?_))))
 refine qd rfl rfl rfl (r_ldpA (cs := [u11]) ag26 sz26 rfl (fun j u hj => hb291.cell (by simpa using hj))) (q0 rfl rfl rfl (o_stp (cs' := [u11]) (us := [u11]) (v := (.agg [u11].toArray)) sz26 rfl rfl rfl (ones1 ho292.one) hX288.pins hb290 (Nat.le_of_ble_eq_true rfl) rfl (fun w294 hb295 hp296 hg297 hz298 => ?_)))
 have hX299 := hX288.write hp296 hg297 ((lo_box hlo10))
 have ho300 := ho292.keptA hg297 ha28
 have hb301 := hb289.keptA hg297 ha9.symm
 refine qe (s_then ?_)
 refine wp_ret (s_ret (c_retc (cs := [u11]) rfl rfl rfl ag26 sz26 (fun j u hj => by rw [Nat.zero_add]; exact hb295.cell hj) ?_))
 obtain ⟨G303, hle306, hX305, hr304, hf307⟩ := ho300.sealed hX299
 have hb308 := hb301.moreO hf307 ha27.symm
 have hal9 : ∀ y ∈ (rows12).set (z66).toNat ((rows12.getD (z66).toNat ByteArray.empty) ++ (⟨#[46, 46, 46, 46, 46, 46, 46, 46]⟩ : ByteArray)), y.size ≤ 12 := by
  refine set_all (fun y hy => Nat.le_trans (hal20 y hy) (by omega)) ?_
  have e1 : (⟨#[46, 46, 46, 46, 46, 46, 46, 46]⟩ : ByteArray).size = 8 := rfl
  first | omega | (simp only [ByteArray.size_append]; omega)
 exact ⟨_, _, _, _, _, rfl, hr304, (by first | omega | (simp; done) | (simp; omega)), hal9, hb308, (by omega), (by omega), hX305⟩
 refine wp_skip (s_blkN (s_then (s_seq (c_reg ?_))))
 refine qd rfl rfl rfl (r_ldpA (cs := [u11]) ag26 sz26 rfl (fun j u hj => hb91.cell (by simpa using hj))) (q0 rfl rfl rfl (o_stp (cs' := [u11]) (us := [u11]) (v := (.agg [u11].toArray)) sz26 rfl rfl rfl (ones1 ho89.one) hX88.pins hb90 (Nat.le_of_ble_eq_true rfl) rfl (fun w311 hb312 hp313 hg314 hz315 => ?_)))
 have hX316 := hX88.write hp313 hg314 ((lo_box hlo10))
 have ho317 := ho89.keptA hg314 ha28
 have hb318 := hb84.keptA hg314 ha9.symm
 refine qe (s_then ?_)
 refine wp_ret (s_ret (c_retc (cs := [u11]) rfl rfl rfl ag26 sz26 (fun j u hj => by rw [Nat.zero_add]; exact hb312.cell hj) ?_))
 obtain ⟨G320, hle323, hX322, hr321, hf324⟩ := ho317.sealed hX316
 have hb325 := hb318.moreO hf324 ha27.symm
 exact ⟨_, _, _, _, _, rfl, hr321, (by first | omega | (simp; done) | (simp; omega)), (fun y hy => Nat.le_trans (hal20 y hy) (by omega)), hb325, (by omega), (by omega), hX322⟩
 refine wp_skip (s_then (s_seq (c_reg ?_)))
 refine qd rfl rfl rfl (r_ldpA (cs := [u11]) ag26 sz26 rfl (fun j u hj => hb64.cell (by simpa using hj))) (q0 rfl rfl rfl (o_stp (cs' := [u11]) (us := [u11]) (v := (.agg [u11].toArray)) sz26 rfl rfl rfl (ones1 ho62.one) hX61.pins hb63 (Nat.le_of_ble_eq_true rfl) rfl (fun w328 hb329 hp330 hg331 hz332 => ?_)))
 have hX333 := hX61.write hp330 hg331 ((lo_box hlo10))
 have ho334 := ho62.keptA hg331 ha28
 have hb335 := hb57.keptA hg331 ha9.symm
 refine qe (s_then ?_)
 refine wp_ret (s_ret (c_retc (cs := [u11]) rfl rfl rfl ag26 sz26 (fun j u hj => by rw [Nat.zero_add]; exact hb329.cell hj) ?_))
 obtain ⟨G337, hle340, hX339, hr338, hf341⟩ := ho334.sealed hX333
 have hb342 := hb335.moreO hf341 ha27.symm
 exact ⟨_, _, _, _, _, rfl, hr338, (by first | omega | (simp; done) | (simp; omega)), (fun y hy => Nat.le_trans (hal20 y hy) (by omega)), hb342, (by omega), (by omega), hX339⟩

theorem drDominoMoves_spec {w : World} {G : Pin} {v : Value} {code : List UInt8} (hP : Pins G w) (hc : RSl eByte G v code) :
  Calls Tryd.prog 5 [v].toArray w fun e w' => ∃ (u : Value) (rows : List ByteArray) (lf : Bool) (G' : Pin), e = .returned (.tuple #[(.agg [u].toArray), .bool lf]) ∧ RSl eStr G' u rows ∧ rows.length ≤ 9 ∧ (∀ y ∈ rows, y.size ≤ 12) ∧ Ext noS G w G' w' := by
 refine s_enter (n := 14) Tryd.func5 Tryd.ntmps5 rfl rfl ?_
 have hX0 : Ext noS G w G w := Ext.refl hP
 have hm := hc.max
 refine s_seq (c_reg ?_)
 refine q1 rfl rfl rfl (o_alloc [(.slice none 0 0)] zr26 rfl hX0.pins (fun b1 w2 hk3 hb4 hp5 hl6 => ?_))
 have hX7 := hX0.step hp5 hl6
 have hlo8 : w.heap.size ≤ b1 := by have := hX0.size; omega
 refine qd rfl rfl rfl (r_assign (v := (.bool false)) rfl) (qe (s_then (s_seq (c_reg ?_))))
 refine qd rfl rfl rfl (r_move (v := v) rfl) (qd rfl rfl rfl (r_build [(.slice none 0 0), (.int .i64 0), (.int .u64 0)] [v, (.int .i64 0), (.int .u64 0)] [(0, v, [v])] Tryd.underlying38 zr38 rfl pl38 rfl (List.forall_mem_cons.2 ⟨(cells_one hc.one), (fun _ h => by cases h)⟩) rfl) (q1 rfl rfl rfl (o_box [v, (.int .i64 0), (.int .u64 0)] (v := (.agg [v, (.int .i64 0), (.int .u64 0)].toArray)) rfl rfl hX7.pins (fun b9 w10 hk11 hb12 hp13 hl14 => ?_))))
 have hX15 := hX7.step hp13 hl14
 have hb16 := hb4.below hl14
 have ha17 : Apart (some b9) (some b1) := new_ne_box (congrArg some hk11) hb4.lt
 have hlo18 : w.heap.size ≤ b9 := by have := hX7.size; omega
 refine qd rfl rfl rfl (r_assign (v := (.pointer (some ⟨b9, 0, none⟩))) rfl) (qe (s_then (s_seq (c_reg ?_))))
 refine qd rfl rfl rfl (r_move (v := (.pointer (some ⟨b9, 0, none⟩))) rfl) (q1 rfl rfl rfl (o_call (vs := [(.pointer (some ⟨b9, 0, none⟩)), (.int .i64 12)]) Tryd.func10 nm10 rfl rfl rfl ?_))
 refine Calls.mono (loose_spec (m := 12) hX15.pins hb12 hc (by omega) (by omega) (by omega)) ?_
 rintro _ w24 ⟨u19, rows20, a21, s22, G23, rfl, hr25, hl26, hal27, hb28, hda29, hds30, hx31⟩
 refine ⟨_, rfl, ?_⟩
 have hX32 := hX15.trans hx31 (fun i hi => (lo_box hlo18) i hi)
 have hb33 := hb16.extS hx31 (notOb ha17.symm)
 refine q1 rfl rfl rfl (o_alloc [(.slice none 0 0)] zr26 rfl hX32.pins (fun b34 w35 hk36 hb37 hp38 hl39 => ?_))
 have hX40 := hX32.step hp38 hl39
 have hb41 := hb33.below hl39
 have hb42 := hb28.below hl39
 have ha43 : Apart (some b34) (some b1) := new_ne_box (congrArg some hk36) hb33.lt
 have ha44 : Apart (some b34) (some b9) := new_ne_box (congrArg some hk36) hb28.lt
 have hlo45 : w.heap.size ≤ b34 := by have := hX32.size; omega
 refine q0 rfl rfl rfl (o_stp (cs' := [u19]) (us := [u19]) (v := (.agg [u19].toArray)) sz26 rfl rfl rfl (ones1 hr25.one) hX40.pins hb37 (Nat.le_of_ble_eq_true rfl) rfl (fun w46 hb47 hp48 hg49 hz50 => ?_))
 have hX51 := hX40.write hp48 hg49 ((lo_box hlo45))
 have hb52 := hb41.keptA hg49 ha43.symm
 have hb53 := hb42.keptA hg49 ha44.symm
 refine qe (s_then (s_seq ?_))
 refine c_draw (S := fun wz => BxR wz b34 [u19]) (last := 5) (by kernel_rfl) rfl ?_
 have hl54 : Below w46.heap.size w46 w46.drew := (Below.refl _ _).drew
 have hp55 := hX51.pins.below hl54
 have hX56 := hX51.step hp55 hl54
 have hb57 := hb52.below hl54
 have hb58 := hb53.below hl54
 have hb59 := hb47.below hl54
 refine dr_take (i := 0) rfl rfl rfl (want_none rfl _) (by kernel_rfl) (fun _ hS => r_ldpA (cs := [u19]) ag26 sz26 rfl (fun j u hj => hS _ _ (by simpa using hj))) hb59.reads (dr_take (i := 1) rfl rfl rfl (want_none rfl _) (by kernel_rfl) (fun _ _ => r_move (v := (.pointer (some ⟨b9, 0, none⟩))) rfl) hb59.reads (dr_one (i := 2) (by kernel_rfl) (drOp1 (i := 2) rfl rfl rfl (want_none rfl _) (o_call (vs := [(.pointer (some ⟨b9, 0, none⟩)), (.int .i64 2)]) Tryd.func11 nm11 rfl rfl rfl ?_))))
 refine Calls.mono (one_spec hX56.pins hb58 (hc.mono hx31.le) (by omega) (by omega) (n := 2) (by omega)) ?_
 rintro _ w63 ⟨z60, a61, s62, rfl, hb64, hda65, hds66, hx67⟩
 refine ⟨_, rfl, ?_⟩
 have hX68 := hX56.trans hx67 (fun i hi => (lo_box hlo18) i hi)
 have hb69 := hb57.extS hx67 (notOb ha17.symm)
 have hb70 := hb59.extS hx67 (notOb ha44)
 refine ⟨fun _ => hb70.reads, ?_⟩
 refine dr_one (i := 3) (by kernel_rfl) (drOp0 (i := 3) rfl rfl rfl (want_none rfl _) (o_stp (cs' := [u19]) (us := [u19]) (v := (.agg [u19].toArray)) sz26 rfl rfl rfl (ones1 hr25.one) hX68.pins hb69 (Nat.le_of_ble_eq_true rfl) rfl (fun w71 hb72 hp73 hg74 hz75 => ?_)))
 have hX76 := hX68.write hp73 hg74 ((lo_box hlo8))
 have hb78 := hb70.keptA hg74 ha43
 refine ⟨fun _ => hb78.reads, ?_⟩
 exact dr_take (i := 4) rfl rfl rfl (want_none rfl _) (by kernel_rfl) (fun _ _ => r_assign (v := (.bool z60)) rfl) hb78.reads (dr_end (by kernel_rfl) (s_then (wp_ret (s_ret (c_retct (cs := [u19]) (v := (.bool z60)) rfl rfl rfl rfl rfl ag26 sz26 (fun j u hj => by rw [Nat.zero_add]; exact hb72.cell hj) (⟨_, _, _, _, rfl, hr25, hl26, hal27, hX76⟩))))))

end RD3
end Go.Proofs.YtajkbplgbikgdaaDoor

set_option maxRecDepth 20000
set_option maxHeartbeats 2000000
namespace Go.Proofs.YtajkbplgbikgdaaDoor
namespace LRM
open Go.RowKit Go.GL Go.Proofs
open RM1 RM2 RM3 RM4 RM5 RM6 RD1 RD2 RD3













theorem rBig_spec {w : World} {G : Pin} {v : Value} {code : List UInt8} (hP : Pins G w) (hc : RSl eByte G v code) :
  Calls Tryd.prog 4 [v].toArray w fun e w' => e = .returned (.bool (decide ((65536 : Int) < (code.length : Int)))) ∧ Ext noS G w G w' := by
 refine s_enter (n := 6) Tryd.func4 Tryd.ntmps4 rfl rfl ?_
 have hX0 : Ext noS G w G w := Ext.refl hP
 have hm := hc.max
 refine s_seq (c_reg ?_)
 refine qd rfl rfl rfl (r_assign (v := (.bool false)) rfl) (qe (s_then (s_seq (c_reg ?_))))
 refine qd rfl rfl rfl (r_move (v := v) rfl) (qd rfl rfl rfl (run_len Tryd.underlying22 (v := v) rfl hc) (qd rfl rfl rfl (r_gtr rfl rfl) (qd rfl rfl rfl (r_assign (v := (.bool (decide ((65536 : Int) < (code.length : Int))))) rfl) (qe (s_then ?_)))))
 exact wp_ret (s_ret (c_ret1 (v := (.bool (decide ((65536 : Int) < (code.length : Int))))) rfl rfl rfl (⟨rfl, hX0⟩)))

theorem rTexts_spec {w : World} {G : Pin} {u v : Value} {xs ys : List ByteArray} (hP : Pins G w) (hu : RSl eStr G u xs) (hv : RSl eStr G v ys) :
  Calls Tryd.prog 9 [u, v].toArray w fun e w' => e = .returned (.bool (decide (xs = ys))) ∧ Ext noS G w G w' := by
 refine s_enter (n := 26) Tryd.func9 Tryd.ntmps9 rfl rfl ?_
 have hX0 : Ext noS G w G w := Ext.refl hP
 have hm := hu.max
 refine s_seq (c_reg ?_)
 refine qd rfl rfl rfl (r_assign (v := (.bool false)) rfl) (qe (s_then (s_seq (s_seq (c_reg ?_)))))
 refine qd rfl rfl rfl (r_move (v := u) rfl) (qd rfl rfl rfl (run_len Tryd.underlying24 (v := u) rfl hu) (qd rfl rfl rfl (r_move (v := v) rfl) (qd rfl rfl rfl (run_len Tryd.underlying24 (v := v) rfl hv) (qd rfl rfl rfl (r_neq rfl rfl) (qe (s_then ?_))))))
 refine c_ifd (p := ((xs.length : Int) : Int) ≠ (ys.length : Int)) rfl rfl (fun h1 => ?_) (fun h1 => ?_)
 refine s_seq (c_reg ?_)
 refine qd rfl rfl rfl (r_assign (v := (.bool false)) rfl) (qe (s_then ?_))
 exact wp_ret (s_ret (c_ret1 (v := (.bool false)) rfl rfl rfl (⟨congrArg (fun z => Ending.returned (Value.bool z)) (decide_eq_false (fun e => h1 (by rw [e]))).symm, hX0⟩)))
 refine wp_skip (s_then (s_seq (s_seq (c_reg ?_))))
 refine qd rfl rfl rfl (r_assign (v := (.int .i64 0)) rfl) (qe (s_then ?_))
 refine s_blk (s_loop (fun (k : Nat) (en : Nat → Value) (W : World) => ∃ (env1 : Nat → Value) (j : Nat), en = (upd (upd (upd env1 0 u) 1 v) 5 (.int .i64 (j : Int))) ∧ k = xs.length - j ∧ Ext noS G w G W ∧ (j ≤ xs.length) ∧ (xs.length = ys.length) ∧ (∀ i, i < j → xs.getD i ByteArray.empty = ys.getD i ByteArray.empty)) _ ⟨_, 0, (packS (x := 5) (packS (x := 1) (pack1 (x := 0) rfl) rfl) rfl), rfl, hX0, Nat.zero_le _, (by omega), (fun i hi => absurd hi (Nat.not_lt_zero i))⟩ ?_)
 rintro k2 _ w3 ⟨env1, j, rfl, hk4, hX5, hj, heq, hp⟩
 refine s_seq (s_seq (c_reg ?_))
 refine qd rfl rfl rfl (r_move (v := (.int .i64 (j : Int))) rfl) (qd rfl rfl rfl (r_move (v := u) rfl) (qd rfl rfl rfl (run_len Tryd.underlying24 (v := u) rfl hu) (qd rfl rfl rfl (r_lss rfl rfl) (qe (s_then ?_)))))
 refine c_ifd (p := ((j : Int) : Int) < (xs.length : Int)) rfl rfl (fun h6 => ?_) (fun h6 => ?_)
 refine wp_skip (s_then (s_seq ?_))
 refine s_blk (s_seq (c_draw (S := fun wz => Pins G wz) (last := 9) (by kernel_rfl) rfl ?_))
 have hl7 : Below w3.heap.size w3 w3.drew := (Below.refl _ _).drew
 have hp8 := hX5.pins.below hl7
 have hX9 := hX5.step hp8 hl7
 refine dr_take (i := 0) rfl rfl rfl (want_none rfl _) (by kernel_rfl) (fun _ _ => r_move (v := u) rfl) hX9.pins (dr_take (i := 1) rfl rfl rfl (want_none rfl _) (by kernel_rfl) (fun _ _ => r_move (v := (.int .i64 (j : Int))) rfl) hX9.pins (dr_take (i := 2) rfl rfl rfl (want_none rfl _) (by kernel_rfl) (fun _ _ => run_idx Tryd.underlying24 sz9 (v := u) rfl rfl hu (by omega) (by omega)) hX9.pins (dr_take (i := 3) rfl rfl rfl (want_none rfl _) (by kernel_rfl) (fun _ hS => run_load_str (r := xs.getD j ByteArray.empty) rfl ag9 (z := (j : Int)) rfl hu hS (by omega) (by omega)) hX9.pins (dr_take (i := 4) rfl rfl rfl (want_none rfl _) (by kernel_rfl) (fun _ _ => r_move (v := v) rfl) hX9.pins (dr_take (i := 5) rfl rfl rfl (want_none rfl _) (by kernel_rfl) (fun _ _ => r_move (v := (.int .i64 (j : Int))) rfl) hX9.pins (dr_take (i := 6) rfl rfl rfl (want_none rfl _) (by kernel_rfl) (fun _ _ => run_idx Tryd.underlying24 sz9 (v := v) rfl rfl hv (by omega) (by omega)) hX9.pins (dr_take (i := 7) rfl rfl rfl (want_none rfl _) (by kernel_rfl) (fun _ hS => run_load_str (r := ys.getD j ByteArray.empty) rfl ag9 (z := (j : Int)) rfl hv hS (by omega) (by omega)) hX9.pins (dr_take (i := 8) rfl rfl rfl (want_none rfl _) (by kernel_rfl) (fun _ _ => r_neqS rfl rfl) hX9.pins (dr_end (by kernel_rfl) (s_then (c_ifn rfl rfl (fun h10 => ?_) (fun h10 => ?_))))))))))))
 refine wp_skip (s_blkN (s_then (c_reg ?_)))
 refine qd rfl rfl rfl (r_move (v := (.int .i64 (j : Int))) rfl) (qd rfl rfl rfl (r_add rfl rfl (by omega)) (qd rfl rfl rfl (r_assign (v := (.int .i64 ((j : Int) + 1))) rfl) (qe (s_lopN (⟨_, ?_, _, rfl, _, j + 1, (packS (x := 5) (packS (x := 1) (pack1 (x := 0) rfl) rfl) rfl), rfl, hX9, (by omega), heq, (eqstepG hp (txt_eq h10))⟩)))))
 omega
 refine s_seq (c_reg ?_)
 refine qd rfl rfl rfl (r_assign (v := (.bool false)) rfl) (qe (s_then ?_))
 exact wp_ret (s_ret (c_ret1 (v := (.bool false)) rfl rfl rfl (⟨congrArg (fun z => Ending.returned (Value.bool z)) (decide_eq_false (fun e => txt_dif h10 (by rw [e]))).symm, hX9⟩)))
 refine wp_exit (s_thenE (s_lopE (s_blkE (s_then (s_seq (c_reg ?_))))))
 refine qd rfl rfl rfl (r_assign (v := (.bool true)) rfl) (qe (s_then ?_))
 exact wp_ret (s_ret (c_ret1 (v := (.bool true)) rfl rfl rfl (⟨congrArg (fun z => Ending.returned (Value.bool z)) (decide_eq_true (eqdoneG heq (by omega) hp)).symm, hX5⟩)))

theorem law {w : World} {G : Pin} {v : Value} {code : List UInt8} (hP : Pins G w) (hc : RSl eByte G v code) (hM : MxG 0 G) :
  Calls Tryd.prog 3 [v].toArray w fun e w' => ∃ G', e = .returned (.bool true) ∧ Ext noS G w G' w' := by
 refine s_enter (n := 143) Tryd.func3 Tryd.ntmps3 rfl rfl ?_
 have hX0 : Ext noS G w G w := Ext.refl hP
 have hm := hc.max
 refine s_seq (c_reg ?_)
 refine qd rfl rfl rfl (r_assign (v := (.bool false)) rfl) (qe (s_then (s_seq (s_seq (c_reg ?_)))))
 refine qd rfl rfl rfl (r_move (v := v) rfl) (q1 rfl rfl rfl (o_call (vs := [v]) Tryd.func4 nm4 rfl rfl rfl ?_))
 refine Calls.mono (rBig_spec hX0.pins hc) ?_
 rintro _ w1 ⟨rfl, hx2⟩
 refine ⟨_, rfl, ?_⟩
 have hX3 := hX0.step hx2.pins hx2.below
 refine qe (s_then ?_)
 refine c_ifd (p := ((65536 : Int) < (code.length : Int))) rfl rfl (fun h4 => ?_) (fun h4 => ?_)
 refine s_seq (c_reg ?_)
 refine qd rfl rfl rfl (r_assign (v := (.bool true)) rfl) (qe (s_then ?_))
 exact wp_ret (s_ret (c_ret1 (v := (.bool true)) rfl rfl rfl (⟨_, rfl, hX3⟩)))
 refine wp_skip (s_then (s_seq (c_reg ?_)))
 refine qd rfl rfl rfl (r_move (v := v) rfl) (q1 rfl rfl rfl (o_call (vs := [v]) Tryd.func5 nm5 rfl rfl rfl ?_))
 refine Calls.mono (drDominoMoves_spec hX3.pins hc) ?_
 rintro _ w9 ⟨u5, rows6, lf7, G8, rfl, hr10, hl11, hal12, hx13⟩
 refine ⟨_, rfl, ?_⟩
 have hX14 := hX3.tr hx13
 have hdz : ∀ i, i < rows6.length → (rows6.getD i ByteArray.empty).size ≤ 1048576 := fun i hi => Nat.le_trans (hal12 _ (getD_mem hi)) (by omega)
 have hm15 := hr10.max
 refine qd rfl rfl rfl (r_move (v := (.tuple #[(.agg [u5].toArray), (.bool lf7)])) rfl) (qd rfl rfl rfl (r_extract (v := (.agg [u5].toArray)) rfl rfl) (qd rfl rfl rfl (r_extract (v := (.bool lf7)) rfl rfl) (q1 rfl rfl rfl (o_alloc [(.slice none 0 0)] zr26 rfl hX14.pins (fun b16 w17 hk18 hb19 hp20 hl21 => ?_)))))
 have hX22 := hX14.step hp20 hl21
 have hlo23 : w.heap.size ≤ b16 := by have := hX14.size; omega
 refine q0 rfl rfl rfl (o_stp (cs' := [u5]) (us := [u5]) (v := (.agg [u5].toArray)) sz26 rfl rfl rfl (ones1 hr10.one) hX22.pins hb19 (Nat.le_of_ble_eq_true rfl) rfl (fun w24 hb25 hp26 hg27 hz28 => ?_))
 have hX29 := hX22.write hp26 hg27 ((lo_box hlo23))
 obtain ⟨G30, hle31, hX32, hbp33, hf34⟩ := hb25.shut hX29 hlo23
 refine qd rfl rfl rfl (r_assign (v := (.bool lf7)) rfl) (qe (s_then (s_seq (c_reg ?_))))
 refine qd rfl rfl rfl (r_ldpA (cs := [u5]) ag26 sz26 rfl (fun j u hj => hX32.pins _ _ _ (hbp33 _ _ (by simpa using hj)))) (qd rfl rfl rfl (r_move (v := (.bool lf7)) rfl) (q1 rfl rfl rfl (o_call (vs := [(.agg [u5].toArray), (.bool lf7)]) Tryd.func6 nm6 rfl rfl rfl ?_)))
 refine Calls.mono (iDominoMoves_spec (left := lf7) hX32.pins (hr10.mono hle31) hdz) ?_
 rintro _ w37 ⟨u35, G36, rfl, hr38, hx39⟩
 refine ⟨_, rfl, ?_⟩
 have hX40 := hX32.tr hx39
 have hm41 := hr38.max
 refine qd rfl rfl rfl (r_move (v := (.tuple #[u35, (.bool (gbB rows6))])) rfl) (qd rfl rfl rfl (r_extract (v := u35) rfl rfl) (qd rfl rfl rfl (r_extract (v := (.bool (gbB rows6))) rfl rfl) (qd rfl rfl rfl (r_assign (v := u35) rfl) (qd rfl rfl rfl (r_assign (v := (.bool (gbB rows6))) rfl) (qe (s_then (s_seq (c_reg ?_))))))))
 refine qd rfl rfl rfl (r_ldpA (cs := [u5]) ag26 sz26 rfl (fun j u hj => (Pins.of_le hX40.pins hx39.le) _ _ _ (hbp33 _ _ (by simpa using hj)))) (qd rfl rfl rfl (r_move (v := (.bool lf7)) rfl) (q1 rfl rfl rfl (o_call (vs := [(.agg [u5].toArray), (.bool lf7)]) Tryd.func7 nm7 rfl rfl rfl ?_)))
 refine Calls.mono (sDominoMoves_spec (left := lf7) hX40.pins (hr10.mono (Pin.le_trans hle31 hx39.le))) ?_
 rintro _ w44 ⟨u42, G43, rfl, hr45, hx46⟩
 refine ⟨_, rfl, ?_⟩
 have hX47 := hX40.tr hx46
 have hm48 := hr45.max
 refine qd rfl rfl rfl (r_move (v := (.tuple #[u42, (.bool (gbB rows6))])) rfl) (qd rfl rfl rfl (r_extract (v := u42) rfl rfl) (qd rfl rfl rfl (r_extract (v := (.bool (gbB rows6))) rfl rfl) (qd rfl rfl rfl (r_assign (v := u42) rfl) (qd rfl rfl rfl (r_assign (v := (.bool (gbB rows6))) rfl) (qe (s_then (s_seq (c_reg ?_))))))))
 refine qd rfl rfl rfl (r_ldpA (cs := [u5]) ag26 sz26 rfl (fun j u hj => (Pins.of_le hX47.pins (Pin.le_trans hx39.le hx46.le)) _ _ _ (hbp33 _ _ (by simpa using hj)))) (qd rfl rfl rfl (r_move (v := (.bool lf7)) rfl) (q1 rfl rfl rfl (o_call (vs := [(.agg [u5].toArray), (.bool lf7)]) Tryd.func8 nm8 rfl rfl rfl ?_)))
 refine Calls.mono (room_spec (left := lf7) hX47.pins (hr10.mono (Pin.le_trans (Pin.le_trans hle31 hx39.le) hx46.le)) (hM.le (Pin.le_trans (Pin.le_trans (Pin.le_trans hx13.le hle31) hx39.le) hx46.le)) hdz) ?_
 rintro _ w50 ⟨G49, rfl, hx51⟩
 refine ⟨_, rfl, ?_⟩
 have hX52 := hX47.tr hx51
 refine qd rfl rfl rfl (r_move (v := (.tuple #[(.int .i64 (rmF rows6 lf7)), (.bool (gbB rows6))])) rfl) (qd rfl rfl rfl (r_extract (v := (.int .i64 (rmF rows6 lf7))) rfl rfl) (qd rfl rfl rfl (r_extract (v := (.bool (gbB rows6))) rfl rfl) (qd rfl rfl rfl (r_assign (v := (.int .i64 (rmF rows6 lf7))) rfl) (qd rfl rfl rfl (r_assign (v := (.bool (gbB rows6))) rfl) (qe (s_then (s_seq (s_seq (c_reg ?_)))))))))
 refine qd rfl rfl rfl (r_move (v := (.bool (gbB rows6))) rfl) (qd rfl rfl rfl (r_move (v := (.bool (gbB rows6))) rfl) (qd rfl rfl rfl (r_neqB_same Tryd.underlying4 rfl rfl) (qd rfl rfl rfl (r_move (v := (.bool false)) rfl) (qdg rfl rfl rfl rfl rfl rfl (r_move (v := (.bool (gbB rows6))) rfl) (qdg rfl rfl rfl rfl rfl rfl (r_move (v := (.bool (gbB rows6))) rfl) (qdg rfl rfl rfl rfl rfl rfl (r_neqB_same Tryd.underlying4 rfl rfl) (qd rfl rfl rfl (r_pickF (v := (.bool false)) rfl rfl) (qd rfl rfl rfl (r_move (v := (.bool false)) rfl) (qdg rfl rfl rfl rfl rfl rfl (r_move (v := u35) rfl) (qdg rfl rfl rfl rfl rfl rfl (run_len Tryd.underlying29 (v := u35) rfl hr38) (qdg rfl rfl rfl rfl rfl rfl (r_move (v := u42) rfl) (qdg rfl rfl rfl rfl rfl rfl (run_len Tryd.underlying29 (v := u42) rfl hr45) (qdg rfl rfl rfl rfl rfl rfl (r_neq rfl rfl) (qd rfl rfl rfl (r_pickF (v := (.bool (decide ((((dmF rows6 lf7).length : Int) : Int) ≠ ((dmF rows6 lf7).length : Int))))) rfl rfl) (qe (s_then ?_))))))))))))))))
 refine c_ifd (p := (((dmF rows6 lf7).length : Int) : Int) ≠ ((dmF rows6 lf7).length : Int)) rfl rfl (fun h53 => ?_) (fun h53 => ?_)
 refine s_seq (c_reg ?_)
 refine qd rfl rfl rfl (r_assign (v := (.bool false)) rfl) (qe (s_then ?_))
 refine wp_ret (s_ret (c_ret1 (v := (.bool false)) rfl rfl rfl ?_))
 exfalso
 first | omega | simp_all
 refine wp_skip (s_then (s_seq (s_seq (c_reg ?_))))
 refine qd rfl rfl rfl (r_move (v := (.bool (gbB rows6))) rfl) (qd rfl rfl rfl (r_not rfl) (qe (s_then ?_)))
 refine c_ifn rfl rfl (fun h54 => ?_) (fun h54 => ?_)
 refine wp_skip (s_then (s_seq (s_seq (c_reg ?_))))
 have hgb : gbB rows6 = true := by simpa using h54
 have hps := rl_pos hgb (lf := lf7)
 have hrt := rl_top hgb (lf := lf7)
 refine qd rfl rfl rfl (r_move (v := (.int .i64 (rmF rows6 lf7))) rfl) (qd rfl rfl rfl (r_gtr rfl rfl) (qd rfl rfl rfl (r_move (v := u35) rfl) (qd rfl rfl rfl (run_len Tryd.underlying29 (v := u35) rfl hr38) (qd rfl rfl rfl (r_gtr rfl rfl) (qd rfl rfl rfl (r_neqB Tryd.underlying4 rfl rfl) (qe (s_then ?_)))))))
 refine c_if rfl rfl (fun h55 => ?_) (fun h55 => ?_)
 refine s_seq (c_reg ?_)
 refine qd rfl rfl rfl (r_assign (v := (.bool false)) rfl) (qe (s_then ?_))
 refine wp_ret (s_ret (c_ret1 (v := (.bool false)) rfl rfl rfl ?_))
 exfalso
 first | omega | simp_all
 refine wp_skip (s_then (s_seq (s_seq (c_reg ?_))))
 refine qd rfl rfl rfl (r_assign (v := (.int .i64 0)) rfl) (qe (s_then ?_))
 refine s_blk (s_loop (fun (k : Nat) (en : Nat → Value) (W : World) => ∃ (env1 : Nat → Value) (p : Nat) (GL1 : Pin), en = (upd (upd (upd (upd (upd (upd env1 3 (.pointer (some ⟨b16, 0, none⟩))) 4 (.bool lf7)) 5 u35) 7 u42) 9 (.int .i64 (rmF rows6 lf7))) 11 (.int .i64 (p : Int))) ∧ k = (dmF rows6 lf7).length - p ∧ Ext noS G w GL1 W ∧ Pin.le G49 GL1 ∧ (p ≤ (dmF rows6 lf7).length)) _ ⟨_, 0, G49, (packS (x := 11) (packS (x := 9) (packS (x := 7) (packS (x := 5) (packS (x := 4) (pack1 (x := 3) rfl) rfl) rfl) rfl) rfl) rfl), rfl, hX52, Pin.le_refl _, Nat.zero_le _⟩ ?_)
 rintro k56 _ w57 ⟨env1, p, GL1, rfl, hk58, hX59, hlek56, hp⟩
 refine s_seq (s_seq (c_reg ?_))
 refine qd rfl rfl rfl (r_move (v := (.int .i64 (p : Int))) rfl) (qd rfl rfl rfl (r_move (v := u35) rfl) (qd rfl rfl rfl (run_len Tryd.underlying29 (v := u35) rfl hr38) (qd rfl rfl rfl (r_lss rfl rfl) (qe (s_then ?_)))))
 refine c_ifd (p := ((p : Int) : Int) < ((dmF rows6 lf7).length : Int)) rfl rfl (fun h60 => ?_) (fun h60 => ?_)
 have hnx := rl_next hgb (lf := lf7) (p := p) (by omega)
 have hnx1 := hnx.1
 have hnx2 := hnx.2.1
 have hbz := hnx.2.2
 refine wp_skip (s_then (s_seq ?_))
 refine s_blk (s_seq (c_reg ?_))
 refine qd rfl rfl rfl (r_move (v := u35) rfl) (qd rfl rfl rfl (r_move (v := (.int .i64 (p : Int))) rfl) (qd rfl rfl rfl (run_idx Tryd.underlying29 sz26 (v := u35) rfl rfl hr38 (by omega) (by omega)) ?_))
 obtain ⟨u61, hr62, hl63⟩ := nm_form (hr38.at (z := (p : Int)) (by omega) (by omega)) (j := p) rfl
 have hm64 := hr62.max
 refine qd rfl rfl rfl (hl63 ag26 sz26 rfl (Pins.of_le hX59.pins (Pin.le_trans (Pin.le_trans hx46.le hx51.le) hlek56))) (qd rfl rfl rfl (r_move (v := (.bool lf7)) rfl) (q1 rfl rfl rfl (o_call (vs := [(.agg [u61].toArray), (.bool lf7)]) Tryd.func8 nm8 rfl rfl rfl ?_)))
 refine Calls.mono (room_spec (left := lf7) hX59.pins (hr62.mono (Pin.le_trans (Pin.le_trans hx46.le hx51.le) hlek56)) (hM.le (Pin.le_trans (Pin.le_trans (Pin.le_trans (Pin.le_trans (Pin.le_trans hx13.le hle31) hx39.le) hx46.le) hx51.le) hlek56)) hbz) ?_
 rintro _ w66 ⟨G65, rfl, hx67⟩
 refine ⟨_, rfl, ?_⟩
 have hX68 := hX59.tr hx67
 refine qd rfl rfl rfl (r_move (v := (.tuple #[(.int .i64 (rmF ((dmF rows6 lf7).getD p []) lf7)), (.bool (gbB ((dmF rows6 lf7).getD p [])))])) rfl) (qd rfl rfl rfl (r_extract (v := (.int .i64 (rmF ((dmF rows6 lf7).getD p []) lf7))) rfl rfl) (qd rfl rfl rfl (r_extract (v := (.bool (gbB ((dmF rows6 lf7).getD p [])))) rfl rfl) (qd rfl rfl rfl (r_assign (v := (.int .i64 (rmF ((dmF rows6 lf7).getD p []) lf7))) rfl) (qd rfl rfl rfl (r_assign (v := (.bool (gbB ((dmF rows6 lf7).getD p [])))) rfl) (qe (s_then (s_seq ?_)))))))
 refine c_draw (S := fun wz => Pins G65 wz) (last := 22) (by kernel_rfl) rfl ?_
 have hl69 : Below w66.heap.size w66 w66.drew := (Below.refl _ _).drew
 have hp70 := hX68.pins.below hl69
 have hX71 := hX68.step hp70 hl69
 refine dr_take (i := 0) rfl rfl rfl (want_none rfl _) (by kernel_rfl) (fun _ _ => r_move (v := u35) rfl) hX71.pins (dr_take (i := 1) rfl rfl rfl (want_none rfl _) (by kernel_rfl) (fun _ _ => r_move (v := (.int .i64 (p : Int))) rfl) hX71.pins (dr_take (i := 2) rfl rfl rfl (want_none rfl _) (by kernel_rfl) (fun _ _ => run_idx Tryd.underlying29 sz26 (v := u35) rfl rfl hr38 (by omega) (by omega)) hX71.pins (dr_take (i := 3) rfl rfl rfl (want_none rfl _) (by kernel_rfl) (fun _ _ => run_fld (off := 0) Tryd.underlying26 rfl rfl nz24 (z := (p : Int)) (k := 0) rfl hr38 (by omega) (by omega)) hX71.pins ?_)))
 obtain ⟨u72, hr73, hl74⟩ := nm_sl (hr38.at (z := (p : Int)) (by omega) (by omega)) (j := p) rfl
 have hm75 := hr73.max
 refine dr_take (i := 4) rfl rfl rfl (want_none rfl _) (by kernel_rfl) (fun _ hS => hl74 ag24 rfl (Pins.of_le hS (Pin.le_trans (Pin.le_trans (Pin.le_trans hx46.le hx51.le) hlek56) hx67.le))) hX71.pins (dr_take (i := 5) rfl rfl rfl (want_none rfl _) (by kernel_rfl) (fun _ _ => r_move (v := u42) rfl) hX71.pins (dr_take (i := 6) rfl rfl rfl (want_none rfl _) (by kernel_rfl) (fun _ _ => r_move (v := (.int .i64 (p : Int))) rfl) hX71.pins (dr_take (i := 7) rfl rfl rfl (want_none rfl _) (by kernel_rfl) (fun _ _ => run_idx Tryd.underlying29 sz26 (v := u42) rfl rfl hr45 (by omega) (by omega)) hX71.pins (dr_take (i := 8) rfl rfl rfl (want_none rfl _) (by kernel_rfl) (fun _ _ => run_fld (off := 0) Tryd.underlying26 rfl rfl nz24 (z := (p : Int)) (k := 0) rfl hr45 (by omega) (by omega)) hX71.pins ?_))))
 obtain ⟨u76, hr77, hl78⟩ := nm_sl (hr45.at (z := (p : Int)) (by omega) (by omega)) (j := p) rfl
 have hm79 := hr77.max
 refine dr_take (i := 9) rfl rfl rfl (want_none rfl _) (by kernel_rfl) (fun _ hS => hl78 ag24 rfl (Pins.of_le hS (Pin.le_trans (Pin.le_trans hx51.le hlek56) hx67.le))) hX71.pins (dr_one (i := 10) (by kernel_rfl) (drOp1 (i := 10) rfl rfl rfl (want_none rfl _) (o_call (vs := [u72, u76]) Tryd.func9 nm9 rfl rfl rfl ?_)))
 refine Calls.mono (rTexts_spec hX71.pins (hr73.mono (Pin.le_trans (Pin.le_trans (Pin.le_trans hx46.le hx51.le) hlek56) hx67.le)) (hr77.mono (Pin.le_trans (Pin.le_trans hx51.le hlek56) hx67.le))) ?_
 rintro _ w80 ⟨rfl, hx81⟩
 refine ⟨_, rfl, ?_⟩
 have hX82 := hX71.step hx81.pins hx81.below
 refine ⟨fun _ => hX82.pins, ?_⟩
 refine dr_take (i := 11) rfl rfl rfl (want_none rfl _) (by kernel_rfl) (fun _ _ => r_not rfl) hX82.pins (dr_take (i := 12) rfl rfl rfl (want_none rfl _) (by kernel_rfl) (fun _ _ => r_move (v := (.bool (!(decide (((dmF rows6 lf7).getD p []) = ((dmF rows6 lf7).getD p [])))))) rfl) hX82.pins (drbn (t := 94) rfl (fun _ => ?_) (fun h => absurd rfl (of_decide_eq_false h))))
 refine dr_take (i := 13) rfl rfl rfl (want_yes rfl rfl rfl rfl) (by kernel_rfl) (fun _ _ => r_move (v := (.bool (gbB ((dmF rows6 lf7).getD p [])))) rfl) hX82.pins (dr_take (i := 14) rfl rfl rfl (want_yes rfl rfl rfl rfl) (by kernel_rfl) (fun _ _ => r_not rfl) hX82.pins (dr_take (i := 15) rfl rfl rfl (want_none rfl _) (by kernel_rfl) (fun _ _ => r_pickF (v := (.bool (!(gbB ((dmF rows6 lf7).getD p []))))) rfl rfl) hX82.pins (dr_take (i := 16) rfl rfl rfl (want_none rfl _) (by kernel_rfl) (fun _ _ => r_move (v := (.bool (!(gbB ((dmF rows6 lf7).getD p []))))) rfl) hX82.pins (drbn (t := 98) rfl (fun h84 => ?_) (fun h84 => ?_)))))
 refine dr_take (i := 17) rfl rfl rfl (want_yes rfl rfl rfl rfl) (by kernel_rfl) (fun _ _ => r_move (v := (.int .i64 (rmF ((dmF rows6 lf7).getD p []) lf7))) rfl) hX82.pins (dr_take (i := 18) rfl rfl rfl (want_yes rfl rfl rfl rfl) (by kernel_rfl) (fun _ _ => r_move (v := (.int .i64 (rmF rows6 lf7))) rfl) hX82.pins (dr_take (i := 19) rfl rfl rfl (want_yes rfl rfl rfl rfl) (by kernel_rfl) (fun _ _ => r_sub rfl rfl (by omega)) hX82.pins (dr_take (i := 20) rfl rfl rfl (want_yes rfl rfl rfl rfl) (by kernel_rfl) (fun _ _ => r_gtr rfl rfl) hX82.pins (dr_take (i := 21) rfl rfl rfl (want_none rfl _) (by kernel_rfl) (fun _ _ => r_pickF (v := (.bool (decide (((rmF rows6 lf7) - 1 : Int) < (rmF ((dmF rows6 lf7).getD p []) lf7))))) rfl rfl) hX82.pins (dr_end (by kernel_rfl) (s_then (c_ifd (p := ((rmF rows6 lf7) - 1 : Int) < (rmF ((dmF rows6 lf7).getD p []) lf7)) rfl rfl (fun h85 => ?_) (fun h85 => ?_))))))))
 refine s_seq (c_reg ?_)
 refine qd rfl rfl rfl (r_assign (v := (.bool false)) rfl) (qe (s_then ?_))
 refine wp_ret (s_ret (c_ret1 (v := (.bool false)) rfl rfl rfl ?_))
 exfalso
 first | omega | simp_all
 refine wp_skip (s_blkN (s_then (c_reg ?_)))
 refine qd rfl rfl rfl (r_move (v := (.int .i64 (p : Int))) rfl) (qd rfl rfl rfl (r_add rfl rfl (by omega)) (qd rfl rfl rfl (r_assign (v := (.int .i64 ((p : Int) + 1))) rfl) (qe (s_lopN (⟨_, ?_, _, rfl, _, p + 1, G65, (packS (x := 11) (packS (x := 9) (packS (x := 7) (packS (x := 5) (packS (x := 4) (pack1 (x := 3) rfl) rfl) rfl) rfl) rfl) rfl), rfl, hX82, (Pin.le_trans hlek56 hx67.le), (by omega)⟩)))))
 omega
 refine dr_skip (i := 17) rfl rfl (want_no rfl rfl rfl rfl rfl) (by kernel_rfl) hX82.pins (dr_skip (i := 18) rfl rfl (want_no rfl rfl rfl rfl rfl) (by kernel_rfl) hX82.pins (dr_skip (i := 19) rfl rfl (want_no rfl rfl rfl rfl rfl) (by kernel_rfl) hX82.pins (dr_skip (i := 20) rfl rfl (want_no rfl rfl rfl rfl rfl) (by kernel_rfl) hX82.pins (dr_take (i := 21) rfl rfl rfl (want_none rfl _) (by kernel_rfl) (fun _ _ => r_pickT (v := (.bool true)) rfl rfl) hX82.pins (dr_end (by kernel_rfl) (s_then (c_ifT rfl rfl (s_seq (c_reg ?_)))))))))
 refine qd rfl rfl rfl (r_assign (v := (.bool false)) rfl) (qe (s_then ?_))
 refine wp_ret (s_ret (c_ret1 (v := (.bool false)) rfl rfl rfl ?_))
 exfalso
 first | omega | simp_all
 refine wp_exit (s_thenE (s_lopE (s_blkE (s_then (s_seq (c_reg ?_))))))
 refine qd rfl rfl rfl (r_ldpA (cs := [u5]) ag26 sz26 rfl (fun j u hj => (Pins.of_le hX59.pins (Pin.le_trans (Pin.le_trans (Pin.le_trans hx39.le hx46.le) hx51.le) hlek56)) _ _ _ (hbp33 _ _ (by simpa using hj)))) (qd rfl rfl rfl (r_move (v := (.bool lf7)) rfl) (qd rfl rfl rfl (r_not rfl) (q1 rfl rfl rfl (o_call (vs := [(.agg [u5].toArray), (.bool (!lf7))]) Tryd.func6 nm6 rfl rfl rfl ?_))))
 refine Calls.mono (iDominoMoves_spec (left := (!lf7)) hX59.pins (hr10.mono (Pin.le_trans (Pin.le_trans (Pin.le_trans (Pin.le_trans hle31 hx39.le) hx46.le) hx51.le) hlek56)) hdz) ?_
 rintro _ w88 ⟨u86, G87, rfl, hr89, hx90⟩
 refine ⟨_, rfl, ?_⟩
 have hX91 := hX59.tr hx90
 have hm92 := hr89.max
 refine qd rfl rfl rfl (r_move (v := (.tuple #[u86, (.bool (gbB rows6))])) rfl) (qd rfl rfl rfl (r_extract (v := u86) rfl rfl) (qd rfl rfl rfl (r_extract (v := (.bool (gbB rows6))) rfl rfl) (qd rfl rfl rfl (r_assign (v := u86) rfl) (qd rfl rfl rfl (r_assign (v := (.bool (gbB rows6))) rfl) (qe (s_then (s_seq (s_seq (c_reg ?_)))))))))
 refine qd rfl rfl rfl (r_assign (v := (.int .i64 0)) rfl) (qe (s_then ?_))
 refine s_blk (s_loop (fun (k : Nat) (en : Nat → Value) (W : World) => ∃ (env1 : Nat → Value) (q : Nat) (GL2 : Pin), en = (upd (upd (upd (upd (upd env1 4 (.bool lf7)) 9 (.int .i64 (rmF rows6 lf7))) 14 u86) 15 (.bool (gbB rows6))) 16 (.int .i64 (q : Int))) ∧ k = (dmF rows6 (!lf7)).length - q ∧ Ext noS G w GL2 W ∧ Pin.le G87 GL2 ∧ (q ≤ (dmF rows6 (!lf7)).length)) _ ⟨_, 0, G87, (packS (x := 16) (packS (x := 15) (packS (x := 14) (packS (x := 9) (pack1 (x := 4) rfl) rfl) rfl) rfl) rfl), rfl, hX91, Pin.le_refl _, Nat.zero_le _⟩ ?_)
 rintro k93 _ w94 ⟨env1, q, GL2, rfl, hk95, hX96, hlek93, hq⟩
 refine s_seq (s_seq (c_reg ?_))
 refine qd rfl rfl rfl (r_move (v := (.bool (gbB rows6))) rfl) (qd rfl rfl rfl (r_move (v := (.bool (gbB rows6))) rfl) (qb (t := 112) rfl (fun h97 => ?_) (fun h97 => ?_)))
 refine qdg rfl rfl rfl rfl rfl rfl (r_move (v := (.int .i64 (q : Int))) rfl) (qdg rfl rfl rfl rfl rfl rfl (r_move (v := u86) rfl) (qdg rfl rfl rfl rfl rfl rfl (run_len Tryd.underlying29 (v := u86) rfl hr89) (qdg rfl rfl rfl rfl rfl rfl (r_lss rfl rfl) (qd rfl rfl rfl (r_pickT (v := (.bool (decide (((q : Int) : Int) < ((dmF rows6 (!lf7)).length : Int))))) rfl rfl) (qe (s_then ?_))))))
 refine c_ifd (p := ((q : Int) : Int) < ((dmF rows6 (!lf7)).length : Int)) rfl rfl (fun h98 => ?_) (fun h98 => ?_)
 refine wp_skip (s_then (s_seq ?_))
 refine s_blk (s_seq (c_reg ?_))
 have hay := rl_away hgb (lf := lf7) (p := q) (by omega)
 have hay1 := hay.1
 have hay2 := hay.2.1
 have hay3 := hay.2.2.1
 have hbz := hay.2.2.2
 refine qd rfl rfl rfl (r_move (v := u86) rfl) (qd rfl rfl rfl (r_move (v := (.int .i64 (q : Int))) rfl) (qd rfl rfl rfl (run_idx Tryd.underlying29 sz26 (v := u86) rfl rfl hr89 (by omega) (by omega)) ?_))
 obtain ⟨u99, hr100, hl101⟩ := nm_form (hr89.at (z := (q : Int)) (by omega) (by omega)) (j := q) rfl
 have hm102 := hr100.max
 refine qd rfl rfl rfl (hl101 ag26 sz26 rfl (Pins.of_le hX96.pins hlek93)) (qd rfl rfl rfl (r_move (v := (.bool lf7)) rfl) (q1 rfl rfl rfl (o_call (vs := [(.agg [u99].toArray), (.bool lf7)]) Tryd.func8 nm8 rfl rfl rfl ?_)))
 refine Calls.mono (room_spec (left := lf7) hX96.pins (hr100.mono hlek93) (hM.le (Pin.le_trans (Pin.le_trans (Pin.le_trans (Pin.le_trans (Pin.le_trans (Pin.le_trans (Pin.le_trans hx13.le hle31) hx39.le) hx46.le) hx51.le) hlek56) hx90.le) hlek93)) hbz) ?_
 rintro _ w104 ⟨G103, rfl, hx105⟩
 refine ⟨_, rfl, ?_⟩
 have hX106 := hX96.tr hx105
 refine qd rfl rfl rfl (r_move (v := (.tuple #[(.int .i64 (rmF ((dmF rows6 (!lf7)).getD q []) lf7)), (.bool (gbB ((dmF rows6 (!lf7)).getD q [])))])) rfl) (qd rfl rfl rfl (r_extract (v := (.int .i64 (rmF ((dmF rows6 (!lf7)).getD q []) lf7))) rfl rfl) (qd rfl rfl rfl (r_extract (v := (.bool (gbB ((dmF rows6 (!lf7)).getD q [])))) rfl rfl) (qd rfl rfl rfl (r_assign (v := (.int .i64 (rmF ((dmF rows6 (!lf7)).getD q []) lf7))) rfl) (qd rfl rfl rfl (r_assign (v := (.bool (gbB ((dmF rows6 (!lf7)).getD q [])))) rfl) (qe (s_then (s_seq (c_reg ?_))))))))
 refine qd rfl rfl rfl (r_move (v := (.bool (gbB ((dmF rows6 (!lf7)).getD q [])))) rfl) (qd rfl rfl rfl (r_not rfl) (qd rfl rfl rfl (r_move (v := (.bool (!(gbB ((dmF rows6 (!lf7)).getD q []))))) rfl) (qbn (t := 131) rfl (fun h107 => ?_) (fun h107 => ?_))))
 refine qdg rfl rfl rfl rfl rfl rfl (r_move (v := (.int .i64 (rmF ((dmF rows6 (!lf7)).getD q []) lf7))) rfl) (qdg rfl rfl rfl rfl rfl rfl (r_move (v := (.int .i64 (rmF rows6 lf7))) rfl) (qdg rfl rfl rfl rfl rfl rfl (r_sub rfl rfl (by omega)) (qdg rfl rfl rfl rfl rfl rfl (r_lss rfl rfl) (qd rfl rfl rfl (r_pickF (v := (.bool (decide ((rmF ((dmF rows6 (!lf7)).getD q []) lf7 : Int) < ((rmF rows6 lf7) - 2))))) rfl rfl) (qd rfl rfl rfl (r_move (v := (.bool (decide ((rmF ((dmF rows6 (!lf7)).getD q []) lf7 : Int) < ((rmF rows6 lf7) - 2))))) rfl) (qbd (p := (rmF ((dmF rows6 (!lf7)).getD q []) lf7 : Int) < ((rmF rows6 lf7) - 2)) (t := 137) rfl (fun h108 => ?_) (fun h108 => ?_)))))))
 refine qs rfl rfl rfl rfl rfl rfl (qs rfl rfl rfl rfl rfl rfl (qs rfl rfl rfl rfl rfl rfl (qd rfl rfl rfl (r_pickT (v := (.bool true)) rfl rfl) (qe (s_then ?_)))))
 refine c_ifT rfl rfl (s_seq (c_reg ?_))
 refine qd rfl rfl rfl (r_assign (v := (.bool false)) rfl) (qe (s_then ?_))
 refine wp_ret (s_ret (c_ret1 (v := (.bool false)) rfl rfl rfl ?_))
 exfalso
 first | omega | simp_all
 refine qdg rfl rfl rfl rfl rfl rfl (r_move (v := (.int .i64 (rmF ((dmF rows6 (!lf7)).getD q []) lf7))) rfl) (qdg rfl rfl rfl rfl rfl rfl (r_move (v := (.int .i64 (rmF rows6 lf7))) rfl) (qdg rfl rfl rfl rfl rfl rfl (r_gtr rfl rfl) (qd rfl rfl rfl (r_pickF (v := (.bool (decide ((rmF rows6 lf7 : Int) < (rmF ((dmF rows6 (!lf7)).getD q []) lf7))))) rfl rfl) (qe (s_then ?_)))))
 refine c_ifd (p := (rmF rows6 lf7 : Int) < (rmF ((dmF rows6 (!lf7)).getD q []) lf7)) rfl rfl (fun h109 => ?_) (fun h109 => ?_)
 refine s_seq (c_reg ?_)
 refine qd rfl rfl rfl (r_assign (v := (.bool false)) rfl) (qe (s_then ?_))
 refine wp_ret (s_ret (c_ret1 (v := (.bool false)) rfl rfl rfl ?_))
 exfalso
 first | omega | simp_all
 refine wp_skip (s_blkN (s_then (c_reg ?_)))
 refine qd rfl rfl rfl (r_move (v := (.int .i64 (q : Int))) rfl) (qd rfl rfl rfl (r_add rfl rfl (by omega)) (qd rfl rfl rfl (r_assign (v := (.int .i64 ((q : Int) + 1))) rfl) (qe (s_lopN (⟨_, ?_, _, rfl, _, q + 1, G103, (packS (x := 16) (packS (x := 15) (packS (x := 14) (packS (x := 9) (pack1 (x := 4) rfl) rfl) rfl) rfl) rfl), rfl, hX106, (Pin.le_trans hlek93 hx105.le), (by omega)⟩)))))
 omega
 refine qs rfl rfl rfl rfl rfl rfl (qs rfl rfl rfl rfl rfl rfl (qs rfl rfl rfl rfl rfl rfl (qs rfl rfl rfl rfl rfl rfl (qd rfl rfl rfl (r_pickT (v := (.bool true)) rfl rfl) (qd rfl rfl rfl (r_move (v := (.bool true)) rfl) (qs rfl rfl rfl rfl rfl rfl (qs rfl rfl rfl rfl rfl rfl (qs rfl rfl rfl rfl rfl rfl (qd rfl rfl rfl (r_pickT (v := (.bool true)) rfl rfl) (qe (s_then ?_)))))))))))
 refine c_ifT rfl rfl (s_seq (c_reg ?_))
 refine qd rfl rfl rfl (r_assign (v := (.bool false)) rfl) (qe (s_then ?_))
 refine wp_ret (s_ret (c_ret1 (v := (.bool false)) rfl rfl rfl ?_))
 exfalso
 first | omega | simp_all
 refine wp_exit (s_thenE (s_lopE (s_blkE (s_then (s_seq (c_reg ?_))))))
 refine qd rfl rfl rfl (r_move (v := (.bool (gbB rows6))) rfl) (qd rfl rfl rfl (r_assign (v := (.bool (gbB rows6))) rfl) (qe (s_then ?_)))
 exact wp_ret (s_ret (c_ret1 (v := (.bool (gbB rows6))) rfl rfl rfl (⟨_, congrArg (fun z => Ending.returned (Value.bool z)) hgb, hX96⟩)))
 refine qs rfl rfl rfl rfl rfl rfl (qs rfl rfl rfl rfl rfl rfl (qs rfl rfl rfl rfl rfl rfl (qs rfl rfl rfl rfl rfl rfl (qd rfl rfl rfl (r_pickF (v := (.bool false)) rfl rfl) (qe (s_then ?_))))))
 refine c_ifF rfl rfl (wp_exit (s_thenE (s_lopE (s_blkE (s_then (s_seq (c_reg ?_)))))))
 refine qd rfl rfl rfl (r_move (v := (.bool (gbB rows6))) rfl) (qd rfl rfl rfl (r_assign (v := (.bool (gbB rows6))) rfl) (qe (s_then ?_)))
 exact wp_ret (s_ret (c_ret1 (v := (.bool (gbB rows6))) rfl rfl rfl (⟨_, congrArg (fun z => Ending.returned (Value.bool z)) hgb, hX96⟩)))
 refine s_seq (c_reg ?_)
 refine qd rfl rfl rfl (r_assign (v := (.bool true)) rfl) (qe (s_then ?_))
 exact wp_ret (s_ret (c_ret1 (v := (.bool true)) rfl rfl rfl (⟨_, rfl, hX52⟩)))

end LRM
end Go.Proofs.YtajkbplgbikgdaaDoor
