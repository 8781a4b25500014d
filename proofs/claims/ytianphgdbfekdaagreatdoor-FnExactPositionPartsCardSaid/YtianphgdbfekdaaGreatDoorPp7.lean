/- Texts of this claim in one file: QS2, Grw, QB3, QF2, QP3, QR3, QR4, LPP. -/
import Derived.Test.YtianphgdbfekdaaGreatDoorPp6
import Derived.Test.YtianphgdbfekdaaGreatDoorChecked
set_option maxRecDepth 20000
set_option maxHeartbeats 2000000
namespace Go.Proofs.YtianphgdbfekdaaGreatDoor
namespace QS2
open Go.RowKit Go.GL Go.Proofs
open PT3 PTB PS9










theorem l1MostQ_spec {w : World} {G : Pin} {x y : Int} (hP : Pins G w) :
  Calls Tryz.prog 97 [(.int .i64 x), (.int .i64 y)].toArray w fun e w' => ∃ G', e = .returned (.int .i64 (max x y)) ∧ Ext noS G w G' w' := by
 refine s_enter (n := 10) Tryz.func97 Tryz.ntmps97 rfl rfl ?_
 have hX0 : Ext noS G w G w := Ext.refl hP
 refine s_seq (c_reg ?_)
 refine qd rfl rfl rfl (r_assign (v := (.int .i64 0)) rfl) (qe (s_then (s_seq (s_seq (c_reg ?_)))))
 refine qd rfl rfl rfl (r_move (v := (.int .i64 x)) rfl) (qd rfl rfl rfl (r_move (v := (.int .i64 y)) rfl) (qd rfl rfl rfl (r_gtr rfl rfl) (qe (s_then ?_))))
 refine c_ifd (p := (y : Int) < x) rfl rfl (fun h1 => ?_) (fun h1 => ?_)
 refine s_seq (c_reg ?_)
 refine qd rfl rfl rfl (r_move (v := (.int .i64 x)) rfl) (qd rfl rfl rfl (r_assign (v := (.int .i64 x)) rfl) (qe (s_then ?_)))
 exact wp_ret (s_ret (c_ret1 (v := (.int .i64 x)) rfl rfl rfl (⟨_, congrArg (fun z => Ending.returned (Value.int .i64 z)) (by omega), hX0⟩)))
 refine wp_skip (s_then (s_seq (c_reg ?_)))
 refine qd rfl rfl rfl (r_move (v := (.int .i64 y)) rfl) (qd rfl rfl rfl (r_assign (v := (.int .i64 y)) rfl) (qe (s_then ?_)))
 exact wp_ret (s_ret (c_ret1 (v := (.int .i64 y)) rfl rfl rfl (⟨_, congrArg (fun z => Ending.returned (Value.int .i64 z)) (by omega), hX0⟩)))

theorem l1LeastQ_spec {w : World} {G : Pin} {x y : Int} (hP : Pins G w) :
  Calls Tryz.prog 98 [(.int .i64 x), (.int .i64 y)].toArray w fun e w' => ∃ G', e = .returned (.int .i64 (min x y)) ∧ Ext noS G w G' w' := by
 refine s_enter (n := 10) Tryz.func98 Tryz.ntmps98 rfl rfl ?_
 have hX0 : Ext noS G w G w := Ext.refl hP
 refine s_seq (c_reg ?_)
 refine qd rfl rfl rfl (r_assign (v := (.int .i64 0)) rfl) (qe (s_then (s_seq (s_seq (c_reg ?_)))))
 refine qd rfl rfl rfl (r_move (v := (.int .i64 x)) rfl) (qd rfl rfl rfl (r_move (v := (.int .i64 y)) rfl) (qd rfl rfl rfl (r_lss rfl rfl) (qe (s_then ?_))))
 refine c_ifd (p := (x : Int) < y) rfl rfl (fun h1 => ?_) (fun h1 => ?_)
 refine s_seq (c_reg ?_)
 refine qd rfl rfl rfl (r_move (v := (.int .i64 x)) rfl) (qd rfl rfl rfl (r_assign (v := (.int .i64 x)) rfl) (qe (s_then ?_)))
 exact wp_ret (s_ret (c_ret1 (v := (.int .i64 x)) rfl rfl rfl (⟨_, congrArg (fun z => Ending.returned (Value.int .i64 z)) (by omega), hX0⟩)))
 refine wp_skip (s_then (s_seq (c_reg ?_)))
 refine qd rfl rfl rfl (r_move (v := (.int .i64 y)) rfl) (qd rfl rfl rfl (r_assign (v := (.int .i64 y)) rfl) (qe (s_then ?_)))
 exact wp_ret (s_ret (c_ret1 (v := (.int .i64 y)) rfl rfl rfl (⟨_, congrArg (fun z => Ending.returned (Value.int .i64 z)) (by omega), hX0⟩)))

theorem l23Over_spec {w : World} {G : Pin} {kd : Int} {t : ByteArray} (hP : Pins G w) (hs : t.size ≤ 1000) (hkd : 0 ≤ kd ∧ kd ≤ 3) :
  Calls Tryz.prog 66 [(.int .i64 kd), (.string t)].toArray w fun e w' => ∃ G', e = .returned (.bool (ovB kd t)) ∧ Ext noS G w G' w' := by
 refine s_enter (n := 17) Tryz.func66 Tryz.ntmps66 rfl rfl ?_
 have hX0 : Ext noS G w G w := Ext.refl hP
 refine s_seq (c_reg ?_)
 refine qd rfl rfl rfl (r_assign (v := (.bool false)) rfl) (qe (s_then (s_seq (c_reg ?_))))
 refine qd rfl rfl rfl (r_move (v := (.int .i64 kd)) rfl) (qd rfl rfl rfl (r_move (v := (.string t)) rfl) (q1 rfl rfl rfl (o_call (vs := [(.int .i64 kd), (.string t), (.bool true)]) Tryz.func55 nm55 rfl rfl rfl ?_)))
 refine Calls.mono (mv23_spec (kind := kd) (s := t) (left := true) hX0.pins (by omega) (by omega)) ?_
 rintro _ w3 ⟨u1, G2, rfl, hr4, hx5⟩
 refine ⟨_, rfl, ?_⟩
 have hX6 := hX0.tr hx5
 refine qd rfl rfl rfl (run_len Tryz.underlying22 (v := u1) rfl hr4) (qd rfl rfl rfl (r_eql rfl rfl) (qd rfl rfl rfl (r_move (v := (.bool (decide ((((stripM kd t true).length : Int) : Int) = 0)))) rfl) (qbd (p := (((stripM kd t true).length : Int) : Int) = 0) (t := 10) rfl (fun h7 => ?_) (fun h7 => ?_))))
 refine qdg rfl rfl rfl rfl rfl rfl (r_move (v := (.int .i64 kd)) rfl) (qdg rfl rfl rfl rfl rfl rfl (r_move (v := (.string t)) rfl) (q1g rfl rfl rfl rfl rfl rfl (o_call (vs := [(.int .i64 kd), (.string t), (.bool false)]) Tryz.func55 nm55 rfl rfl rfl ?_)))
 refine Calls.mono (mv23_spec (kind := kd) (s := t) (left := false) hX6.pins (by omega) (by omega)) ?_
 rintro _ w10 ⟨u8, G9, rfl, hr11, hx12⟩
 refine ⟨_, rfl, ?_⟩
 have hX13 := hX6.tr hx12
 refine qdg rfl rfl rfl rfl rfl rfl (run_len Tryz.underlying22 (v := u8) rfl hr11) (qdg rfl rfl rfl rfl rfl rfl (r_eql rfl rfl) (qd rfl rfl rfl (r_pickT (v := (.bool (decide ((((stripM kd t false).length : Int) : Int) = 0)))) rfl rfl) (qd rfl rfl rfl (r_assign (v := (.bool (decide ((((stripM kd t false).length : Int) : Int) = 0)))) rfl) (qe (s_then ?_)))))
 exact wp_ret (s_ret (c_ret1 (v := (.bool (decide ((((stripM kd t false).length : Int) : Int) = 0)))) rfl rfl rfl (⟨_, congrArg (fun z => Ending.returned (Value.bool z)) (ov_t h7), hX13⟩)))
 refine qs rfl rfl rfl rfl rfl rfl (qs rfl rfl rfl rfl rfl rfl (qs rfl rfl rfl rfl rfl rfl (qs rfl rfl rfl rfl rfl rfl (qs rfl rfl rfl rfl rfl rfl (qd rfl rfl rfl (r_pickF (v := (.bool false)) rfl rfl) (qd rfl rfl rfl (r_assign (v := (.bool false)) rfl) (qe (s_then ?_))))))))
 exact wp_ret (s_ret (c_ret1 (v := (.bool false)) rfl rfl rfl (⟨_, congrArg (fun z => Ending.returned (Value.bool z)) (ov_f h7), hX6⟩)))

theorem l23Raw_spec {w : World} {G : Pin} {kd : Int} {t : ByteArray} (hP : Pins G w) (hs : t.size ≤ 1000) :
  Calls Tryz.prog 65 [(.int .i64 kd), (.string t)].toArray w fun e w' => ∃ (u : Value) (G' : Pin), e = .returned u ∧ RSl eStr G' u (rawK kd t) ∧ Ext noS G w G' w' := by
 refine s_enter (n := 66) Tryz.func65 Tryz.ntmps65 rfl rfl ?_
 have hX0 : Ext noS G w G w := Ext.refl hP
 refine s_seq (c_reg ?_)
 refine qd rfl rfl rfl (r_assign (v := (.slice none 0 0)) rfl) (qe (s_then (s_seq (s_seq (c_reg ?_)))))
 refine qd rfl rfl rfl (r_move (v := (.int .i64 kd)) rfl) (qe (s_then ?_))
 refine s_blk (s_seq (c_reg ?_))
 refine qd rfl rfl rfl (r_eql rfl rfl) (qd rfl rfl rfl (r_assign (v := (.bool (decide ((kd : Int) = 0)))) rfl) (qe (s_then ?_)))
 refine c_ifd (p := (kd : Int) = 0) rfl rfl (fun h1 => ?_) (fun h1 => ?_)
 refine s_seq (c_reg ?_)
 refine qd rfl rfl rfl (r_move (v := (.string t)) rfl) (q1 rfl rfl rfl (o_buildF (E := eStr) (e := 9) [(.string t)] [t] Tryz.underlying22 sz9 zr9 (by exact reps1 (by rfl)) (ones1 (by rfl)) rfl rfl rfl rfl (by decide) hX0.pins (fun u2 w3 ho4 hp5 hl6 hk7 => ?_)))
 have hX8 := hX0.step hp5 hl6
 have ho9 : Own eStr 9 G w3 w.heap.size u2 ([t]) := ho4.weaken hX0.size
 refine qd rfl rfl rfl (r_assign (v := u2) rfl) (qe (s_then ?_))
 refine wp_ret (s_ret (c_ret1 (v := u2) rfl rfl rfl ?_))
 obtain ⟨G10, hle13, hX12, hr11, hf14⟩ := ho9.sealed hX8
 exact ⟨_, _, rfl, (by rw [raw_0 h1]; exact hr11), hX12⟩
 refine s_seq (c_reg ?_)
 refine qd rfl rfl rfl (r_eql rfl rfl) (qd rfl rfl rfl (r_assign (v := (.bool (decide ((kd : Int) = 1)))) rfl) (qe (s_then ?_)))
 refine c_ifd (p := (kd : Int) = 1) rfl rfl (fun h15 => ?_) (fun h15 => ?_)
 refine s_seq (c_reg ?_)
 refine qd rfl rfl rfl (r_move (v := (.string t)) rfl) (q1 rfl rfl rfl (o_call (vs := [(.string t), (.int .u8 46)]) Tryz.func62 nm62 rfl rfl rfl ?_))
 refine Calls.mono (l1Split_spec (s := t) (c := 46) hX0.pins (by omega)) ?_
 rintro _ w18 ⟨u16, G17, rfl, ho19, hx20⟩
 refine ⟨_, rfl, ?_⟩
 have hX21 := hX0.tr hx20
 have ho22 : Own eStr 9 G17 w18 w.heap.size u16 (partsB 46 t) := ho19.weaken hX0.size
 have hm23 := parts_len 46 t
 have hm24 := parts_ne 46 t
 refine qd rfl rfl rfl (r_assign (v := u16) rfl) (qe (s_then ?_))
 refine wp_ret (s_ret (c_ret1 (v := u16) rfl rfl rfl ?_))
 obtain ⟨G25, hle28, hX27, hr26, hf29⟩ := ho22.sealed hX21
 exact ⟨_, _, rfl, (by rw [raw_1 h15]; exact hr26), hX27⟩
 refine wp_skip (s_blkN (s_then (s_seq (c_reg ?_))))
 refine q1 rfl rfl rfl (o_build0 (E := eStr) (e := 9) Tryz.underlying22 sz9 hX0.pins (fun u30 w31 ho32 hp33 hl34 hk35 => ?_))
 have hX36 := hX0.step hp33 hl34
 have ho37 : Own eStr 9 G w31 w.heap.size u30 ([]) := ho32.weaken hX0.size
 refine qd rfl rfl rfl (r_assign (v := u30) rfl) (qe (s_then (s_seq (s_seq (c_reg ?_)))))
 refine qd rfl rfl rfl (r_assign (v := (.int .i64 0)) rfl) (qe (s_then ?_))
 refine s_blk (s_loop (fun (k : Nat) (en : Nat → Value) (W : World) => ∃ (env1 : Nat → Value) (i9 : Nat) (ov : Value) (os : List ByteArray) (GL1 : Pin), en = (upd (upd (upd (upd env1 1 (.string t)) 4 (.slice none 0 0)) 5 ov) 6 (.int .i64 (i9 : Int))) ∧ k = t.size - i9 ∧ Ext noS G w GL1 W ∧ Pin.le G GL1 ∧ (i9 ≤ t.size) ∧ (os = runM (runAt t) i9) ∧ (os.length ≤ i9) ∧ (Own eStr 9 GL1 W w.heap.size ov (os))) _ ⟨_, 0, u30, [], G, (packS (x := 6) (packS (x := 5) (packS (x := 4) (pack1 (x := 1) rfl) rfl) rfl) rfl), rfl, hX36, Pin.le_refl _, Nat.zero_le _, rfl, Nat.le_refl _, ho37⟩ ?_)
 rintro k38 _ w39 ⟨env1, i9, ov, os, GL1, rfl, hk40, hX41, hlek38, hi, hos, hol, hw42⟩
 refine s_seq (s_seq (c_reg ?_))
 refine qd rfl rfl rfl (r_move (v := (.int .i64 (i9 : Int))) rfl) (qd rfl rfl rfl (r_move (v := (.string t)) rfl) (qd rfl rfl rfl (r_lenS Tryz.underlying9 rfl) (qd rfl rfl rfl (r_lss rfl rfl) (qe (s_then ?_)))))
 refine c_ifd (p := ((i9 : Int) : Int) < (t.size : Int)) rfl rfl (fun h43 => ?_) (fun h43 => ?_)
 have hx3 : ((i9 : Int) - 1).toNat = i9 - 1 := by omega
 refine wp_skip (s_then (s_seq ?_))
 refine s_blk (s_seq (s_seq (c_reg ?_)))
 refine qd rfl rfl rfl (r_move (v := (.string t)) rfl) (qd rfl rfl rfl (r_move (v := (.int .i64 (i9 : Int))) rfl) (qd rfl rfl rfl (r_idxB Tryz.underlying9 rfl rfl (by omega) (by omega)) (qd rfl rfl rfl (r_neq rfl rfl) (qd rfl rfl rfl (r_move (v := (.bool (decide ((((sB t i9).toNat : Int) : Int) ≠ 46)))) rfl) (qbd (p := (((sB t i9).toNat : Int) : Int) ≠ 46) (t := 28) rfl (fun h44 => ?_) (fun h44 => ?_))))))
 refine qs rfl rfl rfl rfl rfl rfl (qs rfl rfl rfl rfl rfl rfl (qs rfl rfl rfl rfl rfl rfl (qsu rfl rfl rfl rfl rfl (qsu rfl rfl rfl rfl rfl (qsu rfl rfl rfl rfl rfl (qsu rfl rfl rfl rfl rfl (qsu rfl rfl rfl rfl rfl (qs rfl rfl rfl rfl rfl rfl (qd rfl rfl rfl (r_pickT (v := (.bool true)) rfl rfl) (qe (s_then ?_)))))))))))
 refine c_ifT rfl rfl (wp_exit (s_thenE (s_blkE (s_then (c_reg ?_)))))
 refine qd rfl rfl rfl (r_move (v := (.int .i64 (i9 : Int))) rfl) (qd rfl rfl rfl (r_add rfl rfl (by omega)) (qd rfl rfl rfl (r_assign (v := (.int .i64 ((i9 : Int) + 1))) rfl) (qe (s_lopN (⟨_, ?_, _, rfl, _, i9 + 1, ov, os, GL1, (packS (x := 6) (packS (x := 5) (packS (x := 4) (pack1 (x := 1) rfl) rfl) rfl) rfl), rfl, hX41, hlek38, (by omega), (run_nil hos (run_no1 h44)), (by omega), hw42⟩)))))
 omega
 refine qdg rfl rfl rfl rfl rfl rfl (r_move (v := (.int .i64 (i9 : Int))) rfl) (qdg rfl rfl rfl rfl rfl rfl (r_gtr rfl rfl) (qdg rfl rfl rfl rfl rfl rfl (r_move (v := (.bool (decide ((0 : Int) < (i9 : Int))))) rfl) (qbd (p := (0 : Int) < (i9 : Int)) (t := 31) rfl (fun h45 => ?_) (fun h45 => ?_))))
 refine qdg rfl rfl rfl rfl rfl rfl (r_move (v := (.string t)) rfl) (qdg rfl rfl rfl rfl rfl rfl (r_move (v := (.int .i64 (i9 : Int))) rfl) (qdg rfl rfl rfl rfl rfl rfl (r_sub rfl rfl (by omega)) (qdg rfl rfl rfl rfl rfl rfl (r_idxB Tryz.underlying9 rfl rfl (by omega) (by omega)) (qdg rfl rfl rfl rfl rfl rfl (r_eql rfl rfl) (qdg rfl rfl rfl rfl rfl rfl (r_pickT (v := (.bool (decide ((((sB t ((i9 : Int) - 1).toNat).toNat : Int) : Int) = 46)))) rfl rfl) (qd rfl rfl rfl (r_pickF (v := (.bool (decide ((((sB t ((i9 : Int) - 1).toNat).toNat : Int) : Int) = 46)))) rfl rfl) (qe (s_then ?_))))))))
 refine c_ifd (p := (((sB t ((i9 : Int) - 1).toNat).toNat : Int) : Int) = 46) rfl rfl (fun h46 => ?_) (fun h46 => ?_)
 refine wp_exit (s_thenE (s_blkE (s_then (c_reg ?_))))
 refine qd rfl rfl rfl (r_move (v := (.int .i64 (i9 : Int))) rfl) (qd rfl rfl rfl (r_add rfl rfl (by omega)) (qd rfl rfl rfl (r_assign (v := (.int .i64 ((i9 : Int) + 1))) rfl) (qe (s_lopN (⟨_, ?_, _, rfl, _, i9 + 1, ov, os, GL1, (packS (x := 6) (packS (x := 5) (packS (x := 4) (pack1 (x := 1) rfl) rfl) rfl) rfl), rfl, hX41, hlek38, (by omega), (run_nil hos (run_no2 (by omega) (by have h9 := h46; rwa [hx3] at h9))), (by omega), hw42⟩)))))
 omega
 refine wp_skip (s_then (s_seq (c_reg ?_)))
 refine qd rfl rfl rfl (r_move (v := (.int .i64 (i9 : Int))) rfl) (qd rfl rfl rfl (r_assign (v := (.int .i64 (i9 : Int))) rfl) (qe (s_then (s_seq ?_))))
 refine s_blk (s_loop (fun (k : Nat) (en : Nat → Value) (W : World) => ∃ (env1 : Nat → Value) (e9 : Nat) (GL2 : Pin), en = (upd (upd (upd (upd (upd env1 1 (.string t)) 4 (.slice none 0 0)) 5 ov) 6 (.int .i64 (i9 : Int))) 7 (.int .i64 (e9 : Int))) ∧ k = t.size - e9 ∧ Ext noS G w GL2 W ∧ Pin.le GL1 GL2 ∧ (i9 ≤ e9 ∧ e9 ≤ t.size) ∧ (∀ j, i9 ≤ j → j < e9 → sB t j = 46) ∧ (Own eStr 9 GL2 W w.heap.size ov (os))) _ ⟨_, i9, GL1, (packS (x := 7) (packS (x := 6) (packS (x := 5) (packS (x := 4) (pack1 (x := 1) rfl) rfl) rfl) rfl) rfl), rfl, hX41, Pin.le_refl _, (by omega), (fun j a b => by omega), hw42⟩ ?_)
 rintro k47 _ w48 ⟨env1, e9, GL2, rfl, hk49, hX50, hlek47, hfe, he9, hw51⟩
 refine s_seq (s_seq (c_reg ?_))
 refine qd rfl rfl rfl (r_move (v := (.int .i64 (e9 : Int))) rfl) (qd rfl rfl rfl (r_move (v := (.string t)) rfl) (qd rfl rfl rfl (r_lenS Tryz.underlying9 rfl) (qd rfl rfl rfl (r_lss rfl rfl) (qd rfl rfl rfl (r_move (v := (.bool (decide (((e9 : Int) : Int) < (t.size : Int))))) rfl) (qbd (p := ((e9 : Int) : Int) < (t.size : Int)) (t := 44) rfl (fun h52 => ?_) (fun h52 => ?_))))))
 refine qdg rfl rfl rfl rfl rfl rfl (r_move (v := (.string t)) rfl) (qdg rfl rfl rfl rfl rfl rfl (r_move (v := (.int .i64 (e9 : Int))) rfl) (qdg rfl rfl rfl rfl rfl rfl (r_idxB Tryz.underlying9 rfl rfl (by omega) (by omega)) (qdg rfl rfl rfl rfl rfl rfl (r_eql rfl rfl) (qd rfl rfl rfl (r_pickT (v := (.bool (decide ((((sB t e9).toNat : Int) : Int) = 46)))) rfl rfl) (qe (s_then ?_))))))
 refine c_ifd (p := (((sB t e9).toNat : Int) : Int) = 46) rfl rfl (fun h53 => ?_) (fun h53 => ?_)
 refine wp_skip (s_then (s_blk (c_reg (qd rfl rfl rfl (r_move (v := (.int .i64 (e9 : Int))) rfl) (qd rfl rfl rfl (r_add rfl rfl (by omega)) (qd rfl rfl rfl (r_assign (v := (.int .i64 ((e9 : Int) + 1))) rfl) (qe (s_blkN (s_lopN (⟨_, ?_, _, rfl, _, e9 + 1, GL2, (packS (x := 7) (packS (x := 6) (packS (x := 5) (packS (x := 4) (pack1 (x := 1) rfl) rfl) rfl) rfl) rfl), rfl, hX50, hlek47, (by omega), (fun j a b => if e : j = e9 then e ▸ b46 h53 else he9 j a (by omega)), hw51⟩))))))))))
 omega
 refine wp_exit (s_thenE (s_lopE (s_blkE (s_then (c_reg ?_)))))
 have hen : e9 < t.size → sB t e9 ≠ 46 := fun _ => b46n h53
 have hx1 : (max ((i9 : Int) - 1) 0).toNat = i9 - 1 := by omega
 have hx2 : (min ((e9 : Int) + 1) (t.size : Int)).toNat = min (e9 + 1) t.size := by omega
 refine qd rfl rfl rfl (r_move (v := ov) rfl) (qd rfl rfl rfl (r_move (v := (.string t)) rfl) (qd rfl rfl rfl (r_move (v := (.int .i64 (i9 : Int))) rfl) (qd rfl rfl rfl (r_sub rfl rfl (by omega)) (q1 rfl rfl rfl (o_call (vs := [(.int .i64 ((i9 : Int) - 1)), (.int .i64 0)]) Tryz.func97 nm97 rfl rfl rfl ?_)))))
 refine Calls.mono (l1MostQ_spec (x := ((i9 : Int) - 1)) (y := 0) hX50.pins) ?_
 rintro _ w55 ⟨G54, rfl, hx56⟩
 refine ⟨_, rfl, ?_⟩
 have hX57 := hX50.tr hx56
 have ho58 := hw51.ext hx56
 refine qd rfl rfl rfl (r_move (v := (.int .i64 (e9 : Int))) rfl) (qd rfl rfl rfl (r_add rfl rfl (by omega)) (qd rfl rfl rfl (r_move (v := (.string t)) rfl) (qd rfl rfl rfl (r_lenS Tryz.underlying9 rfl) (q1 rfl rfl rfl (o_call (vs := [(.int .i64 ((e9 : Int) + 1)), (.int .i64 (t.size : Int))]) Tryz.func98 nm98 rfl rfl rfl ?_)))))
 refine Calls.mono (l1LeastQ_spec (x := ((e9 : Int) + 1)) (y := (t.size : Int)) hX57.pins) ?_
 rintro _ w60 ⟨G59, rfl, hx61⟩
 refine ⟨_, rfl, ?_⟩
 have hX62 := hX57.tr hx61
 have ho63 := ho58.ext hx61
 have hm64 : (t.extract (max ((i9 : Int) - 1) 0).toNat (min ((e9 : Int) + 1) (t.size : Int)).toNat).size = min (min ((e9 : Int) + 1) (t.size : Int)).toNat t.size - (max ((i9 : Int) - 1) 0).toNat := ByteArray.size_extract
 refine qd rfl rfl rfl (r_cutB Tryz.underlying9 rfl rfl rfl (by omega) (by omega) (by omega)) (q1 rfl rfl rfl (o_buildF (E := eStr) (e := 9) [(.string (t.extract (max ((i9 : Int) - 1) 0).toNat (min ((e9 : Int) + 1) (t.size : Int)).toNat))] [t.extract (max ((i9 : Int) - 1) 0).toNat (min ((e9 : Int) + 1) (t.size : Int)).toNat] Tryz.underlying22 sz9 zr9 (by exact reps1 (by rfl)) (ones1 (by rfl)) rfl rfl rfl rfl (by decide) hX62.pins (fun u65 w66 ho67 hp68 hl69 hk70 => ?_)))
 have hX71 := hX62.step hp68 hl69
 have ho72 := ho63.below hl69
 have ho74 : Own eStr 9 G59 w66 w.heap.size u65 ([t.extract (max ((i9 : Int) - 1) 0).toNat (min ((e9 : Int) + 1) (t.size : Int)).toNat]) := ho67.weaken hX62.size
 refine q1 rfl rfl rfl (o_append (E := eStr) (v := ov) (u := u65) 16 Tryz.underlying22 ap9 (by decide) rfl rfl hX71.pins ho72 ho74.src (by first | omega | (rw [List.nil_append]; omega) | (rw [List.length_nil]; omega) | (rw [List.length_append]; omega) | (simp; done) | (simp; omega) | (simp only [List.length_cons, List.length_nil]; omega) | (simp only [List.length_append, List.length_cons, List.length_nil]; omega)) (by first | omega | (rw [List.nil_append]; omega) | (rw [List.length_nil]; omega) | (rw [List.length_append]; omega) | (simp; done) | (simp; omega) | (simp only [List.length_cons, List.length_nil]; omega) | (simp only [List.length_append, List.length_cons, List.length_nil]; omega)) (hX71.size) (fun u75 w76 ho77 hp78 hg79 hw80 => ?_))
 have hX81 := hX71.write hp78 hg79 ((lo_own ho72))
 have hm84 : (os ++ ([t.extract (max ((i9 : Int) - 1) 0).toNat (min ((e9 : Int) + 1) (t.size : Int)).toNat])).length = os.length + 1 := List.length_append
 refine qd rfl rfl rfl (r_assign (v := u75) rfl) (qe (s_blkN (s_then (c_reg ?_))))
 refine qd rfl rfl rfl (r_move (v := (.int .i64 (i9 : Int))) rfl) (qd rfl rfl rfl (r_add rfl rfl (by omega)) (qd rfl rfl rfl (r_assign (v := (.int .i64 ((i9 : Int) + 1))) rfl) (qe (s_lopN (⟨_, ?_, _, rfl, _, i9 + 1, u75, os ++ ([t.extract (max ((i9 : Int) - 1) 0).toNat (min ((e9 : Int) + 1) (t.size : Int)).toNat]), G59, (packS (x := 6) (packS (x := 5) (packS (x := 4) (pack1 (x := 1) rfl) rfl) rfl) rfl), rfl, hX81, (Pin.le_trans (Pin.le_trans (Pin.le_trans hlek38 hlek47) hx56.le) hx61.le), (by omega), (by rw [hx1, hx2]; exact run_app hos (run_yes (Decidable.not_not.1 h44) (Or.inr (by have h9 := h46; rwa [hx3] at h9)) hfe.1 hfe.2 he9 hen)), (by simp; omega), ho77⟩)))))
 omega
 refine qs rfl rfl rfl rfl rfl rfl (qs rfl rfl rfl rfl rfl rfl (qs rfl rfl rfl rfl rfl rfl (qs rfl rfl rfl rfl rfl rfl (qd rfl rfl rfl (r_pickF (v := (.bool false)) rfl rfl) (qe (s_then ?_))))))
 refine c_ifF rfl rfl (wp_exit (s_thenE (s_lopE (s_blkE (s_then (c_reg ?_))))))
 have hen : e9 < t.size → sB t e9 ≠ 46 := fun h => absurd h (by omega)
 have hx1 : (max ((i9 : Int) - 1) 0).toNat = i9 - 1 := by omega
 have hx2 : (min ((e9 : Int) + 1) (t.size : Int)).toNat = min (e9 + 1) t.size := by omega
 refine qd rfl rfl rfl (r_move (v := ov) rfl) (qd rfl rfl rfl (r_move (v := (.string t)) rfl) (qd rfl rfl rfl (r_move (v := (.int .i64 (i9 : Int))) rfl) (qd rfl rfl rfl (r_sub rfl rfl (by omega)) (q1 rfl rfl rfl (o_call (vs := [(.int .i64 ((i9 : Int) - 1)), (.int .i64 0)]) Tryz.func97 nm97 rfl rfl rfl ?_)))))
 refine Calls.mono (l1MostQ_spec (x := ((i9 : Int) - 1)) (y := 0) hX50.pins) ?_
 rintro _ w86 ⟨G85, rfl, hx87⟩
 refine ⟨_, rfl, ?_⟩
 have hX88 := hX50.tr hx87
 have ho89 := hw51.ext hx87
 refine qd rfl rfl rfl (r_move (v := (.int .i64 (e9 : Int))) rfl) (qd rfl rfl rfl (r_add rfl rfl (by omega)) (qd rfl rfl rfl (r_move (v := (.string t)) rfl) (qd rfl rfl rfl (r_lenS Tryz.underlying9 rfl) (q1 rfl rfl rfl (o_call (vs := [(.int .i64 ((e9 : Int) + 1)), (.int .i64 (t.size : Int))]) Tryz.func98 nm98 rfl rfl rfl ?_)))))
 refine Calls.mono (l1LeastQ_spec (x := ((e9 : Int) + 1)) (y := (t.size : Int)) hX88.pins) ?_
 rintro _ w91 ⟨G90, rfl, hx92⟩
 refine ⟨_, rfl, ?_⟩
 have hX93 := hX88.tr hx92
 have ho94 := ho89.ext hx92
 have hm95 : (t.extract (max ((i9 : Int) - 1) 0).toNat (min ((e9 : Int) + 1) (t.size : Int)).toNat).size = min (min ((e9 : Int) + 1) (t.size : Int)).toNat t.size - (max ((i9 : Int) - 1) 0).toNat := ByteArray.size_extract
 refine qd rfl rfl rfl (r_cutB Tryz.underlying9 rfl rfl rfl (by omega) (by omega) (by omega)) (q1 rfl rfl rfl (o_buildF (E := eStr) (e := 9) [(.string (t.extract (max ((i9 : Int) - 1) 0).toNat (min ((e9 : Int) + 1) (t.size : Int)).toNat))] [t.extract (max ((i9 : Int) - 1) 0).toNat (min ((e9 : Int) + 1) (t.size : Int)).toNat] Tryz.underlying22 sz9 zr9 (by exact reps1 (by rfl)) (ones1 (by rfl)) rfl rfl rfl rfl (by decide) hX93.pins (fun u96 w97 ho98 hp99 hl100 hk101 => ?_)))
 have hX102 := hX93.step hp99 hl100
 have ho103 := ho94.below hl100
 have ho105 : Own eStr 9 G90 w97 w.heap.size u96 ([t.extract (max ((i9 : Int) - 1) 0).toNat (min ((e9 : Int) + 1) (t.size : Int)).toNat]) := ho98.weaken hX93.size
 refine q1 rfl rfl rfl (o_append (E := eStr) (v := ov) (u := u96) 16 Tryz.underlying22 ap9 (by decide) rfl rfl hX102.pins ho103 ho105.src (by first | omega | (rw [List.nil_append]; omega) | (rw [List.length_nil]; omega) | (rw [List.length_append]; omega) | (simp; done) | (simp; omega) | (simp only [List.length_cons, List.length_nil]; omega) | (simp only [List.length_append, List.length_cons, List.length_nil]; omega)) (by first | omega | (rw [List.nil_append]; omega) | (rw [List.length_nil]; omega) | (rw [List.length_append]; omega) | (simp; done) | (simp; omega) | (simp only [List.length_cons, List.length_nil]; omega) | (simp only [List.length_append, List.length_cons, List.length_nil]; omega)) (hX102.size) (fun u106 w107 ho108 hp109 hg110 hw111 => ?_))
 have hX112 := hX102.write hp109 hg110 ((lo_own ho103))
 have hm115 : (os ++ ([t.extract (max ((i9 : Int) - 1) 0).toNat (min ((e9 : Int) + 1) (t.size : Int)).toNat])).length = os.length + 1 := List.length_append
 refine qd rfl rfl rfl (r_assign (v := u106) rfl) (qe (s_blkN (s_then (c_reg ?_))))
 refine qd rfl rfl rfl (r_move (v := (.int .i64 (i9 : Int))) rfl) (qd rfl rfl rfl (r_add rfl rfl (by omega)) (qd rfl rfl rfl (r_assign (v := (.int .i64 ((i9 : Int) + 1))) rfl) (qe (s_lopN (⟨_, ?_, _, rfl, _, i9 + 1, u106, os ++ ([t.extract (max ((i9 : Int) - 1) 0).toNat (min ((e9 : Int) + 1) (t.size : Int)).toNat]), G90, (packS (x := 6) (packS (x := 5) (packS (x := 4) (pack1 (x := 1) rfl) rfl) rfl) rfl), rfl, hX112, (Pin.le_trans (Pin.le_trans (Pin.le_trans hlek38 hlek47) hx87.le) hx92.le), (by omega), (by rw [hx1, hx2]; exact run_app hos (run_yes (Decidable.not_not.1 h44) (Or.inr (by have h9 := h46; rwa [hx3] at h9)) hfe.1 hfe.2 he9 hen)), (by simp; omega), ho108⟩)))))
 omega
 refine qs rfl rfl rfl rfl rfl rfl (qs rfl rfl rfl rfl rfl rfl (qs rfl rfl rfl rfl rfl rfl (qs rfl rfl rfl rfl rfl rfl (qs rfl rfl rfl rfl rfl rfl (qdg rfl rfl rfl rfl rfl rfl (r_pickF (v := (.bool false)) rfl rfl) (qd rfl rfl rfl (r_pickF (v := (.bool false)) rfl rfl) (qe (s_then ?_))))))))
 refine c_ifF rfl rfl (wp_skip (s_then (s_seq (c_reg ?_))))
 refine qd rfl rfl rfl (r_move (v := (.int .i64 (i9 : Int))) rfl) (qd rfl rfl rfl (r_assign (v := (.int .i64 (i9 : Int))) rfl) (qe (s_then (s_seq ?_))))
 refine s_blk (s_loop (fun (k : Nat) (en : Nat → Value) (W : World) => ∃ (env1 : Nat → Value) (e9 : Nat) (GL2 : Pin), en = (upd (upd (upd (upd (upd env1 1 (.string t)) 4 (.slice none 0 0)) 5 ov) 6 (.int .i64 (i9 : Int))) 7 (.int .i64 (e9 : Int))) ∧ k = t.size - e9 ∧ Ext noS G w GL2 W ∧ Pin.le GL1 GL2 ∧ (i9 ≤ e9 ∧ e9 ≤ t.size) ∧ (∀ j, i9 ≤ j → j < e9 → sB t j = 46) ∧ (Own eStr 9 GL2 W w.heap.size ov (os))) _ ⟨_, i9, GL1, (packS (x := 7) (packS (x := 6) (packS (x := 5) (packS (x := 4) (pack1 (x := 1) rfl) rfl) rfl) rfl) rfl), rfl, hX41, Pin.le_refl _, (by omega), (fun j a b => by omega), hw42⟩ ?_)
 rintro k116 _ w117 ⟨env1, e9, GL2, rfl, hk118, hX119, hlek116, hfe, he9, hw120⟩
 refine s_seq (s_seq (c_reg ?_))
 refine qd rfl rfl rfl (r_move (v := (.int .i64 (e9 : Int))) rfl) (qd rfl rfl rfl (r_move (v := (.string t)) rfl) (qd rfl rfl rfl (r_lenS Tryz.underlying9 rfl) (qd rfl rfl rfl (r_lss rfl rfl) (qd rfl rfl rfl (r_move (v := (.bool (decide (((e9 : Int) : Int) < (t.size : Int))))) rfl) (qbd (p := ((e9 : Int) : Int) < (t.size : Int)) (t := 44) rfl (fun h121 => ?_) (fun h121 => ?_))))))
 refine qdg rfl rfl rfl rfl rfl rfl (r_move (v := (.string t)) rfl) (qdg rfl rfl rfl rfl rfl rfl (r_move (v := (.int .i64 (e9 : Int))) rfl) (qdg rfl rfl rfl rfl rfl rfl (r_idxB Tryz.underlying9 rfl rfl (by omega) (by omega)) (qdg rfl rfl rfl rfl rfl rfl (r_eql rfl rfl) (qd rfl rfl rfl (r_pickT (v := (.bool (decide ((((sB t e9).toNat : Int) : Int) = 46)))) rfl rfl) (qe (s_then ?_))))))
 refine c_ifd (p := (((sB t e9).toNat : Int) : Int) = 46) rfl rfl (fun h122 => ?_) (fun h122 => ?_)
 refine wp_skip (s_then (s_blk (c_reg (qd rfl rfl rfl (r_move (v := (.int .i64 (e9 : Int))) rfl) (qd rfl rfl rfl (r_add rfl rfl (by omega)) (qd rfl rfl rfl (r_assign (v := (.int .i64 ((e9 : Int) + 1))) rfl) (qe (s_blkN (s_lopN (⟨_, ?_, _, rfl, _, e9 + 1, GL2, (packS (x := 7) (packS (x := 6) (packS (x := 5) (packS (x := 4) (pack1 (x := 1) rfl) rfl) rfl) rfl) rfl), rfl, hX119, hlek116, (by omega), (fun j a b => if e : j = e9 then e ▸ b46 h122 else he9 j a (by omega)), hw120⟩))))))))))
 omega
 refine wp_exit (s_thenE (s_lopE (s_blkE (s_then (c_reg ?_)))))
 have hen : e9 < t.size → sB t e9 ≠ 46 := fun _ => b46n h122
 have hx1 : (max ((i9 : Int) - 1) 0).toNat = i9 - 1 := by omega
 have hx2 : (min ((e9 : Int) + 1) (t.size : Int)).toNat = min (e9 + 1) t.size := by omega
 refine qd rfl rfl rfl (r_move (v := ov) rfl) (qd rfl rfl rfl (r_move (v := (.string t)) rfl) (qd rfl rfl rfl (r_move (v := (.int .i64 (i9 : Int))) rfl) (qd rfl rfl rfl (r_sub rfl rfl (by omega)) (q1 rfl rfl rfl (o_call (vs := [(.int .i64 ((i9 : Int) - 1)), (.int .i64 0)]) Tryz.func97 nm97 rfl rfl rfl ?_)))))
 refine Calls.mono (l1MostQ_spec (x := ((i9 : Int) - 1)) (y := 0) hX119.pins) ?_
 rintro _ w124 ⟨G123, rfl, hx125⟩
 refine ⟨_, rfl, ?_⟩
 have hX126 := hX119.tr hx125
 have ho127 := hw120.ext hx125
 refine qd rfl rfl rfl (r_move (v := (.int .i64 (e9 : Int))) rfl) (qd rfl rfl rfl (r_add rfl rfl (by omega)) (qd rfl rfl rfl (r_move (v := (.string t)) rfl) (qd rfl rfl rfl (r_lenS Tryz.underlying9 rfl) (q1 rfl rfl rfl (o_call (vs := [(.int .i64 ((e9 : Int) + 1)), (.int .i64 (t.size : Int))]) Tryz.func98 nm98 rfl rfl rfl ?_)))))
 refine Calls.mono (l1LeastQ_spec (x := ((e9 : Int) + 1)) (y := (t.size : Int)) hX126.pins) ?_
 rintro _ w129 ⟨G128, rfl, hx130⟩
 refine ⟨_, rfl, ?_⟩
 have hX131 := hX126.tr hx130
 have ho132 := ho127.ext hx130
 have hm133 : (t.extract (max ((i9 : Int) - 1) 0).toNat (min ((e9 : Int) + 1) (t.size : Int)).toNat).size = min (min ((e9 : Int) + 1) (t.size : Int)).toNat t.size - (max ((i9 : Int) - 1) 0).toNat := ByteArray.size_extract
 refine qd rfl rfl rfl (r_cutB Tryz.underlying9 rfl rfl rfl (by omega) (by omega) (by omega)) (q1 rfl rfl rfl (o_buildF (E := eStr) (e := 9) [(.string (t.extract (max ((i9 : Int) - 1) 0).toNat (min ((e9 : Int) + 1) (t.size : Int)).toNat))] [t.extract (max ((i9 : Int) - 1) 0).toNat (min ((e9 : Int) + 1) (t.size : Int)).toNat] Tryz.underlying22 sz9 zr9 (by exact reps1 (by rfl)) (ones1 (by rfl)) rfl rfl rfl rfl (by decide) hX131.pins (fun u134 w135 ho136 hp137 hl138 hk139 => ?_)))
 have hX140 := hX131.step hp137 hl138
 have ho141 := ho132.below hl138
 have ho143 : Own eStr 9 G128 w135 w.heap.size u134 ([t.extract (max ((i9 : Int) - 1) 0).toNat (min ((e9 : Int) + 1) (t.size : Int)).toNat]) := ho136.weaken hX131.size
 refine q1 rfl rfl rfl (o_append (E := eStr) (v := ov) (u := u134) 16 Tryz.underlying22 ap9 (by decide) rfl rfl hX140.pins ho141 ho143.src (by first | omega | (rw [List.nil_append]; omega) | (rw [List.length_nil]; omega) | (rw [List.length_append]; omega) | (simp; done) | (simp; omega) | (simp only [List.length_cons, List.length_nil]; omega) | (simp only [List.length_append, List.length_cons, List.length_nil]; omega)) (by first | omega | (rw [List.nil_append]; omega) | (rw [List.length_nil]; omega) | (rw [List.length_append]; omega) | (simp; done) | (simp; omega) | (simp only [List.length_cons, List.length_nil]; omega) | (simp only [List.length_append, List.length_cons, List.length_nil]; omega)) (hX140.size) (fun u144 w145 ho146 hp147 hg148 hw149 => ?_))
 have hX150 := hX140.write hp147 hg148 ((lo_own ho141))
 have hm153 : (os ++ ([t.extract (max ((i9 : Int) - 1) 0).toNat (min ((e9 : Int) + 1) (t.size : Int)).toNat])).length = os.length + 1 := List.length_append
 refine qd rfl rfl rfl (r_assign (v := u144) rfl) (qe (s_blkN (s_then (c_reg ?_))))
 refine qd rfl rfl rfl (r_move (v := (.int .i64 (i9 : Int))) rfl) (qd rfl rfl rfl (r_add rfl rfl (by omega)) (qd rfl rfl rfl (r_assign (v := (.int .i64 ((i9 : Int) + 1))) rfl) (qe (s_lopN (⟨_, ?_, _, rfl, _, i9 + 1, u144, os ++ ([t.extract (max ((i9 : Int) - 1) 0).toNat (min ((e9 : Int) + 1) (t.size : Int)).toNat]), G128, (packS (x := 6) (packS (x := 5) (packS (x := 4) (pack1 (x := 1) rfl) rfl) rfl) rfl), rfl, hX150, (Pin.le_trans (Pin.le_trans (Pin.le_trans hlek38 hlek116) hx125.le) hx130.le), (by omega), (by rw [hx1, hx2]; exact run_app hos (run_yes (Decidable.not_not.1 h44) (Or.inl (by omega)) hfe.1 hfe.2 he9 hen)), (by simp; omega), ho146⟩)))))
 omega
 refine qs rfl rfl rfl rfl rfl rfl (qs rfl rfl rfl rfl rfl rfl (qs rfl rfl rfl rfl rfl rfl (qs rfl rfl rfl rfl rfl rfl (qd rfl rfl rfl (r_pickF (v := (.bool false)) rfl rfl) (qe (s_then ?_))))))
 refine c_ifF rfl rfl (wp_exit (s_thenE (s_lopE (s_blkE (s_then (c_reg ?_))))))
 have hen : e9 < t.size → sB t e9 ≠ 46 := fun h => absurd h (by omega)
 have hx1 : (max ((i9 : Int) - 1) 0).toNat = i9 - 1 := by omega
 have hx2 : (min ((e9 : Int) + 1) (t.size : Int)).toNat = min (e9 + 1) t.size := by omega
 refine qd rfl rfl rfl (r_move (v := ov) rfl) (qd rfl rfl rfl (r_move (v := (.string t)) rfl) (qd rfl rfl rfl (r_move (v := (.int .i64 (i9 : Int))) rfl) (qd rfl rfl rfl (r_sub rfl rfl (by omega)) (q1 rfl rfl rfl (o_call (vs := [(.int .i64 ((i9 : Int) - 1)), (.int .i64 0)]) Tryz.func97 nm97 rfl rfl rfl ?_)))))
 refine Calls.mono (l1MostQ_spec (x := ((i9 : Int) - 1)) (y := 0) hX119.pins) ?_
 rintro _ w155 ⟨G154, rfl, hx156⟩
 refine ⟨_, rfl, ?_⟩
 have hX157 := hX119.tr hx156
 have ho158 := hw120.ext hx156
 refine qd rfl rfl rfl (r_move (v := (.int .i64 (e9 : Int))) rfl) (qd rfl rfl rfl (r_add rfl rfl (by omega)) (qd rfl rfl rfl (r_move (v := (.string t)) rfl) (qd rfl rfl rfl (r_lenS Tryz.underlying9 rfl) (q1 rfl rfl rfl (o_call (vs := [(.int .i64 ((e9 : Int) + 1)), (.int .i64 (t.size : Int))]) Tryz.func98 nm98 rfl rfl rfl ?_)))))
 refine Calls.mono (l1LeastQ_spec (x := ((e9 : Int) + 1)) (y := (t.size : Int)) hX157.pins) ?_
 rintro _ w160 ⟨G159, rfl, hx161⟩
 refine ⟨_, rfl, ?_⟩
 have hX162 := hX157.tr hx161
 have ho163 := ho158.ext hx161
 have hm164 : (t.extract (max ((i9 : Int) - 1) 0).toNat (min ((e9 : Int) + 1) (t.size : Int)).toNat).size = min (min ((e9 : Int) + 1) (t.size : Int)).toNat t.size - (max ((i9 : Int) - 1) 0).toNat := ByteArray.size_extract
 refine qd rfl rfl rfl (r_cutB Tryz.underlying9 rfl rfl rfl (by omega) (by omega) (by omega)) (q1 rfl rfl rfl (o_buildF (E := eStr) (e := 9) [(.string (t.extract (max ((i9 : Int) - 1) 0).toNat (min ((e9 : Int) + 1) (t.size : Int)).toNat))] [t.extract (max ((i9 : Int) - 1) 0).toNat (min ((e9 : Int) + 1) (t.size : Int)).toNat] Tryz.underlying22 sz9 zr9 (by exact reps1 (by rfl)) (ones1 (by rfl)) rfl rfl rfl rfl (by decide) hX162.pins (fun u165 w166 ho167 hp168 hl169 hk170 => ?_)))
 have hX171 := hX162.step hp168 hl169
 have ho172 := ho163.below hl169
 have ho174 : Own eStr 9 G159 w166 w.heap.size u165 ([t.extract (max ((i9 : Int) - 1) 0).toNat (min ((e9 : Int) + 1) (t.size : Int)).toNat]) := ho167.weaken hX162.size
 refine q1 rfl rfl rfl (o_append (E := eStr) (v := ov) (u := u165) 16 Tryz.underlying22 ap9 (by decide) rfl rfl hX171.pins ho172 ho174.src (by first | omega | (rw [List.nil_append]; omega) | (rw [List.length_nil]; omega) | (rw [List.length_append]; omega) | (simp; done) | (simp; omega) | (simp only [List.length_cons, List.length_nil]; omega) | (simp only [List.length_append, List.length_cons, List.length_nil]; omega)) (by first | omega | (rw [List.nil_append]; omega) | (rw [List.length_nil]; omega) | (rw [List.length_append]; omega) | (simp; done) | (simp; omega) | (simp only [List.length_cons, List.length_nil]; omega) | (simp only [List.length_append, List.length_cons, List.length_nil]; omega)) (hX171.size) (fun u175 w176 ho177 hp178 hg179 hw180 => ?_))
 have hX181 := hX171.write hp178 hg179 ((lo_own ho172))
 have hm184 : (os ++ ([t.extract (max ((i9 : Int) - 1) 0).toNat (min ((e9 : Int) + 1) (t.size : Int)).toNat])).length = os.length + 1 := List.length_append
 refine qd rfl rfl rfl (r_assign (v := u175) rfl) (qe (s_blkN (s_then (c_reg ?_))))
 refine qd rfl rfl rfl (r_move (v := (.int .i64 (i9 : Int))) rfl) (qd rfl rfl rfl (r_add rfl rfl (by omega)) (qd rfl rfl rfl (r_assign (v := (.int .i64 ((i9 : Int) + 1))) rfl) (qe (s_lopN (⟨_, ?_, _, rfl, _, i9 + 1, u175, os ++ ([t.extract (max ((i9 : Int) - 1) 0).toNat (min ((e9 : Int) + 1) (t.size : Int)).toNat]), G159, (packS (x := 6) (packS (x := 5) (packS (x := 4) (pack1 (x := 1) rfl) rfl) rfl) rfl), rfl, hX181, (Pin.le_trans (Pin.le_trans (Pin.le_trans hlek38 hlek116) hx156.le) hx161.le), (by omega), (by rw [hx1, hx2]; exact run_app hos (run_yes (Decidable.not_not.1 h44) (Or.inl (by omega)) hfe.1 hfe.2 he9 hen)), (by simp; omega), ho177⟩)))))
 omega
 refine wp_exit (s_thenE (s_lopE (s_blkE (s_then (s_seq (c_reg ?_))))))
 refine qd rfl rfl rfl (r_move (v := ov) rfl) (qd rfl rfl rfl (r_assign (v := ov) rfl) (qe (s_then ?_)))
 refine wp_ret (s_ret (c_ret1 (v := ov) rfl rfl rfl ?_))
 obtain ⟨G185, hle188, hX187, hr186, hf189⟩ := hw42.sealed hX41
 have hin : i9 = t.size := by omega
 subst hin
 exact ⟨_, _, rfl, (by rw [raw_2 h1 h15]; unfold runsM; rw [← hos]; exact hr186), hX187⟩

theorem l23Parts_spec {w : World} {G : Pin} {kd : Int} {t : ByteArray} (hP : Pins G w) (hs : t.size ≤ 1000) (hkd : 0 ≤ kd ∧ kd ≤ 3) :
  Calls Tryz.prog 37 [(.int .i64 kd), (.string t)].toArray w fun e w' => ∃ (u : Value) (G' : Pin), e = .returned u ∧ RSl eStr G' u (spA kd t) ∧ Ext noS G w G' w' := by
 refine s_enter (n := 33) Tryz.func37 Tryz.ntmps37 rfl rfl ?_
 have hX0 : Ext noS G w G w := Ext.refl hP
 have hrl := raw_len (k := kd) (t := t)
 refine s_seq (c_reg ?_)
 refine qd rfl rfl rfl (r_assign (v := (.slice none 0 0)) rfl) (qe (s_then (s_seq (c_reg ?_))))
 refine q1 rfl rfl rfl (o_build0 (E := eStr) (e := 9) Tryz.underlying22 sz9 hX0.pins (fun u1 w2 ho3 hp4 hl5 hk6 => ?_))
 have hX7 := hX0.step hp4 hl5
 have ho8 : Own eStr 9 G w2 w.heap.size u1 ([]) := ho3.weaken hX0.size
 refine qd rfl rfl rfl (r_assign (v := u1) rfl) (qe (s_then (s_seq (c_reg ?_))))
 refine qd rfl rfl rfl (r_move (v := (.int .i64 kd)) rfl) (qd rfl rfl rfl (r_move (v := (.string t)) rfl) (q1 rfl rfl rfl (o_call (vs := [(.int .i64 kd), (.string t)]) Tryz.func65 nm65 rfl rfl rfl ?_)))
 refine Calls.mono (l23Raw_spec (kd := kd) (t := t) hX7.pins (by omega)) ?_
 rintro _ w11 ⟨u9, G10, rfl, hr12, hx13⟩
 refine ⟨_, rfl, ?_⟩
 have hX14 := hX7.tr hx13
 have ho15 := ho8.ext hx13
 refine qd rfl rfl rfl (r_assign (v := u9) rfl) (qe (s_then (s_seq (s_seq (c_reg ?_)))))
 refine qd rfl rfl rfl (r_assign (v := (.int .i64 0)) rfl) (qe (s_then ?_))
 refine s_blk (s_loop (fun (k : Nat) (en : Nat → Value) (W : World) => ∃ (env1 : Nat → Value) (j : Nat) (ov : Value) (os : List ByteArray) (GL1 : Pin), en = (upd (upd (upd (upd (upd env1 0 (.int .i64 kd)) 4 (.slice none 0 0)) 5 ov) 6 u9) 7 (.int .i64 (j : Int))) ∧ k = (rawK kd t).length - j ∧ Ext noS G w GL1 W ∧ Pin.le G10 GL1 ∧ (j ≤ (rawK kd t).length) ∧ (os = ((rawK kd t).take j).filter fun x => !ovB kd x) ∧ (os.length ≤ j) ∧ (Own eStr 9 GL1 W w.heap.size ov (os))) _ ⟨_, 0, u1, [], G10, (packS (x := 7) (packS (x := 6) (packS (x := 5) (packS (x := 4) (pack1 (x := 0) rfl) rfl) rfl) rfl) rfl), rfl, hX14, Pin.le_refl _, Nat.zero_le _, rfl, Nat.le_refl _, ho15⟩ ?_)
 rintro k16 _ w17 ⟨env1, j, ov, os, GL1, rfl, hk18, hX19, hlek16, hj, hos, hol, hw20⟩
 refine s_seq (s_seq (c_reg ?_))
 refine qd rfl rfl rfl (r_move (v := (.int .i64 (j : Int))) rfl) (qd rfl rfl rfl (r_move (v := u9) rfl) (qd rfl rfl rfl (run_len Tryz.underlying22 (v := u9) rfl hr12) (qd rfl rfl rfl (r_lss rfl rfl) (qe (s_then ?_)))))
 refine c_ifd (p := ((j : Int) : Int) < ((rawK kd t).length : Int)) rfl rfl (fun h21 => ?_) (fun h21 => ?_)
 have hrm := raw_mem _ (getD_mem (d := ByteArray.empty) (show j < (rawK kd t).length by omega))
 refine wp_skip (s_then (s_seq ?_))
 refine s_blk (s_seq (c_reg ?_))
 refine qd rfl rfl rfl (r_move (v := (.int .i64 kd)) rfl) (qd rfl rfl rfl (r_move (v := u9) rfl) (qd rfl rfl rfl (r_move (v := (.int .i64 (j : Int))) rfl) (qd rfl rfl rfl (run_idx Tryz.underlying22 sz9 (v := u9) rfl rfl hr12 (by omega) (by omega)) (qd rfl rfl rfl (run_load_str (r := (rawK kd t).getD j ByteArray.empty) rfl ag9 (z := (j : Int)) rfl hr12 (Pins.of_le hX19.pins hlek16) (by omega) (by omega)) (q1 rfl rfl rfl (o_call (vs := [(.int .i64 kd), (.string ((rawK kd t).getD j ByteArray.empty))]) Tryz.func66 nm66 rfl rfl rfl ?_))))))
 refine Calls.mono (l23Over_spec (kd := kd) (t := ((rawK kd t).getD j ByteArray.empty)) hX19.pins (by omega) (by omega)) ?_
 rintro _ w23 ⟨G22, rfl, hx24⟩
 refine ⟨_, rfl, ?_⟩
 have hX25 := hX19.tr hx24
 have ho26 := hw20.ext hx24
 refine qd rfl rfl rfl (r_not rfl) (qe (s_then ?_))
 refine c_ifn rfl rfl (fun h27 => ?_) (fun h27 => ?_)
 refine wp_skip (s_blkN (s_then (c_reg ?_)))
 refine qd rfl rfl rfl (r_move (v := (.int .i64 (j : Int))) rfl) (qd rfl rfl rfl (r_add rfl rfl (by omega)) (qd rfl rfl rfl (r_assign (v := (.int .i64 ((j : Int) + 1))) rfl) (qe (s_lopN (⟨_, ?_, _, rfl, _, j + 1, ov, os, G22, (packS (x := 7) (packS (x := 6) (packS (x := 5) (packS (x := 4) (pack1 (x := 0) rfl) rfl) rfl) rfl) rfl), rfl, hX25, (Pin.le_trans hlek16 hx24.le), (by omega), (fil_n (by omega) hos h27), (by omega), ho26⟩)))))
 omega
 refine c_reg (qd rfl rfl rfl (r_move (v := ov) rfl) (qd rfl rfl rfl (r_move (v := u9) rfl) (qd rfl rfl rfl (r_move (v := (.int .i64 (j : Int))) rfl) (qd rfl rfl rfl (run_idx Tryz.underlying22 sz9 (v := u9) rfl rfl hr12 (by omega) (by omega)) (qd rfl rfl rfl (run_load_str (r := (rawK kd t).getD j ByteArray.empty) rfl ag9 (z := (j : Int)) rfl hr12 (Pins.of_le hX25.pins (Pin.le_trans hlek16 hx24.le)) (by omega) (by omega)) (q1 rfl rfl rfl (o_buildF (E := eStr) (e := 9) [(.string ((rawK kd t).getD j ByteArray.empty))] [(rawK kd t).getD j ByteArray.empty] Tryz.underlying22 sz9 zr9 (by exact reps1 (by rfl)) (ones1 (by rfl)) rfl rfl rfl rfl (by decide) hX25.pins (fun u28 w29 ho30 hp31 hl32 hk33 => ?_))))))))
 have hX34 := hX25.step hp31 hl32
 have ho35 := ho26.below hl32
 have ho37 : Own eStr 9 G22 w29 w.heap.size u28 ([(rawK kd t).getD j ByteArray.empty]) := ho30.weaken hX25.size
 refine q1 rfl rfl rfl (o_append (E := eStr) (v := ov) (u := u28) 16 Tryz.underlying22 ap9 (by decide) rfl rfl hX34.pins ho35 ho37.src (by first | omega | (rw [List.nil_append]; omega) | (rw [List.length_nil]; omega) | (rw [List.length_append]; omega) | (simp; done) | (simp; omega) | (simp only [List.length_cons, List.length_nil]; omega) | (simp only [List.length_append, List.length_cons, List.length_nil]; omega)) (by first | omega | (rw [List.nil_append]; omega) | (rw [List.length_nil]; omega) | (rw [List.length_append]; omega) | (simp; done) | (simp; omega) | (simp only [List.length_cons, List.length_nil]; omega) | (simp only [List.length_append, List.length_cons, List.length_nil]; omega)) (hX34.size) (fun u38 w39 ho40 hp41 hg42 hw43 => ?_))
 have hX44 := hX34.write hp41 hg42 ((lo_own ho35))
 have hm47 : (os ++ ([(rawK kd t).getD j ByteArray.empty])).length = os.length + 1 := List.length_append
 refine qd rfl rfl rfl (r_assign (v := u38) rfl) (qe (s_blkN (s_then (c_reg ?_))))
 refine qd rfl rfl rfl (r_move (v := (.int .i64 (j : Int))) rfl) (qd rfl rfl rfl (r_add rfl rfl (by omega)) (qd rfl rfl rfl (r_assign (v := (.int .i64 ((j : Int) + 1))) rfl) (qe (s_lopN (⟨_, ?_, _, rfl, _, j + 1, u38, os ++ ([(rawK kd t).getD j ByteArray.empty]), G22, (packS (x := 7) (packS (x := 6) (packS (x := 5) (packS (x := 4) (pack1 (x := 0) rfl) rfl) rfl) rfl) rfl), rfl, hX44, (Pin.le_trans hlek16 hx24.le), (by omega), (fil_y (by omega) hos h27), (by simp; omega), ho40⟩)))))
 omega
 refine wp_exit (s_thenE (s_lopE (s_blkE (s_then (s_seq (c_reg ?_))))))
 refine qd rfl rfl rfl (r_move (v := ov) rfl) (qd rfl rfl rfl (r_assign (v := ov) rfl) (qe (s_then ?_)))
 refine wp_ret (s_ret (c_ret1 (v := ov) rfl rfl rfl ?_))
 obtain ⟨G48, hle51, hX50, hr49, hf52⟩ := hw20.sealed hX19
 exact ⟨_, _, rfl, (by unfold spA; rw [← fil_done (by omega) hos]; exact hr49), hX50⟩

end QS2
end Go.Proofs.YtianphgdbfekdaaGreatDoor

namespace Go.GL
open Go Go.RowKit
section
variable {en e lo hi lo2 hi2 : Nat} {G G' : Pin} {w w' : World} {v : Value} {rows : List (List Bool)}
theorem DGrid.read2 (h : DGrid en e G w lo hi v rows) (hP : Pins G w) : ∃ G', Pin.le G G' ∧ Pins G' w ∧ RSl (eSl eBool) G' v rows ∧ ∀ b o x, G' b o x → G b o x ∨ (lo ≤ b ∧ b < hi) := by
 obtain ⟨us, h1, h2, h3, h4, h5⟩ := h.ex
 refine ⟨GLvB (Gadd G w v) w (lvG us rows), Pin.le_trans (Gadd.le _ _ _) GLvB.le, GLvB.pins (Gadd.pins hP v), (h2.read.mono GLvB.le).conv h1.symm rfl fun i u r cs hp hn hr => ?_, fun b o x hx => ?_⟩
 rotate_left
 ·rcases hx with (a | a) | a
  ·exact Or.inl a
  ·exact Or.inr ⟨(h2.lt b a.1).1, h3 b a.1⟩
  ·obtain ⟨⟨p, hp, hk⟩, _⟩ := a
   exact Or.inr ⟨((h4.own p hp).lt b hk).1, h4.hi p hp b hk⟩
 have hm : (u, r) ∈ lvG us rows := List.mem_of_getElem? (i := i) (by unfold lvG; rw [List.getElem?_zip_eq_some]; exact ⟨hp, hn⟩)
 obtain ⟨rfl, _⟩ := hr
 exact ⟨_, rfl, (h4.read hm).mono fun b o u hu => by
   rcases hu with a | a
   ·exact Or.inl (Or.inl a)
   ·exact Or.inr a⟩
theorem DGrid.away (h : DGrid en e G w lo hi v rows) (hl : Pin.le G G') (hf : ∀ b o x, G' b o x → G b o x ∨ (lo2 ≤ b ∧ b < hi2)) (hs : Sep lo hi lo2 hi2) : DGrid en e G' w lo hi v rows := by
 obtain ⟨ps, h1, h2, h3, h4, h5⟩ := h.ex
 unfold Sep at hs
 refine ⟨⟨ps, h1, h2.mono hl fun k hk o x hx => ?_, h3, ⟨fun p hp => (h4.own p hp).mono hl fun k hk o x hx => ?_, h4.hi, h4.ap⟩, h5⟩⟩
 ·exact (hf k o x hx).elim (h2.free k hk o x) fun h9 => by have := h3 k hk; have := (h2.lt k hk).1; omega
 ·exact (hf k o x hx).elim ((h4.own p hp).free k hk o x) fun h9 => by have := h4.hi p hp k hk; have := ((h4.own p hp).lt k hk).1; omega
theorem Ext.low {S : Nat → Prop} {Gx Gy : Pin} (hl : Pin.le G Gx) (h : Ext S Gx w Gy w') : Ext S G w G w' := ⟨Pin.le_refl _, Pins.of_le h.pins (Pin.le_trans hl h.le), fun _ _ _ a => Or.inl a, h.os, h.tape, h.output, h.size, h.block⟩
theorem drew_grown {r : Option Nat} (h : w.drew.grownBy w' r) : w.grownBy w' r := ⟨h.os, h.tape, h.output, h.size, h.block⟩
end
end Go.GL

set_option maxRecDepth 20000
set_option maxHeartbeats 2000000
namespace Go.Proofs.YtianphgdbfekdaaGreatDoor
namespace QB3
open Go.RowKit Go.GL Go.Proofs
open RM5 QS2










theorem pl56 : (Tryz.prog.underlying 56).bind (placesD Tryz.prog) = some [(0, 1)] := by kernel_rfl







theorem l21Trim_spec {w : World} {G : Pin} {v : Value} {rows : List ByteArray} (hP : Pins G w) (hv : RSl eStr G v rows) (g : GbP rows) :
  Calls Tryz.prog 68 [(.agg [v].toArray)].toArray w fun e w' => ∃ (u : Value) (G' : Pin), e = .returned (.agg [u].toArray) ∧ RSl eStr G' u (trM rows) ∧ Ext noS G w G' w' := by
 refine s_enter (n := 80) Tryz.func68 Tryz.ntmps68 rfl rfl ?_
 have hX0 : Ext noS G w G w := Ext.refl hP
 have hm := hv.max
 have ghi := g.hi
 have gwd : 1 ≤ (rows.getD 0 ByteArray.empty).size ∧ (rows.getD 0 ByteArray.empty).size ≤ 8 := g.wd
 have geq : ∀ i, i < rows.length → (rows.getD i ByteArray.empty).size = (rows.getD 0 ByteArray.empty).size := g.eq
 have hcl : (cellsM rows).length = rows.length := cells_len
 have hcw : ∀ i, i < rows.length → ((cellsM rows).getD i []).length = (rows.getD 0 ByteArray.empty).size := fun i hi => cells_wd g hi
 have hc0 := hcw 0 (by omega)
 refine s_seq (c_reg ?_)
 refine q1 rfl rfl rfl (o_box [v] (v := (.agg [v].toArray)) rfl rfl hX0.pins (fun b1 w2 hk3 hb4 hp5 hl6 => ?_))
 have hX7 := hX0.step hp5 hl6
 have hlo8 : w.heap.size ≤ b1 := by have := hX0.size; omega
 obtain ⟨G9, hle10, hX11, hbp12, hf13⟩ := hb4.shut hX7 hlo8
 refine q1 rfl rfl rfl (o_alloc [(.slice none 0 0)] zr56 rfl hX11.pins (fun b14 w15 hk16 hb17 hp18 hl19 => ?_))
 have hX20 := hX11.step hp18 hl19
 have hlo21 : w.heap.size ≤ b14 := by have := hX11.size; omega
 refine qe (s_then (s_seq (c_reg ?_)))
 refine qd rfl rfl rfl (r_ldpA (cs := [v]) ag56 sz56 rfl (fun j u hj => hX20.pins _ _ _ (hbp12 _ _ (by simpa using hj)))) (q1 rfl rfl rfl (o_call (vs := [(.agg [v].toArray)]) Tryz.func64 nm64 rfl rfl rfl ?_))
 refine Calls.mono (cells_spec hX20.pins (hv.mono hle10) g) ?_
 rintro _ w24 ⟨u22, G23, rfl, hd25, hx26⟩
 refine ⟨_, rfl, ?_⟩
 have hX27 := hX20.tr hx26
 have hb28 := hb17.ext hx26
 have hm29 := hd25.max
 refine qd rfl rfl rfl (r_assign (v := u22) rfl) (qe (s_then (s_seq ?_)))
 refine c_draw (S := fun wz => Pins G23 wz) (last := 10) (by kernel_rfl) rfl ?_
 have hl30 : Below w24.heap.size w24 w24.drew := (Below.refl _ _).drew
 have hp31 := hX27.pins.below hl30
 have hX32 := hX27.step hp31 hl30
 have hb33 := hb28.below hl30
 refine dr_take (i := 0) rfl rfl rfl (want_none rfl _) (by kernel_rfl) (fun _ _ => r_move (v := u22) rfl) hX32.pins (dr_take (i := 1) rfl rfl rfl (want_none rfl _) (by kernel_rfl) (fun _ _ => run_len Tryz.underlying80 (v := u22) rfl hd25) hX32.pins (dr_take (i := 2) rfl rfl rfl (want_none rfl _) (by kernel_rfl) (fun _ _ => r_move (v := u22) rfl) hX32.pins (dr_take (i := 3) rfl rfl rfl (want_none rfl _) (by kernel_rfl) (fun _ _ => run_idx Tryz.underlying80 sz82 (v := u22) rfl rfl hd25 (by omega) (by omega)) hX32.pins ?_)))
 obtain ⟨u34, hr35, hl36⟩ := nm_sl (hd25.at (z := 0) (by omega) (by omega)) (j := 0) rfl
 have hm37 := hr35.max
 refine dr_take (i := 4) rfl rfl rfl (want_none rfl _) (by kernel_rfl) (fun _ hS => hl36 ag82 rfl hS) hX32.pins (dr_take (i := 5) rfl rfl rfl (want_none rfl _) (by kernel_rfl) (fun _ _ => run_len Tryz.underlying82 (v := u34) rfl hr35) hX32.pins (dr_take (i := 6) rfl rfl rfl (want_none rfl _) (by kernel_rfl) (fun _ _ => r_assign (v := (.int .i64 ((cellsM rows).length : Int))) rfl) hX32.pins (dr_take (i := 7) rfl rfl rfl (want_none rfl _) (by kernel_rfl) (fun _ _ => r_assign (v := (.int .i64 (-1))) rfl) hX32.pins (dr_take (i := 8) rfl rfl rfl (want_none rfl _) (by kernel_rfl) (fun _ _ => r_assign (v := (.int .i64 (((cellsM rows).getD 0 []).length : Int))) rfl) hX32.pins (dr_take (i := 9) rfl rfl rfl (want_none rfl _) (by kernel_rfl) (fun _ _ => r_assign (v := (.int .i64 (-1))) rfl) hX32.pins (dr_end (by kernel_rfl) (s_then (s_seq (s_seq (c_reg ?_))))))))))
 refine qd rfl rfl rfl (r_assign (v := (.int .i64 0)) rfl) (qe (s_then ?_))
 refine s_blk (s_loop (fun (k : Nat) (en : Nat → Value) (W : World) => ∃ (env1 : Nat → Value) (i : Nat) (r0 : Int) (r1 : Int) (k0 : Int) (k1 : Int) (GL1 : Pin), en = (upd (upd (upd (upd (upd (upd (upd (upd env1 1 (.pointer (some ⟨b1, 0, none⟩))) 2 (.pointer (some ⟨b14, 0, none⟩))) 3 u22) 4 (.int .i64 r0)) 5 (.int .i64 r1)) 6 (.int .i64 k0)) 7 (.int .i64 k1)) 8 (.int .i64 (i : Int))) ∧ k = rows.length - i ∧ Ext noS G w GL1 W ∧ Pin.le G23 GL1 ∧ (i ≤ rows.length) ∧ (BxI rows i 0 ((cellsM rows).length : Int) (((cellsM rows).getD 0 []).length : Int) r0 r1 k0 k1) ∧ (Bx GL1 W b14 [(.slice none 0 0)])) _ ⟨_, 0, ((cellsM rows).length : Int), (-1), (((cellsM rows).getD 0 []).length : Int), (-1), G23, (packS (x := 8) (packS (x := 7) (packS (x := 6) (packS (x := 5) (packS (x := 4) (packS (x := 3) (packS (x := 2) (pack1 (x := 1) rfl) rfl) rfl) rfl) rfl) rfl) rfl) rfl), rfl, hX32, Pin.le_refl _, Nat.zero_le _, bxI_zero, hb33⟩ ?_)
 rintro k38 _ w39 ⟨env1, i, r0, r1, k0, k1, GL1, rfl, hk40, hX41, hlek38, hi, hbx, hw42⟩
 refine s_seq (s_seq (c_reg ?_))
 refine qd rfl rfl rfl (r_move (v := (.int .i64 (i : Int))) rfl) (qd rfl rfl rfl (r_move (v := u22) rfl) (qd rfl rfl rfl (run_len Tryz.underlying80 (v := u22) rfl hd25) (qd rfl rfl rfl (r_lss rfl rfl) (qe (s_then ?_)))))
 refine c_ifd (p := ((i : Int) : Int) < ((cellsM rows).length : Int)) rfl rfl (fun h43 => ?_) (fun h43 => ?_)
 have hci := hcw i (by omega)
 have hri := geq i (by omega)
 refine wp_skip (s_then (s_seq ?_))
 refine s_blk (s_seq (c_reg ?_))
 refine qd rfl rfl rfl (r_assign (v := (.int .i64 0)) rfl) (qe (s_then ?_))
 refine s_blk (s_loop (fun (k : Nat) (en : Nat → Value) (W : World) => ∃ (env1 : Nat → Value) (q9 : Nat) (p0 : Int) (p1 : Int) (m0 : Int) (m1 : Int) (GL2 : Pin), en = (upd (upd (upd (upd (upd (upd (upd (upd (upd env1 1 (.pointer (some ⟨b1, 0, none⟩))) 2 (.pointer (some ⟨b14, 0, none⟩))) 3 u22) 4 (.int .i64 p0)) 5 (.int .i64 p1)) 6 (.int .i64 m0)) 7 (.int .i64 m1)) 8 (.int .i64 (i : Int))) 9 (.int .i64 (q9 : Int))) ∧ k = ((cellsM rows).getD i []).length - q9 ∧ Ext noS G w GL2 W ∧ Pin.le GL1 GL2 ∧ (q9 ≤ ((cellsM rows).getD i []).length) ∧ (BxI rows i q9 ((cellsM rows).length : Int) (((cellsM rows).getD 0 []).length : Int) p0 p1 m0 m1) ∧ (Bx GL2 W b14 [(.slice none 0 0)])) _ ⟨_, 0, r0, r1, k0, k1, GL1, (packS (x := 9) (packS (x := 8) (packS (x := 7) (packS (x := 6) (packS (x := 5) (packS (x := 4) (packS (x := 3) (packS (x := 2) (pack1 (x := 1) rfl) rfl) rfl) rfl) rfl) rfl) rfl) rfl) rfl), rfl, hX41, Pin.le_refl _, Nat.zero_le _, hbx, hw42⟩ ?_)
 rintro k44 _ w45 ⟨env1, q9, p0, p1, m0, m1, GL2, rfl, hk46, hX47, hlek44, hq, hbx2, hw48⟩
 refine s_seq (s_seq (c_reg ?_))
 refine qd rfl rfl rfl (r_move (v := (.int .i64 (q9 : Int))) rfl) (qd rfl rfl rfl (r_move (v := u22) rfl) (qd rfl rfl rfl (r_move (v := (.int .i64 (i : Int))) rfl) (qd rfl rfl rfl (run_idx Tryz.underlying80 sz82 (v := u22) rfl rfl hd25 (by omega) (by omega)) ?_)))
 obtain ⟨u49, hr50, hl51⟩ := nm_sl (hd25.at (z := (i : Int)) (by omega) (by omega)) (j := i) rfl
 have hm52 := hr50.max
 refine qd rfl rfl rfl (hl51 ag82 rfl (Pins.of_le hX47.pins (Pin.le_trans hlek38 hlek44))) (qd rfl rfl rfl (run_len Tryz.underlying82 (v := u49) rfl hr50) (qd rfl rfl rfl (r_lss rfl rfl) (qe (s_then ?_))))
 refine c_ifd (p := ((q9 : Int) : Int) < (((cellsM rows).getD i []).length : Int)) rfl rfl (fun h53 => ?_) (fun h53 => ?_)
 refine wp_skip (s_then (s_seq ?_))
 refine s_blk (s_seq (c_reg ?_))
 refine qd rfl rfl rfl (r_move (v := u22) rfl) (qd rfl rfl rfl (r_move (v := (.int .i64 (i : Int))) rfl) (qd rfl rfl rfl (run_idx Tryz.underlying80 sz82 (v := u22) rfl rfl hd25 (by omega) (by omega)) ?_))
 obtain ⟨u54, hr55, hl56⟩ := nm_sl (hd25.at (z := (i : Int)) (by omega) (by omega)) (j := i) rfl
 have hm57 := hr55.max
 refine qd rfl rfl rfl (hl56 ag82 rfl (Pins.of_le hX47.pins (Pin.le_trans hlek38 hlek44))) (qd rfl rfl rfl (r_move (v := (.int .i64 (q9 : Int))) rfl) (qd rfl rfl rfl (run_idx Tryz.underlying82 sz4 (v := u54) rfl rfl hr55 (by omega) (by omega)) (qd rfl rfl rfl (run_load_bool (r := ((cellsM rows).getD i []).getD q9 false) rfl ag4 (z := (q9 : Int)) rfl hr55 (Pins.of_le hX47.pins (Pin.le_trans hlek38 hlek44)) (by omega) (by omega)) (qe (s_then ?_)))))
 refine c_if rfl rfl (fun h58 => ?_) (fun h58 => ?_)
 refine s_seq (c_reg ?_)
 refine qd rfl rfl rfl (r_move (v := (.int .i64 p0)) rfl) (qd rfl rfl rfl (r_move (v := (.int .i64 (i : Int))) rfl) (q1 rfl rfl rfl (o_call (vs := [(.int .i64 p0), (.int .i64 (i : Int))]) Tryz.func98 nm98 rfl rfl rfl ?_)))
 refine Calls.mono (l1LeastQ_spec (x := p0) (y := (i : Int)) hX47.pins) ?_
 rintro _ w60 ⟨G59, rfl, hx61⟩
 refine ⟨_, rfl, ?_⟩
 have hX62 := hX47.tr hx61
 have hb63 := hw48.ext hx61
 refine qd rfl rfl rfl (r_assign (v := (.int .i64 (min p0 (i : Int)))) rfl) (qe (s_then (s_seq (c_reg ?_))))
 refine qd rfl rfl rfl (r_move (v := (.int .i64 p1)) rfl) (qd rfl rfl rfl (r_move (v := (.int .i64 (i : Int))) rfl) (q1 rfl rfl rfl (o_call (vs := [(.int .i64 p1), (.int .i64 (i : Int))]) Tryz.func97 nm97 rfl rfl rfl ?_)))
 refine Calls.mono (l1MostQ_spec (x := p1) (y := (i : Int)) hX62.pins) ?_
 rintro _ w65 ⟨G64, rfl, hx66⟩
 refine ⟨_, rfl, ?_⟩
 have hX67 := hX62.tr hx66
 have hb68 := hb63.ext hx66
 refine qd rfl rfl rfl (r_assign (v := (.int .i64 (max p1 (i : Int)))) rfl) (qe (s_then (s_seq (c_reg ?_))))
 refine qd rfl rfl rfl (r_move (v := (.int .i64 m0)) rfl) (qd rfl rfl rfl (r_move (v := (.int .i64 (q9 : Int))) rfl) (q1 rfl rfl rfl (o_call (vs := [(.int .i64 m0), (.int .i64 (q9 : Int))]) Tryz.func98 nm98 rfl rfl rfl ?_)))
 refine Calls.mono (l1LeastQ_spec (x := m0) (y := (q9 : Int)) hX67.pins) ?_
 rintro _ w70 ⟨G69, rfl, hx71⟩
 refine ⟨_, rfl, ?_⟩
 have hX72 := hX67.tr hx71
 have hb73 := hb68.ext hx71
 refine qd rfl rfl rfl (r_assign (v := (.int .i64 (min m0 (q9 : Int)))) rfl) (qe (s_then (c_reg ?_)))
 refine qd rfl rfl rfl (r_move (v := (.int .i64 m1)) rfl) (qd rfl rfl rfl (r_move (v := (.int .i64 (q9 : Int))) rfl) (q1 rfl rfl rfl (o_call (vs := [(.int .i64 m1), (.int .i64 (q9 : Int))]) Tryz.func97 nm97 rfl rfl rfl ?_)))
 refine Calls.mono (l1MostQ_spec (x := m1) (y := (q9 : Int)) hX72.pins) ?_
 rintro _ w75 ⟨G74, rfl, hx76⟩
 refine ⟨_, rfl, ?_⟩
 have hX77 := hX72.tr hx76
 have hb78 := hb73.ext hx76
 refine qd rfl rfl rfl (r_assign (v := (.int .i64 (max m1 (q9 : Int)))) rfl) (qe (s_blkN (s_then (c_reg ?_))))
 refine qd rfl rfl rfl (r_move (v := (.int .i64 (q9 : Int))) rfl) (qd rfl rfl rfl (r_add rfl rfl (by omega)) (qd rfl rfl rfl (r_assign (v := (.int .i64 ((q9 : Int) + 1))) rfl) (qe (s_lopN (⟨_, ?_, _, rfl, _, q9 + 1, min p0 (i : Int), max p1 (i : Int), min m0 (q9 : Int), max m1 (q9 : Int), G74, (packS (x := 9) (packS (x := 8) (packS (x := 7) (packS (x := 6) (packS (x := 5) (packS (x := 4) (packS (x := 3) (packS (x := 2) (pack1 (x := 1) rfl) rfl) rfl) rfl) rfl) rfl) rfl) rfl) rfl), rfl, hX77, (Pin.le_trans (Pin.le_trans (Pin.le_trans (Pin.le_trans hlek44 hx61.le) hx66.le) hx71.le) hx76.le), (by omega), (bxI_yes hbx2 (by rw [← cell_fr g (by omega) (by show q9 < (rows.getD 0 ByteArray.empty).size; omega)]; exact h58) (by omega) (by omega)), hb78⟩)))))
 omega
 refine wp_skip (s_blkN (s_then (c_reg ?_)))
 refine qd rfl rfl rfl (r_move (v := (.int .i64 (q9 : Int))) rfl) (qd rfl rfl rfl (r_add rfl rfl (by omega)) (qd rfl rfl rfl (r_assign (v := (.int .i64 ((q9 : Int) + 1))) rfl) (qe (s_lopN (⟨_, ?_, _, rfl, _, q9 + 1, p0, p1, m0, m1, GL2, (packS (x := 9) (packS (x := 8) (packS (x := 7) (packS (x := 6) (packS (x := 5) (packS (x := 4) (packS (x := 3) (packS (x := 2) (pack1 (x := 1) rfl) rfl) rfl) rfl) rfl) rfl) rfl) rfl) rfl), rfl, hX47, hlek44, (by omega), (bxI_no hbx2 (by rw [← cell_fr g (by omega) (by show q9 < (rows.getD 0 ByteArray.empty).size; omega)]; exact h58)), hw48⟩)))))
 omega
 refine wp_exit (s_thenE (s_lopE (s_blkE (s_blkN (s_then (c_reg ?_))))))
 refine qd rfl rfl rfl (r_move (v := (.int .i64 (i : Int))) rfl) (qd rfl rfl rfl (r_add rfl rfl (by omega)) (qd rfl rfl rfl (r_assign (v := (.int .i64 ((i : Int) + 1))) rfl) (qe (s_lopN (⟨_, ?_, _, rfl, _, i + 1, p0, p1, m0, m1, GL2, (packS (x := 8) (packS (x := 7) (packS (x := 6) (packS (x := 5) (packS (x := 4) (packS (x := 3) (packS (x := 2) (pack1 (x := 1) rfl) rfl) rfl) rfl) rfl) rfl) rfl) rfl), rfl, hX47, (Pin.le_trans hlek38 hlek44), (by omega), (bxI_row hbx2 (K := (rows.getD i ByteArray.empty).size) (by omega) (fun q hq => fr_lt hq)), hw48⟩)))))
 omega
 refine wp_exit (s_thenE (s_lopE (s_blkE (s_then (s_seq (s_seq (c_reg ?_)))))))
 refine qd rfl rfl rfl (r_move (v := (.int .i64 r1)) rfl) (qd rfl rfl rfl (r_lss rfl rfl) (qe (s_then ?_)))
 refine c_ifd (p := (r1 : Int) < 0) rfl rfl (fun h79 => ?_) (fun h79 => ?_)
 refine s_seq (c_reg ?_)
 refine q1 rfl rfl rfl (o_buildF (E := eStr) (e := 9) [(.string (⟨#[35]⟩ : ByteArray))] [(⟨#[35]⟩ : ByteArray)] Tryz.underlying22 sz9 zr9 (by exact reps1 (by rfl)) (ones1 (by rfl)) rfl rfl rfl rfl (by decide) hX41.pins (fun u80 w81 ho82 hp83 hl84 hk85 => ?_))
 have hX86 := hX41.step hp83 hl84
 have hb87 := hw42.below hl84
 have ha88 : Apart u80.ownBlock (some b14) := new_ne_box hk85 hw42.lt
 have ho89 : Own eStr 9 GL1 w81 w.heap.size u80 ([(⟨#[35]⟩ : ByteArray)]) := ho82.weaken hX41.size
 refine qd rfl rfl rfl (r_build [(.slice none 0 0)] [u80] [(0, u80, [u80])] Tryz.underlying56 zr56 rfl pl56 rfl (List.forall_mem_cons.2 ⟨(cells_one ho89.one), (fun _ h => by cases h)⟩) rfl) (q0 rfl rfl rfl (o_stp (cs' := [u80]) (us := [u80]) (v := (.agg [u80].toArray)) sz56 rfl rfl rfl (ones1 ho89.one) hX86.pins hb87 (Nat.le_of_ble_eq_true rfl) rfl (fun w90 hb91 hp92 hg93 hz94 => ?_)))
 have hX95 := hX86.write hp92 hg93 ((lo_box hlo21))
 have ho96 := ho89.keptA hg93 ha88
 refine qe (s_then ?_)
 refine wp_ret (s_ret (c_retc (cs := [u80]) rfl rfl rfl ag56 sz56 (fun j u hj => by rw [Nat.zero_add]; exact hb91.cell hj) ?_))
 obtain ⟨G97, hle100, hX99, hr98, hf101⟩ := ho96.sealed hX95
 exact ⟨_, _, rfl, (by rw [bxI_none hbx (by omega) h79]; exact hr98), hX99⟩
 refine wp_skip (s_then (s_seq (c_reg ?_)))
 obtain ⟨a9, b9, c9, d9, e1, e2, e3, e4, hbox⟩ := bxI_box hbx (by omega) h79
 subst e1 e2 e3 e4
 have hbi := box_in g hbox
 have hb2 : b9 < rows.length := hbi.2.1
 have hdw : d9 < (rows.getD 0 ByteArray.empty).size := hbi.2.2.2
 have hcl9 := cut_len (rows := rows) (a := a9) hb2
 refine qd rfl rfl rfl (r_build [(.slice none 0 0)] [(.slice none 0 0)] [] Tryz.underlying56 zr56 rfl pl56 rfl (fun _ h => by cases h) rfl) (q1 rfl rfl rfl (o_alloc [(.slice none 0 0)] zr56 rfl hX41.pins (fun b103 w104 hk105 hb106 hp107 hl108 => ?_)))
 have hX109 := hX41.step hp107 hl108
 have hb110 := hw42.below hl108
 have ha111 : Apart (some b103) (some b14) := new_ne_box (congrArg some hk105) hw42.lt
 have hlo112 : w.heap.size ≤ b103 := by have := hX41.size; omega
 refine q0 rfl rfl rfl (o_stp (cs' := [(.slice none 0 0)]) (us := [(.slice none 0 0)]) (v := (.agg [(.slice none 0 0)].toArray)) sz56 rfl rfl rfl (ones1 (by rfl)) hX109.pins hb106 (Nat.le_of_ble_eq_true rfl) rfl (fun w113 hb114 hp115 hg116 hz117 => ?_))
 have hX118 := hX109.write hp115 hg116 ((lo_box hlo112))
 have hb119 := hb110.keptA hg116 ha111.symm
 refine qe (s_then (s_seq (s_seq (c_reg ?_))))
 refine qd rfl rfl rfl (r_move (v := (.int .i64 (a9 : Int))) rfl) (qd rfl rfl rfl (r_assign (v := (.int .i64 (a9 : Int))) rfl) (qe (s_then ?_)))
 refine s_blk (s_loop (fun (k : Nat) (en : Nat → Value) (W : World) => ∃ (env1 : Nat → Value) (j : Nat) (ov : Value) (os : List ByteArray) (GL3 : Pin), en = (upd (upd (upd (upd (upd (upd (upd env1 1 (.pointer (some ⟨b1, 0, none⟩))) 2 (.pointer (some ⟨b14, 0, none⟩))) 5 (.int .i64 (b9 : Int))) 6 (.int .i64 (c9 : Int))) 7 (.int .i64 (d9 : Int))) 10 (.pointer (some ⟨b103, 0, none⟩))) 11 (.int .i64 ((a9 : Int) + (j : Int)))) ∧ k = b9 + 1 - a9 - j ∧ Ext noS G w GL3 W ∧ Pin.le GL1 GL3 ∧ (j ≤ b9 + 1 - a9) ∧ (os = (((rows.take (b9 + 1)).drop a9).take j).map (fun x : ByteArray => x.extract c9 (d9 + 1))) ∧ (os.length = j) ∧ (Own eStr 9 GL3 W w.heap.size ov (os)) ∧ (Bx GL3 W b14 [(.slice none 0 0)]) ∧ (Bx GL3 W b103 [ov]) ∧ (Apart ov.ownBlock (some b14)) ∧ (Apart ov.ownBlock (some b103))) _ ⟨_, 0, (.slice none 0 0), [], GL1, (packS (x := 11) (packS (x := 10) (packS (x := 7) (packS (x := 6) (packS (x := 5) (packS (x := 2) (pack1 (x := 1) rfl) rfl) rfl) rfl) rfl) rfl) rfl), rfl, hX118, Pin.le_refl _, Nat.zero_le _, rfl, rfl, (Own.nil _ _ _ _ _), hb119, hb114, apart_none, apart_none⟩ ?_)
 rintro k120 _ w121 ⟨env1, j, ov, os, GL3, rfl, hk122, hX123, hlek120, hj, hos, hol, hw124, hw125, hw126, ha127, ha128⟩
 refine s_seq (s_seq (c_reg ?_))
 refine qd rfl rfl rfl (r_move (v := (.int .i64 ((a9 : Int) + (j : Int)))) rfl) (qd rfl rfl rfl (r_move (v := (.int .i64 (b9 : Int))) rfl) (qd rfl rfl rfl (r_leq rfl rfl) (qe (s_then ?_))))
 refine c_ifd (p := ((a9 : Int) + (j : Int) : Int) ≤ (b9 : Int)) rfl rfl (fun h129 => ?_) (fun h129 => ?_)
 have hca := cutM_at (rows := rows) (a := a9) (j := j) hb2 (by omega)
 have hcn : ((a9 : Int) + (j : Int)).toNat = a9 + j := by omega
 have hcz : (rows.getD ((a9 : Int) + (j : Int)).toNat ByteArray.empty).size = (rows.getD 0 ByteArray.empty).size := by rw [hcn]; exact geq _ (by omega)
 refine wp_skip (s_then (s_seq ?_))
 refine s_blk (c_draw (S := fun wz => BxR wz b103 [ov] ∧ Pins GL3 wz) (last := 14) (by kernel_rfl) rfl ?_)
 have hl130 : Below w121.heap.size w121 w121.drew := (Below.refl _ _).drew
 have hp131 := hX123.pins.below hl130
 have hX132 := hX123.step hp131 hl130
 have ho133 := hw124.below hl130
 have hb134 := hw125.below hl130
 have hb135 := hw126.below hl130
 refine dr_take (i := 0) rfl rfl rfl (want_none rfl _) (by kernel_rfl) (fun _ _ => r_fldp (k := 0) rfl Tryz.underlying56 rfl nz22 rfl) ⟨hb135.reads, hX132.pins⟩ (dr_take (i := 1) rfl rfl rfl (want_none rfl _) (by kernel_rfl) (fun _ hS => r_ldp1 (u := ov) ag22 rfl (hS.1 0 _ rfl)) ⟨hb135.reads, hX132.pins⟩ (dr_take (i := 2) rfl rfl rfl (want_none rfl _) (by kernel_rfl) (fun _ _ => r_fldp (k := 0) rfl Tryz.underlying56 rfl nz22 rfl) ⟨hb135.reads, hX132.pins⟩ (dr_take (i := 3) rfl rfl rfl (want_none rfl _) (by kernel_rfl) (fun _ hS => r_ldp1 (u := v) ag22 rfl ((Pins.of_le hS.2 (Pin.le_trans (Pin.le_trans hx26.le hlek38) hlek120)) _ _ _ (hbp12 0 _ rfl))) ⟨hb135.reads, hX132.pins⟩ (dr_take (i := 4) rfl rfl rfl (want_none rfl _) (by kernel_rfl) (fun _ _ => r_move (v := (.int .i64 ((a9 : Int) + (j : Int)))) rfl) ⟨hb135.reads, hX132.pins⟩ (dr_take (i := 5) rfl rfl rfl (want_none rfl _) (by kernel_rfl) (fun _ _ => run_idx Tryz.underlying22 sz9 (v := v) rfl rfl hv (by omega) (by omega)) ⟨hb135.reads, hX132.pins⟩ (dr_take (i := 6) rfl rfl rfl (want_none rfl _) (by kernel_rfl) (fun _ hS => run_load_str (r := rows.getD ((a9 : Int) + (j : Int)).toNat ByteArray.empty) rfl ag9 (z := ((a9 : Int) + (j : Int))) rfl hv (Pins.of_le hS.2 (Pin.le_trans (Pin.le_trans (Pin.le_trans hle10 hx26.le) hlek38) hlek120)) (by omega) (by omega)) ⟨hb135.reads, hX132.pins⟩ (dr_take (i := 7) rfl rfl rfl (want_none rfl _) (by kernel_rfl) (fun _ _ => r_move (v := (.int .i64 (c9 : Int))) rfl) ⟨hb135.reads, hX132.pins⟩ (dr_take (i := 8) rfl rfl rfl (want_none rfl _) (by kernel_rfl) (fun _ _ => r_move (v := (.int .i64 (d9 : Int))) rfl) ⟨hb135.reads, hX132.pins⟩ (dr_take (i := 9) rfl rfl rfl (want_none rfl _) (by kernel_rfl) (fun _ _ => r_add rfl rfl (by omega)) ⟨hb135.reads, hX132.pins⟩ ?_)))))))))
 have hm136 : ((rows.getD ((a9 : Int) + (j : Int)).toNat ByteArray.empty).extract c9 ((d9 : Int) + 1).toNat).size = min ((d9 : Int) + 1).toNat (rows.getD ((a9 : Int) + (j : Int)).toNat ByteArray.empty).size - c9 := ByteArray.size_extract
 refine dr_take (i := 10) rfl rfl rfl (want_none rfl _) (by kernel_rfl) (fun _ _ => r_cutB Tryz.underlying9 rfl rfl rfl (by omega) (by omega) (by omega)) ⟨hb135.reads, hX132.pins⟩ (dr_one (i := 11) (by kernel_rfl) (drOp1 (i := 11) rfl rfl rfl (want_none rfl _) (o_buildF (E := eStr) (e := 9) [(.string ((rows.getD ((a9 : Int) + (j : Int)).toNat ByteArray.empty).extract c9 ((d9 : Int) + 1).toNat))] [(rows.getD ((a9 : Int) + (j : Int)).toNat ByteArray.empty).extract c9 ((d9 : Int) + 1).toNat] Tryz.underlying22 sz9 zr9 (by exact reps1 (by rfl)) (ones1 (by rfl)) rfl rfl rfl rfl (by decide) hX132.pins (fun u137 w138 ho139 hp140 hl141 hk142 => ?_))))
 have hX143 := hX132.step hp140 hl141
 have ho144 := ho133.below hl141
 have hb145 := hb134.below hl141
 have hb146 := hb135.below hl141
 have ho150 : Own eStr 9 GL3 w138 w.heap.size u137 ([(rows.getD ((a9 : Int) + (j : Int)).toNat ByteArray.empty).extract c9 ((d9 : Int) + 1).toNat]) := ho139.weaken hX132.size
 refine ⟨fun _ => ⟨hb146.reads, hX143.pins⟩, ?_⟩
 refine dr_one (i := 12) (by kernel_rfl) (drOp1 (i := 12) rfl rfl rfl (want_none rfl _) (o_append (E := eStr) (v := ov) (u := u137) 16 Tryz.underlying22 ap9 (by decide) rfl rfl hX143.pins ho144 ho150.src (by first | omega | (rw [List.nil_append]; omega) | (rw [List.length_nil]; omega) | (rw [List.length_append]; omega) | (simp; done) | (simp; omega) | (simp only [List.length_cons, List.length_nil]; omega) | (simp only [List.length_append, List.length_cons, List.length_nil]; omega)) (by first | omega | (rw [List.nil_append]; omega) | (rw [List.length_nil]; omega) | (rw [List.length_append]; omega) | (simp; done) | (simp; omega) | (simp only [List.length_cons, List.length_nil]; omega) | (simp only [List.length_append, List.length_cons, List.length_nil]; omega)) (hX143.size) (fun u151 w152 ho153 hp154 hg155 hw156 => ?_)))
 have hX157 := hX143.write hp154 hg155 ((lo_own ho144))
 have hb159 := hb145.keptA hg155 ha127.symm
 have hb160 := hb146.keptA hg155 ha128.symm
 have ha162 : Apart (some b14) u151.ownBlock := app_ne_box ha127.symm hw156 hb145.lt
 have ha163 : Apart (some b103) u151.ownBlock := app_ne_box ha128.symm hw156 hb146.lt
 have hm164 : (os ++ ([(rows.getD ((a9 : Int) + (j : Int)).toNat ByteArray.empty).extract c9 ((d9 : Int) + 1).toNat])).length = os.length + 1 := List.length_append
 refine ⟨fun _ => ⟨hb160.reads, hX157.pins⟩, ?_⟩
 refine dr_take (i := 13) rfl rfl rfl (want_none rfl _) (by kernel_rfl) (fun _ _ => r_fldp (k := 0) rfl Tryz.underlying56 rfl nz22 rfl) ⟨hb160.reads, hX157.pins⟩ (dr_one (i := 14) (by kernel_rfl) (drOp0 (i := 14) rfl rfl rfl (want_none rfl _) (o_stp (cs' := [u151]) (us := [u151]) (v := u151) sz22 rfl rfl (cells1 ho153.one) (ones1 ho153.one) hX157.pins hb160 (Nat.le_of_ble_eq_true rfl) rfl (fun w165 hb166 hp167 hg168 hz169 => ?_))))
 have hX170 := hX157.write hp167 hg168 ((lo_box hlo112))
 have ho171 := ho153.keptA hg168 ha163.symm
 have hb172 := hb159.keptA hg168 ha111.symm
 refine ⟨fun h => absurd rfl h, ?_⟩
 refine dr_end (by kernel_rfl) (s_blkN (s_then (c_reg ?_)))
 refine qd rfl rfl rfl (r_move (v := (.int .i64 ((a9 : Int) + (j : Int)))) rfl) (qd rfl rfl rfl (r_add rfl rfl (by omega)) (qd rfl rfl rfl (r_assign (v := (.int .i64 (((a9 : Int) + (j : Int)) + 1))) rfl) (qe (s_lopN (⟨_, ?_, _, rfl, _, j + 1, u151, os ++ ([(rows.getD ((a9 : Int) + (j : Int)).toNat ByteArray.empty).extract c9 ((d9 : Int) + 1).toNat]), GL3, (packS (x := 11) (packS (x := 10) (packS (x := 7) (packS (x := 6) (packS (x := 5) (packS (x := 2) (pack1 (x := 1) rfl) rfl) rfl) rfl) rfl) rfl) rfl), rfl, hX170, hlek120, (by omega), (by rw [hos, show ((d9 : Int) + 1).toNat = d9 + 1 by omega, hcn, ← hca.1]; exact cut_take hca.2), (by simp [hol]), ho171, hb172, hb166, ha162.symm, ha163.symm⟩)))))
 omega
 refine wp_exit (s_thenE (s_lopE (s_blkE (s_then (s_seq (c_reg ?_))))))
 refine qd rfl rfl rfl (r_ldpA (cs := [ov]) ag56 sz56 rfl (fun j u hj => hw126.cell (by simpa using hj))) (q0 rfl rfl rfl (o_stp (cs' := [ov]) (us := [ov]) (v := (.agg [ov].toArray)) sz56 rfl rfl rfl (ones1 hw124.one) hX123.pins hw125 (Nat.le_of_ble_eq_true rfl) rfl (fun w173 hb174 hp175 hg176 hz177 => ?_)))
 have hX178 := hX123.write hp175 hg176 ((lo_box hlo21))
 have ho179 := hw124.keptA hg176 ha127
 refine qe (s_then ?_)
 refine wp_ret (s_ret (c_retc (cs := [ov]) rfl rfl rfl ag56 sz56 (fun j u hj => by rw [Nat.zero_add]; exact hb174.cell hj) ?_))
 obtain ⟨G181, hle184, hX183, hr182, hf185⟩ := ho179.sealed hX178
 exact ⟨_, _, rfl, (by rw [trM_of hbox]; unfold cutM; rw [← map_done (by omega) hos]; exact hr182), hX183⟩

end QB3
end Go.Proofs.YtianphgdbfekdaaGreatDoor

set_option maxRecDepth 20000
set_option maxHeartbeats 2000000
namespace Go.Proofs.YtianphgdbfekdaaGreatDoor
namespace QF2
open Go.RowKit Go.GL Go.Proofs
open PT3 PTB







theorem isG_spec {w : World} {G : Pin} {v : Value} {rows : List ByteArray} {C : List (List Bool)} {a b : Int} (hP : Pins G w) (hv : RSl (eSl eBool) G v C) (g : GbP rows) (hgc : GmP rows C) :
  Calls Tryz.prog 70 [v, (.int .i64 a), (.int .i64 b)].toArray w fun e w' => ∃ G', e = .returned (.bool (gI C a b)) ∧ Ext noS G w G' w' := by
 refine s_enter (n := 30) Tryz.func70 Tryz.ntmps70 rfl rfl ?_
 have hX0 : Ext noS G w G w := Ext.refl hP
 have hcl := hgc.len
 have ghi := g.hi
 have gwd : 1 ≤ (rows.getD 0 ByteArray.empty).size ∧ (rows.getD 0 ByteArray.empty).size ≤ 8 := g.wd
 have hc0 : (C.getD 0 []).length = (rows.getD 0 ByteArray.empty).size := hgc.row 0 (by omega)
 have hcr : 0 ≤ a → a < rows.length → (C.getD a.toNat []).length = (rows.getD 0 ByteArray.empty).size := fun h1 h2 => hgc.row _ (by omega)
 refine s_seq (c_reg ?_)
 refine qd rfl rfl rfl (r_assign (v := (.bool false)) rfl) (qe (s_then (s_seq (c_reg ?_))))
 refine qd rfl rfl rfl (r_move (v := (.int .i64 a)) rfl) (qd rfl rfl rfl (r_move (v := v) rfl) (qd rfl rfl rfl (run_len Tryz.underlying80 (v := v) rfl hv) (qd rfl rfl rfl (r_sub rfl rfl (by omega)) (q1 rfl rfl rfl (o_call (vs := [(.int .i64 a), (.int .i64 0), (.int .i64 ((C.length : Int) - 1))]) Tryz.func36 nm36 rfl rfl rfl ?_)))))
 refine Calls.mono (l1InQ_spec hX0.pins) ?_
 rintro _ w2 ⟨G1, rfl, hx3⟩
 refine ⟨_, rfl, ?_⟩
 have hX4 := hX0.tr hx3
 refine qd rfl rfl rfl (r_move (v := (.bool (decide ((0 : Int) ≤ a ∧ (a : Int) ≤ ((C.length : Int) - 1))))) rfl) (qbd (p := ((0 : Int) ≤ a ∧ (a : Int) ≤ ((C.length : Int) - 1))) (t := 12) rfl (fun h5 => ?_) (fun h5 => ?_))
 refine qdg rfl rfl rfl rfl rfl rfl (r_move (v := (.int .i64 b)) rfl) (qdg rfl rfl rfl rfl rfl rfl (r_move (v := v) rfl) (qdg rfl rfl rfl rfl rfl rfl (run_idx Tryz.underlying80 sz82 (v := v) rfl rfl hv (by omega) (by omega)) ?_))
 obtain ⟨u6, hr7, hl8⟩ := nm_sl (hv.at (z := 0) (by omega) (by omega)) (j := 0) rfl
 have hm9 := hr7.max
 refine qdg rfl rfl rfl rfl rfl rfl (hl8 ag82 rfl (Pins.of_le hX4.pins hx3.le)) (qdg rfl rfl rfl rfl rfl rfl (run_len Tryz.underlying82 (v := u6) rfl hr7) (qdg rfl rfl rfl rfl rfl rfl (r_sub rfl rfl (by omega)) (q1g rfl rfl rfl rfl rfl rfl (o_call (vs := [(.int .i64 b), (.int .i64 0), (.int .i64 (((C.getD 0 []).length : Int) - 1))]) Tryz.func36 nm36 rfl rfl rfl ?_))))
 refine Calls.mono (l1InQ_spec hX4.pins) ?_
 rintro _ w11 ⟨G10, rfl, hx12⟩
 refine ⟨_, rfl, ?_⟩
 have hX13 := hX4.tr hx12
 refine qd rfl rfl rfl (r_pickT (v := (.bool (decide ((0 : Int) ≤ b ∧ (b : Int) ≤ (((C.getD 0 []).length : Int) - 1))))) rfl rfl) (qd rfl rfl rfl (r_move (v := (.bool (decide ((0 : Int) ≤ b ∧ (b : Int) ≤ (((C.getD 0 []).length : Int) - 1))))) rfl) (qbd (p := ((0 : Int) ≤ b ∧ (b : Int) ≤ (((C.getD 0 []).length : Int) - 1))) (t := 21) rfl (fun h14 => ?_) (fun h14 => ?_)))
 refine qdg rfl rfl rfl rfl rfl rfl (r_move (v := v) rfl) (qdg rfl rfl rfl rfl rfl rfl (r_move (v := (.int .i64 a)) rfl) ?_)
 try have hcr2 := hcr (by omega) (by omega)
 refine qdg rfl rfl rfl rfl rfl rfl (run_idx Tryz.underlying80 sz82 (v := v) rfl rfl hv (by omega) (by omega)) ?_
 obtain ⟨u15, hr16, hl17⟩ := nm_sl (hv.at (z := a) (by omega) (by omega)) (j := (a).toNat) rfl
 have hm18 := hr16.max
 refine qdg rfl rfl rfl rfl rfl rfl (hl17 ag82 rfl (Pins.of_le hX13.pins (Pin.le_trans hx3.le hx12.le))) (qdg rfl rfl rfl rfl rfl rfl (r_move (v := (.int .i64 b)) rfl) (qdg rfl rfl rfl rfl rfl rfl (run_idx Tryz.underlying82 sz4 (v := u15) rfl rfl hr16 (by omega) (by omega)) (qdg rfl rfl rfl rfl rfl rfl (run_load_bool (r := (C.getD (a).toNat []).getD (b).toNat false) rfl ag4 (z := b) rfl hr16 (Pins.of_le hX13.pins (Pin.le_trans hx3.le hx12.le)) (by omega) (by omega)) (qd rfl rfl rfl (r_pickT (v := (.bool ((C.getD (a).toNat []).getD (b).toNat false))) rfl rfl) (qd rfl rfl rfl (r_assign (v := (.bool ((C.getD (a).toNat []).getD (b).toNat false))) rfl) (qe (s_then ?_)))))))
 exact wp_ret (s_ret (c_ret1 (v := (.bool ((C.getD (a).toNat []).getD (b).toNat false))) rfl rfl rfl (⟨_, congrArg (fun z => Ending.returned (Value.bool z)) (gI_in (by omega) (by omega)), hX13⟩)))
 refine qs rfl rfl rfl rfl rfl rfl (qs rfl rfl rfl rfl rfl rfl ?_)
 try have hcr2 := hcr (by omega) (by omega)
 refine qs rfl rfl rfl rfl rfl rfl (qs rfl rfl rfl rfl rfl rfl (qs rfl rfl rfl rfl rfl rfl (qs rfl rfl rfl rfl rfl rfl (qs rfl rfl rfl rfl rfl rfl (qd rfl rfl rfl (r_pickF (v := (.bool false)) rfl rfl) (qd rfl rfl rfl (r_assign (v := (.bool false)) rfl) (qe (s_then ?_))))))))
 exact wp_ret (s_ret (c_ret1 (v := (.bool false)) rfl rfl rfl (⟨_, congrArg (fun z => Ending.returned (Value.bool z)) (gI_out hgc (by first | omega | (intro h9; have h8 := h9.2.2; have h7 : b < ((rows.getD 0 ByteArray.empty).size : Int) := h8; omega))), hX13⟩)))
 refine qs rfl rfl rfl rfl rfl rfl (qs rfl rfl rfl rfl rfl rfl (qs rfl rfl rfl rfl rfl rfl (qs rfl rfl rfl rfl rfl rfl (qs rfl rfl rfl rfl rfl rfl (qs rfl rfl rfl rfl rfl rfl (qs rfl rfl rfl rfl rfl rfl (qd rfl rfl rfl (r_pickF (v := (.bool false)) rfl rfl) (qd rfl rfl rfl (r_move (v := (.bool false)) rfl) (qs rfl rfl rfl rfl rfl rfl (qs rfl rfl rfl rfl rfl rfl ?_))))))))))
 try have hcr2 := hcr (by omega) (by omega)
 refine qs rfl rfl rfl rfl rfl rfl (qs rfl rfl rfl rfl rfl rfl (qs rfl rfl rfl rfl rfl rfl (qs rfl rfl rfl rfl rfl rfl (qs rfl rfl rfl rfl rfl rfl (qd rfl rfl rfl (r_pickF (v := (.bool false)) rfl rfl) (qd rfl rfl rfl (r_assign (v := (.bool false)) rfl) (qe (s_then ?_))))))))
 exact wp_ret (s_ret (c_ret1 (v := (.bool false)) rfl rfl rfl (⟨_, congrArg (fun z => Ending.returned (Value.bool z)) (gI_out hgc (by first | omega | (intro h9; have h8 := h9.2.2; have h7 : b < ((rows.getD 0 ByteArray.empty).size : Int) := h8; omega))), hX4⟩)))

def growP (m : Nat) (rows : List ByteArray) (C : List (List Bool)) : Prop := ∀ {w : World} {G : Pin} {v u : Value} {lo hi : Nat} {M : List (List Bool)} {a b : Int}, Pins G w → RSl (eSl eBool) G v C → DGrid 82 4 G w lo hi u M → hi ≤ w.heap.size → GmP rows M → (-2 ≤ a ∧ a ≤ 10) ∧ (-2 ≤ b ∧ b ≤ 10) → cntF M < m → Calls Tryz.prog 67 [v, u, (.int .i64 a), (.int .i64 b)].toArray w fun e w' => e = .returned (.tuple #[]) ∧ ∃ M', DGrid 82 4 G w' lo hi u M' ∧ FldP (fun r c => gI C r c = true) M a b M' ∧ Ext (inR lo hi) G w G w'

theorem grow_step {w : World} {G : Pin} {v u : Value} {lo hi : Nat} {M : List (List Bool)} {a b : Int} {m : Nat} {rows : List ByteArray} {C : List (List Bool)} (hP : Pins G w) (hv : RSl (eSl eBool) G v C) (hd : DGrid 82 4 G w lo hi u M) (hsz : hi ≤ w.heap.size) (hgm : GmP rows M) (hab : (-2 ≤ a ∧ a ≤ 10) ∧ (-2 ≤ b ∧ b ≤ 10)) (g : GbP rows) (hgc : GmP rows C) (ih : growP m rows C) (hm9 : cntF M < m + 1) :
  Calls Tryz.prog 67 [v, u, (.int .i64 a), (.int .i64 b)].toArray w fun e w' => e = .returned (.tuple #[]) ∧ ∃ M', DGrid 82 4 G w' lo hi u M' ∧ FldP (fun r c => gI C r c = true) M a b M' ∧ Ext (inR lo hi) G w G w' := by
 refine s_enter (n := 52) Tryz.func67 Tryz.ntmps67 rfl rfl ?_
 have hX0 : Ext (inR lo hi) G w G w := Ext.refl hP
 have hgl := hgm.len
 have ghi := g.hi
 have gwd : 1 ≤ (rows.getD 0 ByteArray.empty).size ∧ (rows.getD 0 ByteArray.empty).size ≤ 8 := g.wd
 refine s_seq (s_seq (c_reg ?_))
 refine qd rfl rfl rfl (r_move (v := v) rfl) (qd rfl rfl rfl (r_move (v := (.int .i64 a)) rfl) (qd rfl rfl rfl (r_move (v := (.int .i64 b)) rfl) (q1 rfl rfl rfl (o_call (vs := [v, (.int .i64 a), (.int .i64 b)]) Tryz.func70 nm70 rfl rfl rfl ?_))))
 refine Calls.mono (isG_spec (rows := rows) (a := a) (b := b) hX0.pins hv g hgc) ?_
 rintro _ w2 ⟨G1, rfl, hx3⟩
 refine ⟨_, rfl, ?_⟩
 have hX4 := hX0.tr hx3
 have hd5 := hd.ext hx3
 have hs6 := Nat.le_trans hsz hx3.size
 refine qd rfl rfl rfl (r_not rfl) (qd rfl rfl rfl (r_move (v := (.bool (!(gI C a b)))) rfl) (qbn (t := 13) rfl (fun h7 => ?_) (fun h7 => ?_)))
 refine qdg rfl rfl rfl rfl rfl rfl (r_move (v := u) rfl) (qdg rfl rfl rfl rfl rfl rfl (r_move (v := (.int .i64 a)) rfl) ?_)
 have hrg9 := gI_rng hgc h7
 obtain ⟨r9, rfl⟩ : ∃ n : Nat, a = (n : Int) := ⟨a.toNat, by omega⟩
 obtain ⟨c9, rfl⟩ : ∃ n : Nat, b = (n : Int) := ⟨b.toNat, by omega⟩
 have hr9 : r9 < rows.length := by omega
 have hc9 : c9 < (rows.getD 0 ByteArray.empty).size := by have h9 := hrg9.2.2; have h8 : (c9 : Int) < ((rows.getD 0 ByteArray.empty).size : Int) := h9; omega
 have hmr : (M.getD r9 []).length = (rows.getD 0 ByteArray.empty).size := hgm.row r9 hr9
 obtain ⟨us8, hul9, ho10, ho11, hrg12, hst13, hap14, hrg15⟩ := hd5.leaf2 (i := r9) (by omega)
 have hlo16 : Lo w ((inR lo hi)) (us8.getD r9 default).ownBlock := fun k hk => Or.inr (hrg12 k hk)
 have hm18 : us8.length = M.length := hul9
 refine qdg rfl rfl rfl rfl rfl rfl (run_idx Tryz.underlying80 sz82 (v := u) rfl rfl ho10.read (by omega) (by omega)) ?_
 obtain ⟨cs19, hrep20, hagg21, hcell22⟩ := nm_el (j := r9) default (ho10.at (z := (r9 : Int)) (by omega) (by omega)) rfl
 obtain ⟨rfl, hone25⟩ := hrep20
 refine qdg rfl rfl rfl rfl rfl rfl (hcell22 0 (us8.getD r9 default) (by rw [show (us8.getD r9 default) = (us8.getD r9 default) from rfl]; rfl) ag82 rfl (Gadd.pins hX4.pins u)) (qdg rfl rfl rfl rfl rfl rfl (r_move (v := (.int .i64 (c9 : Int))) rfl) (qdg rfl rfl rfl rfl rfl rfl (run_idx Tryz.underlying82 sz4 (v := (us8.getD r9 default)) rfl rfl ho11.read (by omega) (by omega)) (qdg rfl rfl rfl rfl rfl rfl (run_load_bool (r := (M.getD r9 []).getD c9 false) rfl ag4 (z := (c9 : Int)) rfl ho11.read (Gadd.pins hX4.pins (us8.getD r9 default)) (by omega) (by omega)) (qd rfl rfl rfl (r_pickF (v := (.bool ((M.getD r9 []).getD c9 false))) rfl rfl) (qe (s_then ?_))))))
 refine c_if rfl rfl (fun h26 => ?_) (fun h26 => ?_)
 exact wp_ret (s_ret (c_ret0 rfl (⟨rfl, _, hd5.anti hx3.le, fl_mk (by rw [gI_nat]; exact h26), hX4.shrink⟩)))
 refine wp_skip (s_then (s_seq (c_reg ?_)))
 refine qd rfl rfl rfl (r_move (v := u) rfl) (qd rfl rfl rfl (r_move (v := (.int .i64 (r9 : Int))) rfl) (qd rfl rfl rfl (run_idx Tryz.underlying80 sz82 (v := u) rfl rfl ho10.read (by omega) (by omega)) ?_))
 obtain ⟨cs27, hrep28, hagg29, hcell30⟩ := nm_el (j := r9) default (ho10.at (z := (r9 : Int)) (by omega) (by omega)) rfl
 obtain ⟨rfl, hone33⟩ := hrep28
 refine qd rfl rfl rfl (hcell30 0 (us8.getD r9 default) (by rw [show (us8.getD r9 default) = (us8.getD r9 default) from rfl]; rfl) ag82 rfl (Gadd.pins hX4.pins u)) (qd rfl rfl rfl (r_move (v := (.int .i64 (c9 : Int))) rfl) (qd rfl rfl rfl (run_idx Tryz.underlying82 sz4 (v := (us8.getD r9 default)) rfl rfl ho11.read (by omega) (by omega)) (q0 rfl rfl rfl (o_set (E := eBool) (v := (us8.getD r9 default)) (u := (.bool true)) (z := (c9 : Int)) (true) sz4 rfl rfl rfl rfl hX4.pins ho11 (by omega) (by omega) (fun w34 ho35 hp36 hg37 hz38 => ?_)))))
 have hX39 := hX4.write hp36 hg37 (hlo16)
 refine qe (s_then (s_seq (c_reg ?_)))
 have hd41 : DGrid 82 4 G1 w34 lo hi u (setT M r9 c9) := hst13 ho35 hg37
 have hs42 := Nat.le_trans hs6 hg37.size
 have hgm0 := hgm.same (setT_shape M r9 c9)
 have hct := cntF_set (M := M) (r := r9) (c := c9) (by omega) (by omega) h26
 refine qd rfl rfl rfl (r_move (v := v) rfl) (qd rfl rfl rfl (r_move (v := u) rfl) (qd rfl rfl rfl (r_move (v := (.int .i64 (r9 : Int))) rfl) (qd rfl rfl rfl (r_sub rfl rfl (by omega)) (qd rfl rfl rfl (r_move (v := (.int .i64 (c9 : Int))) rfl) (q1 rfl rfl rfl (o_call (vs := [v, u, (.int .i64 ((r9 : Int) - 1)), (.int .i64 (c9 : Int))]) Tryz.func67 nm67 rfl rfl rfl ?_))))))
 refine Calls.mono (ih (a := ((r9 : Int) - 1)) (b := (c9 : Int)) hX39.pins (hv.mono hx3.le) hd41 hs42 hgm0 (by omega) (by omega)) ?_
 rintro _ w47 ⟨rfl, M43, hd44, hfl45, hx46⟩
 refine ⟨_, rfl, ?_⟩
 have hs48 := Nat.le_trans hs42 hx46.size
 have hgm49 := hgm0.same hfl45.sh
 have hcn50 := hfl45.less
 have hX51 := hX39.trans hx46 (fun i hi => Or.inr hi)
 refine qe (s_then (s_seq (c_reg ?_)))
 refine qd rfl rfl rfl (r_move (v := v) rfl) (qd rfl rfl rfl (r_move (v := u) rfl) (qd rfl rfl rfl (r_move (v := (.int .i64 (r9 : Int))) rfl) (qd rfl rfl rfl (r_add rfl rfl (by omega)) (qd rfl rfl rfl (r_move (v := (.int .i64 (c9 : Int))) rfl) (q1 rfl rfl rfl (o_call (vs := [v, u, (.int .i64 ((r9 : Int) + 1)), (.int .i64 (c9 : Int))]) Tryz.func67 nm67 rfl rfl rfl ?_))))))
 refine Calls.mono (ih (a := ((r9 : Int) + 1)) (b := (c9 : Int)) hX51.pins (hv.mono hx3.le) hd44 hs48 hgm49 (by omega) (by omega)) ?_
 rintro _ w56 ⟨rfl, M52, hd53, hfl54, hx55⟩
 refine ⟨_, rfl, ?_⟩
 have hs57 := Nat.le_trans hs48 hx55.size
 have hgm58 := hgm49.same hfl54.sh
 have hcn59 := hfl54.less
 have hX60 := hX51.trans hx55 (fun i hi => Or.inr hi)
 refine qe (s_then (s_seq (c_reg ?_)))
 refine qd rfl rfl rfl (r_move (v := v) rfl) (qd rfl rfl rfl (r_move (v := u) rfl) (qd rfl rfl rfl (r_move (v := (.int .i64 (r9 : Int))) rfl) (qd rfl rfl rfl (r_move (v := (.int .i64 (c9 : Int))) rfl) (qd rfl rfl rfl (r_sub rfl rfl (by omega)) (q1 rfl rfl rfl (o_call (vs := [v, u, (.int .i64 (r9 : Int)), (.int .i64 ((c9 : Int) - 1))]) Tryz.func67 nm67 rfl rfl rfl ?_))))))
 refine Calls.mono (ih (a := (r9 : Int)) (b := ((c9 : Int) - 1)) hX60.pins (hv.mono hx3.le) hd53 hs57 hgm58 (by omega) (by omega)) ?_
 rintro _ w65 ⟨rfl, M61, hd62, hfl63, hx64⟩
 refine ⟨_, rfl, ?_⟩
 have hs66 := Nat.le_trans hs57 hx64.size
 have hgm67 := hgm58.same hfl63.sh
 have hcn68 := hfl63.less
 have hX69 := hX60.trans hx64 (fun i hi => Or.inr hi)
 refine qe (s_then (c_reg ?_))
 refine qd rfl rfl rfl (r_move (v := v) rfl) (qd rfl rfl rfl (r_move (v := u) rfl) (qd rfl rfl rfl (r_move (v := (.int .i64 (r9 : Int))) rfl) (qd rfl rfl rfl (r_move (v := (.int .i64 (c9 : Int))) rfl) (qd rfl rfl rfl (r_add rfl rfl (by omega)) (q1 rfl rfl rfl (o_call (vs := [v, u, (.int .i64 (r9 : Int)), (.int .i64 ((c9 : Int) + 1))]) Tryz.func67 nm67 rfl rfl rfl ?_))))))
 refine Calls.mono (ih (a := (r9 : Int)) (b := ((c9 : Int) + 1)) hX69.pins (hv.mono hx3.le) hd62 hs66 hgm67 (by omega) (by omega)) ?_
 rintro _ w74 ⟨rfl, M70, hd71, hfl72, hx73⟩
 refine ⟨_, rfl, ?_⟩
 have hs75 := Nat.le_trans hs66 hx73.size
 have hgm76 := hgm67.same hfl72.sh
 have hcn77 := hfl72.less
 have hX78 := hX69.trans hx73 (fun i hi => Or.inr hi)
 exact qe (s_fin (c_end0 rfl (⟨rfl, _, hd71.anti hx3.le, fl_go (by omega) (by omega) h7 hfl45 hfl54 hfl63 hfl72, hX78.shrink⟩)))
 refine qs rfl rfl rfl rfl rfl rfl (qs rfl rfl rfl rfl rfl rfl (qs rfl rfl rfl rfl rfl rfl (qs rfl rfl rfl rfl rfl rfl (qs rfl rfl rfl rfl rfl rfl (qs rfl rfl rfl rfl rfl rfl (qs rfl rfl rfl rfl rfl rfl (qd rfl rfl rfl (r_pickT (v := (.bool true)) rfl rfl) (qe (s_then ?_)))))))))
 exact c_ifT rfl rfl (wp_ret (s_ret (c_ret0 rfl (⟨rfl, _, hd5.anti hx3.le, fl_no (by show ¬ (gI C a b = true); rw [h7]; decide), hX4.shrink⟩))))

theorem grow_all {rows : List ByteArray} {C : List (List Bool)} (g : GbP rows) (hgc : GmP rows C) : ∀ m, growP m rows C
 | 0 => fun _ _ _ _ _ _ h => absurd h (Nat.not_lt_zero _)
 | m + 1 => fun hP hv hd hsz hgm hab h => grow_step hP hv hd hsz hgm hab g hgc (grow_all g hgc m) h
theorem grow_spec {w : World} {G : Pin} {v u : Value} {lo hi : Nat} {M : List (List Bool)} {a b : Int} {rows : List ByteArray} {C : List (List Bool)} (g : GbP rows) (hgc : GmP rows C) (hP : Pins G w) (hv : RSl (eSl eBool) G v C) (hd : DGrid 82 4 G w lo hi u M) (hsz : hi ≤ w.heap.size) (hgm : GmP rows M) (hab : (-2 ≤ a ∧ a ≤ 10) ∧ (-2 ≤ b ∧ b ≤ 10)) :
  Calls Tryz.prog 67 [v, u, (.int .i64 a), (.int .i64 b)].toArray w fun e w' => e = .returned (.tuple #[]) ∧ ∃ M', DGrid 82 4 G w' lo hi u M' ∧ FldP (fun r c => gI C r c = true) M a b M' ∧ Ext (inR lo hi) G w G w' := grow_all g hgc (cntF M + 1) hP hv hd hsz hgm hab (Nat.lt_succ_self _)

end QF2
end Go.Proofs.YtianphgdbfekdaaGreatDoor

set_option maxRecDepth 20000
set_option maxHeartbeats 2000000
namespace Go.Proofs.YtianphgdbfekdaaGreatDoor
namespace QP3
open Go.RowKit Go.GL Go.Proofs
open RM5 QB3 QF2





theorem mk4 : (Tryz.prog.info? 4).map (fun i => (i.size, i.bytes, i.zero)) = some (1, 1, some (.bool false)) := by kernel_rfl









theorem l21Parts_spec {w : World} {G : Pin} {v : Value} {rows : List ByteArray} (hP : Pins G w) (hv : RSl eStr G v rows) (g : GbP rows) :
  Calls Tryz.prog 39 [(.agg [v].toArray)].toArray w fun e w' => ∃ (u : Value) (G' : Pin), e = .returned u ∧ RSl (eSl eStr) G' u (bpM rows) ∧ Ext noS G w G' w' := by
 refine s_enter (n := 103) Tryz.func39 Tryz.ntmps39 rfl rfl ?_
 have hX0 : Ext noS G w G w := Ext.refl hP
 have hm := hv.max
 have ghi := g.hi
 have gwd : 1 ≤ (rows.getD 0 ByteArray.empty).size ∧ (rows.getD 0 ByteArray.empty).size ≤ 8 := g.wd
 have geq : ∀ i, i < rows.length → (rows.getD i ByteArray.empty).size = (rows.getD 0 ByteArray.empty).size := g.eq
 refine s_seq (c_reg ?_)
 refine q1 rfl rfl rfl (o_box [v] (v := (.agg [v].toArray)) rfl rfl hX0.pins (fun b1 w2 hk3 hb4 hp5 hl6 => ?_))
 have hX7 := hX0.step hp5 hl6
 have hlo8 : w.heap.size ≤ b1 := by have := hX0.size; omega
 obtain ⟨G9, hle10, hX11, hbp12, hf13⟩ := hb4.shut hX7 hlo8
 refine qd rfl rfl rfl (r_assign (v := (.slice none 0 0)) rfl) (qe (s_then (s_seq (c_reg ?_))))
 refine q1 rfl rfl rfl (o_build0 (E := (eSl eStr)) (e := 56) Tryz.underlying66 sz56 hX11.pins (fun u14 w15 ho16 hp17 hl18 hk19 => ?_))
 have hX20 := hX11.step hp17 hl18
 have ho21 : Own (eSl eStr) 56 G9 w15 w.heap.size u14 ([]) := ho16.weaken hX11.size
 refine qd rfl rfl rfl (r_assign (v := u14) rfl) (qe (s_then (s_seq (c_reg ?_))))
 refine qd rfl rfl rfl (r_ldpA (cs := [v]) ag56 sz56 rfl (fun j u hj => hX20.pins _ _ _ (hbp12 _ _ (by simpa using hj)))) (q1 rfl rfl rfl (o_call (vs := [(.agg [v].toArray)]) Tryz.func64 nm64 rfl rfl rfl ?_))
 refine Calls.mono (cells_dspec hX20.pins (hv.mono hle10) g) ?_
 rintro _ w24 ⟨u22, G23, rfl, hd25, hx26⟩
 refine ⟨_, rfl, ?_⟩
 have hao28 : ∀ k, u14.ownBlock = some k → k < w15.heap.size := own_lt ho21
 have hga27 : ∀ k, u14.ownBlock = some k → w24.heap.size ≤ k ∨ k < w15.heap.size := fun k hk => Or.inr (hao28 k hk)
 have hX29 := hX20.tr hx26
 have ho30 := ho21.ext hx26
 have hone31 := hd25.one
 refine qd rfl rfl rfl (r_assign (v := u22) rfl) (qe (s_then (s_seq (s_seq (c_reg ?_)))))
 refine qd rfl rfl rfl (r_assign (v := (.int .i64 0)) rfl) (qe (s_then ?_))
 refine s_blk (s_loop (fun (k : Nat) (en : Nat → Value) (W : World) => ∃ (env1 : Nat → Value) (r : Nat) (ov : Value) (os : List (List ByteArray)) (C : List (List Bool)) (GL1 : Pin), en = (upd (upd (upd (upd env1 2 (.slice none 0 0)) 3 ov) 4 u22) 5 (.int .i64 (r : Int))) ∧ k = rows.length - r ∧ Ext noS G w GL1 W ∧ Pin.le G23 GL1 ∧ (r ≤ rows.length) ∧ (os = bpAll rows r) ∧ (CelP rows r 0 C) ∧ (os.length ≤ 8 * r) ∧ (Own (eSl eStr) 56 GL1 W w.heap.size ov (os)) ∧ (DGrid 82 4 GL1 W w15.heap.size w24.heap.size u22 (C)) ∧ (w24.heap.size ≤ W.heap.size) ∧ (∀ k, ov.ownBlock = some k → w24.heap.size ≤ k ∨ k < w15.heap.size)) _ ⟨_, 0, u14, [], cellsM rows, G23, (packS (x := 5) (packS (x := 4) (packS (x := 3) (pack1 (x := 2) rfl) rfl) rfl) rfl), rfl, hX29, Pin.le_refl _, Nat.zero_le _, rfl, (cel_zero g), Nat.zero_le _, ho30, hd25, (Nat.le_refl w24.heap.size), hga27⟩ ?_)
 rintro k32 _ w33 ⟨env1, r, ov, os, C, GL1, rfl, hk34, hX35, hlek32, hi, hos, hcel, hol, hw36, hgd37, hgs38, hga39⟩
 have hcl1 := hcel.gm.len
 refine s_seq (s_seq (c_reg ?_))
 refine qd rfl rfl rfl (r_move (v := (.int .i64 (r : Int))) rfl) (qd rfl rfl rfl (r_move (v := u22) rfl) (qd rfl rfl rfl (DGrid.run_len hgd37 Tryz.underlying80 rfl) (qd rfl rfl rfl (r_lss rfl rfl) (qe (s_then ?_)))))
 refine c_ifd (p := ((r : Int) : Int) < (C.length : Int)) rfl rfl (fun h40 => ?_) (fun h40 => ?_)
 have hrr := geq r (by omega)
 refine wp_skip (s_then (s_seq ?_))
 refine s_blk (s_seq (c_reg ?_))
 refine qd rfl rfl rfl (r_assign (v := (.int .i64 0)) rfl) (qe (s_then ?_))
 refine s_blk (s_loop (fun (k : Nat) (en : Nat → Value) (W : World) => ∃ (env1 : Nat → Value) (c9 : Nat) (ov2 : Value) (os2 : List (List ByteArray)) (C2 : List (List Bool)) (GL2 : Pin), en = (upd (upd (upd (upd (upd env1 2 (.slice none 0 0)) 3 ov2) 4 u22) 5 (.int .i64 (r : Int))) 6 (.int .i64 (c9 : Int))) ∧ k = (rows.getD 0 ByteArray.empty).size - c9 ∧ Ext noS G w GL2 W ∧ Pin.le GL1 GL2 ∧ (c9 ≤ (rows.getD 0 ByteArray.empty).size) ∧ (os2 = os ++ bpRow rows r c9) ∧ (CelP rows r c9 C2) ∧ (os2.length ≤ 8 * r + c9) ∧ (Own (eSl eStr) 56 GL2 W w.heap.size ov2 (os2)) ∧ (DGrid 82 4 GL2 W w15.heap.size w24.heap.size u22 (C2)) ∧ (w24.heap.size ≤ W.heap.size) ∧ (∀ k, ov2.ownBlock = some k → w24.heap.size ≤ k ∨ k < w15.heap.size)) _ ⟨_, 0, ov, os, C, GL1, (packS (x := 6) (packS (x := 5) (packS (x := 4) (packS (x := 3) (pack1 (x := 2) rfl) rfl) rfl) rfl) rfl), rfl, hX35, Pin.le_refl _, Nat.zero_le _, (by simp [bpRow]), hcel, (by omega), hw36, hgd37, hgs38, hga39⟩ ?_)
 rintro k41 _ w42 ⟨env1, c9, ov2, os2, C2, GL2, rfl, hk43, hX44, hlek41, hc, hos2, hcel2, hol2, hw45, hgd46, hgs47, hga48⟩
 have hcl2 := hcel2.gm.len
 have hcr2 : (C2.getD r []).length = (rows.getD 0 ByteArray.empty).size := hcel2.gm.row r (by omega)
 refine s_seq (s_seq (c_reg ?_))
 refine qd rfl rfl rfl (r_move (v := (.int .i64 (c9 : Int))) rfl) (qd rfl rfl rfl (r_move (v := u22) rfl) ?_)
 obtain ⟨us49, hul50, ho51, ho52, hrg53, hst54, hap55, hrg56⟩ := hgd46.leaf2 (i := r) (by omega)
 have hm61 : us49.length = C2.length := hul50
 refine qd rfl rfl rfl (r_move (v := (.int .i64 (r : Int))) rfl) (qd rfl rfl rfl (run_idx Tryz.underlying80 sz82 (v := u22) rfl rfl ho51.read (by omega) (by omega)) ?_)
 obtain ⟨cs62, hrep63, hagg64, hcell65⟩ := nm_el (j := r) default (ho51.at (z := (r : Int)) (by omega) (by omega)) rfl
 obtain ⟨rfl, hone68⟩ := hrep63
 refine qd rfl rfl rfl (hcell65 0 (us49.getD r default) (by rw [show (us49.getD r default) = (us49.getD r default) from rfl]; rfl) ag82 rfl (Gadd.pins hX44.pins u22)) (qd rfl rfl rfl (run_len Tryz.underlying82 (v := (us49.getD r default)) rfl ho52.read) (qd rfl rfl rfl (r_lss rfl rfl) (qe (s_then ?_))))
 refine c_ifd (p := ((c9 : Int) : Int) < ((C2.getD r []).length : Int)) rfl rfl (fun h69 => ?_) (fun h69 => ?_)
 refine wp_skip (s_then (s_seq ?_))
 refine s_blk (s_seq (s_seq (c_reg ?_)))
 refine qd rfl rfl rfl (r_move (v := u22) rfl) (qd rfl rfl rfl (r_move (v := (.int .i64 (r : Int))) rfl) (qd rfl rfl rfl (run_idx Tryz.underlying80 sz82 (v := u22) rfl rfl ho51.read (by omega) (by omega)) ?_))
 obtain ⟨cs70, hrep71, hagg72, hcell73⟩ := nm_el (j := r) default (ho51.at (z := (r : Int)) (by omega) (by omega)) rfl
 obtain ⟨rfl, hone76⟩ := hrep71
 refine qd rfl rfl rfl (hcell73 0 (us49.getD r default) (by rw [show (us49.getD r default) = (us49.getD r default) from rfl]; rfl) ag82 rfl (Gadd.pins hX44.pins u22)) (qd rfl rfl rfl (r_move (v := (.int .i64 (c9 : Int))) rfl) (qd rfl rfl rfl (run_idx Tryz.underlying82 sz4 (v := (us49.getD r default)) rfl rfl ho52.read (by omega) (by omega)) (qd rfl rfl rfl (run_load_bool (r := (C2.getD r []).getD c9 false) rfl ag4 (z := (c9 : Int)) rfl ho52.read (Gadd.pins hX44.pins (us49.getD r default)) (by omega) (by omega)) (qd rfl rfl rfl (r_not rfl) (qe (s_then ?_))))))
 refine c_ifn rfl rfl (fun h77 => ?_) (fun h77 => ?_)
 refine wp_skip (s_then (s_seq (c_reg ?_)))
 have hzz : w42.heap.size ≤ w42.heap.size := Nat.le_refl _
 have hczz : w24.heap.size ≤ w42.heap.size := hgs47
 have hozz := own_lt hw45
 have hlv0 : LvsB 4 GL2 w42 w42.heap.size w42.heap.size [] := LvsB.nil
 refine q1 rfl rfl rfl (o_build0 (E := eVal) (e := 82) Tryz.underlying80 sz82 hX44.pins (fun u78 w79 ho80 hp81 hl82 hk83 => ?_))
 have hX84 := hX44.step hp81 hl82
 have ho85 := hw45.below hl82
 have hd86 := hgd46.below hl82
 have hs87 := Nat.le_trans hgs47 hl82.size
 have hz88 := Nat.le_trans hzz hl82.size
 have hlv89 := (hlv0.below hl82).top
 have ha90 : Apart u78.ownBlock ov2.ownBlock := new_ne_own hk83 hw45.lt
 have ha91 : ∀ k, u78.ownBlock = some k → w24.heap.size ≤ k ∨ k < w15.heap.size := fun k hk => Or.inl (by have e := Option.some.inj ((hk83).symm.trans hk); have := hgs47; omega)
 have ha92 : ApLB [] u78.ownBlock := ApLB.fresh hlv0 (fun k hk => by rw [hk83] at hk; cases hk; exact Nat.le_refl _)
 have hlo94 : Lo w (noS) u78.ownBlock := lo_own (ho80.weaken hX44.size)
 have ho93 : Own eVal 82 GL2 w79 w42.heap.size u78 ([]) := ho80.weaken hzz
 refine qd rfl rfl rfl (r_assign (v := u78) rfl) (qe (s_then (s_seq (s_seq (c_reg ?_)))))
 refine qd rfl rfl rfl (r_assign (v := (.int .i64 0)) rfl) (qe (s_then ?_))
 refine s_blk (s_loop (fun (k : Nat) (en : Nat → Value) (W : World) => ∃ (env1 : Nat → Value) (i9 : Nat) (pv : Value) (us : List Value) (LV : List LeafB) (GL3 : Pin), en = (upd (upd (upd (upd (upd (upd (upd env1 2 (.slice none 0 0)) 3 ov2) 4 u22) 5 (.int .i64 (r : Int))) 6 (.int .i64 (c9 : Int))) 7 pv) 8 (.int .i64 (i9 : Int))) ∧ k = rows.length - i9 ∧ Ext noS G w GL3 W ∧ Pin.le GL2 GL3 ∧ (i9 ≤ rows.length) ∧ (us.length = i9) ∧ (LV = lvG us ((List.range i9).map fun i => List.replicate (C2.getD i []).length false)) ∧ (Own eVal 82 GL3 W w42.heap.size pv (us)) ∧ (Own (eSl eStr) 56 GL3 W w.heap.size ov2 (os2)) ∧ (Apart pv.ownBlock ov2.ownBlock) ∧ (Lo w noS pv.ownBlock) ∧ (LvsB 4 GL3 W w42.heap.size W.heap.size LV) ∧ (ApLB LV pv.ownBlock) ∧ (ApLB LV ov2.ownBlock) ∧ (DGrid 82 4 GL3 W w15.heap.size w24.heap.size u22 (C2)) ∧ (w24.heap.size ≤ W.heap.size) ∧ (∀ k, pv.ownBlock = some k → w24.heap.size ≤ k ∨ k < w15.heap.size) ∧ (w42.heap.size ≤ W.heap.size)) _ ⟨_, 0, u78, [], [], GL2, (packS (x := 8) (packS (x := 7) (packS (x := 6) (packS (x := 5) (packS (x := 4) (packS (x := 3) (pack1 (x := 2) rfl) rfl) rfl) rfl) rfl) rfl) rfl), rfl, hX84, Pin.le_refl _, Nat.zero_le _, rfl, rfl, ho93, ho85, ha90, hlo94, hlv89, ha92, (fun p hp => by cases hp), hd86, hs87, ha91, hz88⟩ ?_)
 rintro k95 _ w96 ⟨env1, i9, pv, us, LV, GL3, rfl, hk97, hX98, hlek95, hi9, hul, hLV, hw99, hw100, ha101, hlo102, hlv103, ha104, ha105, hgd106, hgs107, hga108, hz109⟩
 refine s_seq (s_seq (c_reg ?_))
 refine qd rfl rfl rfl (r_move (v := (.int .i64 (i9 : Int))) rfl) (qd rfl rfl rfl (r_move (v := u22) rfl) (qd rfl rfl rfl (DGrid.run_len hgd106 Tryz.underlying80 rfl) (qd rfl rfl rfl (r_lss rfl rfl) (qe (s_then ?_)))))
 refine c_ifd (p := ((i9 : Int) : Int) < (C2.length : Int)) rfl rfl (fun h110 => ?_) (fun h110 => ?_)
 have hci := hcel2.gm.row i9 (by omega)
 have hcw9 : (C2.getD i9 []).length = (rows.getD 0 ByteArray.empty).size := hci
 refine wp_skip (s_then (s_seq ?_))
 refine s_blk (c_reg (qd rfl rfl rfl (r_move (v := pv) rfl) (qd rfl rfl rfl (r_move (v := u22) rfl) ?_)))
 obtain ⟨us111, hul112, ho113, ho114, hrg115, hst116, hap117, hrg118⟩ := hgd106.leaf2 (i := i9) (by omega)
 have hm125 : us111.length = C2.length := hul112
 refine qd rfl rfl rfl (r_move (v := (.int .i64 (i9 : Int))) rfl) (qd rfl rfl rfl (run_idx Tryz.underlying80 sz82 (v := u22) rfl rfl ho113.read (by omega) (by omega)) ?_)
 obtain ⟨cs126, hrep127, hagg128, hcell129⟩ := nm_el (j := i9) default (ho113.at (z := (i9 : Int)) (by omega) (by omega)) rfl
 obtain ⟨rfl, hone132⟩ := hrep127
 refine qd rfl rfl rfl (hcell129 0 (us111.getD i9 default) (by rw [show (us111.getD i9 default) = (us111.getD i9 default) from rfl]; rfl) ag82 rfl (Gadd.pins hX98.pins u22)) (qd rfl rfl rfl (run_len Tryz.underlying82 (v := (us111.getD i9 default)) rfl ho114.read) (q1 rfl rfl rfl (o_make (E := eBool) false 1 (.bool false) Tryz.underlying82 mk4 (fun _ => rfl) rfl rfl hX98.pins (by omega) (by omega) (by omega) (fun u133 w134 ho135 hp136 hl137 hk138 => ?_))))
 have hX139 := hX98.step hp136 hl137
 have ho140 := hw99.below hl137
 have ho141 := hw100.below hl137
 have hz142 := Nat.le_trans hz109 hl137.size
 have hlv143 := (hlv103.below hl137).top
 have hd144 := hgd106.below hl137
 have hs145 := Nat.le_trans hgs107 hl137.size
 have ha146 : Apart u133.ownBlock pv.ownBlock := new_ne_own hk138 hw99.lt
 have ha147 : Apart u133.ownBlock ov2.ownBlock := new_ne_own hk138 hw100.lt
 have ha148 : ApLB LV u133.ownBlock := ApLB.fresh hlv103 (fun k hk => by rw [hk138] at hk; cases hk; exact Nat.le_refl _)
 have ha149 : ∀ k, u133.ownBlock = some k → w24.heap.size ≤ k ∨ k < w15.heap.size := fun k hk => Or.inl (by have e := Option.some.inj ((hk138).symm.trans hk); have := hgs107; omega)
 have ho150 : Own eBool 4 GL3 w134 w42.heap.size u133 (List.replicate ((C2.getD i9 []).length) false) := ho135.weaken hz109
 have hm152 : (List.replicate ((C2.getD i9 []).length) false).length = ((C2.getD i9 []).length) := List.length_replicate ..
 refine q1 rfl rfl rfl (o_buildF (E := eVal) (e := 82) [u133] [u133] Tryz.underlying80 sz82 zr82 (by exact reps1 (⟨rfl, ho150.one⟩)) (ones1 ho150.one) rfl rfl rfl rfl (by decide) hX139.pins (fun u153 w154 ho155 hp156 hl157 hk158 => ?_))
 have hX159 := hX139.step hp156 hl157
 have ho160 := ho140.below hl157
 have ho161 := ho141.below hl157
 have ho162 := ho150.below hl157
 have hz163 := Nat.le_trans hz142 hl157.size
 have hlv164 := (hlv143.below hl157).top
 have hd165 := hd144.below hl157
 have hs166 := Nat.le_trans hs145 hl157.size
 have ha170 : ApLB LV u153.ownBlock := ApLB.fresh hlv143 (fun k hk => by rw [hk158] at hk; cases hk; exact Nat.le_refl _)
 have ha171 : ∀ k, u153.ownBlock = some k → w24.heap.size ≤ k ∨ k < w15.heap.size := fun k hk => Or.inl (by have e := Option.some.inj ((hk158).symm.trans hk); have := hs145; omega)
 have ho172 : Own eVal 82 GL3 w154 w42.heap.size u153 ([u133]) := ho155.weaken hz142
 refine q1 rfl rfl rfl (o_append (E := eVal) (v := pv) (u := u153) 24 Tryz.underlying80 ap82 (by decide) rfl rfl hX159.pins ho160 ho172.src (by first | omega | (rw [List.nil_append]; omega) | (rw [List.length_nil]; omega) | (rw [List.length_append]; omega) | (simp; done) | (simp; omega) | (simp only [List.length_cons, List.length_nil]; omega) | (simp only [List.length_append, List.length_cons, List.length_nil]; omega)) (by first | omega | (rw [List.nil_append]; omega) | (rw [List.length_nil]; omega) | (rw [List.length_append]; omega) | (simp; done) | (simp; omega) | (simp only [List.length_cons, List.length_nil]; omega) | (simp only [List.length_append, List.length_cons, List.length_nil]; omega)) (hz163) (fun u174 w175 ho176 hp177 hg178 hw179 => ?_))
 have hX180 := hX159.write hp177 hg178 (hlo102)
 have ho181 := ho161.keptA hg178 ha101.symm
 have ho182 := ho162.keptA hg178 ha146
 have hz184 := Nat.le_trans hz163 hg178.size
 have hlv185 := (hlv164.kept hg178 ha104).top
 have hd186 := hd165.keptO hg178 hga108
 have hs187 := Nat.le_trans hs166 hg178.size
 have ha188 : Apart ov2.ownBlock u174.ownBlock := app_ne_own ha101.symm hw179 ho161.lt
 have ha189 : Apart u133.ownBlock u174.ownBlock := app_ne_own ha146 hw179 ho162.lt
 have ha191 : ApLB LV u174.ownBlock := ApLB.app hlv164 ha104 hw179
 have ha192 : ∀ k, u174.ownBlock = some k → w24.heap.size ≤ k ∨ k < w15.heap.size := g_app hga108 hs166 hw179
 have hlo193 : Lo w noS u174.ownBlock := lo_app hlo102 hw179 hX159.size
 have hm194 : (us ++ ([u133])).length = us.length + 1 := List.length_append
 refine qd rfl rfl rfl (r_assign (v := u174) rfl) (qe (s_blkN (s_then (c_reg ?_))))
 refine qd rfl rfl rfl (r_move (v := (.int .i64 (i9 : Int))) rfl) (qd rfl rfl rfl (r_add rfl rfl (by omega)) (qd rfl rfl rfl (r_assign (v := (.int .i64 ((i9 : Int) + 1))) rfl) (qe (s_lopN ?_))))
 have hlv195 := hlv185.add ho182 ha148
 have ha196 : ApLB (LV ++ [(u133, List.replicate ((C2.getD i9 []).length) false)]) ov2.ownBlock := ha105.add ha147
 have ha197 : ApLB (LV ++ [(u133, List.replicate ((C2.getD i9 []).length) false)]) u174.ownBlock := ha191.add ha189
 refine ⟨_, ?_, _, rfl, _, i9 + 1, u174, us ++ ([u133]), (LV ++ [(u133, List.replicate ((C2.getD i9 []).length) false)]), GL3, (packS (x := 8) (packS (x := 7) (packS (x := 6) (packS (x := 5) (packS (x := 4) (packS (x := 3) (pack1 (x := 2) rfl) rfl) rfl) rfl) rfl) rfl) rfl), rfl, hX180, hlek95, (by omega), (by simp [hul]), (by rw [hLV, List.range_succ, List.map_append]; exact (lvG_snoc _ _ (by simp [hul])).symm), ho176, ho181, ha188.symm, hlo193, hlv195, ha197, ha196, hd186, hs187, ha192, hz184⟩
 omega
 refine wp_exit (s_thenE (s_lopE (s_blkE (s_then (s_seq (c_reg ?_))))))
 have hin9 : i9 = C2.length := by omega
 subst hin9
 have hd198 : DGrid 82 4 GL3 w96 w42.heap.size w96.heap.size pv (zeroC C2) := DGrid.make (by simp [zeroC, hul]) hw99 (hLV ▸ hlv103) (hLV ▸ ha104)
 have hga199 : ∀ k, ov2.ownBlock = some k → w96.heap.size ≤ k ∨ k < w42.heap.size := fun k hk => Or.inr (hozz k hk)
 have hgd200 : Sep w15.heap.size w24.heap.size w42.heap.size w96.heap.size := Or.inl hczz
 have hone201 := hd198.one
 have hgz202 : GmP rows (zeroC C2) := by rw [zeroC_is g hcel2.gm]; exact zero_gm g
 refine qd rfl rfl rfl (r_move (v := u22) rfl) (qd rfl rfl rfl (r_move (v := pv) rfl) (qd rfl rfl rfl (r_move (v := (.int .i64 (r : Int))) rfl) (qd rfl rfl rfl (r_move (v := (.int .i64 (c9 : Int))) rfl) ?_)))
 obtain ⟨G203, hle204, hp205, hr206, hf207⟩ := hgd106.read2 hX98.pins
 have hd208 := hd198.away hle204 hf207 hgd200.symm
 refine q1 rfl rfl rfl (o_call (vs := [u22, pv, (.int .i64 (r : Int)), (.int .i64 (c9 : Int))]) Tryz.func67 nm67 rfl rfl rfl ?_)
 refine Calls.mono (grow_spec (a := (r : Int)) (b := (c9 : Int)) g hcel2.gm hp205 hr206 hd208 (Nat.le_refl _) hgz202 (by omega)) ?_
 rintro _ w213 ⟨rfl, M209, hd210, hfl211, hx212⟩
 refine ⟨_, rfl, ?_⟩
 have hx216 := Ext.low hle204 hx212
 have hd217 := hd210.anti hle204
 have hs214 := Nat.le_trans (Nat.le_refl _) hx216.size
 have hgm215 := hgz202.same hfl211.sh
 have hX218 := hX98.trans hx216 (fun i hi => Or.inl (Nat.le_trans hX44.size hi.1))
 have ho219 := hw100.extS hx216 (fun k hk hi => by have := hga199 k hk; have := hi.1; have := hi.2; omega)
 have hd220 := hgd106.extS hx216 (fun k h1 h2 hi => g_out hgd200 ⟨h1, h2⟩ hi)
 have hs221 := Nat.le_trans hgs107 hx216.size
 refine qe (s_then (s_seq (s_seq (c_reg ?_))))
 obtain rfl : M209 = (fldM rows (r : Int) (c9 : Int)) := part_is g hcel2 h77 hfl211
 obtain ⟨G222, hle223, hp224, hr225, hf226⟩ := hd217.read hX218.pins
 have hX227 := hX218.promise hle223 hp224 hf226 hX44.size
 have ho228 := ho219.wider hle223 hf226 hozz
 have hd229 := hd220.wider hle223 hf226 hczz
 have hfgm : GmP rows (fldM rows (r : Int) (c9 : Int)) := gdM_gm _
 have hfl9 : (fldM rows (r : Int) (c9 : Int)).length = rows.length := hfgm.len
 refine qd rfl rfl rfl (r_assign (v := (.int .i64 0)) rfl) (qe (s_then ?_))
 refine s_blk (s_loop (fun (k : Nat) (en : Nat → Value) (W : World) => ∃ (env1 : Nat → Value) (x9 : Nat) (D : List (List Bool)) (GL4 : Pin), en = (upd (upd (upd (upd (upd (upd (upd env1 2 (.slice none 0 0)) 3 ov2) 4 u22) 5 (.int .i64 (r : Int))) 6 (.int .i64 (c9 : Int))) 7 pv) 9 (.int .i64 (x9 : Int))) ∧ k = rows.length - x9 ∧ Ext noS G w GL4 W ∧ Pin.le G222 GL4 ∧ (x9 ≤ rows.length) ∧ (UpP C2 (fldM rows (r : Int) (c9 : Int)) x9 0 D) ∧ (Own (eSl eStr) 56 GL4 W w.heap.size ov2 (os2)) ∧ (DGrid 82 4 GL4 W w15.heap.size w24.heap.size u22 (D)) ∧ (w24.heap.size ≤ W.heap.size)) _ ⟨_, 0, C2, G222, (packS (x := 9) (packS (x := 7) (packS (x := 6) (packS (x := 5) (packS (x := 4) (packS (x := 3) (pack1 (x := 2) rfl) rfl) rfl) rfl) rfl) rfl) rfl), rfl, hX227, Pin.le_refl _, Nat.zero_le _, up_zero, ho228, hd229, hs221⟩ ?_)
 rintro k230 _ w231 ⟨env1, x9, D, GL4, rfl, hk232, hX233, hlek230, hx9, hup, hw234, hgd235, hgs236⟩
 have hgd4 := hcel2.gm.same hup.sh
 have hdl4 := hgd4.len
 refine s_seq (s_seq (c_reg ?_))
 refine qd rfl rfl rfl (r_move (v := (.int .i64 (x9 : Int))) rfl) (qd rfl rfl rfl (r_move (v := u22) rfl) (qd rfl rfl rfl (DGrid.run_len hgd235 Tryz.underlying80 rfl) (qd rfl rfl rfl (r_lss rfl rfl) (qe (s_then ?_)))))
 refine c_ifd (p := ((x9 : Int) : Int) < (D.length : Int)) rfl rfl (fun h237 => ?_) (fun h237 => ?_)
 have hdr4 := hgd4.row x9 (by omega)
 have hcr4 := hcel2.gm.row x9 (by omega)
 have hfr4 : ((fldM rows (r : Int) (c9 : Int)).getD x9 []).length = (rows.getD 0 ByteArray.empty).size := hfgm.row x9 (by omega)
 refine wp_skip (s_then (s_seq ?_))
 refine s_blk (s_seq (c_reg ?_))
 refine qd rfl rfl rfl (r_assign (v := (.int .i64 0)) rfl) (qe (s_then ?_))
 refine s_blk (s_loop (fun (k : Nat) (en : Nat → Value) (W : World) => ∃ (env1 : Nat → Value) (q9 : Nat) (D2 : List (List Bool)) (GL5 : Pin), en = (upd (upd (upd (upd (upd (upd (upd (upd env1 2 (.slice none 0 0)) 3 ov2) 4 u22) 5 (.int .i64 (r : Int))) 6 (.int .i64 (c9 : Int))) 7 pv) 9 (.int .i64 (x9 : Int))) 10 (.int .i64 (q9 : Int))) ∧ k = (rows.getD 0 ByteArray.empty).size - q9 ∧ Ext noS G w GL5 W ∧ Pin.le GL4 GL5 ∧ (q9 ≤ (rows.getD 0 ByteArray.empty).size) ∧ (UpP C2 (fldM rows (r : Int) (c9 : Int)) x9 q9 D2) ∧ (Own (eSl eStr) 56 GL5 W w.heap.size ov2 (os2)) ∧ (DGrid 82 4 GL5 W w15.heap.size w24.heap.size u22 (D2)) ∧ (w24.heap.size ≤ W.heap.size)) _ ⟨_, 0, D, GL4, (packS (x := 10) (packS (x := 9) (packS (x := 7) (packS (x := 6) (packS (x := 5) (packS (x := 4) (packS (x := 3) (pack1 (x := 2) rfl) rfl) rfl) rfl) rfl) rfl) rfl) rfl), rfl, hX233, Pin.le_refl _, Nat.zero_le _, hup, hw234, hgd235, hgs236⟩ ?_)
 rintro k238 _ w239 ⟨env1, q9, D2, GL5, rfl, hk240, hX241, hlek238, hq9, hup2, hw242, hgd243, hgs244⟩
 have hgd5 := hcel2.gm.same hup2.sh
 have hdl5 := hgd5.len
 have hdr5 : (D2.getD x9 []).length = (rows.getD 0 ByteArray.empty).size := hgd5.row x9 (by omega)
 refine s_seq (s_seq (c_reg ?_))
 refine qd rfl rfl rfl (r_move (v := (.int .i64 (q9 : Int))) rfl) (qd rfl rfl rfl (r_move (v := u22) rfl) ?_)
 obtain ⟨us245, hul246, ho247, ho248, hrg249, hst250, hap251, hrg252⟩ := hgd243.leaf2 (i := x9) (by omega)
 have hlo253 : Lo w (noS) (us245.getD x9 default).ownBlock := fun k hk => Or.inl (Nat.le_trans hX20.size (hrg249 k hk).1)
 have ha255 : Apart (us245.getD x9 default).ownBlock ov2.ownBlock := ap_range hrg249 hga48
 have hm257 : us245.length = D2.length := hul246
 refine qd rfl rfl rfl (r_move (v := (.int .i64 (x9 : Int))) rfl) (qd rfl rfl rfl (run_idx Tryz.underlying80 sz82 (v := u22) rfl rfl ho247.read (by omega) (by omega)) ?_)
 obtain ⟨cs258, hrep259, hagg260, hcell261⟩ := nm_el (j := x9) default (ho247.at (z := (x9 : Int)) (by omega) (by omega)) rfl
 obtain ⟨rfl, hone264⟩ := hrep259
 refine qd rfl rfl rfl (hcell261 0 (us245.getD x9 default) (by rw [show (us245.getD x9 default) = (us245.getD x9 default) from rfl]; rfl) ag82 rfl (Gadd.pins hX241.pins u22)) (qd rfl rfl rfl (run_len Tryz.underlying82 (v := (us245.getD x9 default)) rfl ho248.read) (qd rfl rfl rfl (r_lss rfl rfl) (qe (s_then ?_))))
 refine c_ifd (p := ((q9 : Int) : Int) < ((D2.getD x9 []).length : Int)) rfl rfl (fun h265 => ?_) (fun h265 => ?_)
 refine wp_skip (s_then (s_seq ?_))
 refine s_blk ?_
 have hq266 := Gadd.pins hX241.pins u22
 have hq267 := Gadd.pins hX241.pins (us245.getD x9 default)
 have hr268 := ho247.read
 have hr269 := ho248.read
 refine c_draw (S := fun wz => Pins (Gadd GL5 w239 u22) wz ∧ Pins (Gadd GL5 w239 (us245.getD x9 default)) wz ∧ Pins GL5 wz) (last := 23) (by kernel_rfl) rfl ?_
 have hl270 : Below w239.heap.size w239 w239.drew := (Below.refl _ _).drew
 have hp271 := hX241.pins.below hl270
 have hX272 := hX241.step hp271 hl270
 have ho273 := hw242.below hl270
 have ho275 := ho248.below hl270
 have hq276 := hq266.below hl270
 have hq277 := hq267.below hl270
 refine dr_take (i := 0) rfl rfl rfl (want_none rfl _) (by kernel_rfl) (fun _ _ => r_move (v := u22) rfl) ⟨hq276, hq277, hX272.pins⟩ (dr_take (i := 1) rfl rfl rfl (want_none rfl _) (by kernel_rfl) (fun _ _ => r_move (v := (.int .i64 (x9 : Int))) rfl) ⟨hq276, hq277, hX272.pins⟩ (dr_take (i := 2) rfl rfl rfl (want_none rfl _) (by kernel_rfl) (fun _ _ => run_idx Tryz.underlying80 sz82 (v := u22) rfl rfl hr268 (by omega) (by omega)) ⟨hq276, hq277, hX272.pins⟩ ?_))
 obtain ⟨cs278, hrep279, hagg280, hcell281⟩ := nm_el (j := x9) default (ho247.at (z := (x9 : Int)) (by omega) (by omega)) rfl
 obtain ⟨rfl, hone284⟩ := hrep279
 refine dr_take (i := 3) rfl rfl rfl (want_none rfl _) (by kernel_rfl) (fun _ hS => hcell281 0 (us245.getD x9 default) (by rw [show (us245.getD x9 default) = (us245.getD x9 default) from rfl]; rfl) ag82 rfl hS.1) ⟨hq276, hq277, hX272.pins⟩ (dr_take (i := 4) rfl rfl rfl (want_none rfl _) (by kernel_rfl) (fun _ _ => r_move (v := (.int .i64 (q9 : Int))) rfl) ⟨hq276, hq277, hX272.pins⟩ (dr_take (i := 5) rfl rfl rfl (want_none rfl _) (by kernel_rfl) (fun _ _ => r_move (v := u22) rfl) ⟨hq276, hq277, hX272.pins⟩ (dr_take (i := 6) rfl rfl rfl (want_none rfl _) (by kernel_rfl) (fun _ _ => r_move (v := (.int .i64 (x9 : Int))) rfl) ⟨hq276, hq277, hX272.pins⟩ (dr_take (i := 7) rfl rfl rfl (want_none rfl _) (by kernel_rfl) (fun _ _ => run_idx Tryz.underlying80 sz82 (v := u22) rfl rfl hr268 (by omega) (by omega)) ⟨hq276, hq277, hX272.pins⟩ ?_))))
 obtain ⟨cs285, hrep286, hagg287, hcell288⟩ := nm_el (j := x9) default (ho247.at (z := (x9 : Int)) (by omega) (by omega)) rfl
 obtain ⟨rfl, hone291⟩ := hrep286
 refine dr_take (i := 8) rfl rfl rfl (want_none rfl _) (by kernel_rfl) (fun _ hS => hcell288 0 (us245.getD x9 default) (by rw [show (us245.getD x9 default) = (us245.getD x9 default) from rfl]; rfl) ag82 rfl hS.1) ⟨hq276, hq277, hX272.pins⟩ (dr_take (i := 9) rfl rfl rfl (want_none rfl _) (by kernel_rfl) (fun _ _ => r_move (v := (.int .i64 (q9 : Int))) rfl) ⟨hq276, hq277, hX272.pins⟩ (dr_take (i := 10) rfl rfl rfl (want_none rfl _) (by kernel_rfl) (fun _ _ => run_idx Tryz.underlying82 sz4 (v := (us245.getD x9 default)) rfl rfl hr269 (by omega) (by omega)) ⟨hq276, hq277, hX272.pins⟩ (dr_take (i := 11) rfl rfl rfl (want_none rfl _) (by kernel_rfl) (fun _ hS => run_load_bool (r := (D2.getD x9 []).getD q9 false) rfl ag4 (z := (q9 : Int)) rfl hr269 hS.2.1 (by omega) (by omega)) ⟨hq276, hq277, hX272.pins⟩ (dr_take (i := 12) rfl rfl rfl (want_none rfl _) (by kernel_rfl) (fun _ _ => r_move (v := (.bool ((D2.getD x9 []).getD q9 false))) rfl) ⟨hq276, hq277, hX272.pins⟩ (drb (t := 85) rfl (fun h292 => ?_) (fun h292 => ?_))))))
 refine dr_take (i := 13) rfl rfl rfl (want_yes rfl rfl rfl rfl) (by kernel_rfl) (fun _ _ => r_move (v := pv) rfl) ⟨hq276, hq277, hX272.pins⟩ (dr_take (i := 14) rfl rfl rfl (want_yes rfl rfl rfl rfl) (by kernel_rfl) (fun _ _ => r_move (v := (.int .i64 (x9 : Int))) rfl) ⟨hq276, hq277, hX272.pins⟩ (dr_take (i := 15) rfl rfl rfl (want_yes rfl rfl rfl rfl) (by kernel_rfl) (fun _ _ => run_idx Tryz.underlying80 sz82 (v := pv) rfl rfl hr225 (by omega) (by omega)) ⟨hq276, hq277, hX272.pins⟩ ?_))
 obtain ⟨u293, hr294, hl295⟩ := nm_sl (hr225.at (z := (x9 : Int)) (by omega) (by omega)) (j := x9) rfl
 have hm296 := hr294.max
 refine dr_take (i := 16) rfl rfl rfl (want_yes rfl rfl rfl rfl) (by kernel_rfl) (fun _ hS => hl295 ag82 rfl (Pins.of_le hS.2.2 (Pin.le_trans hlek230 hlek238))) ⟨hq276, hq277, hX272.pins⟩ (dr_take (i := 17) rfl rfl rfl (want_yes rfl rfl rfl rfl) (by kernel_rfl) (fun _ _ => r_move (v := (.int .i64 (q9 : Int))) rfl) ⟨hq276, hq277, hX272.pins⟩ (dr_take (i := 18) rfl rfl rfl (want_yes rfl rfl rfl rfl) (by kernel_rfl) (fun _ _ => run_idx Tryz.underlying82 sz4 (v := u293) rfl rfl hr294 (by omega) (by omega)) ⟨hq276, hq277, hX272.pins⟩ (dr_take (i := 19) rfl rfl rfl (want_yes rfl rfl rfl rfl) (by kernel_rfl) (fun _ hS => run_load_bool (r := ((fldM rows (r : Int) (c9 : Int)).getD x9 []).getD q9 false) rfl ag4 (z := (q9 : Int)) rfl hr294 (Pins.of_le hS.2.2 (Pin.le_trans hlek230 hlek238)) (by omega) (by omega)) ⟨hq276, hq277, hX272.pins⟩ (dr_take (i := 20) rfl rfl rfl (want_yes rfl rfl rfl rfl) (by kernel_rfl) (fun _ _ => r_not rfl) ⟨hq276, hq277, hX272.pins⟩ (dr_take (i := 21) rfl rfl rfl (want_none rfl _) (by kernel_rfl) (fun _ _ => r_pickT (v := (.bool (!(((fldM rows (r : Int) (c9 : Int)).getD x9 []).getD q9 false)))) rfl rfl) ⟨hq276, hq277, hX272.pins⟩ (dr_take (i := 22) rfl rfl rfl (want_none rfl _) (by kernel_rfl) (fun _ _ => run_idx Tryz.underlying82 sz4 (v := (us245.getD x9 default)) rfl rfl hr269 (by omega) (by omega)) ⟨hq276, hq277, hX272.pins⟩ (dr_one (i := 23) (by kernel_rfl) (drOp0 (i := 23) rfl rfl rfl (want_none rfl _) (o_set (E := eBool) (v := (us245.getD x9 default)) (u := (.bool (!(((fldM rows (r : Int) (c9 : Int)).getD x9 []).getD q9 false)))) (z := (q9 : Int)) (!(((fldM rows (r : Int) (c9 : Int)).getD x9 []).getD q9 false)) sz4 rfl rfl rfl rfl hX272.pins ho275 (by omega) (by omega) (fun w297 ho298 hp299 hg300 hz301 => ?_))))))))))
 have hX302 := hX272.write hp299 hg300 (hlo253)
 have ho303 := ho273.keptA hg300 ha255.symm
 refine ⟨fun h => absurd rfl h, ?_⟩
 refine dr_end (by kernel_rfl) (s_blkN (s_then (c_reg ?_)))
 have hupn := up_next hup2 (by omega) (by omega) (show (!(((fldM rows (r : Int) (c9 : Int)).getD x9 []).getD q9 false)) = _ from by rw [h292]; rfl)
 have hgdr := drew_grown hg300
 have hd305 : DGrid 82 4 GL5 w297 w15.heap.size w24.heap.size u22 (D2.set x9 (((D2.getD x9 [])).set q9 (!(((fldM rows (r : Int) (c9 : Int)).getD x9 []).getD q9 false)))) := hst250 ho298 hgdr
 have hs306 := Nat.le_trans hgs244 hgdr.size
 refine qd rfl rfl rfl (r_move (v := (.int .i64 (q9 : Int))) rfl) (qd rfl rfl rfl (r_add rfl rfl (by omega)) (qd rfl rfl rfl (r_assign (v := (.int .i64 ((q9 : Int) + 1))) rfl) (qe (s_lopN (⟨_, ?_, _, rfl, _, q9 + 1, D2.set x9 (((D2.getD x9 [])).set q9 (!(((fldM rows (r : Int) (c9 : Int)).getD x9 []).getD q9 false))), GL5, (packS (x := 10) (packS (x := 9) (packS (x := 7) (packS (x := 6) (packS (x := 5) (packS (x := 4) (packS (x := 3) (pack1 (x := 2) rfl) rfl) rfl) rfl) rfl) rfl) rfl) rfl), rfl, hX302, hlek238, (by omega), hupn, ho303, hd305, hs306⟩)))))
 omega
 refine dr_skip (i := 13) rfl rfl (want_no rfl rfl rfl rfl rfl) (by kernel_rfl) ⟨hq276, hq277, hX272.pins⟩ (dr_skip (i := 14) rfl rfl (want_no rfl rfl rfl rfl rfl) (by kernel_rfl) ⟨hq276, hq277, hX272.pins⟩ (dr_skip (i := 15) rfl rfl (want_no rfl rfl rfl rfl rfl) (by kernel_rfl) ⟨hq276, hq277, hX272.pins⟩ (dr_skip (i := 16) rfl rfl (want_no rfl rfl rfl rfl rfl) (by kernel_rfl) ⟨hq276, hq277, hX272.pins⟩ (dr_skip (i := 17) rfl rfl (want_no rfl rfl rfl rfl rfl) (by kernel_rfl) ⟨hq276, hq277, hX272.pins⟩ (dr_skip (i := 18) rfl rfl (want_no rfl rfl rfl rfl rfl) (by kernel_rfl) ⟨hq276, hq277, hX272.pins⟩ (dr_skip (i := 19) rfl rfl (want_no rfl rfl rfl rfl rfl) (by kernel_rfl) ⟨hq276, hq277, hX272.pins⟩ (dr_skip (i := 20) rfl rfl (want_no rfl rfl rfl rfl rfl) (by kernel_rfl) ⟨hq276, hq277, hX272.pins⟩ (dr_take (i := 21) rfl rfl rfl (want_none rfl _) (by kernel_rfl) (fun _ _ => r_pickF (v := (.bool false)) rfl rfl) ⟨hq276, hq277, hX272.pins⟩ (dr_take (i := 22) rfl rfl rfl (want_none rfl _) (by kernel_rfl) (fun _ _ => run_idx Tryz.underlying82 sz4 (v := (us245.getD x9 default)) rfl rfl hr269 (by omega) (by omega)) ⟨hq276, hq277, hX272.pins⟩ (dr_one (i := 23) (by kernel_rfl) (drOp0 (i := 23) rfl rfl rfl (want_none rfl _) (o_set (E := eBool) (v := (us245.getD x9 default)) (u := (.bool false)) (z := (q9 : Int)) (false) sz4 rfl rfl rfl rfl hX272.pins ho275 (by omega) (by omega) (fun w307 ho308 hp309 hg310 hz311 => ?_)))))))))))))
 have hX312 := hX272.write hp309 hg310 (hlo253)
 have ho313 := ho273.keptA hg310 ha255.symm
 refine ⟨fun h => absurd rfl h, ?_⟩
 refine dr_end (by kernel_rfl) (s_blkN (s_then (c_reg ?_)))
 have hupn := up_next hup2 (by omega) (by omega) (show false = _ from by rw [h292]; rfl)
 have hgdr := drew_grown hg310
 have hd315 : DGrid 82 4 GL5 w307 w15.heap.size w24.heap.size u22 (D2.set x9 (((D2.getD x9 [])).set q9 false)) := hst250 ho308 hgdr
 have hs316 := Nat.le_trans hgs244 hgdr.size
 refine qd rfl rfl rfl (r_move (v := (.int .i64 (q9 : Int))) rfl) (qd rfl rfl rfl (r_add rfl rfl (by omega)) (qd rfl rfl rfl (r_assign (v := (.int .i64 ((q9 : Int) + 1))) rfl) (qe (s_lopN (⟨_, ?_, _, rfl, _, q9 + 1, D2.set x9 (((D2.getD x9 [])).set q9 false), GL5, (packS (x := 10) (packS (x := 9) (packS (x := 7) (packS (x := 6) (packS (x := 5) (packS (x := 4) (packS (x := 3) (pack1 (x := 2) rfl) rfl) rfl) rfl) rfl) rfl) rfl) rfl), rfl, hX312, hlek238, (by omega), hupn, ho313, hd315, hs316⟩)))))
 omega
 refine wp_exit (s_thenE (s_lopE (s_blkE (s_blkN (s_then (c_reg ?_))))))
 refine qd rfl rfl rfl (r_move (v := (.int .i64 (x9 : Int))) rfl) (qd rfl rfl rfl (r_add rfl rfl (by omega)) (qd rfl rfl rfl (r_assign (v := (.int .i64 ((x9 : Int) + 1))) rfl) (qe (s_lopN (⟨_, ?_, _, rfl, _, x9 + 1, D2, GL5, (packS (x := 9) (packS (x := 7) (packS (x := 6) (packS (x := 5) (packS (x := 4) (packS (x := 3) (pack1 (x := 2) rfl) rfl) rfl) rfl) rfl) rfl) rfl), rfl, hX241, (Pin.le_trans hlek230 hlek238), (by omega), (up_row hup2 (by have h8 : (C2.getD x9 []).length = (rows.getD 0 ByteArray.empty).size := hcr4; omega)), hw242, hgd243, hgs244⟩)))))
 omega
 refine wp_exit (s_thenE (s_lopE (s_blkE (s_then (c_reg ?_)))))
 refine qd rfl rfl rfl (r_move (v := ov2) rfl) (qd rfl rfl rfl (r_move (v := pv) rfl) (q1 rfl rfl rfl (o_call (vs := [pv]) Tryz.func69 nm69 rfl rfl rfl ?_)))
 refine Calls.mono (board_spec hX233.pins (hr225.mono hlek230) (⟨by omega, fun i hi => by have h8 := hfgm.row i (by omega); have h7 : ((fldM rows (r : Int) (c9 : Int)).getD i []).length = (rows.getD 0 ByteArray.empty).size := h8; omega⟩)) ?_
 rintro _ w319 ⟨u317, G318, rfl, hr320, hx321⟩
 refine ⟨_, rfl, ?_⟩
 have hX322 := hX233.tr hx321
 have ho323 := hw234.ext hx321
 have hd324 := hgd235.ext hx321
 have hs325 := Nat.le_trans hgs236 hx321.size
 refine q1 rfl rfl rfl (o_call (vs := [(.agg [u317].toArray)]) Tryz.func68 nm68 rfl rfl rfl ?_)
 refine Calls.mono (l21Trim_spec hX322.pins hr320 (bdG_good g (gdM_gm _)).1) ?_
 rintro _ w328 ⟨u326, G327, rfl, hr329, hx330⟩
 refine ⟨_, rfl, ?_⟩
 have hX331 := hX322.tr hx330
 have ho332 := ho323.ext hx330
 have hd333 := hd324.ext hx330
 have hs334 := Nat.le_trans hs325 hx330.size
 refine q1 rfl rfl rfl (o_build1 (E := (eSl eStr)) (e := 56) [u326] (trM (bdM (fldM rows (r : Int) (c9 : Int)))) Tryz.underlying66 sz56 zr56 ⟨_, rfl, hr329⟩ rfl (by decide) hX331.pins (fun u335 w336 ho337 hp338 hl339 hk340 => ?_))
 have hX341 := hX331.step hp338 hl339
 have ho342 := ho332.below hl339
 have hd343 := hd333.below hl339
 have hs344 := Nat.le_trans hs334 hl339.size
 have ha346 : ∀ k, u335.ownBlock = some k → w24.heap.size ≤ k ∨ k < w15.heap.size := fun k hk => Or.inl (by have e := Option.some.inj ((hk340).symm.trans hk); have := hs334; omega)
 have ho347 : Own (eSl eStr) 56 G327 w336 w.heap.size u335 ([trM (bdM (fldM rows (r : Int) (c9 : Int)))]) := ho337.weaken hX331.size
 refine q1 rfl rfl rfl (o_append (E := (eSl eStr)) (v := ov2) (u := u335) 24 Tryz.underlying66 ap56 (by decide) rfl rfl hX341.pins ho342 ho347.src (by first | omega | (rw [List.nil_append]; omega) | (rw [List.length_nil]; omega) | (rw [List.length_append]; omega) | (simp; done) | (simp; omega) | (simp only [List.length_cons, List.length_nil]; omega) | (simp only [List.length_append, List.length_cons, List.length_nil]; omega)) (by first | omega | (rw [List.nil_append]; omega) | (rw [List.length_nil]; omega) | (rw [List.length_append]; omega) | (simp; done) | (simp; omega) | (simp only [List.length_cons, List.length_nil]; omega) | (simp only [List.length_append, List.length_cons, List.length_nil]; omega)) (hX341.size) (fun u348 w349 ho350 hp351 hg352 hw353 => ?_))
 have hX354 := hX341.write hp351 hg352 ((lo_own ho342))
 have hd356 := hd343.keptO hg352 hga48
 have hs357 := Nat.le_trans hs344 hg352.size
 have ha359 : ∀ k, u348.ownBlock = some k → w24.heap.size ≤ k ∨ k < w15.heap.size := g_app hga48 hs344 hw353
 have hm360 : (os2 ++ ([trM (bdM (fldM rows (r : Int) (c9 : Int)))])).length = os2.length + 1 := List.length_append
 refine qd rfl rfl rfl (r_assign (v := u348) rfl) (qe (s_blkN (s_then (c_reg ?_))))
 refine qd rfl rfl rfl (r_move (v := (.int .i64 (c9 : Int))) rfl) (qd rfl rfl rfl (r_add rfl rfl (by omega)) (qd rfl rfl rfl (r_assign (v := (.int .i64 ((c9 : Int) + 1))) rfl) (qe (s_lopN (⟨_, ?_, _, rfl, _, c9 + 1, u348, os2 ++ [pbM rows r c9], D, G327, (packS (x := 6) (packS (x := 5) (packS (x := 4) (packS (x := 3) (pack1 (x := 2) rfl) rfl) rfl) rfl) rfl), rfl, hX354, (Pin.le_trans (Pin.le_trans (Pin.le_trans (Pin.le_trans (Pin.le_trans hlek41 hlek95) hle223) hlek230) hx321.le) hx330.le), (by omega), (by rw [bpRow_yes (fst_cel hcel2 h77), hos2, List.append_assoc]), (up_done hup (by omega) hcel2 rfl), (by simp; omega), ho350, hd356, hs357, ha359⟩)))))
 omega
 refine wp_exit (s_thenE (s_blkE (s_then (c_reg ?_))))
 refine qd rfl rfl rfl (r_move (v := (.int .i64 (c9 : Int))) rfl) (qd rfl rfl rfl (r_add rfl rfl (by omega)) (qd rfl rfl rfl (r_assign (v := (.int .i64 ((c9 : Int) + 1))) rfl) (qe (s_lopN (⟨_, ?_, _, rfl, _, c9 + 1, ov2, os2, C2, GL2, (packS (x := 6) (packS (x := 5) (packS (x := 4) (packS (x := 3) (pack1 (x := 2) rfl) rfl) rfl) rfl) rfl), rfl, hX44, hlek41, (by omega), (by rw [bpRow_no (fst_cel hcel2 h77), hos2]), (cel_no hcel2 h77), (by omega), hw45, hgd46, hgs47, hga48⟩)))))
 omega
 refine wp_exit (s_thenE (s_lopE (s_blkE (s_blkN (s_then (c_reg ?_))))))
 refine qd rfl rfl rfl (r_move (v := (.int .i64 (r : Int))) rfl) (qd rfl rfl rfl (r_add rfl rfl (by omega)) (qd rfl rfl rfl (r_assign (v := (.int .i64 ((r : Int) + 1))) rfl) (qe (s_lopN (⟨_, ?_, _, rfl, _, r + 1, ov2, os2, C2, GL2, (packS (x := 5) (packS (x := 4) (packS (x := 3) (pack1 (x := 2) rfl) rfl) rfl) rfl), rfl, hX44, (Pin.le_trans hlek32 hlek41), (by omega), (by rw [bpAll_succ, ← hos, hos2, show c9 = wdS rows by show c9 = (rows.getD 0 ByteArray.empty).size; omega]), (cel_row g hcel2 (by show (rows.getD 0 ByteArray.empty).size ≤ c9; omega)), (by omega), hw45, hgd46, hgs47, hga48⟩)))))
 omega
 refine wp_exit (s_thenE (s_lopE (s_blkE (s_then (s_seq (c_reg ?_))))))
 refine qd rfl rfl rfl (r_move (v := ov) rfl) (qd rfl rfl rfl (r_assign (v := ov) rfl) (qe (s_then ?_)))
 refine wp_ret (s_ret (c_ret1 (v := ov) rfl rfl rfl ?_))
 obtain ⟨G361, hle364, hX363, hr362, hf365⟩ := hw36.sealed hX35
 have hrn : r = rows.length := by omega
 subst hrn
 exact ⟨_, _, rfl, (by unfold bpM; rw [← hos]; exact hr362), hX363⟩

end QP3
end Go.Proofs.YtianphgdbfekdaaGreatDoor

set_option maxRecDepth 20000
set_option maxHeartbeats 2000000
namespace Go.Proofs.YtianphgdbfekdaaGreatDoor
namespace QR3
open Go.RowKit Go.GL Go.Proofs
open PT3 PTB PW3 PW7 PS9 RM6 QS2 QP3














theorem l24PartsOf_spec {w : World} {G : Pin} {s : ByteArray} (hP : Pins G w) (g : SgP s) :
  Calls Tryz.prog 21 [(.string s)].toArray w fun e w' => ∃ (u : Value) (G' : Pin), e = .returned u ∧ RSl eStr G' u (partsT s) ∧ Ext noS G w G' w' := by
 refine s_enter (n := 102) Tryz.func21 Tryz.ntmps21 rfl rfl ?_
 have hX0 : Ext noS G w G w := Ext.refl hP
 have hg0 := g.1
 have hgi := g.2.hi
 have hsz := sg_size g
 have hag := ag_size g.2
 have hvk := vb_size (kdI s).toNat (by omega)
 have hvl : VB.length = 7 := rfl
 have hsp : spB.size = 1 := rfl
 have hspl := sp_len (k := kdI s) (t := tlB s)
 refine s_seq (c_reg ?_)
 refine qd rfl rfl rfl (r_assign (v := (.slice none 0 0)) rfl) (qe (s_then (s_seq (c_reg ?_))))
 refine qd rfl rfl rfl (r_move (v := (.string s)) rfl) (q1 rfl rfl rfl (o_call (vs := [(.string s)]) Tryz.func30 nm30 rfl rfl rfl ?_))
 refine Calls.mono (l24Cut_spec (s := s) hX0.pins (by omega)) ?_
 rintro _ w2 ⟨G1, rfl, hx3⟩
 refine ⟨_, rfl, ?_⟩
 have hX4 := hX0.tr hx3
 have hm5 := tl_size s
 have hm6 := kd_rng s
 refine qd rfl rfl rfl (r_move (v := (.tuple #[(.int .i64 (kdI s)), (.string (tlB s))])) rfl) (qd rfl rfl rfl (r_extract (v := (.int .i64 (kdI s))) rfl rfl) (qd rfl rfl rfl (r_extract (v := (.string (tlB s))) rfl rfl) (qd rfl rfl rfl (r_assign (v := (.int .i64 (kdI s))) rfl) (qd rfl rfl rfl (r_assign (v := (.string (tlB s))) rfl) (qe (s_then (s_seq (c_reg ?_))))))))
 refine q1 rfl rfl rfl (o_build0 (E := eStr) (e := 9) Tryz.underlying22 sz9 hX4.pins (fun u7 w8 ho9 hp10 hl11 hk12 => ?_))
 have hX13 := hX4.step hp10 hl11
 have ho14 : Own eStr 9 G1 w8 w.heap.size u7 ([]) := ho9.weaken hX4.size
 refine qd rfl rfl rfl (r_assign (v := u7) rfl) (qe (s_then (s_seq ?_)))
 refine s_blk (s_seq (c_reg ?_))
 refine qd rfl rfl rfl (r_move (v := (.int .i64 (kdI s))) rfl) (qd rfl rfl rfl (r_leq rfl rfl) (qd rfl rfl rfl (r_assign (v := (.bool (decide ((kdI s : Int) ≤ 3)))) rfl) (qe (s_then ?_))))
 refine c_ifd (p := (kdI s : Int) ≤ 3) rfl rfl (fun h15 => ?_) (fun h15 => ?_)
 refine s_seq (c_reg ?_)
 refine qd rfl rfl rfl (r_move (v := (.int .i64 (kdI s))) rfl) (qd rfl rfl rfl (r_move (v := (.string (tlB s))) rfl) (q1 rfl rfl rfl (o_call (vs := [(.int .i64 (kdI s)), (.string (tlB s))]) Tryz.func37 nm37 rfl rfl rfl ?_)))
 refine Calls.mono (l23Parts_spec (kd := (kdI s)) (t := (tlB s)) hX13.pins (by omega) (by omega)) ?_
 rintro _ w18 ⟨u16, G17, rfl, hr19, hx20⟩
 refine ⟨_, rfl, ?_⟩
 have hX21 := hX13.tr hx20
 have ho22 := ho14.ext hx20
 refine qd rfl rfl rfl (r_assign (v := u16) rfl) (qe (s_then (s_seq (c_reg ?_))))
 refine qd rfl rfl rfl (r_assign (v := (.int .i64 0)) rfl) (qe (s_then ?_))
 refine s_blk (s_loop (fun (k : Nat) (en : Nat → Value) (W : World) => ∃ (env1 : Nat → Value) (j : Nat) (ov : Value) (os : List ByteArray) (GL1 : Pin), en = (upd (upd (upd (upd (upd env1 2 (.slice none 0 0)) 3 (.int .i64 (kdI s))) 5 ov) 6 u16) 7 (.int .i64 (j : Int))) ∧ k = (spA (kdI s) (tlB s)).length - j ∧ Ext noS G w GL1 W ∧ Pin.le G17 GL1 ∧ (j ≤ (spA (kdI s) (tlB s)).length) ∧ (os = ((spA (kdI s) (tlB s)).take j).map (fV (kdI s).toNat)) ∧ (os.length = j) ∧ (Own eStr 9 GL1 W w.heap.size ov (os))) _ ⟨_, 0, u7, [], G17, (packS (x := 7) (packS (x := 6) (packS (x := 5) (packS (x := 3) (pack1 (x := 2) rfl) rfl) rfl) rfl) rfl), rfl, hX21, Pin.le_refl _, Nat.zero_le _, rfl, rfl, ho22⟩ ?_)
 rintro k23 _ w24 ⟨env1, j, ov, os, GL1, rfl, hk25, hX26, hlek23, hj, hos, hol, hw27⟩
 refine s_seq (s_seq (c_reg ?_))
 refine qd rfl rfl rfl (r_move (v := (.int .i64 (j : Int))) rfl) (qd rfl rfl rfl (r_move (v := u16) rfl) (qd rfl rfl rfl (run_len Tryz.underlying22 (v := u16) rfl hr19) (qd rfl rfl rfl (r_lss rfl rfl) (qe (s_then ?_)))))
 refine c_ifd (p := ((j : Int) : Int) < ((spA (kdI s) (tlB s)).length : Int)) rfl rfl (fun h28 => ?_) (fun h28 => ?_)
 have hxz := sp_mem _ (getD_mem (d := ByteArray.empty) (show j < (spA (kdI s) (tlB s)).length by omega))
 refine wp_skip (s_then (s_seq ?_))
 refine s_blk (c_draw (S := fun wz => Pins GL1 wz) (last := 14) (by kernel_rfl) rfl ?_)
 have hl29 : Below w24.heap.size w24 w24.drew := (Below.refl _ _).drew
 have hp30 := hX26.pins.below hl29
 have hX31 := hX26.step hp30 hl29
 have ho32 := hw27.below hl29
 refine dr_take (i := 0) rfl rfl rfl (want_none rfl _) (by kernel_rfl) (fun _ _ => r_move (v := ov) rfl) hX31.pins (dr_take (i := 2) rfl rfl rfl (want_none rfl _) (by kernel_rfl) (fun _ _ => r_move (v := (.int .i64 (kdI s))) rfl) hX31.pins (dr_take (i := 6) rfl rfl rfl (want_none rfl _) (by kernel_rfl) (fun _ _ => r_move (v := u16) rfl) hX31.pins (dr_take (i := 7) rfl rfl rfl (want_none rfl _) (by kernel_rfl) (fun _ _ => r_move (v := (.int .i64 (j : Int))) rfl) hX31.pins (dr_take (i := 8) rfl rfl rfl (want_none rfl _) (by kernel_rfl) (fun _ _ => run_idx Tryz.underlying22 sz9 (v := u16) rfl rfl hr19 (by omega) (by omega)) hX31.pins (dr_take (i := 9) rfl rfl rfl (want_none rfl _) (by kernel_rfl) (fun _ hS => run_load_str (r := (spA (kdI s) (tlB s)).getD j ByteArray.empty) rfl ag9 (z := (j : Int)) rfl hr19 (Pins.of_le hS hlek23) (by omega) (by omega)) hX31.pins (dr_one (i := 1) (by kernel_rfl) (drOp1 (i := 1) rfl rfl rfl (want_none rfl _) (o_call (vs := []) Tryz.func38 nm38 rfl rfl rfl ?_))))))))
 refine Calls.mono (verbs_spec hX31.pins) ?_
 rintro _ w35 ⟨u33, G34, rfl, hr36, hx37⟩
 refine ⟨_, rfl, ?_⟩
 have hX38 := hX31.tr hx37
 have ho39 := ho32.ext hx37
 refine ⟨fun _ => (Pins.of_le hX38.pins hx37.le), ?_⟩
 refine dr_take (i := 3) rfl rfl rfl (want_none rfl _) (by kernel_rfl) (fun _ _ => run_idx Tryz.underlying22 sz9 (v := u33) rfl rfl hr36 (by omega) (by omega)) (Pins.of_le hX38.pins hx37.le) (dr_more (S' := fun wz => Pins GL1 wz ∧ Pins G34 wz) (fun _ h => h.1) (dr_take (i := 4) rfl rfl rfl (want_none rfl _) (by kernel_rfl) (fun _ hS => run_load_str (r := VB.getD (kdI s).toNat ByteArray.empty) rfl ag9 (z := (kdI s)) rfl hr36 hS.2 (by omega) (by omega)) ⟨(Pins.of_le hX38.pins hx37.le), hX38.pins⟩ ?_))
 have hm40 : (⟨#[32]⟩ : ByteArray).size = 1 := rfl
 have hm41 : ((VB.getD (kdI s).toNat ByteArray.empty) ++ (⟨#[32]⟩ : ByteArray)).size = (VB.getD (kdI s).toNat ByteArray.empty).size + (⟨#[32]⟩ : ByteArray).size := ByteArray.size_append
 refine dr_take (i := 5) rfl rfl rfl (want_none rfl _) (by kernel_rfl) (fun _ _ => r_addS rfl rfl (by omega)) ⟨(Pins.of_le hX38.pins hx37.le), hX38.pins⟩ ?_
 have hm42 : (((VB.getD (kdI s).toNat ByteArray.empty) ++ (⟨#[32]⟩ : ByteArray)) ++ ((spA (kdI s) (tlB s)).getD j ByteArray.empty)).size = ((VB.getD (kdI s).toNat ByteArray.empty) ++ (⟨#[32]⟩ : ByteArray)).size + ((spA (kdI s) (tlB s)).getD j ByteArray.empty).size := ByteArray.size_append
 refine dr_take (i := 10) rfl rfl rfl (want_none rfl _) (by kernel_rfl) (fun _ _ => r_addS rfl rfl (by omega)) ⟨(Pins.of_le hX38.pins hx37.le), hX38.pins⟩ (dr_one (i := 11) (by kernel_rfl) (drOp1 (i := 11) rfl rfl rfl (want_none rfl _) (o_buildF (E := eStr) (e := 9) [(.string (((VB.getD (kdI s).toNat ByteArray.empty) ++ (⟨#[32]⟩ : ByteArray)) ++ ((spA (kdI s) (tlB s)).getD j ByteArray.empty)))] [((VB.getD (kdI s).toNat ByteArray.empty) ++ (⟨#[32]⟩ : ByteArray)) ++ ((spA (kdI s) (tlB s)).getD j ByteArray.empty)] Tryz.underlying22 sz9 zr9 (by exact reps1 (by rfl)) (ones1 (by rfl)) rfl rfl rfl rfl (by decide) hX38.pins (fun u43 w44 ho45 hp46 hl47 hk48 => ?_))))
 have hX49 := hX38.step hp46 hl47
 have ho50 := ho39.below hl47
 have ho52 : Own eStr 9 G34 w44 w.heap.size u43 ([((VB.getD (kdI s).toNat ByteArray.empty) ++ (⟨#[32]⟩ : ByteArray)) ++ ((spA (kdI s) (tlB s)).getD j ByteArray.empty)]) := ho45.weaken hX38.size
 refine ⟨fun _ => ⟨(Pins.of_le hX49.pins hx37.le), hX49.pins⟩, ?_⟩
 refine dr_one (i := 12) (by kernel_rfl) (drOp1 (i := 12) rfl rfl rfl (want_none rfl _) (o_append (E := eStr) (v := ov) (u := u43) 16 Tryz.underlying22 ap9 (by decide) rfl rfl hX49.pins ho50 ho52.src (by first | omega | (rw [List.nil_append]; omega) | (rw [List.length_nil]; omega) | (rw [List.length_append]; omega) | (simp; done) | (simp; omega) | (simp only [List.length_cons, List.length_nil]; omega) | (simp only [List.length_append, List.length_cons, List.length_nil]; omega)) (by first | omega | (rw [List.nil_append]; omega) | (rw [List.length_nil]; omega) | (rw [List.length_append]; omega) | (simp; done) | (simp; omega) | (simp only [List.length_cons, List.length_nil]; omega) | (simp only [List.length_append, List.length_cons, List.length_nil]; omega)) (hX49.size) (fun u53 w54 ho55 hp56 hg57 hw58 => ?_)))
 have hX59 := hX49.write hp56 hg57 ((lo_own ho50))
 have hm62 : (os ++ ([((VB.getD (kdI s).toNat ByteArray.empty) ++ (⟨#[32]⟩ : ByteArray)) ++ ((spA (kdI s) (tlB s)).getD j ByteArray.empty)])).length = os.length + 1 := List.length_append
 refine ⟨fun _ => ⟨(Pins.of_le hX59.pins hx37.le), hX59.pins⟩, ?_⟩
 refine dr_take (i := 13) rfl rfl rfl (want_none rfl _) (by kernel_rfl) (fun _ _ => r_assign (v := u53) rfl) ⟨(Pins.of_le hX59.pins hx37.le), hX59.pins⟩ (dr_end (by kernel_rfl) (s_blkN (s_then (c_reg ?_))))
 refine qd rfl rfl rfl (r_move (v := (.int .i64 (j : Int))) rfl) (qd rfl rfl rfl (r_add rfl rfl (by omega)) (qd rfl rfl rfl (r_assign (v := (.int .i64 ((j : Int) + 1))) rfl) (qe (s_lopN (⟨_, ?_, _, rfl, _, j + 1, u53, os ++ [fV (kdI s).toNat ((spA (kdI s) (tlB s)).getD j ByteArray.empty)], G34, (packS (x := 7) (packS (x := 6) (packS (x := 5) (packS (x := 3) (pack1 (x := 2) rfl) rfl) rfl) rfl) rfl), rfl, hX59, (Pin.le_trans hlek23 hx37.le), (by omega), (mapF_next (by omega) hos), (by simp [hol]), ho55⟩)))))
 omega
 refine wp_exit (s_thenE (s_lopE (s_blkE (s_blkN (s_then (s_seq (c_reg ?_)))))))
 refine qd rfl rfl rfl (r_move (v := ov) rfl) (qd rfl rfl rfl (r_assign (v := ov) rfl) (qe (s_then ?_)))
 refine wp_ret (s_ret (c_ret1 (v := ov) rfl rfl rfl ?_))
 obtain ⟨G63, hle66, hX65, hr64, hf67⟩ := hw27.sealed hX26
 exact ⟨_, _, rfl, (by rw [pt_3 (by omega) (by omega) hos]; exact hr64), hX65⟩
 refine s_seq (c_reg ?_)
 refine qd rfl rfl rfl (r_move (v := (.int .i64 (kdI s))) rfl) (qd rfl rfl rfl (r_eql rfl rfl) (qd rfl rfl rfl (r_assign (v := (.bool (decide ((kdI s : Int) = 4)))) rfl) (qe (s_then ?_))))
 refine c_ifd (p := (kdI s : Int) = 4) rfl rfl (fun h68 => ?_) (fun h68 => ?_)
 refine s_seq (c_reg ?_)
 refine qd rfl rfl rfl (r_move (v := (.string (tlB s))) rfl) (q1 rfl rfl rfl (o_call (vs := [(.string (tlB s))]) Tryz.func32 nm32 rfl rfl rfl ?_))
 refine Calls.mono (sReadBoard_spec (t := (tlB s)) hX13.pins (by omega)) ?_
 rintro _ w71 ⟨u69, G70, rfl, hr72, hx73⟩
 refine ⟨_, rfl, ?_⟩
 have hX74 := hX13.tr hx73
 have ho75 := ho14.ext hx73
 refine qd rfl rfl rfl (r_move (v := (.tuple #[(.agg [u69].toArray), (.bool (rdB9 (tlB s)))])) rfl) (qd rfl rfl rfl (r_extract (v := (.agg [u69].toArray)) rfl rfl) (qd rfl rfl rfl (r_extract (v := (.bool (rdB9 (tlB s)))) rfl rfl) (q1 rfl rfl rfl (o_alloc [(.slice none 0 0)] zr56 rfl hX74.pins (fun b76 w77 hk78 hb79 hp80 hl81 => ?_)))))
 have hX82 := hX74.step hp80 hl81
 have ho83 := ho75.below hl81
 have ha84 : Apart (some b76) u7.ownBlock := new_ne_own (congrArg some hk78) ho75.lt
 have hlo85 : w.heap.size ≤ b76 := by have := hX74.size; omega
 refine q0 rfl rfl rfl (o_stp (cs' := [u69]) (us := [u69]) (v := (.agg [u69].toArray)) sz56 rfl rfl rfl (ones1 hr72.one) hX82.pins hb79 (Nat.le_of_ble_eq_true rfl) rfl (fun w86 hb87 hp88 hg89 hz90 => ?_))
 have hX91 := hX82.write hp88 hg89 ((lo_box hlo85))
 have ho92 := ho83.keptA hg89 ha84.symm
 obtain ⟨G93, hle94, hX95, hbp96, hf97⟩ := hb87.shut hX91 hlo85
 have ho98 := ho92.moreA hle94 hf97 ha84.symm
 refine qd rfl rfl rfl (r_assign (v := (.bool (rdB9 (tlB s)))) rfl) (qe (s_then (s_seq (c_reg ?_))))
 have hgb : GbP (partsB 47 (tlB s)) := (g.2.dom (by omega)).g
 have hbl := bp_len hgb
 have hr99 := hr72
 rw [rdF_yes (decP_true.2 hgb)] at hr99
 refine qd rfl rfl rfl (r_ldpA (cs := [u69]) ag56 sz56 rfl (fun j u hj => hX95.pins _ _ _ (hbp96 _ _ (by simpa using hj)))) (q1 rfl rfl rfl (o_call (vs := [(.agg [u69].toArray)]) Tryz.func39 nm39 rfl rfl rfl ?_))
 refine Calls.mono (l21Parts_spec hX95.pins (hr99.mono hle94) hgb) ?_
 rintro _ w102 ⟨u100, G101, rfl, hr103, hx104⟩
 refine ⟨_, rfl, ?_⟩
 have hX105 := hX95.tr hx104
 have ho106 := ho98.ext hx104
 refine qd rfl rfl rfl (r_assign (v := u100) rfl) (qe (s_then (s_seq (c_reg ?_))))
 refine qd rfl rfl rfl (r_assign (v := (.int .i64 0)) rfl) (qe (s_then ?_))
 refine s_blk (s_loop (fun (k : Nat) (en : Nat → Value) (W : World) => ∃ (env1 : Nat → Value) (j : Nat) (ov : Value) (os : List ByteArray) (GL1 : Pin), en = (upd (upd (upd (upd env1 2 (.slice none 0 0)) 5 ov) 10 u100) 11 (.int .i64 (j : Int))) ∧ k = (bpM (partsB 47 (tlB s))).length - j ∧ Ext noS G w GL1 W ∧ Pin.le G101 GL1 ∧ (j ≤ (bpM (partsB 47 (tlB s))).length) ∧ (os = (((bpM (partsB 47 (tlB s))).take j).filter mvN).map fun x => fV 4 (joinC 47 x)) ∧ (os.length ≤ j) ∧ (Own eStr 9 GL1 W w.heap.size ov (os))) _ ⟨_, 0, u7, [], G101, (packS (x := 11) (packS (x := 10) (packS (x := 5) (pack1 (x := 2) rfl) rfl) rfl) rfl), rfl, hX105, Pin.le_refl _, Nat.zero_le _, rfl, Nat.le_refl _, ho106⟩ ?_)
 rintro k107 _ w108 ⟨env1, j, ov, os, GL1, rfl, hk109, hX110, hlek107, hj, hos, hol, hw111⟩
 refine s_seq (s_seq (c_reg ?_))
 refine qd rfl rfl rfl (r_move (v := (.int .i64 (j : Int))) rfl) (qd rfl rfl rfl (r_move (v := u100) rfl) (qd rfl rfl rfl (run_len Tryz.underlying66 (v := u100) rfl hr103) (qd rfl rfl rfl (r_lss rfl rfl) (qe (s_then ?_)))))
 refine c_ifd (p := ((j : Int) : Int) < ((bpM (partsB 47 (tlB s))).length : Int)) rfl rfl (fun h112 => ?_) (fun h112 => ?_)
 have hgx := bp_mem hgb (getD_mem (d := []) (show j < (bpM (partsB 47 (tlB s))).length by omega))
 have hdt := dm_len (left := true) hgx
 have hdf := dm_len (left := false) hgx
 have hgz := bdt_size hgx
 have hd4 : (⟨#[100, 111, 109, 32]⟩ : ByteArray).size = 4 := rfl
 refine wp_skip (s_then (s_seq ?_))
 refine s_blk (s_seq (c_draw (S := fun wz => Pins GL1 wz) (last := 14) (by kernel_rfl) rfl ?_))
 have hl113 : Below w108.heap.size w108 w108.drew := (Below.refl _ _).drew
 have hp114 := hX110.pins.below hl113
 have hX115 := hX110.step hp114 hl113
 have ho116 := hw111.below hl113
 refine dr_take (i := 0) rfl rfl rfl (want_none rfl _) (by kernel_rfl) (fun _ _ => r_move (v := u100) rfl) hX115.pins (dr_take (i := 1) rfl rfl rfl (want_none rfl _) (by kernel_rfl) (fun _ _ => r_move (v := (.int .i64 (j : Int))) rfl) hX115.pins (dr_take (i := 2) rfl rfl rfl (want_none rfl _) (by kernel_rfl) (fun _ _ => run_idx Tryz.underlying66 sz56 (v := u100) rfl rfl hr103 (by omega) (by omega)) hX115.pins ?_))
 obtain ⟨u117, hr118, hl119⟩ := nm_form (hr103.at (z := (j : Int)) (by omega) (by omega)) (j := j) rfl
 have hm120 := hr118.max
 refine dr_take (i := 3) rfl rfl rfl (want_none rfl _) (by kernel_rfl) (fun _ hS => hl119 ag56 sz56 rfl (Pins.of_le hS hlek107)) hX115.pins (dr_take (i := 6) rfl rfl rfl (want_none rfl _) (by kernel_rfl) (fun _ _ => r_move (v := u100) rfl) hX115.pins (dr_take (i := 7) rfl rfl rfl (want_none rfl _) (by kernel_rfl) (fun _ _ => r_move (v := (.int .i64 (j : Int))) rfl) hX115.pins (dr_take (i := 8) rfl rfl rfl (want_none rfl _) (by kernel_rfl) (fun _ _ => run_idx Tryz.underlying66 sz56 (v := u100) rfl rfl hr103 (by omega) (by omega)) hX115.pins ?_)))
 obtain ⟨u121, hr122, hl123⟩ := nm_form (hr103.at (z := (j : Int)) (by omega) (by omega)) (j := j) rfl
 have hm124 := hr122.max
 refine dr_take (i := 9) rfl rfl rfl (want_none rfl _) (by kernel_rfl) (fun _ hS => hl123 ag56 sz56 rfl (Pins.of_le hS hlek107)) hX115.pins (dr_one (i := 4) (by kernel_rfl) (drOp1 (i := 4) rfl rfl rfl (want_none rfl _) (o_call (vs := [(.agg [u117].toArray), (.bool true)]) Tryz.func40 nm40 rfl rfl rfl ?_)))
 refine Calls.mono (smoves_spec (left := true) hX115.pins (hr118.mono hlek107) hgx) ?_
 rintro _ w127 ⟨u125, G126, rfl, hr128, hx129⟩
 refine ⟨_, rfl, ?_⟩
 have hX130 := hX115.tr hx129
 have ho131 := ho116.ext hx129
 refine ⟨fun _ => (Pins.of_le hX130.pins hx129.le), ?_⟩
 refine dr_take (i := 5) rfl rfl rfl (want_none rfl _) (by kernel_rfl) (fun _ _ => run_len Tryz.underlying66 (v := u125) rfl hr128) (Pins.of_le hX130.pins hx129.le) (dr_one (i := 10) (by kernel_rfl) (drOp1 (i := 10) rfl rfl rfl (want_none rfl _) (o_call (vs := [(.agg [u121].toArray), (.bool false)]) Tryz.func40 nm40 rfl rfl rfl ?_)))
 refine Calls.mono (smoves_spec (left := false) hX130.pins (hr122.mono (Pin.le_trans hlek107 hx129.le)) hgx) ?_
 rintro _ w134 ⟨u132, G133, rfl, hr135, hx136⟩
 refine ⟨_, rfl, ?_⟩
 have hX137 := hX130.tr hx136
 have ho138 := ho131.ext hx136
 refine ⟨fun _ => (Pins.of_le hX137.pins (Pin.le_trans hx129.le hx136.le)), ?_⟩
 refine dr_take (i := 11) rfl rfl rfl (want_none rfl _) (by kernel_rfl) (fun _ _ => run_len Tryz.underlying66 (v := u132) rfl hr135) (Pins.of_le hX137.pins (Pin.le_trans hx129.le hx136.le)) (dr_take (i := 12) rfl rfl rfl (want_none rfl _) (by kernel_rfl) (fun _ _ => r_add rfl rfl (by omega)) (Pins.of_le hX137.pins (Pin.le_trans hx129.le hx136.le)) (dr_take (i := 13) rfl rfl rfl (want_none rfl _) (by kernel_rfl) (fun _ _ => r_gtr rfl rfl) (Pins.of_le hX137.pins (Pin.le_trans hx129.le hx136.le)) (dr_end (by kernel_rfl) (s_then (c_ifd (p := (0 : Int) < (((dmM ((bpM (partsB 47 (tlB s))).getD j []) true).length : Int) + ((dmM ((bpM (partsB 47 (tlB s))).getD j []) false).length : Int))) rfl rfl (fun h139 => ?_) (fun h139 => ?_))))))
 refine c_reg (qd rfl rfl rfl (r_move (v := ov) rfl) (qd rfl rfl rfl (r_move (v := u100) rfl) (qd rfl rfl rfl (r_move (v := (.int .i64 (j : Int))) rfl) (qd rfl rfl rfl (run_idx Tryz.underlying66 sz56 (v := u100) rfl rfl hr103 (by omega) (by omega)) ?_))))
 obtain ⟨u140, hr141, hl142⟩ := nm_form (hr103.at (z := (j : Int)) (by omega) (by omega)) (j := j) rfl
 have hm143 := hr141.max
 refine qd rfl rfl rfl (hl142 ag56 sz56 rfl (Pins.of_le hX137.pins (Pin.le_trans (Pin.le_trans hlek107 hx129.le) hx136.le))) (q1 rfl rfl rfl (o_call (vs := [(.agg [u140].toArray)]) Tryz.func41 nm41 rfl rfl rfl ?_))
 refine Calls.mono (l21Text_spec hX137.pins (hr141.mono (Pin.le_trans (Pin.le_trans hlek107 hx129.le) hx136.le)) (gx_small hgx) (gx_rows hgx)) ?_
 rintro _ w145 ⟨G144, rfl, hx146⟩
 refine ⟨_, rfl, ?_⟩
 have hX147 := hX137.tr hx146
 have ho148 := ho138.ext hx146
 have hm149 : (⟨#[100, 111, 109, 32]⟩ : ByteArray).size = 4 := rfl
 have hm150 : ((⟨#[100, 111, 109, 32]⟩ : ByteArray) ++ (joinC 47 ((bpM (partsB 47 (tlB s))).getD j []))).size = (⟨#[100, 111, 109, 32]⟩ : ByteArray).size + (joinC 47 ((bpM (partsB 47 (tlB s))).getD j [])).size := ByteArray.size_append
 refine qd rfl rfl rfl (r_addS rfl rfl (by omega)) (q1 rfl rfl rfl (o_buildF (E := eStr) (e := 9) [(.string ((⟨#[100, 111, 109, 32]⟩ : ByteArray) ++ (joinC 47 ((bpM (partsB 47 (tlB s))).getD j []))))] [(⟨#[100, 111, 109, 32]⟩ : ByteArray) ++ (joinC 47 ((bpM (partsB 47 (tlB s))).getD j []))] Tryz.underlying22 sz9 zr9 (by exact reps1 (by rfl)) (ones1 (by rfl)) rfl rfl rfl rfl (by decide) hX147.pins (fun u151 w152 ho153 hp154 hl155 hk156 => ?_)))
 have hX157 := hX147.step hp154 hl155
 have ho158 := ho148.below hl155
 have ho160 : Own eStr 9 G144 w152 w.heap.size u151 ([(⟨#[100, 111, 109, 32]⟩ : ByteArray) ++ (joinC 47 ((bpM (partsB 47 (tlB s))).getD j []))]) := ho153.weaken hX147.size
 refine q1 rfl rfl rfl (o_append (E := eStr) (v := ov) (u := u151) 16 Tryz.underlying22 ap9 (by decide) rfl rfl hX157.pins ho158 ho160.src (by first | omega | (rw [List.nil_append]; omega) | (rw [List.length_nil]; omega) | (rw [List.length_append]; omega) | (simp; done) | (simp; omega) | (simp only [List.length_cons, List.length_nil]; omega) | (simp only [List.length_append, List.length_cons, List.length_nil]; omega)) (by first | omega | (rw [List.nil_append]; omega) | (rw [List.length_nil]; omega) | (rw [List.length_append]; omega) | (simp; done) | (simp; omega) | (simp only [List.length_cons, List.length_nil]; omega) | (simp only [List.length_append, List.length_cons, List.length_nil]; omega)) (hX157.size) (fun u161 w162 ho163 hp164 hg165 hw166 => ?_))
 have hX167 := hX157.write hp164 hg165 ((lo_own ho158))
 have hm170 : (os ++ ([(⟨#[100, 111, 109, 32]⟩ : ByteArray) ++ (joinC 47 ((bpM (partsB 47 (tlB s))).getD j []))])).length = os.length + 1 := List.length_append
 refine qd rfl rfl rfl (r_assign (v := u161) rfl) (qe (s_blkN (s_then (c_reg ?_))))
 refine qd rfl rfl rfl (r_move (v := (.int .i64 (j : Int))) rfl) (qd rfl rfl rfl (r_add rfl rfl (by omega)) (qd rfl rfl rfl (r_assign (v := (.int .i64 ((j : Int) + 1))) rfl) (qe (s_lopN (⟨_, ?_, _, rfl, _, j + 1, u161, os ++ [fV 4 (joinC 47 ((bpM (partsB 47 (tlB s))).getD j []))], G144, (packS (x := 11) (packS (x := 10) (packS (x := 5) (pack1 (x := 2) rfl) rfl) rfl) rfl), rfl, hX167, (Pin.le_trans (Pin.le_trans (Pin.le_trans hlek107 hx129.le) hx136.le) hx146.le), (by omega), (fg_y (p := mvN) (f := fun x => fV 4 (joinC 47 x)) (by omega) hos (mv_y h139)), (by simp; omega), ho163⟩)))))
 omega
 refine wp_skip (s_blkN (s_then (c_reg ?_)))
 refine qd rfl rfl rfl (r_move (v := (.int .i64 (j : Int))) rfl) (qd rfl rfl rfl (r_add rfl rfl (by omega)) (qd rfl rfl rfl (r_assign (v := (.int .i64 ((j : Int) + 1))) rfl) (qe (s_lopN (⟨_, ?_, _, rfl, _, j + 1, ov, os, G133, (packS (x := 11) (packS (x := 10) (packS (x := 5) (pack1 (x := 2) rfl) rfl) rfl) rfl), rfl, hX137, (Pin.le_trans (Pin.le_trans hlek107 hx129.le) hx136.le), (by omega), (fg_n (by omega) hos (mv_n h139)), (by omega), ho138⟩)))))
 omega
 refine wp_exit (s_thenE (s_lopE (s_blkE (s_blkN (s_then (s_seq (c_reg ?_)))))))
 refine qd rfl rfl rfl (r_move (v := ov) rfl) (qd rfl rfl rfl (r_assign (v := ov) rfl) (qe (s_then ?_)))
 refine wp_ret (s_ret (c_ret1 (v := ov) rfl rfl rfl ?_))
 obtain ⟨G171, hle174, hX173, hr172, hf175⟩ := hw111.sealed hX110
 exact ⟨_, _, rfl, (by rw [pt_4 (by omega) (by omega) hos]; exact hr172), hX173⟩
 refine s_seq (c_reg ?_)
 refine qd rfl rfl rfl (r_move (v := (.int .i64 (kdI s))) rfl) (qd rfl rfl rfl (r_eql rfl rfl) (qd rfl rfl rfl (r_move (v := (.bool (decide ((kdI s : Int) = 5)))) rfl) (qbd (p := (kdI s : Int) = 5) (t := 85) rfl (fun h176 => ?_) (fun h176 => ?_))))
 refine qdg rfl rfl rfl rfl rfl rfl (r_move (v := (.string (tlB s))) rfl) (qdg rfl rfl rfl rfl rfl rfl (r_neqS rfl rfl) (qd rfl rfl rfl (r_pickT (v := (.bool (!((tlB s).toList == (⟨#[]⟩ : ByteArray).toList)))) rfl rfl) (qd rfl rfl rfl (r_move (v := (.bool (!((tlB s).toList == (⟨#[]⟩ : ByteArray).toList)))) rfl) (qbn (t := 89) rfl (fun h177 => ?_) (fun h177 => ?_)))))
 refine qdg rfl rfl rfl rfl rfl rfl (r_move (v := (.int .i64 (kdI s))) rfl) (qdg rfl rfl rfl rfl rfl rfl (r_eql rfl rfl) (qdg rfl rfl rfl rfl rfl rfl (r_move (v := (.bool (decide ((kdI s : Int) = 6)))) rfl) (qbd (p := (kdI s : Int) = 6) (t := 92) rfl (fun h178 => ?_) (fun h178 => ?_))))
 refine qdg rfl rfl rfl rfl rfl rfl (r_move (v := (.string (tlB s))) rfl) (qdg rfl rfl rfl rfl rfl rfl (r_neqS rfl rfl) (qdg rfl rfl rfl rfl rfl rfl (r_pickT (v := (.bool (!((tlB s).toList == (⟨#[48]⟩ : ByteArray).toList)))) rfl rfl) (qd rfl rfl rfl (r_pickF (v := (.bool (!((tlB s).toList == (⟨#[48]⟩ : ByteArray).toList)))) rfl rfl) (qd rfl rfl rfl (r_assign (v := (.bool (!((tlB s).toList == (⟨#[48]⟩ : ByteArray).toList)))) rfl) (qe (s_then ?_))))))
 refine c_ifn rfl rfl (fun h179 => ?_) (fun h179 => ?_)
 refine wp_skip (s_blkN (s_then (s_seq (c_reg ?_))))
 refine qd rfl rfl rfl (r_move (v := u7) rfl) (qd rfl rfl rfl (r_assign (v := u7) rfl) (qe (s_then ?_)))
 refine wp_ret (s_ret (c_ret1 (v := u7) rfl rfl rfl ?_))
 obtain ⟨G180, hle183, hX182, hr181, hf184⟩ := ho14.sealed hX13
 first
  | (exfalso; omega)
  | exact ⟨_, _, rfl, (by rw [pt_5y (by omega) h177]; exact hr181), hX182⟩
  | exact ⟨_, _, rfl, (by rw [pt_5y (by omega) h179]; exact hr181), hX182⟩
  | exact ⟨_, _, rfl, (by rw [pt_6y (by omega) h177]; exact hr181), hX182⟩
  | exact ⟨_, _, rfl, (by rw [pt_6y (by omega) h179]; exact hr181), hX182⟩
 refine c_reg (qd rfl rfl rfl (r_move (v := u7) rfl) (qd rfl rfl rfl (r_move (v := (.string s)) rfl) (q1 rfl rfl rfl (o_buildF (E := eStr) (e := 9) [(.string s)] [s] Tryz.underlying22 sz9 zr9 (by exact reps1 (by rfl)) (ones1 (by rfl)) rfl rfl rfl rfl (by decide) hX13.pins (fun u185 w186 ho187 hp188 hl189 hk190 => ?_)))))
 have hX191 := hX13.step hp188 hl189
 have ho192 := ho14.below hl189
 have ho194 : Own eStr 9 G1 w186 w.heap.size u185 ([s]) := ho187.weaken hX13.size
 refine q1 rfl rfl rfl (o_append (E := eStr) (v := u7) (u := u185) 16 Tryz.underlying22 ap9 (by decide) rfl rfl hX191.pins ho192 ho194.src (by first | omega | (rw [List.nil_append]; omega) | (rw [List.length_nil]; omega) | (rw [List.length_append]; omega) | (simp; done) | (simp; omega) | (simp only [List.length_cons, List.length_nil]; omega) | (simp only [List.length_append, List.length_cons, List.length_nil]; omega)) (by first | omega | (rw [List.nil_append]; omega) | (rw [List.length_nil]; omega) | (rw [List.length_append]; omega) | (simp; done) | (simp; omega) | (simp only [List.length_cons, List.length_nil]; omega) | (simp only [List.length_append, List.length_cons, List.length_nil]; omega)) (hX191.size) (fun u195 w196 ho197 hp198 hg199 hw200 => ?_))
 have hX201 := hX191.write hp198 hg199 ((lo_own ho192))
 have hm204 : (([]) ++ ([s])).length = ([]).length + 1 := List.length_append
 refine qd rfl rfl rfl (r_assign (v := u195) rfl) (qe (s_blkN (s_then (s_seq (c_reg ?_)))))
 refine qd rfl rfl rfl (r_move (v := u195) rfl) (qd rfl rfl rfl (r_assign (v := u195) rfl) (qe (s_then ?_)))
 refine wp_ret (s_ret (c_ret1 (v := u195) rfl rfl rfl ?_))
 obtain ⟨G205, hle208, hX207, hr206, hf209⟩ := ho197.sealed hX201
 first
  | (exfalso; omega)
  | exact ⟨_, _, rfl, (by rw [pt_5n g (by omega) h177]; exact hr206), hX207⟩
  | exact ⟨_, _, rfl, (by rw [pt_5n g (by omega) h179]; exact hr206), hX207⟩
  | exact ⟨_, _, rfl, (by rw [pt_6n g (by omega) h177]; exact hr206), hX207⟩
  | exact ⟨_, _, rfl, (by rw [pt_6n g (by omega) h179]; exact hr206), hX207⟩
 refine qs rfl rfl rfl rfl rfl rfl (qs rfl rfl rfl rfl rfl rfl (qdg rfl rfl rfl rfl rfl rfl (r_pickF (v := (.bool false)) rfl rfl) (qd rfl rfl rfl (r_pickF (v := (.bool false)) rfl rfl) (qd rfl rfl rfl (r_assign (v := (.bool false)) rfl) (qe (s_then ?_))))))
 refine c_ifF rfl rfl (wp_skip (s_blkN (s_then (s_seq (c_reg ?_)))))
 refine qd rfl rfl rfl (r_move (v := u7) rfl) (qd rfl rfl rfl (r_assign (v := u7) rfl) (qe (s_then ?_)))
 refine wp_ret (s_ret (c_ret1 (v := u7) rfl rfl rfl ?_))
 obtain ⟨G210, hle213, hX212, hr211, hf214⟩ := ho14.sealed hX13
 first
  | (exfalso; omega)
  | exact ⟨_, _, rfl, (by rw [pt_5y (by omega) h177]; exact hr211), hX212⟩
  | exact ⟨_, _, rfl, (by rw [pt_6y (by omega) h177]; exact hr211), hX212⟩
 refine qs rfl rfl rfl rfl rfl rfl (qs rfl rfl rfl rfl rfl rfl (qs rfl rfl rfl rfl rfl rfl (qsu rfl rfl rfl rfl rfl (qsu rfl rfl rfl rfl rfl (qs rfl rfl rfl rfl rfl rfl (qd rfl rfl rfl (r_pickT (v := (.bool true)) rfl rfl) (qd rfl rfl rfl (r_assign (v := (.bool true)) rfl) (qe (s_then ?_)))))))))
 refine c_ifT rfl rfl (c_reg (qd rfl rfl rfl (r_move (v := u7) rfl) (qd rfl rfl rfl (r_move (v := (.string s)) rfl) (q1 rfl rfl rfl (o_buildF (E := eStr) (e := 9) [(.string s)] [s] Tryz.underlying22 sz9 zr9 (by exact reps1 (by rfl)) (ones1 (by rfl)) rfl rfl rfl rfl (by decide) hX13.pins (fun u215 w216 ho217 hp218 hl219 hk220 => ?_))))))
 have hX221 := hX13.step hp218 hl219
 have ho222 := ho14.below hl219
 have ho224 : Own eStr 9 G1 w216 w.heap.size u215 ([s]) := ho217.weaken hX13.size
 refine q1 rfl rfl rfl (o_append (E := eStr) (v := u7) (u := u215) 16 Tryz.underlying22 ap9 (by decide) rfl rfl hX221.pins ho222 ho224.src (by first | omega | (rw [List.nil_append]; omega) | (rw [List.length_nil]; omega) | (rw [List.length_append]; omega) | (simp; done) | (simp; omega) | (simp only [List.length_cons, List.length_nil]; omega) | (simp only [List.length_append, List.length_cons, List.length_nil]; omega)) (by first | omega | (rw [List.nil_append]; omega) | (rw [List.length_nil]; omega) | (rw [List.length_append]; omega) | (simp; done) | (simp; omega) | (simp only [List.length_cons, List.length_nil]; omega) | (simp only [List.length_append, List.length_cons, List.length_nil]; omega)) (hX221.size) (fun u225 w226 ho227 hp228 hg229 hw230 => ?_))
 have hX231 := hX221.write hp228 hg229 ((lo_own ho222))
 have hm234 : (([]) ++ ([s])).length = ([]).length + 1 := List.length_append
 refine qd rfl rfl rfl (r_assign (v := u225) rfl) (qe (s_blkN (s_then (s_seq (c_reg ?_)))))
 refine qd rfl rfl rfl (r_move (v := u225) rfl) (qd rfl rfl rfl (r_assign (v := u225) rfl) (qe (s_then ?_)))
 refine wp_ret (s_ret (c_ret1 (v := u225) rfl rfl rfl ?_))
 obtain ⟨G235, hle238, hX237, hr236, hf239⟩ := ho227.sealed hX231
 first
  | (exfalso; omega)
  | exact ⟨_, _, rfl, (by rw [pt_5n g (by omega) h177]; exact hr236), hX237⟩
  | exact ⟨_, _, rfl, (by rw [pt_6n g (by omega) h177]; exact hr236), hX237⟩
 refine qs rfl rfl rfl rfl rfl rfl (qs rfl rfl rfl rfl rfl rfl (qd rfl rfl rfl (r_pickF (v := (.bool false)) rfl rfl) (qd rfl rfl rfl (r_move (v := (.bool false)) rfl) (qdg rfl rfl rfl rfl rfl rfl (r_move (v := (.int .i64 (kdI s))) rfl) (qdg rfl rfl rfl rfl rfl rfl (r_eql rfl rfl) (qdg rfl rfl rfl rfl rfl rfl (r_move (v := (.bool (decide ((kdI s : Int) = 6)))) rfl) (qbd (p := (kdI s : Int) = 6) (t := 92) rfl (fun h240 => ?_) (fun h240 => ?_))))))))
 refine qdg rfl rfl rfl rfl rfl rfl (r_move (v := (.string (tlB s))) rfl) (qdg rfl rfl rfl rfl rfl rfl (r_neqS rfl rfl) (qdg rfl rfl rfl rfl rfl rfl (r_pickT (v := (.bool (!((tlB s).toList == (⟨#[48]⟩ : ByteArray).toList)))) rfl rfl) (qd rfl rfl rfl (r_pickF (v := (.bool (!((tlB s).toList == (⟨#[48]⟩ : ByteArray).toList)))) rfl rfl) (qd rfl rfl rfl (r_assign (v := (.bool (!((tlB s).toList == (⟨#[48]⟩ : ByteArray).toList)))) rfl) (qe (s_then ?_))))))
 refine c_ifn rfl rfl (fun h241 => ?_) (fun h241 => ?_)
 refine wp_skip (s_blkN (s_then (s_seq (c_reg ?_))))
 refine qd rfl rfl rfl (r_move (v := u7) rfl) (qd rfl rfl rfl (r_assign (v := u7) rfl) (qe (s_then ?_)))
 refine wp_ret (s_ret (c_ret1 (v := u7) rfl rfl rfl ?_))
 obtain ⟨G242, hle245, hX244, hr243, hf246⟩ := ho14.sealed hX13
 first
  | (exfalso; omega)
  | exact ⟨_, _, rfl, (by rw [pt_5y (by omega) h241]; exact hr243), hX244⟩
  | exact ⟨_, _, rfl, (by rw [pt_6y (by omega) h241]; exact hr243), hX244⟩
 refine c_reg (qd rfl rfl rfl (r_move (v := u7) rfl) (qd rfl rfl rfl (r_move (v := (.string s)) rfl) (q1 rfl rfl rfl (o_buildF (E := eStr) (e := 9) [(.string s)] [s] Tryz.underlying22 sz9 zr9 (by exact reps1 (by rfl)) (ones1 (by rfl)) rfl rfl rfl rfl (by decide) hX13.pins (fun u247 w248 ho249 hp250 hl251 hk252 => ?_)))))
 have hX253 := hX13.step hp250 hl251
 have ho254 := ho14.below hl251
 have ho256 : Own eStr 9 G1 w248 w.heap.size u247 ([s]) := ho249.weaken hX13.size
 refine q1 rfl rfl rfl (o_append (E := eStr) (v := u7) (u := u247) 16 Tryz.underlying22 ap9 (by decide) rfl rfl hX253.pins ho254 ho256.src (by first | omega | (rw [List.nil_append]; omega) | (rw [List.length_nil]; omega) | (rw [List.length_append]; omega) | (simp; done) | (simp; omega) | (simp only [List.length_cons, List.length_nil]; omega) | (simp only [List.length_append, List.length_cons, List.length_nil]; omega)) (by first | omega | (rw [List.nil_append]; omega) | (rw [List.length_nil]; omega) | (rw [List.length_append]; omega) | (simp; done) | (simp; omega) | (simp only [List.length_cons, List.length_nil]; omega) | (simp only [List.length_append, List.length_cons, List.length_nil]; omega)) (hX253.size) (fun u257 w258 ho259 hp260 hg261 hw262 => ?_))
 have hX263 := hX253.write hp260 hg261 ((lo_own ho254))
 have hm266 : (([]) ++ ([s])).length = ([]).length + 1 := List.length_append
 refine qd rfl rfl rfl (r_assign (v := u257) rfl) (qe (s_blkN (s_then (s_seq (c_reg ?_)))))
 refine qd rfl rfl rfl (r_move (v := u257) rfl) (qd rfl rfl rfl (r_assign (v := u257) rfl) (qe (s_then ?_)))
 refine wp_ret (s_ret (c_ret1 (v := u257) rfl rfl rfl ?_))
 obtain ⟨G267, hle270, hX269, hr268, hf271⟩ := ho259.sealed hX263
 first
  | (exfalso; omega)
  | exact ⟨_, _, rfl, (by rw [pt_5n g (by omega) h241]; exact hr268), hX269⟩
  | exact ⟨_, _, rfl, (by rw [pt_6n g (by omega) h241]; exact hr268), hX269⟩
 refine qs rfl rfl rfl rfl rfl rfl (qs rfl rfl rfl rfl rfl rfl (qdg rfl rfl rfl rfl rfl rfl (r_pickF (v := (.bool false)) rfl rfl) (qd rfl rfl rfl (r_pickF (v := (.bool false)) rfl rfl) (qd rfl rfl rfl (r_assign (v := (.bool false)) rfl) (qe (s_then ?_))))))
 refine c_ifF rfl rfl (wp_skip (s_blkN (s_then (s_seq (c_reg ?_)))))
 refine qd rfl rfl rfl (r_move (v := u7) rfl) (qd rfl rfl rfl (r_assign (v := u7) rfl) (qe (s_then ?_)))
 refine wp_ret (s_ret (c_ret1 (v := u7) rfl rfl rfl ?_))
 obtain ⟨G272, hle275, hX274, hr273, hf276⟩ := ho14.sealed hX13
 first
  | (exfalso; omega)

end QR3
end Go.Proofs.YtianphgdbfekdaaGreatDoor

set_option maxRecDepth 20000
set_option maxHeartbeats 2000000
namespace Go.Proofs.YtianphgdbfekdaaGreatDoor
namespace QR4
open Go.RowKit Go.GL Go.Proofs
open PT3 PTB PW8 QR3






theorem l24Parts_spec {w : World} {G : Pin} {v : Value} {ws : List ByteArray} (hP : Pins G w) (hv : RSl eStr G v ws) (hl : ws.length ≤ 6) (hg : ∀ x ∈ ws, SgP x) :
  Calls Tryz.prog 13 [v].toArray w fun e w' => ∃ (u : Value) (G' : Pin), e = .returned u ∧ RSl eStr G' u (ws.flatMap partsT) ∧ Ext noS G w G' w' := by
 refine s_enter (n := 20) Tryz.func13 Tryz.ntmps13 rfl rfl ?_
 have hX0 : Ext noS G w G w := Ext.refl hP
 have hmv := hv.max
 refine s_seq (c_reg ?_)
 refine qd rfl rfl rfl (r_assign (v := (.slice none 0 0)) rfl) (qe (s_then (s_seq (c_reg ?_))))
 refine q1 rfl rfl rfl (o_build0 (E := eStr) (e := 9) Tryz.underlying22 sz9 hX0.pins (fun u1 w2 ho3 hp4 hl5 hk6 => ?_))
 have hX7 := hX0.step hp4 hl5
 have ho8 : Own eStr 9 G w2 w.heap.size u1 ([]) := ho3.weaken hX0.size
 refine qd rfl rfl rfl (r_assign (v := u1) rfl) (qe (s_then (s_seq (s_seq (c_reg ?_)))))
 refine qd rfl rfl rfl (r_assign (v := (.int .i64 0)) rfl) (qe (s_then ?_))
 refine s_blk (s_loop (fun (k : Nat) (en : Nat → Value) (W : World) => ∃ (env1 : Nat → Value) (j : Nat) (ov : Value) (os : List ByteArray) (GL1 : Pin), en = (upd (upd (upd (upd env1 0 v) 2 (.slice none 0 0)) 3 ov) 4 (.int .i64 (j : Int))) ∧ k = ws.length - j ∧ Ext noS G w GL1 W ∧ Pin.le G GL1 ∧ (j ≤ ws.length) ∧ (os = (ws.take j).flatMap partsT) ∧ (os.length ≤ 64 * j) ∧ (Own eStr 9 GL1 W w.heap.size ov (os))) _ ⟨_, 0, u1, [], G, (packS (x := 4) (packS (x := 3) (packS (x := 2) (pack1 (x := 0) rfl) rfl) rfl) rfl), rfl, hX7, Pin.le_refl _, Nat.zero_le _, rfl, (by simp), ho8⟩ ?_)
 rintro k9 _ w10 ⟨env1, j, ov, os, GL1, rfl, hk11, hX12, hlek9, hj, hos, hol, hw13⟩
 refine s_seq (s_seq (c_reg ?_))
 refine qd rfl rfl rfl (r_move (v := (.int .i64 (j : Int))) rfl) (qd rfl rfl rfl (r_move (v := v) rfl) (qd rfl rfl rfl (run_len Tryz.underlying22 (v := v) rfl hv) (qd rfl rfl rfl (r_lss rfl rfl) (qe (s_then ?_)))))
 refine c_ifd (p := ((j : Int) : Int) < (ws.length : Int)) rfl rfl (fun h14 => ?_) (fun h14 => ?_)
 have hgj : SgP (ws.getD j ByteArray.empty) := hg _ (getD_mem (by omega))
 have hpl := pt_len hgj
 refine wp_skip (s_then (s_seq ?_))
 refine s_blk (c_reg (qd rfl rfl rfl (r_move (v := ov) rfl) (qd rfl rfl rfl (r_move (v := v) rfl) (qd rfl rfl rfl (r_move (v := (.int .i64 (j : Int))) rfl) (qd rfl rfl rfl (run_idx Tryz.underlying22 sz9 (v := v) rfl rfl hv (by omega) (by omega)) (qd rfl rfl rfl (run_load_str (r := ws.getD j ByteArray.empty) rfl ag9 (z := (j : Int)) rfl hv (Pins.of_le hX12.pins hlek9) (by omega) (by omega)) (q1 rfl rfl rfl (o_call (vs := [(.string (ws.getD j ByteArray.empty))]) Tryz.func21 nm21 rfl rfl rfl ?_))))))))
 refine Calls.mono (l24PartsOf_spec (s := (ws.getD j ByteArray.empty)) hX12.pins hgj) ?_
 rintro _ w17 ⟨u15, G16, rfl, hr18, hx19⟩
 refine ⟨_, rfl, ?_⟩
 have hX20 := hX12.tr hx19
 have ho21 := hw13.ext hx19
 refine q1 rfl rfl rfl (o_append (E := eStr) (v := ov) (u := u15) 16 Tryz.underlying22 ap9 (by decide) rfl rfl hX20.pins ho21 ((hr18.mono (Pin.le_refl _)).src hX20.pins (by decide)) (by first | omega | (rw [List.nil_append]; omega) | (rw [List.length_nil]; omega) | (rw [List.length_append]; omega) | (simp; done) | (simp; omega) | (simp only [List.length_cons, List.length_nil]; omega) | (simp only [List.length_append, List.length_cons, List.length_nil]; omega)) (by first | omega | (rw [List.nil_append]; omega) | (rw [List.length_nil]; omega) | (rw [List.length_append]; omega) | (simp; done) | (simp; omega) | (simp only [List.length_cons, List.length_nil]; omega) | (simp only [List.length_append, List.length_cons, List.length_nil]; omega)) (hX20.size) (fun u22 w23 ho24 hp25 hg26 hw27 => ?_))
 have hX28 := hX20.write hp25 hg26 ((lo_own ho21))
 have hm29 : (os ++ (partsT (ws.getD j ByteArray.empty))).length = os.length + (partsT (ws.getD j ByteArray.empty)).length := List.length_append
 refine qd rfl rfl rfl (r_assign (v := u22) rfl) (qe (s_blkN (s_then (c_reg ?_))))
 refine qd rfl rfl rfl (r_move (v := (.int .i64 (j : Int))) rfl) (qd rfl rfl rfl (r_add rfl rfl (by omega)) (qd rfl rfl rfl (r_assign (v := (.int .i64 ((j : Int) + 1))) rfl) (qe (s_lopN (⟨_, ?_, _, rfl, _, j + 1, u22, os ++ (partsT (ws.getD j ByteArray.empty)), G16, (packS (x := 4) (packS (x := 3) (packS (x := 2) (pack1 (x := 0) rfl) rfl) rfl) rfl), rfl, hX28, (Pin.le_trans hlek9 hx19.le), (by omega), (fm_next (by omega) hos), (by rw [List.length_append]; omega), ho24⟩)))))
 omega
 refine wp_exit (s_thenE (s_lopE (s_blkE (s_then (s_seq (c_reg ?_))))))
 refine qd rfl rfl rfl (r_move (v := ov) rfl) (qd rfl rfl rfl (r_assign (v := ov) rfl) (qe (s_then ?_)))
 refine wp_ret (s_ret (c_ret1 (v := ov) rfl rfl rfl ?_))
 obtain ⟨G30, hle33, hX32, hr31, hf34⟩ := hw13.sealed hX12
 exact ⟨_, _, rfl, (by rw [← fm_done (by omega) hos]; exact hr31), hX32⟩

theorem sPositionParts_spec {w : World} {G : Pin} {s : ByteArray} (hP : Pins G w) (hs : s.size ≤ 1048576) :
  Calls Tryz.prog 5 [(.string s)].toArray w fun e w' => ∃ (u : Value) (G' : Pin), e = .returned (.tuple #[u, .bool (psB s)]) ∧ RSl eStr G' u (posP s) ∧ Ext noS G w G' w' := by
 refine s_enter (n := 15) Tryz.func5 Tryz.ntmps5 rfl rfl ?_
 have hX0 : Ext noS G w G w := Ext.refl hP
 refine s_seq (c_reg ?_)
 refine qd rfl rfl rfl (r_assign (v := (.slice none 0 0)) rfl) (qd rfl rfl rfl (r_assign (v := (.bool false)) rfl) (qe (s_then (s_seq (c_reg ?_)))))
 refine qd rfl rfl rfl (r_move (v := (.string s)) rfl) (q1 rfl rfl rfl (o_call (vs := [(.string s)]) Tryz.func12 nm12 rfl rfl rfl ?_))
 refine Calls.mono (l24Singles_spec (s := s) hX0.pins (by omega)) ?_
 rintro _ w3 ⟨u1, G2, rfl, hr4, hx5⟩
 refine ⟨_, rfl, ?_⟩
 have hX6 := hX0.tr hx5
 have hpa := psF_all (s := s)
 refine qd rfl rfl rfl (r_move (v := (.tuple #[u1, (.bool (psB s))])) rfl) (qd rfl rfl rfl (r_extract (v := u1) rfl rfl) (qd rfl rfl rfl (r_extract (v := (.bool (psB s))) rfl rfl) (qd rfl rfl rfl (r_assign (v := u1) rfl) (qd rfl rfl rfl (r_assign (v := (.bool (psB s))) rfl) (qe (s_then (s_seq (s_seq (c_reg ?_)))))))))
 refine qd rfl rfl rfl (r_move (v := (.bool (psB s))) rfl) (qd rfl rfl rfl (r_not rfl) (qe (s_then ?_)))
 refine c_ifn rfl rfl (fun h7 => ?_) (fun h7 => ?_)
 refine wp_skip (s_then (s_seq (c_reg ?_)))
 refine qd rfl rfl rfl (r_move (v := u1) rfl) (q1 rfl rfl rfl (o_call (vs := [u1]) Tryz.func13 nm13 rfl rfl rfl ?_))
 refine Calls.mono (l24Parts_spec hX6.pins hr4 hpa.1 hpa.2) ?_
 rintro _ w10 ⟨u8, G9, rfl, hr11, hx12⟩
 refine ⟨_, rfl, ?_⟩
 have hX13 := hX6.tr hx12
 refine qd rfl rfl rfl (r_assign (v := u8) rfl) (qd rfl rfl rfl (r_assign (v := (.bool true)) rfl) (qe (s_then ?_)))
 exact wp_ret (s_ret (c_ret2 (v := u8) (u := (.bool true)) rfl rfl rfl rfl rfl (⟨_, _, (by rw [h7]), hr11, hX13⟩)))
 refine s_seq (c_reg ?_)
 refine qd rfl rfl rfl (r_assign (v := (.slice none 0 0)) rfl) (qd rfl rfl rfl (r_assign (v := (.bool false)) rfl) (qe (s_then ?_)))
 exact wp_ret (s_ret (c_ret2 (v := (.slice none 0 0)) (u := (.bool false)) rfl rfl rfl rfl rfl (⟨_, _, (by rw [h7]), (by rw [posP_no h7]; exact (nil_reads _ _)), hX6⟩)))

end QR4
end Go.Proofs.YtianphgdbfekdaaGreatDoor

set_option maxRecDepth 20000
set_option maxHeartbeats 2000000
namespace Go.Proofs.YtianphgdbfekdaaGreatDoor
namespace LPP
open Go.RowKit Go.GL Go.Proofs
open PWL QR2 QR4





theorem law {w : World} {G : Pin} {s : ByteArray} (hP : Pins G w) (hM : MxG 0 G) :
  Calls Tryz.prog 3 [(.string s)].toArray w fun e w' => ∃ G', e = .returned (.bool true) ∧ Ext noS G w G' w' := by
 refine s_enter (n := 66) Tryz.func3 Tryz.ntmps3 rfl rfl ?_
 have hX0 : Ext noS G w G w := Ext.refl hP
 have hgl := posP_len (s := s)
 refine s_seq (c_reg ?_)
 refine qd rfl rfl rfl (r_assign (v := (.bool false)) rfl) (qe (s_then (s_seq (s_seq (c_reg ?_)))))
 refine qd rfl rfl rfl (r_move (v := (.string s)) rfl) (qd rfl rfl rfl (r_lenS Tryz.underlying9 rfl) (qd rfl rfl rfl (r_gtr rfl rfl) (qe (s_then ?_))))
 refine c_ifd (p := (1048576 : Int) < (s.size : Int)) rfl rfl (fun h1 => ?_) (fun h1 => ?_)
 refine s_seq (c_reg ?_)
 refine qd rfl rfl rfl (r_assign (v := (.bool true)) rfl) (qe (s_then ?_))
 exact wp_ret (s_ret (c_ret1 (v := (.bool true)) rfl rfl rfl (⟨_, rfl, hX0⟩)))
 refine wp_skip (s_then (s_seq (c_reg ?_)))
 refine qd rfl rfl rfl (r_move (v := (.string s)) rfl) (q1 rfl rfl rfl (o_call (vs := [(.string s)]) Tryz.func5 nm5 rfl rfl rfl ?_))
 refine Calls.mono (sPositionParts_spec (s := s) hX0.pins (by omega)) ?_
 rintro _ w4 ⟨u2, G3, rfl, hr5, hx6⟩
 refine ⟨_, rfl, ?_⟩
 have hX7 := hX0.tr hx6
 refine qd rfl rfl rfl (r_move (v := (.tuple #[u2, (.bool (psB s))])) rfl) (qd rfl rfl rfl (r_extract (v := u2) rfl rfl) (qd rfl rfl rfl (r_extract (v := (.bool (psB s))) rfl rfl) (qd rfl rfl rfl (r_assign (v := u2) rfl) (qd rfl rfl rfl (r_assign (v := (.bool (psB s))) rfl) (qe (s_then (s_seq (c_reg ?_))))))))
 refine qd rfl rfl rfl (r_move (v := (.string s)) rfl) (q1 rfl rfl rfl (o_call (vs := [(.string s)]) Tryz.func6 nm6 rfl rfl rfl ?_))
 refine Calls.mono (iPositionParts_spec (s := s) hX7.pins (hM.le hx6.le) (by omega)) ?_
 rintro _ w10 ⟨u8, G9, rfl, ho11, hx12⟩
 refine ⟨_, rfl, ?_⟩
 have hX13 := hX7.tr hx12
 have ho14 : Own eStr 9 G9 w10 w.heap.size u8 (posP s) := ho11.weaken hX7.size
 refine qd rfl rfl rfl (r_move (v := (.tuple #[u8, (.bool (psB s))])) rfl) (qd rfl rfl rfl (r_extract (v := u8) rfl rfl) (qd rfl rfl rfl (r_extract (v := (.bool (psB s))) rfl rfl) (qd rfl rfl rfl (r_assign (v := u8) rfl) (qd rfl rfl rfl (r_assign (v := (.bool (psB s))) rfl) (qe (s_then (s_seq (s_seq (c_reg ?_)))))))))
 refine qd rfl rfl rfl (r_move (v := u8) rfl) (qd rfl rfl rfl (r_move (v := u2) rfl) (q1 rfl rfl rfl (o_call (vs := [u8, u2]) Tryz.func7 nm7 rfl rfl rfl ?_)))
 refine Calls.mono (eqStringS_same (Gadd.pins hX13.pins u8) ho14.read ((hr5.mono hx12.le).mono (Gadd.le _ _ _))) ?_
 rintro _ w15 ⟨rfl, hx16⟩
 refine ⟨_, rfl, ?_⟩
 have hX17 := hX13.step (hX13.pins.below hx16.below) hx16.below
 have ho18 := ho14.below hx16.below
 refine qd rfl rfl rfl (r_not rfl) (qd rfl rfl rfl (r_move (v := (.bool false)) rfl) (qdg rfl rfl rfl rfl rfl rfl (r_move (v := (.bool (psB s))) rfl) (qdg rfl rfl rfl rfl rfl rfl (r_move (v := (.bool (psB s))) rfl) (qdg rfl rfl rfl rfl rfl rfl (r_neqB_same Tryz.underlying4 rfl rfl) (qd rfl rfl rfl (r_pickF (v := (.bool false)) rfl rfl) (qe (s_then ?_)))))))
 refine c_ifF rfl rfl (wp_skip (s_then (s_seq (c_reg ?_))))
 refine qd rfl rfl rfl (r_assign (v := (.int .i64 1)) rfl) (qe (s_then (s_seq (c_reg ?_))))
 refine qd rfl rfl rfl (r_move (v := u8) rfl) (qd rfl rfl rfl (r_move (v := (.int .i64 1)) rfl) ?_)
 have hlo23 : Lo w noS u8.ownBlock := (lo_own ho18)
 refine q1 rfl rfl rfl (o_call (vs := [u8, (.int .i64 1)]) Tryz.func8 nm8 rfl rfl rfl ?_)
 refine Calls.mono (markStringS_spec hX17.pins (ho18.weaken (Nat.zero_le _)) (by omega) (by omega)) ?_
 rintro _ w19 ⟨rfl, ho20, hx21⟩
 refine ⟨_, rfl, ?_⟩
 have hx22 := inV_O9 hx21
 have hX24 := hX17.trans hx22 (fun i hi => hlo23 i hi)
 have ho25 := ho20.up (lo := w.heap.size) (fun k hk => (hlo23 k hk).elim id (fun h => h.elim))
 refine qd rfl rfl rfl (r_assign (v := (.int .i64 (1 + ((posP s).length : Int)))) rfl) (qe (s_then (s_seq (c_reg ?_))))
 refine qd rfl rfl rfl (r_assign (v := (.int .i64 1)) rfl) (qe (s_then (s_seq (c_reg ?_))))
 refine qd rfl rfl rfl (r_move (v := u8) rfl) (qd rfl rfl rfl (r_move (v := (.int .i64 1)) rfl) ?_)
 obtain ⟨G26, hle29, hX28, hr27, hf30⟩ := ho25.sealed hX24
 refine q1 rfl rfl rfl (o_call (vs := [u8, (.int .i64 1)]) Tryz.func9 nm9 rfl rfl rfl ?_)
 refine Calls.mono (heldStringS_spec (n := (posP s).length) (kz := 1) hX28.pins hr27 (by omega) (by omega)) ?_
 rintro _ w31 ⟨rfl, hx32⟩
 refine ⟨_, rfl, ?_⟩
 have hX33 := hX28.step hx32.pins hx32.below
 refine qd rfl rfl rfl (r_assign (v := (.int .i64 (1 + ((posP s).length : Int)))) rfl) (qe (s_then (s_seq (s_seq (c_reg ?_)))))
 refine qd rfl rfl rfl (r_move (v := (.int .i64 (1 + ((posP s).length : Int)))) rfl) (qd rfl rfl rfl (r_lss rfl rfl) (qe (s_then ?_)))
 refine c_ifd (p := (1 + ((posP s).length : Int) : Int) < 0) rfl rfl (fun h34 => ?_) (fun h34 => ?_)
 refine s_seq (c_reg ?_)
 refine qd rfl rfl rfl (r_assign (v := (.bool false)) rfl) (qe (s_then ?_))
 refine wp_ret (s_ret (c_ret1 (v := (.bool false)) rfl rfl rfl ?_))
 exfalso
 first | omega | simp_all
 refine wp_skip (s_then (s_seq (s_seq (c_reg ?_))))
 refine qd rfl rfl rfl (r_move (v := (.int .i64 (1 + ((posP s).length : Int)))) rfl) (qd rfl rfl rfl (r_move (v := (.int .i64 (1 + ((posP s).length : Int)))) rfl) (qd rfl rfl rfl (r_neq rfl rfl) (qe (s_then ?_))))
 refine c_ifd (p := (1 + ((posP s).length : Int) : Int) ≠ (1 + ((posP s).length : Int))) rfl rfl (fun h35 => ?_) (fun h35 => ?_)
 refine s_seq (c_reg ?_)
 refine qd rfl rfl rfl (r_assign (v := (.bool false)) rfl) (qe (s_then ?_))
 refine wp_ret (s_ret (c_ret1 (v := (.bool false)) rfl rfl rfl ?_))
 exfalso
 first | omega | simp_all
 refine wp_skip (s_then (s_seq (c_reg ?_)))
 refine qd rfl rfl rfl (r_move (v := (.string s)) rfl) (q1 rfl rfl rfl (o_call (vs := [(.string s)]) Tryz.func6 nm6 rfl rfl rfl ?_))
 refine Calls.mono (iPositionParts_spec (s := s) hX33.pins (hM.le (Pin.le_trans (Pin.le_trans hx6.le hx12.le) hle29)) (by omega)) ?_
 rintro _ w38 ⟨u36, G37, rfl, ho39, hx40⟩
 refine ⟨_, rfl, ?_⟩
 have hX41 := hX33.tr hx40
 have ho42 : Own eStr 9 G37 w38 w.heap.size u36 (posP s) := ho39.weaken hX33.size
 refine qd rfl rfl rfl (r_move (v := (.tuple #[u36, (.bool (psB s))])) rfl) (qd rfl rfl rfl (r_extract (v := u36) rfl rfl) (qd rfl rfl rfl (r_extract (v := (.bool (psB s))) rfl rfl) (qd rfl rfl rfl (r_assign (v := u36) rfl) (qd rfl rfl rfl (r_assign (v := (.bool (psB s))) rfl) (qe (s_then (s_seq (s_seq (c_reg ?_)))))))))
 refine qd rfl rfl rfl (r_move (v := u36) rfl) (qd rfl rfl rfl (r_move (v := u2) rfl) (q1 rfl rfl rfl (o_call (vs := [u36, u2]) Tryz.func7 nm7 rfl rfl rfl ?_)))
 refine Calls.mono (eqStringS_same (Gadd.pins hX41.pins u36) ho42.read ((hr5.mono (Pin.le_trans (Pin.le_trans hx12.le hle29) hx40.le)).mono (Gadd.le _ _ _))) ?_
 rintro _ w43 ⟨rfl, hx44⟩
 refine ⟨_, rfl, ?_⟩
 have hX45 := hX41.step (hX41.pins.below hx44.below) hx44.below
 refine qd rfl rfl rfl (r_not rfl) (qd rfl rfl rfl (r_move (v := (.bool false)) rfl) (qdg rfl rfl rfl rfl rfl rfl (r_move (v := (.bool (psB s))) rfl) (qdg rfl rfl rfl rfl rfl rfl (r_move (v := (.bool (psB s))) rfl) (qdg rfl rfl rfl rfl rfl rfl (r_neqB_same Tryz.underlying4 rfl rfl) (qd rfl rfl rfl (r_pickF (v := (.bool false)) rfl rfl) (qe (s_then ?_)))))))
 refine c_ifF rfl rfl (wp_skip (s_then (s_seq (c_reg ?_))))
 refine qd rfl rfl rfl (r_assign (v := (.int .i64 1)) rfl) (qe (s_then (s_seq (c_reg ?_))))
 refine qd rfl rfl rfl (r_move (v := u8) rfl) (qd rfl rfl rfl (r_move (v := (.int .i64 1)) rfl) (q1 rfl rfl rfl (o_call (vs := [u8, (.int .i64 1)]) Tryz.func9 nm9 rfl rfl rfl ?_)))
 refine Calls.mono (heldStringS_spec (n := (posP s).length) (kz := 1) hX45.pins (hr27.mono hx40.le) (by omega) (by omega)) ?_
 rintro _ w47 ⟨rfl, hx48⟩
 refine ⟨_, rfl, ?_⟩
 have hX49 := hX45.step hx48.pins hx48.below
 refine qd rfl rfl rfl (r_assign (v := (.int .i64 (1 + ((posP s).length : Int)))) rfl) (qe (s_then (s_seq (s_seq (c_reg ?_)))))
 refine qd rfl rfl rfl (r_move (v := (.int .i64 (1 + ((posP s).length : Int)))) rfl) (qd rfl rfl rfl (r_lss rfl rfl) (qe (s_then ?_)))
 refine c_ifd (p := (1 + ((posP s).length : Int) : Int) < 0) rfl rfl (fun h => absurd h h34) (fun _ => ?_)
 refine wp_skip (s_then (s_seq (s_seq (c_reg ?_))))
 refine qd rfl rfl rfl (r_move (v := (.int .i64 (1 + ((posP s).length : Int)))) rfl) (qd rfl rfl rfl (r_move (v := (.int .i64 (1 + ((posP s).length : Int)))) rfl) (qd rfl rfl rfl (r_neq rfl rfl) (qe (s_then ?_))))
 refine c_ifd (p := (1 + ((posP s).length : Int) : Int) ≠ (1 + ((posP s).length : Int))) rfl rfl (fun h => absurd h h35) (fun _ => ?_)
 refine wp_skip (s_then (s_seq (c_reg ?_)))
 refine qd rfl rfl rfl (r_assign (v := (.bool true)) rfl) (qe (s_then ?_))
 exact wp_ret (s_ret (c_ret1 (v := (.bool true)) rfl rfl rfl (⟨_, rfl, hX49⟩)))

end LPP
end Go.Proofs.YtianphgdbfekdaaGreatDoor
