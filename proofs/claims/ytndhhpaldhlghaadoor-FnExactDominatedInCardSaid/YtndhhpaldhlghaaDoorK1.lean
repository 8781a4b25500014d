/- Walks, printed by a program (walkgen.py) from the spec specs_k. -/
import Derived.Test.YtndhhpaldhlghaaDoorChecked
import Derived.Test.YtndhhpaldhlghaaDoorRow
import Derived.Test.YtndhhpaldhlghaaDoorKey
set_option maxRecDepth 20000
set_option maxHeartbeats 2000000
namespace Go.Proofs.YtndhhpaldhlghaaDoor
namespace K1
open Go.RowKit Go.GL Go.Proofs
theorem ap5 : (Tryd.prog.info? 5).map (fun i => (i.size, i.bytes, (i.zero.map (·.cells.size)))) = some (1, 1, some 1) := by kernel_rfl
theorem nm100 : (Tryd.f100.name == "runtime.NumGoroutine") = false := by kernel_rfl
theorem nm115 : (Tryd.f115.name == "runtime.NumGoroutine") = false := by kernel_rfl
theorem nm123 : (Tryd.f123.name == "runtime.NumGoroutine") = false := by kernel_rfl
theorem nm97 : (Tryd.f97.name == "runtime.NumGoroutine") = false := by kernel_rfl
theorem sz5 : (Tryd.prog.info? 5).map (·.size) = some 1 := by kernel_rfl
theorem zr144 : (Tryd.prog.info? 144).bind (·.zero) = some (.agg #[(.int .u8 0), (.int .u8 0), (.int .u8 0), (.int .u8 0), (.int .u8 0), (.int .u8 0), (.int .u8 0), (.int .u8 0), (.int .u8 0), (.int .u8 0), (.int .u8 0), (.int .u8 0), (.int .u8 0), (.int .u8 0), (.int .u8 0), (.int .u8 0), (.int .u8 0), (.int .u8 0), (.int .u8 0), (.int .u8 0), (.int .u8 0), (.int .u8 0), (.int .u8 0), (.int .u8 0), (.int .u8 0), (.int .u8 0), (.int .u8 0), (.int .u8 0), (.int .u8 0), (.int .u8 0), (.int .u8 0), (.int .u8 0), (.int .u8 0), (.int .u8 0), (.int .u8 0), (.int .u8 0), (.int .u8 0), (.int .u8 0), (.int .u8 0), (.int .u8 0), (.int .u8 0), (.int .u8 0), (.int .u8 0), (.int .u8 0), (.int .u8 0), (.int .u8 0), (.int .u8 0), (.int .u8 0), (.int .u8 0), (.int .u8 0), (.int .u8 0), (.int .u8 0), (.int .u8 0), (.int .u8 0), (.int .u8 0), (.int .u8 0), (.int .u8 0), (.int .u8 0), (.int .u8 0), (.int .u8 0), (.int .u8 0), (.int .u8 0), (.int .u8 0), (.int .u8 0), (.int .u8 0)]) := by kernel_rfl

theorem isPow_spec {w : World} {G : Pin} (hP : Pins G w) :
    Calls Tryd.prog 123 [(.int .i64 36)].toArray w fun e w' => e = .returned (.bool false) ∧ w' = w := by
  refine s_enter (n := 8) Tryd.func123 Tryd.ntmps123 rfl rfl ?_
  have hX0 : Ext noS G w G w := Ext.refl hP
  refine s_seq ?_
  refine c_reg ?_
  refine qd rfl rfl rfl (r_assign (v := (.bool false)) rfl) ?_
  refine qe ?_
  refine s_then ?_
  refine s_seq ?_
  refine c_reg ?_
  refine qd rfl rfl rfl (r_move (v := (.int .i64 36)) rfl) ?_
  refine qd rfl rfl rfl (r_move (v := (.int .i64 36)) rfl) ?_
  refine qd rfl rfl rfl (r_sub rfl rfl (by omega)) ?_
  refine qd rfl rfl rfl (r_and rfl rfl) ?_
  refine qd rfl rfl rfl (r_eql rfl rfl) ?_
  refine qd rfl rfl rfl (r_assign (v := (.bool (decide ((andW .i64 36 (36 - 1) : Int) = 0)))) rfl) ?_
  refine qe ?_
  refine s_then ?_
  refine wp_ret ?_
  refine s_ret ?_
  refine c_ret1 (v := (.bool (decide ((andW .i64 36 (36 - 1) : Int) = 0)))) rfl rfl rfl ?_
  exact ⟨congrArg (fun z => Ending.returned (Value.bool z)) not_pow36, rfl⟩

theorem formatBits_spec {w : World} {G : Pin} {v : Value} {xs : List UInt8} {i : Int} (hP : Pins G w) (hv : Own eByte 5 G w 0 v xs) (hxl : xs.length ≤ 1099511627776) (hi : 0 ≤ i ∧ i ≤ 9223372036854775807) :
    Calls Tryd.prog 115 [v, (.int .u64 i), (.int .i64 36), (.bool false), (.bool true)].toArray w fun e w' => ∃ (u : Value) (G' : Pin), e = .returned (.tuple #[u, .string (⟨#[]⟩ : ByteArray)]) ∧ Own eByte 5 G' w' 0 u (xs ++ dig36 i.toNat) ∧ Lo w (inO v.ownBlock) u.ownBlock ∧ Ext (inO v.ownBlock) G w G' w' := by
  refine s_enter (n := 102) Tryd.func115 Tryd.ntmps115 rfl rfl ?_
  have hX0 : Ext (inO v.ownBlock) G w G w := Ext.refl hP
  have hlov : Lo w (inO v.ownBlock) v.ownBlock := lo_self
  refine s_seq ?_
  refine c_reg ?_
  refine qd rfl rfl rfl (r_assign (v := (.slice none 0 0)) rfl) ?_
  refine qd rfl rfl rfl (r_assign (v := (.string (⟨#[]⟩ : ByteArray))) rfl) ?_
  refine qe ?_
  refine s_then ?_
  refine s_seq ?_
  refine s_seq ?_
  refine c_reg ?_
  refine qd rfl rfl rfl (r_move (v := (.int .i64 36)) rfl) ?_
  refine qd rfl rfl rfl (r_lss rfl rfl) ?_
  refine qd rfl rfl rfl (r_move (v := (.bool false)) rfl) ?_
  refine qdg rfl rfl rfl rfl rfl rfl (r_move (v := (.int .i64 36)) rfl) ?_
  refine qdg rfl rfl rfl rfl rfl rfl (r_eql rfl rfl) ?_
  refine qd rfl rfl rfl (r_pickF (v := (.bool false)) rfl rfl) ?_
  refine qd rfl rfl rfl (r_move (v := (.bool false)) rfl) ?_
  refine qdg rfl rfl rfl rfl rfl rfl (r_move (v := (.int .i64 36)) rfl) ?_
  refine qdg rfl rfl rfl rfl rfl rfl (r_gtr rfl rfl) ?_
  refine qd rfl rfl rfl (r_pickF (v := (.bool false)) rfl rfl) ?_
  refine qe ?_
  refine s_then ?_
  refine c_ifF rfl rfl ?_
  refine wp_skip ?_
  refine s_then ?_
  refine s_seq ?_
  refine c_reg ?_
  refine q1 rfl rfl rfl (o_alloc (arrV (List.replicate 65 0)) zr144 rfl hX0.pins (fun b1 w2 hk3 hb4 hp5 hl6 => ?_))
  have hX7 := hX0.step hp5 hl6
  have ho8 := hv.below hl6
  have ha9 : Apart (some b1) v.ownBlock := new_ne_own (congrArg some hk3) hv.lt
  have hlo10 : w.heap.size ≤ b1 := by have := hX0.size; omega
  refine qe ?_
  refine s_then ?_
  refine s_seq ?_
  refine c_reg ?_
  refine qd rfl rfl rfl (r_assign (v := (.int .i64 65)) rfl) ?_
  refine qe ?_
  refine s_then ?_
  refine s_seq ?_
  refine s_seq ?_
  refine c_reg ?_
  refine qd rfl rfl rfl (r_move (v := (.bool false)) rfl) ?_
  refine qe ?_
  refine s_then ?_
  refine c_ifF rfl rfl ?_
  refine wp_skip ?_
  refine s_then ?_
  refine s_seq ?_
  refine s_seq ?_
  refine c_reg ?_
  refine qd rfl rfl rfl (r_move (v := (.int .i64 36)) rfl) ?_
  refine q1 rfl rfl rfl (o_call (vs := [(.int .i64 36)]) Tryd.func123 nm123 rfl rfl rfl ?_)
  refine Calls.mono (isPow_spec hX7.pins ) ?_
  rintro _ _ ⟨rfl, rfl⟩
  refine ⟨_, rfl, ?_⟩
  refine qe ?_
  refine s_then ?_
  refine c_ifF rfl rfl ?_
  refine s_seq ?_
  refine c_reg ?_
  refine qd rfl rfl rfl (r_move (v := (.int .i64 36)) rfl) ?_
  refine qd rfl rfl rfl (r_conv (j := 36) Tryd.underlying3 Tryd.underlying119 rfl (wrapU (by omega))) ?_
  refine qd rfl rfl rfl (r_assign (v := (.int .u64 36)) rfl) ?_
  refine qe ?_
  refine s_then ?_
  refine s_seq ?_
  refine s_blk ?_
  refine s_loop (fun (k : Nat) (en : Nat → Value) (W : World) => ∃ (env1 : Nat → Value) (uz : Int) (iz : Int) (L : List UInt8), en = (upd (upd (upd (upd (upd (upd (upd (upd (upd env1 0 v) 1 (.int .u64 uz)) 3 (.bool false)) 4 (.bool true)) 10 (.slice none 0 0)) 11 (.string (⟨#[]⟩ : ByteArray))) 12 (.pointer (some ⟨b1, 0, none⟩))) 13 (.int .i64 iz)) 17 (.int .u64 36)) ∧ k = uz.toNat ∧ Ext (inO v.ownBlock) G w G W ∧ (L.length = 65) ∧ (0 ≤ uz ∧ uz ≤ 9223372036854775807) ∧ (iz ≤ 65) ∧ (dig36 i.toNat = dig36 uz.toNat ++ L.drop iz.toNat) ∧ (Own eByte 5 G W 0 v (xs)) ∧ (Bx G W b1 (arrV (L)))) _ ⟨_, i, 65, List.replicate 65 0, (packS (x := 17) (packS (x := 13) (packS (x := 12) (packS (x := 11) (packS (x := 10) (packS (x := 4) (packS (x := 3) (packS (x := 1) (pack1 (x := 0) rfl) rfl) rfl) rfl) rfl) rfl) rfl) rfl) rfl), rfl, hX7, List.length_replicate, hi, (Int.le_refl _), (by simp), ho8, hb4⟩ ?_
  rintro k11 _ w12 ⟨env1, uz, iz, L, rfl, hk13, hX14, hL, hu, hiz, hd, hw15, hw16⟩
  have hpl := dig_place hd hL (by omega)
  refine s_seq ?_
  refine s_seq ?_
  refine c_reg ?_
  refine qd rfl rfl rfl (r_move (v := (.int .u64 uz)) rfl) ?_
  refine qd rfl rfl rfl (r_move (v := (.int .u64 36)) rfl) ?_
  refine qd rfl rfl rfl (r_geq rfl rfl) ?_
  refine qe ?_
  refine s_then ?_
  refine c_ifd (p := (36 : Int) ≤ uz) rfl rfl (fun h17 => ?_) (fun h17 => ?_)
  · skip
    refine wp_skip ?_
    refine s_then ?_
    refine s_blk ?_
    refine s_seq ?_
    refine c_reg ?_
    refine qd rfl rfl rfl (r_move (v := (.int .i64 iz)) rfl) ?_
    refine qd rfl rfl rfl (r_sub rfl rfl (by omega)) ?_
    refine qd rfl rfl rfl (r_assign (v := (.int .i64 (iz - 1))) rfl) ?_
    refine qe ?_
    refine s_then ?_
    refine s_seq ?_
    refine c_reg ?_
    refine qd rfl rfl rfl (r_move (v := (.int .u64 uz)) rfl) ?_
    refine qd rfl rfl rfl (r_move (v := (.int .u64 36)) rfl) ?_
    refine qd rfl rfl rfl (r_quoX rfl rfl (by omega) (by omega) (by omega)) ?_
    refine qd rfl rfl rfl (r_assign (v := (.int .u64 (uz / 36))) rfl) ?_
    refine qe ?_
    refine s_then ?_
    refine s_seq ?_
    refine c_reg ?_
    refine qd rfl rfl rfl (r_move (v := (.int .i64 (iz - 1))) rfl) ?_
    refine qd rfl rfl rfl (r_move (v := (.int .u64 uz)) rfl) ?_
    refine qd rfl rfl rfl (r_move (v := (.int .u64 (uz / 36))) rfl) ?_
    refine qd rfl rfl rfl (r_move (v := (.int .u64 36)) rfl) ?_
    refine qd rfl rfl rfl (r_mulX rfl rfl (by omega)) ?_
    refine qd rfl rfl rfl (r_subX rfl rfl (by omega)) ?_
    refine qd rfl rfl rfl (r_digit Tryd.underlying9 rfl rfl (by omega)) ?_
    refine qd rfl rfl rfl (r_idxb (k := (iz - 1).toNat) Tryd.underlying144 sz5 rfl rfl (by omega) (by omega) (by omega)) ?_
    refine q0 rfl rfl rfl (o_stpk (k := (iz - 1).toNat) (x0 := digC (uz - ((uz / 36) * 36)).toNat) sz5 rfl rfl (by first | omega | (simp only [List.length_set]; omega)) hX14.pins hw16 (fun w18 hb19 hp20 hg21 hz22 => ?_))
    have hX23 := hX14.write hp20 hg21 ((lo_box hlo10))
    have ho24 := hw15.keptA hg21 ha9.symm
    refine qe ?_
    refine s_then ?_
    refine c_reg ?_
    refine qd rfl rfl rfl (r_move (v := (.int .u64 (uz / 36))) rfl) ?_
    refine qd rfl rfl rfl (r_assign (v := (.int .u64 (uz / 36))) rfl) ?_
    refine qe ?_
    refine s_blkN ?_
    refine s_lopN ?_
    refine ⟨_, ?_, _, rfl, _, uz / 36, iz - 1, L.set (iz - 1).toNat (digC (uz - ((uz / 36) * 36)).toNat), (packS (x := 17) (packS (x := 13) (packS (x := 12) (packS (x := 11) (packS (x := 10) (packS (x := 4) (packS (x := 3) (packS (x := 1) (pack1 (x := 0) rfl) rfl) rfl) rfl) rfl) rfl) rfl) rfl) rfl), rfl, hX23, (by rw [List.length_set]; exact hL), (by omega), (by omega), (dig_step hd hL (by omega) (by omega)), ho24, hb19⟩
    omega
  refine wp_exit ?_
  refine s_thenE ?_
  refine s_lopE ?_
  refine s_blkE ?_
  refine s_then ?_
  refine s_seq ?_
  refine c_reg ?_
  refine qd rfl rfl rfl (r_move (v := (.int .i64 iz)) rfl) ?_
  refine qd rfl rfl rfl (r_sub rfl rfl (by omega)) ?_
  refine qd rfl rfl rfl (r_assign (v := (.int .i64 (iz - 1))) rfl) ?_
  refine qe ?_
  refine s_then ?_
  refine c_reg ?_
  refine qd rfl rfl rfl (r_move (v := (.int .i64 (iz - 1))) rfl) ?_
  refine qd rfl rfl rfl (r_move (v := (.int .u64 uz)) rfl) ?_
  refine qd rfl rfl rfl (r_digit Tryd.underlying9 rfl rfl (by omega)) ?_
  refine qd rfl rfl rfl (r_idxb (k := (iz - 1).toNat) Tryd.underlying144 sz5 rfl rfl (by omega) (by omega) (by omega)) ?_
  refine q0 rfl rfl rfl (o_stpk (k := (iz - 1).toNat) (x0 := digC (uz).toNat) sz5 rfl rfl (by first | omega | (simp only [List.length_set]; omega)) hX14.pins hw16 (fun w25 hb26 hp27 hg28 hz29 => ?_))
  have hX30 := hX14.write hp27 hg28 ((lo_box hlo10))
  have ho31 := hw15.keptA hg28 ha9.symm
  refine qe ?_
  refine s_then ?_
  refine s_seq ?_
  refine s_seq ?_
  refine c_reg ?_
  refine qd rfl rfl rfl (r_move (v := (.bool false)) rfl) ?_
  refine qe ?_
  refine s_then ?_
  refine c_ifF rfl rfl ?_
  refine wp_skip ?_
  refine s_then ?_
  refine s_seq ?_
  refine s_seq ?_
  refine c_reg ?_
  refine qd rfl rfl rfl (r_move (v := (.bool true)) rfl) ?_
  refine qe ?_
  refine s_then ?_
  refine c_ifT rfl rfl ?_
  refine s_seq ?_
  refine c_reg ?_
  refine qd rfl rfl rfl (r_move (v := v) rfl) ?_
  refine qd rfl rfl rfl (r_move (v := (.int .i64 (iz - 1))) rfl) ?_
  obtain ⟨G32, hle33, hX34, hbp35, hf36⟩ := hb26.shut hX30 hlo10
  have ho37 := ho31.moreA hle33 hf36 ha9.symm
  obtain ⟨u38, hr39, hl40⟩ := name_arr (z := iz - 1) (n := 65) hbp35 (by rw [List.length_set]; exact hL) (by omega) (by decide)
  refine qd rfl rfl rfl (hl40 Tryd.underlying144 sz5 rfl rfl) ?_
  refine q1 rfl rfl rfl (o_append (E := eByte) (v := v) (u := u38) 1 Tryd.underlying113 ap5 (by decide) rfl rfl hX34.pins ho37 ((hr39.mono (Pin.le_refl _)).src hX34.pins (by decide)) (by first | omega | (rw [List.nil_append]; omega) | (rw [List.length_nil]; omega) | (rw [List.length_append]; omega) | (simp; done) | (simp; omega) | (simp only [List.length_append, List.length_cons, List.length_nil]; omega)) (by first | omega | (rw [List.nil_append]; omega) | (rw [List.length_nil]; omega) | (rw [List.length_append]; omega) | (simp; done) | (simp; omega) | (simp only [List.length_append, List.length_cons, List.length_nil]; omega)) (Nat.zero_le _) (fun u41 w42 ho43 hp44 hg45 hw46 => ?_))
  have hX47 := hX34.write hp44 hg45 (hlov)
  have hlo48 : Lo w (inO v.ownBlock) u41.ownBlock := lo_app hlov hw46 hX34.size
  have hm49 : (xs ++ ((L.set (iz - 1).toNat (digC (uz).toNat)).drop (iz - 1).toNat)).length = xs.length + ((L.set (iz - 1).toNat (digC (uz).toNat)).drop (iz - 1).toNat).length := List.length_append
  refine qd rfl rfl rfl (r_assign (v := u41) rfl) ?_
  refine qe ?_
  refine s_then ?_
  refine wp_ret ?_
  refine s_ret ?_
  refine c_ret2 (v := u41) (u := (.string (⟨#[]⟩ : ByteArray))) rfl rfl rfl rfl rfl ?_
  have hown := ho43
  rw [dig_last hd hL (by omega) (by omega)] at hown
  exact ⟨_, _, rfl, hown, hlo48, hX47⟩

theorem appendUint_spec {w : World} {G : Pin} {v : Value} {xs : List UInt8} {i : Int} (hP : Pins G w) (hv : Own eByte 5 G w 0 v xs) (hxl : xs.length ≤ 1099511627776) (hi : 0 ≤ i ∧ i ≤ 9223372036854775807) :
    Calls Tryd.prog 100 [v, (.int .u64 i), (.int .i64 36)].toArray w fun e w' => ∃ (u : Value) (G' : Pin), e = .returned u ∧ Own eByte 5 G' w' 0 u (xs ++ dig36 i.toNat) ∧ Lo w (inO v.ownBlock) u.ownBlock ∧ Ext (inO v.ownBlock) G w G' w' := by
  refine s_enter (n := 36) Tryd.func100 Tryd.ntmps100 rfl rfl ?_
  have hX0 : Ext (inO v.ownBlock) G w G w := Ext.refl hP
  have hlov : Lo w (inO v.ownBlock) v.ownBlock := lo_self
  refine s_seq ?_
  refine c_reg ?_
  refine qd rfl rfl rfl (r_assign (v := (.slice none 0 0)) rfl) ?_
  refine qe ?_
  refine s_then ?_
  refine s_seq ?_
  refine s_seq ?_
  refine c_reg ?_
  refine qd rfl rfl rfl (r_move (v := (.int .i64 36)) rfl) ?_
  refine qd rfl rfl rfl (r_eql rfl rfl) ?_
  refine qe ?_
  refine s_then ?_
  refine c_ifF rfl rfl ?_
  refine wp_skip ?_
  refine s_then ?_
  refine s_seq ?_
  refine c_reg ?_
  refine qd rfl rfl rfl (r_move (v := v) rfl) ?_
  refine qd rfl rfl rfl (r_move (v := (.int .u64 i)) rfl) ?_
  refine qd rfl rfl rfl (r_move (v := (.int .i64 36)) rfl) ?_
  refine q1 rfl rfl rfl (o_call (vs := [v, (.int .u64 i), (.int .i64 36), (.bool false), (.bool true)]) Tryd.func115 nm115 rfl rfl rfl ?_)
  refine Calls.mono (formatBits_spec (i := i) hX0.pins hv (by omega) (by omega)) ?_
  rintro _ w3 ⟨u1, G2, rfl, ho4, hlo5, hx6⟩
  refine ⟨_, rfl, ?_⟩
  have hX7 := hX0.trans hx6 (fun i hi => hlov i hi)
  have hlo8 := lo_turn hlo5 hlov hX0.size
  have hm9 : (xs ++ dig36 (i).toNat).length = xs.length + (dig36 (i).toNat).length := List.length_append
  refine qd rfl rfl rfl (r_move (v := (.tuple #[u1, (.string (⟨#[]⟩ : ByteArray))])) rfl) ?_
  refine qd rfl rfl rfl (r_extract (v := u1) rfl rfl) ?_
  refine qd rfl rfl rfl (r_extract (v := (.string (⟨#[]⟩ : ByteArray))) rfl rfl) ?_
  refine qd rfl rfl rfl (r_assign (v := u1) rfl) ?_
  refine qe ?_
  refine s_then ?_
  refine s_seq ?_
  refine c_reg ?_
  refine qd rfl rfl rfl (r_move (v := u1) rfl) ?_
  refine qd rfl rfl rfl (r_assign (v := u1) rfl) ?_
  refine qe ?_
  refine s_then ?_
  refine wp_ret ?_
  refine s_ret ?_
  refine c_ret1 (v := u1) rfl rfl rfl ?_
  exact ⟨_, _, rfl, ho4, hlo8, hX7⟩

theorem iAppendInt_spec {w : World} {G : Pin} {v : Value} {xs : List UInt8} {i : Int} (hP : Pins G w) (hv : Own eByte 5 G w 0 v xs) (hxl : xs.length ≤ 1099511627776) (hi : 0 ≤ i ∧ i ≤ 9223372036854775807) :
    Calls Tryd.prog 97 [v, (.int .i64 i), (.int .i64 36)].toArray w fun e w' => ∃ (u : Value) (G' : Pin), e = .returned u ∧ Own eByte 5 G' w' 0 u (xs ++ dig36 i.toNat) ∧ Lo w (inO v.ownBlock) u.ownBlock ∧ Ext (inO v.ownBlock) G w G' w' := by
  refine s_enter (n := 21) Tryd.func97 Tryd.ntmps97 rfl rfl ?_
  have hX0 : Ext (inO v.ownBlock) G w G w := Ext.refl hP
  have hlov : Lo w (inO v.ownBlock) v.ownBlock := lo_self
  refine s_seq ?_
  refine c_reg ?_
  refine qd rfl rfl rfl (r_assign (v := (.slice none 0 0)) rfl) ?_
  refine qe ?_
  refine s_then ?_
  refine s_seq ?_
  refine c_reg ?_
  refine qd rfl rfl rfl (r_move (v := (.int .i64 i)) rfl) ?_
  refine qd rfl rfl rfl (r_conv (j := i) Tryd.underlying2 Tryd.underlying119 rfl (wrapU (by omega))) ?_
  refine qd rfl rfl rfl (r_assign (v := (.int .u64 i)) rfl) ?_
  refine qe ?_
  refine s_then ?_
  refine s_seq ?_
  refine s_seq ?_
  refine c_reg ?_
  refine qd rfl rfl rfl (r_move (v := (.int .i64 i)) rfl) ?_
  refine qd rfl rfl rfl (r_lss rfl rfl) ?_
  refine qe ?_
  refine s_then ?_
  refine c_ifd (p := (i : Int) < 0) rfl rfl (fun h1 => ?_) (fun h1 => ?_)
  · skip
    exfalso; omega
  refine wp_skip ?_
  refine s_then ?_
  refine s_seq ?_
  refine c_reg ?_
  refine qd rfl rfl rfl (r_move (v := v) rfl) ?_
  refine qd rfl rfl rfl (r_move (v := (.int .u64 i)) rfl) ?_
  refine qd rfl rfl rfl (r_move (v := (.int .i64 36)) rfl) ?_
  refine q1 rfl rfl rfl (o_call (vs := [v, (.int .u64 i), (.int .i64 36)]) Tryd.func100 nm100 rfl rfl rfl ?_)
  refine Calls.mono (appendUint_spec (i := i) hX0.pins hv (by omega) (by omega)) ?_
  rintro _ w4 ⟨u2, G3, rfl, ho5, hlo6, hx7⟩
  refine ⟨_, rfl, ?_⟩
  have hX8 := hX0.trans hx7 (fun i hi => hlov i hi)
  have hlo9 := lo_turn hlo6 hlov hX0.size
  have hm10 : (xs ++ dig36 (i).toNat).length = xs.length + (dig36 (i).toNat).length := List.length_append
  refine qd rfl rfl rfl (r_assign (v := u2) rfl) ?_
  refine qe ?_
  refine s_then ?_
  refine wp_ret ?_
  refine s_ret ?_
  refine c_ret1 (v := u2) rfl rfl rfl ?_
  exact ⟨_, _, rfl, ho5, hlo9, hX8⟩

theorem appendInt_spec {w : World} {G : Pin} {v : Value} {xs : List UInt8} {i : Int} (hP : Pins G w) (hv : Own eByte 5 G w 0 v xs) (hxl : xs.length ≤ 1099511627776) (hi : 0 ≤ i ∧ i ≤ 9223372036854775807) :
    Calls Tryd.prog 92 [v, (.int .i64 i), (.int .i64 36)].toArray w fun e w' => ∃ (u : Value) (G' : Pin), e = .returned u ∧ Own eByte 5 G' w' 0 u (xs ++ dig36 i.toNat) ∧ Lo w (inO v.ownBlock) u.ownBlock ∧ Ext (inO v.ownBlock) G w G' w' := by
  refine s_enter (n := 11) Tryd.func92 Tryd.ntmps92 rfl rfl ?_
  have hX0 : Ext (inO v.ownBlock) G w G w := Ext.refl hP
  have hlov : Lo w (inO v.ownBlock) v.ownBlock := lo_self
  refine s_seq ?_
  refine c_reg ?_
  refine qd rfl rfl rfl (r_assign (v := (.slice none 0 0)) rfl) ?_
  refine qe ?_
  refine s_then ?_
  refine s_seq ?_
  refine c_reg ?_
  refine qd rfl rfl rfl (r_move (v := v) rfl) ?_
  refine qd rfl rfl rfl (r_move (v := (.int .i64 i)) rfl) ?_
  refine qd rfl rfl rfl (r_move (v := (.int .i64 36)) rfl) ?_
  refine q1 rfl rfl rfl (o_call (vs := [v, (.int .i64 i), (.int .i64 36)]) Tryd.func97 nm97 rfl rfl rfl ?_)
  refine Calls.mono (iAppendInt_spec (i := i) hX0.pins hv (by omega) (by omega)) ?_
  rintro _ w3 ⟨u1, G2, rfl, ho4, hlo5, hx6⟩
  refine ⟨_, rfl, ?_⟩
  have hX7 := hX0.trans hx6 (fun i hi => hlov i hi)
  have hlo8 := lo_turn hlo5 hlov hX0.size
  have hm9 : (xs ++ dig36 (i).toNat).length = xs.length + (dig36 (i).toNat).length := List.length_append
  refine qd rfl rfl rfl (r_assign (v := u1) rfl) ?_
  refine qe ?_
  refine s_then ?_
  refine wp_ret ?_
  refine s_ret ?_
  refine c_ret1 (v := u1) rfl rfl rfl ?_
  exact ⟨_, _, rfl, ho4, hlo8, hX7⟩

end K1
end Go.Proofs.YtndhhpaldhlghaaDoor
