/- Texts of this claim in one file: K1, PO1, PL1, PA1, SO1, OD1, FO1, NG1, NF1, SM1, NU1, NU3, NB4, NB5, NB6, OR1, SF1. -/
import Derived.Test.YtfnginkcmcfdfaaGreatDoorFp5
import Derived.Test.YtfnginkcmcfdfaaGreatDoorChecked
set_option maxRecDepth 20000
set_option maxHeartbeats 2000000
namespace Go.Proofs.YtfnginkcmcfdfaaGreatDoor
namespace K1
open Go.RowKit Go.GL Go.Proofs







theorem isPow_spec {w : World} {G : Pin} (hP : Pins G w) :
  Calls Tryz.prog 222 [(.int .i64 36)].toArray w fun e w' => e = .returned (.bool false) ∧ w' = w := by
 refine zW (n := 8) Tryz.func222 Tryz.ntmps222 rfl rfl ?_
 have hX0 : Ext noS G w G w := Ext.refl hP
 refine zD (zF ?_)
 refine qD rfl (zC (v := (.bool false)) rfl) ?_
 refine qe (zA (zD (zF ?_)))
 refine qD rfl (zB (v := (.int .i64 36)) rfl) ?_
 refine qD rfl (zB (v := (.int .i64 36)) rfl) ?_
 refine qD rfl (qH rfl rfl (by omega)) ?_
 refine qD rfl (r_and rfl rfl) ?_
 refine qD rfl (qJ rfl rfl) ?_
 refine qD rfl (zC (v := (.bool (decide ((andW .i64 36 (36 - 1) : Int) = 0)))) rfl) ?_
 refine qe (zA ?_)
 refine wp_ret ?_
 refine zR ?_
 refine zO (v := (.bool (decide ((andW .i64 36 (36 - 1) : Int) = 0)))) rfl rfl rfl ?_
 exact ⟨congrArg (fun z => Ending.returned (Value.bool z)) not_pow36, rfl⟩

theorem formatBits_spec {w : World} {G : Pin} {v : Value} {xs : List UInt8} {i : Int} (hP : Pins G w) (hv : Own eByte 5 G w 0 v xs) (hxl : xs.length ≤ 1099511627776) (hi : 0 ≤ i ∧ i ≤ 9223372036854775807) :
  Calls Tryz.prog 214 [v, (.int .u64 i), (.int .i64 36), (.bool false), (.bool true)].toArray w fun e w' => ∃ (u : Value) (G' : Pin), e = .returned (.tuple #[u, .string (⟨#[]⟩ : ByteArray)]) ∧ Own eByte 5 G' w' 0 u (xs ++ dig36 i.toNat) ∧ Lo w (inO v.ownBlock) u.ownBlock ∧ Ext (inO v.ownBlock) G w G' w' := by
 refine zW (n := 102) Tryz.func214 Tryz.ntmps214 rfl rfl ?_
 have hX0 : Ext (inO v.ownBlock) G w G w := Ext.refl hP
 have hlov : Lo w (inO v.ownBlock) v.ownBlock := qM
 refine zD (zF ?_)
 refine qD rfl (zC (v := (.slice none 0 0)) rfl) ?_
 refine qD rfl (zC (v := (.string (⟨#[]⟩ : ByteArray))) rfl) ?_
 refine qe (zA (zD (zD (zF ?_))))
 refine qD rfl (zB (v := (.int .i64 36)) rfl) ?_
 refine qD rfl (yN rfl rfl) ?_
 refine qD rfl (zB (v := (.bool false)) rfl) ?_
 refine qdg rfl rfl rfl rfl rfl rfl (zB (v := (.int .i64 36)) rfl) ?_
 refine qdg rfl rfl rfl rfl rfl rfl (qJ rfl rfl) ?_
 refine qD rfl (yT (v := (.bool false)) rfl rfl) ?_
 refine qD rfl (zB (v := (.bool false)) rfl) ?_
 refine qdg rfl rfl rfl rfl rfl rfl (zB (v := (.int .i64 36)) rfl) ?_
 refine qdg rfl rfl rfl rfl rfl rfl (r_gtr rfl rfl) ?_
 refine qD rfl (yT (v := (.bool false)) rfl rfl) ?_
 refine qe (zA ?_)
 refine qP rfl rfl ?_
 refine wp_skip ?_
 refine zA (zD (zF ?_))
 refine qI rfl (yW (arrV (List.replicate 65 0)) zr211 rfl hX0.pins (fun b1 w2 hk3 hb4 hp5 hl6 => ?_))
 have hX7 := hX0.step hp5 hl6
 have ho8 := hv.below hl6
 have ha9 : Apart (some b1) v.ownBlock := zH (congrArg some hk3) hv.lt
 have hlo10 : w.heap.size ≤ b1 := by have := hX0.size; omega
 refine qe (zA (zD (zF ?_)))
 refine qD rfl (zC (v := (.int .i64 65)) rfl) ?_
 refine qe (zA (zD (zD (zF ?_))))
 refine qD rfl (zB (v := (.bool false)) rfl) ?_
 refine qe (zA ?_)
 refine qP rfl rfl ?_
 refine wp_skip ?_
 refine zA (zD (zD (zF ?_)))
 refine qD rfl (zB (v := (.int .i64 36)) rfl) ?_
 refine qI rfl (zN (vs := [(.int .i64 36)]) Tryz.func222 nm222 rfl rfl rfl ?_)
 refine Calls.mono (isPow_spec hX7.pins ) ?_
 rintro _ _ ⟨rfl, rfl⟩
 refine ⟨_, rfl, ?_⟩
 refine qe (zA ?_)
 refine qP rfl rfl ?_
 refine zD (zF ?_)
 refine qD rfl (zB (v := (.int .i64 36)) rfl) ?_
 refine qD rfl (r_conv (j := 36) Tryz.underlying3 Tryz.underlying175 rfl (wrapU (by omega))) ?_
 refine qD rfl (zC (v := (.int .u64 36)) rfl) ?_
 refine qe (zA (zD ?_))
 refine zX ?_
 refine yK (fun (k : Nat) (en : Nat → Value) (W : World) => ∃ (env1 : Nat → Value) (uz : Int) (iz : Int) (L : List UInt8), en = (upd (upd (upd (upd (upd (upd (upd (upd (upd env1 0 v) 1 (.int .u64 uz)) 3 (.bool false)) 4 (.bool true)) 10 (.slice none 0 0)) 11 (.string (⟨#[]⟩ : ByteArray))) 12 (.pointer (some ⟨b1, 0, none⟩))) 13 (.int .i64 iz)) 17 (.int .u64 36)) ∧ k = uz.toNat ∧ Ext (inO v.ownBlock) G w G W ∧ (L.length = 65) ∧ (0 ≤ uz ∧ uz ≤ 9223372036854775807) ∧ (iz ≤ 65) ∧ (dig36 i.toNat = dig36 uz.toNat ++ L.drop iz.toNat) ∧ (Own eByte 5 G W 0 v (xs)) ∧ (Bx G W b1 (arrV (L)))) _ ⟨_, i, 65, List.replicate 65 0, (zE (x := 17) (zE (x := 13) (zE (x := 12) (zE (x := 11) (zE (x := 10) (zE (x := 4) (zE (x := 3) (zE (x := 1) (zV (x := 0) rfl) rfl) rfl) rfl) rfl) rfl) rfl) rfl) rfl), rfl, hX7, List.length_replicate, hi, (Int.le_refl _), (by simp), ho8, hb4⟩ ?_
 rintro k11 _ w12 ⟨env1, uz, iz, L, rfl, hk13, hX14, hL, hu, hiz, hd, hw15, hw16⟩
 have hpl := dig_place hd hL (by omega)
 refine zD (zD (zF ?_))
 refine qD rfl (zB (v := (.int .u64 uz)) rfl) ?_
 refine qD rfl (zB (v := (.int .u64 36)) rfl) ?_
 refine qD rfl (r_geq rfl rfl) ?_
 refine qe (zA ?_)
 refine yA (p := (36 : Int) ≤ uz) rfl rfl (fun h17 => ?_) (fun h17 => ?_)
 ·skip
  refine wp_skip ?_
  refine zA ?_
  refine zX ?_
  refine zD (zF ?_)
  refine qD rfl (zB (v := (.int .i64 iz)) rfl) ?_
  refine qD rfl (qH rfl rfl (by omega)) ?_
  refine qD rfl (zC (v := (.int .i64 (iz - 1))) rfl) ?_
  refine qe (zA (zD (zF ?_)))
  refine qD rfl (zB (v := (.int .u64 uz)) rfl) ?_
  refine qD rfl (zB (v := (.int .u64 36)) rfl) ?_
  refine qD rfl (r_quoX rfl rfl (by omega) (by omega) (by omega)) ?_
  refine qD rfl (zC (v := (.int .u64 (uz / 36))) rfl) ?_
  refine qe (zA (zD (zF ?_)))
  refine qD rfl (zB (v := (.int .i64 (iz - 1))) rfl) ?_
  refine qD rfl (zB (v := (.int .u64 uz)) rfl) ?_
  refine qD rfl (zB (v := (.int .u64 (uz / 36))) rfl) ?_
  refine qD rfl (zB (v := (.int .u64 36)) rfl) ?_
  refine qD rfl (r_mulX rfl rfl (by omega)) ?_
  refine qD rfl (r_subX rfl rfl (by omega)) ?_
  refine qD rfl (r_digit Tryz.underlying9 rfl rfl (by omega)) ?_
  refine qD rfl (r_idxb (k := (iz - 1).toNat) Tryz.underlying211 sz5 rfl rfl (by omega) (by omega) (by omega)) ?_
  refine q0 rfl rfl rfl (o_stpk (k := (iz - 1).toNat) (x0 := digC (uz - ((uz / 36) * 36)).toNat) sz5 rfl rfl (by first | omega | (simp only [List.length_set]; omega)) hX14.pins hw16 (fun w18 hb19 hp20 hg21 hz22 => ?_))
  have hX23 := hX14.write hp20 hg21 ((yM hlo10))
  have ho24 := hw15.keptA hg21 ha9.symm
  refine qe (zA (zF ?_))
  refine qD rfl (zB (v := (.int .u64 (uz / 36))) rfl) ?_
  refine qD rfl (zC (v := (.int .u64 (uz / 36))) rfl) ?_
  refine qe ?_
  refine yF ?_
  refine yE ?_
  refine ⟨_, ?_, _, rfl, _, uz / 36, iz - 1, L.set (iz - 1).toNat (digC (uz - ((uz / 36) * 36)).toNat), (zE (x := 17) (zE (x := 13) (zE (x := 12) (zE (x := 11) (zE (x := 10) (zE (x := 4) (zE (x := 3) (zE (x := 1) (zV (x := 0) rfl) rfl) rfl) rfl) rfl) rfl) rfl) rfl) rfl), rfl, hX23, (by rw [List.length_set]; exact hL), (by omega), (by omega), (dig_step hd hL (by omega) (by omega)), ho24, hb19⟩
  omega
 refine wp_exit ?_
 refine zZ ?_
 refine yG ?_
 refine yC ?_
 refine zA (zD (zF ?_))
 refine qD rfl (zB (v := (.int .i64 iz)) rfl) ?_
 refine qD rfl (qH rfl rfl (by omega)) ?_
 refine qD rfl (zC (v := (.int .i64 (iz - 1))) rfl) ?_
 refine qe (zA (zF ?_))
 refine qD rfl (zB (v := (.int .i64 (iz - 1))) rfl) ?_
 refine qD rfl (zB (v := (.int .u64 uz)) rfl) ?_
 refine qD rfl (r_digit Tryz.underlying9 rfl rfl (by omega)) ?_
 refine qD rfl (r_idxb (k := (iz - 1).toNat) Tryz.underlying211 sz5 rfl rfl (by omega) (by omega) (by omega)) ?_
 refine q0 rfl rfl rfl (o_stpk (k := (iz - 1).toNat) (x0 := digC (uz).toNat) sz5 rfl rfl (by first | omega | (simp only [List.length_set]; omega)) hX14.pins hw16 (fun w25 hb26 hp27 hg28 hz29 => ?_))
 have hX30 := hX14.write hp27 hg28 ((yM hlo10))
 have ho31 := hw15.keptA hg28 ha9.symm
 refine qe (zA (zD (zD (zF ?_))))
 refine qD rfl (zB (v := (.bool false)) rfl) ?_
 refine qe (zA ?_)
 refine qP rfl rfl ?_
 refine wp_skip ?_
 refine zA (zD (zD (zF ?_)))
 refine qD rfl (zB (v := (.bool true)) rfl) ?_
 refine qe (zA ?_)
 refine c_ifT rfl rfl ?_
 refine zD (zF ?_)
 refine qD rfl (zB (v := v) rfl) ?_
 refine qD rfl (zB (v := (.int .i64 (iz - 1))) rfl) ?_
 obtain ⟨G32, hle33, hX34, hbp35, hf36⟩ := hb26.shut hX30 hlo10
 have ho37 := ho31.moreA hle33 hf36 ha9.symm
 obtain ⟨u38, hr39, hl40⟩ := name_arr (z := iz - 1) (n := 65) hbp35 (by rw [List.length_set]; exact hL) (by omega) (by decide)
 refine qD rfl (hl40 Tryz.underlying211 sz5 rfl rfl) ?_
 refine qI rfl (yB (E := eByte) (v := v) (u := u38) 1 Tryz.underlying132 ap5 (by decide) rfl rfl hX34.pins ho37 ((hr39.mono (Pin.le_refl _)).src hX34.pins (by decide)) (by first | omega | (rw [List.nil_append]; omega) | (rw [List.length_nil]; omega) | (rw [List.length_append]; omega) | (simp; done) | (simp; omega) | (simp only [List.length_append, List.length_cons, List.length_nil]; omega)) (by first | omega | (rw [List.nil_append]; omega) | (rw [List.length_nil]; omega) | (rw [List.length_append]; omega) | (simp; done) | (simp; omega) | (simp only [List.length_append, List.length_cons, List.length_nil]; omega)) (Nat.zero_le _) (fun u41 w42 ho43 hp44 hg45 hw46 => ?_))
 have hX47 := hX34.write hp44 hg45 (hlov)
 have hlo48 : Lo w (inO v.ownBlock) u41.ownBlock := lo_app hlov hw46 hX34.size
 have hm49 : (xs ++ ((L.set (iz - 1).toNat (digC (uz).toNat)).drop (iz - 1).toNat)).length = xs.length + ((L.set (iz - 1).toNat (digC (uz).toNat)).drop (iz - 1).toNat).length := List.length_append
 refine qD rfl (zC (v := u41) rfl) ?_
 refine qe (zA ?_)
 refine wp_ret ?_
 refine zR ?_
 refine c_ret2 (v := u41) (u := (.string (⟨#[]⟩ : ByteArray))) rfl rfl rfl rfl rfl ?_
 have hown := ho43
 rw [dig_last hd hL (by omega) (by omega)] at hown
 exact ⟨_, _, rfl, hown, hlo48, hX47⟩

theorem appendUint_spec {w : World} {G : Pin} {v : Value} {xs : List UInt8} {i : Int} (hP : Pins G w) (hv : Own eByte 5 G w 0 v xs) (hxl : xs.length ≤ 1099511627776) (hi : 0 ≤ i ∧ i ≤ 9223372036854775807) :
  Calls Tryz.prog 193 [v, (.int .u64 i), (.int .i64 36)].toArray w fun e w' => ∃ (u : Value) (G' : Pin), e = .returned u ∧ Own eByte 5 G' w' 0 u (xs ++ dig36 i.toNat) ∧ Lo w (inO v.ownBlock) u.ownBlock ∧ Ext (inO v.ownBlock) G w G' w' := by
 refine zW (n := 36) Tryz.func193 Tryz.ntmps193 rfl rfl ?_
 have hX0 : Ext (inO v.ownBlock) G w G w := Ext.refl hP
 have hlov : Lo w (inO v.ownBlock) v.ownBlock := qM
 refine zD (zF ?_)
 refine qD rfl (zC (v := (.slice none 0 0)) rfl) ?_
 refine qe (zA (zD (zD (zF ?_))))
 refine qD rfl (zB (v := (.int .i64 36)) rfl) ?_
 refine qD rfl (qJ rfl rfl) ?_
 refine qe (zA ?_)
 refine qP rfl rfl ?_
 refine wp_skip ?_
 refine zA (zD (zF ?_))
 refine qD rfl (zB (v := v) rfl) ?_
 refine qD rfl (zB (v := (.int .u64 i)) rfl) ?_
 refine qD rfl (zB (v := (.int .i64 36)) rfl) ?_
 refine qI rfl (zN (vs := [v, (.int .u64 i), (.int .i64 36), (.bool false), (.bool true)]) Tryz.func214 nm214 rfl rfl rfl ?_)
 refine Calls.mono (formatBits_spec (i := i) hX0.pins hv (by omega) (by omega)) ?_
 rintro _ w3 ⟨u1, G2, rfl, ho4, hlo5, hx6⟩
 refine ⟨_, rfl, ?_⟩
 have hX7 := hX0.trans hx6 (fun i hi => hlov i hi)
 have hlo8 := lo_turn hlo5 hlov hX0.size
 have hm9 : (xs ++ dig36 (i).toNat).length = xs.length + (dig36 (i).toNat).length := List.length_append
 refine qD rfl (zB (v := (.tuple #[u1, (.string (⟨#[]⟩ : ByteArray))])) rfl) ?_
 refine qD rfl (xG (v := u1) rfl rfl) ?_
 refine qD rfl (xG (v := (.string (⟨#[]⟩ : ByteArray))) rfl rfl) ?_
 refine qD rfl (zC (v := u1) rfl) ?_
 refine qe (zA (zD (zF ?_)))
 refine qD rfl (zB (v := u1) rfl) ?_
 refine qD rfl (zC (v := u1) rfl) ?_
 refine qe (zA ?_)
 refine wp_ret ?_
 refine zR ?_
 refine zO (v := u1) rfl rfl rfl ?_
 exact ⟨_, _, rfl, ho4, hlo8, hX7⟩

theorem iAppendInt_spec {w : World} {G : Pin} {v : Value} {xs : List UInt8} {i : Int} (hP : Pins G w) (hv : Own eByte 5 G w 0 v xs) (hxl : xs.length ≤ 1099511627776) (hi : 0 ≤ i ∧ i ≤ 9223372036854775807) :
  Calls Tryz.prog 161 [v, (.int .i64 i), (.int .i64 36)].toArray w fun e w' => ∃ (u : Value) (G' : Pin), e = .returned u ∧ Own eByte 5 G' w' 0 u (xs ++ dig36 i.toNat) ∧ Lo w (inO v.ownBlock) u.ownBlock ∧ Ext (inO v.ownBlock) G w G' w' := by
 refine zW (n := 21) Tryz.func161 Tryz.ntmps161 rfl rfl ?_
 have hX0 : Ext (inO v.ownBlock) G w G w := Ext.refl hP
 have hlov : Lo w (inO v.ownBlock) v.ownBlock := qM
 refine zD (zF ?_)
 refine qD rfl (zC (v := (.slice none 0 0)) rfl) ?_
 refine qe (zA (zD (zF ?_)))
 refine qD rfl (zB (v := (.int .i64 i)) rfl) ?_
 refine qD rfl (r_conv (j := i) Tryz.underlying2 Tryz.underlying175 rfl (wrapU (by omega))) ?_
 refine qD rfl (zC (v := (.int .u64 i)) rfl) ?_
 refine qe (zA (zD (zD (zF ?_))))
 refine qD rfl (zB (v := (.int .i64 i)) rfl) ?_
 refine qD rfl (yN rfl rfl) ?_
 refine qe (zA ?_)
 refine yA (p := (i : Int) < 0) rfl rfl (fun h1 => ?_) (fun h1 => ?_)
 ·skip
  exfalso; omega
 refine wp_skip ?_
 refine zA (zD (zF ?_))
 refine qD rfl (zB (v := v) rfl) ?_
 refine qD rfl (zB (v := (.int .u64 i)) rfl) ?_
 refine qD rfl (zB (v := (.int .i64 36)) rfl) ?_
 refine qI rfl (zN (vs := [v, (.int .u64 i), (.int .i64 36)]) Tryz.func193 nm193 rfl rfl rfl ?_)
 refine Calls.mono (appendUint_spec (i := i) hX0.pins hv (by omega) (by omega)) ?_
 rintro _ w4 ⟨u2, G3, rfl, ho5, hlo6, hx7⟩
 refine ⟨_, rfl, ?_⟩
 have hX8 := hX0.trans hx7 (fun i hi => hlov i hi)
 have hlo9 := lo_turn hlo6 hlov hX0.size
 have hm10 : (xs ++ dig36 (i).toNat).length = xs.length + (dig36 (i).toNat).length := List.length_append
 refine qD rfl (zC (v := u2) rfl) ?_
 refine qe (zA ?_)
 refine wp_ret ?_
 refine zR ?_
 refine zO (v := u2) rfl rfl rfl ?_
 exact ⟨_, _, rfl, ho5, hlo9, hX8⟩

theorem appendInt_spec {w : World} {G : Pin} {v : Value} {xs : List UInt8} {i : Int} (hP : Pins G w) (hv : Own eByte 5 G w 0 v xs) (hxl : xs.length ≤ 1099511627776) (hi : 0 ≤ i ∧ i ≤ 9223372036854775807) :
  Calls Tryz.prog 130 [v, (.int .i64 i), (.int .i64 36)].toArray w fun e w' => ∃ (u : Value) (G' : Pin), e = .returned u ∧ Own eByte 5 G' w' 0 u (xs ++ dig36 i.toNat) ∧ Lo w (inO v.ownBlock) u.ownBlock ∧ Ext (inO v.ownBlock) G w G' w' := by
 refine zW (n := 11) Tryz.func130 Tryz.ntmps130 rfl rfl ?_
 have hX0 : Ext (inO v.ownBlock) G w G w := Ext.refl hP
 have hlov : Lo w (inO v.ownBlock) v.ownBlock := qM
 refine zD (zF ?_)
 refine qD rfl (zC (v := (.slice none 0 0)) rfl) ?_
 refine qe (zA (zD (zF ?_)))
 refine qD rfl (zB (v := v) rfl) ?_
 refine qD rfl (zB (v := (.int .i64 i)) rfl) ?_
 refine qD rfl (zB (v := (.int .i64 36)) rfl) ?_
 refine qI rfl (zN (vs := [v, (.int .i64 i), (.int .i64 36)]) Tryz.func161 nm161 rfl rfl rfl ?_)
 refine Calls.mono (iAppendInt_spec (i := i) hX0.pins hv (by omega) (by omega)) ?_
 rintro _ w3 ⟨u1, G2, rfl, ho4, hlo5, hx6⟩
 refine ⟨_, rfl, ?_⟩
 have hX7 := hX0.trans hx6 (fun i hi => hlov i hi)
 have hlo8 := lo_turn hlo5 hlov hX0.size
 have hm9 : (xs ++ dig36 (i).toNat).length = xs.length + (dig36 (i).toNat).length := List.length_append
 refine qD rfl (zC (v := u1) rfl) ?_
 refine qe (zA ?_)
 refine wp_ret ?_
 refine zR ?_
 refine zO (v := u1) rfl rfl rfl ?_
 exact ⟨_, _, rfl, ho4, hlo8, hX7⟩

end K1
end Go.Proofs.YtfnginkcmcfdfaaGreatDoor

set_option maxRecDepth 20000
set_option maxHeartbeats 2000000
namespace Go.Proofs.YtfnginkcmcfdfaaGreatDoor
namespace PO1
open Go.RowKit Go.GL Go.Proofs
open Go.Proofs.YtfnginkcmcfdfaaGreatDoor.B1
open Go.Proofs.YtfnginkcmcfdfaaGreatDoor.K1







theorem mk5 : (Tryz.prog.info? 5).map (fun i => (i.size, i.bytes, i.zero)) = some (1, 1, some (.int .u8 0)) := by kernel_rfl















theorem clone_spec {w : World} {G : Pin} {v : Value} {xs : List Int} (hP : Pins G w) (hv : RSl eInt G v xs) (hs : xs.length ≤ 1048576) :
  Calls Tryz.prog 159 [v].toArray w fun e w' => ∃ (u : Value) (G' : Pin), e = .returned u ∧ Own eInt 3 G' w' w.heap.size u xs ∧ Ext noS G w G' w' := by
 refine zW (n := 8) Tryz.func159 Tryz.ntmps159 rfl rfl ?_
 have hX0 : Ext noS G w G w := Ext.refl hP
 refine zD (zF ?_)
 refine qD rfl (zC (v := (.slice none 0 0)) rfl) ?_
 refine qe (zA (zD (zD (zF ?_))))
 refine qD rfl (zB (v := v) rfl) ?_
 refine qD rfl (r_eqlNil Tryz.underlying65 hv rfl rfl) ?_
 refine qe (zA ?_)
 refine c_if rfl rfl (fun h1 => ?_) (fun h1 => ?_)
 ·skip
  refine zD (zF ?_)
  refine qD rfl (zC (v := (.slice none 0 0)) rfl) ?_
  refine qe (zA ?_)
  refine wp_ret ?_
  refine zR ?_
  refine zO (v := (.slice none 0 0)) rfl rfl rfl ?_
  have hx0 := nil_of hv h1
  subst hx0
  exact ⟨_, _, rfl, Own.nil _ _ _ _ _, hX0⟩
 refine wp_skip ?_
 refine zA (zD (zF ?_))
 refine qI rfl (xN (E := eInt) (e := 3) Tryz.underlying65 sz3 hX0.pins (fun u2 w3 ho4 hp5 hl6 hk7 => ?_))
 have hX8 := hX0.step hp5 hl6
 have ho9 : Own eInt 3 G w3 w.heap.size u2 ([]) := ho4.weaken hX0.size
 refine qD rfl (zB (v := v) rfl) ?_
 refine qI rfl (yB (E := eInt) (v := u2) (u := v) 8 Tryz.underlying65 ap3 (by decide) rfl rfl hX8.pins ho9 ((hv.mono (Pin.le_refl _)).src hX8.pins (by decide)) (by first | omega | (rw [List.nil_append]; omega) | (rw [List.length_nil]; omega) | (rw [List.length_append]; omega) | (simp; done) | (simp; omega) | (simp only [List.length_append, List.length_cons, List.length_nil]; omega)) (by first | omega | (rw [List.nil_append]; omega) | (rw [List.length_nil]; omega) | (rw [List.length_append]; omega) | (simp; done) | (simp; omega) | (simp only [List.length_append, List.length_cons, List.length_nil]; omega)) (hX8.size) (fun u10 w11 ho12 hp13 hg14 hw15 => ?_))
 have hX16 := hX8.write hp13 hg14 ((yI ho9))
 have hm17 : (([]) ++ xs).length = ([]).length + xs.length := List.length_append
 refine qD rfl (zC (v := u10) rfl) ?_
 refine qe (zA ?_)
 refine wp_ret ?_
 refine zR ?_
 refine zO (v := u10) rfl rfl rfl ?_
 exact ⟨_, _, rfl, ho12, hX16⟩

theorem sortI_spec {w : World} {G : Pin} {e base : Nat} {v : Value} {xs : List Int} (hP : Pins G w) (hv : Own eInt e G w base v xs) (hl : xs.length ≤ 1073741824) :
  Calls Tryz.prog 152 [v].toArray w fun en w' => ∃ G', en = .returned (.tuple #[]) ∧ Own eInt e G' w' base v (sortM xs) ∧ Ext (inO v.ownBlock) G w G' w' := by
 rcases own_cases hv with ⟨rfl, rfl⟩ | ⟨g, cap, rfl⟩
 ·refine (Tryz.slices_Sort_int_none none 0 w).mono ?_
  rintro en w' ⟨rfl, rfl⟩
  exact ⟨G, rfl, by simpa [sortM] using hv, Ext.refl hP⟩
 ·obtain ⟨_, h1, h2, h3⟩ := own_holds hv
  refine (Tryz.slices_Sort_int g 0 cap xs w h3 h1 (by omega)).mono ?_
  rintro en w' ⟨rfl, m, os, hw⟩
  obtain ⟨a, b, c⟩ := own_put (ys := sortM xs) hv hP hw (sortM_length xs) (List.take_length ..)
  rw [sortM_length] at a
  exact ⟨G, rfl, a, Ext.one b c⟩
theorem compactI_spec {w : World} {G : Pin} {e base : Nat} {v : Value} {xs : List Int} (hP : Pins G w) (hv : Own eInt e G w base v xs) (hl : xs.length ≤ 1073741824) :
  Calls Tryz.prog 160 [v].toArray w fun en w' => ∃ (u : Value) (G' : Pin), en = .returned u ∧ Own eInt e G' w' base u (Go.Lib.compact xs) ∧ Lo w (inO v.ownBlock) u.ownBlock ∧ Ext (inO v.ownBlock) G w G' w' := by
 rcases own_cases hv with ⟨rfl, rfl⟩ | ⟨g, cap, rfl⟩
 ·refine (Tryz.slices_Compact_int_empty none 0 w).mono ?_
  rintro en w' ⟨rfl, rfl⟩
  exact ⟨_, G, rfl, hv, qM, Ext.refl hP⟩
 ·obtain ⟨_, h1, h2, h3⟩ := own_holds hv
  refine (Tryz.slices_Compact_int g 0 cap xs w h3 (by omega) h2).mono ?_
  rintro en w' ⟨rfl, m, hw⟩
  have hcl := compact_len xs
  obtain ⟨a, b, c⟩ := own_put (os := #[]) (ys := Go.Lib.compact xs) hv hP (hw.trans (Go.Sort.grow_empty _).symm) (by simp; omega) (List.take_left ..)
  exact ⟨_, G, rfl, a, qM, Ext.one b c⟩

theorem distinct_spec {w : World} {G : Pin} {v : Value} {xs : List Int} (hP : Pins G w) (hv : RSl eInt G v xs) (hs : xs.length ≤ 1048576) :
  Calls Tryz.prog 129 [v].toArray w fun e w' => ∃ (u : Value) (G' : Pin), e = .returned u ∧ Own eInt 3 G' w' w.heap.size u (sortL xs) ∧ Ext noS G w G' w' := by
 refine zW (n := 10) Tryz.func129 Tryz.ntmps129 rfl rfl ?_
 have hX0 : Ext noS G w G w := Ext.refl hP
 refine zD (zF ?_)
 refine qD rfl (zC (v := (.slice none 0 0)) rfl) ?_
 refine qe (zA (zD (zF ?_)))
 refine qD rfl (zB (v := v) rfl) ?_
 refine qI rfl (zN (vs := [v]) Tryz.func159 nm159 rfl rfl rfl ?_)
 refine Calls.mono (clone_spec hX0.pins hv (by omega)) ?_
 rintro _ w3 ⟨u1, G2, rfl, ho4, hx5⟩
 refine ⟨_, rfl, ?_⟩
 have hX6 := hX0.tr hx5
 have ho7 : Own eInt 3 G2 w3 w.heap.size u1 xs := ho4.weaken hX0.size
 refine qD rfl (zC (v := u1) rfl) ?_
 refine qe (zA (zD (zF ?_)))
 refine qD rfl (zB (v := u1) rfl) ?_
 refine qI rfl (zN (vs := [u1]) Tryz.func152 nm152 rfl rfl rfl ?_)
 refine Calls.mono (sortI_spec hX6.pins ho7 (by omega)) ?_
 rintro _ w9 ⟨G8, rfl, ho10, hx11⟩
 refine ⟨_, rfl, ?_⟩
 have hX12 := hX6.trans hx11 (fun i hi => (yI ho7) i hi)
 have hm13 := sortM_length xs
 refine qe (zA (zD (zF ?_)))
 refine qD rfl (zB (v := u1) rfl) ?_
 refine qI rfl (zN (vs := [u1]) Tryz.func160 nm160 rfl rfl rfl ?_)
 refine Calls.mono (compactI_spec hX12.pins (ho10.weaken (Nat.zero_le _)) (by omega)) ?_
 rintro _ w16 ⟨u14, G15, rfl, ho17, hlo18, hx19⟩
 refine ⟨_, rfl, ?_⟩
 have hX20 := hX12.trans hx19 (fun i hi => (yI ho10) i hi)
 have ho21 := ho17.up (lo := w.heap.size) (fun k hk => (hlo18 k hk).elim (fun h => Nat.le_trans hX12.size h) (fun h => (ho10.lt k h).1))
 refine qD rfl (zC (v := u14) rfl) ?_
 refine qe (zA ?_)
 refine wp_ret ?_
 refine zR ?_
 refine zO (v := u14) rfl rfl rfl ?_
 exact ⟨_, _, rfl, (by rw [← distinct_eq]; simpa using ho21), hX20⟩

theorem qL {w : World} {G : Pin} {p : Nat} {L R B : Value} {mm : PM} {q : PSt} (hP : Pins G w) (hpk : Pk 65 3 G w p L R B mm q) (hok : PoolOk q) {x y : Value} {xs ys : List Int} (hx : RSl eInt G x xs) (hy : RSl eInt G y ys) (hlim : q.ns.length + 1 ≤ 1048576) (hls : xs.length ≤ 1048576 ∧ ys.length ≤ 1048576) (hk1 : ∀ i, i < xs.length → 0 ≤ xs.getD i 0 ∧ xs.getD i 0 < q.ns.length) (hk2 : ∀ i, i < ys.length → 0 ≤ ys.getD i 0 ∧ ys.getD i 0 < q.ns.length) :
  Calls Tryz.prog 79 [(.pointer (some ⟨p, 0, none⟩)), x, y].toArray w fun e w' => ∃ (z : Int) (L' R' B' : Value) (q' : PSt) (G' : Pin), e = .returned (.int .i64 z) ∧ Pk 65 3 G' w' p L' R' B' mm q' ∧ PoolOk q' ∧ PX q q' ∧ PLo w p L R B mm L' R' B' ∧ Ext (inP p L R B mm) G w G' w' ∧ PlaceOk q' z ∧ pd q' z = mkG (xs.map (pd q)) (ys.map (pd q)) ∧ q'.ns.length ≤ q.ns.length + 1 ∧ (q'.cm = q.cm ∧ (q'.ns.length = q.ns.length ∨ z = q.ns.length)) := by
 refine zW (n := 130) Tryz.func79 Tryz.ntmps79 rfl rfl ?_
 have hX0 : Ext (inP p L R B mm) G w G w := Ext.refl hP
 have hpin : PIn w (inP p L R B mm) p L R B mm := PIn.self
 have hml1 : (q.ns.map Nd.l).length = q.ns.length ∧ (q.ns.map Nd.r).length = q.ns.length := ⟨List.length_map .., List.length_map ..⟩
 have hml2 : q.bs.length = q.ns.length ∧ q.ns.length ≤ 1048576 := ⟨hok.ar.ok.len, hok.ar.ok.lim⟩
 obtain ⟨xs2, hxs2⟩ : ∃ l, l = sortL xs := ⟨_, rfl⟩
 obtain ⟨ys2, hys2⟩ : ∃ l, l = sortL ys := ⟨_, rfl⟩
 have hb1 := sort_bounds hk1
 have hb2 := sort_bounds hk2
 rw [← hxs2] at hb1
 rw [← hys2] at hb2
 have hsl1 : xs2.length ≤ 1048576 := by rw [hxs2]; exact Nat.le_trans qT hls.1
 have hsl2 : ys2.length ≤ 1048576 := by rw [hys2]; exact Nat.le_trans qT hls.2
 refine zD (zF ?_)
 refine qD rfl (zC (v := (.int .i64 0)) rfl) ?_
 refine qe (zA (zD (zF ?_)))
 refine qD rfl (zB (v := x) rfl) ?_
 refine qI rfl (zN (vs := [x]) Tryz.func129 nm129 rfl rfl rfl ?_)
 refine Calls.mono (distinct_spec hX0.pins hx (by omega)) ?_
 rintro _ w5 ⟨u3, G4, rfl, ho6, hx7⟩
 refine ⟨_, rfl, ?_⟩
 rw [← hxs2] at ho6
 have hX8 := hX0.tr hx7
 have hpk9 := hpk.ext hx7
 have hnp10 := hpk.new (x := u3.ownBlock) (fun k hk => (ho6.lt k hk).1)
 have ho11 : Own eInt 3 G4 w5 w.heap.size u3 xs2 := ho6.weaken hX0.size
 refine qD rfl (zB (v := y) rfl) ?_
 refine qI rfl (zN (vs := [y]) Tryz.func129 nm129 rfl rfl rfl ?_)
 refine Calls.mono (distinct_spec hX8.pins (hy.mono hx7.le) (by omega)) ?_
 rintro _ w14 ⟨u12, G13, rfl, ho15, hx16⟩
 refine ⟨_, rfl, ?_⟩
 rw [← hys2] at ho15
 have hX17 := hX8.tr hx16
 have ho18 := ho11.ext hx16
 have hpk19 := hpk9.ext hx16
 have ha20 : Apart u12.ownBlock u3.ownBlock := zY ho15.lt ho11.lt
 have hnp21 := hpk9.new (x := u12.ownBlock) (fun k hk => (ho15.lt k hk).1)
 have ho22 : Own eInt 3 G13 w14 w.heap.size u12 ys2 := ho15.weaken hX8.size
 refine qD rfl (zC (v := u3) rfl) ?_
 refine qD rfl (zC (v := u12) rfl) ?_
 refine qe (zA (zD (zF ?_)))
 refine qD rfl (zB (v := u3) rfl) ?_
 refine qD rfl (zT Tryz.underlying65 (v := u3) rfl ho18.read) ?_
 refine qD rfl (zB (v := u12) rfl) ?_
 refine qD rfl (zT Tryz.underlying65 (v := u12) rfl ho22.read) ?_
 refine qD rfl (yL rfl rfl (by omega)) ?_
 refine qD rfl (r_mul rfl rfl (by omega)) ?_
 refine qD rfl (yL rfl rfl (by omega)) ?_
 refine qI rfl (o_make0 (E := eByte) Tryz.underlying132 mk5 rfl rfl hX17.pins (by omega) (by omega) (by omega) (fun u23 w24 ho25 hp26 hl27 hk28 => ?_))
 have hX29 := hX17.step hp26 hl27
 have ho30 := ho18.below hl27
 have ho31 := ho22.below hl27
 have hpk32 := hpk19.below hl27 hp26
 have ha33 : Apart u23.ownBlock u3.ownBlock := zH hk28 ho18.lt
 have ha37 : Apart u23.ownBlock u12.ownBlock := zH hk28 ho22.lt
 have ha39 := hpk19.new (x := u23.ownBlock) (fun k hk => by rw [hk28] at hk; cases hk; exact Nat.le_refl _)
 have ho40 : Own eByte 5 G13 w24 w.heap.size u23 ([]) := ho25.weaken hX17.size
 refine qD rfl (zC (v := u23) rfl) ?_
 refine qe (zA (zD (zF ?_)))
 refine qD rfl (zC (v := (.int .i64 0)) rfl) ?_
 refine qe (zA (zD (zD (zF ?_))))
 refine qD rfl (zB (v := u3) rfl) ?_
 refine qD rfl (zT Tryz.underlying65 (v := u3) rfl ho30.read) ?_
 refine qD rfl (zB (v := (.int .i64 0)) rfl) ?_
 refine qe (zA ?_)
 refine zX ?_
 refine yK (fun (k : Nat) (en : Nat → Value) (W : World) => ∃ (env1 : Nat → Value) (i : Nat) (kva : Value) (kxa : List UInt8) (bn : Int) (GLa : Pin), en = (upd (upd (upd (upd (upd (upd (upd (upd (upd env1 0 (.pointer (some ⟨p, 0, none⟩))) 1 u3) 2 u12) 6 (.int .i64 0)) 7 kva) 8 (.int .i64 bn)) 28 u3) 29 (.int .i64 (xs2.length : Int))) 30 (.int .i64 (i : Int))) ∧ k = xs2.length - i ∧ Ext (inP p L R B mm) G w GLa W ∧ Pin.le G13 GLa ∧ (i ≤ xs2.length) ∧ (kxa = keyL (xs2.take i)) ∧ (bn = bornOf q.bs (xs2.take i) 0) ∧ (0 ≤ bn ∧ bn ≤ q.ns.length) ∧ (Own eByte 5 GLa W w.heap.size kva (kxa)) ∧ (Own eInt 3 GLa W w.heap.size u3 (xs2)) ∧ (Own eInt 3 GLa W w.heap.size u12 (ys2)) ∧ (Apart kva.ownBlock u3.ownBlock) ∧ (Apart kva.ownBlock u12.ownBlock) ∧ (Pk 65 3 GLa W p L R B mm q) ∧ (NP p L R B mm kva.ownBlock)) _ ⟨_, 0, u23, [], 0, G13, (zE (x := 30) (zE (x := 29) (zE (x := 28) (zE (x := 8) (zE (x := 7) (zE (x := 6) (zE (x := 2) (zE (x := 1) (zV (x := 0) rfl) rfl) rfl) rfl) rfl) rfl) rfl) rfl) rfl), rfl, hX29, Pin.le_refl _, Nat.zero_le _, (by simp [keyL]), rfl, (by omega), ho40, ho30, ho31, ha33, ha37, hpk32, ha39⟩ ?_
 rintro k45 _ w46 ⟨env1, i, kva, kxa, bn, GLa, rfl, hk47, hX48, hlek45, hji, hka, hbbn, hlbn, hw49, hw50, hw51, ha52, ha53, hpk54, hnp55⟩
 have hkla : kxa.length ≤ 117440640 := by
  have := key_bound (j := i) hb1 hok.ar.ok.lim
  rw [hka]; omega
 refine zD (zF ?_)
 refine qD rfl (yN rfl rfl) ?_
 refine qe (zA (zD ?_))
 refine yA (p := ((i : Int) : Int) < (xs2.length : Int)) rfl rfl (fun h56 => ?_) (fun h56 => ?_)
 ·skip
  have hki := hb1 i (by omega)
  have hbk := hok.ar.ok.born (xs2.getD i 0).toNat (by omega)
  have hd13 := dig13 (n := (xs2.getD i 0).toNat) (by omega)
  refine wp_skip ?_
  refine zA (zD ?_)
  refine zX ?_
  refine zD (zF ?_)
  refine qD rfl (zM Tryz.underlying65 sz3 (v := u3) rfl rfl hw50.read (by omega) (by omega)) ?_
  refine qD rfl (zK (r := xs2.getD i 0) rfl ag3 (z := (i : Int)) rfl hw50.read (Gadd.pins hX48.pins u3) (by omega) (by omega)) ?_
  refine qD rfl (zC (v := (.int .i64 (xs2.getD i 0))) rfl) ?_
  refine qe (zA (zD (zF ?_)))
  refine qD rfl (zB (v := kva) rfl) ?_
  refine qD rfl (zB (v := (.int .i64 (xs2.getD i 0))) rfl) ?_
  refine qI rfl (zN (vs := [kva, (.int .i64 (xs2.getD i 0)), (.int .i64 36)]) Tryz.func130 nm130 rfl rfl rfl ?_)
  refine Calls.mono (appendInt_spec (i := xs2.getD i 0) hX48.pins (hw49.weaken (Nat.zero_le _)) (by omega) (by omega)) ?_
  rintro _ w59 ⟨u57, G58, rfl, ho60, hlo61, hx62⟩
  refine ⟨_, rfl, ?_⟩
  have hnp63 := np_turn hnp55 hpk54 hlo61
  have hX64 := hX48.trans hx62 (fun i hi => (yI hw49) i hi)
  have ho65 := hw50.extS hx62 (notO ha52.symm)
  have ho66 := hw51.extS hx62 (notO ha53.symm)
  have hpk67 := hpk54.extS hx62 (fun k hk hx => hnp55 k hx hk)
  have ha68 : Apart u3.ownBlock u57.ownBlock := ap_turn hlo61 ha52.symm (own_lt hw50)
  have ha69 : Apart u12.ownBlock u57.ownBlock := ap_turn hlo61 ha53.symm (own_lt hw51)
  have ho70 := ho60.up (lo := w.heap.size) (fun k hk => (hlo61 k hk).elim (fun h => Nat.le_trans hX48.size h) (fun h => (hw49.lt k h).1))
  have hm71 : (kxa ++ dig36 (xs2.getD i 0).toNat).length = kxa.length + (dig36 (xs2.getD i 0).toNat).length := List.length_append
  refine qI rfl (yU (E := eByte) (e := 5) [(.int .u8 44)] [44] Tryz.underlying132 sz5 zr5 (by exact xS (by rfl)) (xA (by rfl)) rfl rfl rfl rfl (by decide) hX64.pins (fun u72 w73 ho74 hp75 hl76 hk77 => ?_))
  have hX78 := hX64.step hp75 hl76
  have ho79 := ho65.below hl76
  have ho80 := ho66.below hl76
  have ho81 := ho70.below hl76
  have hpk82 := hpk67.below hl76 hp75
  have ho91 : Own eByte 5 G58 w73 w.heap.size u72 ([44]) := ho74.weaken hX64.size
  refine qI rfl (yB (E := eByte) (v := u57) (u := u72) 1 Tryz.underlying132 ap5 (by decide) rfl rfl hX78.pins ho81 ho91.src (by first | omega | (rw [List.nil_append]; omega) | (rw [List.length_nil]; omega) | (rw [List.length_append]; omega) | (simp; done) | (simp; omega) | (simp only [List.length_append, List.length_cons, List.length_nil]; omega)) (by first | omega | (rw [List.nil_append]; omega) | (rw [List.length_nil]; omega) | (rw [List.length_append]; omega) | (simp; done) | (simp; omega) | (simp only [List.length_append, List.length_cons, List.length_nil]; omega)) (hX78.size) (fun u92 w93 ho94 hp95 hg96 hw97 => ?_))
  have hX98 := hX78.write hp95 hg96 ((yI ho81))
  have ho99 := ho79.keptA hg96 ha68
  have ho100 := ho80.keptA hg96 ha69
  have hpk102 := hpk82.kept hg96 hp95 hnp63
  have ha103 : Apart u3.ownBlock u92.ownBlock := zI ha68 hw97 ho79.lt
  have ha104 : Apart u12.ownBlock u92.ownBlock := zI ha69 hw97 ho80.lt
  have hnp106 := np_app hnp63 hpk82 hw97
  have hm107 : ((kxa ++ dig36 (xs2.getD i 0).toNat) ++ ([44])).length = (kxa ++ dig36 (xs2.getD i 0).toNat).length + 1 := List.length_append
  refine qD rfl (zC (v := u92) rfl) ?_
  refine qe (zA (zF ?_))
  refine qD rfl (zB (v := (.int .i64 bn)) rfl) ?_
  refine qD rfl (zB (v := (.pointer (some ⟨p, 0, none⟩))) rfl) ?_
  refine qD rfl (yZ rfl) ?_
  refine qD rfl (zJ (k := 2) rfl Tryz.underlying72 rfl nz65 rfl) ?_
  refine qD rfl (zL (u := B) ag65 rfl (hpk102.bx.cell (o := 2) rfl)) ?_
  refine qD rfl (zB (v := (.int .i64 (xs2.getD i 0))) rfl) ?_
  refine qD rfl (zM Tryz.underlying65 sz3 (v := B) rfl rfl hpk102.ob.read (by omega) (by omega)) ?_
  refine qD rfl (zK (r := q.bs.getD (xs2.getD i 0).toNat 0) rfl ag3 (z := (xs2.getD i 0)) rfl hpk102.ob.read (Gadd.pins hX98.pins B) (by omega) (by omega)) ?_
  refine qD rfl (yL rfl rfl (by omega)) ?_
  refine qD rfl (r_max rfl rfl) ?_
  refine qD rfl (zC (v := (.int .i64 (max bn ((q.bs.getD (xs2.getD i 0).toNat 0) + 1)))) rfl) ?_
  refine qe ?_
  refine yF ?_
  refine zA (zF ?_)
  refine qD rfl (yL rfl rfl (by omega)) ?_
  refine qD rfl (zB (v := (.int .i64 ((i : Int) + 1))) rfl) ?_
  refine qe ?_
  refine yE ?_
  refine ⟨_, ?_, _, rfl, _, i + 1, u92, (kxa ++ dig36 (xs2.getD i 0).toNat) ++ ([44]), max bn ((q.bs.getD (xs2.getD i 0).toNat 0) + 1), G58, (zE (x := 30) (zE (x := 29) (zE (x := 28) (zE (x := 8) (zE (x := 7) (zE (x := 6) (zE (x := 2) (zE (x := 1) (zV (x := 0) rfl) rfl) rfl) rfl) rfl) rfl) rfl) rfl) rfl), rfl, hX98, (Pin.le_trans hlek45 hx62.le), (by omega), (by rw [key_next (by omega), hka]), (by rw [hbbn, born_next (by omega)]), (by omega), ho94, ho99, ho100, ha103.symm, ha104.symm, hpk102, hnp106⟩
  omega
 refine wp_exit ?_
 refine zZ ?_
 refine yG ?_
 refine yC ?_
 refine zA (zD (zF ?_))
 refine qD rfl (zB (v := kva) rfl) ?_
 refine qI rfl (yU (E := eByte) (e := 5) [(.int .u8 124)] [124] Tryz.underlying132 sz5 zr5 (by exact xS (by rfl)) (xA (by rfl)) rfl rfl rfl rfl (by decide) hX48.pins (fun u108 w109 ho110 hp111 hl112 hk113 => ?_))
 have hX114 := hX48.step hp111 hl112
 have ho115 := hw49.below hl112
 have ho116 := hw50.below hl112
 have ho117 := hw51.below hl112
 have hpk118 := hpk54.below hl112 hp111
 have ho127 : Own eByte 5 GLa w109 w.heap.size u108 ([124]) := ho110.weaken hX48.size
 refine qI rfl (yB (E := eByte) (v := kva) (u := u108) 1 Tryz.underlying132 ap5 (by decide) rfl rfl hX114.pins ho115 ho127.src (by first | omega | (rw [List.nil_append]; omega) | (rw [List.length_nil]; omega) | (rw [List.length_append]; omega) | (simp; done) | (simp; omega) | (simp only [List.length_append, List.length_cons, List.length_nil]; omega)) (by first | omega | (rw [List.nil_append]; omega) | (rw [List.length_nil]; omega) | (rw [List.length_append]; omega) | (simp; done) | (simp; omega) | (simp only [List.length_append, List.length_cons, List.length_nil]; omega)) (hX114.size) (fun u128 w129 ho130 hp131 hg132 hw133 => ?_))
 have hX134 := hX114.write hp131 hg132 ((yI ho115))
 have ho135 := ho116.keptA hg132 ha52.symm
 have ho136 := ho117.keptA hg132 ha53.symm
 have hpk138 := hpk118.kept hg132 hp131 hnp55
 have ha139 : Apart u3.ownBlock u128.ownBlock := zI ha52.symm hw133 ho116.lt
 have ha140 : Apart u12.ownBlock u128.ownBlock := zI ha53.symm hw133 ho117.lt
 have hnp142 := np_app hnp55 hpk118 hw133
 have hm143 : (kxa ++ ([124])).length = kxa.length + 1 := List.length_append
 refine qD rfl (zC (v := u128) rfl) ?_
 refine qe (zA (zD (zD (zF ?_))))
 rw [qN (by omega)] at hka hbbn
 have hkk : keyL xs2 ++ [124] = kxa ++ [124] := by rw [hka]
 refine qD rfl (zB (v := u12) rfl) ?_
 refine qD rfl (zT Tryz.underlying65 (v := u12) rfl ho136.read) ?_
 refine qD rfl (zB (v := (.int .i64 0)) rfl) ?_
 refine qe (zA ?_)
 refine zX ?_
 refine yK (fun (k : Nat) (en : Nat → Value) (W : World) => ∃ (env1 : Nat → Value) (i2 : Nat) (kvb : Value) (kxb : List UInt8) (bm : Int) (GLb : Pin), en = (upd (upd (upd (upd (upd (upd (upd (upd (upd env1 0 (.pointer (some ⟨p, 0, none⟩))) 1 u3) 2 u12) 6 (.int .i64 0)) 7 kvb) 8 (.int .i64 bm)) 53 u12) 54 (.int .i64 (ys2.length : Int))) 55 (.int .i64 (i2 : Int))) ∧ k = ys2.length - i2 ∧ Ext (inP p L R B mm) G w GLb W ∧ Pin.le GLa GLb ∧ (i2 ≤ ys2.length) ∧ (kxb = keyL xs2 ++ [124] ++ keyL (ys2.take i2)) ∧ (bm = bornOf q.bs (ys2.take i2) bn) ∧ (0 ≤ bm ∧ bm ≤ q.ns.length) ∧ (Own eByte 5 GLb W w.heap.size kvb (kxb)) ∧ (Own eInt 3 GLb W w.heap.size u3 (xs2)) ∧ (Own eInt 3 GLb W w.heap.size u12 (ys2)) ∧ (Apart kvb.ownBlock u3.ownBlock) ∧ (Apart kvb.ownBlock u12.ownBlock) ∧ (Pk 65 3 GLb W p L R B mm q) ∧ (NP p L R B mm kvb.ownBlock)) _ ⟨_, 0, u128, kxa ++ ([124]), bn, GLa, (zE (x := 55) (zE (x := 54) (zE (x := 53) (zE (x := 8) (zE (x := 7) (zE (x := 6) (zE (x := 2) (zE (x := 1) (zV (x := 0) rfl) rfl) rfl) rfl) rfl) rfl) rfl) rfl) rfl), rfl, hX134, Pin.le_refl _, Nat.zero_le _, (by rw [← hkk]; simp [keyL]), rfl, (by omega), ho130, ho135, ho136, ha139.symm, ha140.symm, hpk138, hnp142⟩ ?_
 rintro k148 _ w149 ⟨env1, i2, kvb, kxb, bm, GLb, rfl, hk150, hX151, hlek148, hji2, hkb, hbbm, hlbm, hw152, hw153, hw154, ha155, ha156, hpk157, hnp158⟩
 have hklb : kxb.length ≤ 117440640 := by
  have := key_bound (j := i2) hb2 hok.ar.ok.lim
  have h2 := key_bound (j := xs2.length) hb1 hok.ar.ok.lim; rw [hkb, List.length_append, List.length_append]; simp only [List.length_cons, List.length_nil]; rw [qN (Nat.le_refl _)] at h2; omega
 refine zD (zF ?_)
 refine qD rfl (yN rfl rfl) ?_
 refine qe (zA (zD ?_))
 refine yA (p := ((i2 : Int) : Int) < (ys2.length : Int)) rfl rfl (fun h159 => ?_) (fun h159 => ?_)
 ·skip
  have hki := hb2 i2 (by omega)
  have hbk := hok.ar.ok.born (ys2.getD i2 0).toNat (by omega)
  have hd13 := dig13 (n := (ys2.getD i2 0).toNat) (by omega)
  refine wp_skip ?_
  refine zA (zD ?_)
  refine zX ?_
  refine zD (zF ?_)
  refine qD rfl (zM Tryz.underlying65 sz3 (v := u12) rfl rfl hw154.read (by omega) (by omega)) ?_
  refine qD rfl (zK (r := ys2.getD i2 0) rfl ag3 (z := (i2 : Int)) rfl hw154.read (Gadd.pins hX151.pins u12) (by omega) (by omega)) ?_
  refine qD rfl (zC (v := (.int .i64 (ys2.getD i2 0))) rfl) ?_
  refine qe (zA (zD (zF ?_)))
  refine qD rfl (zB (v := kvb) rfl) ?_
  refine qD rfl (zB (v := (.int .i64 (ys2.getD i2 0))) rfl) ?_
  refine qI rfl (zN (vs := [kvb, (.int .i64 (ys2.getD i2 0)), (.int .i64 36)]) Tryz.func130 nm130 rfl rfl rfl ?_)
  refine Calls.mono (appendInt_spec (i := ys2.getD i2 0) hX151.pins (hw152.weaken (Nat.zero_le _)) (by omega) (by omega)) ?_
  rintro _ w162 ⟨u160, G161, rfl, ho163, hlo164, hx165⟩
  refine ⟨_, rfl, ?_⟩
  have hnp166 := np_turn hnp158 hpk157 hlo164
  have hX167 := hX151.trans hx165 (fun i hi => (yI hw152) i hi)
  have ho168 := hw153.extS hx165 (notO ha155.symm)
  have ho169 := hw154.extS hx165 (notO ha156.symm)
  have hpk170 := hpk157.extS hx165 (fun k hk hx => hnp158 k hx hk)
  have ha171 : Apart u3.ownBlock u160.ownBlock := ap_turn hlo164 ha155.symm (own_lt hw153)
  have ha172 : Apart u12.ownBlock u160.ownBlock := ap_turn hlo164 ha156.symm (own_lt hw154)
  have ho173 := ho163.up (lo := w.heap.size) (fun k hk => (hlo164 k hk).elim (fun h => Nat.le_trans hX151.size h) (fun h => (hw152.lt k h).1))
  have hm174 : (kxb ++ dig36 (ys2.getD i2 0).toNat).length = kxb.length + (dig36 (ys2.getD i2 0).toNat).length := List.length_append
  refine qI rfl (yU (E := eByte) (e := 5) [(.int .u8 44)] [44] Tryz.underlying132 sz5 zr5 (by exact xS (by rfl)) (xA (by rfl)) rfl rfl rfl rfl (by decide) hX167.pins (fun u175 w176 ho177 hp178 hl179 hk180 => ?_))
  have hX181 := hX167.step hp178 hl179
  have ho182 := ho168.below hl179
  have ho183 := ho169.below hl179
  have ho184 := ho173.below hl179
  have hpk185 := hpk170.below hl179 hp178
  have ho194 : Own eByte 5 G161 w176 w.heap.size u175 ([44]) := ho177.weaken hX167.size
  refine qI rfl (yB (E := eByte) (v := u160) (u := u175) 1 Tryz.underlying132 ap5 (by decide) rfl rfl hX181.pins ho184 ho194.src (by first | omega | (rw [List.nil_append]; omega) | (rw [List.length_nil]; omega) | (rw [List.length_append]; omega) | (simp; done) | (simp; omega) | (simp only [List.length_append, List.length_cons, List.length_nil]; omega)) (by first | omega | (rw [List.nil_append]; omega) | (rw [List.length_nil]; omega) | (rw [List.length_append]; omega) | (simp; done) | (simp; omega) | (simp only [List.length_append, List.length_cons, List.length_nil]; omega)) (hX181.size) (fun u195 w196 ho197 hp198 hg199 hw200 => ?_))
  have hX201 := hX181.write hp198 hg199 ((yI ho184))
  have ho202 := ho182.keptA hg199 ha171
  have ho203 := ho183.keptA hg199 ha172
  have hpk205 := hpk185.kept hg199 hp198 hnp166
  have ha206 : Apart u3.ownBlock u195.ownBlock := zI ha171 hw200 ho182.lt
  have ha207 : Apart u12.ownBlock u195.ownBlock := zI ha172 hw200 ho183.lt
  have hnp209 := np_app hnp166 hpk185 hw200
  have hm210 : ((kxb ++ dig36 (ys2.getD i2 0).toNat) ++ ([44])).length = (kxb ++ dig36 (ys2.getD i2 0).toNat).length + 1 := List.length_append
  refine qD rfl (zC (v := u195) rfl) ?_
  refine qe (zA (zF ?_))
  refine qD rfl (zB (v := (.int .i64 bm)) rfl) ?_
  refine qD rfl (zB (v := (.pointer (some ⟨p, 0, none⟩))) rfl) ?_
  refine qD rfl (yZ rfl) ?_
  refine qD rfl (zJ (k := 2) rfl Tryz.underlying72 rfl nz65 rfl) ?_
  refine qD rfl (zL (u := B) ag65 rfl (hpk205.bx.cell (o := 2) rfl)) ?_
  refine qD rfl (zB (v := (.int .i64 (ys2.getD i2 0))) rfl) ?_
  refine qD rfl (zM Tryz.underlying65 sz3 (v := B) rfl rfl hpk205.ob.read (by omega) (by omega)) ?_
  refine qD rfl (zK (r := q.bs.getD (ys2.getD i2 0).toNat 0) rfl ag3 (z := (ys2.getD i2 0)) rfl hpk205.ob.read (Gadd.pins hX201.pins B) (by omega) (by omega)) ?_
  refine qD rfl (yL rfl rfl (by omega)) ?_
  refine qD rfl (r_max rfl rfl) ?_
  refine qD rfl (zC (v := (.int .i64 (max bm ((q.bs.getD (ys2.getD i2 0).toNat 0) + 1)))) rfl) ?_
  refine qe ?_
  refine yF ?_
  refine zA (zF ?_)
  refine qD rfl (yL rfl rfl (by omega)) ?_
  refine qD rfl (zB (v := (.int .i64 ((i2 : Int) + 1))) rfl) ?_
  refine qe ?_
  refine yE ?_
  refine ⟨_, ?_, _, rfl, _, i2 + 1, u195, (kxb ++ dig36 (ys2.getD i2 0).toNat) ++ ([44]), max bm ((q.bs.getD (ys2.getD i2 0).toNat 0) + 1), G161, (zE (x := 55) (zE (x := 54) (zE (x := 53) (zE (x := 8) (zE (x := 7) (zE (x := 6) (zE (x := 2) (zE (x := 1) (zV (x := 0) rfl) rfl) rfl) rfl) rfl) rfl) rfl) rfl) rfl), rfl, hX201, (Pin.le_trans hlek148 hx165.le), (by omega), (by rw [key_next (by omega), hkb]; simp only [List.append_assoc]), (by rw [hbbm, born_next (by omega)]), (by omega), ho197, ho202, ho203, ha206.symm, ha207.symm, hpk205, hnp209⟩
  omega
 refine wp_exit ?_
 refine zZ ?_
 refine yG ?_
 refine yC ?_
 refine zA (zD (zD ?_))
 rw [qN (by omega)] at hkb hbbm
 have hkey : kxb = keyN xs2 ys2 := by rw [hkb]; rfl
 have hq211 := Gadd.pins hX151.pins kvb
 have hr212 := hw152.read
 refine yX (S := fun wz => BxR wz p [L, R, B, (.map (some mm.f)), (.map (some mm.o)), (.map (some mm.c)), (.map (some mm.s)), (.map (some mm.n))] ∧ Pins (Gadd GLb w149 kvb) wz) (last := 12) (by kernel_rfl) rfl ?_
 have hl213 : Below w149.heap.size w149 w149.drew := (Below.refl _ _).drew
 have hp214 := hX151.pins.below hl213
 have hX215 := hX151.step hp214 hl213
 have ho216 := hw152.below hl213
 have ho217 := hw153.below hl213
 have ho218 := hw154.below hl213
 have hpk219 := hpk157.below hl213 hp214
 have hq220 := hq211.below hl213
 refine dT (i := 0) rfl rfl (by kernel_rfl) (fun _ _ => zB (v := (.pointer (some ⟨p, 0, none⟩))) rfl) ⟨hpk219.bx.reads, hq220⟩ ?_
 refine dT (i := 1) rfl rfl (by kernel_rfl) (fun _ _ => yZ rfl) ⟨hpk219.bx.reads, hq220⟩ ?_
 refine dT (i := 2) rfl rfl (by kernel_rfl) (fun _ _ => zJ (k := 3) rfl Tryz.underlying72 rfl nz67 rfl) ⟨hpk219.bx.reads, hq220⟩ ?_
 refine dT (i := 3) rfl rfl (by kernel_rfl) (fun _ hS => zL (u := (.map (some mm.f))) ag67 rfl (hS.1 3 _ rfl)) ⟨hpk219.bx.reads, hq220⟩ ?_
 refine dT (i := 4) rfl rfl (by kernel_rfl) (fun _ _ => zB (v := kvb) rfl) ⟨hpk219.bx.reads, hq220⟩ ?_
 refine zQ (i := 5) (by kernel_rfl) (zU (i := 5) rfl rfl rfl (zG rfl _) (EO.run (r_b2s Tryz.underlying132 Tryz.underlying5 Tryz.underlying9 rfl ho216.read (Gadd.pins hX215.pins kvb)) ?_))
 refine ⟨fun _ => ⟨hpk219.bx.reads, hq220⟩, ?_⟩
 refine zQ (i := 6) (by kernel_rfl) (zU (i := 6) rfl rfl rfl (zG rfl _) (EO.run (run_lookv_int (k := (b2s kxb)) (key_str Tryz.underlying9) Tryz.underlying67 zr3 hpk219.ff rfl rfl) ?_))
 refine ⟨fun _ => ⟨hpk219.bx.reads, hq220⟩, ?_⟩
 refine dT (i := 7) rfl rfl (by kernel_rfl) (fun _ _ => zB (v := (.tuple #[(.int .i64 ((Go.GL.look q.fl (b2s kxb)).getD 0)), (.bool ((Go.GL.look q.fl (b2s kxb)).isSome))])) rfl) ⟨hpk219.bx.reads, hq220⟩ ?_
 refine dT (i := 8) rfl rfl (by kernel_rfl) (fun _ _ => xG (v := (.int .i64 ((Go.GL.look q.fl (b2s kxb)).getD 0))) rfl rfl) ⟨hpk219.bx.reads, hq220⟩ ?_
 refine dT (i := 9) rfl rfl (by kernel_rfl) (fun _ _ => xG (v := (.bool ((Go.GL.look q.fl (b2s kxb)).isSome))) rfl rfl) ⟨hpk219.bx.reads, hq220⟩ ?_
 refine dT (i := 10) rfl rfl (by kernel_rfl) (fun _ _ => zC (v := (.int .i64 ((Go.GL.look q.fl (b2s kxb)).getD 0))) rfl) ⟨hpk219.bx.reads, hq220⟩ ?_
 refine dT (i := 11) rfl rfl (by kernel_rfl) (fun _ _ => zC (v := (.bool ((Go.GL.look q.fl (b2s kxb)).isSome))) rfl) ⟨hpk219.bx.reads, hq220⟩ ?_
 refine yJ (by kernel_rfl) ?_
 refine zA (zD (zF ?_))
 refine qD rfl (zB (v := (.bool ((Go.GL.look q.fl (b2s kxb)).isSome))) rfl) ?_
 refine qe (zA ?_)
 refine c_if rfl rfl (fun h221 => ?_) (fun h221 => ?_)
 ·skip
  refine zD (zF ?_)
  refine qD rfl (zB (v := (.int .i64 ((Go.GL.look q.fl (b2s kxb)).getD 0))) rfl) ?_
  refine qD rfl (zC (v := (.int .i64 ((Go.GL.look q.fl (b2s kxb)).getD 0))) rfl) ?_
  refine qe (zA ?_)
  refine wp_ret ?_
  refine zR ?_
  refine zO (v := (.int .i64 ((Go.GL.look q.fl (b2s kxb)).getD 0))) rfl rfl rfl ?_
  obtain ⟨z, hz⟩ := Option.isSome_iff_exists.1 h221
  have hlk := hz
  rw [hkey, hxs2, hys2] at hlk
  obtain ⟨f1, f2⟩ := lookF hok hk1 hk2 hlk
  rw [hz]
  exact ⟨z, L, R, B, q, GLb, rfl, hpk219, hok, (PX.refl _), PIn.lo hpin rfl, hX215, f1, f2, by omega, rfl, Or.inl rfl⟩
 refine wp_skip ?_
 refine zA (zD (zF ?_))
 refine qD rfl (zB (v := (.pointer (some ⟨p, 0, none⟩))) rfl) ?_
 refine qD rfl (yZ rfl) ?_
 refine qD rfl (zJ (k := 2) rfl Tryz.underlying72 rfl nz65 rfl) ?_
 refine qD rfl (zL (u := B) ag65 rfl (hpk219.bx.cell (o := 2) rfl)) ?_
 refine qD rfl (zT Tryz.underlying65 (v := B) rfl hpk219.ob.read) ?_
 refine qD rfl (zC (v := (.int .i64 (q.bs.length : Int))) rfl) ?_
 refine qe (zA (zD ?_))
 have hnone : Go.GL.look q.fl (b2s kxb) = none := by simpa using h221
 rw [hkey, hxs2, hys2] at hnone
 have hadd := hok.add (b := bm) hlim hls hk1 hk2 hnone (by rw [hbbm, hbbn, hxs2, hys2])
 have hq222 := Gadd.pins hX215.pins kvb
 have hr223 := ho216.read
 refine yX (S := fun wz => BxR wz p [L, R, B, (.map (some mm.f)), (.map (some mm.o)), (.map (some mm.c)), (.map (some mm.s)), (.map (some mm.n))] ∧ Pins (Gadd GLb w149.drew kvb) wz) (last := 7) (by kernel_rfl) rfl ?_
 have hl224 : Below w149.drew.heap.size w149.drew w149.drew.drew := (Below.refl _ _).drew
 have hp225 := hX215.pins.below hl224
 have hX226 := hX215.step hp225 hl224
 have ho227 := ho216.below hl224
 have ho228 := ho217.below hl224
 have ho229 := ho218.below hl224
 have ho230 := hpk219.ol.below hl224
 have ho231 := hpk219.rr.below hl224
 have ho232 := hpk219.ob.below hl224
 have hb233 := hpk219.bx.below hl224
 have hm234 := hpk219.ff.below hl224
 have hm235 := hpk219.fo.below hl224
 have hm236 := hpk219.fc.below hl224
 have hm237 := hpk219.fs.below hl224
 have hm238 := hpk219.fn.below hl224
 have hq239 := hq222.below hl224
 refine dT (i := 0) rfl rfl (by kernel_rfl) (fun _ _ => zB (v := (.pointer (some ⟨p, 0, none⟩))) rfl) ⟨hb233.reads, hq239⟩ ?_
 refine dT (i := 1) rfl rfl (by kernel_rfl) (fun _ _ => yZ rfl) ⟨hb233.reads, hq239⟩ ?_
 refine dT (i := 2) rfl rfl (by kernel_rfl) (fun _ _ => zJ (k := 3) rfl Tryz.underlying72 rfl nz67 rfl) ⟨hb233.reads, hq239⟩ ?_
 refine dT (i := 3) rfl rfl (by kernel_rfl) (fun _ hS => zL (u := (.map (some mm.f))) ag67 rfl (hS.1 3 _ rfl)) ⟨hb233.reads, hq239⟩ ?_
 refine dT (i := 4) rfl rfl (by kernel_rfl) (fun _ _ => zB (v := kvb) rfl) ⟨hb233.reads, hq239⟩ ?_
 refine dT (i := 6) rfl rfl (by kernel_rfl) (fun _ _ => zB (v := (.int .i64 (q.bs.length : Int))) rfl) ⟨hb233.reads, hq239⟩ ?_
 refine zQ (i := 5) (by kernel_rfl) (zU (i := 5) rfl rfl rfl (zG rfl _) (EO.run (r_b2s Tryz.underlying132 Tryz.underlying5 Tryz.underlying9 rfl ho227.read (Gadd.pins hX226.pins kvb)) ?_))
 refine ⟨fun _ => ⟨hb233.reads, hq239⟩, ?_⟩
 refine zQ (i := 7) (by kernel_rfl) (drOp0 (i := 7) rfl rfl rfl (zG rfl _) (qV (val := (fun v : Int => Value.int .i64 v)) (k := (b2s kxb)) (v := (q.bs.length : Int)) (key_str Tryz.underlying9) Tryz.underlying67 rfl rfl rfl hX226.pins hm234 (fun w240 hm241 hp242 hg243 hz244 => ?_)))
 have hX245 := hX226.write hp242 hg243 ((PIn.f hpin))
 have ho247 := ho228.keptA hg243 (yP hm234 ho228).symm
 have ho248 := ho229.keptA hg243 (yP hm234 ho229).symm
 have ho249 := ho230.keptA hg243 (yP hm234 ho230).symm
 have ho250 := ho231.keptA hg243 (yP hm234 ho231).symm
 have ho251 := ho232.keptA hg243 (yP hm234 ho232).symm
 have hb252 := hb233.keptA hg243 (xL hm234 hb233).symm
 have hm253 := hm235.kept hg243 (apart_maps hpk219.df.fo).symm
 have hm254 := hm236.kept hg243 (apart_maps hpk219.df.fc).symm
 have hm255 := hm237.kept hg243 (apart_maps hpk219.df.fs).symm
 have hm256 := hm238.kept hg243 (apart_maps hpk219.df.fn).symm
 refine ⟨fun h => absurd rfl h, ?_⟩
 refine yJ (by kernel_rfl) ?_
 refine zA (zD (zF ?_))
 refine qD rfl (zB (v := (.pointer (some ⟨p, 0, none⟩))) rfl) ?_
 refine qD rfl (zB (v := (.pointer (some ⟨p, 0, none⟩))) rfl) ?_
 refine qD rfl (yZ rfl) ?_
 refine qD rfl (zJ (k := 0) rfl Tryz.underlying72 rfl nz66 rfl) ?_
 refine qD rfl (zL (u := L) ag66 rfl (hb252.cell (o := 0) rfl)) ?_
 refine qD rfl (zB (v := u3) rfl) ?_
 obtain ⟨G257, hle260, hX259, hr258, hf261⟩ := ho247.sealed hX245
 have ho263 := ho248.moreO hle260 hf261 ha20
 have ho264 := ho249.moreO hle260 hf261 (NP.hl hnp10).symm
 have ho265 := ho250.moreO hle260 hf261 (NP.hr hnp10).symm
 have ho266 := ho251.moreO hle260 hf261 (NP.hb hnp10).symm
 have hb267 := hb252.moreO hf261 (NP.hp hnp10).symm
 refine qI rfl (yU (E := (eSl eInt)) (e := 65) [u3] [xs2] Tryz.underlying66 sz65 zr65 (by exact xS (⟨_, rfl, hr258⟩)) (xA hr258.one) rfl rfl rfl rfl (by decide) hX259.pins (fun u268 w269 ho270 hp271 hl272 hk273 => ?_))
 have hX274 := hX259.step hp271 hl272
 have ho276 := ho263.below hl272
 have ho277 := ho264.below hl272
 have ho278 := ho265.below hl272
 have ho279 := ho266.below hl272
 have hb280 := hb267.below hl272
 have hm281 := hm241.below hl272
 have hm282 := hm253.below hl272
 have hm283 := hm254.below hl272
 have hm284 := hm255.below hl272
 have hm285 := hm256.below hl272
 have ho292 : Own (eSl eInt) 65 G257 w269 w.heap.size u268 ([xs2]) := ho270.weaken hX259.size
 refine qI rfl (yB (E := (eSl eInt)) (v := L) (u := u268) 24 Tryz.underlying66 ap65 (by decide) rfl rfl hX274.pins ho277 ho292.src (by first | omega | (rw [List.nil_append]; omega) | (rw [List.length_nil]; omega) | (rw [List.length_append]; omega) | (simp; done) | (simp; omega) | (simp only [List.length_append, List.length_cons, List.length_nil]; omega)) (by first | omega | (rw [List.nil_append]; omega) | (rw [List.length_nil]; omega) | (rw [List.length_append]; omega) | (simp; done) | (simp; omega) | (simp only [List.length_append, List.length_cons, List.length_nil]; omega)) (Nat.zero_le _) (fun u293 w294 ho295 hp296 hg297 hw298 => ?_))
 have hX299 := hX274.write hp296 hg297 ((PIn.ll hpin))
 have ho301 := ho276.keptA hg297 (NP.hl hnp21)
 have ho302 := ho278.keptA hg297 hpk219.alr.symm
 have ho303 := ho279.keptA hg297 hpk219.alb.symm
 have hb305 := hb280.keptA hg297 hpk219.apl
 have hm306 := hm281.kept hg297 (yP hm281 ho277)
 have hm307 := hm282.kept hg297 (yP hm282 ho277)
 have hm308 := hm283.kept hg297 (yP hm283 ho277)
 have hm309 := hm284.kept hg297 (yP hm284 ho277)
 have hm310 := hm285.kept hg297 (yP hm285 ho277)
 have ha312 : Apart u12.ownBlock u293.ownBlock := zI (NP.hl hnp21) hw298 ho276.lt
 have ha313 : Apart R.ownBlock u293.ownBlock := zI hpk219.alr.symm hw298 ho278.lt
 have ha314 : Apart B.ownBlock u293.ownBlock := zI hpk219.alb.symm hw298 ho279.lt
 have ha316 : Apart (some p) u293.ownBlock := zS hpk219.apl hw298 hb280.lt
 have hlo317 : Lo w (inP p L R B mm) u293.ownBlock := lo_app (PIn.ll hpin) hw298 hX274.size
 have hm318 : ((q.ns.map Nd.l) ++ ([xs2])).length = (q.ns.map Nd.l).length + 1 := List.length_append
 refine qD rfl (yZ rfl) ?_
 refine qD rfl (zJ (k := 0) rfl Tryz.underlying72 rfl nz66 rfl) ?_
 refine q0 rfl rfl rfl (xF (cs' := [u293, R, B, (.map (some mm.f)), (.map (some mm.o)), (.map (some mm.c)), (.map (some mm.s)), (.map (some mm.n))]) (us := [u293]) (v := u293) sz66 rfl rfl (cells1 ho295.one) (xA ho295.one) hX299.pins hb305 (Nat.le_of_ble_eq_true rfl) rfl (fun w319 hb320 hp321 hg322 hz323 => ?_))
 have hX324 := hX299.write hp321 hg322 ((PIn.lp hpin))
 have ho326 := ho301.keptA hg322 (NP.hp hnp21)
 have ho327 := ho302.keptA hg322 hpk219.apr.symm
 have ho328 := ho303.keptA hg322 hpk219.apb.symm
 have ho329 := ho295.keptA hg322 ha316.symm
 have hm330 := hm306.kept hg322 (xL hm306 hb305)
 have hm331 := hm307.kept hg322 (xL hm307 hb305)
 have hm332 := hm308.kept hg322 (xL hm308 hb305)
 have hm333 := hm309.kept hg322 (xL hm309 hb305)
 have hm334 := hm310.kept hg322 (xL hm310 hb305)
 refine qe (zA (zD (zF ?_)))
 refine qD rfl (zB (v := (.pointer (some ⟨p, 0, none⟩))) rfl) ?_
 refine qD rfl (zB (v := (.pointer (some ⟨p, 0, none⟩))) rfl) ?_
 refine qD rfl (yZ rfl) ?_
 refine qD rfl (zJ (k := 1) rfl Tryz.underlying72 rfl nz66 rfl) ?_
 refine qD rfl (zL (u := R) ag66 rfl (hb320.cell (o := 1) rfl)) ?_
 refine qD rfl (zB (v := u12) rfl) ?_
 obtain ⟨G335, hle338, hX337, hr336, hf339⟩ := ho326.sealed hX324
 have ho341 := ho327.moreO hle338 hf339 (NP.hr hnp21).symm
 have ho342 := ho328.moreO hle338 hf339 (NP.hb hnp21).symm
 have ho343 := ho329.moreO hle338 hf339 ha312.symm
 have hb344 := hb320.moreO hf339 (NP.hp hnp21).symm
 refine qI rfl (yU (E := (eSl eInt)) (e := 65) [u12] [ys2] Tryz.underlying66 sz65 zr65 (by exact xS (⟨_, rfl, hr336⟩)) (xA hr336.one) rfl rfl rfl rfl (by decide) hX337.pins (fun u345 w346 ho347 hp348 hl349 hk350 => ?_))
 have hX351 := hX337.step hp348 hl349
 have ho353 := ho341.below hl349
 have ho354 := ho342.below hl349
 have ho355 := ho343.below hl349
 have hb356 := hb344.below hl349
 have hm357 := hm330.below hl349
 have hm358 := hm331.below hl349
 have hm359 := hm332.below hl349
 have hm360 := hm333.below hl349
 have hm361 := hm334.below hl349
 have ho367 : Own (eSl eInt) 65 G335 w346 w.heap.size u345 ([ys2]) := ho347.weaken hX337.size
 refine qI rfl (yB (E := (eSl eInt)) (v := R) (u := u345) 24 Tryz.underlying66 ap65 (by decide) rfl rfl hX351.pins ho353 ho367.src (by first | omega | (rw [List.nil_append]; omega) | (rw [List.length_nil]; omega) | (rw [List.length_append]; omega) | (simp; done) | (simp; omega) | (simp only [List.length_append, List.length_cons, List.length_nil]; omega)) (by first | omega | (rw [List.nil_append]; omega) | (rw [List.length_nil]; omega) | (rw [List.length_append]; omega) | (simp; done) | (simp; omega) | (simp only [List.length_append, List.length_cons, List.length_nil]; omega)) (Nat.zero_le _) (fun u368 w369 ho370 hp371 hg372 hw373 => ?_))
 have hX374 := hX351.write hp371 hg372 ((PIn.lr hpin))
 have ho376 := ho354.keptA hg372 hpk219.arb.symm
 have ho377 := ho355.keptA hg372 ha313.symm
 have hb379 := hb356.keptA hg372 hpk219.apr
 have hm380 := hm357.kept hg372 (yP hm357 ho353)
 have hm381 := hm358.kept hg372 (yP hm358 ho353)
 have hm382 := hm359.kept hg372 (yP hm359 ho353)
 have hm383 := hm360.kept hg372 (yP hm360 ho353)
 have hm384 := hm361.kept hg372 (yP hm361 ho353)
 have ha386 : Apart B.ownBlock u368.ownBlock := zI hpk219.arb.symm hw373 ho354.lt
 have ha387 : Apart u293.ownBlock u368.ownBlock := zI ha313.symm hw373 ho355.lt
 have ha389 : Apart (some p) u368.ownBlock := zS hpk219.apr hw373 hb356.lt
 have hlo390 : Lo w (inP p L R B mm) u368.ownBlock := lo_app (PIn.lr hpin) hw373 hX351.size
 have hm391 : ((q.ns.map Nd.r) ++ ([ys2])).length = (q.ns.map Nd.r).length + 1 := List.length_append
 refine qD rfl (yZ rfl) ?_
 refine qD rfl (zJ (k := 1) rfl Tryz.underlying72 rfl nz66 rfl) ?_
 refine q0 rfl rfl rfl (xF (cs' := [u293, u368, B, (.map (some mm.f)), (.map (some mm.o)), (.map (some mm.c)), (.map (some mm.s)), (.map (some mm.n))]) (us := [u368]) (v := u368) sz66 rfl rfl (cells1 ho370.one) (xA ho370.one) hX374.pins hb379 (Nat.le_of_ble_eq_true rfl) rfl (fun w392 hb393 hp394 hg395 hz396 => ?_))
 have hX397 := hX374.write hp394 hg395 ((PIn.lp hpin))
 have ho399 := ho376.keptA hg395 hpk219.apb.symm
 have ho400 := ho377.keptA hg395 ha316.symm
 have ho401 := ho370.keptA hg395 ha389.symm
 have hm402 := hm380.kept hg395 (xL hm380 hb379)
 have hm403 := hm381.kept hg395 (xL hm381 hb379)
 have hm404 := hm382.kept hg395 (xL hm382 hb379)
 have hm405 := hm383.kept hg395 (xL hm383 hb379)
 have hm406 := hm384.kept hg395 (xL hm384 hb379)
 refine qe (zA (zD (zF ?_)))
 refine qD rfl (zB (v := (.pointer (some ⟨p, 0, none⟩))) rfl) ?_
 refine qD rfl (zB (v := (.pointer (some ⟨p, 0, none⟩))) rfl) ?_
 refine qD rfl (yZ rfl) ?_
 refine qD rfl (zJ (k := 2) rfl Tryz.underlying72 rfl nz65 rfl) ?_
 refine qD rfl (zL (u := B) ag65 rfl (hb393.cell (o := 2) rfl)) ?_
 refine qD rfl (zB (v := (.int .i64 bm)) rfl) ?_
 refine qI rfl (yU (E := eInt) (e := 3) [(.int .i64 bm)] [bm] Tryz.underlying65 sz3 zr3 (by exact xS (by rfl)) (xA (by rfl)) rfl rfl rfl rfl (by decide) hX397.pins (fun u407 w408 ho409 hp410 hl411 hk412 => ?_))
 have hX413 := hX397.step hp410 hl411
 have ho415 := ho399.below hl411
 have ho416 := ho400.below hl411
 have ho417 := ho401.below hl411
 have hb418 := hb393.below hl411
 have hm419 := hm402.below hl411
 have hm420 := hm403.below hl411
 have hm421 := hm404.below hl411
 have hm422 := hm405.below hl411
 have hm423 := hm406.below hl411
 have ho429 : Own eInt 3 G335 w408 w.heap.size u407 ([bm]) := ho409.weaken hX397.size
 refine qI rfl (yB (E := eInt) (v := B) (u := u407) 8 Tryz.underlying65 ap3 (by decide) rfl rfl hX413.pins ho415 ho429.src (by first | omega | (rw [List.nil_append]; omega) | (rw [List.length_nil]; omega) | (rw [List.length_append]; omega) | (simp; done) | (simp; omega) | (simp only [List.length_append, List.length_cons, List.length_nil]; omega)) (by first | omega | (rw [List.nil_append]; omega) | (rw [List.length_nil]; omega) | (rw [List.length_append]; omega) | (simp; done) | (simp; omega) | (simp only [List.length_append, List.length_cons, List.length_nil]; omega)) (Nat.zero_le _) (fun u430 w431 ho432 hp433 hg434 hw435 => ?_))
 have hX436 := hX413.write hp433 hg434 ((PIn.lb hpin))
 have ho438 := ho416.keptA hg434 ha314.symm
 have ho439 := ho417.keptA hg434 ha386.symm
 have hb441 := hb418.keptA hg434 hpk219.apb
 have hm442 := hm419.kept hg434 (yP hm419 ho415)
 have hm443 := hm420.kept hg434 (yP hm420 ho415)
 have hm444 := hm421.kept hg434 (yP hm421 ho415)
 have hm445 := hm422.kept hg434 (yP hm422 ho415)
 have hm446 := hm423.kept hg434 (yP hm423 ho415)
 have ha448 : Apart u293.ownBlock u430.ownBlock := zI ha314.symm hw435 ho416.lt
 have ha449 : Apart u368.ownBlock u430.ownBlock := zI ha386.symm hw435 ho417.lt
 have ha451 : Apart (some p) u430.ownBlock := zS hpk219.apb hw435 hb418.lt
 have hlo452 : Lo w (inP p L R B mm) u430.ownBlock := lo_app (PIn.lb hpin) hw435 hX413.size
 have hm453 : (q.bs ++ ([bm])).length = q.bs.length + 1 := List.length_append
 refine qD rfl (yZ rfl) ?_
 refine qD rfl (zJ (k := 2) rfl Tryz.underlying72 rfl nz65 rfl) ?_
 refine q0 rfl rfl rfl (xF (cs' := [u293, u368, u430, (.map (some mm.f)), (.map (some mm.o)), (.map (some mm.c)), (.map (some mm.s)), (.map (some mm.n))]) (us := [u430]) (v := u430) sz65 rfl rfl (cells1 ho432.one) (xA ho432.one) hX436.pins hb441 (Nat.le_of_ble_eq_true rfl) rfl (fun w454 hb455 hp456 hg457 hz458 => ?_))
 have hX459 := hX436.write hp456 hg457 ((PIn.lp hpin))
 have ho461 := ho438.keptA hg457 ha316.symm
 have ho462 := ho439.keptA hg457 ha389.symm
 have ho463 := ho432.keptA hg457 ha451.symm
 have hm464 := hm442.kept hg457 (xL hm442 hb441)
 have hm465 := hm443.kept hg457 (xL hm443 hb441)
 have hm466 := hm444.kept hg457 (xL hm444 hb441)
 have hm467 := hm445.kept hg457 (xL hm445 hb441)
 have hm468 := hm446.kept hg457 (xL hm446 hb441)
 refine qe (zA (zD (zF ?_)))
 refine qD rfl (zB (v := (.int .i64 (q.bs.length : Int))) rfl) ?_
 refine qD rfl (zC (v := (.int .i64 (q.bs.length : Int))) rfl) ?_
 refine qe (zA ?_)
 refine wp_ret ?_
 refine zR ?_
 refine zO (v := (.int .i64 (q.bs.length : Int))) rfl rfl rfl ?_
 have el : (q.ns.map Nd.l) ++ [xs2] = (addQ q xs ys bm).ns.map Nd.l := by rw [hxs2]; simp [addQ]
 have er : (q.ns.map Nd.r) ++ [ys2] = (addQ q xs ys bm).ns.map Nd.r := by rw [hys2]; simp [addQ]
 have ef : putE q.fl (b2s kxb) (q.bs.length : Int) = (addQ q xs ys bm).fl := by rw [hkey, hxs2, hys2, hok.ar.ok.len]; rfl
 have hol := ho461
 have hor := ho462
 have hff := hm464
 rw [el] at hol
 rw [er] at hor
 rw [ef] at hff
 exact ⟨(q.bs.length : Int), u293, u368, u430, addQ q xs ys bm, G335, rfl, ⟨hb455, hol, hor, ho463, hff, hm465, hm466, hm467, hm468, ha316, ha389, ha451, ha387, ha448, ha449, hpk219.df⟩, hadd.1, hadd.2.1, ⟨hlo317, hlo390, hlo452⟩, hX459, by rw [hok.ar.ok.len]; exact hadd.2.2.1, by rw [hok.ar.ok.len]; exact hadd.2.2.2.1, hadd.2.2.2.2, rfl, Or.inr (by omega)⟩

end PO1
end Go.Proofs.YtfnginkcmcfdfaaGreatDoor

set_option maxRecDepth 20000
set_option maxHeartbeats 2000000
namespace Go.Proofs.YtfnginkcmcfdfaaGreatDoor
namespace PL1
open Go.RowKit Go.GL Go.Proofs
open Go.Proofs.YtfnginkcmcfdfaaGreatDoor.B1
open Go.Proofs.YtfnginkcmcfdfaaGreatDoor.K1
open Go.Proofs.YtfnginkcmcfdfaaGreatDoor.PO1









theorem mk3 : (Tryz.prog.info? 3).map (fun i => (i.size, i.bytes, i.zero)) = some (1, 8, some (.int .i64 0)) := by kernel_rfl








theorem pl72 : (Tryz.prog.underlying 72).bind (placesD Tryz.prog) = some [(0, 1), (1, 1), (2, 1), (3, 1), (4, 1), (5, 1), (6, 1), (7, 1)] := by kernel_rfl










theorem newPool_spec {w : World} {G : Pin} (hP : Pins G w) :
  Calls Tryz.prog 51 [].toArray w fun e w' => ∃ (p : Nat) (mm : PM) (G' : Pin), e = .returned (.pointer (some ⟨p, 0, none⟩)) ∧ Pk 65 3 G' w' p (.slice none 0 0) (.slice none 0 0) (.slice none 0 0) mm ⟨[], [], [], [], [], [], []⟩ ∧ (∀ k, inP p (.slice none 0 0) (.slice none 0 0) (.slice none 0 0) mm k → w.heap.size ≤ k) ∧ Ext noS G w G' w' := by
 refine zW (n := 8) Tryz.func51 Tryz.ntmps51 rfl rfl ?_
 have hX0 : Ext noS G w G w := Ext.refl hP
 refine zD (zF ?_)
 refine qD rfl (zC (v := (.pointer none)) rfl) ?_
 refine qe (zA (zD (zF ?_)))
 refine qI rfl (o_makeMap (fun k : ByteArray => Value.string k) (fun v : Int => Value.int .i64 v) hX0.pins (fun m1 w2 hk3 hm4 hp5 hl6 => ?_))
 have hX7 := hX0.step hp5 hl6
 have hlo8 : w.heap.size ≤ m1 := by have := hX0.size; omega
 refine qI rfl (o_makeMap encP2 (fun v : Bool => Value.bool v) hX7.pins (fun m9 w10 hk11 hm12 hp13 hl14 => ?_))
 have hX15 := hX7.step hp13 hl14
 have hm16 := hm4.below hl14
 have ha17 : Apart (some m9) (some m1) := zP (congrArg some hk11) hm4.lt
 have hlo18 : w.heap.size ≤ m9 := by have := hX7.size; omega
 refine qI rfl (o_makeMap (fun k : Int => Value.int .i64 k) (fun v : Int => Value.int .i64 v) hX15.pins (fun m19 w20 hk21 hm22 hp23 hl24 => ?_))
 have hX25 := hX15.step hp23 hl24
 have hm26 := hm16.below hl24
 have hm27 := hm12.below hl24
 have ha28 : Apart (some m19) (some m1) := zP (congrArg some hk21) hm16.lt
 have ha29 : Apart (some m19) (some m9) := zP (congrArg some hk21) hm12.lt
 have hlo30 : w.heap.size ≤ m19 := by have := hX15.size; omega
 refine qI rfl (o_makeMap encP2 (fun v : Int => Value.int .i64 v) hX25.pins (fun m31 w32 hk33 hm34 hp35 hl36 => ?_))
 have hX37 := hX25.step hp35 hl36
 have hm38 := hm26.below hl36
 have hm39 := hm27.below hl36
 have hm40 := hm22.below hl36
 have ha41 : Apart (some m31) (some m1) := zP (congrArg some hk33) hm26.lt
 have ha42 : Apart (some m31) (some m9) := zP (congrArg some hk33) hm27.lt
 have ha43 : Apart (some m31) (some m19) := zP (congrArg some hk33) hm22.lt
 have hlo44 : w.heap.size ≤ m31 := by have := hX25.size; omega
 refine qI rfl (o_makeMap (fun k : Int => Value.int .i64 k) (fun v : Int => Value.int .i64 v) hX37.pins (fun m45 w46 hk47 hm48 hp49 hl50 => ?_))
 have hX51 := hX37.step hp49 hl50
 have hm52 := hm38.below hl50
 have hm53 := hm39.below hl50
 have hm54 := hm40.below hl50
 have hm55 := hm34.below hl50
 have ha56 : Apart (some m45) (some m1) := zP (congrArg some hk47) hm38.lt
 have ha57 : Apart (some m45) (some m9) := zP (congrArg some hk47) hm39.lt
 have ha58 : Apart (some m45) (some m19) := zP (congrArg some hk47) hm40.lt
 have ha59 : Apart (some m45) (some m31) := zP (congrArg some hk47) hm34.lt
 have hlo60 : w.heap.size ≤ m45 := by have := hX37.size; omega
 refine qD rfl (xR [(.slice none 0 0), (.slice none 0 0), (.slice none 0 0), (.map none), (.map none), (.map none), (.map none), (.map none)] [(.slice none 0 0), (.slice none 0 0), (.slice none 0 0), (.map (some m1)), (.map (some m9)), (.map (some m19)), (.map (some m31)), (.map (some m45))] [(3, (.map (some m1)), [(.map (some m1))]), (4, (.map (some m9)), [(.map (some m9))]), (5, (.map (some m19)), [(.map (some m19))]), (6, (.map (some m31)), [(.map (some m31))]), (7, (.map (some m45)), [(.map (some m45))])] Tryz.underlying72 zr72 rfl pl72 rfl (List.forall_mem_cons.2 ⟨rfl, (List.forall_mem_cons.2 ⟨rfl, (List.forall_mem_cons.2 ⟨rfl, (List.forall_mem_cons.2 ⟨rfl, (List.forall_mem_cons.2 ⟨rfl, (fun _ h => by cases h)⟩)⟩)⟩)⟩)⟩) rfl) ?_
 refine qI rfl (xH [(.slice none 0 0), (.slice none 0 0), (.slice none 0 0), (.map (some m1)), (.map (some m9)), (.map (some m19)), (.map (some m31)), (.map (some m45))] (v := (.agg [(.slice none 0 0), (.slice none 0 0), (.slice none 0 0), (.map (some m1)), (.map (some m9)), (.map (some m19)), (.map (some m31)), (.map (some m45))].toArray)) rfl rfl hX51.pins (fun b61 w62 hk63 hb64 hp65 hl66 => ?_))
 have hX67 := hX51.step hp65 hl66
 have hm68 := hm52.below hl66
 have hm69 := hm53.below hl66
 have hm70 := hm54.below hl66
 have hm71 := hm55.below hl66
 have hm72 := hm48.below hl66
 have hlo73 : w.heap.size ≤ b61 := by have := hX51.size; omega
 refine qD rfl (zC (v := (.pointer (some ⟨b61, 0, none⟩))) rfl) ?_
 refine qe (zA ?_)
 refine wp_ret ?_
 refine zR ?_
 refine zO (v := (.pointer (some ⟨b61, 0, none⟩))) rfl rfl rfl ?_
 have hdf : PDiff ⟨m1, m9, m19, m31, m45⟩ := ⟨fun e => ha17.symm _ rfl (congrArg some e.symm), fun e => ha28.symm _ rfl (congrArg some e.symm), fun e => ha41.symm _ rfl (congrArg some e.symm), fun e => ha56.symm _ rfl (congrArg some e.symm), fun e => ha29.symm _ rfl (congrArg some e.symm), fun e => ha42.symm _ rfl (congrArg some e.symm), fun e => ha57.symm _ rfl (congrArg some e.symm), fun e => ha43.symm _ rfl (congrArg some e.symm), fun e => ha58.symm _ rfl (congrArg some e.symm), fun e => ha59.symm _ rfl (congrArg some e.symm)⟩
 have hfr : ∀ k, inP b61 (.slice none 0 0) (.slice none 0 0) (.slice none 0 0) ⟨m1, m9, m19, m31, m45⟩ k → w.heap.size ≤ k := by rintro k (rfl | hk | hk | hk | rfl | rfl | rfl | rfl | rfl) <;> first | (cases hk; done) | exact hlo73 | exact hlo8 | exact hlo18 | exact hlo30 | exact hlo44 | exact hlo60
 exact ⟨b61, ⟨m1, m9, m19, m31, m45⟩, _, rfl, ⟨hb64, (Own.nil _ _ _ _ _), (Own.nil _ _ _ _ _), (Own.nil _ _ _ _ _), hm68, hm69, hm70, hm71, hm72, apart_none.symm, apart_none.symm, apart_none.symm, apart_none, apart_none, apart_none, hdf⟩, hfr, hX67⟩

theorem renamed_spec {w : World} {G : Pin} {u v : Value} {xs ys : List Int} (hP : Pins G w) (hu : RSl eInt G u xs) (hv : RSl eInt G v ys) (hs : xs.length ≤ 1048576) (hb : ∀ i, i < xs.length → 0 ≤ xs.getD i 0 ∧ xs.getD i 0 < ys.length) :
  Calls Tryz.prog 143 [u, v].toArray w fun e w' => ∃ (u : Value) (G' : Pin), e = .returned u ∧ Own eInt 3 G' w' w.heap.size u (atL ys xs) ∧ Ext noS G w G' w' := by
 refine zW (n := 27) Tryz.func143 Tryz.ntmps143 rfl rfl ?_
 have hX0 : Ext noS G w G w := Ext.refl hP
 have hm := hu.max
 have hal : (atL ys xs).length = xs.length := xE
 have hrl : (List.replicate xs.length (0 : Int)).length = xs.length := List.length_replicate
 refine zD (zF ?_)
 refine qD rfl (zC (v := (.slice none 0 0)) rfl) ?_
 refine qe (zA (zD (zF ?_)))
 refine qD rfl (zB (v := u) rfl) ?_
 refine qD rfl (zT Tryz.underlying65 (v := u) rfl hu) ?_
 refine qI rfl (o_make (E := eInt) 0 8 (.int .i64 0) Tryz.underlying65 mk3 (fun _ => rfl) rfl rfl hX0.pins (by omega) (by omega) (by omega) (fun u1 w2 ho3 hp4 hl5 hk6 => ?_))
 have hX7 := hX0.step hp4 hl5
 have ho8 : Own eInt 3 G w2 w.heap.size u1 (List.replicate xs.length 0) := ho3.weaken hX0.size
 have hm9 : (List.replicate xs.length 0).length = xs.length := List.length_replicate ..
 refine qD rfl (zC (v := u1) rfl) ?_
 refine qe (zA (zD (zD (zF ?_))))
 refine qD rfl (zB (v := u) rfl) ?_
 refine qD rfl (zT Tryz.underlying65 (v := u) rfl hu) ?_
 refine qD rfl (zB (v := (.int .i64 0)) rfl) ?_
 refine qe (zA ?_)
 refine zX ?_
 refine yK (fun (k : Nat) (en : Nat → Value) (W : World) => ∃ (env1 : Nat → Value) (j : Nat) (os : List Int), en = (upd (upd (upd (upd (upd (upd env1 1 v) 4 (.slice none 0 0)) 5 u1) 11 u) 12 (.int .i64 (xs.length : Int))) 13 (.int .i64 (j : Int))) ∧ k = xs.length - j ∧ Ext noS G w G W ∧ (j ≤ xs.length) ∧ (os = (atL ys xs).take j ++ (List.replicate xs.length 0).drop j) ∧ (os.length = xs.length) ∧ (Own eInt 3 G W w.heap.size u1 (os))) _ ⟨_, 0, List.replicate xs.length 0, (zE (x := 13) (zE (x := 12) (zE (x := 11) (zE (x := 5) (zE (x := 4) (zV (x := 1) rfl) rfl) rfl) rfl) rfl) rfl), rfl, hX7, Nat.zero_le _, rfl, hrl, ho8⟩ ?_
 rintro k10 _ w11 ⟨env1, j, os, rfl, hk12, hX13, hj, hr, hol, hw14⟩
 refine zD (zF ?_)
 refine qD rfl (yN rfl rfl) ?_
 refine qe (zA (zD ?_))
 refine yA (p := ((j : Int) : Int) < (xs.length : Int)) rfl rfl (fun h15 => ?_) (fun h15 => ?_)
 ·skip
  have hbj := hb j (by omega)
  refine wp_skip ?_
  refine zA (zD ?_)
  refine zX ?_
  refine zD (zF ?_)
  refine qD rfl (zB (v := (.int .i64 (j : Int))) rfl) ?_
  refine qD rfl (zM Tryz.underlying65 sz3 (v := u) rfl rfl hu (by omega) (by omega)) ?_
  refine qD rfl (zK (r := xs.getD j 0) rfl ag3 (z := (j : Int)) rfl hu hX13.pins (by omega) (by omega)) ?_
  refine qD rfl (zC (v := (.int .i64 (j : Int))) rfl) ?_
  refine qD rfl (zC (v := (.int .i64 (xs.getD j 0))) rfl) ?_
  refine qe (zA (zF ?_))
  refine qD rfl (zB (v := u1) rfl) ?_
  refine qD rfl (zB (v := (.int .i64 (j : Int))) rfl) ?_
  refine qD rfl (zB (v := v) rfl) ?_
  refine qD rfl (zB (v := (.int .i64 (xs.getD j 0))) rfl) ?_
  refine qD rfl (zM Tryz.underlying65 sz3 (v := v) rfl rfl hv (by omega) (by omega)) ?_
  refine qD rfl (zK (r := ys.getD (xs.getD j 0).toNat 0) rfl ag3 (z := (xs.getD j 0)) rfl hv hX13.pins (by omega) (by omega)) ?_
  refine qD rfl (zM Tryz.underlying65 sz3 (v := u1) rfl rfl hw14.read (by omega) (by omega)) ?_
  refine q0 rfl rfl rfl (o_set (E := eInt) (v := u1) (u := (.int .i64 (ys.getD (xs.getD j 0).toNat 0))) (z := (j : Int)) (ys.getD (xs.getD j 0).toNat 0) sz3 rfl rfl rfl rfl hX13.pins hw14 (by omega) (by omega) (fun w16 ho17 hp18 hg19 hz20 => ?_))
  have hX21 := hX13.write hp18 hg19 ((yI hw14))
  refine qe ?_
  refine yF ?_
  refine zA (zF ?_)
  refine qD rfl (yL rfl rfl (by omega)) ?_
  refine qD rfl (zB (v := (.int .i64 ((j : Int) + 1))) rfl) ?_
  refine qe ?_
  refine yE ?_
  refine ⟨_, ?_, _, rfl, _, j + 1, os.set j (ys.getD (xs.getD j 0).toNat 0), (zE (x := 13) (zE (x := 12) (zE (x := 11) (zE (x := 5) (zE (x := 4) (zV (x := 1) rfl) rfl) rfl) rfl) rfl) rfl), rfl, hX21, (by omega), (by rw [hr]; exact cur_set 0 (by omega) (by omega) (at_getD (by omega))), ((List.length_set ..).trans hol), ho17⟩
  omega
 refine wp_exit ?_
 refine zZ ?_
 refine yG ?_
 refine yC ?_
 refine zA (zD (zF ?_))
 refine qD rfl (zB (v := u1) rfl) ?_
 refine qD rfl (zC (v := u1) rfl) ?_
 refine qe (zA ?_)
 refine wp_ret ?_
 refine zR ?_
 refine zO (v := u1) rfl rfl rfl ?_
 rw [cur_end (by omega) (by omega)] at hr
 exact ⟨_, _, rfl, (by rw [← hr]; exact hw14), hX13⟩

theorem load_spec {w : World} {G : Pin} {p : Nat} {L R B : Value} {mm : PM} {q : PSt} (hP : Pins G w) (hpk : Pk 65 3 G w p L R B mm q) (hok : PoolOk q) {x : Value} {fs : List Nd} (hx : RSl eNode G x fs) (hf : FormOk fs) (hl : q.ns.length + fs.length ≤ 1048576) :
  Calls Tryz.prog 104 [(.pointer (some ⟨p, 0, none⟩)), (.agg [x].toArray)].toArray w fun e w' => ∃ (u : Value) (ats : List Int) (L' R' B' : Value) (q' : PSt) (G' : Pin), e = .returned u ∧ Pk 65 3 G' w' p L' R' B' mm q' ∧ PoolOk q' ∧ PX q q' ∧ PLo w p L R B mm L' R' B' ∧ Ext (inP p L R B mm) G w G' w' ∧ Own eInt 3 G' w' w.heap.size u ats ∧ NP p L' R' B' mm u.ownBlock ∧ LdOk fs q q' fs.length ats := by
 refine zW (n := 34) Tryz.func104 Tryz.ntmps104 rfl rfl ?_
 have hX0 : Ext (inP p L R B mm) G w G w := Ext.refl hP
 have hpin : PIn w (inP p L R B mm) p L R B mm := PIn.self
 have hml1 : (q.ns.map Nd.l).length = q.ns.length ∧ (q.ns.map Nd.r).length = q.ns.length := ⟨List.length_map .., List.length_map ..⟩
 have hml2 : q.bs.length = q.ns.length ∧ q.ns.length ≤ 1048576 := ⟨hok.ar.ok.len, hok.ar.ok.lim⟩
 refine zD (zF ?_)
 refine qI rfl (xH [x] (v := (.agg [x].toArray)) rfl rfl hX0.pins (fun b3 w4 hk5 hb6 hp7 hl8 => ?_))
 have hX9 := hX0.step hp7 hl8
 have hpk10 := hpk.below hl8 hp7
 have ha15 := hpk.new (x := (some b3)) (fun k hk => by rw [(congrArg some hk5)] at hk; cases hk; exact Nat.le_refl _)
 have hlo16 : w.heap.size ≤ b3 := by have := hX0.size; omega
 obtain ⟨G17, hle18, hX19, hbp20, hf21⟩ := hb6.shut hX9 hlo16
 have hpk22 := hpk10.more hle18 hf21 ha15
 refine qD rfl (zC (v := (.slice none 0 0)) rfl) ?_
 refine qe (zA (zD (zF ?_)))
 refine qD rfl (zJ (k := 0) rfl Tryz.underlying32 rfl nz30 rfl) ?_
 refine qD rfl (zL (u := x) ag30 rfl (hX19.pins _ _ _ (hbp20 0 _ rfl))) ?_
 refine qD rfl (zT Tryz.underlying30 (v := x) rfl hx) ?_
 refine qI rfl (o_make0 (E := eInt) Tryz.underlying65 mk3 rfl rfl hX19.pins (by omega) (by omega) (by omega) (fun u23 w24 ho25 hp26 hl27 hk28 => ?_))
 have hX29 := hX19.step hp26 hl27
 have hpk30 := hpk22.below hl27 hp26
 have ha35 := hpk22.new (x := u23.ownBlock) (fun k hk => by rw [hk28] at hk; cases hk; exact Nat.le_refl _)
 have ho36 : Own eInt 3 G17 w24 w.heap.size u23 ([]) := ho25.weaken hX19.size
 refine qD rfl (zC (v := u23) rfl) ?_
 refine qe (zA (zD (zD (zF ?_))))
 refine qD rfl (zJ (k := 0) rfl Tryz.underlying32 rfl nz30 rfl) ?_
 refine qD rfl (zL (u := x) ag30 rfl (hX29.pins _ _ _ (hbp20 0 _ rfl))) ?_
 refine qD rfl (zT Tryz.underlying30 (v := x) rfl hx) ?_
 refine qD rfl (zB (v := (.int .i64 0)) rfl) ?_
 refine qe (zA ?_)
 refine zX ?_
 refine yK (fun (k : Nat) (en : Nat → Value) (W : World) => ∃ (env1 : Nat → Value) (k4 : Nat) (at_ : Value) (ats : List Int) (L37 : Value) (R38 : Value) (B39 : Value) (q40 : PSt) (GL1 : Pin), en = (upd (upd (upd (upd (upd (upd env1 0 (.pointer (some ⟨p, 0, none⟩))) 4 (.slice none 0 0)) 5 at_) 13 x) 14 (.int .i64 (fs.length : Int))) 15 (.int .i64 (k4 : Int))) ∧ k = fs.length - k4 ∧ Ext (inP p L R B mm) G w GL1 W ∧ Pin.le G17 GL1 ∧ (k4 ≤ fs.length) ∧ (LdOk fs q q40 k4 ats) ∧ (Own eInt 3 GL1 W w.heap.size at_ (ats)) ∧ (Pk 65 3 GL1 W p L37 R38 B39 mm q40) ∧ (PIn w ((inP p L R B mm)) p L37 R38 B39 mm) ∧ (PoolOk q40) ∧ (PX q q40) ∧ (NP p L37 R38 B39 mm at_.ownBlock)) _ ⟨_, 0, u23, [], L, R, B, q, G17, (zE (x := 15) (zE (x := 14) (zE (x := 13) (zE (x := 5) (zE (x := 4) (zV (x := 0) rfl) rfl) rfl) rfl) rfl) rfl), rfl, hX29, Pin.le_refl _, Nat.zero_le _, LdOk.start, ho36, hpk30, hpin, hok, (PX.refl _), ha35⟩ ?_
 rintro k41 _ w42 ⟨env1, k4, at_, ats, L37, R38, B39, q40, GL1, rfl, hk43, hX44, hlek41, hk, hld, hw45, hpk46, hpin47, hok48, hpx49, hnp50⟩
 have hql51 := hpx49.len
 have hml52 : (q40.ns.map Nd.l).length = q40.ns.length ∧ (q40.ns.map Nd.r).length = q40.ns.length := ⟨List.length_map .., List.length_map ..⟩
 have hml53 : q40.bs.length = q40.ns.length ∧ q40.ns.length ≤ 1048576 := ⟨hok48.ar.ok.len, hok48.ar.ok.lim⟩
 have hal := hld.len
 have hah := hld.hi
 have hfl := hf.len
 refine zD (zF ?_)
 refine qD rfl (yN rfl rfl) ?_
 refine qe (zA (zD ?_))
 refine yA (p := ((k4 : Int) : Int) < (fs.length : Int)) rfl rfl (fun h54 => ?_) (fun h54 => ?_)
 ·skip
  have oo := xI hf.opts (show k4 < fs.length by omega)
  have hfe := hf.lens k4 (by omega)
  refine wp_skip ?_
  refine zA (zD ?_)
  refine zX ?_
  refine zD (zF ?_)
  refine qD rfl (zM Tryz.underlying30 sz99 (v := x) rfl rfl hx (by omega) (by omega)) ?_
  obtain ⟨u55, u56, hr57, hr58, hl59⟩ := qQ (hx.at (z := (k4 : Int)) (by omega) (by omega)) (j := k4) rfl
  have hm60 := hr57.max
  have hm61 := hr58.max
  refine qD rfl (hl59 ag99 sz99 rfl (Pins.of_le hX44.pins (Pin.le_trans hle18 hlek41))) ?_
  refine qI rfl (yW [(.slice none 0 0), (.slice none 0 0)] zr99 rfl hX44.pins (fun b62 w63 hk64 hb65 hp66 hl67 => ?_))
  have hX68 := hX44.step hp66 hl67
  have ho69 := hw45.below hl67
  have hpk70 := hpk46.below hl67 hp66
  have ha71 : Apart (some b62) at_.ownBlock := zH (congrArg some hk64) hw45.lt
  have ha76 := hpk46.new (x := (some b62)) (fun k hk => by rw [(congrArg some hk64)] at hk; cases hk; exact Nat.le_refl _)
  have hlo77 : w.heap.size ≤ b62 := by have := hX44.size; omega
  refine q0 rfl rfl rfl (xF (cs' := [u55, u56]) (us := [u55, u56]) (v := (.agg [u55, u56].toArray)) sz99 rfl rfl rfl (xY hr57.one hr58.one) hX68.pins hb65 (Nat.le_of_ble_eq_true rfl) rfl (fun w78 hb79 hp80 hg81 hz82 => ?_))
  have hX83 := hX68.write hp80 hg81 ((yM hlo77))
  have ho84 := ho69.keptA hg81 ha71.symm
  have hpk85 := hpk70.kept hg81 hp80 ha76
  obtain ⟨G86, hle87, hX88, hbp89, hf90⟩ := hb79.shut hX83 hlo77
  have ho91 := ho84.moreA hle87 hf90 ha71.symm
  have hpk92 := hpk85.more hle87 hf90 ha76
  refine qe (zA ?_)
  refine yX (S := fun wz => Pins G86 wz) (last := 14) (by kernel_rfl) rfl ?_
  have hl93 : Below w78.heap.size w78 w78.drew := (Below.refl _ _).drew
  have hp94 := hX88.pins.below hl93
  have hX95 := hX88.step hp94 hl93
  have ho96 := ho91.below hl93
  have hpk97 := hpk92.below hl93 hp94
  refine dT (i := 0) rfl rfl (by kernel_rfl) (fun _ _ => zB (v := at_) rfl) hX95.pins ?_
  refine dT (i := 1) rfl rfl (by kernel_rfl) (fun _ _ => zB (v := (.pointer (some ⟨p, 0, none⟩))) rfl) hX95.pins ?_
  refine dT (i := 2) rfl rfl (by kernel_rfl) (fun _ _ => zJ (k := 0) rfl Tryz.underlying99 rfl nz65 rfl) hX95.pins ?_
  refine dT (i := 3) rfl rfl (by kernel_rfl) (fun _ hS => zL (u := u55) ag65 rfl (hS _ _ _ (hbp89 0 _ rfl))) hX95.pins ?_
  refine dT (i := 4) rfl rfl (by kernel_rfl) (fun _ _ => zB (v := at_) rfl) hX95.pins ?_
  refine dT (i := 6) rfl rfl (by kernel_rfl) (fun _ _ => zJ (k := 1) rfl Tryz.underlying99 rfl nz65 rfl) hX95.pins ?_
  refine dT (i := 7) rfl rfl (by kernel_rfl) (fun _ hS => zL (u := u56) ag65 rfl (hS _ _ _ (hbp89 1 _ rfl))) hX95.pins ?_
  refine dT (i := 8) rfl rfl (by kernel_rfl) (fun _ _ => zB (v := at_) rfl) hX95.pins ?_
  refine zQ (i := 5) (by kernel_rfl) (zU (i := 5) rfl rfl rfl (zG rfl _) (zN (vs := [u55, at_]) Tryz.func143 nm143 rfl rfl rfl ?_))
  refine Calls.mono (renamed_spec (Gadd.pins hX95.pins at_) ((hr57.mono (Pin.le_trans (Pin.le_trans hle18 hlek41) hle87)).mono (Gadd.le _ _ _)) ho96.read (by omega) (fun i hi => by have h7 := oo.1 _ (yS (d := (0 : Int)) hi); omega)) ?_
  rintro _ w100 ⟨u98, G99, rfl, ho101, hx102⟩
  refine ⟨_, rfl, ?_⟩
  have hx103 := deep_back hX95.pins hx102
  have ho104 := ho101.anti flat_int (Pin.le_trans (Gadd.le G86 w78.drew at_) hx102.le)
  have hX105 := hX95.step hx103.pins hx103.below
  have ho106 := ho96.below hx103.below
  have hpk107 := hpk97.below hx103.below hx103.pins
  have ha108 : Apart u98.ownBlock at_.ownBlock := zY ho104.lt ho96.lt
  have ha109 := hpk97.new (x := u98.ownBlock) (fun k hk => (ho104.lt k hk).1)
  have ho110 : Own eInt 3 G86 w100 w.heap.size u98 (atL ats ((fs.getD k4 default).l)) := ho104.weaken hX95.size
  have hm111 : (atL ats ((fs.getD k4 default).l)).length = ((fs.getD k4 default).l).length := xE
  refine ⟨fun _ => hX105.pins, ?_⟩
  refine zQ (i := 9) (by kernel_rfl) (zU (i := 9) rfl rfl rfl (zG rfl _) (zN (vs := [u56, at_]) Tryz.func143 nm143 rfl rfl rfl ?_))
  refine Calls.mono (renamed_spec (Gadd.pins hX105.pins at_) ((hr58.mono (Pin.le_trans (Pin.le_trans hle18 hlek41) hle87)).mono (Gadd.le _ _ _)) ho106.read (by omega) (fun i hi => by have h7 := oo.2 _ (yS (d := (0 : Int)) hi); omega)) ?_
  rintro _ w114 ⟨u112, G113, rfl, ho115, hx116⟩
  refine ⟨_, rfl, ?_⟩
  have hx117 := deep_back hX105.pins hx116
  have ho118 := ho115.anti flat_int (Pin.le_trans (Gadd.le G86 w100 at_) hx116.le)
  have hX119 := hX105.step hx117.pins hx117.below
  have ho120 := ho106.below hx117.below
  have ho121 := ho110.below hx117.below
  have hpk122 := hpk107.below hx117.below hx117.pins
  have ha123 : Apart u112.ownBlock at_.ownBlock := zY ho118.lt ho106.lt
  have ha124 : Apart u112.ownBlock u98.ownBlock := zY ho118.lt ho110.lt
  have ha125 := hpk107.new (x := u112.ownBlock) (fun k hk => (ho118.lt k hk).1)
  have ho126 : Own eInt 3 G86 w114 w.heap.size u112 (atL ats ((fs.getD k4 default).r)) := ho118.weaken hX105.size
  have hm127 : (atL ats ((fs.getD k4 default).r)).length = ((fs.getD k4 default).r).length := xE
  refine ⟨fun _ => hX119.pins, ?_⟩
  obtain ⟨G128, hle131, hX130, hr129, hf132⟩ := ho121.sealed hX119
  have ho133 := ho120.moreO hle131 hf132 ha108.symm
  have ho134 := ho126.moreO hle131 hf132 ha124
  have hpk135 := hpk122.moreO hle131 hf132 ha109
  obtain ⟨G136, hle139, hX138, hr137, hf140⟩ := ho134.sealed hX130
  have ho141 := ho133.moreO hle139 hf140 ha123.symm
  have hpk142 := hpk135.moreO hle139 hf140 ha125
  refine zQ (i := 10) (by kernel_rfl) (zU (i := 10) rfl rfl rfl (zG rfl _) (zN (vs := [(.pointer (some ⟨p, 0, none⟩)), u98, u112]) Tryz.func79 nm79 rfl rfl rfl ?_))
  refine Calls.mono (qL hX138.pins hpk142 hok48 (hr129.mono hle139) hr137 (by omega) ⟨by rw [xE]; omega, by rw [xE]; omega⟩ (hld.opt oo.1) (hld.opt oo.2)) ?_
  rintro _ w153 ⟨z143, L148, R149, B150, q151, G152, rfl, hpk154, hok155, hpx156, hlo157, hx158, hpl144, hpd145, hqn146, hcm147⟩
  refine ⟨_, rfl, ?_⟩
  have hX159 := hX138.trans hx158 hpin47
  have ho160 := ho141.extS hx158 hnp50
  have hnp161 := NP.call hnp50 hlo157 (own_lt ho141)
  have hpin162 := PIn.call hpin47 hlo157 hX138.size
  have hql163 := hpx156.len
  have hml164 : (q151.ns.map Nd.l).length = q151.ns.length ∧ (q151.ns.map Nd.r).length = q151.ns.length := ⟨List.length_map .., List.length_map ..⟩
  have hml165 : q151.bs.length = q151.ns.length ∧ q151.ns.length ≤ 1048576 := ⟨hok155.ar.ok.len, hok155.ar.ok.lim⟩
  refine ⟨fun _ => (Pins.of_le hX159.pins (Pin.le_trans (Pin.le_trans hle131 hle139) hx158.le)), ?_⟩
  refine zQ (i := 11) (by kernel_rfl) (zU (i := 11) rfl rfl rfl (zG rfl _) (yU (E := eInt) (e := 3) [(.int .i64 z143)] [z143] Tryz.underlying65 sz3 zr3 (by exact xS (by rfl)) (xA (by rfl)) rfl rfl rfl rfl (by decide) hX159.pins (fun u166 w167 ho168 hp169 hl170 hk171 => ?_)))
  have hX172 := hX159.step hp169 hl170
  have ho173 := ho160.below hl170
  have hpk174 := hpk154.below hl170 hp169
  have ho181 : Own eInt 3 G152 w167 w.heap.size u166 ([z143]) := ho168.weaken hX159.size
  refine ⟨fun _ => (Pins.of_le hX172.pins (Pin.le_trans (Pin.le_trans hle131 hle139) hx158.le)), ?_⟩
  refine zQ (i := 12) (by kernel_rfl) (zU (i := 12) rfl rfl rfl (zG rfl _) (yB (E := eInt) (v := at_) (u := u166) 8 Tryz.underlying65 ap3 (by decide) rfl rfl hX172.pins ho173 ho181.src (by first | omega | (rw [List.nil_append]; omega) | (rw [List.length_nil]; omega) | (rw [List.length_append]; omega) | (simp; done) | (simp; omega) | (simp only [List.length_append, List.length_cons, List.length_nil]; omega)) (by first | omega | (rw [List.nil_append]; omega) | (rw [List.length_nil]; omega) | (rw [List.length_append]; omega) | (simp; done) | (simp; omega) | (simp only [List.length_append, List.length_cons, List.length_nil]; omega)) (hX172.size) (fun u182 w183 ho184 hp185 hg186 hw187 => ?_)))
  have hX188 := hX172.write hp185 hg186 ((yI ho173))
  have hpk190 := hpk174.kept hg186 hp185 hnp161
  have hnp192 := np_app hnp161 hpk174 hw187
  have hm193 : (ats ++ ([z143])).length = ats.length + 1 := List.length_append
  refine ⟨fun _ => (Pins.of_le hX188.pins (Pin.le_trans (Pin.le_trans hle131 hle139) hx158.le)), ?_⟩
  refine dT (i := 13) rfl rfl (by kernel_rfl) (fun _ _ => zC (v := u182) rfl) (Pins.of_le hX188.pins (Pin.le_trans (Pin.le_trans hle131 hle139) hx158.le)) ?_
  refine yJ (by kernel_rfl) ?_
  refine yF ?_
  refine zA (zF ?_)
  refine qD rfl (yL rfl rfl (by omega)) ?_
  refine qD rfl (zB (v := (.int .i64 ((k4 : Int) + 1))) rfl) ?_
  refine qe ?_
  refine yE ?_
  refine ⟨_, ?_, _, rfl, _, k4 + 1, u182, ats ++ ([z143]), L148, R149, B150, q151, G152, (zE (x := 15) (zE (x := 14) (zE (x := 13) (zE (x := 5) (zE (x := 4) (zV (x := 0) rfl) rfl) rfl) rfl) rfl) rfl), rfl, hX188, (Pin.le_trans (Pin.le_trans (Pin.le_trans (Pin.le_trans hlek41 hle87) hle131) hle139) hx158.le), (by omega), (hld.step hf (by omega) hok48 hok155 hpx156 hpl144 hpd145 hqn146), ho184, hpk190, hpin162, hok155, (PX.trans hpx49 hpx156), hnp192⟩
  omega
 refine wp_exit ?_
 refine zZ ?_
 refine yG ?_
 refine yC ?_
 refine zA (zD (zF ?_))
 refine qD rfl (zB (v := at_) rfl) ?_
 refine qD rfl (zC (v := at_) rfl) ?_
 refine qe (zA ?_)
 refine wp_ret ?_
 refine zR ?_
 refine zO (v := at_) rfl rfl rfl ?_
 have hkf : k4 = fs.length := by omega
 rw [hkf] at hld
 exact ⟨at_, ats, L37, R38, B39, q40, GL1, rfl, hpk46, hok48, hpx49, PIn.lo hpin47 rfl, hX44, hw45, hnp50, hld⟩

theorem root_spec {w : World} {G : Pin} {p : Nat} {L R B : Value} {mm : PM} {q : PSt} (hP : Pins G w) (hpk : Pk 65 3 G w p L R B mm q) (hok : PoolOk q) {x : Value} {fs : List Nd} (hx : RSl eNode G x fs) (hf : FormOk fs) (hl : q.ns.length + fs.length ≤ 1048576) (hf1 : 1 ≤ fs.length) :
  Calls Tryz.prog 53 [(.pointer (some ⟨p, 0, none⟩)), (.agg [x].toArray)].toArray w fun e w' => ∃ (z : Int) (L' R' B' : Value) (q' : PSt) (G' : Pin), e = .returned (.int .i64 z) ∧ Pk 65 3 G' w' p L' R' B' mm q' ∧ PoolOk q' ∧ PX q q' ∧ PLo w p L R B mm L' R' B' ∧ Ext (inP p L R B mm) G w G' w' ∧ PlaceOk q' z ∧ pd q' z = gOf fs ∧ q'.ns.length ≤ q.ns.length + fs.length := by
 refine zW (n := 15) Tryz.func53 Tryz.ntmps53 rfl rfl ?_
 have hX0 : Ext (inP p L R B mm) G w G w := Ext.refl hP
 have hpin : PIn w (inP p L R B mm) p L R B mm := PIn.self
 have hml1 : (q.ns.map Nd.l).length = q.ns.length ∧ (q.ns.map Nd.r).length = q.ns.length := ⟨List.length_map .., List.length_map ..⟩
 have hml2 : q.bs.length = q.ns.length ∧ q.ns.length ≤ 1048576 := ⟨hok.ar.ok.len, hok.ar.ok.lim⟩
 have hfl := hf.len
 refine zD (zF ?_)
 refine qI rfl (xH [x] (v := (.agg [x].toArray)) rfl rfl hX0.pins (fun b3 w4 hk5 hb6 hp7 hl8 => ?_))
 have hX9 := hX0.step hp7 hl8
 have hpk10 := hpk.below hl8 hp7
 have ha15 := hpk.new (x := (some b3)) (fun k hk => by rw [(congrArg some hk5)] at hk; cases hk; exact Nat.le_refl _)
 have hlo16 : w.heap.size ≤ b3 := by have := hX0.size; omega
 obtain ⟨G17, hle18, hX19, hbp20, hf21⟩ := hb6.shut hX9 hlo16
 have hpk22 := hpk10.more hle18 hf21 ha15
 refine qD rfl (zC (v := (.int .i64 0)) rfl) ?_
 refine qe (zA (zD (zF ?_)))
 refine qD rfl (zB (v := (.pointer (some ⟨p, 0, none⟩))) rfl) ?_
 refine qD rfl (yH (cs := [x]) ag32 sz32 rfl (fun j u hj => hX19.pins _ _ _ (hbp20 _ _ (by simpa using hj)))) ?_
 refine qI rfl (zN (vs := [(.pointer (some ⟨p, 0, none⟩)), (.agg [x].toArray)]) Tryz.func104 nm104 rfl rfl rfl ?_)
 refine Calls.mono (load_spec hX19.pins hpk22 hok (hx.mono hle18) hf hl) ?_
 rintro _ w29 ⟨u23, ats, L24, R25, B26, q27, G28, rfl, hpk31, hok32, hpx33, hlo34, hx35, ho30, hnp37, hld36⟩
 refine ⟨_, rfl, ?_⟩
 have hX38 := hX19.trans hx35 hpin
 have hpin39 := PIn.call hpin hlo34 hX19.size
 have hql40 := hpx33.len
 have hml41 : (q27.ns.map Nd.l).length = q27.ns.length ∧ (q27.ns.map Nd.r).length = q27.ns.length := ⟨List.length_map .., List.length_map ..⟩
 have hml42 : q27.bs.length = q27.ns.length ∧ q27.ns.length ≤ 1048576 := ⟨hok32.ar.ok.len, hok32.ar.ok.lim⟩
 have ho43 := ho30.weaken hX19.size
 have hll44 := hld36.len
 refine qD rfl (zC (v := u23) rfl) ?_
 refine qe (zA (zD (zF ?_)))
 refine qD rfl (zB (v := u23) rfl) ?_
 refine qD rfl (zB (v := u23) rfl) ?_
 refine qD rfl (zT Tryz.underlying65 (v := u23) rfl ho43.read) ?_
 refine qD rfl (qH rfl rfl (by omega)) ?_
 refine qD rfl (zM Tryz.underlying65 sz3 (v := u23) rfl rfl ho43.read (by omega) (by omega)) ?_
 refine qD rfl (zK (r := ats.getD ((ats.length : Int) - 1).toNat 0) rfl ag3 (z := ((ats.length : Int) - 1)) rfl ho43.read (Gadd.pins hX38.pins u23) (by omega) (by omega)) ?_
 refine qD rfl (zC (v := (.int .i64 (ats.getD ((ats.length : Int) - 1).toNat 0))) rfl) ?_
 refine qe (zA ?_)
 refine wp_ret ?_
 refine zR ?_
 refine zO (v := (.int .i64 (ats.getD ((ats.length : Int) - 1).toNat 0))) rfl rfl rfl ?_
 have hrt := hld36.root hf1
 rw [show fs.length - 1 = ((ats.length : Int) - 1).toNat by omega] at hrt
 exact ⟨_, L24, R25, B26, q27, G28, rfl, hpk31, hok32, hpx33, PIn.lo hpin39 rfl, hX38, hrt.1, hrt.2, hld36.hi⟩

def GeP (m : Nat) (p : Nat) (L R B : Value) (mm : PM) : Prop := ∀ {w : World} {G : Pin} {q : PSt} {a b : Int} (_ : Pins G w) (_ : Pk 65 3 G w p L R B mm q) (_ : PoolOk q) (_ : PlaceOk q a) (_ : PlaceOk q b), a.toNat + b.toNat < m →
  Calls Tryz.prog 54 [(.pointer (some ⟨p, 0, none⟩)), (.int .i64 a), (.int .i64 b)].toArray w fun e w' => ∃ (q' : PSt) (G' : Pin), e = .returned (.bool (geB q.ns a b)) ∧ Pk 65 3 G' w' p L R B mm q' ∧ PoolOk q' ∧ PX q q' ∧ (q'.ns = q.ns ∧ q'.bs = q.bs) ∧ Ext (inO (some mm.o)) G w G' w'

theorem ge_step {p : Nat} {L R B : Value} {mm : PM} {m : Nat} {w : World} {G : Pin} {q : PSt} {a b : Int} (hP : Pins G w) (hpk : Pk 65 3 G w p L R B mm q) (hok : PoolOk q) (ha : PlaceOk q a) (hb : PlaceOk q b) (ih : GeP m p L R B mm) (hm : a.toNat + b.toNat < m + 1) :
  Calls Tryz.prog 54 [(.pointer (some ⟨p, 0, none⟩)), (.int .i64 a), (.int .i64 b)].toArray w fun e w' => ∃ (q' : PSt) (G' : Pin), e = .returned (.bool (geB q.ns a b)) ∧ Pk 65 3 G' w' p L R B mm q' ∧ PoolOk q' ∧ PX q q' ∧ (q'.ns = q.ns ∧ q'.bs = q.bs) ∧ Ext (inO (some mm.o)) G w G' w' := by
 refine zW (n := 74) Tryz.func54 Tryz.ntmps54 rfl rfl ?_
 have hX0 : Ext (inO (some mm.o)) G w G w := Ext.refl hP
 have hpin : PIn w (inP p L R B mm) p L R B mm := PIn.self
 have hml1 : (q.ns.map Nd.l).length = q.ns.length ∧ (q.ns.map Nd.r).length = q.ns.length := ⟨List.length_map .., List.length_map ..⟩
 have hml2 : q.bs.length = q.ns.length ∧ q.ns.length ≤ 1048576 := ⟨hok.ar.ok.len, hok.ar.ok.lim⟩
 have ha0 := ha.1
 have ha1 := ha.2
 have hb0 := hb.1
 have hb1 := hb.2
 refine zD (zF ?_)
 refine qD rfl (zC (v := (.bool false)) rfl) ?_
 refine qe (zA (zD (zD (zF ?_))))
 refine qD rfl (zB (v := (.int .i64 a)) rfl) ?_
 refine qD rfl (zB (v := (.int .i64 b)) rfl) ?_
 refine qD rfl (qJ rfl rfl) ?_
 refine qe (zA ?_)
 refine yA (p := (a : Int) = b) rfl rfl (fun h3 => ?_) (fun h3 => ?_)
 ·skip
  refine zD (zF ?_)
  refine qD rfl (zC (v := (.bool true)) rfl) ?_
  refine qe (zA ?_)
  refine wp_ret ?_
  refine zR ?_
  refine zO (v := (.bool true)) rfl rfl rfl ?_
  exact ⟨q, _, congrArg (fun z => Ending.returned (Value.bool z)) (by rw [h3]; exact geB_refl.symm), hpk, hok, (PX.refl _), ⟨rfl, rfl⟩, hX0⟩
 refine wp_skip ?_
 refine zA (zD (zF ?_))
 refine qD rfl (zB (v := (.int .i64 a)) rfl) ?_
 refine qD rfl (zB (v := (.int .i64 b)) rfl) ?_
 refine qD rfl (r_buildA (m := 1) [(.int .i64 0), (.int .i64 0)] [(.int .i64 a), (.int .i64 b)] [(0, (.int .i64 a), [(.int .i64 a)]), (1, (.int .i64 b), [(.int .i64 b)])] Tryz.underlying114 zr114 rfl sz3 rfl (List.forall_mem_cons.2 ⟨rfl, (List.forall_mem_cons.2 ⟨rfl, (fun _ h => by cases h)⟩)⟩) rfl) ?_
 refine qI rfl (yW [(.int .i64 0), (.int .i64 0)] zr114 rfl hX0.pins (fun b4 w5 hk6 hb7 hp8 hl9 => ?_))
 have hX10 := hX0.step hp8 hl9
 have hpk11 := hpk.below hl9 hp8
 have ha16 := hpk.new (x := (some b4)) (fun k hk => by rw [(congrArg some hk6)] at hk; cases hk; exact Nat.le_refl _)
 have hlo17 : w.heap.size ≤ b4 := by have := hX0.size; omega
 refine q0 rfl rfl rfl (xF (cs' := [(.int .i64 a), (.int .i64 b)]) (us := [(.int .i64 a), (.int .i64 b)]) (v := (.agg [(.int .i64 a), (.int .i64 b)].toArray)) sz114 rfl rfl rfl (xY (by rfl) (by rfl)) hX10.pins hb7 (Nat.le_of_ble_eq_true rfl) rfl (fun w18 hb19 hp20 hg21 hz22 => ?_))
 have hX23 := hX10.write hp20 hg21 ((yM hlo17))
 have hpk24 := hpk11.kept hg21 hp20 ha16
 obtain ⟨G25, hle26, hX27, hbp28, hf29⟩ := hb19.shut hX23 hlo17
 have hpk30 := hpk24.more hle26 hf29 ha16
 refine qe (zA (zD (zD ?_)))
 refine yX (S := fun wz => BxR wz p [L, R, B, (.map (some mm.f)), (.map (some mm.o)), (.map (some mm.c)), (.map (some mm.s)), (.map (some mm.n))] ∧ Pins G25 wz) (last := 11) (by kernel_rfl) rfl ?_
 have hl31 : Below w18.heap.size w18 w18.drew := (Below.refl _ _).drew
 have hp32 := hX27.pins.below hl31
 have hX33 := hX27.step hp32 hl31
 have hpk34 := hpk30.below hl31 hp32
 refine dT (i := 0) rfl rfl (by kernel_rfl) (fun _ _ => zB (v := (.pointer (some ⟨p, 0, none⟩))) rfl) ⟨hpk34.bx.reads, hX33.pins⟩ ?_
 refine dT (i := 1) rfl rfl (by kernel_rfl) (fun _ _ => yZ rfl) ⟨hpk34.bx.reads, hX33.pins⟩ ?_
 refine dT (i := 2) rfl rfl (by kernel_rfl) (fun _ _ => zJ (k := 4) rfl Tryz.underlying72 rfl nz68 rfl) ⟨hpk34.bx.reads, hX33.pins⟩ ?_
 refine dT (i := 3) rfl rfl (by kernel_rfl) (fun _ hS => zL (u := (.map (some mm.o))) ag68 rfl (hS.1 4 _ rfl)) ⟨hpk34.bx.reads, hX33.pins⟩ ?_
 refine dT (i := 4) rfl rfl (by kernel_rfl) (fun _ hS => yH (cs := [(.int .i64 a), (.int .i64 b)]) ag114 sz114 rfl (fun j u hj => hS.2 _ _ _ (hbp28 _ _ (by simpa using hj)))) ⟨hpk34.bx.reads, hX33.pins⟩ ?_
 refine zQ (i := 5) (by kernel_rfl) (zU (i := 5) rfl rfl rfl (zG rfl _) (EO.run (run_lookv_bool (k := ((a, b) : Int × Int)) (key_pair Tryz.underlying114 Tryz.underlying3 sz3) Tryz.underlying68 zr4 hpk34.fo rfl rfl) ?_))
 refine ⟨fun _ => ⟨hpk34.bx.reads, hX33.pins⟩, ?_⟩
 refine dT (i := 6) rfl rfl (by kernel_rfl) (fun _ _ => zB (v := (.tuple #[(.bool ((Go.GL.look q.om ((a, b) : Int × Int)).getD false)), (.bool ((Go.GL.look q.om ((a, b) : Int × Int)).isSome))])) rfl) ⟨hpk34.bx.reads, hX33.pins⟩ ?_
 refine dT (i := 7) rfl rfl (by kernel_rfl) (fun _ _ => xG (v := (.bool ((Go.GL.look q.om ((a, b) : Int × Int)).getD false))) rfl rfl) ⟨hpk34.bx.reads, hX33.pins⟩ ?_
 refine dT (i := 8) rfl rfl (by kernel_rfl) (fun _ _ => xG (v := (.bool ((Go.GL.look q.om ((a, b) : Int × Int)).isSome))) rfl rfl) ⟨hpk34.bx.reads, hX33.pins⟩ ?_
 refine dT (i := 9) rfl rfl (by kernel_rfl) (fun _ _ => zC (v := (.bool ((Go.GL.look q.om ((a, b) : Int × Int)).getD false))) rfl) ⟨hpk34.bx.reads, hX33.pins⟩ ?_
 refine dT (i := 10) rfl rfl (by kernel_rfl) (fun _ _ => zC (v := (.bool ((Go.GL.look q.om ((a, b) : Int × Int)).isSome))) rfl) ⟨hpk34.bx.reads, hX33.pins⟩ ?_
 refine yJ (by kernel_rfl) ?_
 refine zA (zD (zF ?_))
 refine qD rfl (zB (v := (.bool ((Go.GL.look q.om ((a, b) : Int × Int)).isSome))) rfl) ?_
 refine qe (zA ?_)
 refine c_if rfl rfl (fun h35 => ?_) (fun h35 => ?_)
 ·skip
  refine zD (zF ?_)
  refine qD rfl (zB (v := (.bool ((Go.GL.look q.om ((a, b) : Int × Int)).getD false))) rfl) ?_
  refine qD rfl (zC (v := (.bool ((Go.GL.look q.om ((a, b) : Int × Int)).getD false))) rfl) ?_
  refine qe (zA ?_)
  refine wp_ret ?_
  refine zR ?_
  refine zO (v := (.bool ((Go.GL.look q.om ((a, b) : Int × Int)).getD false))) rfl rfl rfl ?_
  obtain ⟨z, hz⟩ := Option.isSome_iff_exists.1 h35
  exact ⟨q, _, congrArg (fun z => Ending.returned (Value.bool z)) (by rw [hz]; exact (hok.ord _ _ _ hz).2.2), hpk34, hok, (PX.refl _), ⟨rfl, rfl⟩, hX33⟩
 refine wp_skip ?_
 refine zA (zD (zF ?_))
 refine qD rfl (zC (v := (.bool true)) rfl) ?_
 refine qe (zA (zD (zD (zF ?_))))
 refine qD rfl (zB (v := (.pointer (some ⟨p, 0, none⟩))) rfl) ?_
 refine qD rfl (yZ rfl) ?_
 refine qD rfl (zJ (k := 1) rfl Tryz.underlying72 rfl nz66 rfl) ?_
 refine qD rfl (zL (u := R) ag66 rfl (hpk34.bx.cell (o := 1) rfl)) ?_
 refine qD rfl (zB (v := (.int .i64 a)) rfl) ?_
 refine qD rfl (zM Tryz.underlying66 sz65 (v := R) rfl rfl hpk34.rr.read (by omega) (by omega)) ?_
 obtain ⟨u36, hr37, hl38⟩ := nm_sl (hpk34.rr.at (z := a) (by omega) (by omega)) (j := (a).toNat) rfl
 rw [mapr_getD] at hr37
 have hm39 := hr37.max
 refine qD rfl (hl38 ag65 rfl (Gadd.pins hX33.pins R)) ?_
 refine qD rfl (zT Tryz.underlying65 (v := u36) rfl hr37) ?_
 refine qD rfl (zB (v := (.int .i64 0)) rfl) ?_
 refine qe (zA ?_)
 refine zX ?_
 have lx44 : (q.ns.getD (a).toNat default).r = (q.ns.getD (a).toNat default).r := rfl
 refine yK (fun (k : Nat) (en : Nat → Value) (W : World) => ∃ (env1 : Nat → Value) (i : Nat) (q43 : PSt) (GLr : Pin), en = (upd (upd (upd (upd (upd (upd (upd (upd (upd env1 0 (.pointer (some ⟨p, 0, none⟩))) 1 (.int .i64 a)) 2 (.int .i64 b)) 6 (.bool false)) 7 (.pointer (some ⟨b4, 0, none⟩))) 10 (.bool true)) 38 u36) 39 (.int .i64 (((q.ns.getD (a).toNat default).r).length : Int))) 40 (.int .i64 (i : Int))) ∧ k = (q.ns.getD (a).toNat default).r.length - i ∧ Ext (inO (some mm.o)) G w GLr W ∧ Pin.le G25 GLr ∧ (i ≤ (q.ns.getD (a).toNat default).r.length) ∧ (∀ x, x < i → geB q.ns b ((q.ns.getD (a).toNat default).r.getD x 0) = false) ∧ (Pk 65 3 GLr W p L R B mm q43) ∧ (PoolOk q43) ∧ (PX q q43) ∧ (q43.ns = q.ns ∧ q43.bs = q.bs)) _ ⟨_, 0, q, G25, (zE (x := 40) (zE (x := 39) (zE (x := 38) (zE (x := 10) (zE (x := 7) (zE (x := 6) (zE (x := 2) (zE (x := 1) (zV (x := 0) rfl) rfl) rfl) rfl) rfl) rfl) rfl) rfl) rfl), rfl, hX33, Pin.le_refl _, Nat.zero_le _, (fun q hq => absurd hq (Nat.not_lt_zero q)), hpk34, hok, (PX.refl _), ⟨rfl, rfl⟩⟩ ?_
 rintro k45 _ w46 ⟨env1, i, q43, GLr, rfl, hk47, hX48, hlek45, hji, hpr, hpk49, hok50, hpx51, hqn52⟩
 have hql53 := hpx51.len
 have hml54 : (q43.ns.map Nd.l).length = q43.ns.length ∧ (q43.ns.map Nd.r).length = q43.ns.length := ⟨List.length_map .., List.length_map ..⟩
 have hml55 : q43.bs.length = q43.ns.length ∧ q43.ns.length ≤ 1048576 := ⟨hok50.ar.ok.len, hok50.ar.ok.lim⟩
 have hlnr := congrArg List.length lx44
 refine zD (zF ?_)
 refine qD rfl (yN rfl rfl) ?_
 refine qe (zA (zD ?_))
 refine yA (p := ((i : Int) : Int) < (((q.ns.getD (a).toNat default).r).length : Int)) rfl rfl (fun h56 => ?_) (fun h56 => ?_)
 ·skip
  have hki := (xI hok.ar.opts (show (a).toNat < q.ns.length by omega)).2 _ (yS (d := (0 : Int)) (show i < (q.ns.getD (a).toNat default).r.length by omega))
  rw [← lx44] at hki
  refine wp_skip ?_
  refine zA (zD ?_)
  refine zX ?_
  refine zD (zF ?_)
  refine qD rfl (zM Tryz.underlying65 sz3 (v := u36) rfl rfl hr37 (by omega) (by omega)) ?_
  refine qD rfl (zK (r := ((q.ns.getD (a).toNat default).r).getD i 0) rfl ag3 (z := (i : Int)) rfl hr37 (Pins.of_le hX48.pins hlek45) (by omega) (by omega)) ?_
  refine qD rfl (zC (v := (.int .i64 (((q.ns.getD (a).toNat default).r).getD i 0))) rfl) ?_
  refine qe (zA (zD (zF ?_)))
  refine qD rfl (zB (v := (.pointer (some ⟨p, 0, none⟩))) rfl) ?_
  refine qD rfl (zB (v := (.int .i64 b)) rfl) ?_
  refine qD rfl (zB (v := (.int .i64 (((q.ns.getD (a).toNat default).r).getD i 0))) rfl) ?_
  refine qI rfl (zN (vs := [(.pointer (some ⟨p, 0, none⟩)), (.int .i64 b), (.int .i64 (((q.ns.getD (a).toNat default).r).getD i 0))]) Tryz.func54 nm54 rfl rfl rfl ?_)
  refine Calls.mono (ih hX48.pins hpk49 hok50 ⟨by omega, by omega⟩ ⟨by omega, by omega⟩ (by omega)) ?_
  rintro _ w59 ⟨q57, G58, rfl, hpk60, hok61, hpx62, hqn63, hx64⟩
  refine ⟨_, rfl, ?_⟩
  have hX65 := hX48.trans hx64 (fun i hi => qM i hi)
  have hql66 := hpx62.len
  have hml67 : (q57.ns.map Nd.l).length = q57.ns.length ∧ (q57.ns.map Nd.r).length = q57.ns.length := ⟨List.length_map .., List.length_map ..⟩
  have hml68 : q57.bs.length = q57.ns.length ∧ q57.ns.length ≤ 1048576 := ⟨hok61.ar.ok.len, hok61.ar.ok.lim⟩
  have hql69 := congrArg List.length hqn63.1
  refine qe (zA ?_)
  refine c_if rfl rfl (fun h70 => ?_) (fun h70 => ?_)
  ·skip
   refine zD (zF ?_)
   refine qD rfl (zC (v := (.bool false)) rfl) ?_
   refine qe (zA ?_)
   refine wp_exit ?_
   refine s_blkO rfl ?_
   refine zZ ?_
   refine yG ?_
   refine yC ?_
   refine zA (zD (zD (zF ?_)))
   refine qD rfl (zB (v := (.bool false)) rfl) ?_
   refine qe (zA ?_)
   refine qP rfl rfl ?_
   refine wp_skip ?_
   refine zA (zD ?_)
   refine yX (S := fun wz => BxR wz p [L, R, B, (.map (some mm.f)), (.map (some mm.o)), (.map (some mm.c)), (.map (some mm.s)), (.map (some mm.n))] ∧ Pins G58 wz) (last := 6) (by kernel_rfl) rfl ?_
   have hl71 : Below w59.heap.size w59 w59.drew := (Below.refl _ _).drew
   have hp72 := hX65.pins.below hl71
   have hX73 := hX65.step hp72 hl71
   have hpk74 := hpk60.below hl71 hp72
   refine dT (i := 0) rfl rfl (by kernel_rfl) (fun _ _ => zB (v := (.pointer (some ⟨p, 0, none⟩))) rfl) ⟨hpk74.bx.reads, hX73.pins⟩ ?_
   refine dT (i := 1) rfl rfl (by kernel_rfl) (fun _ _ => yZ rfl) ⟨hpk74.bx.reads, hX73.pins⟩ ?_
   refine dT (i := 2) rfl rfl (by kernel_rfl) (fun _ _ => zJ (k := 4) rfl Tryz.underlying72 rfl nz68 rfl) ⟨hpk74.bx.reads, hX73.pins⟩ ?_
   refine dT (i := 3) rfl rfl (by kernel_rfl) (fun _ hS => zL (u := (.map (some mm.o))) ag68 rfl (hS.1 4 _ rfl)) ⟨hpk74.bx.reads, hX73.pins⟩ ?_
   refine dT (i := 4) rfl rfl (by kernel_rfl) (fun _ hS => yH (cs := [(.int .i64 a), (.int .i64 b)]) ag114 sz114 rfl (fun j u hj => (Pins.of_le hS.2 (Pin.le_trans hlek45 hx64.le)) _ _ _ (hbp28 _ _ (by simpa using hj)))) ⟨hpk74.bx.reads, hX73.pins⟩ ?_
   refine dT (i := 5) rfl rfl (by kernel_rfl) (fun _ _ => zB (v := (.bool false)) rfl) ⟨hpk74.bx.reads, hX73.pins⟩ ?_
   refine zQ (i := 6) (by kernel_rfl) (drOp0 (i := 6) rfl rfl rfl (zG rfl _) (qV (val := (fun v : Bool => Value.bool v)) (k := ((a, b) : Int × Int)) (v := false) (key_pair Tryz.underlying114 Tryz.underlying3 sz3) Tryz.underlying68 rfl rfl rfl hX73.pins hpk74.fo (fun w75 hm76 hp77 hg78 hz79 => ?_)))
   have hX81 := hX73.trans (Ext.one hp77 hg78) (fun i hi => qM i hi)
   have hpk80 := hpk74.setO (Ext.one hp77 hg78) hm76
   have hgv : geB q.ns a b = false := geB_no_right hok.ar.opts ha (i := i) (by omega) (by rw [← lx44, ← geB_same hqn52]; exact h70)
   have hok84 := PoolOk.setO hok61 (ha.same (xD hqn52 hqn63)) (hb.same (xD hqn52 hqn63)) (setO_ok (xD hqn52 hqn63) hgv)
   obtain ⟨q82, hq83⟩ : ∃ q, q = ({ q57 with om := putE q57.om ((a, b) : Int × Int) false } : PSt) := ⟨_, rfl⟩
   rw [← hq83] at hpk80 hok84
   have hq83n : q82.ns = q57.ns ∧ q82.bs = q57.bs := by rw [hq83]; exact ⟨rfl, rfl⟩
   have hq83x : PX q57 q82 := by rw [hq83]; exact ⟨Nat.le_refl _, fun _ _ => rfl, fun _ h => h⟩
   have hml85 : (q82.ns.map Nd.l).length = q82.ns.length ∧ (q82.ns.map Nd.r).length = q82.ns.length := ⟨List.length_map .., List.length_map ..⟩
   have hml86 : q82.bs.length = q82.ns.length ∧ q82.ns.length ≤ 1048576 := ⟨hok84.ar.ok.len, hok84.ar.ok.lim⟩
   have hql87 := hq83x.len
   refine ⟨fun h => absurd rfl h, ?_⟩
   refine yJ (by kernel_rfl) ?_
   refine zA (zD (zF ?_))
   refine qD rfl (zB (v := (.bool false)) rfl) ?_
   refine qD rfl (zC (v := (.bool false)) rfl) ?_
   refine qe (zA ?_)
   refine wp_ret ?_
   refine zR ?_
   refine zO (v := (.bool false)) rfl rfl rfl ?_
   exact ⟨q82, _, congrArg (fun z => Ending.returned (Value.bool z)) (hgv.symm), hpk80, hok84, (PX.trans (PX.trans hpx51 hpx62) hq83x), (xD (xD hqn52 hqn63) hq83n), hX81⟩
  refine wp_skip ?_
  refine yF ?_
  refine zA (zF ?_)
  refine qD rfl (yL rfl rfl (by omega)) ?_
  refine qD rfl (zB (v := (.int .i64 ((i : Int) + 1))) rfl) ?_
  refine qe ?_
  refine yE ?_
  refine ⟨_, ?_, _, rfl, _, i + 1, q57, G58, (zE (x := 40) (zE (x := 39) (zE (x := 38) (zE (x := 10) (zE (x := 7) (zE (x := 6) (zE (x := 2) (zE (x := 1) (zV (x := 0) rfl) rfl) rfl) rfl) rfl) rfl) rfl) rfl) rfl), rfl, hX65, (Pin.le_trans hlek45 hx64.le), (by omega), (fun x h2 => if h3 : x = i then h3 ▸ (by rw [← lx44, ← geB_same hqn52]; exact h70) else hpr x (by omega)), hpk60, hok61, (PX.trans hpx51 hpx62), (xD hqn52 hqn63)⟩
  omega
 refine wp_exit ?_
 refine zZ ?_
 refine yG ?_
 refine yC ?_
 refine zA (zD (zD (zF ?_)))
 refine qD rfl (zB (v := (.bool true)) rfl) ?_
 refine qe (zA ?_)
 refine c_ifT rfl rfl ?_
 refine zD (zF ?_)
 refine qD rfl (zB (v := (.pointer (some ⟨p, 0, none⟩))) rfl) ?_
 refine qD rfl (yZ rfl) ?_
 refine qD rfl (zJ (k := 0) rfl Tryz.underlying72 rfl nz66 rfl) ?_
 refine qD rfl (zL (u := L) ag66 rfl (hpk49.bx.cell (o := 0) rfl)) ?_
 refine qD rfl (zB (v := (.int .i64 b)) rfl) ?_
 refine qD rfl (zM Tryz.underlying66 sz65 (v := L) rfl rfl hpk49.ol.read (by omega) (by omega)) ?_
 obtain ⟨u88, hr89, hl90⟩ := nm_sl (hpk49.ol.at (z := b) (by omega) (by omega)) (j := (b).toNat) rfl
 rw [mapl_getD] at hr89
 have hm91 := hr89.max
 refine qD rfl (hl90 ag65 rfl (Gadd.pins hX48.pins L)) ?_
 refine qD rfl (zT Tryz.underlying65 (v := u88) rfl hr89) ?_
 refine qD rfl (zB (v := (.int .i64 0)) rfl) ?_
 refine qe (zA ?_)
 refine zX ?_
 have lx96 : (q43.ns.getD (b).toNat default).l = (q.ns.getD (b).toNat default).l := by rw [hqn52.1]
 refine yK (fun (k : Nat) (en : Nat → Value) (W : World) => ∃ (env1 : Nat → Value) (i2 : Nat) (q95 : PSt) (GLl : Pin), en = (upd (upd (upd (upd (upd (upd (upd (upd env1 0 (.pointer (some ⟨p, 0, none⟩))) 1 (.int .i64 a)) 6 (.bool false)) 7 (.pointer (some ⟨b4, 0, none⟩))) 10 (.bool true)) 56 u88) 57 (.int .i64 (((q43.ns.getD (b).toNat default).l).length : Int))) 58 (.int .i64 (i2 : Int))) ∧ k = (q.ns.getD (b).toNat default).l.length - i2 ∧ Ext (inO (some mm.o)) G w GLl W ∧ Pin.le GLr GLl ∧ (i2 ≤ (q.ns.getD (b).toNat default).l.length) ∧ (∀ x, x < i2 → geB q.ns ((q.ns.getD (b).toNat default).l.getD x 0) a = false) ∧ (Pk 65 3 GLl W p L R B mm q95) ∧ (PoolOk q95) ∧ (PX q43 q95) ∧ (q95.ns = q43.ns ∧ q95.bs = q43.bs)) _ ⟨_, 0, q43, GLr, (zE (x := 58) (zE (x := 57) (zE (x := 56) (zE (x := 10) (zE (x := 7) (zE (x := 6) (zE (x := 1) (zV (x := 0) rfl) rfl) rfl) rfl) rfl) rfl) rfl) rfl), rfl, hX48, Pin.le_refl _, Nat.zero_le _, (fun q hq => absurd hq (Nat.not_lt_zero q)), hpk49, hok50, (PX.refl _), ⟨rfl, rfl⟩⟩ ?_
 rintro k97 _ w98 ⟨env1, i2, q95, GLl, rfl, hk99, hX100, hlek97, hji2, hpl, hpk101, hok102, hpx103, hqn104⟩
 have hql105 := hpx103.len
 have hml106 : (q95.ns.map Nd.l).length = q95.ns.length ∧ (q95.ns.map Nd.r).length = q95.ns.length := ⟨List.length_map .., List.length_map ..⟩
 have hml107 : q95.bs.length = q95.ns.length ∧ q95.ns.length ≤ 1048576 := ⟨hok102.ar.ok.len, hok102.ar.ok.lim⟩
 have hlnl := congrArg List.length lx96
 refine zD (zF ?_)
 refine qD rfl (yN rfl rfl) ?_
 refine qe (zA (zD ?_))
 refine yA (p := ((i2 : Int) : Int) < (((q43.ns.getD (b).toNat default).l).length : Int)) rfl rfl (fun h108 => ?_) (fun h108 => ?_)
 ·skip
  have hki := (xI hok.ar.opts (show (b).toNat < q.ns.length by omega)).1 _ (yS (d := (0 : Int)) (show i2 < (q.ns.getD (b).toNat default).l.length by omega))
  rw [← lx96] at hki
  refine wp_skip ?_
  refine zA (zD ?_)
  refine zX ?_
  refine zD (zF ?_)
  refine qD rfl (zM Tryz.underlying65 sz3 (v := u88) rfl rfl hr89 (by omega) (by omega)) ?_
  refine qD rfl (zK (r := ((q43.ns.getD (b).toNat default).l).getD i2 0) rfl ag3 (z := (i2 : Int)) rfl hr89 (Pins.of_le hX100.pins hlek97) (by omega) (by omega)) ?_
  refine qD rfl (zC (v := (.int .i64 (((q43.ns.getD (b).toNat default).l).getD i2 0))) rfl) ?_
  refine qe (zA (zD (zF ?_)))
  refine qD rfl (zB (v := (.pointer (some ⟨p, 0, none⟩))) rfl) ?_
  refine qD rfl (zB (v := (.int .i64 (((q43.ns.getD (b).toNat default).l).getD i2 0))) rfl) ?_
  refine qD rfl (zB (v := (.int .i64 a)) rfl) ?_
  refine qI rfl (zN (vs := [(.pointer (some ⟨p, 0, none⟩)), (.int .i64 (((q43.ns.getD (b).toNat default).l).getD i2 0)), (.int .i64 a)]) Tryz.func54 nm54 rfl rfl rfl ?_)
  refine Calls.mono (ih hX100.pins hpk101 hok102 ⟨by omega, by omega⟩ ⟨by omega, by omega⟩ (by omega)) ?_
  rintro _ w111 ⟨q109, G110, rfl, hpk112, hok113, hpx114, hqn115, hx116⟩
  refine ⟨_, rfl, ?_⟩
  have hX117 := hX100.trans hx116 (fun i hi => qM i hi)
  have hql118 := hpx114.len
  have hml119 : (q109.ns.map Nd.l).length = q109.ns.length ∧ (q109.ns.map Nd.r).length = q109.ns.length := ⟨List.length_map .., List.length_map ..⟩
  have hml120 : q109.bs.length = q109.ns.length ∧ q109.ns.length ≤ 1048576 := ⟨hok113.ar.ok.len, hok113.ar.ok.lim⟩
  have hql121 := congrArg List.length hqn115.1
  refine qe (zA ?_)
  refine c_if rfl rfl (fun h122 => ?_) (fun h122 => ?_)
  ·skip
   refine zD (zF ?_)
   refine qD rfl (zC (v := (.bool false)) rfl) ?_
   refine qe (zA ?_)
   refine wp_exit ?_
   refine s_blkO rfl ?_
   refine zZ ?_
   refine yG ?_
   refine yC ?_
   refine zA (zD ?_)
   refine yX (S := fun wz => BxR wz p [L, R, B, (.map (some mm.f)), (.map (some mm.o)), (.map (some mm.c)), (.map (some mm.s)), (.map (some mm.n))] ∧ Pins G110 wz) (last := 6) (by kernel_rfl) rfl ?_
   have hl123 : Below w111.heap.size w111 w111.drew := (Below.refl _ _).drew
   have hp124 := hX117.pins.below hl123
   have hX125 := hX117.step hp124 hl123
   have hpk126 := hpk112.below hl123 hp124
   refine dT (i := 0) rfl rfl (by kernel_rfl) (fun _ _ => zB (v := (.pointer (some ⟨p, 0, none⟩))) rfl) ⟨hpk126.bx.reads, hX125.pins⟩ ?_
   refine dT (i := 1) rfl rfl (by kernel_rfl) (fun _ _ => yZ rfl) ⟨hpk126.bx.reads, hX125.pins⟩ ?_
   refine dT (i := 2) rfl rfl (by kernel_rfl) (fun _ _ => zJ (k := 4) rfl Tryz.underlying72 rfl nz68 rfl) ⟨hpk126.bx.reads, hX125.pins⟩ ?_
   refine dT (i := 3) rfl rfl (by kernel_rfl) (fun _ hS => zL (u := (.map (some mm.o))) ag68 rfl (hS.1 4 _ rfl)) ⟨hpk126.bx.reads, hX125.pins⟩ ?_
   refine dT (i := 4) rfl rfl (by kernel_rfl) (fun _ hS => yH (cs := [(.int .i64 a), (.int .i64 b)]) ag114 sz114 rfl (fun j u hj => (Pins.of_le hS.2 (Pin.le_trans (Pin.le_trans hlek45 hlek97) hx116.le)) _ _ _ (hbp28 _ _ (by simpa using hj)))) ⟨hpk126.bx.reads, hX125.pins⟩ ?_
   refine dT (i := 5) rfl rfl (by kernel_rfl) (fun _ _ => zB (v := (.bool false)) rfl) ⟨hpk126.bx.reads, hX125.pins⟩ ?_
   refine zQ (i := 6) (by kernel_rfl) (drOp0 (i := 6) rfl rfl rfl (zG rfl _) (qV (val := (fun v : Bool => Value.bool v)) (k := ((a, b) : Int × Int)) (v := false) (key_pair Tryz.underlying114 Tryz.underlying3 sz3) Tryz.underlying68 rfl rfl rfl hX125.pins hpk126.fo (fun w127 hm128 hp129 hg130 hz131 => ?_)))
   have hX133 := hX125.trans (Ext.one hp129 hg130) (fun i hi => qM i hi)
   have hpk132 := hpk126.setO (Ext.one hp129 hg130) hm128
   have hgv : geB q.ns a b = false := geB_no_left hok.ar.opts hb (i := i2) (by omega) (by rw [← lx96, ← geB_same (xD hqn52 hqn104)]; exact h122)
   have hok136 := PoolOk.setO hok113 (ha.same (xD (xD hqn52 hqn104) hqn115)) (hb.same (xD (xD hqn52 hqn104) hqn115)) (setO_ok (xD (xD hqn52 hqn104) hqn115) hgv)
   obtain ⟨q134, hq135⟩ : ∃ q, q = ({ q109 with om := putE q109.om ((a, b) : Int × Int) false } : PSt) := ⟨_, rfl⟩
   rw [← hq135] at hpk132 hok136
   have hq135n : q134.ns = q109.ns ∧ q134.bs = q109.bs := by rw [hq135]; exact ⟨rfl, rfl⟩
   have hq135x : PX q109 q134 := by rw [hq135]; exact ⟨Nat.le_refl _, fun _ _ => rfl, fun _ h => h⟩
   have hml137 : (q134.ns.map Nd.l).length = q134.ns.length ∧ (q134.ns.map Nd.r).length = q134.ns.length := ⟨List.length_map .., List.length_map ..⟩
   have hml138 : q134.bs.length = q134.ns.length ∧ q134.ns.length ≤ 1048576 := ⟨hok136.ar.ok.len, hok136.ar.ok.lim⟩
   have hql139 := hq135x.len
   refine ⟨fun h => absurd rfl h, ?_⟩
   refine yJ (by kernel_rfl) ?_
   refine zA (zD (zF ?_))
   refine qD rfl (zB (v := (.bool false)) rfl) ?_
   refine qD rfl (zC (v := (.bool false)) rfl) ?_
   refine qe (zA ?_)
   refine wp_ret ?_
   refine zR ?_
   refine zO (v := (.bool false)) rfl rfl rfl ?_
   exact ⟨q134, _, congrArg (fun z => Ending.returned (Value.bool z)) (hgv.symm), hpk132, hok136, (PX.trans (PX.trans (PX.trans hpx51 hpx103) hpx114) hq135x), (xD (xD (xD hqn52 hqn104) hqn115) hq135n), hX133⟩
  refine wp_skip ?_
  refine yF ?_
  refine zA (zF ?_)
  refine qD rfl (yL rfl rfl (by omega)) ?_
  refine qD rfl (zB (v := (.int .i64 ((i2 : Int) + 1))) rfl) ?_
  refine qe ?_
  refine yE ?_
  refine ⟨_, ?_, _, rfl, _, i2 + 1, q109, G110, (zE (x := 58) (zE (x := 57) (zE (x := 56) (zE (x := 10) (zE (x := 7) (zE (x := 6) (zE (x := 1) (zV (x := 0) rfl) rfl) rfl) rfl) rfl) rfl) rfl) rfl), rfl, hX117, (Pin.le_trans hlek97 hx116.le), (by omega), (fun x h2 => if h3 : x = i2 then h3 ▸ (by rw [← lx96, ← geB_same (xD hqn52 hqn104)]; exact h122) else hpl x (by omega)), hpk112, hok113, (PX.trans hpx103 hpx114), (xD hqn104 hqn115)⟩
  omega
 refine wp_exit ?_
 refine zZ ?_
 refine yG ?_
 refine yC ?_
 refine zA (zD ?_)
 refine yX (S := fun wz => BxR wz p [L, R, B, (.map (some mm.f)), (.map (some mm.o)), (.map (some mm.c)), (.map (some mm.s)), (.map (some mm.n))] ∧ Pins GLl wz) (last := 6) (by kernel_rfl) rfl ?_
 have hl140 : Below w98.heap.size w98 w98.drew := (Below.refl _ _).drew
 have hp141 := hX100.pins.below hl140
 have hX142 := hX100.step hp141 hl140
 have hpk143 := hpk101.below hl140 hp141
 refine dT (i := 0) rfl rfl (by kernel_rfl) (fun _ _ => zB (v := (.pointer (some ⟨p, 0, none⟩))) rfl) ⟨hpk143.bx.reads, hX142.pins⟩ ?_
 refine dT (i := 1) rfl rfl (by kernel_rfl) (fun _ _ => yZ rfl) ⟨hpk143.bx.reads, hX142.pins⟩ ?_
 refine dT (i := 2) rfl rfl (by kernel_rfl) (fun _ _ => zJ (k := 4) rfl Tryz.underlying72 rfl nz68 rfl) ⟨hpk143.bx.reads, hX142.pins⟩ ?_
 refine dT (i := 3) rfl rfl (by kernel_rfl) (fun _ hS => zL (u := (.map (some mm.o))) ag68 rfl (hS.1 4 _ rfl)) ⟨hpk143.bx.reads, hX142.pins⟩ ?_
 refine dT (i := 4) rfl rfl (by kernel_rfl) (fun _ hS => yH (cs := [(.int .i64 a), (.int .i64 b)]) ag114 sz114 rfl (fun j u hj => (Pins.of_le hS.2 (Pin.le_trans hlek45 hlek97)) _ _ _ (hbp28 _ _ (by simpa using hj)))) ⟨hpk143.bx.reads, hX142.pins⟩ ?_
 refine dT (i := 5) rfl rfl (by kernel_rfl) (fun _ _ => zB (v := (.bool true)) rfl) ⟨hpk143.bx.reads, hX142.pins⟩ ?_
 refine zQ (i := 6) (by kernel_rfl) (drOp0 (i := 6) rfl rfl rfl (zG rfl _) (qV (val := (fun v : Bool => Value.bool v)) (k := ((a, b) : Int × Int)) (v := true) (key_pair Tryz.underlying114 Tryz.underlying3 sz3) Tryz.underlying68 rfl rfl rfl hX142.pins hpk143.fo (fun w144 hm145 hp146 hg147 hz148 => ?_)))
 have hX150 := hX142.trans (Ext.one hp146 hg147) (fun i hi => qM i hi)
 have hpk149 := hpk143.setO (Ext.one hp146 hg147) hm145
 have hgv : geB q.ns a b = true := geB_yes hok.ar.opts ha hb (fun i hi => hpr i (by omega)) (fun i hi => hpl i (by omega))
 have hok153 := PoolOk.setO hok102 (ha.same (xD hqn52 hqn104)) (hb.same (xD hqn52 hqn104)) (setO_ok (xD hqn52 hqn104) hgv)
 obtain ⟨q151, hq152⟩ : ∃ q, q = ({ q95 with om := putE q95.om ((a, b) : Int × Int) true } : PSt) := ⟨_, rfl⟩
 rw [← hq152] at hpk149 hok153
 have hq152n : q151.ns = q95.ns ∧ q151.bs = q95.bs := by rw [hq152]; exact ⟨rfl, rfl⟩
 have hq152x : PX q95 q151 := by rw [hq152]; exact ⟨Nat.le_refl _, fun _ _ => rfl, fun _ h => h⟩
 have hml154 : (q151.ns.map Nd.l).length = q151.ns.length ∧ (q151.ns.map Nd.r).length = q151.ns.length := ⟨List.length_map .., List.length_map ..⟩
 have hml155 : q151.bs.length = q151.ns.length ∧ q151.ns.length ≤ 1048576 := ⟨hok153.ar.ok.len, hok153.ar.ok.lim⟩
 have hql156 := hq152x.len
 refine ⟨fun h => absurd rfl h, ?_⟩
 refine yJ (by kernel_rfl) ?_
 refine zA (zD (zF ?_))
 refine qD rfl (zB (v := (.bool true)) rfl) ?_
 refine qD rfl (zC (v := (.bool true)) rfl) ?_
 refine qe (zA ?_)
 refine wp_ret ?_
 refine zR ?_
 refine zO (v := (.bool true)) rfl rfl rfl ?_
 exact ⟨q151, _, congrArg (fun z => Ending.returned (Value.bool z)) (hgv.symm), hpk149, hok153, (PX.trans (PX.trans hpx51 hpx103) hq152x), (xD (xD hqn52 hqn104) hq152n), hX150⟩

theorem geP_all {p : Nat} {L R B : Value} {mm : PM} : ∀ m, GeP m p L R B mm
 | 0 => fun _ _ _ _ _ h => absurd h (Nat.not_lt_zero _)
 | m + 1 => fun hP hpk hok ha hb hm => ge_step hP hpk hok ha hb (geP_all m) hm
theorem ge_spec {p : Nat} {L R B : Value} {mm : PM} {w : World} {G : Pin} {q : PSt} {a b : Int} (hP : Pins G w) (hpk : Pk 65 3 G w p L R B mm q) (hok : PoolOk q) (ha : PlaceOk q a) (hb : PlaceOk q b) :
  Calls Tryz.prog 54 [(.pointer (some ⟨p, 0, none⟩)), (.int .i64 a), (.int .i64 b)].toArray w fun e w' => ∃ (q' : PSt) (G' : Pin), e = .returned (.bool (geB q.ns a b)) ∧ Pk 65 3 G' w' p L R B mm q' ∧ PoolOk q' ∧ PX q q' ∧ (q'.ns = q.ns ∧ q'.bs = q.bs) ∧ Ext (inO (some mm.o)) G w G' w' :=
 geP_all _ hP hpk hok ha hb (Nat.lt_succ_self _)

end PL1
end Go.Proofs.YtfnginkcmcfdfaaGreatDoor

set_option maxRecDepth 20000
set_option maxHeartbeats 2000000
namespace Go.Proofs.YtfnginkcmcfdfaaGreatDoor
namespace PA1
open Go.RowKit Go.GL Go.Proofs










theorem parts_spec {w : World} {G : Pin} {p : Nat} {L R B : Value} {mm : PM} {q : PSt} (hP : Pins G w) (hpk : Pk 65 3 G w p L R B mm q) (hok : PoolOk q) {x : Value} {xs : List Int} (hx : RSl eInt G x xs) (hr : ∀ i, i < xs.length → PlaceOk q (xs.getD i 0)) (hxl : xs.length ≤ 1048576) :
  Calls Tryz.prog 103 [(.pointer (some ⟨p, 0, none⟩)), x].toArray w fun e w' => ∃ (u : Value) (zs : List Int) (G' : Pin), e = .returned u ∧ Own eInt 3 G' w' w.heap.size u zs ∧ PtOk q xs zs zs.length ∧ Ext noS G w G' w' := by
 refine zW (n := 82) Tryz.func103 Tryz.ntmps103 rfl rfl ?_
 have hX0 : Ext noS G w G w := Ext.refl hP
 have hpin : PIn w (inP p L R B mm) p L R B mm := PIn.self
 have hml1 : (q.ns.map Nd.l).length = q.ns.length ∧ (q.ns.map Nd.r).length = q.ns.length := ⟨List.length_map .., List.length_map ..⟩
 have hml2 : q.bs.length = q.ns.length ∧ q.ns.length ≤ 1048576 := ⟨hok.ar.ok.len, hok.ar.ok.lim⟩
 have hm := hx.max
 refine zD (zF ?_)
 refine qD rfl (zC (v := (.slice none 0 0)) rfl) ?_
 refine qe (zA (zD (zF ?_)))
 refine qI rfl (o_makeMap (fun k : Int => Value.int .i64 k) (fun v : Bool => Value.bool v) hX0.pins (fun m3 w4 hk5 hm6 hp7 hl8 => ?_))
 have hX9 := hX0.step hp7 hl8
 have hpk10 := hpk.below hl8 hp7
 have hnp11 := hpk.new (x := some m3) (fun k hk => by cases hk; omega)
 have hlo12 : w.heap.size ≤ m3 := by have := hX0.size; omega
 refine qD rfl (zC (v := (.map (some m3))) rfl) ?_
 refine qe (zA (zD (zF ?_)))
 refine qI rfl (xN (E := eInt) (e := 3) Tryz.underlying65 sz3 hX9.pins (fun u13 w14 ho15 hp16 hl17 hk18 => ?_))
 have hX19 := hX9.step hp16 hl17
 have hm20 := hm6.below hl17
 have hpk21 := hpk10.below hl17 hp16
 have ha26 := hpk10.new (x := u13.ownBlock) (fun k hk => by rw [hk18] at hk; cases hk; exact Nat.le_refl _)
 have ho27 : Own eInt 3 G w14 w.heap.size u13 ([]) := ho15.weaken hX9.size
 refine qD rfl (zC (v := u13) rfl) ?_
 refine qe (zA (zD (zD (zF ?_))))
 refine qD rfl (zB (v := x) rfl) ?_
 refine qD rfl (zT Tryz.underlying65 (v := x) rfl hx) ?_
 refine qD rfl (zB (v := (.int .i64 0)) rfl) ?_
 refine qe (zA ?_)
 refine zX ?_
 refine yK (fun (k : Nat) (en : Nat → Value) (W : World) => ∃ (env1 : Nat → Value) (i : Nat) (lv : Value) (ls : List Int) (sn : List (Int × Bool)) (GL1 : Pin), en = (upd (upd (upd (upd (upd (upd (upd env1 0 (.pointer (some ⟨p, 0, none⟩))) 4 (.slice none 0 0)) 5 (.map (some m3))) 6 lv) 16 x) 17 (.int .i64 (xs.length : Int))) 18 (.int .i64 (i : Int))) ∧ k = xs.length - i ∧ Ext noS G w GL1 W ∧ Pin.le G GL1 ∧ (i ≤ xs.length) ∧ (PtOk q (xs.take i) ls 0) ∧ (SnOk sn ls) ∧ (Own eInt 3 GL1 W w.heap.size lv (ls)) ∧ (Mp (fun k : Int => Value.int .i64 k) (fun v : Bool => Value.bool v) W m3 (sn)) ∧ (Pk 65 3 GL1 W p L R B mm q) ∧ (NP p L R B mm lv.ownBlock)) _ ⟨_, 0, u13, [], [], G, (zE (x := 18) (zE (x := 17) (zE (x := 16) (zE (x := 6) (zE (x := 5) (zE (x := 4) (zV (x := 0) rfl) rfl) rfl) rfl) rfl) rfl) rfl), rfl, hX19, Pin.le_refl _, Nat.zero_le _, PtOk.start, SnOk.start, ho27, hm20, hpk21, ha26⟩ ?_
 rintro k32 _ w33 ⟨env1, i, lv, ls, sn, GL1, rfl, hk34, hX35, hlek32, hi, hpt, hsn, hw36, hm37, hpk38, hnp39⟩
 have hpl0 := hpt.len
 refine zD (zF ?_)
 refine qD rfl (yN rfl rfl) ?_
 refine qe (zA (zD ?_))
 refine yA (p := ((i : Int) : Int) < (xs.length : Int)) rfl rfl (fun h40 => ?_) (fun h40 => ?_)
 ·skip
  refine wp_skip ?_
  refine zA (zD ?_)
  refine zX ?_
  refine zD (zF ?_)
  refine qD rfl (zM Tryz.underlying65 sz3 (v := x) rfl rfl hx (by omega) (by omega)) ?_
  refine qD rfl (zK (r := xs.getD i 0) rfl ag3 (z := (i : Int)) rfl hx (Pins.of_le hX35.pins hlek32) (by omega) (by omega)) ?_
  refine qD rfl (zC (v := (.int .i64 (xs.getD i 0))) rfl) ?_
  refine qe (zA (zD (zF ?_)))
  refine qD rfl (zB (v := (.map (some m3))) rfl) ?_
  refine qD rfl (zB (v := (.int .i64 (xs.getD i 0))) rfl) ?_
  refine qD rfl (run_look1_bool (k := (xs.getD i 0)) (key_int Tryz.underlying3) Tryz.underlying147 zr4 hm37 rfl rfl) ?_
  refine qD rfl (qB rfl) ?_
  refine qe (zA ?_)
  refine qY rfl rfl (fun h41 => ?_) (fun h41 => ?_)
  ·skip
   refine wp_skip ?_
   refine yF ?_
   refine zA (zF ?_)
   refine qD rfl (yL rfl rfl (by omega)) ?_
   refine qD rfl (zB (v := (.int .i64 ((i : Int) + 1))) rfl) ?_
   refine qe ?_
   refine yE ?_
   refine ⟨_, ?_, _, rfl, _, i + 1, lv, ls, sn, GL1, (zE (x := 18) (zE (x := 17) (zE (x := 16) (zE (x := 6) (zE (x := 5) (zE (x := 4) (zV (x := 0) rfl) rfl) rfl) rfl) rfl) rfl) rfl), rfl, hX35, hlek32, (by omega), (hpt.rseen (by omega) (hsn.yes h41)), hsn, hw36, hm37, hpk38, hnp39⟩
   omega
  refine zD (zF ?_)
  refine qD rfl (zB (v := (.map (some m3))) rfl) ?_
  refine qD rfl (zB (v := (.int .i64 (xs.getD i 0))) rfl) ?_
  refine q0 rfl rfl rfl (qV (val := (fun v : Bool => Value.bool v)) (k := (xs.getD i 0)) (v := true) (key_int Tryz.underlying3) Tryz.underlying147 rfl rfl rfl hX35.pins hm37 (fun w42 hm43 hp44 hg45 hz46 => ?_))
  have hX47 := hX35.write hp44 hg45 ((yM hlo12))
  have ho48 := hw36.keptA hg45 (yP hm37 hw36).symm
  have hpk49 := hpk38.kept hg45 hp44 hnp11
  refine qe (zA (zF ?_))
  refine qD rfl (zB (v := lv) rfl) ?_
  refine qD rfl (zB (v := (.int .i64 (xs.getD i 0))) rfl) ?_
  refine qI rfl (yU (E := eInt) (e := 3) [(.int .i64 (xs.getD i 0))] [xs.getD i 0] Tryz.underlying65 sz3 zr3 (by exact xS (by rfl)) (xA (by rfl)) rfl rfl rfl rfl (by decide) hX47.pins (fun u50 w51 ho52 hp53 hl54 hk55 => ?_))
  have hX56 := hX47.step hp53 hl54
  have ho57 := ho48.below hl54
  have hm58 := hm43.below hl54
  have hpk59 := hpk49.below hl54 hp53
  have ho66 : Own eInt 3 GL1 w51 w.heap.size u50 ([xs.getD i 0]) := ho52.weaken hX47.size
  refine qI rfl (yB (E := eInt) (v := lv) (u := u50) 8 Tryz.underlying65 ap3 (by decide) rfl rfl hX56.pins ho57 ho66.src (by first | omega | (rw [List.nil_append]; omega) | (rw [List.length_nil]; omega) | (rw [List.length_append]; omega) | (simp; done) | (simp; omega) | (simp only [List.length_append, List.length_cons, List.length_nil]; omega)) (by first | omega | (rw [List.nil_append]; omega) | (rw [List.length_nil]; omega) | (rw [List.length_append]; omega) | (simp; done) | (simp; omega) | (simp only [List.length_append, List.length_cons, List.length_nil]; omega)) (hX56.size) (fun u67 w68 ho69 hp70 hg71 hw72 => ?_))
  have hX73 := hX56.write hp70 hg71 ((yI ho57))
  have hm75 := hm58.kept hg71 (yP hm58 ho57)
  have hpk76 := hpk59.kept hg71 hp70 hnp39
  have hnp78 := np_app hnp39 hpk59 hw72
  have hm79 : (ls ++ ([xs.getD i 0])).length = ls.length + 1 := List.length_append
  refine qD rfl (zC (v := u67) rfl) ?_
  refine qe ?_
  refine yF ?_
  refine zA (zF ?_)
  refine qD rfl (yL rfl rfl (by omega)) ?_
  refine qD rfl (zB (v := (.int .i64 ((i : Int) + 1))) rfl) ?_
  refine qe ?_
  refine yE ?_
  refine ⟨_, ?_, _, rfl, _, i + 1, u67, ls ++ ([xs.getD i 0]), putE sn (xs.getD i 0) true, GL1, (zE (x := 18) (zE (x := 17) (zE (x := 16) (zE (x := 6) (zE (x := 5) (zE (x := 4) (zV (x := 0) rfl) rfl) rfl) rfl) rfl) rfl) rfl), rfl, hX73, hlek32, (by omega), (hpt.rnew (by omega) (hsn.no h41) (hr i (by omega))), hsn.put, ho69, hm75, hpk76, hnp78⟩
  omega
 refine wp_exit ?_
 refine zZ ?_
 refine yG ?_
 refine yC ?_
 refine zA (zD (zD (zF ?_)))
 refine qD rfl (zC (v := (.int .i64 0)) rfl) ?_
 refine qe (zA ?_)
 refine zX ?_
 have hin : i = xs.length := by omega
 rw [hin, qN (Nat.le_refl _)] at hpt
 refine yK (fun (k : Nat) (en : Nat → Value) (W : World) => ∃ (env1 : Nat → Value) (k2 : Nat) (lv2 : Value) (ls2 : List Int) (sn2 : List (Int × Bool)) (GL2 : Pin), en = (upd (upd (upd (upd (upd env1 0 (.pointer (some ⟨p, 0, none⟩))) 4 (.slice none 0 0)) 5 (.map (some m3))) 6 lv2) 9 (.int .i64 (k2 : Int))) ∧ k = q.ns.length - k2 ∧ Ext noS G w GL2 W ∧ Pin.le GL1 GL2 ∧ (PtOk q xs ls2 k2) ∧ (SnOk sn2 ls2) ∧ (Own eInt 3 GL2 W w.heap.size lv2 (ls2)) ∧ (Mp (fun k : Int => Value.int .i64 k) (fun v : Bool => Value.bool v) W m3 (sn2)) ∧ (Pk 65 3 GL2 W p L R B mm q) ∧ (NP p L R B mm lv2.ownBlock)) _ ⟨_, 0, lv, ls, sn, GL1, (zE (x := 9) (zE (x := 6) (zE (x := 5) (zE (x := 4) (zV (x := 0) rfl) rfl) rfl) rfl) rfl), rfl, hX35, Pin.le_refl _, hpt, hsn, hw36, hm37, hpk38, hnp39⟩ ?_
 rintro k84 _ w85 ⟨env1, k2, lv2, ls2, sn2, GL2, rfl, hk86, hX87, hlek84, hpt2, hsn2, hw88, hm89, hpk90, hnp91⟩
 have hpl2 := hpt2.len
 have hkl2 := hpt2.kl
 refine zD (zD (zF ?_))
 refine qD rfl (zB (v := (.int .i64 (k2 : Int))) rfl) ?_
 refine qD rfl (zB (v := lv2) rfl) ?_
 refine qD rfl (zT Tryz.underlying65 (v := lv2) rfl hw88.read) ?_
 refine qD rfl (yN rfl rfl) ?_
 refine qe (zA ?_)
 refine yA (p := ((k2 : Int) : Int) < (ls2.length : Int)) rfl rfl (fun h92 => ?_) (fun h92 => ?_)
 ·skip
  have hzp := hpt2.pl _ (yS (d := (0 : Int)) (show k2 < ls2.length by omega))
  have hz0 := hzp.1
  have hz1 := hzp.2
  have holl := hok.ar.ok.lens (ls2.getD k2 0).toNat (by omega)
  refine wp_skip ?_
  refine zA (zD ?_)
  refine zX ?_
  refine zD ?_
  have hq93 := Gadd.pins hX87.pins lv2
  have hq94 := Gadd.pins hX87.pins L
  have hq95 := Gadd.pins hX87.pins R
  have hr96 := hw88.read
  have hr97 := hpk90.ol.read
  have hr98 := hpk90.rr.read
  refine yX (S := fun wz => BxR wz p [L, R, B, (.map (some mm.f)), (.map (some mm.o)), (.map (some mm.c)), (.map (some mm.s)), (.map (some mm.n))] ∧ Pins (Gadd GL2 w85 lv2) wz ∧ Pins (Gadd GL2 w85 L) wz ∧ Pins (Gadd GL2 w85 R) wz) (last := 22) (by kernel_rfl) rfl ?_
  have hl99 : Below w85.heap.size w85 w85.drew := (Below.refl _ _).drew
  have hp100 := hX87.pins.below hl99
  have hX101 := hX87.step hp100 hl99
  have ho102 := hw88.below hl99
  have hm103 := hm89.below hl99
  have hpk104 := hpk90.below hl99 hp100
  have hq105 := hq93.below hl99
  have hq106 := hq94.below hl99
  have hq107 := hq95.below hl99
  refine dT (i := 0) rfl rfl (by kernel_rfl) (fun _ _ => zB (v := (.pointer (some ⟨p, 0, none⟩))) rfl) ⟨hpk104.bx.reads, hq105, hq106, hq107⟩ ?_
  refine dT (i := 1) rfl rfl (by kernel_rfl) (fun _ _ => yZ rfl) ⟨hpk104.bx.reads, hq105, hq106, hq107⟩ ?_
  refine dT (i := 2) rfl rfl (by kernel_rfl) (fun _ _ => zJ (k := 0) rfl Tryz.underlying72 rfl nz66 rfl) ⟨hpk104.bx.reads, hq105, hq106, hq107⟩ ?_
  refine dT (i := 3) rfl rfl (by kernel_rfl) (fun _ hS => zL (u := L) ag66 rfl (hS.1 0 _ rfl)) ⟨hpk104.bx.reads, hq105, hq106, hq107⟩ ?_
  refine dT (i := 4) rfl rfl (by kernel_rfl) (fun _ _ => zB (v := lv2) rfl) ⟨hpk104.bx.reads, hq105, hq106, hq107⟩ ?_
  refine dT (i := 5) rfl rfl (by kernel_rfl) (fun _ _ => zB (v := (.int .i64 (k2 : Int))) rfl) ⟨hpk104.bx.reads, hq105, hq106, hq107⟩ ?_
  refine dT (i := 6) rfl rfl (by kernel_rfl) (fun _ _ => zM Tryz.underlying65 sz3 (v := lv2) rfl rfl hr96 (by omega) (by omega)) ⟨hpk104.bx.reads, hq105, hq106, hq107⟩ ?_
  refine dT (i := 7) rfl rfl (by kernel_rfl) (fun _ hS => zK (r := ls2.getD k2 0) rfl ag3 (z := (k2 : Int)) rfl hr96 hS.2.1 (by omega) (by omega)) ⟨hpk104.bx.reads, hq105, hq106, hq107⟩ ?_
  refine dT (i := 8) rfl rfl (by kernel_rfl) (fun _ _ => zM Tryz.underlying66 sz65 (v := L) rfl rfl hr97 (by omega) (by omega)) ⟨hpk104.bx.reads, hq105, hq106, hq107⟩ ?_
  obtain ⟨u108, hr109, hl110⟩ := nm_sl (hpk90.ol.at (z := (ls2.getD k2 0)) (by omega) (by omega)) (j := (ls2.getD k2 0).toNat) rfl
  rw [mapl_getD] at hr109
  have hm111 := hr109.max
  refine dT (i := 9) rfl rfl (by kernel_rfl) (fun _ hS => hl110 ag65 rfl hS.2.2.1) ⟨hpk104.bx.reads, hq105, hq106, hq107⟩ ?_
  refine dT (i := 10) rfl rfl (by kernel_rfl) (fun _ _ => zB (v := (.pointer (some ⟨p, 0, none⟩))) rfl) ⟨hpk104.bx.reads, hq105, hq106, hq107⟩ ?_
  refine dT (i := 11) rfl rfl (by kernel_rfl) (fun _ _ => yZ rfl) ⟨hpk104.bx.reads, hq105, hq106, hq107⟩ ?_
  refine dT (i := 12) rfl rfl (by kernel_rfl) (fun _ _ => zJ (k := 1) rfl Tryz.underlying72 rfl nz66 rfl) ⟨hpk104.bx.reads, hq105, hq106, hq107⟩ ?_
  refine dT (i := 13) rfl rfl (by kernel_rfl) (fun _ hS => zL (u := R) ag66 rfl (hS.1 1 _ rfl)) ⟨hpk104.bx.reads, hq105, hq106, hq107⟩ ?_
  refine dT (i := 14) rfl rfl (by kernel_rfl) (fun _ _ => zB (v := lv2) rfl) ⟨hpk104.bx.reads, hq105, hq106, hq107⟩ ?_
  refine dT (i := 15) rfl rfl (by kernel_rfl) (fun _ _ => zB (v := (.int .i64 (k2 : Int))) rfl) ⟨hpk104.bx.reads, hq105, hq106, hq107⟩ ?_
  refine dT (i := 16) rfl rfl (by kernel_rfl) (fun _ _ => zM Tryz.underlying65 sz3 (v := lv2) rfl rfl hr96 (by omega) (by omega)) ⟨hpk104.bx.reads, hq105, hq106, hq107⟩ ?_
  refine dT (i := 17) rfl rfl (by kernel_rfl) (fun _ hS => zK (r := ls2.getD k2 0) rfl ag3 (z := (k2 : Int)) rfl hr96 hS.2.1 (by omega) (by omega)) ⟨hpk104.bx.reads, hq105, hq106, hq107⟩ ?_
  refine dT (i := 18) rfl rfl (by kernel_rfl) (fun _ _ => zM Tryz.underlying66 sz65 (v := R) rfl rfl hr98 (by omega) (by omega)) ⟨hpk104.bx.reads, hq105, hq106, hq107⟩ ?_
  obtain ⟨u112, hr113, hl114⟩ := nm_sl (hpk90.rr.at (z := (ls2.getD k2 0)) (by omega) (by omega)) (j := (ls2.getD k2 0).toNat) rfl
  rw [mapr_getD] at hr113
  have hm115 := hr113.max
  refine dT (i := 19) rfl rfl (by kernel_rfl) (fun _ hS => hl114 ag65 rfl hS.2.2.2) ⟨hpk104.bx.reads, hq105, hq106, hq107⟩ ?_
  refine dT (i := 20) rfl rfl (by kernel_rfl) (fun _ _ => r_buildA (m := 1) [(.slice none 0 0), (.slice none 0 0)] [u108, u112] [(0, u108, [u108]), (1, u112, [u112])] Tryz.underlying148 zr148 rfl sz65 rfl (List.forall_mem_cons.2 ⟨(xM hr109.one), (List.forall_mem_cons.2 ⟨(xM hr113.one), (fun _ h => by cases h)⟩)⟩) rfl) ⟨hpk104.bx.reads, hq105, hq106, hq107⟩ ?_
  refine dT (i := 21) rfl rfl (by kernel_rfl) (fun _ _ => zB (v := (.int .i64 0)) rfl) ⟨hpk104.bx.reads, hq105, hq106, hq107⟩ ?_
  refine yJ (by kernel_rfl) ?_
  refine zA ?_
  refine zX ?_
  refine yK (fun (k : Nat) (en : Nat → Value) (W : World) => ∃ (env1 : Nat → Value) (s : Nat) (lv3 : Value) (ls3 : List Int) (sn3 : List (Int × Bool)) (GL3 : Pin), en = (upd (upd (upd (upd (upd (upd (upd env1 0 (.pointer (some ⟨p, 0, none⟩))) 4 (.slice none 0 0)) 5 (.map (some m3))) 6 lv3) 9 (.int .i64 (k2 : Int))) 59 (.agg [u108, u112].toArray)) 60 (.int .i64 (s : Int))) ∧ k = 2 - s ∧ Ext noS G w GL3 W ∧ Pin.le GL2 GL3 ∧ (s ≤ 2) ∧ (PtIn q xs ls3 k2 (ls2.getD k2 0) (dzL (q.ns.getD (ls2.getD k2 0).toNat default).l (q.ns.getD (ls2.getD k2 0).toNat default).r s)) ∧ (SnOk sn3 ls3) ∧ (Own eInt 3 GL3 W w.heap.size lv3 (ls3)) ∧ (Mp (fun k : Int => Value.int .i64 k) (fun v : Bool => Value.bool v) W m3 (sn3)) ∧ (Pk 65 3 GL3 W p L R B mm q) ∧ (NP p L R B mm lv3.ownBlock)) _ ⟨_, 0, lv2, ls2, sn2, GL2, (zE (x := 60) (zE (x := 59) (zE (x := 9) (zE (x := 6) (zE (x := 5) (zE (x := 4) (zV (x := 0) rfl) rfl) rfl) rfl) rfl) rfl) rfl), rfl, hX101, Pin.le_refl _, Nat.zero_le _, (PtIn.start hpt2 (by omega)), hsn2, ho102, hm103, hpk104, hnp91⟩ ?_
  rintro k120 _ w121 ⟨env1, s, lv3, ls3, sn3, GL3, rfl, hk122, hX123, hlek120, hs, hin3, hsn3, hw124, hm125, hpk126, hnp127⟩
  have hpl3 := hin3.ok.len
  refine zD (zF ?_)
  refine qD rfl (yN rfl rfl) ?_
  refine qe (zA (zD ?_))
  refine yA (p := ((s : Int) : Int) < 2) rfl rfl (fun h128 => ?_) (fun h128 => ?_)
  ·skip
   refine wp_skip ?_
   refine zA (zD ?_)
   refine zX ?_
   refine zD (zF ?_)
   obtain ⟨u129, hr130, hl131⟩ := name_index2 (hr109.mono hlek120) (hr113.mono hlek120) (z := (s : Int)) s (by omega) (by omega) rfl
   have hm132 := hr130.max
   refine qD rfl (hl131 Tryz.underlying148 rfl sz65 ag65 rfl rfl) ?_
   refine qD rfl (zC (v := u129) rfl) ?_
   refine qe (zA (zD (zF ?_)))
   refine qD rfl (zB (v := u129) rfl) ?_
   refine qD rfl (zT Tryz.underlying65 (v := u129) rfl hr130) ?_
   refine qD rfl (zB (v := (.int .i64 0)) rfl) ?_
   refine qe (zA ?_)
   refine zX ?_
   refine yK (fun (k : Nat) (en : Nat → Value) (W : World) => ∃ (env1 : Nat → Value) (j : Nat) (lv4 : Value) (ls4 : List Int) (sn4 : List (Int × Bool)) (GL4 : Pin), en = (upd (upd (upd (upd (upd (upd (upd (upd (upd (upd env1 0 (.pointer (some ⟨p, 0, none⟩))) 4 (.slice none 0 0)) 5 (.map (some m3))) 6 lv4) 9 (.int .i64 (k2 : Int))) 59 (.agg [u108, u112].toArray)) 60 (.int .i64 (s : Int))) 63 u129) 64 (.int .i64 ((pick2 s ((q.ns.getD (ls2.getD k2 0).toNat default).l) ((q.ns.getD (ls2.getD k2 0).toNat default).r)).length : Int))) 65 (.int .i64 (j : Int))) ∧ k = (pick2 s (q.ns.getD (ls2.getD k2 0).toNat default).l (q.ns.getD (ls2.getD k2 0).toNat default).r).length - j ∧ Ext noS G w GL4 W ∧ Pin.le GL3 GL4 ∧ (j ≤ (pick2 s (q.ns.getD (ls2.getD k2 0).toNat default).l (q.ns.getD (ls2.getD k2 0).toNat default).r).length) ∧ (PtIn q xs ls4 k2 (ls2.getD k2 0) (dzL (q.ns.getD (ls2.getD k2 0).toNat default).l (q.ns.getD (ls2.getD k2 0).toNat default).r s ++ (pick2 s (q.ns.getD (ls2.getD k2 0).toNat default).l (q.ns.getD (ls2.getD k2 0).toNat default).r).take j)) ∧ (SnOk sn4 ls4) ∧ (Own eInt 3 GL4 W w.heap.size lv4 (ls4)) ∧ (Mp (fun k : Int => Value.int .i64 k) (fun v : Bool => Value.bool v) W m3 (sn4)) ∧ (Pk 65 3 GL4 W p L R B mm q) ∧ (NP p L R B mm lv4.ownBlock)) _ ⟨_, 0, lv3, ls3, sn3, GL3, (zE (x := 65) (zE (x := 64) (zE (x := 63) (zE (x := 60) (zE (x := 59) (zE (x := 9) (zE (x := 6) (zE (x := 5) (zE (x := 4) (zV (x := 0) rfl) rfl) rfl) rfl) rfl) rfl) rfl) rfl) rfl) rfl), rfl, hX123, Pin.le_refl _, Nat.zero_le _, (by rw [List.take_zero, List.append_nil]; exact hin3), hsn3, hw124, hm125, hpk126, hnp127⟩ ?_
   rintro k137 _ w138 ⟨env1, j, lv4, ls4, sn4, GL4, rfl, hk139, hX140, hlek137, hj, hin4, hsn4, hw141, hm142, hpk143, hnp144⟩
   have hpl5 := hin4.ok.len
   refine zD (zF ?_)
   refine qD rfl (yN rfl rfl) ?_
   refine qe (zA (zD ?_))
   refine yA (p := ((j : Int) : Int) < ((pick2 s ((q.ns.getD (ls2.getD k2 0).toNat default).l) ((q.ns.getD (ls2.getD k2 0).toNat default).r)).length : Int)) rfl rfl (fun h145 => ?_) (fun h145 => ?_)
   ·skip
    refine wp_skip ?_
    refine zA (zD ?_)
    refine zX ?_
    refine zD (zF ?_)
    refine qD rfl (zM Tryz.underlying65 sz3 (v := u129) rfl rfl hr130 (by omega) (by omega)) ?_
    refine qD rfl (zK (r := (pick2 s ((q.ns.getD (ls2.getD k2 0).toNat default).l) ((q.ns.getD (ls2.getD k2 0).toNat default).r)).getD j 0) rfl ag3 (z := (j : Int)) rfl hr130 (Pins.of_le hX140.pins hlek137) (by omega) (by omega)) ?_
    refine qD rfl (zC (v := (.int .i64 ((pick2 s ((q.ns.getD (ls2.getD k2 0).toNat default).l) ((q.ns.getD (ls2.getD k2 0).toNat default).r)).getD j 0))) rfl) ?_
    refine qe (zA (zD (zF ?_)))
    refine qD rfl (zB (v := (.map (some m3))) rfl) ?_
    refine qD rfl (zB (v := (.int .i64 ((pick2 s ((q.ns.getD (ls2.getD k2 0).toNat default).l) ((q.ns.getD (ls2.getD k2 0).toNat default).r)).getD j 0))) rfl) ?_
    refine qD rfl (run_look1_bool (k := ((pick2 s ((q.ns.getD (ls2.getD k2 0).toNat default).l) ((q.ns.getD (ls2.getD k2 0).toNat default).r)).getD j 0)) (key_int Tryz.underlying3) Tryz.underlying147 zr4 hm142 rfl rfl) ?_
    refine qD rfl (qB rfl) ?_
    refine qe (zA ?_)
    refine qY rfl rfl (fun h146 => ?_) (fun h146 => ?_)
    ·skip
     refine wp_skip ?_
     refine yF ?_
     refine zA (zF ?_)
     refine qD rfl (yL rfl rfl (by omega)) ?_
     refine qD rfl (zB (v := (.int .i64 ((j : Int) + 1))) rfl) ?_
     refine qe ?_
     refine yE ?_
     refine ⟨_, ?_, _, rfl, _, j + 1, lv4, ls4, sn4, GL4, (zE (x := 65) (zE (x := 64) (zE (x := 63) (zE (x := 60) (zE (x := 59) (zE (x := 9) (zE (x := 6) (zE (x := 5) (zE (x := 4) (zV (x := 0) rfl) rfl) rfl) rfl) rfl) rfl) rfl) rfl) rfl) rfl), rfl, hX140, hlek137, (by omega), (by rw [qC _ 0 (show j < (pick2 s (q.ns.getD (ls2.getD k2 0).toNat default).l (q.ns.getD (ls2.getD k2 0).toNat default).r).length by omega), ← List.append_assoc]; exact hin4.seen (hsn4.yes h146)), hsn4, hw141, hm142, hpk143, hnp144⟩
     omega
    refine zD (zF ?_)
    refine qD rfl (zB (v := (.map (some m3))) rfl) ?_
    refine qD rfl (zB (v := (.int .i64 ((pick2 s ((q.ns.getD (ls2.getD k2 0).toNat default).l) ((q.ns.getD (ls2.getD k2 0).toNat default).r)).getD j 0))) rfl) ?_
    refine q0 rfl rfl rfl (qV (val := (fun v : Bool => Value.bool v)) (k := ((pick2 s ((q.ns.getD (ls2.getD k2 0).toNat default).l) ((q.ns.getD (ls2.getD k2 0).toNat default).r)).getD j 0)) (v := true) (key_int Tryz.underlying3) Tryz.underlying147 rfl rfl rfl hX140.pins hm142 (fun w147 hm148 hp149 hg150 hz151 => ?_))
    have hX152 := hX140.write hp149 hg150 ((yM hlo12))
    have ho153 := hw141.keptA hg150 (yP hm142 hw141).symm
    have hpk154 := hpk143.kept hg150 hp149 hnp11
    refine qe (zA (zF ?_))
    refine qD rfl (zB (v := lv4) rfl) ?_
    refine qD rfl (zB (v := (.int .i64 ((pick2 s ((q.ns.getD (ls2.getD k2 0).toNat default).l) ((q.ns.getD (ls2.getD k2 0).toNat default).r)).getD j 0))) rfl) ?_
    refine qI rfl (yU (E := eInt) (e := 3) [(.int .i64 ((pick2 s ((q.ns.getD (ls2.getD k2 0).toNat default).l) ((q.ns.getD (ls2.getD k2 0).toNat default).r)).getD j 0))] [(pick2 s ((q.ns.getD (ls2.getD k2 0).toNat default).l) ((q.ns.getD (ls2.getD k2 0).toNat default).r)).getD j 0] Tryz.underlying65 sz3 zr3 (by exact xS (by rfl)) (xA (by rfl)) rfl rfl rfl rfl (by decide) hX152.pins (fun u155 w156 ho157 hp158 hl159 hk160 => ?_))
    have hX161 := hX152.step hp158 hl159
    have ho162 := ho153.below hl159
    have hm163 := hm148.below hl159
    have hpk164 := hpk154.below hl159 hp158
    have ho171 : Own eInt 3 GL4 w156 w.heap.size u155 ([(pick2 s ((q.ns.getD (ls2.getD k2 0).toNat default).l) ((q.ns.getD (ls2.getD k2 0).toNat default).r)).getD j 0]) := ho157.weaken hX152.size
    refine qI rfl (yB (E := eInt) (v := lv4) (u := u155) 8 Tryz.underlying65 ap3 (by decide) rfl rfl hX161.pins ho162 ho171.src (by first | omega | (rw [List.nil_append]; omega) | (rw [List.length_nil]; omega) | (rw [List.length_append]; omega) | (simp; done) | (simp; omega) | (simp only [List.length_append, List.length_cons, List.length_nil]; omega)) (by first | omega | (rw [List.nil_append]; omega) | (rw [List.length_nil]; omega) | (rw [List.length_append]; omega) | (simp; done) | (simp; omega) | (simp only [List.length_append, List.length_cons, List.length_nil]; omega)) (hX161.size) (fun u172 w173 ho174 hp175 hg176 hw177 => ?_))
    have hX178 := hX161.write hp175 hg176 ((yI ho162))
    have hm180 := hm163.kept hg176 (yP hm163 ho162)
    have hpk181 := hpk164.kept hg176 hp175 hnp144
    have hnp183 := np_app hnp144 hpk164 hw177
    have hm184 : (ls4 ++ ([(pick2 s ((q.ns.getD (ls2.getD k2 0).toNat default).l) ((q.ns.getD (ls2.getD k2 0).toNat default).r)).getD j 0])).length = ls4.length + 1 := List.length_append
    refine qD rfl (zC (v := u172) rfl) ?_
    refine qe ?_
    refine yF ?_
    refine zA (zF ?_)
    refine qD rfl (yL rfl rfl (by omega)) ?_
    refine qD rfl (zB (v := (.int .i64 ((j : Int) + 1))) rfl) ?_
    refine qe ?_
    refine yE ?_
    refine ⟨_, ?_, _, rfl, _, j + 1, u172, ls4 ++ ([(pick2 s ((q.ns.getD (ls2.getD k2 0).toNat default).l) ((q.ns.getD (ls2.getD k2 0).toNat default).r)).getD j 0]), putE sn4 ((pick2 s ((q.ns.getD (ls2.getD k2 0).toNat default).l) ((q.ns.getD (ls2.getD k2 0).toNat default).r)).getD j 0) true, GL4, (zE (x := 65) (zE (x := 64) (zE (x := 63) (zE (x := 60) (zE (x := 59) (zE (x := 9) (zE (x := 6) (zE (x := 5) (zE (x := 4) (zV (x := 0) rfl) rfl) rfl) rfl) rfl) rfl) rfl) rfl) rfl) rfl), rfl, hX178, hlek137, (by omega), (by rw [qC _ 0 (show j < (pick2 s (q.ns.getD (ls2.getD k2 0).toNat default).l (q.ns.getD (ls2.getD k2 0).toNat default).r).length by omega), ← List.append_assoc]; exact hin4.new hok (hsn4.no h146) (dz_in (by omega) (by omega))), hsn4.put, ho174, hm180, hpk181, hnp183⟩
    omega
   have hjn : j = (pick2 s (q.ns.getD (ls2.getD k2 0).toNat default).l (q.ns.getD (ls2.getD k2 0).toNat default).r).length := by omega
   rw [hjn, qN (Nat.le_refl _)] at hin4
   have hin5 : PtIn q xs ls4 k2 (ls2.getD k2 0) (dzL (q.ns.getD (ls2.getD k2 0).toNat default).l (q.ns.getD (ls2.getD k2 0).toNat default).r (s + 1)) := by rw [dz_next (by omega)]; exact hin4
   refine wp_exit ?_
   refine zZ ?_
   refine yG ?_
   refine yC ?_
   refine yF ?_
   refine zA (zF ?_)
   refine qD rfl (yL rfl rfl (by omega)) ?_
   refine qD rfl (zB (v := (.int .i64 ((s : Int) + 1))) rfl) ?_
   refine qe ?_
   refine yE ?_
   refine ⟨_, ?_, _, rfl, _, s + 1, lv4, ls4, sn4, GL4, (zE (x := 60) (zE (x := 59) (zE (x := 9) (zE (x := 6) (zE (x := 5) (zE (x := 4) (zV (x := 0) rfl) rfl) rfl) rfl) rfl) rfl) rfl), rfl, hX140, (Pin.le_trans hlek120 hlek137), (by omega), hin5, hsn4, hw141, hm142, hpk143, hnp144⟩
   omega
  have hs2 : s = 2 := by omega
  rw [hs2] at hin3
  have hdone := hin3.done (fun o ho => ho)
  have hpl4 := hdone.kl
  refine wp_exit ?_
  refine zZ ?_
  refine yG ?_
  refine yC ?_
  refine yF ?_
  refine zA (zF ?_)
  refine qD rfl (zB (v := (.int .i64 (k2 : Int))) rfl) ?_
  refine qD rfl (yL rfl rfl (by omega)) ?_
  refine qD rfl (zC (v := (.int .i64 ((k2 : Int) + 1))) rfl) ?_
  refine qe ?_
  refine yE ?_
  refine ⟨_, ?_, _, rfl, _, k2 + 1, lv3, ls3, sn3, GL3, (zE (x := 9) (zE (x := 6) (zE (x := 5) (zE (x := 4) (zV (x := 0) rfl) rfl) rfl) rfl) rfl), rfl, hX123, (Pin.le_trans hlek84 hlek120), hdone, hsn3, hw124, hm125, hpk126, hnp127⟩
  omega
 refine wp_exit ?_
 refine zZ ?_
 refine yG ?_
 refine yC ?_
 refine zA (zD (zF ?_))
 refine qD rfl (zB (v := lv2) rfl) ?_
 refine qD rfl (zC (v := lv2) rfl) ?_
 refine qe (zA ?_)
 refine wp_ret ?_
 refine zR ?_
 refine zO (v := lv2) rfl rfl rfl ?_
 have hkk : k2 = ls2.length := by omega
 rw [hkk] at hpt2
 exact ⟨_, _, _, rfl, hw88, hpt2, hX87⟩

end PA1
end Go.Proofs.YtfnginkcmcfdfaaGreatDoor

set_option maxRecDepth 20000
set_option maxHeartbeats 2000000
namespace Go.Proofs.YtfnginkcmcfdfaaGreatDoor
namespace SO1
open Go.RowKit Go.GL Go.Proofs
open Go.Proofs.YtfnginkcmcfdfaaGreatDoor.B1
end SO1
end Go.Proofs.YtfnginkcmcfdfaaGreatDoor

set_option maxRecDepth 20000
set_option maxHeartbeats 2000000
namespace Go.Proofs.YtfnginkcmcfdfaaGreatDoor
namespace OD1
open Go.RowKit Go.GL Go.Proofs
open Go.Proofs.YtfnginkcmcfdfaaGreatDoor.B1
open Go.Proofs.YtfnginkcmcfdfaaGreatDoor.PO1
open Go.Proofs.YtfnginkcmcfdfaaGreatDoor.PA1
open Go.Proofs.YtfnginkcmcfdfaaGreatDoor.SO1
end OD1
end Go.Proofs.YtfnginkcmcfdfaaGreatDoor

set_option maxRecDepth 20000
set_option maxHeartbeats 2000000
namespace Go.Proofs.YtfnginkcmcfdfaaGreatDoor
namespace FO1
open Go.RowKit Go.GL Go.Proofs
open Go.Proofs.YtfnginkcmcfdfaaGreatDoor.B1
open Go.Proofs.YtfnginkcmcfdfaaGreatDoor.PO1
open Go.Proofs.YtfnginkcmcfdfaaGreatDoor.PA1
open Go.Proofs.YtfnginkcmcfdfaaGreatDoor.SO1
open Go.Proofs.YtfnginkcmcfdfaaGreatDoor.OD1
end FO1
end Go.Proofs.YtfnginkcmcfdfaaGreatDoor

set_option maxRecDepth 20000
set_option maxHeartbeats 2000000
namespace Go.Proofs.YtfnginkcmcfdfaaGreatDoor
namespace NG1
open Go.RowKit Go.GL Go.Proofs
open Go.Proofs.YtfnginkcmcfdfaaGreatDoor.B1
open Go.Proofs.YtfnginkcmcfdfaaGreatDoor.K1
open Go.Proofs.YtfnginkcmcfdfaaGreatDoor.PO1
open Go.Proofs.YtfnginkcmcfdfaaGreatDoor.PL1
end NG1
end Go.Proofs.YtfnginkcmcfdfaaGreatDoor

set_option maxRecDepth 20000
set_option maxHeartbeats 2000000
namespace Go.Proofs.YtfnginkcmcfdfaaGreatDoor
namespace NF1
open Go.RowKit Go.GL Go.Proofs
open Go.Proofs.YtfnginkcmcfdfaaGreatDoor.B1
open Go.Proofs.YtfnginkcmcfdfaaGreatDoor.C1
open Go.Proofs.YtfnginkcmcfdfaaGreatDoor.D1
open Go.Proofs.YtfnginkcmcfdfaaGreatDoor.E1
open Go.Proofs.YtfnginkcmcfdfaaGreatDoor.K1
open Go.Proofs.YtfnginkcmcfdfaaGreatDoor.PO1
open Go.Proofs.YtfnginkcmcfdfaaGreatDoor.PL1
open Go.Proofs.YtfnginkcmcfdfaaGreatDoor.PA1
open Go.Proofs.YtfnginkcmcfdfaaGreatDoor.SO1
open Go.Proofs.YtfnginkcmcfdfaaGreatDoor.OD1
open Go.Proofs.YtfnginkcmcfdfaaGreatDoor.FO1
open Go.Proofs.YtfnginkcmcfdfaaGreatDoor.NG1
end NF1
end Go.Proofs.YtfnginkcmcfdfaaGreatDoor

set_option maxRecDepth 20000
set_option maxHeartbeats 2000000
namespace Go.Proofs.YtfnginkcmcfdfaaGreatDoor
namespace SM1
open Go.RowKit Go.GL Go.Proofs
open Go.Proofs.YtfnginkcmcfdfaaGreatDoor.B1
open Go.Proofs.YtfnginkcmcfdfaaGreatDoor.C1
open Go.Proofs.YtfnginkcmcfdfaaGreatDoor.D1
open Go.Proofs.YtfnginkcmcfdfaaGreatDoor.E1
open Go.Proofs.YtfnginkcmcfdfaaGreatDoor.K1
open Go.Proofs.YtfnginkcmcfdfaaGreatDoor.PO1
open Go.Proofs.YtfnginkcmcfdfaaGreatDoor.PL1
open Go.Proofs.YtfnginkcmcfdfaaGreatDoor.PA1
open Go.Proofs.YtfnginkcmcfdfaaGreatDoor.SO1
open Go.Proofs.YtfnginkcmcfdfaaGreatDoor.OD1
open Go.Proofs.YtfnginkcmcfdfaaGreatDoor.FO1
open Go.Proofs.YtfnginkcmcfdfaaGreatDoor.NG1
open Go.Proofs.YtfnginkcmcfdfaaGreatDoor.NF1


theorem pl32 : (Tryz.prog.underlying 32).bind (placesD Tryz.prog) = some [(0, 1)] := by kernel_rfl


theorem l3If_spec {w : World} {G : Pin} {v : Value} {fs : List Nd} (hP : Pins G w) (hv : RSl eNode G v fs) :
  Calls Tryz.prog 57 [(.agg [v].toArray)].toArray w fun e w' => ∃ (u : Value) (G' : Pin), e = .returned (.tuple #[(.agg [u].toArray), .bool (decP (FitsP fs))]) ∧ RSl eNode G' u (ifF fs) ∧ Ext noS G w G' w' := by
 refine zW (n := 9) Tryz.func57 Tryz.ntmps57 rfl rfl ?_
 have hX0 : Ext noS G w G w := Ext.refl hP
 refine zD (zF ?_)
 refine qI rfl (xH [v] (v := (.agg [v].toArray)) rfl rfl hX0.pins (fun b1 w2 hk3 hb4 hp5 hl6 => ?_))
 have hX7 := hX0.step hp5 hl6
 have hlo8 : w.heap.size ≤ b1 := by have := hX0.size; omega
 obtain ⟨G9, hle10, hX11, hbp12, hf13⟩ := hb4.shut hX7 hlo8
 refine qI rfl (yW [(.slice none 0 0)] zr32 rfl hX11.pins (fun b14 w15 hk16 hb17 hp18 hl19 => ?_))
 have hX20 := hX11.step hp18 hl19
 have hlo21 : w.heap.size ≤ b14 := by have := hX11.size; omega
 refine qD rfl (zC (v := (.bool false)) rfl) ?_
 refine qe (zA (zD (zD (zF ?_))))
 refine qD rfl (yH (cs := [v]) ag32 sz32 rfl (fun j u hj => hX20.pins _ _ _ (hbp12 _ _ (by simpa using hj)))) ?_
 refine qI rfl (zN (vs := [(.agg [v].toArray)]) Tryz.func88 nm88 rfl rfl rfl ?_)
 refine Calls.mono (l3Fits_spec hX20.pins (hv.mono hle10)) ?_
 rintro _ w23 ⟨G22, rfl, hx24⟩
 refine ⟨_, rfl, ?_⟩
 have hX25 := hX20.tr hx24
 have hb26 := hb17.ext hx24
 refine qD rfl (qB rfl) ?_
 refine qe (zA ?_)
 refine qY rfl rfl (fun h27 => ?_) (fun h27 => ?_)
 ·skip
  refine wp_skip ?_
  refine zA (zD (zF ?_))
  refine qD rfl (yH (cs := [v]) ag32 sz32 rfl (fun j u hj => (Pins.of_le hX25.pins hx24.le) _ _ _ (hbp12 _ _ (by simpa using hj)))) ?_
  refine q0 rfl rfl rfl (xF (cs' := [v]) (us := [v]) (v := (.agg [v].toArray)) sz32 rfl rfl rfl (xA hv.one) hX25.pins hb26 (Nat.le_of_ble_eq_true rfl) rfl (fun w28 hb29 hp30 hg31 hz32 => ?_))
  have hX33 := hX25.write hp30 hg31 ((yM hlo21))
  refine qD rfl (zC (v := (.bool true)) rfl) ?_
  refine qe (zA ?_)
  refine wp_ret ?_
  refine zR ?_
  refine c_retct (cs := [v]) (v := (.bool true)) rfl rfl rfl rfl rfl ag32 sz32 (fun j u hj => by rw [Nat.zero_add]; exact hb29.cell hj) ?_
  exact ⟨_, _, congrArg (fun z => Ending.returned (Value.tuple #[(.agg [v].toArray), Value.bool z])) (h27).symm, (by unfold ifF; rw [h27]; exact (hv.mono (Pin.le_trans hle10 hx24.le))), hX33⟩
 refine zD (zF ?_)
 refine qD rfl (xR [(.slice none 0 0)] [(.slice none 0 0)] [] Tryz.underlying32 zr32 rfl pl32 rfl (fun _ h => by cases h) rfl) ?_
 refine q0 rfl rfl rfl (xF (cs' := [(.slice none 0 0)]) (us := [(.slice none 0 0)]) (v := (.agg [(.slice none 0 0)].toArray)) sz32 rfl rfl rfl (xA (by rfl)) hX25.pins hb26 (Nat.le_of_ble_eq_true rfl) rfl (fun w34 hb35 hp36 hg37 hz38 => ?_))
 have hX39 := hX25.write hp36 hg37 ((yM hlo21))
 refine qD rfl (zC (v := (.bool false)) rfl) ?_
 refine qe (zA ?_)
 refine wp_ret ?_
 refine zR ?_
 refine c_retct (cs := [(.slice none 0 0)]) (v := (.bool false)) rfl rfl rfl rfl rfl ag32 sz32 (fun j u hj => by rw [Nat.zero_add]; exact hb35.cell hj) ?_
 exact ⟨_, _, congrArg (fun z => Ending.returned (Value.tuple #[(.agg [(.slice none 0 0)].toArray), Value.bool z])) (h27).symm, (by unfold ifF; rw [h27]; exact xO _ _), hX39⟩

end SM1
end Go.Proofs.YtfnginkcmcfdfaaGreatDoor

set_option maxRecDepth 20000
set_option maxHeartbeats 2000000
namespace Go.Proofs.YtfnginkcmcfdfaaGreatDoor
namespace NU1
open Go.RowKit Go.GL Go.Proofs
open Go.Proofs.YtfnginkcmcfdfaaGreatDoor.B1
open Go.Proofs.YtfnginkcmcfdfaaGreatDoor.C1
open Go.Proofs.YtfnginkcmcfdfaaGreatDoor.D1
open Go.Proofs.YtfnginkcmcfdfaaGreatDoor.E1
open Go.Proofs.YtfnginkcmcfdfaaGreatDoor.K1
open Go.Proofs.YtfnginkcmcfdfaaGreatDoor.PO1
open Go.Proofs.YtfnginkcmcfdfaaGreatDoor.PL1


theorem goodDyadic_spec {w : World} {G : Pin} {t z : Int} (hP : Pins G w) :
  Calls Tryz.prog 101 [(.agg [(.int .i64 t), (.int .i64 z)].toArray)].toArray w fun e w' => ∃ G', e = .returned (.bool (decP (GoodD t z))) ∧ Ext noS G w G' w' := by
 refine zW (n := 32) Tryz.func101 Tryz.ntmps101 rfl rfl ?_
 have hX0 : Ext noS G w G w := Ext.refl hP
 refine zD (zF ?_)
 refine qI rfl (xH [(.int .i64 t), (.int .i64 z)] (v := (.agg [(.int .i64 t), (.int .i64 z)].toArray)) rfl rfl hX0.pins (fun b1 w2 hk3 hb4 hp5 hl6 => ?_))
 have hX7 := hX0.step hp5 hl6
 have hlo8 : w.heap.size ≤ b1 := by have := hX0.size; omega
 obtain ⟨G9, hle10, hX11, hbp12, hf13⟩ := hb4.shut hX7 hlo8
 refine qD rfl (zC (v := (.bool false)) rfl) ?_
 refine qe (zA (zD (zF ?_)))
 refine qD rfl (zJ (k := 0) rfl Tryz.underlying34 rfl nz3 rfl) ?_
 refine qD rfl (zL (u := (.int .i64 t)) ag3 rfl (hX11.pins _ _ _ (hbp12 0 _ rfl))) ?_
 refine qD rfl (r_geq rfl rfl) ?_
 refine qD rfl (zB (v := (.bool (decide (((-1000000) : Int) ≤ t)))) rfl) ?_
 refine qbd (p := ((-1000000) : Int) ≤ t) (t := 6) rfl (fun h14 => ?_) (fun h14 => ?_)
 ·skip
  refine qdg rfl rfl rfl rfl rfl rfl (zJ (k := 0) rfl Tryz.underlying34 rfl nz3 rfl) ?_
  refine qdg rfl rfl rfl rfl rfl rfl (zL (u := (.int .i64 t)) ag3 rfl (hX11.pins _ _ _ (hbp12 0 _ rfl))) ?_
  refine qdg rfl rfl rfl rfl rfl rfl (r_leq rfl rfl) ?_
  refine qD rfl (xC (v := (.bool (decide ((t : Int) ≤ 1000000)))) rfl rfl) ?_
  refine qD rfl (zB (v := (.bool (decide ((t : Int) ≤ 1000000)))) rfl) ?_
  refine qbd (p := (t : Int) ≤ 1000000) (t := 11) rfl (fun h15 => ?_) (fun h15 => ?_)
  ·skip
   refine qdg rfl rfl rfl rfl rfl rfl (zJ (k := 1) rfl Tryz.underlying34 rfl nz3 rfl) ?_
   refine qdg rfl rfl rfl rfl rfl rfl (zL (u := (.int .i64 z)) ag3 rfl (hX11.pins _ _ _ (hbp12 1 _ rfl))) ?_
   refine qdg rfl rfl rfl rfl rfl rfl (r_geq rfl rfl) ?_
   refine qD rfl (xC (v := (.bool (decide ((0 : Int) ≤ z)))) rfl rfl) ?_
   refine qD rfl (zB (v := (.bool (decide ((0 : Int) ≤ z)))) rfl) ?_
   refine qbd (p := (0 : Int) ≤ z) (t := 16) rfl (fun h16 => ?_) (fun h16 => ?_)
   ·skip
    refine qdg rfl rfl rfl rfl rfl rfl (zJ (k := 1) rfl Tryz.underlying34 rfl nz3 rfl) ?_
    refine qdg rfl rfl rfl rfl rfl rfl (zL (u := (.int .i64 z)) ag3 rfl (hX11.pins _ _ _ (hbp12 1 _ rfl))) ?_
    refine qdg rfl rfl rfl rfl rfl rfl (r_leq rfl rfl) ?_
    refine qD rfl (xC (v := (.bool (decide ((z : Int) ≤ 16)))) rfl rfl) ?_
    refine qD rfl (zB (v := (.bool (decide ((z : Int) ≤ 16)))) rfl) ?_
    refine qbd (p := (z : Int) ≤ 16) (t := 21) rfl (fun h17 => ?_) (fun h17 => ?_)
    ·skip
     refine qdg rfl rfl rfl rfl rfl rfl (zJ (k := 1) rfl Tryz.underlying34 rfl nz3 rfl) ?_
     refine qdg rfl rfl rfl rfl rfl rfl (zL (u := (.int .i64 z)) ag3 rfl (hX11.pins _ _ _ (hbp12 1 _ rfl))) ?_
     refine qdg rfl rfl rfl rfl rfl rfl (qJ rfl rfl) ?_
     refine qdg rfl rfl rfl rfl rfl rfl (zB (v := (.bool (decide ((z : Int) = 0)))) rfl) ?_
     refine qbd (p := (z : Int) = 0) (t := 25) rfl (fun h18 => ?_) (fun h18 => ?_)
     ·skip
      refine qs rfl rfl rfl rfl rfl rfl ?_
      refine qs rfl rfl rfl rfl rfl rfl ?_
      refine qs rfl rfl rfl rfl rfl rfl ?_
      refine qs rfl rfl rfl rfl rfl rfl ?_
      refine qdg rfl rfl rfl rfl rfl rfl (xC (v := (.bool true)) rfl rfl) ?_
      refine qD rfl (xC (v := (.bool true)) rfl rfl) ?_
      refine qD rfl (zC (v := (.bool true)) rfl) ?_
      refine qe (zA ?_)
      refine wp_ret ?_
      refine zR ?_
      refine zO (v := (.bool true)) rfl rfl rfl ?_
      exact ⟨_, congrArg (fun z => Ending.returned (Value.bool z)) (decP_true.2 ⟨by omega, by omega, by omega⟩).symm, hX11⟩
     refine qdg rfl rfl rfl rfl rfl rfl (zJ (k := 0) rfl Tryz.underlying34 rfl nz3 rfl) ?_
     refine qdg rfl rfl rfl rfl rfl rfl (zL (u := (.int .i64 t)) ag3 rfl (hX11.pins _ _ _ (hbp12 0 _ rfl))) ?_
     refine qdg rfl rfl rfl rfl rfl rfl (r_rem2 rfl rfl) ?_
     refine qdg rfl rfl rfl rfl rfl rfl (r_neq rfl rfl) ?_
     refine qdg rfl rfl rfl rfl rfl rfl (yT (v := (.bool (decide ((t.tmod 2 : Int) ≠ 0)))) rfl rfl) ?_
     refine qD rfl (xC (v := (.bool (decide ((t.tmod 2 : Int) ≠ 0)))) rfl rfl) ?_
     refine qD rfl (zC (v := (.bool (decide ((t.tmod 2 : Int) ≠ 0)))) rfl) ?_
     refine qe (zA ?_)
     refine wp_ret ?_
     refine zR ?_
     refine zO (v := (.bool (decide ((t.tmod 2 : Int) ≠ 0)))) rfl rfl rfl ?_
     exact ⟨_, congrArg (fun z => Ending.returned (Value.bool z)) (decP_dec.symm.trans (decP_iff ⟨fun h => ⟨by omega, by omega, by omega⟩, fun g => by have h3 := g.odd; omega⟩)), hX11⟩
    refine qs rfl rfl rfl rfl rfl rfl ?_
    refine qs rfl rfl rfl rfl rfl rfl ?_
    refine qs rfl rfl rfl rfl rfl rfl ?_
    refine qs rfl rfl rfl rfl rfl rfl ?_
    refine qsu rfl rfl rfl rfl rfl ?_
    refine qsu rfl rfl rfl rfl rfl ?_
    refine qsu rfl rfl rfl rfl rfl ?_
    refine qsu rfl rfl rfl rfl rfl ?_
    refine qs rfl rfl rfl rfl rfl rfl ?_
    refine qD rfl (yT (v := (.bool false)) rfl rfl) ?_
    refine qD rfl (zC (v := (.bool false)) rfl) ?_
    refine qe (zA ?_)
    refine wp_ret ?_
    refine zR ?_
    refine zO (v := (.bool false)) rfl rfl rfl ?_
    exact ⟨_, congrArg (fun z => Ending.returned (Value.bool z)) (decP_false.2 (fun g => by have h1 := g.top; have h2 := g.pow; have h3 := g.odd; omega)).symm, hX11⟩
   refine qs rfl rfl rfl rfl rfl rfl ?_
   refine qs rfl rfl rfl rfl rfl rfl ?_
   refine qs rfl rfl rfl rfl rfl rfl ?_
   refine qD rfl (yT (v := (.bool false)) rfl rfl) ?_
   refine qD rfl (zB (v := (.bool false)) rfl) ?_
   refine qs rfl rfl rfl rfl rfl rfl ?_
   refine qs rfl rfl rfl rfl rfl rfl ?_
   refine qs rfl rfl rfl rfl rfl rfl ?_
   refine qs rfl rfl rfl rfl rfl rfl ?_
   refine qsu rfl rfl rfl rfl rfl ?_
   refine qsu rfl rfl rfl rfl rfl ?_
   refine qsu rfl rfl rfl rfl rfl ?_
   refine qsu rfl rfl rfl rfl rfl ?_
   refine qs rfl rfl rfl rfl rfl rfl ?_
   refine qD rfl (yT (v := (.bool false)) rfl rfl) ?_
   refine qD rfl (zC (v := (.bool false)) rfl) ?_
   refine qe (zA ?_)
   refine wp_ret ?_
   refine zR ?_
   refine zO (v := (.bool false)) rfl rfl rfl ?_
   exact ⟨_, congrArg (fun z => Ending.returned (Value.bool z)) (decP_false.2 (fun g => by have h1 := g.top; have h2 := g.pow; have h3 := g.odd; omega)).symm, hX11⟩
  refine qs rfl rfl rfl rfl rfl rfl ?_
  refine qs rfl rfl rfl rfl rfl rfl ?_
  refine qs rfl rfl rfl rfl rfl rfl ?_
  refine qD rfl (yT (v := (.bool false)) rfl rfl) ?_
  refine qD rfl (zB (v := (.bool false)) rfl) ?_
  refine qs rfl rfl rfl rfl rfl rfl ?_
  refine qs rfl rfl rfl rfl rfl rfl ?_
  refine qs rfl rfl rfl rfl rfl rfl ?_
  refine qD rfl (yT (v := (.bool false)) rfl rfl) ?_
  refine qD rfl (zB (v := (.bool false)) rfl) ?_
  refine qs rfl rfl rfl rfl rfl rfl ?_
  refine qs rfl rfl rfl rfl rfl rfl ?_
  refine qs rfl rfl rfl rfl rfl rfl ?_
  refine qs rfl rfl rfl rfl rfl rfl ?_
  refine qsu rfl rfl rfl rfl rfl ?_
  refine qsu rfl rfl rfl rfl rfl ?_
  refine qsu rfl rfl rfl rfl rfl ?_
  refine qsu rfl rfl rfl rfl rfl ?_
  refine qs rfl rfl rfl rfl rfl rfl ?_
  refine qD rfl (yT (v := (.bool false)) rfl rfl) ?_
  refine qD rfl (zC (v := (.bool false)) rfl) ?_
  refine qe (zA ?_)
  refine wp_ret ?_
  refine zR ?_
  refine zO (v := (.bool false)) rfl rfl rfl ?_
  exact ⟨_, congrArg (fun z => Ending.returned (Value.bool z)) (decP_false.2 (fun g => by have h1 := g.top; have h2 := g.pow; have h3 := g.odd; omega)).symm, hX11⟩
 refine qs rfl rfl rfl rfl rfl rfl ?_
 refine qs rfl rfl rfl rfl rfl rfl ?_
 refine qs rfl rfl rfl rfl rfl rfl ?_
 refine qD rfl (yT (v := (.bool false)) rfl rfl) ?_
 refine qD rfl (zB (v := (.bool false)) rfl) ?_
 refine qs rfl rfl rfl rfl rfl rfl ?_
 refine qs rfl rfl rfl rfl rfl rfl ?_
 refine qs rfl rfl rfl rfl rfl rfl ?_
 refine qD rfl (yT (v := (.bool false)) rfl rfl) ?_
 refine qD rfl (zB (v := (.bool false)) rfl) ?_
 refine qs rfl rfl rfl rfl rfl rfl ?_
 refine qs rfl rfl rfl rfl rfl rfl ?_
 refine qs rfl rfl rfl rfl rfl rfl ?_
 refine qD rfl (yT (v := (.bool false)) rfl rfl) ?_
 refine qD rfl (zB (v := (.bool false)) rfl) ?_
 refine qs rfl rfl rfl rfl rfl rfl ?_
 refine qs rfl rfl rfl rfl rfl rfl ?_
 refine qs rfl rfl rfl rfl rfl rfl ?_
 refine qs rfl rfl rfl rfl rfl rfl ?_
 refine qsu rfl rfl rfl rfl rfl ?_
 refine qsu rfl rfl rfl rfl rfl ?_
 refine qsu rfl rfl rfl rfl rfl ?_
 refine qsu rfl rfl rfl rfl rfl ?_
 refine qs rfl rfl rfl rfl rfl rfl ?_
 refine qD rfl (yT (v := (.bool false)) rfl rfl) ?_
 refine qD rfl (zC (v := (.bool false)) rfl) ?_
 refine qe (zA ?_)
 refine wp_ret ?_
 refine zR ?_
 refine zO (v := (.bool false)) rfl rfl rfl ?_
 exact ⟨_, congrArg (fun z => Ending.returned (Value.bool z)) (decP_false.2 (fun g => by have h1 := g.top; have h2 := g.pow; have h3 := g.odd; omega)).symm, hX11⟩

end NU1
end Go.Proofs.YtfnginkcmcfdfaaGreatDoor

set_option maxRecDepth 20000
set_option maxHeartbeats 2000000
namespace Go.Proofs.YtfnginkcmcfdfaaGreatDoor
namespace NU3
open Go.RowKit Go.GL Go.Proofs
open Go.Proofs.YtfnginkcmcfdfaaGreatDoor.B1
open Go.Proofs.YtfnginkcmcfdfaaGreatDoor.C1
open Go.Proofs.YtfnginkcmcfdfaaGreatDoor.D1
open Go.Proofs.YtfnginkcmcfdfaaGreatDoor.E1
open Go.Proofs.YtfnginkcmcfdfaaGreatDoor.K1
open Go.Proofs.YtfnginkcmcfdfaaGreatDoor.PO1
open Go.Proofs.YtfnginkcmcfdfaaGreatDoor.PL1
open Go.Proofs.YtfnginkcmcfdfaaGreatDoor.NU1

theorem pl34 : (Tryz.prog.underlying 34).bind (placesD Tryz.prog) = some [(0, 1), (1, 1)] := by kernel_rfl


theorem l2Make_spec {w : World} {G : Pin} {t : Int} {p : Nat} (hP : Pins G w) (hb : -1000000000000000 ≤ t ∧ t ≤ 1000000000000000) (hp : p ≤ 64) :
  Calls Tryz.prog 167 [(.int .i64 t), (.int .i64 (p : Int))].toArray w fun e w' => ∃ G', e = .returned (.agg [.int .i64 (lowD p t).1, .int .i64 (((lowD p t).2 : Nat) : Int)].toArray) ∧ Ext noS G w G' w' := by
 refine zW (n := 19) Tryz.func167 Tryz.ntmps167 rfl rfl ?_
 have hX0 : Ext noS G w G w := Ext.refl hP
 refine zD (zF ?_)
 refine qI rfl (yW [(.int .i64 0), (.int .i64 0)] zr34 rfl hX0.pins (fun b1 w2 hk3 hb4 hp5 hl6 => ?_))
 have hX7 := hX0.step hp5 hl6
 have hlo8 : w.heap.size ≤ b1 := by have := hX0.size; omega
 refine qe (zA (zD ?_))
 refine zX ?_
 refine yK (fun (k : Nat) (en : Nat → Value) (W : World) => ∃ (env1 : Nat → Value) (a : Int) (zp : Int) (GL1 : Pin), en = (upd (upd (upd env1 0 (.int .i64 a)) 1 (.int .i64 zp)) 4 (.pointer (some ⟨b1, 0, none⟩))) ∧ k = zp.toNat ∧ Ext noS G w GL1 W ∧ Pin.le G GL1 ∧ (lowD p t = lowD zp.toNat a) ∧ (0 ≤ zp ∧ zp ≤ 64) ∧ (-1000000000000000 ≤ a ∧ a ≤ 1000000000000000) ∧ (Bx GL1 W b1 [(.int .i64 0), (.int .i64 0)])) _ ⟨_, t, (p : Int), G, (zE (x := 4) (zE (x := 1) (zV (x := 0) rfl) rfl) rfl), rfl, hX7, Pin.le_refl _, (by rw [Int.toNat_natCast]), (by omega), hb, hb4⟩ ?_
 rintro k9 _ w10 ⟨env1, a, zp, GL1, rfl, hk11, hX12, hlek9, hr, hz, hab, hw13⟩
 refine zD (zD (zF ?_))
 refine qD rfl (zB (v := (.int .i64 zp)) rfl) ?_
 refine qD rfl (r_gtr rfl rfl) ?_
 refine qD rfl (zB (v := (.bool (decide ((0 : Int) < zp)))) rfl) ?_
 refine qbd (p := (0 : Int) < zp) (t := 7) rfl (fun h14 => ?_) (fun h14 => ?_)
 ·skip
  refine qdg rfl rfl rfl rfl rfl rfl (zB (v := (.int .i64 a)) rfl) ?_
  refine qdg rfl rfl rfl rfl rfl rfl (r_rem2 rfl rfl) ?_
  refine qdg rfl rfl rfl rfl rfl rfl (qJ rfl rfl) ?_
  refine qD rfl (xC (v := (.bool (decide ((a.tmod 2 : Int) = 0)))) rfl rfl) ?_
  refine qe (zA ?_)
  refine yA (p := (a.tmod 2 : Int) = 0) rfl rfl (fun h15 => ?_) (fun h15 => ?_)
  ·skip
   refine wp_skip ?_
   refine zA ?_
   refine zX ?_
   refine zD (zF ?_)
   refine qD rfl (zB (v := (.int .i64 a)) rfl) ?_
   refine qD rfl (r_quo2 rfl rfl ((tmod2 _).1 h15) (by omega)) ?_
   refine qD rfl (zC (v := (.int .i64 (a / 2))) rfl) ?_
   refine qe (zA (zF ?_))
   refine qD rfl (zB (v := (.int .i64 zp)) rfl) ?_
   refine qD rfl (qH rfl rfl (by omega)) ?_
   refine qD rfl (zC (v := (.int .i64 (zp - 1))) rfl) ?_
   refine qe ?_
   refine yF ?_
   refine yE ?_
   refine ⟨_, ?_, _, rfl, _, a / 2, zp - 1, GL1, (zE (x := 4) (zE (x := 1) (zV (x := 0) rfl) rfl) rfl), rfl, hX12, hlek9, (hr.trans (low_even (by omega) h15)), (by omega), (by omega), hw13⟩
   omega
  refine wp_exit ?_
  refine zZ ?_
  refine yG ?_
  refine yC ?_
  refine zA (zD (zF ?_))
  refine qD rfl (zB (v := (.int .i64 a)) rfl) ?_
  refine qD rfl (zB (v := (.int .i64 zp)) rfl) ?_
  refine qD rfl (xR [(.int .i64 0), (.int .i64 0)] [(.int .i64 a), (.int .i64 zp)] [(0, (.int .i64 a), [(.int .i64 a)]), (1, (.int .i64 zp), [(.int .i64 zp)])] Tryz.underlying34 zr34 rfl pl34 rfl (List.forall_mem_cons.2 ⟨rfl, (List.forall_mem_cons.2 ⟨rfl, (fun _ h => by cases h)⟩)⟩) rfl) ?_
  refine q0 rfl rfl rfl (xF (cs' := [(.int .i64 a), (.int .i64 zp)]) (us := [(.int .i64 a), (.int .i64 zp)]) (v := (.agg [(.int .i64 a), (.int .i64 zp)].toArray)) sz34 rfl rfl rfl (xY (by rfl) (by rfl)) hX12.pins hw13 (Nat.le_of_ble_eq_true rfl) rfl (fun w16 hb17 hp18 hg19 hz20 => ?_))
  have hX21 := hX12.write hp18 hg19 ((yM hlo8))
  refine qe (zA ?_)
  refine wp_ret ?_
  refine zR ?_
  refine c_retc (cs := [(.int .i64 a), (.int .i64 zp)]) rfl rfl rfl ag34 sz34 (fun j u hj => by rw [Nat.zero_add]; exact hb17.cell hj) ?_
  have hst := hr.trans (low_stop hz.1 (by first | exact Or.inl h15 | exact Or.inr h15))
  have hz3 : ((zp.toNat : Nat) : Int) = zp := Int.toNat_of_nonneg hz.1
  exact ⟨_, by rw [hst]; simp only [hz3], hX21⟩
 refine qs rfl rfl rfl rfl rfl rfl ?_
 refine qs rfl rfl rfl rfl rfl rfl ?_
 refine qs rfl rfl rfl rfl rfl rfl ?_
 refine qD rfl (yT (v := (.bool false)) rfl rfl) ?_
 refine qe (zA ?_)
 refine qP rfl rfl ?_
 refine wp_exit ?_
 refine zZ ?_
 refine yG ?_
 refine yC ?_
 refine zA (zD (zF ?_))
 refine qD rfl (zB (v := (.int .i64 a)) rfl) ?_
 refine qD rfl (zB (v := (.int .i64 zp)) rfl) ?_
 refine qD rfl (xR [(.int .i64 0), (.int .i64 0)] [(.int .i64 a), (.int .i64 zp)] [(0, (.int .i64 a), [(.int .i64 a)]), (1, (.int .i64 zp), [(.int .i64 zp)])] Tryz.underlying34 zr34 rfl pl34 rfl (List.forall_mem_cons.2 ⟨rfl, (List.forall_mem_cons.2 ⟨rfl, (fun _ h => by cases h)⟩)⟩) rfl) ?_
 refine q0 rfl rfl rfl (xF (cs' := [(.int .i64 a), (.int .i64 zp)]) (us := [(.int .i64 a), (.int .i64 zp)]) (v := (.agg [(.int .i64 a), (.int .i64 zp)].toArray)) sz34 rfl rfl rfl (xY (by rfl) (by rfl)) hX12.pins hw13 (Nat.le_of_ble_eq_true rfl) rfl (fun w22 hb23 hp24 hg25 hz26 => ?_))
 have hX27 := hX12.write hp24 hg25 ((yM hlo8))
 refine qe (zA ?_)
 refine wp_ret ?_
 refine zR ?_
 refine c_retc (cs := [(.int .i64 a), (.int .i64 zp)]) rfl rfl rfl ag34 sz34 (fun j u hj => by rw [Nat.zero_add]; exact hb23.cell hj) ?_
 have hst := hr.trans (low_stop hz.1 (by first | exact Or.inl h14 | exact Or.inr h14))
 have hz3 : ((zp.toNat : Nat) : Int) = zp := Int.toNat_of_nonneg hz.1
 exact ⟨_, by rw [hst]; simp only [hz3], hX27⟩

end NU3
end Go.Proofs.YtfnginkcmcfdfaaGreatDoor

set_option maxRecDepth 20000
set_option maxHeartbeats 2000000
namespace Go.Proofs.YtfnginkcmcfdfaaGreatDoor
namespace NB4
open Go.RowKit Go.GL Go.Proofs
open Go.Proofs.YtfnginkcmcfdfaaGreatDoor.B1
open Go.Proofs.YtfnginkcmcfdfaaGreatDoor.C1
open Go.Proofs.YtfnginkcmcfdfaaGreatDoor.D1
open Go.Proofs.YtfnginkcmcfdfaaGreatDoor.E1
open Go.Proofs.YtfnginkcmcfdfaaGreatDoor.NU1
open Go.Proofs.YtfnginkcmcfdfaaGreatDoor.NU3







theorem pl34 : (Tryz.prog.underlying 34).bind (placesD Tryz.prog) = some [(0, 1), (1, 1)] := by kernel_rfl



theorem l2Scaled_spec {w : World} {G : Pin} {t z : Int} (hP : Pins G w) (ht : -10000000 ≤ t ∧ t ≤ 10000000) (hz : 0 ≤ z ∧ z ≤ 24) :
  Calls Tryz.prog 128 [(.agg [(.int .i64 t), (.int .i64 z)].toArray)].toArray w fun e w' => ∃ G', e = .returned (.int .i64 (scI 24 t z)) ∧ Ext noS G w G' w' := by
 refine zW (n := 10) Tryz.func128 Tryz.ntmps128 rfl rfl ?_
 have hX0 : Ext noS G w G w := Ext.refl hP
 have hsl := shl_lim (t := t) (k := (24 - z).toNat) ht (by omega)
 refine zD (zF ?_)
 refine qI rfl (xH [(.int .i64 t), (.int .i64 z)] (v := (.agg [(.int .i64 t), (.int .i64 z)].toArray)) rfl rfl hX0.pins (fun b1 w2 hk3 hb4 hp5 hl6 => ?_))
 have hX7 := hX0.step hp5 hl6
 have hlo8 : w.heap.size ≤ b1 := by have := hX0.size; omega
 obtain ⟨G9, hle10, hX11, hbp12, hf13⟩ := hb4.shut hX7 hlo8
 refine qD rfl (zC (v := (.int .i64 0)) rfl) ?_
 refine qe (zA (zD (zF ?_)))
 refine qD rfl (zJ (k := 0) rfl Tryz.underlying34 rfl nz3 rfl) ?_
 refine qD rfl (zL (u := (.int .i64 t)) ag3 rfl (hX11.pins _ _ _ (hbp12 0 _ rfl))) ?_
 refine qD rfl (zJ (k := 1) rfl Tryz.underlying34 rfl nz3 rfl) ?_
 refine qD rfl (zL (u := (.int .i64 z)) ag3 rfl (hX11.pins _ _ _ (hbp12 1 _ rfl))) ?_
 refine qD rfl (qH rfl rfl (by omega)) ?_
 refine qD rfl (r_conv (j := 24 - z) Tryz.underlying3 Tryz.underlying155 rfl (wrapU (by omega))) ?_
 refine qD rfl (r_shlI rfl rfl (by omega) (by omega)) ?_
 refine qD rfl (zC (v := (.int .i64 (t * 2 ^ (24 - z : Int).toNat))) rfl) ?_
 refine qe (zA ?_)
 refine wp_ret ?_
 refine zR ?_
 refine zO (v := (.int .i64 (t * 2 ^ (24 - z : Int).toNat))) rfl rfl rfl ?_
 exact ⟨_, rfl, hX11⟩

theorem l2Neg_spec {w : World} {G : Pin} {t z : Int} (hP : Pins G w) (ht : -1000000000000 ≤ t ∧ t ≤ 1000000000000) :
  Calls Tryz.prog 147 [(.agg [(.int .i64 t), (.int .i64 z)].toArray)].toArray w fun e w' => ∃ G', e = .returned (.agg [.int .i64 (-t), .int .i64 z].toArray) ∧ Ext noS G w G' w' := by
 refine zW (n := 9) Tryz.func147 Tryz.ntmps147 rfl rfl ?_
 have hX0 : Ext noS G w G w := Ext.refl hP
 refine zD (zF ?_)
 refine qI rfl (xH [(.int .i64 t), (.int .i64 z)] (v := (.agg [(.int .i64 t), (.int .i64 z)].toArray)) rfl rfl hX0.pins (fun b1 w2 hk3 hb4 hp5 hl6 => ?_))
 have hX7 := hX0.step hp5 hl6
 have hlo8 : w.heap.size ≤ b1 := by have := hX0.size; omega
 obtain ⟨G9, hle10, hX11, hbp12, hf13⟩ := hb4.shut hX7 hlo8
 refine qI rfl (yW [(.int .i64 0), (.int .i64 0)] zr34 rfl hX11.pins (fun b14 w15 hk16 hb17 hp18 hl19 => ?_))
 have hX20 := hX11.step hp18 hl19
 have hlo21 : w.heap.size ≤ b14 := by have := hX11.size; omega
 refine qe (zA (zD (zF ?_)))
 refine qD rfl (zJ (k := 0) rfl Tryz.underlying34 rfl nz3 rfl) ?_
 refine qD rfl (zL (u := (.int .i64 t)) ag3 rfl (hX20.pins _ _ _ (hbp12 0 _ rfl))) ?_
 refine qD rfl (r_neg rfl (by omega)) ?_
 refine qD rfl (zJ (k := 1) rfl Tryz.underlying34 rfl nz3 rfl) ?_
 refine qD rfl (zL (u := (.int .i64 z)) ag3 rfl (hX20.pins _ _ _ (hbp12 1 _ rfl))) ?_
 refine qD rfl (xR [(.int .i64 0), (.int .i64 0)] [(.int .i64 (-t)), (.int .i64 z)] [(0, (.int .i64 (-t)), [(.int .i64 (-t))]), (1, (.int .i64 z), [(.int .i64 z)])] Tryz.underlying34 zr34 rfl pl34 rfl (List.forall_mem_cons.2 ⟨rfl, (List.forall_mem_cons.2 ⟨rfl, (fun _ h => by cases h)⟩)⟩) rfl) ?_
 refine q0 rfl rfl rfl (xF (cs' := [(.int .i64 (-t)), (.int .i64 z)]) (us := [(.int .i64 (-t)), (.int .i64 z)]) (v := (.agg [(.int .i64 (-t)), (.int .i64 z)].toArray)) sz34 rfl rfl rfl (xY (by rfl) (by rfl)) hX20.pins hb17 (Nat.le_of_ble_eq_true rfl) rfl (fun w22 hb23 hp24 hg25 hz26 => ?_))
 have hX27 := hX20.write hp24 hg25 ((yM hlo21))
 refine qe (zA ?_)
 refine wp_ret ?_
 refine zR ?_
 refine c_retc (cs := [(.int .i64 (-t)), (.int .i64 z)]) rfl rfl rfl ag34 sz34 (fun j u hj => by rw [Nat.zero_add]; exact hb23.cell hj) ?_
 exact ⟨_, rfl, hX27⟩

theorem l2Add_spec {w : World} {G : Pin} {t z s y : Int} (hP : Pins G w) (ht : -10000000 ≤ t ∧ t ≤ 10000000) (hz : 0 ≤ z ∧ z ≤ 24) (hs : -10000000 ≤ s ∧ s ≤ 10000000) (hy : 0 ≤ y ∧ y ≤ 24) :
  Calls Tryz.prog 146 [(.agg [(.int .i64 t), (.int .i64 z)].toArray), (.agg [(.int .i64 s), (.int .i64 y)].toArray)].toArray w fun e w' => ∃ G', e = .returned (.agg [.int .i64 (lowD 24 (scI 24 t z + scI 24 s y)).1, .int .i64 (((lowD 24 (scI 24 t z + scI 24 s y)).2 : Nat) : Int)].toArray) ∧ Ext noS G w G' w' := by
 refine zW (n := 11) Tryz.func146 Tryz.ntmps146 rfl rfl ?_
 have hX0 : Ext noS G w G w := Ext.refl hP
 have hl1 := scI_lim (D := 24) (t := t) (z := z) ht (by omega)
 have hl2 := scI_lim (D := 24) (t := s) (z := y) hs (by omega)
 refine zD (zF ?_)
 refine qI rfl (xH [(.int .i64 t), (.int .i64 z)] (v := (.agg [(.int .i64 t), (.int .i64 z)].toArray)) rfl rfl hX0.pins (fun b1 w2 hk3 hb4 hp5 hl6 => ?_))
 have hX7 := hX0.step hp5 hl6
 have hlo8 : w.heap.size ≤ b1 := by have := hX0.size; omega
 obtain ⟨G9, hle10, hX11, hbp12, hf13⟩ := hb4.shut hX7 hlo8
 refine qI rfl (xH [(.int .i64 s), (.int .i64 y)] (v := (.agg [(.int .i64 s), (.int .i64 y)].toArray)) rfl rfl hX11.pins (fun b14 w15 hk16 hb17 hp18 hl19 => ?_))
 have hX20 := hX11.step hp18 hl19
 have hlo21 : w.heap.size ≤ b14 := by have := hX11.size; omega
 obtain ⟨G22, hle23, hX24, hbp25, hf26⟩ := hb17.shut hX20 hlo21
 refine qI rfl (yW [(.int .i64 0), (.int .i64 0)] zr34 rfl hX24.pins (fun b27 w28 hk29 hb30 hp31 hl32 => ?_))
 have hX33 := hX24.step hp31 hl32
 have hlo34 : w.heap.size ≤ b27 := by have := hX24.size; omega
 refine qe (zA (zD ?_))
 refine yX (S := fun wz => Pins G22 wz) (last := 6) (by kernel_rfl) rfl ?_
 have hl35 : Below w28.heap.size w28 w28.drew := (Below.refl _ _).drew
 have hp36 := hX33.pins.below hl35
 have hX37 := hX33.step hp36 hl35
 have hb38 := hb30.below hl35
 refine dT (i := 0) rfl rfl (by kernel_rfl) (fun _ hS => yH (cs := [(.int .i64 t), (.int .i64 z)]) ag34 sz34 rfl (fun j u hj => (Pins.of_le hS hle23) _ _ _ (hbp12 _ _ (by simpa using hj)))) hX37.pins ?_
 refine dT (i := 2) rfl rfl (by kernel_rfl) (fun _ hS => yH (cs := [(.int .i64 s), (.int .i64 y)]) ag34 sz34 rfl (fun j u hj => hS _ _ _ (hbp25 _ _ (by simpa using hj)))) hX37.pins ?_
 refine zQ (i := 1) (by kernel_rfl) (zU (i := 1) rfl rfl rfl (zG rfl _) (zN (vs := [(.agg [(.int .i64 t), (.int .i64 z)].toArray)]) Tryz.func128 nm128 rfl rfl rfl ?_))
 refine Calls.mono (l2Scaled_spec (t := t) (z := z) hX37.pins (by omega) (by omega)) ?_
 rintro _ w40 ⟨G39, rfl, hx41⟩
 refine ⟨_, rfl, ?_⟩
 have hX42 := hX37.tr hx41
 have hb43 := hb38.ext hx41
 refine ⟨fun _ => (Pins.of_le hX42.pins hx41.le), ?_⟩
 refine zQ (i := 3) (by kernel_rfl) (zU (i := 3) rfl rfl rfl (zG rfl _) (zN (vs := [(.agg [(.int .i64 s), (.int .i64 y)].toArray)]) Tryz.func128 nm128 rfl rfl rfl ?_))
 refine Calls.mono (l2Scaled_spec (t := s) (z := y) hX42.pins (by omega) (by omega)) ?_
 rintro _ w45 ⟨G44, rfl, hx46⟩
 refine ⟨_, rfl, ?_⟩
 have hX47 := hX42.tr hx46
 have hb48 := hb43.ext hx46
 refine ⟨fun _ => (Pins.of_le hX47.pins (Pin.le_trans hx41.le hx46.le)), ?_⟩
 refine dT (i := 4) rfl rfl (by kernel_rfl) (fun _ _ => yL rfl rfl (by omega)) (Pins.of_le hX47.pins (Pin.le_trans hx41.le hx46.le)) ?_
 refine zQ (i := 5) (by kernel_rfl) (zU (i := 5) rfl rfl rfl (zG rfl _) (zN (vs := [(.int .i64 ((scI 24 t z) + (scI 24 s y))), (.int .i64 24)]) Tryz.func167 nm167 rfl rfl rfl ?_))
 refine Calls.mono (l2Make_spec (p := 24) hX47.pins (by omega) (by omega)) ?_
 rintro _ w50 ⟨G49, rfl, hx51⟩
 refine ⟨_, rfl, ?_⟩
 have hX52 := hX47.tr hx51
 have hb53 := hb48.ext hx51
 refine ⟨fun _ => (Pins.of_le hX52.pins (Pin.le_trans (Pin.le_trans hx41.le hx46.le) hx51.le)), ?_⟩
 refine zQ (i := 6) (by kernel_rfl) (drOp0 (i := 6) rfl rfl rfl (zG rfl _) (xF (cs' := [(.int .i64 ((lowD 24 ((scI 24 t z) + (scI 24 s y))).1)), (.int .i64 (((lowD 24 ((scI 24 t z) + (scI 24 s y))).2 : Nat) : Int))]) (us := [(.int .i64 ((lowD 24 ((scI 24 t z) + (scI 24 s y))).1)), (.int .i64 (((lowD 24 ((scI 24 t z) + (scI 24 s y))).2 : Nat) : Int))]) (v := (.agg [(.int .i64 ((lowD 24 ((scI 24 t z) + (scI 24 s y))).1)), (.int .i64 (((lowD 24 ((scI 24 t z) + (scI 24 s y))).2 : Nat) : Int))].toArray)) sz34 rfl rfl rfl (xY (by rfl) (by rfl)) hX52.pins hb53 (Nat.le_of_ble_eq_true rfl) rfl (fun w54 hb55 hp56 hg57 hz58 => ?_)))
 have hX59 := hX52.write hp56 hg57 ((yM hlo34))
 refine ⟨fun h => absurd rfl h, ?_⟩
 refine yJ (by kernel_rfl) ?_
 refine zA ?_
 refine wp_ret ?_
 refine zR ?_
 refine c_retc (cs := [(.int .i64 ((lowD 24 ((scI 24 t z) + (scI 24 s y))).1)), (.int .i64 (((lowD 24 ((scI 24 t z) + (scI 24 s y))).2 : Nat) : Int))]) rfl rfl rfl ag34 sz34 (fun j u hj => by rw [Nat.zero_add]; exact hb55.cell hj) ?_
 exact ⟨_, rfl, hX59⟩

theorem l2AddS_spec {w : World} {G : Pin} {t u s : Int} {p : Nat} (hP : Pins G w) (hs : t + u = s) (ht : -10000000 ≤ t ∧ t ≤ 10000000) (hu : -10000000 ≤ u ∧ u ≤ 10000000) (hp : p ≤ 24) :
  Calls Tryz.prog 146 [(.agg [.int .i64 t, .int .i64 (p : Int)].toArray), (.agg [.int .i64 u, .int .i64 (p : Int)].toArray)].toArray w fun e w' => ∃ G', e = .returned (.agg [.int .i64 (lowD p s).1, .int .i64 (((lowD p s).2 : Nat) : Int)].toArray) ∧ Ext noS G w G' w' := by
 refine (l2Add_spec (t := t) (s := u) (z := (p : Int)) (y := (p : Int)) hP ht (by omega) hu (by omega)).mono ?_
 rintro e w' ⟨G', rfl, hx⟩
 exact ⟨G', by rw [low_add24 hp, hs], hx⟩

theorem l2Floor_spec {w : World} {G : Pin} {t z : Int} (hP : Pins G w) (ht : -10000000 ≤ t ∧ t ≤ 10000000) (hz : 0 ≤ z ∧ z ≤ 24) :
  Calls Tryz.prog 145 [(.agg [(.int .i64 t), (.int .i64 z)].toArray)].toArray w fun e w' => ∃ G', e = .returned (.int .i64 (Int.fdiv (scI 24 t z) (2 ^ (min (24 : Int).toNat 64)))) ∧ Ext noS G w G' w' := by
 refine zW (n := 6) Tryz.func145 Tryz.ntmps145 rfl rfl ?_
 have hX0 : Ext noS G w G w := Ext.refl hP
 refine zD (zF ?_)
 refine qI rfl (xH [(.int .i64 t), (.int .i64 z)] (v := (.agg [(.int .i64 t), (.int .i64 z)].toArray)) rfl rfl hX0.pins (fun b1 w2 hk3 hb4 hp5 hl6 => ?_))
 have hX7 := hX0.step hp5 hl6
 have hlo8 : w.heap.size ≤ b1 := by have := hX0.size; omega
 obtain ⟨G9, hle10, hX11, hbp12, hf13⟩ := hb4.shut hX7 hlo8
 refine qD rfl (zC (v := (.int .i64 0)) rfl) ?_
 refine qe (zA (zD (zF ?_)))
 refine qD rfl (yH (cs := [(.int .i64 t), (.int .i64 z)]) ag34 sz34 rfl (fun j u hj => hX11.pins _ _ _ (hbp12 _ _ (by simpa using hj)))) ?_
 refine qI rfl (zN (vs := [(.agg [(.int .i64 t), (.int .i64 z)].toArray)]) Tryz.func128 nm128 rfl rfl rfl ?_)
 refine Calls.mono (l2Scaled_spec (t := t) (z := z) hX11.pins (by omega) (by omega)) ?_
 rintro _ w15 ⟨G14, rfl, hx16⟩
 refine ⟨_, rfl, ?_⟩
 have hX17 := hX11.tr hx16
 refine qD rfl (r_shrI rfl rfl (by omega)) ?_
 refine qD rfl (zC (v := (.int .i64 (Int.fdiv (scI 24 t z) (2 ^ (min (24 : Int).toNat 64))))) rfl) ?_
 refine qe (zA ?_)
 refine wp_ret ?_
 refine zR ?_
 refine zO (v := (.int .i64 (Int.fdiv (scI 24 t z) (2 ^ (min (24 : Int).toNat 64))))) rfl rfl rfl ?_
 exact ⟨_, rfl, hX17⟩

theorem l2FloorP_spec {w : World} {G : Pin} {t : Int} {p : Nat} (hP : Pins G w) (ht : 0 ≤ t ∧ t ≤ 10000000) (hp : p ≤ 24) :
  Calls Tryz.prog 145 [(.agg [.int .i64 t, .int .i64 (p : Int)].toArray)].toArray w fun e w' => ∃ G', e = .returned (.int .i64 ((t.natAbs / 2 ^ p : Nat) : Int)) ∧ Ext noS G w G' w' := by
 refine (l2Floor_spec (t := t) (z := (p : Int)) hP (by omega) (by omega)).mono ?_
 rintro e w' ⟨G', rfl, hx⟩
 exact ⟨G', by rw [floor_nat ht.1 hp], hx⟩

theorem l2Born_spec {w : World} {G : Pin} {t : Int} {dp : Nat} (hP : Pins G w) (ht : -10000000 ≤ t ∧ t ≤ 10000000) (hd : dp ≤ 16) :
  Calls Tryz.prog 106 [(.agg [(.int .i64 t), (.int .i64 (dp : Int))].toArray)].toArray w fun e w' => ∃ G', e = .returned (.int .i64 ((bornD dp t : Nat) : Int)) ∧ Ext noS G w G' w' := by
 refine zW (n := 21) Tryz.func106 Tryz.ntmps106 rfl rfl ?_
 have hX0 : Ext noS G w G w := Ext.refl hP
 refine zD (zF ?_)
 refine qI rfl (xH [(.int .i64 t), (.int .i64 (dp : Int))] (v := (.agg [(.int .i64 t), (.int .i64 (dp : Int))].toArray)) rfl rfl hX0.pins (fun b1 w2 hk3 hb4 hp5 hl6 => ?_))
 have hX7 := hX0.step hp5 hl6
 have hlo8 : w.heap.size ≤ b1 := by have := hX0.size; omega
 refine qD rfl (zC (v := (.int .i64 0)) rfl) ?_
 refine qe (zA (zD (zD (zF ?_))))
 refine qD rfl (zJ (k := 0) rfl Tryz.underlying34 rfl nz3 rfl) ?_
 refine qD rfl (zL (u := (.int .i64 t)) ag3 rfl (hb4.cell (o := 0) rfl)) ?_
 refine qD rfl (yN rfl rfl) ?_
 refine qe (zA ?_)
 refine yA (p := (t : Int) < 0) rfl rfl (fun h9 => ?_) (fun h9 => ?_)
 ·skip
  refine zF ?_
  refine qD rfl (zJ (k := 0) rfl Tryz.underlying34 rfl nz3 rfl) ?_
  refine qD rfl (zL (u := (.int .i64 t)) ag3 rfl (hb4.cell (o := 0) rfl)) ?_
  refine qD rfl (r_neg rfl (by omega)) ?_
  refine qD rfl (zJ (k := 0) rfl Tryz.underlying34 rfl nz3 rfl) ?_
  refine q0 rfl rfl rfl (xF (cs' := [(.int .i64 (-t)), (.int .i64 (dp : Int))]) (us := [(.int .i64 (-t))]) (v := (.int .i64 (-t))) sz3 rfl rfl rfl (xA (by rfl)) hX7.pins hb4 (Nat.le_of_ble_eq_true rfl) rfl (fun w10 hb11 hp12 hg13 hz14 => ?_))
  have hX15 := hX7.write hp12 hg13 ((yM hlo8))
  refine qe (zA (zD (zD (zF ?_))))
  refine qD rfl (zJ (k := 1) rfl Tryz.underlying34 rfl nz3 rfl) ?_
  refine qD rfl (zL (u := (.int .i64 (dp : Int))) ag3 rfl (hb11.cell (o := 1) rfl)) ?_
  refine qD rfl (qJ rfl rfl) ?_
  refine qe (zA ?_)
  refine yA (p := ((dp : Int) : Int) = 0) rfl rfl (fun h16 => ?_) (fun h16 => ?_)
  ·skip
   refine zD (zF ?_)
   refine qD rfl (zJ (k := 0) rfl Tryz.underlying34 rfl nz3 rfl) ?_
   refine qD rfl (zL (u := (.int .i64 (-t))) ag3 rfl (hb11.cell (o := 0) rfl)) ?_
   refine qD rfl (zC (v := (.int .i64 (-t))) rfl) ?_
   refine qe (zA ?_)
   refine wp_ret ?_
   refine zR ?_
   refine zO (v := (.int .i64 (-t))) rfl rfl rfl ?_
   exact ⟨_, congrArg (fun z => Ending.returned (Value.int .i64 z)) (by first | (rw [show dp = 0 by omega]; show _ = ((t.natAbs : Nat) : Int); omega) | (rw [show bornD dp t = t.natAbs / 2 ^ dp + dp + 1 from if_neg (by omega)]; (try rw [Int.natAbs_neg]); omega)), hX15⟩
  refine wp_skip ?_
  refine zA (zD ?_)
  refine yX (S := fun wz => BxR wz b1 [(.int .i64 (-t)), (.int .i64 (dp : Int))]) (last := 7) (by kernel_rfl) rfl ?_
  have hl17 : Below w10.heap.size w10 w10.drew := (Below.refl _ _).drew
  have hp18 := hX15.pins.below hl17
  have hX19 := hX15.step hp18 hl17
  have hb20 := hb11.below hl17
  refine dT (i := 0) rfl rfl (by kernel_rfl) (fun _ hS => yH (cs := [(.int .i64 (-t)), (.int .i64 (dp : Int))]) ag34 sz34 rfl (fun j u hj => hS _ _ (by simpa using hj))) hb20.reads ?_
  refine dT (i := 2) rfl rfl (by kernel_rfl) (fun _ _ => zJ (k := 1) rfl Tryz.underlying34 rfl nz3 rfl) hb20.reads ?_
  refine dT (i := 3) rfl rfl (by kernel_rfl) (fun _ hS => zL (u := (.int .i64 (dp : Int))) ag3 rfl (hS 1 _ rfl)) hb20.reads ?_
  have hfn24 : 0 ≤ (((-t).natAbs / 2 ^ dp : Nat) : Int) := Int.natCast_nonneg _
  have hfb25 := Nat.div_le_self (-t).natAbs (2 ^ dp)
  refine zQ (i := 1) (by kernel_rfl) (zU (i := 1) rfl rfl rfl (zG rfl _) (zN (vs := [(.agg [(.int .i64 (-t)), (.int .i64 (dp : Int))].toArray)]) Tryz.func145 nm145 rfl rfl rfl ?_))
  refine Calls.mono (l2FloorP_spec (t := -t) (p := dp) hX19.pins (by omega) (by omega)) ?_
  rintro _ w22 ⟨G21, rfl, hx23⟩
  refine ⟨_, rfl, ?_⟩
  have hX26 := hX19.tr hx23
  have hb27 := hb20.ext hx23
  refine ⟨fun _ => hb27.reads, ?_⟩
  refine dT (i := 4) rfl rfl (by kernel_rfl) (fun _ _ => yL rfl rfl (by omega)) hb27.reads ?_
  refine dT (i := 5) rfl rfl (by kernel_rfl) (fun _ _ => yL rfl rfl (by omega)) hb27.reads ?_
  refine dT (i := 6) rfl rfl (by kernel_rfl) (fun _ _ => zC (v := (.int .i64 (((((-t).natAbs / 2 ^ dp : Nat) : Int) + (dp : Int)) + 1))) rfl) hb27.reads ?_
  refine yJ (by kernel_rfl) ?_
  refine zA ?_
  refine wp_ret ?_
  refine zR ?_
  refine zO (v := (.int .i64 (((((-t).natAbs / 2 ^ dp : Nat) : Int) + (dp : Int)) + 1))) rfl rfl rfl ?_
  exact ⟨_, congrArg (fun z => Ending.returned (Value.int .i64 z)) (by first | (rw [show dp = 0 by omega]; show _ = ((t.natAbs : Nat) : Int); omega) | (rw [show bornD dp t = t.natAbs / 2 ^ dp + dp + 1 from if_neg (by omega)]; (try rw [Int.natAbs_neg]); omega)), hX26⟩
 refine wp_skip ?_
 refine zA (zD (zD (zF ?_)))
 refine qD rfl (zJ (k := 1) rfl Tryz.underlying34 rfl nz3 rfl) ?_
 refine qD rfl (zL (u := (.int .i64 (dp : Int))) ag3 rfl (hb4.cell (o := 1) rfl)) ?_
 refine qD rfl (qJ rfl rfl) ?_
 refine qe (zA ?_)
 refine yA (p := ((dp : Int) : Int) = 0) rfl rfl (fun h28 => ?_) (fun h28 => ?_)
 ·skip
  refine zD (zF ?_)
  refine qD rfl (zJ (k := 0) rfl Tryz.underlying34 rfl nz3 rfl) ?_
  refine qD rfl (zL (u := (.int .i64 t)) ag3 rfl (hb4.cell (o := 0) rfl)) ?_
  refine qD rfl (zC (v := (.int .i64 t)) rfl) ?_
  refine qe (zA ?_)
  refine wp_ret ?_
  refine zR ?_
  refine zO (v := (.int .i64 t)) rfl rfl rfl ?_
  exact ⟨_, congrArg (fun z => Ending.returned (Value.int .i64 z)) (by first | (rw [show dp = 0 by omega]; show _ = ((t.natAbs : Nat) : Int); omega) | (rw [show bornD dp t = t.natAbs / 2 ^ dp + dp + 1 from if_neg (by omega)]; (try rw [Int.natAbs_neg]); omega)), hX7⟩
 refine wp_skip ?_
 refine zA (zD ?_)
 refine yX (S := fun wz => BxR wz b1 [(.int .i64 t), (.int .i64 (dp : Int))]) (last := 7) (by kernel_rfl) rfl ?_
 have hl29 : Below w2.heap.size w2 w2.drew := (Below.refl _ _).drew
 have hp30 := hX7.pins.below hl29
 have hX31 := hX7.step hp30 hl29
 have hb32 := hb4.below hl29
 refine dT (i := 0) rfl rfl (by kernel_rfl) (fun _ hS => yH (cs := [(.int .i64 t), (.int .i64 (dp : Int))]) ag34 sz34 rfl (fun j u hj => hS _ _ (by simpa using hj))) hb32.reads ?_
 refine dT (i := 2) rfl rfl (by kernel_rfl) (fun _ _ => zJ (k := 1) rfl Tryz.underlying34 rfl nz3 rfl) hb32.reads ?_
 refine dT (i := 3) rfl rfl (by kernel_rfl) (fun _ hS => zL (u := (.int .i64 (dp : Int))) ag3 rfl (hS 1 _ rfl)) hb32.reads ?_
 have hfn36 : 0 ≤ ((t.natAbs / 2 ^ dp : Nat) : Int) := Int.natCast_nonneg _
 have hfb37 := Nat.div_le_self t.natAbs (2 ^ dp)
 refine zQ (i := 1) (by kernel_rfl) (zU (i := 1) rfl rfl rfl (zG rfl _) (zN (vs := [(.agg [(.int .i64 t), (.int .i64 (dp : Int))].toArray)]) Tryz.func145 nm145 rfl rfl rfl ?_))
 refine Calls.mono (l2FloorP_spec (t := t) (p := dp) hX31.pins (by omega) (by omega)) ?_
 rintro _ w34 ⟨G33, rfl, hx35⟩
 refine ⟨_, rfl, ?_⟩
 have hX38 := hX31.tr hx35
 have hb39 := hb32.ext hx35
 refine ⟨fun _ => hb39.reads, ?_⟩
 refine dT (i := 4) rfl rfl (by kernel_rfl) (fun _ _ => yL rfl rfl (by omega)) hb39.reads ?_
 refine dT (i := 5) rfl rfl (by kernel_rfl) (fun _ _ => yL rfl rfl (by omega)) hb39.reads ?_
 refine dT (i := 6) rfl rfl (by kernel_rfl) (fun _ _ => zC (v := (.int .i64 ((((t.natAbs / 2 ^ dp : Nat) : Int) + (dp : Int)) + 1))) rfl) hb39.reads ?_
 refine yJ (by kernel_rfl) ?_
 refine zA ?_
 refine wp_ret ?_
 refine zR ?_
 refine zO (v := (.int .i64 ((((t.natAbs / 2 ^ dp : Nat) : Int) + (dp : Int)) + 1))) rfl rfl rfl ?_
 exact ⟨_, congrArg (fun z => Ending.returned (Value.int .i64 z)) (by first | (rw [show dp = 0 by omega]; show _ = ((t.natAbs : Nat) : Int); omega) | (rw [show bornD dp t = t.natAbs / 2 ^ dp + dp + 1 from if_neg (by omega)]; (try rw [Int.natAbs_neg]); omega)), hX38⟩

theorem l2Good_spec {w : World} {G : Pin} {t z : Int} (hP : Pins G w) :
  Calls Tryz.prog 56 [(.agg [(.int .i64 t), (.int .i64 z)].toArray)].toArray w fun e w' => ∃ G', e = .returned (.bool (decP (GoodD t z))) ∧ Ext noS G w G' w' := by
 refine zW (n := 22) Tryz.func56 Tryz.ntmps56 rfl rfl ?_
 have hX0 : Ext noS G w G w := Ext.refl hP
 refine zD (zF ?_)
 refine qI rfl (xH [(.int .i64 t), (.int .i64 z)] (v := (.agg [(.int .i64 t), (.int .i64 z)].toArray)) rfl rfl hX0.pins (fun b1 w2 hk3 hb4 hp5 hl6 => ?_))
 have hX7 := hX0.step hp5 hl6
 have hlo8 : w.heap.size ≤ b1 := by have := hX0.size; omega
 obtain ⟨G9, hle10, hX11, hbp12, hf13⟩ := hb4.shut hX7 hlo8
 refine qD rfl (zC (v := (.bool false)) rfl) ?_
 refine qe (zA (zD (zF ?_)))
 refine qD rfl (zJ (k := 0) rfl Tryz.underlying34 rfl nz3 rfl) ?_
 refine qD rfl (zL (u := (.int .i64 t)) ag3 rfl (hX11.pins _ _ _ (hbp12 0 _ rfl))) ?_
 refine qI rfl (zN (vs := [(.int .i64 t), (.int .i64 (-1000000)), (.int .i64 1000000)]) Tryz.func74 nm74 rfl rfl rfl ?_)
 refine Calls.mono (l1In_spec hX11.pins) ?_
 rintro _ _ ⟨rfl, rfl⟩
 refine ⟨_, rfl, ?_⟩
 refine qD rfl (zB (v := (.bool (decide (((-1000000) : Int) ≤ t ∧ (t : Int) ≤ 1000000)))) rfl) ?_
 refine qbd (p := (((-1000000) : Int) ≤ t ∧ (t : Int) ≤ 1000000)) (t := 6) rfl (fun h14 => ?_) (fun h14 => ?_)
 ·skip
  refine qdg rfl rfl rfl rfl rfl rfl (zJ (k := 1) rfl Tryz.underlying34 rfl nz3 rfl) ?_
  refine qdg rfl rfl rfl rfl rfl rfl (zL (u := (.int .i64 z)) ag3 rfl (hX11.pins _ _ _ (hbp12 1 _ rfl))) ?_
  refine q1g rfl rfl rfl rfl rfl rfl (zN (vs := [(.int .i64 z), (.int .i64 0), (.int .i64 16)]) Tryz.func74 nm74 rfl rfl rfl ?_)
  refine Calls.mono (l1In_spec hX11.pins) ?_
  rintro _ _ ⟨rfl, rfl⟩
  refine ⟨_, rfl, ?_⟩
  refine qD rfl (xC (v := (.bool (decide ((0 : Int) ≤ z ∧ (z : Int) ≤ 16)))) rfl rfl) ?_
  refine qD rfl (zB (v := (.bool (decide ((0 : Int) ≤ z ∧ (z : Int) ≤ 16)))) rfl) ?_
  refine qbd (p := ((0 : Int) ≤ z ∧ (z : Int) ≤ 16)) (t := 11) rfl (fun h15 => ?_) (fun h15 => ?_)
  ·skip
   refine qdg rfl rfl rfl rfl rfl rfl (zJ (k := 1) rfl Tryz.underlying34 rfl nz3 rfl) ?_
   refine qdg rfl rfl rfl rfl rfl rfl (zL (u := (.int .i64 z)) ag3 rfl (hX11.pins _ _ _ (hbp12 1 _ rfl))) ?_
   refine qdg rfl rfl rfl rfl rfl rfl (qJ rfl rfl) ?_
   refine qdg rfl rfl rfl rfl rfl rfl (zB (v := (.bool (decide ((z : Int) = 0)))) rfl) ?_
   refine qbd (p := (z : Int) = 0) (t := 15) rfl (fun h16 => ?_) (fun h16 => ?_)
   ·skip
    refine qs rfl rfl rfl rfl rfl rfl ?_
    refine qs rfl rfl rfl rfl rfl rfl ?_
    refine qs rfl rfl rfl rfl rfl rfl ?_
    refine qs rfl rfl rfl rfl rfl rfl ?_
    refine qdg rfl rfl rfl rfl rfl rfl (xC (v := (.bool true)) rfl rfl) ?_
    refine qD rfl (xC (v := (.bool true)) rfl rfl) ?_
    refine qD rfl (zC (v := (.bool true)) rfl) ?_
    refine qe (zA ?_)
    refine wp_ret ?_
    refine zR ?_
    refine zO (v := (.bool true)) rfl rfl rfl ?_
    exact ⟨_, congrArg (fun z => Ending.returned (Value.bool z)) (decP_true.2 ⟨by omega, by omega, by omega⟩).symm, hX11⟩
   refine qdg rfl rfl rfl rfl rfl rfl (zJ (k := 0) rfl Tryz.underlying34 rfl nz3 rfl) ?_
   refine qdg rfl rfl rfl rfl rfl rfl (zL (u := (.int .i64 t)) ag3 rfl (hX11.pins _ _ _ (hbp12 0 _ rfl))) ?_
   refine qdg rfl rfl rfl rfl rfl rfl (r_rem2 rfl rfl) ?_
   refine qdg rfl rfl rfl rfl rfl rfl (r_neq rfl rfl) ?_
   refine qdg rfl rfl rfl rfl rfl rfl (yT (v := (.bool (decide ((t.tmod 2 : Int) ≠ 0)))) rfl rfl) ?_
   refine qD rfl (xC (v := (.bool (decide ((t.tmod 2 : Int) ≠ 0)))) rfl rfl) ?_
   refine qD rfl (zC (v := (.bool (decide ((t.tmod 2 : Int) ≠ 0)))) rfl) ?_
   refine qe (zA ?_)
   refine wp_ret ?_
   refine zR ?_
   refine zO (v := (.bool (decide ((t.tmod 2 : Int) ≠ 0)))) rfl rfl rfl ?_
   exact ⟨_, congrArg (fun z => Ending.returned (Value.bool z)) (decP_dec.symm.trans (decP_iff ⟨fun h => ⟨by omega, by omega, by omega⟩, fun g => by have h1 := g.top; have h2 := g.pow; have h3 := g.odd; omega⟩)), hX11⟩
  refine qs rfl rfl rfl rfl rfl rfl ?_
  refine qs rfl rfl rfl rfl rfl rfl ?_
  refine qs rfl rfl rfl rfl rfl rfl ?_
  refine qs rfl rfl rfl rfl rfl rfl ?_
  refine qsu rfl rfl rfl rfl rfl ?_
  refine qsu rfl rfl rfl rfl rfl ?_
  refine qsu rfl rfl rfl rfl rfl ?_
  refine qsu rfl rfl rfl rfl rfl ?_
  refine qs rfl rfl rfl rfl rfl rfl ?_
  refine qD rfl (yT (v := (.bool false)) rfl rfl) ?_
  refine qD rfl (zC (v := (.bool false)) rfl) ?_
  refine qe (zA ?_)
  refine wp_ret ?_
  refine zR ?_
  refine zO (v := (.bool false)) rfl rfl rfl ?_
  exact ⟨_, congrArg (fun z => Ending.returned (Value.bool z)) (decP_false.2 (fun g => by have h1 := g.top; have h2 := g.pow; have h3 := g.odd; omega)).symm, hX11⟩
 refine qs rfl rfl rfl rfl rfl rfl ?_
 refine qs rfl rfl rfl rfl rfl rfl ?_
 refine qs rfl rfl rfl rfl rfl rfl ?_
 refine qD rfl (yT (v := (.bool false)) rfl rfl) ?_
 refine qD rfl (zB (v := (.bool false)) rfl) ?_
 refine qs rfl rfl rfl rfl rfl rfl ?_
 refine qs rfl rfl rfl rfl rfl rfl ?_
 refine qs rfl rfl rfl rfl rfl rfl ?_
 refine qs rfl rfl rfl rfl rfl rfl ?_
 refine qsu rfl rfl rfl rfl rfl ?_
 refine qsu rfl rfl rfl rfl rfl ?_
 refine qsu rfl rfl rfl rfl rfl ?_
 refine qsu rfl rfl rfl rfl rfl ?_
 refine qs rfl rfl rfl rfl rfl rfl ?_
 refine qD rfl (yT (v := (.bool false)) rfl rfl) ?_
 refine qD rfl (zC (v := (.bool false)) rfl) ?_
 refine qe (zA ?_)
 refine wp_ret ?_
 refine zR ?_
 refine zO (v := (.bool false)) rfl rfl rfl ?_
 exact ⟨_, congrArg (fun z => Ending.returned (Value.bool z)) (decP_false.2 (fun g => by have h1 := g.top; have h2 := g.pow; have h3 := g.odd; omega)).symm, hX11⟩

end NB4
end Go.Proofs.YtfnginkcmcfdfaaGreatDoor

set_option maxRecDepth 20000
set_option maxHeartbeats 2000000
namespace Go.Proofs.YtfnginkcmcfdfaaGreatDoor
namespace NB5
open Go.RowKit Go.GL Go.Proofs
open Go.Proofs.YtfnginkcmcfdfaaGreatDoor.B1
open Go.Proofs.YtfnginkcmcfdfaaGreatDoor.C1
open Go.Proofs.YtfnginkcmcfdfaaGreatDoor.D1
open Go.Proofs.YtfnginkcmcfdfaaGreatDoor.E1
open Go.Proofs.YtfnginkcmcfdfaaGreatDoor.NU1
open Go.Proofs.YtfnginkcmcfdfaaGreatDoor.NU3
open Go.Proofs.YtfnginkcmcfdfaaGreatDoor.NB4







theorem pl34 : (Tryz.prog.underlying 34).bind (placesD Tryz.prog) = some [(0, 1), (1, 1)] := by kernel_rfl




def PutP (m : Nat) : Prop := ∀ {w : World} {G : Pin} {b : Nat} {bu bv : Value} {ns : List Nd} {bs : List Int} {t : Int} {dp : Nat} (_ : Pins G w) (_ : Bk 99 3 G w b bu bv ns bs) (_ : PoolOk (bkq ns bs)) (_ : NumOk dp t) (_ : ns.length + cntD dp t ≤ 1048575), muD dp t < m → Calls Tryz.prog 107 [(.pointer (some ⟨b, 0, none⟩)), (.agg [.int .i64 t, .int .i64 (dp : Int)].toArray)].toArray w fun e w' => ∃ (z : Int) (u' v' : Value) (ns' : List Nd) (bs' : List Int) (G' : Pin), e = .returned (.int .i64 z) ∧ Bk 99 3 G' w' b u' v' ns' bs' ∧ Ext (inS b bu bv) G w G' w' ∧ Lo w (inS b bu bv) u'.ownBlock ∧ Lo w (inS b bu bv) v'.ownBlock ∧ PoolOk (bkq ns' bs') ∧ PX (bkq ns bs) (bkq ns' bs') ∧ PlaceOk (bkq ns' bs') z ∧ pd (bkq ns' bs') z = dyG dp t ∧ ns'.length ≤ ns.length + cntD dp t

theorem l7Put_step {w : World} {G : Pin} {b : Nat} {bu bv : Value} {ns : List Nd} {bs : List Int} {t : Int} {dp : Nat} (hP : Pins G w) (hB : Bk 99 3 G w b bu bv ns bs) (hokp : PoolOk (bkq ns bs)) (hn : NumOk dp t) (hl : ns.length + cntD dp t ≤ 1048575) {m : Nat} (ih : PutP m) (hm : muD dp t < m + 1) :
  Calls Tryz.prog 107 [(.pointer (some ⟨b, 0, none⟩)), (.agg [(.int .i64 t), (.int .i64 (dp : Int))].toArray)].toArray w fun e w' => ∃ (z : Int) (u' v' : Value) (ns' : List Nd) (bs' : List Int) (G' : Pin), e = .returned (.int .i64 z) ∧ Bk 99 3 G' w' b u' v' ns' bs' ∧ Ext (inS b bu bv) G w G' w' ∧ Lo w (inS b bu bv) u'.ownBlock ∧ Lo w (inS b bu bv) v'.ownBlock ∧ PoolOk (bkq ns' bs') ∧ PX (bkq ns bs) (bkq ns' bs') ∧ PlaceOk (bkq ns' bs') z ∧ pd (bkq ns' bs') z = dyG dp t ∧ ns'.length ≤ ns.length + cntD dp t := by
 refine zW (n := 59) Tryz.func107 Tryz.ntmps107 rfl rfl ?_
 have hX0 : Ext (inS b bu bv) G w G w := Ext.refl hP
 have hok := hokp.ar.ok
 have htp := hn.top
 have hpw := hn.pow
 have hod := hn.odd
 have hbx := hB.bx
 have hou := hB.ou
 have hov := hB.ov
 have habu := hB.abu
 have habv := hB.abv
 have hauv := hB.auv
 have hlob : Lo w (inS b bu bv) (some b) := lo_b
 have hlou : Lo w (inS b bu bv) bu.ownBlock := lo_u
 have hlov : Lo w (inS b bu bv) bv.ownBlock := lo_v
 have hlen := hok.len
 have hlim := hok.lim
 refine zD (zF ?_)
 refine qI rfl (xH [(.int .i64 t), (.int .i64 (dp : Int))] (v := (.agg [(.int .i64 t), (.int .i64 (dp : Int))].toArray)) rfl rfl hX0.pins (fun b1 w2 hk3 hb4 hp5 hl6 => ?_))
 have hX7 := hX0.step hp5 hl6
 have ho8 := hou.below hl6
 have ho9 := hov.below hl6
 have hb10 := hbx.below hl6
 have ha11 : Apart (some b1) bu.ownBlock := zH (congrArg some hk3) hou.lt
 have ha12 : Apart (some b1) bv.ownBlock := zH (congrArg some hk3) hov.lt
 have ha13 : Apart (some b1) (some b) := zP (congrArg some hk3) hbx.lt
 have hlo14 : w.heap.size ≤ b1 := by have := hX0.size; omega
 obtain ⟨G15, hle16, hX17, hbp18, hf19⟩ := hb4.shut hX7 hlo14
 have ho20 := ho8.moreA hle16 hf19 ha11.symm
 have ho21 := ho9.moreA hle16 hf19 ha12.symm
 have hb22 := hb10.moreA hf19 ha13.symm
 refine qD rfl (zC (v := (.int .i64 0)) rfl) ?_
 refine qe (zA (zD (zF ?_)))
 refine qD rfl (zJ (k := 1) rfl Tryz.underlying34 rfl nz3 rfl) ?_
 refine qD rfl (zL (u := (.int .i64 (dp : Int))) ag3 rfl (hX17.pins _ _ _ (hbp18 1 _ rfl))) ?_
 refine qD rfl (xR [(.int .i64 0), (.int .i64 0)] [(.int .i64 1), (.int .i64 (dp : Int))] [(0, (.int .i64 1), [(.int .i64 1)]), (1, (.int .i64 (dp : Int)), [(.int .i64 (dp : Int))])] Tryz.underlying34 zr34 rfl pl34 rfl (List.forall_mem_cons.2 ⟨rfl, (List.forall_mem_cons.2 ⟨rfl, (fun _ h => by cases h)⟩)⟩) rfl) ?_
 refine qI rfl (yW [(.int .i64 0), (.int .i64 0)] zr34 rfl hX17.pins (fun b23 w24 hk25 hb26 hp27 hl28 => ?_))
 have hX29 := hX17.step hp27 hl28
 have ho30 := ho20.below hl28
 have ho31 := ho21.below hl28
 have hb32 := hb22.below hl28
 have ha33 : Apart (some b23) bu.ownBlock := zH (congrArg some hk25) ho20.lt
 have ha34 : Apart (some b23) bv.ownBlock := zH (congrArg some hk25) ho21.lt
 have ha35 : Apart (some b23) (some b) := zP (congrArg some hk25) hb22.lt
 have hlo36 : w.heap.size ≤ b23 := by have := hX17.size; omega
 refine q0 rfl rfl rfl (xF (cs' := [(.int .i64 1), (.int .i64 (dp : Int))]) (us := [(.int .i64 1), (.int .i64 (dp : Int))]) (v := (.agg [(.int .i64 1), (.int .i64 (dp : Int))].toArray)) sz34 rfl rfl rfl (xY (by rfl) (by rfl)) hX29.pins hb26 (Nat.le_of_ble_eq_true rfl) rfl (fun w37 hb38 hp39 hg40 hz41 => ?_))
 have hX42 := hX29.write hp39 hg40 ((yM hlo36))
 have ho43 := ho30.keptA hg40 ha33.symm
 have ho44 := ho31.keptA hg40 ha34.symm
 have hb45 := hb32.keptA hg40 ha35.symm
 obtain ⟨G46, hle47, hX48, hbp49, hf50⟩ := hb38.shut hX42 hlo36
 have ho51 := ho43.moreA hle47 hf50 ha33.symm
 have ho52 := ho44.moreA hle47 hf50 ha34.symm
 have hb53 := hb45.moreA hf50 ha35.symm
 refine qe (zA (zD ?_))
 refine zX ?_
 refine zD (zF ?_)
 refine qD rfl (zJ (k := 0) rfl Tryz.underlying34 rfl nz3 rfl) ?_
 refine qD rfl (zL (u := (.int .i64 t)) ag3 rfl ((Pins.of_le hX48.pins hle47) _ _ _ (hbp18 0 _ rfl))) ?_
 refine qD rfl (qJ rfl rfl) ?_
 refine qD rfl (zC (v := (.bool (decide ((t : Int) = 0)))) rfl) ?_
 refine qe (zA ?_)
 refine yA (p := (t : Int) = 0) rfl rfl (fun h54 => ?_) (fun h54 => ?_)
 ·skip
  refine zD (zF ?_)
  refine qD rfl (zB (v := (.pointer (some ⟨b, 0, none⟩))) rfl) ?_
  have hpt := bk_put (xs := []) (ys := []) hokp (by omega) ⟨by simp, by simp⟩ (fun z hz => absurd hz (by simp)) (fun z hz => absurd hz (by simp))
  have hng55 := hpt.pd.trans (show _ = mkG [] [] from rfl)
  refine qI rfl (zN (vs := [(.pointer (some ⟨b, 0, none⟩)), (.slice none 0 0), (.slice none 0 0)]) Tryz.func112 nm112 rfl rfl rfl ?_)
  refine Calls.mono (put_spec hX48.pins ⟨hb53, ho51, ho52, habu, habv, hauv⟩ hokp.ar.ok (xO _ _) (xO _ _) ⟨by simp, by simp⟩ (fun i hi => absurd hi (Nat.not_lt_zero i)) (fun i hi => absurd hi (Nat.not_lt_zero i))) ?_
  rintro _ w59 ⟨u56, v57, G58, rfl, hbk60, hx61, hlu62, hlv63⟩
  refine ⟨_, rfl, ?_⟩
  have hin66 : ∀ i, inS b bu bv i → w.heap.size ≤ i ∨ (inS b bu bv) i := qR hlob hlou hlov
  have hX67 := hX48.trans hx61 hin66
  have hb68 := hbk60.bx
  have ho69 := hbk60.ou
  have ho70 := hbk60.ov
  have ha71 := hbk60.abu
  have ha72 := hbk60.abv
  have ha73 := hbk60.auv
  have hlo74 := xJ hlu62 hin66 hX48.size
  have hlo75 := xJ hlv63 hin66 hX48.size
  refine qD rfl (zC (v := (.int .i64 (putK ns bs ([]) ([])))) rfl) ?_
  refine qe (zA ?_)
  refine wp_ret ?_
  refine zR ?_
  refine zO (v := (.int .i64 (putK ns bs ([]) ([])))) rfl rfl rfl ?_
  have hcp := cnt_pos dp t
  exact ⟨_, u56, v57, _, _, _, rfl, ⟨hb68, ho69, ho70, ha71, ha72, ha73⟩, hX67, hlo74, hlo75, hpt.ok, hpt.px, hpt.pl, (hng55.trans (dy_zero (by have := hn.odd; omega) (by omega)).symm), (by have := hpt.len; omega)⟩
 refine zD (zF ?_)
 refine qD rfl (zJ (k := 1) rfl Tryz.underlying34 rfl nz3 rfl) ?_
 refine qD rfl (zL (u := (.int .i64 (dp : Int))) ag3 rfl ((Pins.of_le hX48.pins hle47) _ _ _ (hbp18 1 _ rfl))) ?_
 refine qD rfl (r_gtr rfl rfl) ?_
 refine qD rfl (zC (v := (.bool (decide ((0 : Int) < (dp : Int))))) rfl) ?_
 refine qe (zA ?_)
 refine yA (p := (0 : Int) < (dp : Int)) rfl rfl (fun h76 => ?_) (fun h76 => ?_)
 ·skip
  refine zD ?_
  have hdp1 : 1 ≤ dp := by omega
  have hk1 := (hn.kid hdp1 (s := t - 1) (Or.inl rfl))
  have hk2 := (hn.kid hdp1 (s := t + 1) (Or.inr rfl))
  have hm1 := mu_kid hn hdp1 (s := t - 1) (Or.inl rfl)
  have hm2 := mu_kid hn hdp1 (s := t + 1) (Or.inr rfl)
  have hct := cnt_two hn hdp1
  have hdk := dy_kids hdp1 (hn.odd.resolve_left (by omega))
  refine yX (S := fun wz => Pins G46 wz) (last := 7) (by kernel_rfl) rfl ?_
  have hl77 : Below w37.heap.size w37 w37.drew := (Below.refl _ _).drew
  have hp78 := hX48.pins.below hl77
  have hX79 := hX48.step hp78 hl77
  have ho80 := ho51.below hl77
  have ho81 := ho52.below hl77
  have hb82 := hb53.below hl77
  refine dT (i := 0) rfl rfl (by kernel_rfl) (fun _ _ => zB (v := (.pointer (some ⟨b, 0, none⟩))) rfl) hX79.pins ?_
  refine dT (i := 1) rfl rfl (by kernel_rfl) (fun _ hS => yH (cs := [(.int .i64 t), (.int .i64 (dp : Int))]) ag34 sz34 rfl (fun j u hj => (Pins.of_le hS hle47) _ _ _ (hbp18 _ _ (by simpa using hj)))) hX79.pins ?_
  refine dT (i := 2) rfl rfl (by kernel_rfl) (fun _ hS => yH (cs := [(.int .i64 1), (.int .i64 (dp : Int))]) ag34 sz34 rfl (fun j u hj => hS _ _ _ (hbp49 _ _ (by simpa using hj)))) hX79.pins ?_
  refine zQ (i := 3) (by kernel_rfl) (zU (i := 3) rfl rfl rfl (zG rfl _) (zN (vs := [(.agg [(.int .i64 1), (.int .i64 (dp : Int))].toArray)]) Tryz.func147 nm147 rfl rfl rfl ?_))
  refine Calls.mono (l2Neg_spec (t := 1) (z := (dp : Int)) hX79.pins (by omega)) ?_
  rintro _ w84 ⟨G83, rfl, hx85⟩
  refine ⟨_, rfl, ?_⟩
  have hX86 := hX79.tr hx85
  have ho87 := ho80.ext hx85
  have ho88 := ho81.ext hx85
  have hb89 := hb82.ext hx85
  refine ⟨fun _ => (Pins.of_le hX86.pins hx85.le), ?_⟩
  refine zQ (i := 4) (by kernel_rfl) (zU (i := 4) rfl rfl rfl (zG rfl _) (zN (vs := [(.agg [(.int .i64 t), (.int .i64 (dp : Int))].toArray), (.agg [(.int .i64 (-1)), (.int .i64 (dp : Int))].toArray)]) Tryz.func146 nm146 rfl rfl rfl ?_))
  refine Calls.mono (l2AddS_spec (t := t) (u := -1) (s := t - 1) (p := dp) hX86.pins (by omega) (by omega) (by omega) (by omega)) ?_
  rintro _ w91 ⟨G90, rfl, hx92⟩
  refine ⟨_, rfl, ?_⟩
  have hX93 := hX86.tr hx92
  have ho94 := ho87.ext hx92
  have ho95 := ho88.ext hx92
  have hb96 := hb89.ext hx92
  refine ⟨fun _ => (Pins.of_le hX93.pins (Pin.le_trans hx85.le hx92.le)), ?_⟩
  refine zQ (i := 5) (by kernel_rfl) (zU (i := 5) rfl rfl rfl (zG rfl _) (zN (vs := [(.pointer (some ⟨b, 0, none⟩)), (.agg [(.int .i64 ((lowD dp (t - 1)).1)), (.int .i64 (((lowD dp (t - 1)).2 : Nat) : Int))].toArray)]) Tryz.func107 nm107 rfl rfl rfl ?_))
  refine Calls.mono (ih hX93.pins ⟨hb96, ho94, ho95, habu, habv, hauv⟩ hokp hk1.1 (by omega) (by omega)) ?_
  rintro _ w108 ⟨z97, u105, v106, ns98, bs99, G107, rfl, hbk109, hx110, hlu111, hlv112, hok100, hpx101, hpl102, hpd103, hcl104⟩
  refine ⟨_, rfl, ?_⟩
  have hin115 : ∀ i, inS b bu bv i → w.heap.size ≤ i ∨ (inS b bu bv) i := qR hlob hlou hlov
  have hX116 := hX93.trans hx110 hin115
  have hb117 := hbk109.bx
  have ho118 := hbk109.ou
  have ho119 := hbk109.ov
  have ha120 := hbk109.abu
  have ha121 := hbk109.abv
  have ha122 := hbk109.auv
  have hlo123 := xJ hlu111 hin115 hX93.size
  have hlo124 := xJ hlv112 hin115 hX93.size
  have hpx125 := hpx101
  refine ⟨fun _ => (Pins.of_le hX116.pins (Pin.le_trans (Pin.le_trans hx85.le hx92.le) hx110.le)), ?_⟩
  refine dT (i := 6) rfl rfl (by kernel_rfl) (fun _ _ => zC (v := (.int .i64 z97)) rfl) (Pins.of_le hX116.pins (Pin.le_trans (Pin.le_trans hx85.le hx92.le) hx110.le)) ?_
  refine yJ (by kernel_rfl) ?_
  refine zA (zD (zF ?_))
  refine qD rfl (zB (v := (.pointer (some ⟨b, 0, none⟩))) rfl) ?_
  refine qD rfl (yH (cs := [(.int .i64 t), (.int .i64 (dp : Int))]) ag34 sz34 rfl (fun j u hj => (Pins.of_le hX116.pins (Pin.le_trans (Pin.le_trans (Pin.le_trans hle47 hx85.le) hx92.le) hx110.le)) _ _ _ (hbp18 _ _ (by simpa using hj)))) ?_
  refine qD rfl (yH (cs := [(.int .i64 1), (.int .i64 (dp : Int))]) ag34 sz34 rfl (fun j u hj => (Pins.of_le hX116.pins (Pin.le_trans (Pin.le_trans hx85.le hx92.le) hx110.le)) _ _ _ (hbp49 _ _ (by simpa using hj)))) ?_
  refine qI rfl (zN (vs := [(.agg [(.int .i64 t), (.int .i64 (dp : Int))].toArray), (.agg [(.int .i64 1), (.int .i64 (dp : Int))].toArray)]) Tryz.func146 nm146 rfl rfl rfl ?_)
  refine Calls.mono (l2AddS_spec (t := t) (u := 1) (s := t + 1) (p := dp) hX116.pins (by omega) (by omega) (by omega) (by omega)) ?_
  rintro _ w127 ⟨G126, rfl, hx128⟩
  refine ⟨_, rfl, ?_⟩
  have hX129 := hX116.tr hx128
  have ho130 := ho118.ext hx128
  have ho131 := ho119.ext hx128
  have hb132 := hb117.ext hx128
  refine qI rfl (zN (vs := [(.pointer (some ⟨b, 0, none⟩)), (.agg [(.int .i64 ((lowD dp (t + 1)).1)), (.int .i64 (((lowD dp (t + 1)).2 : Nat) : Int))].toArray)]) Tryz.func107 nm107 rfl rfl rfl ?_)
  refine Calls.mono (ih hX129.pins ⟨hb132, ho130, ho131, ha120, ha121, ha122⟩ hok100 hk2.1 (by omega) (by omega)) ?_
  rintro _ w144 ⟨z133, u141, v142, ns134, bs135, G143, rfl, hbk145, hx146, hlu147, hlv148, hok136, hpx137, hpl138, hpd139, hcl140⟩
  refine ⟨_, rfl, ?_⟩
  have hin151 : ∀ i, inS b u105 v106 i → w.heap.size ≤ i ∨ (inS b bu bv) i := qR hlob hlo123 hlo124
  have hX152 := hX129.trans hx146 hin151
  have hb153 := hbk145.bx
  have ho154 := hbk145.ou
  have ho155 := hbk145.ov
  have ha156 := hbk145.abu
  have ha157 := hbk145.abv
  have ha158 := hbk145.auv
  have hlo159 := xJ hlu147 hin151 hX129.size
  have hlo160 := xJ hlv148 hin151 hX129.size
  have hpx161 := PX.trans hpx125 hpx137
  refine qD rfl (zC (v := (.int .i64 z133)) rfl) ?_
  refine qe (zA (zD (zF ?_)))
  refine qD rfl (zB (v := (.pointer (some ⟨b, 0, none⟩))) rfl) ?_
  refine qD rfl (zB (v := (.int .i64 z97)) rfl) ?_
  refine qI rfl (yU (E := eInt) (e := 3) [(.int .i64 z97)] [z97] Tryz.underlying65 sz3 zr3 (by exact xS (by rfl)) (xA (by rfl)) rfl rfl rfl rfl (by decide) hX152.pins (fun u162 w163 ho164 hp165 hl166 hk167 => ?_))
  have hX168 := hX152.step hp165 hl166
  have ho169 := ho154.below hl166
  have ho170 := ho155.below hl166
  have hb171 := hb153.below hl166
  have ha172 : Apart u162.ownBlock u141.ownBlock := zH hk167 ho154.lt
  have ha173 : Apart u162.ownBlock v142.ownBlock := zH hk167 ho155.lt
  have ha174 : Apart u162.ownBlock (some b) := zP hk167 hb153.lt
  have ho175 : Own eInt 3 G143 w163 w.heap.size u162 ([z97]) := ho164.weaken hX152.size
  refine qD rfl (zB (v := (.int .i64 z133)) rfl) ?_
  refine qI rfl (yU (E := eInt) (e := 3) [(.int .i64 z133)] [z133] Tryz.underlying65 sz3 zr3 (by exact xS (by rfl)) (xA (by rfl)) rfl rfl rfl rfl (by decide) hX168.pins (fun u176 w177 ho178 hp179 hl180 hk181 => ?_))
  have hX182 := hX168.step hp179 hl180
  have ho183 := ho169.below hl180
  have ho184 := ho170.below hl180
  have ho185 := ho175.below hl180
  have hb186 := hb171.below hl180
  have ha187 : Apart u176.ownBlock u141.ownBlock := zH hk181 ho169.lt
  have ha188 : Apart u176.ownBlock v142.ownBlock := zH hk181 ho170.lt
  have ha189 : Apart u176.ownBlock u162.ownBlock := zH hk181 ho175.lt
  have ha190 : Apart u176.ownBlock (some b) := zP hk181 hb171.lt
  have ho191 : Own eInt 3 G143 w177 w.heap.size u176 ([z133]) := ho178.weaken hX168.size
  obtain ⟨G192, hle195, hX194, hr193, hf196⟩ := ho185.sealed hX182
  have ho197 := ho183.moreO hle195 hf196 ha172.symm
  have ho198 := ho184.moreO hle195 hf196 ha173.symm
  have ho199 := ho191.moreO hle195 hf196 ha189
  have hb200 := hb186.moreO hf196 ha174.symm
  obtain ⟨G201, hle204, hX203, hr202, hf205⟩ := ho199.sealed hX194
  have ho206 := ho197.moreO hle204 hf205 ha187.symm
  have ho207 := ho198.moreO hle204 hf205 ha188.symm
  have hb208 := hb200.moreO hf205 ha190.symm
  have hpt := bk_put (xs := [z97]) (ys := [z133]) hok136 (by omega) ⟨by simp, by simp⟩ (fun z hz => by rw [List.mem_singleton.1 hz]; exact (hpx137.place hpl102)) (fun z hz => by rw [List.mem_singleton.1 hz]; exact hpl138)
  have hng209 := hpt.pd.trans (show _ = mkG [pd (bkq ns134 bs135) z97] [pd (bkq ns134 bs135) z133] from rfl)
  rw [((hpx137.pd hok100 hok136 hpl102).trans hpd103)] at hng209
  rw [hpd139] at hng209
  refine qI rfl (zN (vs := [(.pointer (some ⟨b, 0, none⟩)), u162, u176]) Tryz.func112 nm112 rfl rfl rfl ?_)
  refine Calls.mono (put_spec hX203.pins ⟨hb208, ho206, ho207, ha156, ha157, ha158⟩ hok136.ar.ok (hr193.mono hle204) hr202 ⟨by simp, by simp⟩ (one_at (hpx137.place hpl102)) (one_at hpl138)) ?_
  rintro _ w213 ⟨u210, v211, G212, rfl, hbk214, hx215, hlu216, hlv217⟩
  refine ⟨_, rfl, ?_⟩
  have hin220 : ∀ i, inS b u141 v142 i → w.heap.size ≤ i ∨ (inS b bu bv) i := qR hlob hlo159 hlo160
  have hX221 := hX203.trans hx215 hin220
  have hb222 := hbk214.bx
  have ho223 := hbk214.ou
  have ho224 := hbk214.ov
  have ha225 := hbk214.abu
  have ha226 := hbk214.abv
  have ha227 := hbk214.auv
  have hlo228 := xJ hlu216 hin220 hX203.size
  have hlo229 := xJ hlv217 hin220 hX203.size
  refine qD rfl (zC (v := (.int .i64 (putK ns134 bs135 ([z97]) ([z133])))) rfl) ?_
  refine qe (zA ?_)
  refine wp_ret ?_
  refine zR ?_
  refine zO (v := (.int .i64 (putK ns134 bs135 ([z97]) ([z133])))) rfl rfl rfl ?_
  have hcp := cnt_pos dp t
  exact ⟨_, u210, v211, _, _, _, rfl, ⟨hb222, ho223, ho224, ha225, ha226, ha227⟩, hX221, hlo228, hlo229, hpt.ok, (PX.trans hpx161 hpt.px), hpt.pl, (hng209.trans hdk.symm), (by have := hpt.len; omega)⟩
 refine zD (zF ?_)
 refine qD rfl (zJ (k := 0) rfl Tryz.underlying34 rfl nz3 rfl) ?_
 refine qD rfl (zL (u := (.int .i64 t)) ag3 rfl ((Pins.of_le hX48.pins hle47) _ _ _ (hbp18 0 _ rfl))) ?_
 refine qD rfl (r_gtr rfl rfl) ?_
 refine qD rfl (zC (v := (.bool (decide ((0 : Int) < t)))) rfl) ?_
 refine qe (zA ?_)
 refine yA (p := (0 : Int) < t) rfl rfl (fun h230 => ?_) (fun h230 => ?_)
 ·skip
  refine zD ?_
  have hd0 : dp = 0 := by omega
  have hk1 := hn.kid0 hd0 (s := t - 1) (by omega)
  have hm1 := hk1.2.1
  have hm2 := hk1.2.2.1
  refine yX (S := fun wz => Pins G46 wz) (last := 10) (by kernel_rfl) rfl ?_
  have hl231 : Below w37.heap.size w37 w37.drew := (Below.refl _ _).drew
  have hp232 := hX48.pins.below hl231
  have hX233 := hX48.step hp232 hl231
  have ho234 := ho51.below hl231
  have ho235 := ho52.below hl231
  have hb236 := hb53.below hl231
  refine dT (i := 0) rfl rfl (by kernel_rfl) (fun _ _ => zB (v := (.pointer (some ⟨b, 0, none⟩))) rfl) hX233.pins ?_
  refine dT (i := 1) rfl rfl (by kernel_rfl) (fun _ _ => zB (v := (.pointer (some ⟨b, 0, none⟩))) rfl) hX233.pins ?_
  refine dT (i := 2) rfl rfl (by kernel_rfl) (fun _ hS => yH (cs := [(.int .i64 t), (.int .i64 (dp : Int))]) ag34 sz34 rfl (fun j u hj => (Pins.of_le hS hle47) _ _ _ (hbp18 _ _ (by simpa using hj)))) hX233.pins ?_
  refine dT (i := 3) rfl rfl (by kernel_rfl) (fun _ hS => yH (cs := [(.int .i64 1), (.int .i64 (dp : Int))]) ag34 sz34 rfl (fun j u hj => hS _ _ _ (hbp49 _ _ (by simpa using hj)))) hX233.pins ?_
  refine zQ (i := 4) (by kernel_rfl) (zU (i := 4) rfl rfl rfl (zG rfl _) (zN (vs := [(.agg [(.int .i64 1), (.int .i64 (dp : Int))].toArray)]) Tryz.func147 nm147 rfl rfl rfl ?_))
  refine Calls.mono (l2Neg_spec (t := 1) (z := (dp : Int)) hX233.pins (by omega)) ?_
  rintro _ w238 ⟨G237, rfl, hx239⟩
  refine ⟨_, rfl, ?_⟩
  have hX240 := hX233.tr hx239
  have ho241 := ho234.ext hx239
  have ho242 := ho235.ext hx239
  have hb243 := hb236.ext hx239
  refine ⟨fun _ => (Pins.of_le hX240.pins hx239.le), ?_⟩
  refine zQ (i := 5) (by kernel_rfl) (zU (i := 5) rfl rfl rfl (zG rfl _) (zN (vs := [(.agg [(.int .i64 t), (.int .i64 (dp : Int))].toArray), (.agg [(.int .i64 (-1)), (.int .i64 (dp : Int))].toArray)]) Tryz.func146 nm146 rfl rfl rfl ?_))
  refine Calls.mono (l2AddS_spec (t := t) (u := -1) (s := t - 1) (p := dp) hX240.pins (by omega) (by omega) (by omega) (by omega)) ?_
  rintro _ w245 ⟨G244, rfl, hx246⟩
  refine ⟨_, rfl, ?_⟩
  have hX247 := hX240.tr hx246
  have ho248 := ho241.ext hx246
  have ho249 := ho242.ext hx246
  have hb250 := hb243.ext hx246
  refine ⟨fun _ => (Pins.of_le hX247.pins (Pin.le_trans hx239.le hx246.le)), ?_⟩
  refine zQ (i := 6) (by kernel_rfl) (zU (i := 6) rfl rfl rfl (zG rfl _) (zN (vs := [(.pointer (some ⟨b, 0, none⟩)), (.agg [(.int .i64 ((lowD dp (t - 1)).1)), (.int .i64 (((lowD dp (t - 1)).2 : Nat) : Int))].toArray)]) Tryz.func107 nm107 rfl rfl rfl ?_))
  refine Calls.mono (ih hX247.pins ⟨hb250, ho248, ho249, habu, habv, hauv⟩ hokp hk1.1 (by omega) (by omega)) ?_
  rintro _ w262 ⟨z251, u259, v260, ns252, bs253, G261, rfl, hbk263, hx264, hlu265, hlv266, hok254, hpx255, hpl256, hpd257, hcl258⟩
  refine ⟨_, rfl, ?_⟩
  have hin269 : ∀ i, inS b bu bv i → w.heap.size ≤ i ∨ (inS b bu bv) i := qR hlob hlou hlov
  have hX270 := hX247.trans hx264 hin269
  have hb271 := hbk263.bx
  have ho272 := hbk263.ou
  have ho273 := hbk263.ov
  have ha274 := hbk263.abu
  have ha275 := hbk263.abv
  have ha276 := hbk263.auv
  have hlo277 := xJ hlu265 hin269 hX247.size
  have hlo278 := xJ hlv266 hin269 hX247.size
  have hpx279 := hpx255
  refine ⟨fun _ => (Pins.of_le hX270.pins (Pin.le_trans (Pin.le_trans hx239.le hx246.le) hx264.le)), ?_⟩
  refine zQ (i := 7) (by kernel_rfl) (zU (i := 7) rfl rfl rfl (zG rfl _) (yU (E := eInt) (e := 3) [(.int .i64 z251)] [z251] Tryz.underlying65 sz3 zr3 (by exact xS (by rfl)) (xA (by rfl)) rfl rfl rfl rfl (by decide) hX270.pins (fun u280 w281 ho282 hp283 hl284 hk285 => ?_)))
  have hX286 := hX270.step hp283 hl284
  have ho287 := ho272.below hl284
  have ho288 := ho273.below hl284
  have hb289 := hb271.below hl284
  have ha290 : Apart u280.ownBlock u259.ownBlock := zH hk285 ho272.lt
  have ha291 : Apart u280.ownBlock v260.ownBlock := zH hk285 ho273.lt
  have ha292 : Apart u280.ownBlock (some b) := zP hk285 hb271.lt
  have ho293 : Own eInt 3 G261 w281 w.heap.size u280 ([z251]) := ho282.weaken hX270.size
  refine ⟨fun _ => (Pins.of_le hX286.pins (Pin.le_trans (Pin.le_trans hx239.le hx246.le) hx264.le)), ?_⟩
  obtain ⟨G294, hle297, hX296, hr295, hf298⟩ := ho293.sealed hX286
  have ho299 := ho287.moreO hle297 hf298 ha290.symm
  have ho300 := ho288.moreO hle297 hf298 ha291.symm
  have hb301 := hb289.moreO hf298 ha292.symm
  have hpt := bk_put (xs := [z251]) (ys := []) hok254 (by omega) ⟨by simp, by simp⟩ (fun z hz => by rw [List.mem_singleton.1 hz]; exact hpl256) (fun z hz => absurd hz (by simp))
  have hng302 := hpt.pd.trans (show _ = mkG [pd (bkq ns252 bs253) z251] [] from rfl)
  rw [hpd257] at hng302
  refine zQ (i := 8) (by kernel_rfl) (zU (i := 8) rfl rfl rfl (zG rfl _) (zN (vs := [(.pointer (some ⟨b, 0, none⟩)), u280, (.slice none 0 0)]) Tryz.func112 nm112 rfl rfl rfl ?_))
  refine Calls.mono (put_spec hX296.pins ⟨hb301, ho299, ho300, ha274, ha275, ha276⟩ hok254.ar.ok hr295 (xO _ _) ⟨by simp, by simp⟩ (one_at hpl256) (fun i hi => absurd hi (Nat.not_lt_zero i))) ?_
  rintro _ w306 ⟨u303, v304, G305, rfl, hbk307, hx308, hlu309, hlv310⟩
  refine ⟨_, rfl, ?_⟩
  have hin313 : ∀ i, inS b u259 v260 i → w.heap.size ≤ i ∨ (inS b bu bv) i := qR hlob hlo277 hlo278
  have hX314 := hX296.trans hx308 hin313
  have hb315 := hbk307.bx
  have ho316 := hbk307.ou
  have ho317 := hbk307.ov
  have ha318 := hbk307.abu
  have ha319 := hbk307.abv
  have ha320 := hbk307.auv
  have hlo321 := xJ hlu309 hin313 hX296.size
  have hlo322 := xJ hlv310 hin313 hX296.size
  refine ⟨fun _ => (Pins.of_le hX314.pins (Pin.le_trans (Pin.le_trans (Pin.le_trans (Pin.le_trans hx239.le hx246.le) hx264.le) hle297) hx308.le)), ?_⟩
  refine dT (i := 9) rfl rfl (by kernel_rfl) (fun _ _ => zC (v := (.int .i64 (putK ns252 bs253 ([z251]) ([])))) rfl) (Pins.of_le hX314.pins (Pin.le_trans (Pin.le_trans (Pin.le_trans (Pin.le_trans hx239.le hx246.le) hx264.le) hle297) hx308.le)) ?_
  refine yJ (by kernel_rfl) ?_
  refine zA ?_
  refine wp_ret ?_
  refine zR ?_
  refine zO (v := (.int .i64 (putK ns252 bs253 ([z251]) ([])))) rfl rfl rfl ?_
  have hcp := cnt_pos dp t
  exact ⟨_, u303, v304, _, _, _, rfl, ⟨hb315, ho316, ho317, ha318, ha319, ha320⟩, hX314, hlo321, hlo322, hpt.ok, (PX.trans hpx279 hpt.px), hpt.pl, (hng302.trans (by first | rw [hk1.2.2.2]; exact (dy_pos hd0 (by omega)).symm | rw [hk2.2.2.2]; exact (dy_neg hd0 (by omega)).symm)), (by have := hpt.len; omega)⟩
 refine wp_skip ?_
 refine yF ?_
 refine zA (zD (zF ?_))
 have hd0 : dp = 0 := by omega
 have hk2 := hn.kid0 hd0 (s := t + 1) (by omega)
 have hm1 := hk2.2.1
 have hm2 := hk2.2.2.1
 refine qD rfl (zB (v := (.pointer (some ⟨b, 0, none⟩))) rfl) ?_
 refine qD rfl (zB (v := (.pointer (some ⟨b, 0, none⟩))) rfl) ?_
 refine qD rfl (yH (cs := [(.int .i64 t), (.int .i64 (dp : Int))]) ag34 sz34 rfl (fun j u hj => (Pins.of_le hX48.pins hle47) _ _ _ (hbp18 _ _ (by simpa using hj)))) ?_
 refine qD rfl (yH (cs := [(.int .i64 1), (.int .i64 (dp : Int))]) ag34 sz34 rfl (fun j u hj => hX48.pins _ _ _ (hbp49 _ _ (by simpa using hj)))) ?_
 refine qI rfl (zN (vs := [(.agg [(.int .i64 t), (.int .i64 (dp : Int))].toArray), (.agg [(.int .i64 1), (.int .i64 (dp : Int))].toArray)]) Tryz.func146 nm146 rfl rfl rfl ?_)
 refine Calls.mono (l2AddS_spec (t := t) (u := 1) (s := t + 1) (p := dp) hX48.pins (by omega) (by omega) (by omega) (by omega)) ?_
 rintro _ w324 ⟨G323, rfl, hx325⟩
 refine ⟨_, rfl, ?_⟩
 have hX326 := hX48.tr hx325
 have ho327 := ho51.ext hx325
 have ho328 := ho52.ext hx325
 have hb329 := hb53.ext hx325
 refine qI rfl (zN (vs := [(.pointer (some ⟨b, 0, none⟩)), (.agg [(.int .i64 ((lowD dp (t + 1)).1)), (.int .i64 (((lowD dp (t + 1)).2 : Nat) : Int))].toArray)]) Tryz.func107 nm107 rfl rfl rfl ?_)
 refine Calls.mono (ih hX326.pins ⟨hb329, ho327, ho328, habu, habv, hauv⟩ hokp hk2.1 (by omega) (by omega)) ?_
 rintro _ w341 ⟨z330, u338, v339, ns331, bs332, G340, rfl, hbk342, hx343, hlu344, hlv345, hok333, hpx334, hpl335, hpd336, hcl337⟩
 refine ⟨_, rfl, ?_⟩
 have hin348 : ∀ i, inS b bu bv i → w.heap.size ≤ i ∨ (inS b bu bv) i := qR hlob hlou hlov
 have hX349 := hX326.trans hx343 hin348
 have hb350 := hbk342.bx
 have ho351 := hbk342.ou
 have ho352 := hbk342.ov
 have ha353 := hbk342.abu
 have ha354 := hbk342.abv
 have ha355 := hbk342.auv
 have hlo356 := xJ hlu344 hin348 hX326.size
 have hlo357 := xJ hlv345 hin348 hX326.size
 have hpx358 := hpx334
 refine qI rfl (yU (E := eInt) (e := 3) [(.int .i64 z330)] [z330] Tryz.underlying65 sz3 zr3 (by exact xS (by rfl)) (xA (by rfl)) rfl rfl rfl rfl (by decide) hX349.pins (fun u359 w360 ho361 hp362 hl363 hk364 => ?_))
 have hX365 := hX349.step hp362 hl363
 have ho366 := ho351.below hl363
 have ho367 := ho352.below hl363
 have hb368 := hb350.below hl363
 have ha369 : Apart u359.ownBlock u338.ownBlock := zH hk364 ho351.lt
 have ha370 : Apart u359.ownBlock v339.ownBlock := zH hk364 ho352.lt
 have ha371 : Apart u359.ownBlock (some b) := zP hk364 hb350.lt
 have ho372 : Own eInt 3 G340 w360 w.heap.size u359 ([z330]) := ho361.weaken hX349.size
 obtain ⟨G373, hle376, hX375, hr374, hf377⟩ := ho372.sealed hX365
 have ho378 := ho366.moreO hle376 hf377 ha369.symm
 have ho379 := ho367.moreO hle376 hf377 ha370.symm
 have hb380 := hb368.moreO hf377 ha371.symm
 have hpt := bk_put (xs := []) (ys := [z330]) hok333 (by omega) ⟨by simp, by simp⟩ (fun z hz => absurd hz (by simp)) (fun z hz => by rw [List.mem_singleton.1 hz]; exact hpl335)
 have hng381 := hpt.pd.trans (show _ = mkG [] [pd (bkq ns331 bs332) z330] from rfl)
 rw [hpd336] at hng381
 refine qI rfl (zN (vs := [(.pointer (some ⟨b, 0, none⟩)), (.slice none 0 0), u359]) Tryz.func112 nm112 rfl rfl rfl ?_)
 refine Calls.mono (put_spec hX375.pins ⟨hb380, ho378, ho379, ha353, ha354, ha355⟩ hok333.ar.ok (xO _ _) hr374 ⟨by simp, by simp⟩ (fun i hi => absurd hi (Nat.not_lt_zero i)) (one_at hpl335)) ?_
 rintro _ w385 ⟨u382, v383, G384, rfl, hbk386, hx387, hlu388, hlv389⟩
 refine ⟨_, rfl, ?_⟩
 have hin392 : ∀ i, inS b u338 v339 i → w.heap.size ≤ i ∨ (inS b bu bv) i := qR hlob hlo356 hlo357
 have hX393 := hX375.trans hx387 hin392
 have hb394 := hbk386.bx
 have ho395 := hbk386.ou
 have ho396 := hbk386.ov
 have ha397 := hbk386.abu
 have ha398 := hbk386.abv
 have ha399 := hbk386.auv
 have hlo400 := xJ hlu388 hin392 hX375.size
 have hlo401 := xJ hlv389 hin392 hX375.size
 refine qD rfl (zC (v := (.int .i64 (putK ns331 bs332 ([]) ([z330])))) rfl) ?_
 refine qe (zA ?_)
 refine wp_ret ?_
 refine zR ?_
 refine zO (v := (.int .i64 (putK ns331 bs332 ([]) ([z330])))) rfl rfl rfl ?_
 have hcp := cnt_pos dp t
 exact ⟨_, u382, v383, _, _, _, rfl, ⟨hb394, ho395, ho396, ha397, ha398, ha399⟩, hX393, hlo400, hlo401, hpt.ok, (PX.trans hpx358 hpt.px), hpt.pl, (hng381.trans (by first | rw [hk1.2.2.2]; exact (dy_pos hd0 (by omega)).symm | rw [hk2.2.2.2]; exact (dy_neg hd0 (by omega)).symm)), (by have := hpt.len; omega)⟩

theorem put_all : ∀ m, PutP m
 | 0 => fun _ _ _ _ _ h => absurd h (Nat.not_lt_zero _)
 | m + 1 => fun hP hB hok hn hl hm => l7Put_step hP hB hok hn hl (put_all m) hm
theorem l7Put_spec {w : World} {G : Pin} {b : Nat} {bu bv : Value} {ns : List Nd} {bs : List Int} {t : Int} {dp : Nat} (hP : Pins G w) (hB : Bk 99 3 G w b bu bv ns bs) (hokp : PoolOk (bkq ns bs)) (hn : NumOk dp t) (hl : ns.length + cntD dp t ≤ 1048575) :
  Calls Tryz.prog 107 [(.pointer (some ⟨b, 0, none⟩)), (.agg [.int .i64 t, .int .i64 (dp : Int)].toArray)].toArray w fun e w' => ∃ (z : Int) (u' v' : Value) (ns' : List Nd) (bs' : List Int) (G' : Pin), e = .returned (.int .i64 z) ∧ Bk 99 3 G' w' b u' v' ns' bs' ∧ Ext (inS b bu bv) G w G' w' ∧ Lo w (inS b bu bv) u'.ownBlock ∧ Lo w (inS b bu bv) v'.ownBlock ∧ PoolOk (bkq ns' bs') ∧ PX (bkq ns bs) (bkq ns' bs') ∧ PlaceOk (bkq ns' bs') z ∧ pd (bkq ns' bs') z = dyG dp t ∧ ns'.length ≤ ns.length + cntD dp t :=
 put_all _ hP hB hokp hn hl (Nat.lt_succ_self _)

end NB5
end Go.Proofs.YtfnginkcmcfdfaaGreatDoor

set_option maxRecDepth 20000
set_option maxHeartbeats 2000000
namespace Go.Proofs.YtfnginkcmcfdfaaGreatDoor
namespace NB6
open Go.RowKit Go.GL Go.Proofs
open Go.Proofs.YtfnginkcmcfdfaaGreatDoor.B1
open Go.Proofs.YtfnginkcmcfdfaaGreatDoor.C1
open Go.Proofs.YtfnginkcmcfdfaaGreatDoor.D1
open Go.Proofs.YtfnginkcmcfdfaaGreatDoor.E1
open Go.Proofs.YtfnginkcmcfdfaaGreatDoor.K1
open Go.Proofs.YtfnginkcmcfdfaaGreatDoor.PO1
open Go.Proofs.YtfnginkcmcfdfaaGreatDoor.PL1
open Go.Proofs.YtfnginkcmcfdfaaGreatDoor.PA1
open Go.Proofs.YtfnginkcmcfdfaaGreatDoor.SO1
open Go.Proofs.YtfnginkcmcfdfaaGreatDoor.OD1
open Go.Proofs.YtfnginkcmcfdfaaGreatDoor.FO1
open Go.Proofs.YtfnginkcmcfdfaaGreatDoor.NG1
open Go.Proofs.YtfnginkcmcfdfaaGreatDoor.NF1
open Go.Proofs.YtfnginkcmcfdfaaGreatDoor.SM1
open Go.Proofs.YtfnginkcmcfdfaaGreatDoor.NU1
open Go.Proofs.YtfnginkcmcfdfaaGreatDoor.NU3
open Go.Proofs.YtfnginkcmcfdfaaGreatDoor.NB4
open Go.Proofs.YtfnginkcmcfdfaaGreatDoor.NB5








theorem pl102 : (Tryz.prog.underlying 102).bind (placesD Tryz.prog) = some [(0, 1), (1, 1)] := by kernel_rfl
theorem pl32 : (Tryz.prog.underlying 32).bind (placesD Tryz.prog) = some [(0, 1)] := by kernel_rfl




theorem l7FormN_spec {w : World} {G : Pin} {t : Int} {dp : Nat} (hP : Pins G w) (hg : GoodD t (dp : Int)) :
  Calls Tryz.prog 58 [(.agg [(.int .i64 t), (.int .i64 (dp : Int))].toArray)].toArray w fun e w' => ∃ (u : Value) (G' : Pin), e = .returned (.agg [u].toArray) ∧ RSl eNode G' u (l7F dp t) ∧ Ext noS G w G' w' := by
 refine zW (n := 15) Tryz.func58 Tryz.ntmps58 rfl rfl ?_
 have hX0 : Ext noS G w G w := Ext.refl hP
 have htp := hg.top
 have hpw := hg.pow
 refine zD (zF ?_)
 refine qI rfl (xH [(.int .i64 t), (.int .i64 (dp : Int))] (v := (.agg [(.int .i64 t), (.int .i64 (dp : Int))].toArray)) rfl rfl hX0.pins (fun b1 w2 hk3 hb4 hp5 hl6 => ?_))
 have hX7 := hX0.step hp5 hl6
 have hlo8 : w.heap.size ≤ b1 := by have := hX0.size; omega
 obtain ⟨G9, hle10, hX11, hbp12, hf13⟩ := hb4.shut hX7 hlo8
 refine qI rfl (yW [(.slice none 0 0)] zr32 rfl hX11.pins (fun b14 w15 hk16 hb17 hp18 hl19 => ?_))
 have hX20 := hX11.step hp18 hl19
 have hlo21 : w.heap.size ≤ b14 := by have := hX11.size; omega
 refine qe (zA (zD (zD (zF ?_))))
 refine qD rfl (yH (cs := [(.int .i64 t), (.int .i64 (dp : Int))]) ag34 sz34 rfl (fun j u hj => hX20.pins _ _ _ (hbp12 _ _ (by simpa using hj)))) ?_
 refine qI rfl (zN (vs := [(.agg [(.int .i64 t), (.int .i64 (dp : Int))].toArray)]) Tryz.func106 nm106 rfl rfl rfl ?_)
 refine Calls.mono (l2Born_spec (t := t) (dp := dp) hX20.pins (by omega) (by omega)) ?_
 rintro _ w23 ⟨G22, rfl, hx24⟩
 refine ⟨_, rfl, ?_⟩
 have hX25 := hX20.tr hx24
 have hb26 := hb17.ext hx24
 refine qD rfl (r_geq rfl rfl) ?_
 refine qe (zA ?_)
 refine yA (p := (120 : Int) ≤ ((bornD dp t : Nat) : Int)) rfl rfl (fun h27 => ?_) (fun h27 => ?_)
 ·skip
  refine zD (zF ?_)
  refine qD rfl (xR [(.slice none 0 0)] [(.slice none 0 0)] [] Tryz.underlying32 zr32 rfl pl32 rfl (fun _ h => by cases h) rfl) ?_
  refine q0 rfl rfl rfl (xF (cs' := [(.slice none 0 0)]) (us := [(.slice none 0 0)]) (v := (.agg [(.slice none 0 0)].toArray)) sz32 rfl rfl rfl (xA (by rfl)) hX25.pins hb26 (Nat.le_of_ble_eq_true rfl) rfl (fun w28 hb29 hp30 hg31 hz32 => ?_))
  have hX33 := hX25.write hp30 hg31 ((yM hlo21))
  refine qe (zA ?_)
  refine wp_ret ?_
  refine zR ?_
  refine c_retc (cs := [(.slice none 0 0)]) rfl rfl rfl ag32 sz32 (fun j u hj => by rw [Nat.zero_add]; exact hb29.cell hj) ?_
  exact ⟨_, _, rfl, (by rw [l7_late (by omega)]; exact (xO _ _)), hX33⟩
 refine wp_skip ?_
 refine zA (zD (zF ?_))
 refine qD rfl (xR [(.slice none 0 0), (.slice none 0 0)] [(.slice none 0 0), (.slice none 0 0)] [] Tryz.underlying102 zr102 rfl pl102 rfl (fun _ h => by cases h) rfl) ?_
 refine qI rfl (xH [(.slice none 0 0), (.slice none 0 0)] (v := (.agg [(.slice none 0 0), (.slice none 0 0)].toArray)) rfl rfl hX25.pins (fun b34 w35 hk36 hb37 hp38 hl39 => ?_))
 have hX40 := hX25.step hp38 hl39
 have hb41 := hb26.below hl39
 have ha42 : Apart (some b34) (some b14) := zP (congrArg some hk36) hb26.lt
 have hlo43 : w.heap.size ≤ b34 := by have := hX25.size; omega
 refine qD rfl (zC (v := (.pointer (some ⟨b34, 0, none⟩))) rfl) ?_
 refine qe (zA (zD (zF ?_)))
 have hbn : bornD dp t < 120 := by omega
 have hno := born_num hg hbn
 have hcn := cnt_num hno
 have hcm := numT_max hno.pow
 have hbe : PoolOk (bkq [] []) := bkq_ok Ar.empty
 refine qD rfl (zB (v := (.pointer (some ⟨b34, 0, none⟩))) rfl) ?_
 refine qD rfl (zB (v := (.pointer (some ⟨b34, 0, none⟩))) rfl) ?_
 refine qD rfl (yH (cs := [(.int .i64 t), (.int .i64 (dp : Int))]) ag34 sz34 rfl (fun j u hj => (Pins.of_le hX40.pins hx24.le) _ _ _ (hbp12 _ _ (by simpa using hj)))) ?_
 refine qI rfl (zN (vs := [(.pointer (some ⟨b34, 0, none⟩)), (.agg [(.int .i64 t), (.int .i64 (dp : Int))].toArray)]) Tryz.func107 nm107 rfl rfl rfl ?_)
 refine Calls.mono (l7Put_spec hX40.pins ⟨hb37, (Own.nil _ _ _ _ _), (Own.nil _ _ _ _ _), apart_none.symm, apart_none.symm, apart_none⟩ hbe hno (by simp; omega)) ?_
 rintro _ w55 ⟨z44, u52, v53, ns45, bs46, G54, rfl, hbk56, hx57, hlu58, hlv59, hok47, hpx48, hpl49, hpd50, hcl51⟩
 refine ⟨_, rfl, ?_⟩
 have hin62 : ∀ i, inS b34 (.slice none 0 0) (.slice none 0 0) i → w.heap.size ≤ i ∨ noS i := qR (yM hlo43) (lo_none _ _) (lo_none _ _)
 have hX63 := hX40.trans hx57 hin62
 have hn64 := notS (u := (.slice none 0 0)) (v := (.slice none 0 0)) ha42.symm apart_none.symm apart_none.symm
 have ho65 := hb41.extS hx57 (notSb hn64)
 have hb68 := hbk56.bx
 have ho69 := hbk56.ou
 have ho70 := hbk56.ov
 have ha71 := hbk56.abu
 have ha72 := hbk56.abv
 have ha73 := hbk56.auv
 have hlo74 := xJ hlu58 hin62 hX40.size
 have hlo75 := xJ hlv59 hin62 hX40.size
 have hpx76 := hpx48
 refine qI rfl (zN (vs := [(.pointer (some ⟨b34, 0, none⟩)), (.int .i64 z44)]) Tryz.func90 nm90 rfl rfl rfl ?_)
 refine Calls.mono (form_spec hX63.pins ⟨hb68, ho69, ho70, ha71, ha72, ha73⟩ hok47.ar.ok hpl49) ?_
 rintro _ w79 ⟨u77, G78, rfl, hr80, hx81⟩
 refine ⟨_, rfl, ?_⟩
 have hX82 := hX63.tr hx81
 have hb85 := ho65.ext hx81
 refine q0 rfl rfl rfl (xF (cs' := [u77]) (us := [u77]) (v := (.agg [u77].toArray)) sz32 rfl rfl rfl (xA hr80.one) hX82.pins hb85 (Nat.le_of_ble_eq_true rfl) rfl (fun w87 hb88 hp89 hg90 hz91 => ?_))
 have hX92 := hX82.write hp89 hg90 ((yM hlo21))
 refine qe (zA ?_)
 refine wp_ret ?_
 refine zR ?_
 refine c_retc (cs := [u77]) rfl rfl rfl ag32 sz32 (fun j u hj => by rw [Nat.zero_add]; exact hb88.cell hj) ?_
 exact ⟨_, _, rfl, (by rw [l7_early hbn, ← hpd50, ← book_form hok47 hpl49]; exact hr80), hX92⟩

theorem l7Form_spec {w : World} {G : Pin} {t z : Int} (hP : Pins G w) (hg : GoodD t z) :
  Calls Tryz.prog 58 [(.agg [.int .i64 t, .int .i64 z].toArray)].toArray w fun e w' => ∃ (u : Value) (G' : Pin), e = .returned (.agg [u].toArray) ∧ RSl eNode G' u (l7F z.toNat t) ∧ Ext noS G w G' w' := by
 obtain ⟨dp, rfl⟩ : ∃ dp : Nat, z = (dp : Int) := ⟨z.toNat, by have := hg.pow; omega⟩
 simp only [Int.toNat_natCast]
 exact l7FormN_spec hP hg

theorem sNumberForm_spec {w : World} {G : Pin} {t z : Int} (hP : Pins G w) :
  Calls Tryz.prog 21 [(.agg [(.int .i64 t), (.int .i64 z)].toArray)].toArray w fun e w' => ∃ (u : Value) (G' : Pin), e = .returned (.tuple #[(.agg [u].toArray), .bool (nmB t z)]) ∧ RSl eNode G' u (nmF t z) ∧ Ext noS G w G' w' := by
 refine zW (n := 13) Tryz.func21 Tryz.ntmps21 rfl rfl ?_
 have hX0 : Ext noS G w G w := Ext.refl hP
 refine zD (zF ?_)
 refine qI rfl (xH [(.int .i64 t), (.int .i64 z)] (v := (.agg [(.int .i64 t), (.int .i64 z)].toArray)) rfl rfl hX0.pins (fun b1 w2 hk3 hb4 hp5 hl6 => ?_))
 have hX7 := hX0.step hp5 hl6
 have hlo8 : w.heap.size ≤ b1 := by have := hX0.size; omega
 obtain ⟨G9, hle10, hX11, hbp12, hf13⟩ := hb4.shut hX7 hlo8
 refine qI rfl (yW [(.slice none 0 0)] zr32 rfl hX11.pins (fun b14 w15 hk16 hb17 hp18 hl19 => ?_))
 have hX20 := hX11.step hp18 hl19
 have hlo21 : w.heap.size ≤ b14 := by have := hX11.size; omega
 refine qD rfl (zC (v := (.bool false)) rfl) ?_
 refine qe (zA (zD (zD (zF ?_))))
 refine qD rfl (yH (cs := [(.int .i64 t), (.int .i64 z)]) ag34 sz34 rfl (fun j u hj => hX20.pins _ _ _ (hbp12 _ _ (by simpa using hj)))) ?_
 refine qI rfl (zN (vs := [(.agg [(.int .i64 t), (.int .i64 z)].toArray)]) Tryz.func56 nm56 rfl rfl rfl ?_)
 refine Calls.mono (l2Good_spec (t := t) (z := z) hX20.pins) ?_
 rintro _ w23 ⟨G22, rfl, hx24⟩
 refine ⟨_, rfl, ?_⟩
 have hX25 := hX20.tr hx24
 have hb26 := hb17.ext hx24
 refine qD rfl (qB rfl) ?_
 refine qe (zA ?_)
 refine qY rfl rfl (fun h27 => ?_) (fun h27 => ?_)
 ·skip
  refine wp_skip ?_
  refine zA (zD (zF ?_))
  have hgd := decP_true.1 h27
  refine qD rfl (yH (cs := [(.int .i64 t), (.int .i64 z)]) ag34 sz34 rfl (fun j u hj => (Pins.of_le hX25.pins hx24.le) _ _ _ (hbp12 _ _ (by simpa using hj)))) ?_
  refine qI rfl (zN (vs := [(.agg [(.int .i64 t), (.int .i64 z)].toArray)]) Tryz.func58 nm58 rfl rfl rfl ?_)
  refine Calls.mono (l7Form_spec (t := t) (z := z) hX25.pins hgd) ?_
  rintro _ w30 ⟨u28, G29, rfl, hr31, hx32⟩
  refine ⟨_, rfl, ?_⟩
  have hX33 := hX25.tr hx32
  have hb34 := hb26.ext hx32
  refine qI rfl (zN (vs := [(.agg [u28].toArray)]) Tryz.func57 nm57 rfl rfl rfl ?_)
  refine Calls.mono (l3If_spec hX33.pins hr31) ?_
  rintro _ w37 ⟨u35, G36, rfl, hr38, hx39⟩
  refine ⟨_, rfl, ?_⟩
  have hX40 := hX33.tr hx39
  have hb41 := hb34.ext hx39
  refine qD rfl (xG (v := (.agg [u35].toArray)) rfl rfl) ?_
  refine qD rfl (xG (v := (.bool (decP (FitsP (l7F (z).toNat t))))) rfl rfl) ?_
  refine q0 rfl rfl rfl (xF (cs' := [u35]) (us := [u35]) (v := (.agg [u35].toArray)) sz32 rfl rfl rfl (xA hr38.one) hX40.pins hb41 (Nat.le_of_ble_eq_true rfl) rfl (fun w42 hb43 hp44 hg45 hz46 => ?_))
  have hX47 := hX40.write hp44 hg45 ((yM hlo21))
  refine qD rfl (zC (v := (.bool (decP (FitsP (l7F (z).toNat t))))) rfl) ?_
  refine qe (zA ?_)
  refine wp_ret ?_
  refine zR ?_
  refine c_retct (cs := [u35]) (v := (.bool (decP (FitsP (l7F (z).toNat t))))) rfl rfl rfl rfl rfl ag32 sz32 (fun j u hj => by rw [Nat.zero_add]; exact hb43.cell hj) ?_
  obtain ⟨e1, e2⟩ := nm_l7 hgd
  rw [e1, e2]
  exact ⟨_, _, rfl, hr38, hX47⟩
 refine zD (zF ?_)
 refine qD rfl (xR [(.slice none 0 0)] [(.slice none 0 0)] [] Tryz.underlying32 zr32 rfl pl32 rfl (fun _ h => by cases h) rfl) ?_
 refine q0 rfl rfl rfl (xF (cs' := [(.slice none 0 0)]) (us := [(.slice none 0 0)]) (v := (.agg [(.slice none 0 0)].toArray)) sz32 rfl rfl rfl (xA (by rfl)) hX25.pins hb26 (Nat.le_of_ble_eq_true rfl) rfl (fun w48 hb49 hp50 hg51 hz52 => ?_))
 have hX53 := hX25.write hp50 hg51 ((yM hlo21))
 refine qD rfl (zC (v := (.bool false)) rfl) ?_
 refine qe (zA ?_)
 refine wp_ret ?_
 refine zR ?_
 refine c_retct (cs := [(.slice none 0 0)]) (v := (.bool false)) rfl rfl rfl rfl rfl ag32 sz32 (fun j u hj => by rw [Nat.zero_add]; exact hb49.cell hj) ?_
 obtain ⟨e1, e2⟩ := nm_bad (decP_false.1 h27)
 rw [e1, e2]
 exact ⟨_, _, rfl, (xO _ _), hX53⟩

end NB6
end Go.Proofs.YtfnginkcmcfdfaaGreatDoor

set_option maxRecDepth 20000
set_option maxHeartbeats 2000000
namespace Go.Proofs.YtfnginkcmcfdfaaGreatDoor
namespace OR1
open Go.RowKit Go.GL Go.Proofs
open Go.Proofs.YtfnginkcmcfdfaaGreatDoor.B1
open Go.Proofs.YtfnginkcmcfdfaaGreatDoor.C1
open Go.Proofs.YtfnginkcmcfdfaaGreatDoor.D1
open Go.Proofs.YtfnginkcmcfdfaaGreatDoor.E1











def GeqC (m : Nat) (o b : Nat) (bu bv kv : Value) (ns : List Nd) (bs : List Int) : Prop := ∀ {w : World} {G : Pin} {ks : List Int} {x y : Int} (_ : Pins G w) (_ : Od 99 3 G w o b bu bv kv ns bs ks) (_ : 0 ≤ x ∧ x < ns.length) (_ : 0 ≤ y ∧ y < ns.length) (_ : ks.length = ns.length * ns.length), x.toNat + y.toNat < m → KOk ns ks (x.toNat + y.toNat + 1) →
  Calls Tryz.prog 139 [(.pointer (some ⟨o, 0, none⟩)), (.int .i64 x), (.int .i64 y)].toArray w fun e w' => ∃ (ks' : List Int) (G' : Pin), e = .returned (.bool (geB ns x y)) ∧ Od 99 3 G' w' o b bu bv kv ns bs ks' ∧ KRes ns ks ks' (x.toNat + y.toNat + 1) ∧ Ext (inO kv.ownBlock) G w G' w'

theorem look_spec {w : World} {G : Pin} {m : Nat} {o b : Nat} {bu bv kv : Value} {ns : List Nd} {bs : List Int} {ks : List Int} {x y : Int} (hP : Pins G w) (hO : Od 99 3 G w o b bu bv kv ns bs ks) (hx : 0 ≤ x ∧ x < ns.length) (hy : 0 ≤ y ∧ y < ns.length) (hkl : ks.length = ns.length * ns.length) (hok : BookOk ns bs) (ih : GeqC m o b bu bv kv ns bs) (hm : x.toNat + y.toNat ≤ m) (hkok : KOk ns ks (x.toNat + y.toNat)) :
  Calls Tryz.prog 166 [(.pointer (some ⟨o, 0, none⟩)), (.int .i64 x), (.int .i64 y)].toArray w fun e w' => ∃ (ks' : List Int) (G' : Pin), e = .returned (.bool (geB ns x y)) ∧ Od 99 3 G' w' o b bu bv kv ns bs ks' ∧ KRes ns ks ks' (x.toNat + y.toNat) ∧ Ext (inO kv.ownBlock) G w G' w' := by
 refine zW (n := 75) Tryz.func166 Tryz.ntmps166 rfl rfl ?_
 have hX0 : Ext (inO kv.ownBlock) G w G w := Ext.refl hP
 have hB := hO.bk
 have hbx := hB.bx
 have hou := hB.ou
 have hov := hB.ov
 have habu := hB.abu
 have habv := hB.abv
 have hauv := hB.auv
 have hlen := hok.len
 have hlim := hok.lim
 have hox := hO.ox
 have hok2 := hO.ok
 have haok := hO.aok
 have habk := hO.abk
 have hauk := hO.auk
 have havk := hO.avk
 have hlok : Lo w (inO kv.ownBlock) kv.ownBlock := qM
 have hoo : OptsOk ns := hok.optsOk
 have hlens := hok.lens
 refine zD (zF ?_)
 refine qD rfl (zC (v := (.bool false)) rfl) ?_
 refine qe (zA (zD (zD (zF ?_))))
 refine qD rfl (zC (v := (.int .i64 0)) rfl) ?_
 refine qe (zA ?_)
 refine zX ?_
 refine yK (fun (k : Nat) (en : Nat → Value) (W : World) => ∃ (env1 : Nat → Value) (i : Nat) (kqr : List Int) (GLr : Pin), en = (upd (upd (upd (upd env1 0 (.pointer (some ⟨o, 0, none⟩))) 1 (.int .i64 x)) 2 (.int .i64 y)) 7 (.int .i64 (i : Int))) ∧ k = (ns.getD (x).toNat default).r.length - i ∧ Ext (inO kv.ownBlock) G w GLr W ∧ Pin.le G GLr ∧ (i ≤ (ns.getD (x).toNat default).r.length) ∧ (KRes ns ks kqr (x.toNat + y.toNat)) ∧ (∀ q, q < i → geB ns y ((ns.getD (x).toNat default).r.getD q 0) = false) ∧ (Own eInt 3 GLr W 0 kv (kqr)) ∧ (Own eNode 99 GLr W 0 bu (ns)) ∧ (Own eInt 3 GLr W 0 bv (bs)) ∧ (Bx GLr W b [bu, bv]) ∧ (Bx GLr W o [(.pointer (some ⟨b, 0, none⟩)), kv])) _ ⟨_, 0, ks, G, (zE (x := 7) (zE (x := 2) (zE (x := 1) (zV (x := 0) rfl) rfl) rfl) rfl), rfl, hX0, Pin.le_refl _, Nat.zero_le _, (KRes.refl hkok), (fun q hq => absurd hq (Nat.not_lt_zero q)), hok2, hou, hov, hbx, hox⟩ ?_
 rintro k1 _ w2 ⟨env1, i, kqr, GLr, rfl, hk3, hX4, hlek1, hji, hkrr, hpr, hw5, hw6, hw7, hw8, hw9⟩
 have hklr := hkrr.len
 refine zD (zD (zF ?_))
 refine qD rfl (zB (v := (.int .i64 (i : Int))) rfl) ?_
 refine qD rfl (zB (v := (.pointer (some ⟨o, 0, none⟩))) rfl) ?_
 refine qD rfl (yZ rfl) ?_
 refine qD rfl (zJ (k := 0) rfl Tryz.underlying163 rfl nz100 rfl) ?_
 refine qD rfl (zL (u := (.pointer (some ⟨b, 0, none⟩))) ag100 rfl (hw9.cell (o := 0) rfl)) ?_
 refine qD rfl (yZ rfl) ?_
 refine qD rfl (zJ (k := 0) rfl Tryz.underlying102 rfl nz30 rfl) ?_
 refine qD rfl (zL (u := bu) ag30 rfl (hw8.cell (o := 0) rfl)) ?_
 refine qD rfl (zB (v := (.int .i64 x)) rfl) ?_
 refine qD rfl (zM Tryz.underlying30 sz99 (v := bu) rfl rfl hw6.read (by omega) (by omega)) ?_
 refine qD rfl (xQ (off := 1) Tryz.underlying99 rfl rfl nz65 (z := x) (k := 0) rfl hw6.read (by omega) (by omega)) ?_
 obtain ⟨u10, hr11, hl12⟩ := nm_nr (hw6.at (z := x) (by omega) (by omega)) (j := (x).toNat) rfl
 have hm13 := hr11.max
 refine qD rfl (hl12 ag65 rfl (Gadd.pins hX4.pins bu)) ?_
 refine qD rfl (zT Tryz.underlying65 (v := u10) rfl hr11) ?_
 refine qD rfl (yN rfl rfl) ?_
 refine qe (zA ?_)
 refine yA (p := ((i : Int) : Int) < (((ns.getD (x).toNat default).r).length : Int)) rfl rfl (fun h14 => ?_) (fun h14 => ?_)
 ·skip
  have hki := hoo.right (j := (x).toNat) (i := i) (by omega) (by omega)
  refine wp_skip ?_
  refine zA (zD ?_)
  refine zX ?_
  refine zD (zF ?_)
  refine qD rfl (zB (v := (.pointer (some ⟨o, 0, none⟩))) rfl) ?_
  refine qD rfl (zB (v := (.int .i64 y)) rfl) ?_
  refine qD rfl (zB (v := (.pointer (some ⟨o, 0, none⟩))) rfl) ?_
  refine qD rfl (yZ rfl) ?_
  refine qD rfl (zJ (k := 0) rfl Tryz.underlying163 rfl nz100 rfl) ?_
  refine qD rfl (zL (u := (.pointer (some ⟨b, 0, none⟩))) ag100 rfl (hw9.cell (o := 0) rfl)) ?_
  refine qD rfl (yZ rfl) ?_
  refine qD rfl (zJ (k := 0) rfl Tryz.underlying102 rfl nz30 rfl) ?_
  refine qD rfl (zL (u := bu) ag30 rfl (hw8.cell (o := 0) rfl)) ?_
  refine qD rfl (zB (v := (.int .i64 x)) rfl) ?_
  refine qD rfl (zM Tryz.underlying30 sz99 (v := bu) rfl rfl hw6.read (by omega) (by omega)) ?_
  refine qD rfl (xQ (off := 1) Tryz.underlying99 rfl rfl nz65 (z := x) (k := 0) rfl hw6.read (by omega) (by omega)) ?_
  obtain ⟨u15, hr16, hl17⟩ := nm_nr (hw6.at (z := x) (by omega) (by omega)) (j := (x).toNat) rfl
  have hm18 := hr16.max
  refine qD rfl (hl17 ag65 rfl (Gadd.pins hX4.pins bu)) ?_
  refine qD rfl (zB (v := (.int .i64 (i : Int))) rfl) ?_
  refine qD rfl (zM Tryz.underlying65 sz3 (v := u15) rfl rfl hr16 (by omega) (by omega)) ?_
  refine qD rfl (zK (r := ((ns.getD (x).toNat default).r).getD i 0) rfl ag3 (z := (i : Int)) rfl hr16 hX4.pins (by omega) (by omega)) ?_
  refine qI rfl (zN (vs := [(.pointer (some ⟨o, 0, none⟩)), (.int .i64 y), (.int .i64 (((ns.getD (x).toNat default).r).getD i 0))]) Tryz.func139 nm139 rfl rfl rfl ?_)
  refine Calls.mono (ih hX4.pins ⟨⟨hw8, hw6, hw7, habu, habv, hauv⟩, hw9, hw5, haok, habk, hauk, havk⟩ (by omega) (by omega) (by omega) (by omega) (hkrr.ok.mono (by omega))) ?_
  rintro _ w21 ⟨ks19, G20, rfl, hd22, hr23, hx24⟩
  refine ⟨_, rfl, ?_⟩
  have hX25 := hX4.trans hx24 (fun i hi => hlok i hi)
  have ho26 := hw6.extS hx24 (notO hauk)
  have ho27 := hw7.extS hx24 (notO havk)
  have hb28 := hw8.extS hx24 (notOb habk)
  have hb29 := hw9.extS hx24 (notOb haok)
  have hkl31 := hr23.len
  refine qe (zA ?_)
  refine c_if rfl rfl (fun h32 => ?_) (fun h32 => ?_)
  ·skip
   refine zD (zF ?_)
   refine qD rfl (zC (v := (.bool false)) rfl) ?_
   refine qe (zA ?_)
   refine wp_ret ?_
   refine zR ?_
   refine zO (v := (.bool false)) rfl rfl rfl ?_
   exact ⟨_, _, congrArg (fun z => Ending.returned (Value.bool z)) (geB_no_right hoo hx (by omega) h32).symm, ⟨⟨hb28, ho26, ho27, habu, habv, hauv⟩, hb29, hd22.ok, haok, habk, hauk, havk⟩, (hkrr.wide hr23 (by omega)), hX25⟩
  refine wp_skip ?_
  refine yF ?_
  refine zA (zF ?_)
  refine qD rfl (zB (v := (.int .i64 (i : Int))) rfl) ?_
  refine qD rfl (yL rfl rfl (by omega)) ?_
  refine qD rfl (zC (v := (.int .i64 ((i : Int) + 1))) rfl) ?_
  refine qe ?_
  refine yE ?_
  refine ⟨_, ?_, _, rfl, _, i + 1, ks19, G20, (zE (x := 7) (zE (x := 2) (zE (x := 1) (zV (x := 0) rfl) rfl) rfl) rfl), rfl, hX25, (Pin.le_trans hlek1 hx24.le), (by omega), (hkrr.wide hr23 (by omega)), (fun q hq => if h3 : q = i then h3 ▸ h32 else hpr q (by omega)), hd22.ok, ho26, ho27, hb28, hb29⟩
  omega
 refine wp_exit ?_
 refine zZ ?_
 refine yG ?_
 refine yC ?_
 refine zA (zD (zD (zF ?_)))
 refine qD rfl (zC (v := (.int .i64 0)) rfl) ?_
 refine qe (zA ?_)
 refine zX ?_
 refine yK (fun (k : Nat) (en : Nat → Value) (W : World) => ∃ (env1 : Nat → Value) (i2 : Nat) (kql : List Int) (GLl : Pin), en = (upd (upd (upd (upd env1 0 (.pointer (some ⟨o, 0, none⟩))) 1 (.int .i64 x)) 2 (.int .i64 y)) 8 (.int .i64 (i2 : Int))) ∧ k = (ns.getD (y).toNat default).l.length - i2 ∧ Ext (inO kv.ownBlock) G w GLl W ∧ Pin.le GLr GLl ∧ (i2 ≤ (ns.getD (y).toNat default).l.length) ∧ (KRes ns ks kql (x.toNat + y.toNat)) ∧ (∀ q, q < i2 → geB ns ((ns.getD (y).toNat default).l.getD q 0) x = false) ∧ (Own eInt 3 GLl W 0 kv (kql)) ∧ (Own eNode 99 GLl W 0 bu (ns)) ∧ (Own eInt 3 GLl W 0 bv (bs)) ∧ (Bx GLl W b [bu, bv]) ∧ (Bx GLl W o [(.pointer (some ⟨b, 0, none⟩)), kv])) _ ⟨_, 0, kqr, GLr, (zE (x := 8) (zE (x := 2) (zE (x := 1) (zV (x := 0) rfl) rfl) rfl) rfl), rfl, hX4, Pin.le_refl _, Nat.zero_le _, hkrr, (fun q hq => absurd hq (Nat.not_lt_zero q)), hw5, hw6, hw7, hw8, hw9⟩ ?_
 rintro k33 _ w34 ⟨env1, i2, kql, GLl, rfl, hk35, hX36, hlek33, hji2, hkrl, hpl, hw37, hw38, hw39, hw40, hw41⟩
 have hkll := hkrl.len
 refine zD (zD (zF ?_))
 refine qD rfl (zB (v := (.int .i64 (i2 : Int))) rfl) ?_
 refine qD rfl (zB (v := (.pointer (some ⟨o, 0, none⟩))) rfl) ?_
 refine qD rfl (yZ rfl) ?_
 refine qD rfl (zJ (k := 0) rfl Tryz.underlying163 rfl nz100 rfl) ?_
 refine qD rfl (zL (u := (.pointer (some ⟨b, 0, none⟩))) ag100 rfl (hw41.cell (o := 0) rfl)) ?_
 refine qD rfl (yZ rfl) ?_
 refine qD rfl (zJ (k := 0) rfl Tryz.underlying102 rfl nz30 rfl) ?_
 refine qD rfl (zL (u := bu) ag30 rfl (hw40.cell (o := 0) rfl)) ?_
 refine qD rfl (zB (v := (.int .i64 y)) rfl) ?_
 refine qD rfl (zM Tryz.underlying30 sz99 (v := bu) rfl rfl hw38.read (by omega) (by omega)) ?_
 refine qD rfl (xQ (off := 0) Tryz.underlying99 rfl rfl nz65 (z := y) (k := 0) rfl hw38.read (by omega) (by omega)) ?_
 obtain ⟨u42, hr43, hl44⟩ := nm_nl (hw38.at (z := y) (by omega) (by omega)) (j := (y).toNat) rfl
 have hm45 := hr43.max
 refine qD rfl (hl44 ag65 rfl (Gadd.pins hX36.pins bu)) ?_
 refine qD rfl (zT Tryz.underlying65 (v := u42) rfl hr43) ?_
 refine qD rfl (yN rfl rfl) ?_
 refine qe (zA ?_)
 refine yA (p := ((i2 : Int) : Int) < (((ns.getD (y).toNat default).l).length : Int)) rfl rfl (fun h46 => ?_) (fun h46 => ?_)
 ·skip
  have hki := hoo.left (j := (y).toNat) (i := i2) (by omega) (by omega)
  refine wp_skip ?_
  refine zA (zD ?_)
  refine zX ?_
  refine zD (zF ?_)
  refine qD rfl (zB (v := (.pointer (some ⟨o, 0, none⟩))) rfl) ?_
  refine qD rfl (zB (v := (.pointer (some ⟨o, 0, none⟩))) rfl) ?_
  refine qD rfl (yZ rfl) ?_
  refine qD rfl (zJ (k := 0) rfl Tryz.underlying163 rfl nz100 rfl) ?_
  refine qD rfl (zL (u := (.pointer (some ⟨b, 0, none⟩))) ag100 rfl (hw41.cell (o := 0) rfl)) ?_
  refine qD rfl (yZ rfl) ?_
  refine qD rfl (zJ (k := 0) rfl Tryz.underlying102 rfl nz30 rfl) ?_
  refine qD rfl (zL (u := bu) ag30 rfl (hw40.cell (o := 0) rfl)) ?_
  refine qD rfl (zB (v := (.int .i64 y)) rfl) ?_
  refine qD rfl (zM Tryz.underlying30 sz99 (v := bu) rfl rfl hw38.read (by omega) (by omega)) ?_
  refine qD rfl (xQ (off := 0) Tryz.underlying99 rfl rfl nz65 (z := y) (k := 0) rfl hw38.read (by omega) (by omega)) ?_
  obtain ⟨u47, hr48, hl49⟩ := nm_nl (hw38.at (z := y) (by omega) (by omega)) (j := (y).toNat) rfl
  have hm50 := hr48.max
  refine qD rfl (hl49 ag65 rfl (Gadd.pins hX36.pins bu)) ?_
  refine qD rfl (zB (v := (.int .i64 (i2 : Int))) rfl) ?_
  refine qD rfl (zM Tryz.underlying65 sz3 (v := u47) rfl rfl hr48 (by omega) (by omega)) ?_
  refine qD rfl (zK (r := ((ns.getD (y).toNat default).l).getD i2 0) rfl ag3 (z := (i2 : Int)) rfl hr48 hX36.pins (by omega) (by omega)) ?_
  refine qD rfl (zB (v := (.int .i64 x)) rfl) ?_
  refine qI rfl (zN (vs := [(.pointer (some ⟨o, 0, none⟩)), (.int .i64 (((ns.getD (y).toNat default).l).getD i2 0)), (.int .i64 x)]) Tryz.func139 nm139 rfl rfl rfl ?_)
  refine Calls.mono (ih hX36.pins ⟨⟨hw40, hw38, hw39, habu, habv, hauv⟩, hw41, hw37, haok, habk, hauk, havk⟩ (by omega) (by omega) (by omega) (by omega) (hkrl.ok.mono (by omega))) ?_
  rintro _ w53 ⟨ks51, G52, rfl, hd54, hr55, hx56⟩
  refine ⟨_, rfl, ?_⟩
  have hX57 := hX36.trans hx56 (fun i hi => hlok i hi)
  have ho58 := hw38.extS hx56 (notO hauk)
  have ho59 := hw39.extS hx56 (notO havk)
  have hb60 := hw40.extS hx56 (notOb habk)
  have hb61 := hw41.extS hx56 (notOb haok)
  have hkl63 := hr55.len
  refine qe (zA ?_)
  refine c_if rfl rfl (fun h64 => ?_) (fun h64 => ?_)
  ·skip
   refine zD (zF ?_)
   refine qD rfl (zC (v := (.bool false)) rfl) ?_
   refine qe (zA ?_)
   refine wp_ret ?_
   refine zR ?_
   refine zO (v := (.bool false)) rfl rfl rfl ?_
   exact ⟨_, _, congrArg (fun z => Ending.returned (Value.bool z)) (geB_no_left hoo hy (by omega) h64).symm, ⟨⟨hb60, ho58, ho59, habu, habv, hauv⟩, hb61, hd54.ok, haok, habk, hauk, havk⟩, (hkrl.wide hr55 (by omega)), hX57⟩
  refine wp_skip ?_
  refine yF ?_
  refine zA (zF ?_)
  refine qD rfl (zB (v := (.int .i64 (i2 : Int))) rfl) ?_
  refine qD rfl (yL rfl rfl (by omega)) ?_
  refine qD rfl (zC (v := (.int .i64 ((i2 : Int) + 1))) rfl) ?_
  refine qe ?_
  refine yE ?_
  refine ⟨_, ?_, _, rfl, _, i2 + 1, ks51, G52, (zE (x := 8) (zE (x := 2) (zE (x := 1) (zV (x := 0) rfl) rfl) rfl) rfl), rfl, hX57, (Pin.le_trans hlek33 hx56.le), (by omega), (hkrl.wide hr55 (by omega)), (fun q hq => if h3 : q = i2 then h3 ▸ h64 else hpl q (by omega)), hd54.ok, ho58, ho59, hb60, hb61⟩
  omega
 refine wp_exit ?_
 refine zZ ?_
 refine yG ?_
 refine yC ?_
 refine zA (zD (zF ?_))
 refine qD rfl (zC (v := (.bool true)) rfl) ?_
 refine qe (zA ?_)
 refine wp_ret ?_
 refine zR ?_
 refine zO (v := (.bool true)) rfl rfl rfl ?_
 exact ⟨_, _, congrArg (fun z => Ending.returned (Value.bool z)) (geB_yes hoo hx hy (fun q hq => hpr q (by omega)) (fun q hq => hpl q (by omega))).symm, ⟨⟨hw40, hw38, hw39, habu, habv, hauv⟩, hw41, hw37, haok, habk, hauk, havk⟩, hkrl, hX36⟩

theorem geq_step {w : World} {G : Pin} {m : Nat} {o b : Nat} {bu bv kv : Value} {ns : List Nd} {bs : List Int} {ks : List Int} {x y : Int} (hP : Pins G w) (hO : Od 99 3 G w o b bu bv kv ns bs ks) (hx : 0 ≤ x ∧ x < ns.length) (hy : 0 ≤ y ∧ y < ns.length) (hkl : ks.length = ns.length * ns.length) (hok : BookOk ns bs) (ih : GeqC m o b bu bv kv ns bs) (hm : x.toNat + y.toNat < m + 1) (hkok : KOk ns ks (x.toNat + y.toNat + 1)) :
  Calls Tryz.prog 139 [(.pointer (some ⟨o, 0, none⟩)), (.int .i64 x), (.int .i64 y)].toArray w fun e w' => ∃ (ks' : List Int) (G' : Pin), e = .returned (.bool (geB ns x y)) ∧ Od 99 3 G' w' o b bu bv kv ns bs ks' ∧ KRes ns ks ks' (x.toNat + y.toNat + 1) ∧ Ext (inO kv.ownBlock) G w G' w' := by
 refine zW (n := 52) Tryz.func139 Tryz.ntmps139 rfl rfl ?_
 have hX0 : Ext (inO kv.ownBlock) G w G w := Ext.refl hP
 have hB := hO.bk
 have hbx := hB.bx
 have hou := hB.ou
 have hov := hB.ov
 have habu := hB.abu
 have habv := hB.abv
 have hauv := hB.auv
 have hlen := hok.len
 have hlim := hok.lim
 have hox := hO.ox
 have hok2 := hO.ok
 have haok := hO.aok
 have habk := hO.abk
 have hauk := hO.auk
 have havk := hO.avk
 have hlok : Lo w (inO kv.ownBlock) kv.ownBlock := qM
 have hoo : OptsOk ns := hok.optsOk
 have hlens := hok.lens
 have hib := idx_bd hx hy hok.lim
 refine zD (zF ?_)
 refine qD rfl (zC (v := (.bool false)) rfl) ?_
 refine qe (zA (zD (zF ?_)))
 refine qD rfl (zB (v := (.int .i64 x)) rfl) ?_
 refine qD rfl (zB (v := (.pointer (some ⟨o, 0, none⟩))) rfl) ?_
 refine qD rfl (yZ rfl) ?_
 refine qD rfl (zJ (k := 0) rfl Tryz.underlying163 rfl nz100 rfl) ?_
 refine qD rfl (zL (u := (.pointer (some ⟨b, 0, none⟩))) ag100 rfl (hox.cell (o := 0) rfl)) ?_
 refine qD rfl (yZ rfl) ?_
 refine qD rfl (zJ (k := 0) rfl Tryz.underlying102 rfl nz30 rfl) ?_
 refine qD rfl (zL (u := bu) ag30 rfl (hbx.cell (o := 0) rfl)) ?_
 refine qD rfl (zT Tryz.underlying30 (v := bu) rfl hou.read) ?_
 refine qD rfl (r_mul rfl rfl (by omega)) ?_
 refine qD rfl (zB (v := (.int .i64 y)) rfl) ?_
 refine qD rfl (yL rfl rfl (by omega)) ?_
 refine qD rfl (zC (v := (.int .i64 ((x * (ns.length : Int)) + y))) rfl) ?_
 refine qe (zA (zD (zD (zF ?_))))
 refine qD rfl (zB (v := (.pointer (some ⟨o, 0, none⟩))) rfl) ?_
 refine qD rfl (yZ rfl) ?_
 refine qD rfl (zJ (k := 1) rfl Tryz.underlying163 rfl nz65 rfl) ?_
 refine qD rfl (zL (u := kv) ag65 rfl (hox.cell (o := 1) rfl)) ?_
 refine qD rfl (zB (v := (.int .i64 ((x * (ns.length : Int)) + y))) rfl) ?_
 refine qD rfl (zM Tryz.underlying65 sz3 (v := kv) rfl rfl hok2.read (by omega) (by omega)) ?_
 refine qD rfl (zK (r := ks.getD ((x * (ns.length : Int)) + y).toNat 0) rfl ag3 (z := ((x * (ns.length : Int)) + y)) rfl hok2.read (Gadd.pins hX0.pins kv) (by omega) (by omega)) ?_
 refine qD rfl (qJ rfl rfl) ?_
 refine qe (zA ?_)
 refine yA (p := (ks.getD ((x * (ns.length : Int)) + y).toNat 0 : Int) = 0) rfl rfl (fun h1 => ?_) (fun h1 => ?_)
 ·skip
  refine zD (zF ?_)
  refine qD rfl (zB (v := (.pointer (some ⟨o, 0, none⟩))) rfl) ?_
  refine qD rfl (yZ rfl) ?_
  refine qD rfl (zJ (k := 1) rfl Tryz.underlying163 rfl nz65 rfl) ?_
  refine qD rfl (zL (u := kv) ag65 rfl (hox.cell (o := 1) rfl)) ?_
  refine qD rfl (zB (v := (.int .i64 ((x * (ns.length : Int)) + y))) rfl) ?_
  refine qD rfl (zM Tryz.underlying65 sz3 (v := kv) rfl rfl hok2.read (by omega) (by omega)) ?_
  refine q0 rfl rfl rfl (o_set (E := eInt) (v := kv) (u := (.int .i64 2)) (z := ((x * (ns.length : Int)) + y)) (2) sz3 rfl rfl rfl rfl hX0.pins hok2 (by omega) (by omega) (fun w2 ho3 hp4 hg5 hz6 => ?_))
  have hX7 := hX0.write hp4 hg5 (hlok)
  have ho8 := hou.keptA hg5 hauk
  have ho9 := hov.keptA hg5 havk
  have hb10 := hbx.keptA hg5 habk
  have hb11 := hox.keptA hg5 haok
  have hm12 : ((ks).set ((x * (ns.length : Int)) + y).toNat 2).length = ks.length := List.length_set ..
  refine qe (zA (zD (zF ?_)))
  refine qD rfl (zB (v := (.pointer (some ⟨o, 0, none⟩))) rfl) ?_
  refine qD rfl (zB (v := (.int .i64 x)) rfl) ?_
  refine qD rfl (zB (v := (.int .i64 y)) rfl) ?_
  refine qI rfl (zN (vs := [(.pointer (some ⟨o, 0, none⟩)), (.int .i64 x), (.int .i64 y)]) Tryz.func166 nm166 rfl rfl rfl ?_)
  refine Calls.mono (look_spec hX7.pins ⟨⟨hb10, ho8, ho9, habu, habv, hauv⟩, hb11, ho3, haok, habk, hauk, havk⟩ hx hy (by rw [List.length_set]; exact hkl) hok ih (by omega) (KRes.prov hx hy hkok).1) ?_
  rintro _ w15 ⟨ks13, G14, rfl, hd16, hr17, hx18⟩
  refine ⟨_, rfl, ?_⟩
  have hX19 := hX7.trans hx18 (fun i hi => hlok i hi)
  have ho20 := ho8.extS hx18 (notO hauk)
  have ho21 := ho9.extS hx18 (notO havk)
  have hb22 := hb10.extS hx18 (notOb habk)
  have hb23 := hb11.extS hx18 (notOb haok)
  have hkl25 := hr17.len
  refine qe (zA ?_)
  refine c_if rfl rfl (fun h26 => ?_) (fun h26 => ?_)
  ·skip
   refine zF ?_
   refine qD rfl (zB (v := (.pointer (some ⟨o, 0, none⟩))) rfl) ?_
   refine qD rfl (yZ rfl) ?_
   refine qD rfl (zJ (k := 1) rfl Tryz.underlying163 rfl nz65 rfl) ?_
   refine qD rfl (zL (u := kv) ag65 rfl (hb23.cell (o := 1) rfl)) ?_
   refine qD rfl (zB (v := (.int .i64 ((x * (ns.length : Int)) + y))) rfl) ?_
   refine qD rfl (zM Tryz.underlying65 sz3 (v := kv) rfl rfl hd16.ok.read (by omega) (by omega)) ?_
   refine q0 rfl rfl rfl (o_set (E := eInt) (v := kv) (u := (.int .i64 1)) (z := ((x * (ns.length : Int)) + y)) (1) sz3 rfl rfl rfl rfl hX19.pins hd16.ok (by omega) (by omega) (fun w27 ho28 hp29 hg30 hz31 => ?_))
   have hX32 := hX19.write hp29 hg30 (hlok)
   have ho33 := ho20.keptA hg30 hauk
   have ho34 := ho21.keptA hg30 havk
   have hb35 := hb22.keptA hg30 habk
   have hb36 := hb23.keptA hg30 haok
   have hm37 : ((ks13).set ((x * (ns.length : Int)) + y).toNat 1).length = ks13.length := List.length_set ..
   refine qe (zA (zD (zF ?_)))
   refine qD rfl (zB (v := (.pointer (some ⟨o, 0, none⟩))) rfl) ?_
   refine qD rfl (yZ rfl) ?_
   refine qD rfl (zJ (k := 1) rfl Tryz.underlying163 rfl nz65 rfl) ?_
   refine qD rfl (zL (u := kv) ag65 rfl (hb36.cell (o := 1) rfl)) ?_
   refine qD rfl (zB (v := (.int .i64 ((x * (ns.length : Int)) + y))) rfl) ?_
   refine qD rfl (zM Tryz.underlying65 sz3 (v := kv) rfl rfl ho28.read (by omega) (by omega)) ?_
   refine qD rfl (zK (r := ((ks13).set ((x * (ns.length : Int)) + y).toNat 1).getD ((x * (ns.length : Int)) + y).toNat 0) rfl ag3 (z := ((x * (ns.length : Int)) + y)) rfl ho28.read (Gadd.pins hX32.pins kv) (by omega) (by omega)) ?_
   refine qD rfl (qJ rfl rfl) ?_
   refine qD rfl (zC (v := (.bool (decide ((((ks13).set ((x * (ns.length : Int)) + y).toNat 1).getD ((x * (ns.length : Int)) + y).toNat 0 : Int) = 1)))) rfl) ?_
   refine qe (zA ?_)
   refine wp_ret ?_
   refine zR ?_
   refine zO (v := (.bool (decide ((((ks13).set ((x * (ns.length : Int)) + y).toNat 1).getD ((x * (ns.length : Int)) + y).toNat 0 : Int) = 1)))) rfl rfl rfl ?_
   have htold := KRes.told hx hy hkl hkok hr17 (if_pos h26).symm
   exact ⟨_, _, congrArg (fun z => Ending.returned (Value.bool z)) htold.2, ⟨⟨hb35, ho33, ho34, habu, habv, hauv⟩, hb36, ho28, haok, habk, hauk, havk⟩, htold.1, hX32⟩
  refine wp_skip ?_
  refine zA (zD (zF ?_))
  refine qD rfl (zB (v := (.pointer (some ⟨o, 0, none⟩))) rfl) ?_
  refine qD rfl (yZ rfl) ?_
  refine qD rfl (zJ (k := 1) rfl Tryz.underlying163 rfl nz65 rfl) ?_
  refine qD rfl (zL (u := kv) ag65 rfl (hb23.cell (o := 1) rfl)) ?_
  refine qD rfl (zB (v := (.int .i64 ((x * (ns.length : Int)) + y))) rfl) ?_
  refine qD rfl (zM Tryz.underlying65 sz3 (v := kv) rfl rfl hd16.ok.read (by omega) (by omega)) ?_
  refine qD rfl (zK (r := ks13.getD ((x * (ns.length : Int)) + y).toNat 0) rfl ag3 (z := ((x * (ns.length : Int)) + y)) rfl hd16.ok.read (Gadd.pins hX19.pins kv) (by omega) (by omega)) ?_
  refine qD rfl (qJ rfl rfl) ?_
  refine qD rfl (zC (v := (.bool (decide ((ks13.getD ((x * (ns.length : Int)) + y).toNat 0 : Int) = 1)))) rfl) ?_
  refine qe (zA ?_)
  refine wp_ret ?_
  refine zR ?_
  refine zO (v := (.bool (decide ((ks13.getD ((x * (ns.length : Int)) + y).toNat 0 : Int) = 1)))) rfl rfl rfl ?_
  have htold := KRes.told hx hy hkl hkok hr17 (if_neg (by rw [h26]; decide)).symm
  exact ⟨_, _, congrArg (fun z => Ending.returned (Value.bool z)) htold.2, ⟨⟨hb22, ho20, ho21, habu, habv, hauv⟩, hb23, hd16.ok, haok, habk, hauk, havk⟩, htold.1, hX19⟩
 refine wp_skip ?_
 refine zA (zD (zF ?_))
 refine qD rfl (zB (v := (.pointer (some ⟨o, 0, none⟩))) rfl) ?_
 refine qD rfl (yZ rfl) ?_
 refine qD rfl (zJ (k := 1) rfl Tryz.underlying163 rfl nz65 rfl) ?_
 refine qD rfl (zL (u := kv) ag65 rfl (hox.cell (o := 1) rfl)) ?_
 refine qD rfl (zB (v := (.int .i64 ((x * (ns.length : Int)) + y))) rfl) ?_
 refine qD rfl (zM Tryz.underlying65 sz3 (v := kv) rfl rfl hok2.read (by omega) (by omega)) ?_
 refine qD rfl (zK (r := ks.getD ((x * (ns.length : Int)) + y).toNat 0) rfl ag3 (z := ((x * (ns.length : Int)) + y)) rfl hok2.read (Gadd.pins hX0.pins kv) (by omega) (by omega)) ?_
 refine qD rfl (qJ rfl rfl) ?_
 refine qD rfl (zC (v := (.bool (decide ((ks.getD ((x * (ns.length : Int)) + y).toNat 0 : Int) = 1)))) rfl) ?_
 refine qe (zA ?_)
 refine wp_ret ?_
 refine zR ?_
 refine zO (v := (.bool (decide ((ks.getD ((x * (ns.length : Int)) + y).toNat 0 : Int) = 1)))) rfl rfl rfl ?_
 exact ⟨_, _, congrArg (fun z => Ending.returned (Value.bool z)) (KOk.known hx hy hkok h1), ⟨⟨hbx, hou, hov, habu, habv, hauv⟩, hox, hok2, haok, habk, hauk, havk⟩, KRes.refl hkok, hX0⟩

theorem geq_all {o b : Nat} {bu bv kv : Value} {ns : List Nd} {bs : List Int} (hok : BookOk ns bs) : ∀ m, GeqC m o b bu bv kv ns bs
 | 0 => fun _ _ _ _ _ h _ => absurd h (Nat.not_lt_zero _)
 | m + 1 => fun hP hO hx hy hkl hm hk => geq_step hP hO hx hy hkl hok (geq_all hok m) hm hk
theorem geq_spec {w : World} {G : Pin} {o b : Nat} {bu bv kv : Value} {ns : List Nd} {bs : List Int} {ks : List Int} {x y : Int} (hP : Pins G w) (hO : Od 99 3 G w o b bu bv kv ns bs ks) (hx : 0 ≤ x ∧ x < ns.length) (hy : 0 ≤ y ∧ y < ns.length) (hkl : ks.length = ns.length * ns.length) (hok : BookOk ns bs) (hkok : KOk ns ks (x.toNat + y.toNat + 1)) :
  Calls Tryz.prog 139 [(.pointer (some ⟨o, 0, none⟩)), (.int .i64 x), (.int .i64 y)].toArray w fun e w' => ∃ (ks' : List Int) (G' : Pin), e = .returned (.bool (geB ns x y)) ∧ Od 99 3 G' w' o b bu bv kv ns bs ks' ∧ KRes ns ks ks' (x.toNat + y.toNat + 1) ∧ Ext (inO kv.ownBlock) G w G' w' :=
 geq_all hok _ hP hO hx hy hkl (Nat.lt_succ_self _) hkok

end OR1
end Go.Proofs.YtfnginkcmcfdfaaGreatDoor

set_option maxRecDepth 20000
set_option maxHeartbeats 2000000
namespace Go.Proofs.YtfnginkcmcfdfaaGreatDoor
namespace SF1
open Go.RowKit Go.GL Go.Proofs
open Go.Proofs.YtfnginkcmcfdfaaGreatDoor.B1
open Go.Proofs.YtfnginkcmcfdfaaGreatDoor.C1
open Go.Proofs.YtfnginkcmcfdfaaGreatDoor.D1
open Go.Proofs.YtfnginkcmcfdfaaGreatDoor.E1
open Go.Proofs.YtfnginkcmcfdfaaGreatDoor.OR1


theorem mk3 : (Tryz.prog.info? 3).map (fun i => (i.size, i.bytes, i.zero)) = some (1, 8, some (.int .i64 0)) := by kernel_rfl




theorem pl102 : (Tryz.prog.underlying 102).bind (placesD Tryz.prog) = some [(0, 1), (1, 1)] := by kernel_rfl
theorem pl163 : (Tryz.prog.underlying 163).bind (placesD Tryz.prog) = some [(0, 1), (1, 1)] := by kernel_rfl



theorem l4Of_spec {w : World} {G : Pin} {b : Nat} {bu bv : Value} {ns : List Nd} {bs : List Int} (hP : Pins G w) (hB : Bk 99 3 G w b bu bv ns bs) (hok : BookOk ns bs) :
  Calls Tryz.prog 138 [(.pointer (some ⟨b, 0, none⟩))].toArray w fun e w' => ∃ (o : Nat) (kv : Value) (G' : Pin), e = .returned (.pointer (some ⟨o, 0, none⟩)) ∧ Bx G' w' o [.pointer (some ⟨b, 0, none⟩), kv] ∧ Own eInt 3 G' w' w.heap.size kv (List.replicate (ns.length * ns.length) 0) ∧ w.heap.size ≤ o ∧ Apart (some o) kv.ownBlock ∧ Ext noS G w G' w' := by
 refine zW (n := 18) Tryz.func138 Tryz.ntmps138 rfl rfl ?_
 have hX0 : Ext noS G w G w := Ext.refl hP
 have hbx := hB.bx
 have hou := hB.ou
 have hov := hB.ov
 have habu := hB.abu
 have habv := hB.abv
 have hauv := hB.auv
 have hlen := hok.len
 have hlim := hok.lim
 have hsq := sq_bd hok.lim
 refine zD (zF ?_)
 refine qD rfl (zC (v := (.pointer none)) rfl) ?_
 refine qe (zA (zD ?_))
 have hq1 := Gadd.pins hX0.pins bu
 have hr2 := hou.read
 refine yX (S := fun wz => BxR wz b [bu, bv] ∧ Pins (Gadd G w bu) wz) (last := 16) (by kernel_rfl) rfl ?_
 have hl3 : Below w.heap.size w w.drew := (Below.refl _ _).drew
 have hp4 := hX0.pins.below hl3
 have hX5 := hX0.step hp4 hl3
 have hb8 := hbx.below hl3
 have hq9 := hq1.below hl3
 refine dT (i := 0) rfl rfl (by kernel_rfl) (fun _ _ => zB (v := (.pointer (some ⟨b, 0, none⟩))) rfl) ⟨hb8.reads, hq9⟩ ?_
 refine dT (i := 1) rfl rfl (by kernel_rfl) (fun _ _ => zB (v := (.pointer (some ⟨b, 0, none⟩))) rfl) ⟨hb8.reads, hq9⟩ ?_
 refine dT (i := 2) rfl rfl (by kernel_rfl) (fun _ _ => yZ rfl) ⟨hb8.reads, hq9⟩ ?_
 refine dT (i := 3) rfl rfl (by kernel_rfl) (fun _ _ => zJ (k := 0) rfl Tryz.underlying102 rfl nz30 rfl) ⟨hb8.reads, hq9⟩ ?_
 refine dT (i := 4) rfl rfl (by kernel_rfl) (fun _ hS => zL (u := bu) ag30 rfl (hS.1 0 _ rfl)) ⟨hb8.reads, hq9⟩ ?_
 refine dT (i := 5) rfl rfl (by kernel_rfl) (fun _ _ => zT Tryz.underlying30 (v := bu) rfl hr2) ⟨hb8.reads, hq9⟩ ?_
 refine dT (i := 6) rfl rfl (by kernel_rfl) (fun _ _ => zB (v := (.pointer (some ⟨b, 0, none⟩))) rfl) ⟨hb8.reads, hq9⟩ ?_
 refine dT (i := 7) rfl rfl (by kernel_rfl) (fun _ _ => yZ rfl) ⟨hb8.reads, hq9⟩ ?_
 refine dT (i := 8) rfl rfl (by kernel_rfl) (fun _ _ => zJ (k := 0) rfl Tryz.underlying102 rfl nz30 rfl) ⟨hb8.reads, hq9⟩ ?_
 refine dT (i := 9) rfl rfl (by kernel_rfl) (fun _ hS => zL (u := bu) ag30 rfl (hS.1 0 _ rfl)) ⟨hb8.reads, hq9⟩ ?_
 refine dT (i := 10) rfl rfl (by kernel_rfl) (fun _ _ => zT Tryz.underlying30 (v := bu) rfl hr2) ⟨hb8.reads, hq9⟩ ?_
 refine dT (i := 11) rfl rfl (by kernel_rfl) (fun _ _ => r_mul rfl rfl (by omega)) ⟨hb8.reads, hq9⟩ ?_
 refine zQ (i := 12) (by kernel_rfl) (zU (i := 12) rfl rfl rfl (zG rfl _) (o_make (E := eInt) 0 8 (.int .i64 0) Tryz.underlying65 mk3 (fun _ => rfl) rfl rfl hX5.pins (by omega) (by omega) (by omega) (fun u10 w11 ho12 hp13 hl14 hk15 => ?_)))
 have hX16 := hX5.step hp13 hl14
 have hb19 := hb8.below hl14
 have ho23 : Own eInt 3 G w11 w.heap.size u10 (List.replicate ((ns.length : Int) * (ns.length : Int)).toNat 0) := ho12.weaken hX5.size
 have hm24 : (List.replicate ((ns.length : Int) * (ns.length : Int)).toNat 0).length = ((ns.length : Int) * (ns.length : Int)).toNat := List.length_replicate ..
 have hq25 := hq9.below hl14
 refine ⟨fun _ => ⟨hb19.reads, hq25⟩, ?_⟩
 refine dT (i := 13) rfl rfl (by kernel_rfl) (fun _ _ => xR [(.pointer none), (.slice none 0 0)] [(.pointer (some ⟨b, 0, none⟩)), u10] [(0, (.pointer (some ⟨b, 0, none⟩)), [(.pointer (some ⟨b, 0, none⟩))]), (1, u10, [u10])] Tryz.underlying163 zr163 rfl pl163 rfl (List.forall_mem_cons.2 ⟨rfl, (List.forall_mem_cons.2 ⟨(xM ho23.one), (fun _ h => by cases h)⟩)⟩) rfl) ⟨hb19.reads, hq25⟩ ?_
 refine zQ (i := 14) (by kernel_rfl) (zU (i := 14) rfl rfl rfl (zG rfl _) (xH [(.pointer (some ⟨b, 0, none⟩)), u10] (v := (.agg [(.pointer (some ⟨b, 0, none⟩)), u10].toArray)) rfl rfl hX16.pins (fun b26 w27 hk28 hb29 hp30 hl31 => ?_)))
 have hX32 := hX16.step hp30 hl31
 have ho35 := ho23.below hl31
 have hb36 := hb19.below hl31
 have ha39 : Apart (some b26) u10.ownBlock := zH (congrArg some hk28) ho23.lt
 have hlo41 : w.heap.size ≤ b26 := by have := hX16.size; omega
 have hq42 := hq25.below hl31
 refine ⟨fun _ => ⟨hb36.reads, hq42⟩, ?_⟩
 refine dT (i := 15) rfl rfl (by kernel_rfl) (fun _ _ => zC (v := (.pointer (some ⟨b26, 0, none⟩))) rfl) ⟨hb36.reads, hq42⟩ ?_
 refine yJ (by kernel_rfl) ?_
 refine zA ?_
 refine wp_ret ?_
 refine zR ?_
 refine zO (v := (.pointer (some ⟨b26, 0, none⟩))) rfl rfl rfl ?_
 have hrow := ho35
 rw [sq_nat] at hrow
 exact ⟨_, _, _, rfl, hb29, hrow, hlo41, ha39, hX32⟩

theorem l4Geq_spec {w : World} {G : Pin} {u v : Value} {ax bs : List Nd} (hP : Pins G w) (hu : RSl eNode G u ax) (hv : RSl eNode G v bs) (ha : FormOk ax ∧ 1 ≤ ax.length) (hb : FormOk bs ∧ 1 ≤ bs.length) (hl : ax.length + bs.length ≤ 1048576) :
  Calls Tryz.prog 92 [(.agg [u].toArray), (.agg [v].toArray)].toArray w fun e w' => ∃ G', e = .returned (.bool (decP (geG (gOf ax) (gOf bs)))) ∧ Ext noS G w G' w' := by
 refine zW (n := 21) Tryz.func92 Tryz.ntmps92 rfl rfl ?_
 have hX0 : Ext noS G w G w := Ext.refl hP
 have h0 := addM_all qA ha.1 (by simp; omega)
 have hlen := h0.hi
 simp only [List.length_nil, Nat.zero_add] at hlen
 have h1 := addM_all h0.book hb.1 (by omega)
 have hl0 := root_lt h0 ha.2
 have hl1 := root_lt h1 hb.2
 have hlo1 := h1.lo
 have hge := ge_roots ha hb hl _ _ rfl rfl
 refine zD (zF ?_)
 refine qI rfl (xH [u] (v := (.agg [u].toArray)) rfl rfl hX0.pins (fun b1 w2 hk3 hb4 hp5 hl6 => ?_))
 have hX7 := hX0.step hp5 hl6
 have hlo8 : w.heap.size ≤ b1 := by have := hX0.size; omega
 obtain ⟨G9, hle10, hX11, hbp12, hf13⟩ := hb4.shut hX7 hlo8
 refine qI rfl (xH [v] (v := (.agg [v].toArray)) rfl rfl hX11.pins (fun b14 w15 hk16 hb17 hp18 hl19 => ?_))
 have hX20 := hX11.step hp18 hl19
 have hlo21 : w.heap.size ≤ b14 := by have := hX11.size; omega
 obtain ⟨G22, hle23, hX24, hbp25, hf26⟩ := hb17.shut hX20 hlo21
 refine qD rfl (zC (v := (.bool false)) rfl) ?_
 refine qe (zA (zD (zF ?_)))
 refine qD rfl (xR [(.slice none 0 0), (.slice none 0 0)] [(.slice none 0 0), (.slice none 0 0)] [] Tryz.underlying102 zr102 rfl pl102 rfl (fun _ h => by cases h) rfl) ?_
 refine qI rfl (xH [(.slice none 0 0), (.slice none 0 0)] (v := (.agg [(.slice none 0 0), (.slice none 0 0)].toArray)) rfl rfl hX24.pins (fun b27 w28 hk29 hb30 hp31 hl32 => ?_))
 have hX33 := hX24.step hp31 hl32
 have hlo34 : w.heap.size ≤ b27 := by have := hX24.size; omega
 refine qD rfl (zC (v := (.pointer (some ⟨b27, 0, none⟩))) rfl) ?_
 refine qe (zA (zD (zF ?_)))
 refine qD rfl (zB (v := (.pointer (some ⟨b27, 0, none⟩))) rfl) ?_
 refine qD rfl (yH (cs := [u]) ag32 sz32 rfl (fun j u hj => (Pins.of_le hX33.pins hle23) _ _ _ (hbp12 _ _ (by simpa using hj)))) ?_
 refine qI rfl (zN (vs := [(.pointer (some ⟨b27, 0, none⟩)), (.agg [u].toArray)]) Tryz.func91 nm91 rfl rfl rfl ?_)
 refine Calls.mono (root_spec hX33.pins ⟨hb30, (Own.nil _ _ _ _ _), (Own.nil _ _ _ _ _), apart_none.symm, apart_none.symm, apart_none⟩ qA (hu.mono (Pin.le_trans hle10 hle23)) ha (by first | omega | (simp; omega))) ?_
 rintro _ w38 ⟨u35, v36, G37, rfl, hbk39, hx40, hlu41, hlv42⟩
 refine ⟨_, rfl, ?_⟩
 have hin45 : ∀ i, inS b27 (.slice none 0 0) (.slice none 0 0) i → w.heap.size ≤ i ∨ noS i := qR (yM hlo34) (lo_none _ _) (lo_none _ _)
 have hX46 := hX33.trans hx40 hin45
 have hb47 := hbk39.bx
 have ho48 := hbk39.ou
 have ho49 := hbk39.ov
 have ha50 := hbk39.abu
 have ha51 := hbk39.abv
 have ha52 := hbk39.auv
 have hlo53 := xJ hlu41 hin45 hX33.size
 have hlo54 := xJ hlv42 hin45 hX33.size
 refine qD rfl (zC (v := (.int .i64 (rootM ([]) ([]) ax))) rfl) ?_
 refine qe (zA (zD (zF ?_)))
 refine qD rfl (zB (v := (.pointer (some ⟨b27, 0, none⟩))) rfl) ?_
 refine qD rfl (yH (cs := [v]) ag32 sz32 rfl (fun j u hj => (Pins.of_le hX46.pins hx40.le) _ _ _ (hbp25 _ _ (by simpa using hj)))) ?_
 refine qI rfl (zN (vs := [(.pointer (some ⟨b27, 0, none⟩)), (.agg [v].toArray)]) Tryz.func91 nm91 rfl rfl rfl ?_)
 refine Calls.mono (root_spec hX46.pins ⟨hb47, ho48, ho49, ha50, ha51, ha52⟩ h0.book (hv.mono (Pin.le_trans (Pin.le_trans hle10 hle23) hx40.le)) hb (by first | omega | (simp; omega))) ?_
 rintro _ w58 ⟨u55, v56, G57, rfl, hbk59, hx60, hlu61, hlv62⟩
 refine ⟨_, rfl, ?_⟩
 have hin65 : ∀ i, inS b27 u35 v36 i → w.heap.size ≤ i ∨ noS i := qR (yM hlo34) hlo53 hlo54
 have hX66 := hX46.trans hx60 hin65
 have hb67 := hbk59.bx
 have ho68 := hbk59.ou
 have ho69 := hbk59.ov
 have ha70 := hbk59.abu
 have ha71 := hbk59.abv
 have ha72 := hbk59.auv
 have hlo73 := xJ hlu61 hin65 hX46.size
 have hlo74 := xJ hlv62 hin65 hX46.size
 refine qD rfl (zC (v := (.int .i64 (rootM ((addM ([]) ([]) ax).2.1) ((addM ([]) ([]) ax).2.2) bs))) rfl) ?_
 refine qe (zA (zD (zF ?_)))
 refine qD rfl (zB (v := (.pointer (some ⟨b27, 0, none⟩))) rfl) ?_
 refine qI rfl (zN (vs := [(.pointer (some ⟨b27, 0, none⟩))]) Tryz.func138 nm138 rfl rfl rfl ?_)
 refine Calls.mono (l4Of_spec hX66.pins ⟨hb67, ho68, ho69, ha70, ha71, ha72⟩ h1.book) ?_
 rintro _ w78 ⟨b75, u76, G77, rfl, hb79, ho80, hlo81, ha82, hx83⟩
 refine ⟨_, rfl, ?_⟩
 have hX84 := hX66.tr hx83
 have ho85 := ho68.ext hx83
 have ho86 := ho69.ext hx83
 have hb87 := hb67.ext hx83
 have ha88 : Apart u76.ownBlock u55.ownBlock := zY ho80.lt ho68.lt
 have ha90 : Apart u76.ownBlock v56.ownBlock := zY ho80.lt ho69.lt
 have ha92 : Apart u76.ownBlock (some b27) := yD ho80.lt hb67.lt
 have hlo94 := Nat.le_trans hX66.size hlo81
 have ho95 := ho80.weaken hX66.size
 refine qD rfl (zB (v := (.int .i64 (rootM ([]) ([]) ax))) rfl) ?_
 refine qD rfl (zB (v := (.int .i64 (rootM ((addM ([]) ([]) ax).2.1) ((addM ([]) ([]) ax).2.2) bs))) rfl) ?_
 refine qI rfl (zN (vs := [(.pointer (some ⟨b75, 0, none⟩)), (.int .i64 (rootM ([]) ([]) ax)), (.int .i64 (rootM ((addM ([]) ([]) ax).2.1) ((addM ([]) ([]) ax).2.2) bs))]) Tryz.func139 nm139 rfl rfl rfl ?_)
 refine Calls.mono (geq_spec hX84.pins ⟨⟨hb87, ho85, ho86, ha70, ha71, ha72⟩, hb79, (ho95.weaken (Nat.zero_le _)), ha82, ha92.symm, ha88.symm, ha90.symm⟩ ⟨hl0.1, by omega⟩ hl1 (by simp) h1.book KOk.zero) ?_
 rintro _ w98 ⟨ks96, G97, rfl, hd99, hr100, hx101⟩
 refine ⟨_, rfl, ?_⟩
 have hX102 := hX84.trans hx101 (fun i hi => (yI ho95) i hi)
 have hkl108 := hr100.len
 refine qD rfl (zC (v := (.bool (geB ((addM ((addM ([]) ([]) ax).2.1) ((addM ([]) ([]) ax).2.2) bs).2.1) (rootM ([]) ([]) ax) (rootM ((addM ([]) ([]) ax).2.1) ((addM ([]) ([]) ax).2.2) bs)))) rfl) ?_
 refine qe (zA ?_)
 refine wp_ret ?_
 refine zR ?_
 refine zO (v := (.bool (geB ((addM ((addM ([]) ([]) ax).2.1) ((addM ([]) ([]) ax).2.2) bs).2.1) (rootM ([]) ([]) ax) (rootM ((addM ([]) ([]) ax).2.1) ((addM ([]) ([]) ax).2.2) bs)))) rfl rfl rfl ?_
 exact ⟨_, congrArg (fun z => Ending.returned (Value.bool z)) hge.1, hX102⟩

end SF1
end Go.Proofs.YtfnginkcmcfdfaaGreatDoor
