/- Texts of this claim in one file: FT1, NU2, NB1, NB2, FT2, LFT. -/
import Derived.Test.YtfnginkcmcfdfaaGreatDoorFp6
import Derived.Test.YtfnginkcmcfdfaaGreatDoorChecked
set_option maxRecDepth 20000
set_option maxHeartbeats 2000000
namespace Go.Proofs.YtfnginkcmcfdfaaGreatDoor
namespace FT1
open Go.RowKit Go.GL Go.Proofs
open Go.Proofs.YtfnginkcmcfdfaaGreatDoor.B1
open Go.Proofs.YtfnginkcmcfdfaaGreatDoor.C1
open Go.Proofs.YtfnginkcmcfdfaaGreatDoor.D1
open Go.Proofs.YtfnginkcmcfdfaaGreatDoor.E1
open Go.Proofs.YtfnginkcmcfdfaaGreatDoor.L1
open Go.Proofs.YtfnginkcmcfdfaaGreatDoor.G1
open Go.Proofs.YtfnginkcmcfdfaaGreatDoor.M1
open Go.Proofs.YtfnginkcmcfdfaaGreatDoor.N1
open Go.Proofs.YtfnginkcmcfdfaaGreatDoor.K1
open Go.Proofs.YtfnginkcmcfdfaaGreatDoor.PO1
open Go.Proofs.YtfnginkcmcfdfaaGreatDoor.PL1
open Go.Proofs.YtfnginkcmcfdfaaGreatDoor.PA1
open Go.Proofs.YtfnginkcmcfdfaaGreatDoor.SO1
open Go.Proofs.YtfnginkcmcfdfaaGreatDoor.OD1
open Go.Proofs.YtfnginkcmcfdfaaGreatDoor.FO1
open Go.Proofs.YtfnginkcmcfdfaaGreatDoor.NG1
open Go.Proofs.YtfnginkcmcfdfaaGreatDoor.NF1
open Go.Proofs.YtfnginkcmcfdfaaGreatDoor.SM1
open Go.Proofs.YtfnginkcmcfdfaaGreatDoor.NU1
open Go.Proofs.YtfnginkcmcfdfaaGreatDoor.NU3
open Go.Proofs.YtfnginkcmcfdfaaGreatDoor.NB4
open Go.Proofs.YtfnginkcmcfdfaaGreatDoor.NB5
open Go.Proofs.YtfnginkcmcfdfaaGreatDoor.NB6
open Go.Proofs.YtfnginkcmcfdfaaGreatDoor.OR1
open Go.Proofs.YtfnginkcmcfdfaaGreatDoor.SF1










theorem l7Fits_spec {w : World} {G : Pin} {u v : Value} {fs ms : List Nd} (hP : Pins G w) (hu : RSl eNode G u fs) (hv : RSl eNode G v ms) (hg : GoodP fs) (hm : (FormOk ms ∧ 1 ≤ ms.length) ∧ ms.length ≤ 120) :
  Calls Tryz.prog 48 [(.agg [u].toArray), (.agg [v].toArray)].toArray w fun e w' => ∃ G', e = .returned (.bool (decP (FitG (gOf fs) (gOf ms)))) ∧ Ext noS G w G' w' := by
 refine zW (n := 38) Tryz.func48 Tryz.ntmps48 rfl rfl ?_
 have hX0 : Ext noS G w G w := Ext.refl hP
 have hga := hg
 have hlast := last_opts hga
 have hml := hm.2
 have hll : (lastN fs).l.length ≤ 1048576 ∧ (lastN fs).r.length ≤ 1048576 := (qX hg).lens (fs.length - 1) (by have := hg.lo; omega)
 have hol1 := opts_len fs (lastN fs).l
 have hol2 := opts_len fs (lastN fs).r
 refine zD (zF ?_)
 refine qI rfl (xH [u] (v := (.agg [u].toArray)) rfl rfl hX0.pins (fun b1 w2 hk3 hb4 hp5 hl6 => ?_))
 have hX7 := hX0.step hp5 hl6
 have hlo8 : w.heap.size ≤ b1 := by have := hX0.size; omega
 obtain ⟨G9, hle10, hX11, hbp12, hf13⟩ := hb4.shut hX7 hlo8
 refine qI rfl (xH [v] (v := (.agg [v].toArray)) rfl rfl hX11.pins (fun b14 w15 hk16 hb17 hp18 hl19 => ?_))
 have hX20 := hX11.step hp18 hl19
 have hlo21 : w.heap.size ≤ b14 := by have := hX11.size; omega
 obtain ⟨G22, hle23, hX24, hbp25, hf26⟩ := hb17.shut hX20 hlo21
 refine qD rfl (zC (v := (.bool false)) rfl) ?_
 refine qe (zA (zD (zF ?_)))
 refine qD rfl (yH (cs := [u]) ag32 sz32 rfl (fun j u hj => (Pins.of_le hX24.pins hle23) _ _ _ (hbp12 _ _ (by simpa using hj)))) ?_
 refine qI rfl (zN (vs := [(.agg [u].toArray)]) Tryz.func64 nm64 rfl rfl rfl ?_)
 refine Calls.mono (l3Opts_spec hX24.pins (hu.mono (Pin.le_trans hle10 hle23)) hg) ?_
 rintro _ w30 ⟨u27, v28, G29, rfl, hr31, hr32, hx33⟩
 refine ⟨_, rfl, ?_⟩
 have hX34 := hX24.tr hx33
 refine qD rfl (zB (v := (.tuple #[u27, v28])) rfl) ?_
 refine qD rfl (xG (v := u27) rfl rfl) ?_
 refine qD rfl (xG (v := v28) rfl rfl) ?_
 refine qD rfl (zC (v := u27) rfl) ?_
 refine qD rfl (zC (v := v28) rfl) ?_
 refine qe (zA (zD (zD (zF ?_))))
 refine qD rfl (zC (v := (.int .i64 0)) rfl) ?_
 refine qe (zA ?_)
 refine zX ?_
 refine yK (fun (k : Nat) (en : Nat → Value) (W : World) => ∃ (env1 : Nat → Value) (j : Nat) (GL1 : Pin), en = (upd (upd (upd (upd env1 3 (.pointer (some ⟨b14, 0, none⟩))) 5 u27) 6 v28) 7 (.int .i64 (j : Int))) ∧ k = (lastN fs).l.length - j ∧ Ext noS G w GL1 W ∧ Pin.le G29 GL1 ∧ (j ≤ (lastN fs).l.length) ∧ (∀ x, x < j → decP (geG (gOf ((optsS fs (lastN fs).l).getD x [])) (gOf ms)) = false)) _ ⟨_, 0, G29, (zE (x := 7) (zE (x := 6) (zE (x := 5) (zV (x := 3) rfl) rfl) rfl) rfl), rfl, hX34, Pin.le_refl _, Nat.zero_le _, (fun q hq => absurd hq (Nat.not_lt_zero q))⟩ ?_
 rintro k35 _ w36 ⟨env1, j, GL1, rfl, hk37, hX38, hlek35, hjj, hpj⟩
 have holj := opts_len fs (lastN fs).l
 refine zD (zD (zF ?_))
 refine qD rfl (zB (v := (.int .i64 (j : Int))) rfl) ?_
 refine qD rfl (zB (v := u27) rfl) ?_
 refine qD rfl (zT Tryz.underlying79 (v := u27) rfl hr31) ?_
 refine qD rfl (yN rfl rfl) ?_
 refine qe (zA ?_)
 refine yA (p := ((j : Int) : Int) < ((optsS fs (lastN fs).l).length : Int)) rfl rfl (fun h39 => ?_) (fun h39 => ?_)
 ·skip
  have hoo := opt_ok hga hlast.1 (i := j) (by omega)
  have hoo1 := hoo.2.1
  refine wp_skip ?_
  refine zA (zD ?_)
  refine zX ?_
  refine zD ?_
  refine yX (S := fun wz => Pins GL1 wz) (last := 6) (by kernel_rfl) rfl ?_
  have hl40 : Below w36.heap.size w36 w36.drew := (Below.refl _ _).drew
  have hp41 := hX38.pins.below hl40
  have hX42 := hX38.step hp41 hl40
  refine dT (i := 0) rfl rfl (by kernel_rfl) (fun _ _ => zB (v := u27) rfl) hX42.pins ?_
  refine dT (i := 1) rfl rfl (by kernel_rfl) (fun _ _ => zB (v := (.int .i64 (j : Int))) rfl) hX42.pins ?_
  refine dT (i := 2) rfl rfl (by kernel_rfl) (fun _ _ => zM Tryz.underlying79 sz32 (v := u27) rfl rfl hr31 (by omega) (by omega)) hX42.pins ?_
  obtain ⟨u43, hr44, hl45⟩ := nm_form (hr31.at (z := (j : Int)) (by omega) (by omega)) (j := j) rfl
  have hm46 := hr44.max
  refine dT (i := 3) rfl rfl (by kernel_rfl) (fun _ hS => hl45 ag32 sz32 rfl (Pins.of_le hS hlek35)) hX42.pins ?_
  refine dT (i := 4) rfl rfl (by kernel_rfl) (fun _ hS => yH (cs := [v]) ag32 sz32 rfl (fun j u hj => (Pins.of_le hS (Pin.le_trans hx33.le hlek35)) _ _ _ (hbp25 _ _ (by simpa using hj)))) hX42.pins ?_
  refine zQ (i := 5) (by kernel_rfl) (zU (i := 5) rfl rfl rfl (zG rfl _) (zN (vs := [(.agg [u43].toArray), (.agg [v].toArray)]) Tryz.func92 nm92 rfl rfl rfl ?_))
  refine Calls.mono (l4Geq_spec hX42.pins (hr44.mono hlek35) (hv.mono (Pin.le_trans (Pin.le_trans (Pin.le_trans hle10 hle23) hx33.le) hlek35)) hoo.1 hm.1 (by omega)) ?_
  rintro _ w48 ⟨G47, rfl, hx49⟩
  refine ⟨_, rfl, ?_⟩
  have hX50 := hX42.tr hx49
  refine ⟨fun _ => (Pins.of_le hX50.pins hx49.le), ?_⟩
  refine yJ (by kernel_rfl) ?_
  refine zA ?_
  refine c_if rfl rfl (fun h51 => ?_) (fun h51 => ?_)
  ·skip
   refine zD (zF ?_)
   refine qD rfl (zC (v := (.bool false)) rfl) ?_
   refine qe (zA ?_)
   refine wp_ret ?_
   refine zR ?_
   refine zO (v := (.bool false)) rfl rfl rfl ?_
   exact ⟨_, congrArg (fun z => Ending.returned (Value.bool z)) (decP_false.2 (fun g => by have h5 := ((fit_form hga).1 g).1 j (by omega); rw [h51] at h5; cases h5)).symm, hX50⟩
  refine wp_skip ?_
  refine yF ?_
  refine zA (zF ?_)
  refine qD rfl (zB (v := (.int .i64 (j : Int))) rfl) ?_
  refine qD rfl (yL rfl rfl (by omega)) ?_
  refine qD rfl (zC (v := (.int .i64 ((j : Int) + 1))) rfl) ?_
  refine qe ?_
  refine yE ?_
  refine ⟨_, ?_, _, rfl, _, j + 1, G47, (zE (x := 7) (zE (x := 6) (zE (x := 5) (zV (x := 3) rfl) rfl) rfl) rfl), rfl, hX50, (Pin.le_trans hlek35 hx49.le), (by omega), (fun x h2 => if h3 : x = j then h3 ▸ h51 else hpj x (by omega))⟩
  omega
 refine wp_exit ?_
 refine zZ ?_
 refine yG ?_
 refine yC ?_
 refine zA (zD (zD (zF ?_)))
 refine qD rfl (zC (v := (.int .i64 0)) rfl) ?_
 refine qe (zA ?_)
 refine zX ?_
 refine yK (fun (k : Nat) (en : Nat → Value) (W : World) => ∃ (env1 : Nat → Value) (i : Nat) (GL2 : Pin), en = (upd (upd (upd env1 3 (.pointer (some ⟨b14, 0, none⟩))) 6 v28) 8 (.int .i64 (i : Int))) ∧ k = (lastN fs).r.length - i ∧ Ext noS G w GL2 W ∧ Pin.le GL1 GL2 ∧ (i ≤ (lastN fs).r.length) ∧ (∀ x, x < i → decP (geG (gOf ms) (gOf ((optsS fs (lastN fs).r).getD x []))) = false)) _ ⟨_, 0, GL1, (zE (x := 8) (zE (x := 6) (zV (x := 3) rfl) rfl) rfl), rfl, hX38, Pin.le_refl _, Nat.zero_le _, (fun q hq => absurd hq (Nat.not_lt_zero q))⟩ ?_
 rintro k52 _ w53 ⟨env1, i, GL2, rfl, hk54, hX55, hlek52, hji, hpi⟩
 have holi := opts_len fs (lastN fs).r
 refine zD (zD (zF ?_))
 refine qD rfl (zB (v := (.int .i64 (i : Int))) rfl) ?_
 refine qD rfl (zB (v := v28) rfl) ?_
 refine qD rfl (zT Tryz.underlying79 (v := v28) rfl hr32) ?_
 refine qD rfl (yN rfl rfl) ?_
 refine qe (zA ?_)
 refine yA (p := ((i : Int) : Int) < ((optsS fs (lastN fs).r).length : Int)) rfl rfl (fun h56 => ?_) (fun h56 => ?_)
 ·skip
  have hoo := opt_ok hga hlast.2 (i := i) (by omega)
  have hoo1 := hoo.2.1
  refine wp_skip ?_
  refine zA (zD ?_)
  refine zX ?_
  refine zD ?_
  refine yX (S := fun wz => Pins GL2 wz) (last := 6) (by kernel_rfl) rfl ?_
  have hl57 : Below w53.heap.size w53 w53.drew := (Below.refl _ _).drew
  have hp58 := hX55.pins.below hl57
  have hX59 := hX55.step hp58 hl57
  refine dT (i := 0) rfl rfl (by kernel_rfl) (fun _ hS => yH (cs := [v]) ag32 sz32 rfl (fun j u hj => (Pins.of_le hS (Pin.le_trans (Pin.le_trans hx33.le hlek35) hlek52)) _ _ _ (hbp25 _ _ (by simpa using hj)))) hX59.pins ?_
  refine dT (i := 1) rfl rfl (by kernel_rfl) (fun _ _ => zB (v := v28) rfl) hX59.pins ?_
  refine dT (i := 2) rfl rfl (by kernel_rfl) (fun _ _ => zB (v := (.int .i64 (i : Int))) rfl) hX59.pins ?_
  refine dT (i := 3) rfl rfl (by kernel_rfl) (fun _ _ => zM Tryz.underlying79 sz32 (v := v28) rfl rfl hr32 (by omega) (by omega)) hX59.pins ?_
  obtain ⟨u60, hr61, hl62⟩ := nm_form (hr32.at (z := (i : Int)) (by omega) (by omega)) (j := i) rfl
  have hm63 := hr61.max
  refine dT (i := 4) rfl rfl (by kernel_rfl) (fun _ hS => hl62 ag32 sz32 rfl (Pins.of_le hS (Pin.le_trans hlek35 hlek52))) hX59.pins ?_
  refine zQ (i := 5) (by kernel_rfl) (zU (i := 5) rfl rfl rfl (zG rfl _) (zN (vs := [(.agg [v].toArray), (.agg [u60].toArray)]) Tryz.func92 nm92 rfl rfl rfl ?_))
  refine Calls.mono (l4Geq_spec hX59.pins (hv.mono (Pin.le_trans (Pin.le_trans (Pin.le_trans (Pin.le_trans hle10 hle23) hx33.le) hlek35) hlek52)) (hr61.mono (Pin.le_trans hlek35 hlek52)) hm.1 hoo.1 (by omega)) ?_
  rintro _ w65 ⟨G64, rfl, hx66⟩
  refine ⟨_, rfl, ?_⟩
  have hX67 := hX59.tr hx66
  refine ⟨fun _ => (Pins.of_le hX67.pins hx66.le), ?_⟩
  refine yJ (by kernel_rfl) ?_
  refine zA ?_
  refine c_if rfl rfl (fun h68 => ?_) (fun h68 => ?_)
  ·skip
   refine zD (zF ?_)
   refine qD rfl (zC (v := (.bool false)) rfl) ?_
   refine qe (zA ?_)
   refine wp_ret ?_
   refine zR ?_
   refine zO (v := (.bool false)) rfl rfl rfl ?_
   exact ⟨_, congrArg (fun z => Ending.returned (Value.bool z)) (decP_false.2 (fun g => by have h5 := ((fit_form hga).1 g).2 i (by omega); rw [h68] at h5; cases h5)).symm, hX67⟩
  refine wp_skip ?_
  refine yF ?_
  refine zA (zF ?_)
  refine qD rfl (zB (v := (.int .i64 (i : Int))) rfl) ?_
  refine qD rfl (yL rfl rfl (by omega)) ?_
  refine qD rfl (zC (v := (.int .i64 ((i : Int) + 1))) rfl) ?_
  refine qe ?_
  refine yE ?_
  refine ⟨_, ?_, _, rfl, _, i + 1, G64, (zE (x := 8) (zE (x := 6) (zV (x := 3) rfl) rfl) rfl), rfl, hX67, (Pin.le_trans hlek52 hx66.le), (by omega), (fun x h2 => if h3 : x = i then h3 ▸ h68 else hpi x (by omega))⟩
  omega
 refine wp_exit ?_
 refine zZ ?_
 refine yG ?_
 refine yC ?_
 refine zA (zD (zF ?_))
 refine qD rfl (zC (v := (.bool true)) rfl) ?_
 refine qe (zA ?_)
 refine wp_ret ?_
 refine zR ?_
 refine zO (v := (.bool true)) rfl rfl rfl ?_
 exact ⟨_, congrArg (fun z => Ending.returned (Value.bool z)) (decP_true.2 ((fit_form hga).2 ⟨fun x hx => hpj x (by omega), fun x hx => hpi x (by omega)⟩)).symm, hX55⟩

theorem sFitsNumber_spec {w : World} {G : Pin} {v : Value} {fs : List Nd} {t z : Int} (hP : Pins G w) (hv : RSl eNode G v fs) :
  Calls Tryz.prog 16 [(.agg [v].toArray), (.agg [(.int .i64 t), (.int .i64 z)].toArray)].toArray w fun e w' => ∃ G', e = .returned (.tuple #[.bool (ftV fs t z), .bool (ftB fs t z)]) ∧ Ext noS G w G' w' := by
 refine zW (n := 23) Tryz.func16 Tryz.ntmps16 rfl rfl ?_
 have hX0 : Ext noS G w G w := Ext.refl hP
 refine zD (zF ?_)
 refine qI rfl (xH [v] (v := (.agg [v].toArray)) rfl rfl hX0.pins (fun b1 w2 hk3 hb4 hp5 hl6 => ?_))
 have hX7 := hX0.step hp5 hl6
 have hlo8 : w.heap.size ≤ b1 := by have := hX0.size; omega
 obtain ⟨G9, hle10, hX11, hbp12, hf13⟩ := hb4.shut hX7 hlo8
 refine qI rfl (xH [(.int .i64 t), (.int .i64 z)] (v := (.agg [(.int .i64 t), (.int .i64 z)].toArray)) rfl rfl hX11.pins (fun b14 w15 hk16 hb17 hp18 hl19 => ?_))
 have hX20 := hX11.step hp18 hl19
 have hlo21 : w.heap.size ≤ b14 := by have := hX11.size; omega
 obtain ⟨G22, hle23, hX24, hbp25, hf26⟩ := hb17.shut hX20 hlo21
 refine qD rfl (zC (v := (.bool false)) rfl) ?_
 refine qD rfl (zC (v := (.bool false)) rfl) ?_
 refine qe (zA (zD (zF ?_)))
 refine qD rfl (yH (cs := [(.int .i64 t), (.int .i64 z)]) ag34 sz34 rfl (fun j u hj => hX24.pins _ _ _ (hbp25 _ _ (by simpa using hj)))) ?_
 refine qI rfl (zN (vs := [(.agg [(.int .i64 t), (.int .i64 z)].toArray)]) Tryz.func21 nm21 rfl rfl rfl ?_)
 refine Calls.mono (sNumberForm_spec (t := t) (z := z) hX24.pins) ?_
 rintro _ w29 ⟨u27, G28, rfl, hr30, hx31⟩
 refine ⟨_, rfl, ?_⟩
 have hX32 := hX24.tr hx31
 refine qD rfl (zB (v := (.tuple #[(.agg [u27].toArray), (.bool (nmB t z))])) rfl) ?_
 refine qD rfl (xG (v := (.agg [u27].toArray)) rfl rfl) ?_
 refine qD rfl (xG (v := (.bool (nmB t z))) rfl rfl) ?_
 refine qI rfl (yW [(.slice none 0 0)] zr32 rfl hX32.pins (fun b33 w34 hk35 hb36 hp37 hl38 => ?_))
 have hX39 := hX32.step hp37 hl38
 have hlo40 : w.heap.size ≤ b33 := by have := hX32.size; omega
 refine q0 rfl rfl rfl (xF (cs' := [u27]) (us := [u27]) (v := (.agg [u27].toArray)) sz32 rfl rfl rfl (xA hr30.one) hX39.pins hb36 (Nat.le_of_ble_eq_true rfl) rfl (fun w41 hb42 hp43 hg44 hz45 => ?_))
 have hX46 := hX39.write hp43 hg44 ((yM hlo40))
 obtain ⟨G47, hle48, hX49, hbp50, hf51⟩ := hb42.shut hX46 hlo40
 refine qD rfl (zC (v := (.bool (nmB t z))) rfl) ?_
 refine qe (zA (zD (zD (zF ?_))))
 refine qD rfl (yH (cs := [v]) ag32 sz32 rfl (fun j u hj => (Pins.of_le hX49.pins (Pin.le_trans (Pin.le_trans hle23 hx31.le) hle48)) _ _ _ (hbp12 _ _ (by simpa using hj)))) ?_
 refine qI rfl (zN (vs := [(.agg [v].toArray)]) Tryz.func47 nm47 rfl rfl rfl ?_)
 refine Calls.mono (l3Good_spec hX49.pins (hv.mono (Pin.le_trans (Pin.le_trans (Pin.le_trans hle10 hle23) hx31.le) hle48))) ?_
 rintro _ w53 ⟨G52, rfl, hx54⟩
 refine ⟨_, rfl, ?_⟩
 have hX55 := hX49.tr hx54
 refine qD rfl (qB rfl) ?_
 refine qD rfl (zB (v := (.bool (!(decP (GoodS fs))))) rfl) ?_
 refine qbn (t := 16) rfl (fun h56 => ?_) (fun h56 => ?_)
 ·skip
  refine qdg rfl rfl rfl rfl rfl rfl (zB (v := (.bool (nmB t z))) rfl) ?_
  refine qdg rfl rfl rfl rfl rfl rfl (qB rfl) ?_
  refine qD rfl (yT (v := (.bool (!(nmB t z)))) rfl rfl) ?_
  refine qe (zA ?_)
  refine qY rfl rfl (fun h57 => ?_) (fun h57 => ?_)
  ·skip
   refine wp_skip ?_
   refine zA (zD (zF ?_))
   have hgb : goodB fs = true := (good_eq fs).symm.trans h56
   have hga := goodB_true.1 hgb
   have hnb := h57
   have hnm := nm_num hnb
   have hms := nmF_form hnb
   refine qD rfl (yH (cs := [v]) ag32 sz32 rfl (fun j u hj => (Pins.of_le hX55.pins (Pin.le_trans (Pin.le_trans (Pin.le_trans hle23 hx31.le) hle48) hx54.le)) _ _ _ (hbp12 _ _ (by simpa using hj)))) ?_
   refine qD rfl (yH (cs := [u27]) ag32 sz32 rfl (fun j u hj => (Pins.of_le hX55.pins hx54.le) _ _ _ (hbp50 _ _ (by simpa using hj)))) ?_
   refine qI rfl (zN (vs := [(.agg [v].toArray), (.agg [u27].toArray)]) Tryz.func48 nm48 rfl rfl rfl ?_)
   refine Calls.mono (l7Fits_spec hX55.pins (hv.mono (Pin.le_trans (Pin.le_trans (Pin.le_trans (Pin.le_trans hle10 hle23) hx31.le) hle48) hx54.le)) (hr30.mono (Pin.le_trans hle48 hx54.le)) hga hms.1) ?_
   rintro _ w59 ⟨G58, rfl, hx60⟩
   refine ⟨_, rfl, ?_⟩
   have hX61 := hX55.tr hx60
   refine qD rfl (zC (v := (.bool (decP (FitG (gOf fs) (gOf (nmF t z)))))) rfl) ?_
   refine qD rfl (zC (v := (.bool true)) rfl) ?_
   refine qe (zA ?_)
   refine wp_ret ?_
   refine zR ?_
   refine c_ret2 (v := (.bool (decP (FitG (gOf fs) (gOf (nmF t z)))))) (u := (.bool true)) rfl rfl rfl rfl rfl ?_
   obtain ⟨e1, e2⟩ := ftn_yes hgb hnb
   rw [e1, e2, ← hms.2]
   exact ⟨_, rfl, hX61⟩
  refine zD (zF ?_)
  refine qD rfl (zC (v := (.bool false)) rfl) ?_
  refine qD rfl (zC (v := (.bool false)) rfl) ?_
  refine qe (zA ?_)
  refine wp_ret ?_
  refine zR ?_
  refine c_ret2 (v := (.bool false)) (u := (.bool false)) rfl rfl rfl rfl rfl ?_
  obtain ⟨e1, e2⟩ := ftn_no (fs := fs) (t := t) (z := z) h57
  rw [e1, e2]
  exact ⟨_, rfl, hX55⟩
 refine qs rfl rfl rfl rfl rfl rfl ?_
 refine qs rfl rfl rfl rfl rfl rfl ?_
 refine qD rfl (xC (v := (.bool true)) rfl rfl) ?_
 refine qe (zA ?_)
 refine c_ifT rfl rfl ?_
 refine zD (zF ?_)
 refine qD rfl (zC (v := (.bool false)) rfl) ?_
 refine qD rfl (zC (v := (.bool false)) rfl) ?_
 refine qe (zA ?_)
 refine wp_ret ?_
 refine zR ?_
 refine c_ret2 (v := (.bool false)) (u := (.bool false)) rfl rfl rfl rfl rfl ?_
 obtain ⟨e1, e2⟩ := ftn_bad (fs := fs) (t := t) (z := z) ((good_eq fs).symm.trans h56)
 rw [e1, e2]
 exact ⟨_, rfl, hX55⟩

end FT1
end Go.Proofs.YtfnginkcmcfdfaaGreatDoor

set_option maxRecDepth 20000
set_option maxHeartbeats 2000000
namespace Go.Proofs.YtfnginkcmcfdfaaGreatDoor
namespace NU2
open Go.RowKit Go.GL Go.Proofs
open Go.Proofs.YtfnginkcmcfdfaaGreatDoor.B1
open Go.Proofs.YtfnginkcmcfdfaaGreatDoor.C1
open Go.Proofs.YtfnginkcmcfdfaaGreatDoor.D1
open Go.Proofs.YtfnginkcmcfdfaaGreatDoor.E1
open Go.Proofs.YtfnginkcmcfdfaaGreatDoor.K1
open Go.Proofs.YtfnginkcmcfdfaaGreatDoor.PO1
open Go.Proofs.YtfnginkcmcfdfaaGreatDoor.PL1
open Go.Proofs.YtfnginkcmcfdfaaGreatDoor.NU1


theorem pl34 : (Tryz.prog.underlying 34).bind (placesD Tryz.prog) = some [(0, 1), (1, 1)] := by kernel_rfl


theorem lowest_spec {w : World} {G : Pin} {t : Int} {p : Nat} (hP : Pins G w) (hb : -1000000000 ≤ t ∧ t ≤ 1000000000) (hp : p ≤ 64) :
  Calls Tryz.prog 122 [(.int .i64 t), (.int .i64 (p : Int))].toArray w fun e w' => ∃ G', e = .returned (.tuple #[(.agg [.int .i64 (lowR (decP (GoodD (lowD p t).1 (((lowD p t).2 : Nat) : Int))) (lowD p t).1), .int .i64 (lowR (decP (GoodD (lowD p t).1 (((lowD p t).2 : Nat) : Int))) (((lowD p t).2 : Nat) : Int))].toArray), .bool (decP (GoodD (lowD p t).1 (((lowD p t).2 : Nat) : Int)))]) ∧ Ext noS G w G' w' := by
 refine zW (n := 26) Tryz.func122 Tryz.ntmps122 rfl rfl ?_
 have hX0 : Ext noS G w G w := Ext.refl hP
 refine zD (zF ?_)
 refine qI rfl (yW [(.int .i64 0), (.int .i64 0)] zr34 rfl hX0.pins (fun b1 w2 hk3 hb4 hp5 hl6 => ?_))
 have hX7 := hX0.step hp5 hl6
 have hlo8 : w.heap.size ≤ b1 := by have := hX0.size; omega
 refine qD rfl (zC (v := (.bool false)) rfl) ?_
 refine qe (zA (zD ?_))
 refine zX ?_
 refine yK (fun (k : Nat) (en : Nat → Value) (W : World) => ∃ (env1 : Nat → Value) (a : Int) (zp : Int) (GL1 : Pin), en = (upd (upd (upd (upd env1 0 (.int .i64 a)) 1 (.int .i64 zp)) 4 (.pointer (some ⟨b1, 0, none⟩))) 5 (.bool false)) ∧ k = zp.toNat ∧ Ext noS G w GL1 W ∧ Pin.le G GL1 ∧ (lowD p t = lowD zp.toNat a) ∧ (0 ≤ zp ∧ zp ≤ 64) ∧ (-1000000000 ≤ a ∧ a ≤ 1000000000) ∧ (Bx GL1 W b1 [(.int .i64 0), (.int .i64 0)])) _ ⟨_, t, (p : Int), G, (zE (x := 5) (zE (x := 4) (zE (x := 1) (zV (x := 0) rfl) rfl) rfl) rfl), rfl, hX7, Pin.le_refl _, (by rw [Int.toNat_natCast]), (by omega), hb, hb4⟩ ?_
 rintro k9 _ w10 ⟨env1, a, zp, GL1, rfl, hk11, hX12, hlek9, hr, hz, hab, hw13⟩
 refine zD (zD (zF ?_))
 refine qD rfl (zB (v := (.int .i64 zp)) rfl) ?_
 refine qD rfl (r_gtr rfl rfl) ?_
 refine qD rfl (zB (v := (.bool (decide ((0 : Int) < zp)))) rfl) ?_
 refine qbd (p := (0 : Int) < zp) (t := 9) rfl (fun h14 => ?_) (fun h14 => ?_)
 ·skip
  refine qdg rfl rfl rfl rfl rfl rfl (zB (v := (.int .i64 a)) rfl) ?_
  refine qdg rfl rfl rfl rfl rfl rfl (r_rem2 rfl rfl) ?_
  refine qdg rfl rfl rfl rfl rfl rfl (qJ rfl rfl) ?_
  refine qD rfl (xC (v := (.bool (decide ((a.tmod 2 : Int) = 0)))) rfl rfl) ?_
  refine qe (zA ?_)
  refine yA (p := (a.tmod 2 : Int) = 0) rfl rfl (fun h15 => ?_) (fun h15 => ?_)
  ·skip
   refine wp_skip ?_
   refine zA ?_
   refine zX ?_
   refine zD (zF ?_)
   refine qD rfl (zB (v := (.int .i64 a)) rfl) ?_
   refine qD rfl (r_quo2 rfl rfl ((tmod2 _).1 h15) (by omega)) ?_
   refine qD rfl (zC (v := (.int .i64 (a / 2))) rfl) ?_
   refine qe (zA (zF ?_))
   refine qD rfl (zB (v := (.int .i64 zp)) rfl) ?_
   refine qD rfl (qH rfl rfl (by omega)) ?_
   refine qD rfl (zC (v := (.int .i64 (zp - 1))) rfl) ?_
   refine qe ?_
   refine yF ?_
   refine yE ?_
   refine ⟨_, ?_, _, rfl, _, a / 2, zp - 1, GL1, (zE (x := 5) (zE (x := 4) (zE (x := 1) (zV (x := 0) rfl) rfl) rfl) rfl), rfl, hX12, hlek9, (hr.trans (low_even (by omega) h15)), (by omega), (by omega), hw13⟩
   omega
  refine wp_exit ?_
  refine zZ ?_
  refine yG ?_
  refine yC ?_
  refine zA (zD (zF ?_))
  refine qD rfl (zB (v := (.int .i64 a)) rfl) ?_
  refine qD rfl (zB (v := (.int .i64 zp)) rfl) ?_
  refine qD rfl (xR [(.int .i64 0), (.int .i64 0)] [(.int .i64 a), (.int .i64 zp)] [(0, (.int .i64 a), [(.int .i64 a)]), (1, (.int .i64 zp), [(.int .i64 zp)])] Tryz.underlying34 zr34 rfl pl34 rfl (List.forall_mem_cons.2 ⟨rfl, (List.forall_mem_cons.2 ⟨rfl, (fun _ h => by cases h)⟩)⟩) rfl) ?_
  refine qI rfl (yW [(.int .i64 0), (.int .i64 0)] zr34 rfl hX12.pins (fun b16 w17 hk18 hb19 hp20 hl21 => ?_))
  have hX22 := hX12.step hp20 hl21
  have hb23 := hw13.below hl21
  have ha24 : Apart (some b16) (some b1) := zP (congrArg some hk18) hw13.lt
  have hlo25 : w.heap.size ≤ b16 := by have := hX12.size; omega
  refine q0 rfl rfl rfl (xF (cs' := [(.int .i64 a), (.int .i64 zp)]) (us := [(.int .i64 a), (.int .i64 zp)]) (v := (.agg [(.int .i64 a), (.int .i64 zp)].toArray)) sz34 rfl rfl rfl (xY (by rfl) (by rfl)) hX22.pins hb19 (Nat.le_of_ble_eq_true rfl) rfl (fun w26 hb27 hp28 hg29 hz30 => ?_))
  have hX31 := hX22.write hp28 hg29 ((yM hlo25))
  have hb32 := hb23.keptA hg29 ha24.symm
  obtain ⟨G33, hle34, hX35, hbp36, hf37⟩ := hb27.shut hX31 hlo25
  have hb38 := hb32.moreA hf37 ha24.symm
  refine qe (zA (zD (zD (zF ?_))))
  refine qD rfl (yH (cs := [(.int .i64 a), (.int .i64 zp)]) ag34 sz34 rfl (fun j u hj => hX35.pins _ _ _ (hbp36 _ _ (by simpa using hj)))) ?_
  refine qI rfl (zN (vs := [(.agg [(.int .i64 a), (.int .i64 zp)].toArray)]) Tryz.func101 nm101 rfl rfl rfl ?_)
  refine Calls.mono (goodDyadic_spec (t := a) (z := zp) hX35.pins) ?_
  rintro _ w40 ⟨G39, rfl, hx41⟩
  refine ⟨_, rfl, ?_⟩
  have hX42 := hX35.tr hx41
  have hb43 := hb38.ext hx41
  refine qD rfl (qB rfl) ?_
  refine qe (zA ?_)
  refine qY rfl rfl (fun h44 => ?_) (fun h44 => ?_)
  ·skip
   refine wp_skip ?_
   refine zA (zD (zF ?_))
   refine qD rfl (yH (cs := [(.int .i64 a), (.int .i64 zp)]) ag34 sz34 rfl (fun j u hj => (Pins.of_le hX42.pins hx41.le) _ _ _ (hbp36 _ _ (by simpa using hj)))) ?_
   refine q0 rfl rfl rfl (xF (cs' := [(.int .i64 a), (.int .i64 zp)]) (us := [(.int .i64 a), (.int .i64 zp)]) (v := (.agg [(.int .i64 a), (.int .i64 zp)].toArray)) sz34 rfl rfl rfl (xY (by rfl) (by rfl)) hX42.pins hb43 (Nat.le_of_ble_eq_true rfl) rfl (fun w45 hb46 hp47 hg48 hz49 => ?_))
   have hX50 := hX42.write hp47 hg48 ((yM hlo8))
   refine qD rfl (zC (v := (.bool true)) rfl) ?_
   refine qe (zA ?_)
   refine wp_ret ?_
   refine zR ?_
   refine c_retct (cs := [(.int .i64 a), (.int .i64 zp)]) (v := (.bool true)) rfl rfl rfl rfl rfl ag34 sz34 (fun j u hj => by rw [Nat.zero_add]; exact hb46.cell hj) ?_
   have hst := hr.trans (low_stop hz.1 (by first | exact Or.inl h15 | exact Or.inr h15))
   have hz3 : ((zp.toNat : Nat) : Int) = zp := Int.toNat_of_nonneg hz.1
   rw [hst]
   simp only [hz3]
   exact ⟨_, by rw [h44]; rfl, hX50⟩
  refine zD (zF ?_)
  refine qD rfl (xR [(.int .i64 0), (.int .i64 0)] [(.int .i64 0), (.int .i64 0)] [] Tryz.underlying34 zr34 rfl pl34 rfl (fun _ h => by cases h) rfl) ?_
  refine q0 rfl rfl rfl (xF (cs' := [(.int .i64 0), (.int .i64 0)]) (us := [(.int .i64 0), (.int .i64 0)]) (v := (.agg [(.int .i64 0), (.int .i64 0)].toArray)) sz34 rfl rfl rfl (xY (by rfl) (by rfl)) hX42.pins hb43 (Nat.le_of_ble_eq_true rfl) rfl (fun w51 hb52 hp53 hg54 hz55 => ?_))
  have hX56 := hX42.write hp53 hg54 ((yM hlo8))
  refine qD rfl (zC (v := (.bool false)) rfl) ?_
  refine qe (zA ?_)
  refine wp_ret ?_
  refine zR ?_
  refine c_retct (cs := [(.int .i64 0), (.int .i64 0)]) (v := (.bool false)) rfl rfl rfl rfl rfl ag34 sz34 (fun j u hj => by rw [Nat.zero_add]; exact hb52.cell hj) ?_
  have hst := hr.trans (low_stop hz.1 (by first | exact Or.inl h15 | exact Or.inr h15))
  have hz3 : ((zp.toNat : Nat) : Int) = zp := Int.toNat_of_nonneg hz.1
  rw [hst]
  simp only [hz3]
  exact ⟨_, by rw [h44]; rfl, hX56⟩
 refine qs rfl rfl rfl rfl rfl rfl ?_
 refine qs rfl rfl rfl rfl rfl rfl ?_
 refine qs rfl rfl rfl rfl rfl rfl ?_
 refine qD rfl (yT (v := (.bool false)) rfl rfl) ?_
 refine qe (zA ?_)
 refine qP rfl rfl ?_
 refine wp_exit ?_
 refine zZ ?_
 refine yG ?_
 refine yC ?_
 refine zA (zD (zF ?_))
 refine qD rfl (zB (v := (.int .i64 a)) rfl) ?_
 refine qD rfl (zB (v := (.int .i64 zp)) rfl) ?_
 refine qD rfl (xR [(.int .i64 0), (.int .i64 0)] [(.int .i64 a), (.int .i64 zp)] [(0, (.int .i64 a), [(.int .i64 a)]), (1, (.int .i64 zp), [(.int .i64 zp)])] Tryz.underlying34 zr34 rfl pl34 rfl (List.forall_mem_cons.2 ⟨rfl, (List.forall_mem_cons.2 ⟨rfl, (fun _ h => by cases h)⟩)⟩) rfl) ?_
 refine qI rfl (yW [(.int .i64 0), (.int .i64 0)] zr34 rfl hX12.pins (fun b57 w58 hk59 hb60 hp61 hl62 => ?_))
 have hX63 := hX12.step hp61 hl62
 have hb64 := hw13.below hl62
 have ha65 : Apart (some b57) (some b1) := zP (congrArg some hk59) hw13.lt
 have hlo66 : w.heap.size ≤ b57 := by have := hX12.size; omega
 refine q0 rfl rfl rfl (xF (cs' := [(.int .i64 a), (.int .i64 zp)]) (us := [(.int .i64 a), (.int .i64 zp)]) (v := (.agg [(.int .i64 a), (.int .i64 zp)].toArray)) sz34 rfl rfl rfl (xY (by rfl) (by rfl)) hX63.pins hb60 (Nat.le_of_ble_eq_true rfl) rfl (fun w67 hb68 hp69 hg70 hz71 => ?_))
 have hX72 := hX63.write hp69 hg70 ((yM hlo66))
 have hb73 := hb64.keptA hg70 ha65.symm
 obtain ⟨G74, hle75, hX76, hbp77, hf78⟩ := hb68.shut hX72 hlo66
 have hb79 := hb73.moreA hf78 ha65.symm
 refine qe (zA (zD (zD (zF ?_))))
 refine qD rfl (yH (cs := [(.int .i64 a), (.int .i64 zp)]) ag34 sz34 rfl (fun j u hj => hX76.pins _ _ _ (hbp77 _ _ (by simpa using hj)))) ?_
 refine qI rfl (zN (vs := [(.agg [(.int .i64 a), (.int .i64 zp)].toArray)]) Tryz.func101 nm101 rfl rfl rfl ?_)
 refine Calls.mono (goodDyadic_spec (t := a) (z := zp) hX76.pins) ?_
 rintro _ w81 ⟨G80, rfl, hx82⟩
 refine ⟨_, rfl, ?_⟩
 have hX83 := hX76.tr hx82
 have hb84 := hb79.ext hx82
 refine qD rfl (qB rfl) ?_
 refine qe (zA ?_)
 refine qY rfl rfl (fun h85 => ?_) (fun h85 => ?_)
 ·skip
  refine wp_skip ?_
  refine zA (zD (zF ?_))
  refine qD rfl (yH (cs := [(.int .i64 a), (.int .i64 zp)]) ag34 sz34 rfl (fun j u hj => (Pins.of_le hX83.pins hx82.le) _ _ _ (hbp77 _ _ (by simpa using hj)))) ?_
  refine q0 rfl rfl rfl (xF (cs' := [(.int .i64 a), (.int .i64 zp)]) (us := [(.int .i64 a), (.int .i64 zp)]) (v := (.agg [(.int .i64 a), (.int .i64 zp)].toArray)) sz34 rfl rfl rfl (xY (by rfl) (by rfl)) hX83.pins hb84 (Nat.le_of_ble_eq_true rfl) rfl (fun w86 hb87 hp88 hg89 hz90 => ?_))
  have hX91 := hX83.write hp88 hg89 ((yM hlo8))
  refine qD rfl (zC (v := (.bool true)) rfl) ?_
  refine qe (zA ?_)
  refine wp_ret ?_
  refine zR ?_
  refine c_retct (cs := [(.int .i64 a), (.int .i64 zp)]) (v := (.bool true)) rfl rfl rfl rfl rfl ag34 sz34 (fun j u hj => by rw [Nat.zero_add]; exact hb87.cell hj) ?_
  have hst := hr.trans (low_stop hz.1 (by first | exact Or.inl h14 | exact Or.inr h14))
  have hz3 : ((zp.toNat : Nat) : Int) = zp := Int.toNat_of_nonneg hz.1
  rw [hst]
  simp only [hz3]
  exact ⟨_, by rw [h85]; rfl, hX91⟩
 refine zD (zF ?_)
 refine qD rfl (xR [(.int .i64 0), (.int .i64 0)] [(.int .i64 0), (.int .i64 0)] [] Tryz.underlying34 zr34 rfl pl34 rfl (fun _ h => by cases h) rfl) ?_
 refine q0 rfl rfl rfl (xF (cs' := [(.int .i64 0), (.int .i64 0)]) (us := [(.int .i64 0), (.int .i64 0)]) (v := (.agg [(.int .i64 0), (.int .i64 0)].toArray)) sz34 rfl rfl rfl (xY (by rfl) (by rfl)) hX83.pins hb84 (Nat.le_of_ble_eq_true rfl) rfl (fun w92 hb93 hp94 hg95 hz96 => ?_))
 have hX97 := hX83.write hp94 hg95 ((yM hlo8))
 refine qD rfl (zC (v := (.bool false)) rfl) ?_
 refine qe (zA ?_)
 refine wp_ret ?_
 refine zR ?_
 refine c_retct (cs := [(.int .i64 0), (.int .i64 0)]) (v := (.bool false)) rfl rfl rfl rfl rfl ag34 sz34 (fun j u hj => by rw [Nat.zero_add]; exact hb93.cell hj) ?_
 have hst := hr.trans (low_stop hz.1 (by first | exact Or.inl h14 | exact Or.inr h14))
 have hz3 : ((zp.toNat : Nat) : Int) = zp := Int.toNat_of_nonneg hz.1
 rw [hst]
 simp only [hz3]
 exact ⟨_, by rw [h85]; rfl, hX97⟩

end NU2
end Go.Proofs.YtfnginkcmcfdfaaGreatDoor

set_option maxRecDepth 20000
set_option maxHeartbeats 2000000
namespace Go.Proofs.YtfnginkcmcfdfaaGreatDoor
namespace NB1
open Go.RowKit Go.GL Go.Proofs
open Go.Proofs.YtfnginkcmcfdfaaGreatDoor.B1
open Go.Proofs.YtfnginkcmcfdfaaGreatDoor.K1
open Go.Proofs.YtfnginkcmcfdfaaGreatDoor.PO1
open Go.Proofs.YtfnginkcmcfdfaaGreatDoor.PL1
open Go.Proofs.YtfnginkcmcfdfaaGreatDoor.NU1
open Go.Proofs.YtfnginkcmcfdfaaGreatDoor.NU2










theorem lowest_ok {w : World} {G : Pin} {t : Int} {p : Nat} (hP : Pins G w) (hb : -1000000000 ≤ t ∧ t ≤ 1000000000) (hp : p ≤ 64) (hg : GoodD (lowD p t).1 (((lowD p t).2 : Nat) : Int)) :
  Calls Tryz.prog 122 [(.int .i64 t), (.int .i64 (p : Int))].toArray w fun e w' => ∃ G', e = .returned (.tuple #[(.agg [.int .i64 (lowD p t).1, .int .i64 (((lowD p t).2 : Nat) : Int)].toArray), .bool true]) ∧ Ext noS G w G' w' := by
 refine (lowest_spec hP hb hp).mono ?_
 rintro e w' ⟨G', rfl, hx⟩
 exact ⟨G', by rw [decP_true.2 hg]; rfl, hx⟩

def NumP (m p : Nat) (mm : PM) : Prop := ∀ {w : World} {G : Pin} {L R B : Value} {q : PSt} {t : Int} {dp : Nat} (_ : Pins G w) (_ : Pk 65 3 G w p L R B mm q) (_ : PoolOk q) (_ : NumOk dp t) (_ : q.ns.length + numT dp ≤ 1048575), dp < m →
  Calls Tryz.prog 102 [(.pointer (some ⟨p, 0, none⟩)), (.agg [.int .i64 t, .int .i64 (dp : Int)].toArray)].toArray w fun e w' => ∃ (z : Int) (L' R' B' : Value) (q' : PSt) (G' : Pin), e = .returned (.int .i64 z) ∧ Pk 65 3 G' w' p L' R' B' mm q' ∧ PoolOk q' ∧ PX q q' ∧ PLo w p L R B mm L' R' B' ∧ Ext (inP p L R B mm) G w G' w' ∧ PlaceOk q' z ∧ pd q' z = dyG dp t ∧ q'.ns.length ≤ q.ns.length + numT dp

theorem number_step {w : World} {G : Pin} {L R B : Value} {q : PSt} {t : Int} {dp p : Nat} {mm : PM} {m : Nat} (hP : Pins G w) (hpk : Pk 65 3 G w p L R B mm q) (hok : PoolOk q) (hn : NumOk dp t) (hl : q.ns.length + numT dp ≤ 1048575) (ih : NumP m p mm) (hm : dp < m + 1) :
  Calls Tryz.prog 102 [(.pointer (some ⟨p, 0, none⟩)), (.agg [(.int .i64 t), (.int .i64 (dp : Int))].toArray)].toArray w fun e w' => ∃ (z : Int) (L' R' B' : Value) (q' : PSt) (G' : Pin), e = .returned (.int .i64 z) ∧ Pk 65 3 G' w' p L' R' B' mm q' ∧ PoolOk q' ∧ PX q q' ∧ PLo w p L R B mm L' R' B' ∧ Ext (inP p L R B mm) G w G' w' ∧ PlaceOk q' z ∧ pd q' z = dyG dp t ∧ q'.ns.length ≤ q.ns.length + numT dp := by
 refine zW (n := 88) Tryz.func102 Tryz.ntmps102 rfl rfl ?_
 have hX0 : Ext (inP p L R B mm) G w G w := Ext.refl hP
 have hpin : PIn w (inP p L R B mm) p L R B mm := PIn.self
 have hml1 : (q.ns.map Nd.l).length = q.ns.length ∧ (q.ns.map Nd.r).length = q.ns.length := ⟨List.length_map .., List.length_map ..⟩
 have hml2 : q.bs.length = q.ns.length ∧ q.ns.length ≤ 1048576 := ⟨hok.ar.ok.len, hok.ar.ok.lim⟩
 have hnt0 := qO dp
 have htp0 := hn.top
 refine zD (zF ?_)
 refine qI rfl (xH [(.int .i64 t), (.int .i64 (dp : Int))] (v := (.agg [(.int .i64 t), (.int .i64 (dp : Int))].toArray)) rfl rfl hX0.pins (fun b3 w4 hk5 hb6 hp7 hl8 => ?_))
 have hX9 := hX0.step hp7 hl8
 have hpk10 := hpk.below hl8 hp7
 have ha15 := hpk.new (x := (some b3)) (fun k hk => by rw [(congrArg some hk5)] at hk; cases hk; exact Nat.le_refl _)
 have hlo16 : w.heap.size ≤ b3 := by have := hX0.size; omega
 obtain ⟨G17, hle18, hX19, hbp20, hf21⟩ := hb6.shut hX9 hlo16
 have hpk22 := hpk10.more hle18 hf21 ha15
 refine qD rfl (zC (v := (.int .i64 0)) rfl) ?_
 refine qe (zA (zD ?_))
 refine zX ?_
 refine zD (zF ?_)
 refine qD rfl (zJ (k := 1) rfl Tryz.underlying34 rfl nz3 rfl) ?_
 refine qD rfl (zL (u := (.int .i64 (dp : Int))) ag3 rfl (hX19.pins _ _ _ (hbp20 1 _ rfl))) ?_
 refine qD rfl (qJ rfl rfl) ?_
 refine qD rfl (zB (v := (.bool (decide (((dp : Int) : Int) = 0)))) rfl) ?_
 refine qbd (p := ((dp : Int) : Int) = 0) (t := 15) rfl (fun h23 => ?_) (fun h23 => ?_)
 ·skip
  refine qdg rfl rfl rfl rfl rfl rfl (zJ (k := 0) rfl Tryz.underlying34 rfl nz3 rfl) ?_
  refine qdg rfl rfl rfl rfl rfl rfl (zL (u := (.int .i64 t)) ag3 rfl (hX19.pins _ _ _ (hbp20 0 _ rfl))) ?_
  refine qdg rfl rfl rfl rfl rfl rfl (qJ rfl rfl) ?_
  refine qD rfl (xC (v := (.bool (decide ((t : Int) = 0)))) rfl rfl) ?_
  refine qD rfl (zC (v := (.bool (decide ((t : Int) = 0)))) rfl) ?_
  refine qe (zA ?_)
  refine yA (p := (t : Int) = 0) rfl rfl (fun h24 => ?_) (fun h24 => ?_)
  ·skip
   refine zD (zF ?_)
   refine qD rfl (zB (v := (.pointer (some ⟨p, 0, none⟩))) rfl) ?_
   refine qI rfl (zN (vs := [(.pointer (some ⟨p, 0, none⟩)), (.slice none 0 0), (.slice none 0 0)]) Tryz.func79 nm79 rfl rfl rfl ?_)
   refine Calls.mono (qL hX19.pins hpk22 hok (xO _ _) (xO _ _) (by omega) ⟨by simp, by simp⟩ nil_at nil_at) ?_
   rintro _ w35 ⟨z25, L30, R31, B32, q33, G34, rfl, hpk36, hok37, hpx38, hlo39, hx40, hpl26, hpd27, hqn28, hcm29⟩
   refine ⟨_, rfl, ?_⟩
   have hX41 := hX19.trans hx40 hpin
   have hpin42 := PIn.call hpin hlo39 hX19.size
   have hql43 := hpx38.len
   have hml44 : (q33.ns.map Nd.l).length = q33.ns.length ∧ (q33.ns.map Nd.r).length = q33.ns.length := ⟨List.length_map .., List.length_map ..⟩
   have hml45 : q33.bs.length = q33.ns.length ∧ q33.ns.length ≤ 1048576 := ⟨hok37.ar.ok.len, hok37.ar.ok.lim⟩
   have hng46 := hpd27.trans (show _ = mkG [] [] from rfl)
   have hqn47 := hqn28
   refine qD rfl (zC (v := (.int .i64 z25)) rfl) ?_
   refine qe (zA ?_)
   refine wp_ret ?_
   refine zR ?_
   refine zO (v := (.int .i64 z25)) rfl rfl rfl ?_
   have hzz := hng46
   have hntm := qO dp
   exact ⟨_, L30, R31, B32, q33, G34, rfl, hpk36, hok37, hpx38, PIn.lo hpin42 rfl, hX41, hpl26, (hzz.trans (by rw [show dp = 0 by omega, show t = 0 by omega]; rfl)), (by omega)⟩
  refine zD (zF ?_)
  refine qD rfl (zJ (k := 1) rfl Tryz.underlying34 rfl nz3 rfl) ?_
  refine qD rfl (zL (u := (.int .i64 (dp : Int))) ag3 rfl (hX19.pins _ _ _ (hbp20 1 _ rfl))) ?_
  refine qD rfl (qJ rfl rfl) ?_
  refine qD rfl (zB (v := (.bool (decide (((dp : Int) : Int) = 0)))) rfl) ?_
  refine qbd (p := ((dp : Int) : Int) = 0) (t := 26) rfl (fun _ => ?_) (fun h => absurd h23 h)
  refine qdg rfl rfl rfl rfl rfl rfl (zJ (k := 0) rfl Tryz.underlying34 rfl nz3 rfl) ?_
  refine qdg rfl rfl rfl rfl rfl rfl (zL (u := (.int .i64 t)) ag3 rfl (hX19.pins _ _ _ (hbp20 0 _ rfl))) ?_
  refine qdg rfl rfl rfl rfl rfl rfl (r_gtr rfl rfl) ?_
  refine qD rfl (xC (v := (.bool (decide ((0 : Int) < t)))) rfl rfl) ?_
  refine qD rfl (zC (v := (.bool (decide ((0 : Int) < t)))) rfl) ?_
  refine qe (zA ?_)
  refine yA (p := (0 : Int) < t) rfl rfl (fun h49 => ?_) (fun h49 => ?_)
  ·skip
   refine zD (zF ?_)
   refine qD rfl (zB (v := (.pointer (some ⟨p, 0, none⟩))) rfl) ?_
   refine qI rfl (zN (vs := [(.pointer (some ⟨p, 0, none⟩)), (.slice none 0 0), (.slice none 0 0)]) Tryz.func79 nm79 rfl rfl rfl ?_)
   refine Calls.mono (qL hX19.pins hpk22 hok (xO _ _) (xO _ _) (by omega) ⟨by simp, by simp⟩ nil_at nil_at) ?_
   rintro _ w60 ⟨z50, L55, R56, B57, q58, G59, rfl, hpk61, hok62, hpx63, hlo64, hx65, hpl51, hpd52, hqn53, hcm54⟩
   refine ⟨_, rfl, ?_⟩
   have hX66 := hX19.trans hx65 hpin
   have hpin67 := PIn.call hpin hlo64 hX19.size
   have hql68 := hpx63.len
   have hml69 : (q58.ns.map Nd.l).length = q58.ns.length ∧ (q58.ns.map Nd.r).length = q58.ns.length := ⟨List.length_map .., List.length_map ..⟩
   have hml70 : q58.bs.length = q58.ns.length ∧ q58.ns.length ≤ 1048576 := ⟨hok62.ar.ok.len, hok62.ar.ok.lim⟩
   have hng71 := hpd52.trans (show _ = mkG [] [] from rfl)
   have hqn72 := hqn53
   refine qD rfl (zC (v := (.int .i64 z50)) rfl) ?_
   refine qe (zA (zD (zD (zF ?_))))
   refine qD rfl (zJ (k := 0) rfl Tryz.underlying34 rfl nz3 rfl) ?_
   refine qD rfl (zL (u := (.int .i64 t)) ag3 rfl ((Pins.of_le hX66.pins hx65.le) _ _ _ (hbp20 0 _ rfl))) ?_
   refine qD rfl (zB (v := (.int .i64 0)) rfl) ?_
   refine qe (zA ?_)
   refine zX ?_
   have hz077 := hng71
   have hz077p := hpl51
   have hdp0 : dp = 0 := by omega
   have hq0l : q58.ns.length ≤ q.ns.length + 1 := by omega
   have hlim0 := hn.lim
   rw [hdp0] at hlim0
   have hnt0 := qO dp
   refine yK (fun (k : Nat) (en : Nat → Value) (W : World) => ∃ (env1 : Nat → Value) (ka : Nat) (za : Int) (L73 : Value) (R74 : Value) (B75 : Value) (q76 : PSt) (GL1 : Pin), en = (upd (upd (upd (upd (upd (upd env1 0 (.pointer (some ⟨p, 0, none⟩))) 3 (.pointer (some ⟨b3, 0, none⟩))) 4 (.int .i64 0)) 5 (.int .i64 za)) 34 (.int .i64 t)) 35 (.int .i64 (ka : Int))) ∧ k = t.toNat - ka ∧ Ext (inP p L R B mm) G w GL1 W ∧ Pin.le G59 GL1 ∧ (ka ≤ t.toNat) ∧ (PlaceOk q76 za) ∧ (pd q76 za = intG (ka : Int)) ∧ (q76.ns.length ≤ q.ns.length + 1 + ka) ∧ (Pk 65 3 GL1 W p L73 R74 B75 mm q76) ∧ (PIn w ((inP p L R B mm)) p L73 R74 B75 mm) ∧ (PoolOk q76) ∧ (PX q58 q76)) _ ⟨_, 0, z50, L55, R56, B57, q58, G59, (zE (x := 35) (zE (x := 34) (zE (x := 5) (zE (x := 4) (zE (x := 3) (zV (x := 0) rfl) rfl) rfl) rfl) rfl) rfl), rfl, hX66, Pin.le_refl _, Nat.zero_le _, hz077p, (hz077.trans rfl), (by omega), hpk61, hpin67, hok62, (PX.refl _)⟩ ?_
   rintro k78 _ w79 ⟨env1, ka, za, L73, R74, B75, q76, GL1, rfl, hk80, hX81, hlek78, hkv, hzpl, hzpd, hnq, hpk82, hpin83, hok84, hpx85⟩
   have hql86 := hpx85.len
   have hml87 : (q76.ns.map Nd.l).length = q76.ns.length ∧ (q76.ns.map Nd.r).length = q76.ns.length := ⟨List.length_map .., List.length_map ..⟩
   have hml88 : q76.bs.length = q76.ns.length ∧ q76.ns.length ≤ 1048576 := ⟨hok84.ar.ok.len, hok84.ar.ok.lim⟩
   refine zD (zF ?_)
   refine qD rfl (yN rfl rfl) ?_
   refine qe (zA (zD ?_))
   refine yA (p := ((ka : Int) : Int) < t) rfl rfl (fun h89 => ?_) (fun h89 => ?_)
   ·skip
    refine wp_skip ?_
    refine zA (zD ?_)
    refine zX ?_
    refine zF ?_
    refine qD rfl (zB (v := (.pointer (some ⟨p, 0, none⟩))) rfl) ?_
    refine qD rfl (zB (v := (.int .i64 za)) rfl) ?_
    refine qI rfl (yU (E := eInt) (e := 3) [(.int .i64 za)] [za] Tryz.underlying65 sz3 zr3 (by exact xS (by rfl)) (xA (by rfl)) rfl rfl rfl rfl (by decide) hX81.pins (fun u90 w91 ho92 hp93 hl94 hk95 => ?_))
    have hX96 := hX81.step hp93 hl94
    have hpk97 := hpk82.below hl94 hp93
    have ha102 := hpk82.new (x := u90.ownBlock) (fun k hk => by rw [hk95] at hk; cases hk; exact Nat.le_refl _)
    have ho103 : Own eInt 3 GL1 w91 w.heap.size u90 ([za]) := ho92.weaken hX81.size
    obtain ⟨G104, hle107, hX106, hr105, hf108⟩ := ho103.sealed hX96
    have hpk109 := hpk97.moreO hle107 hf108 ha102
    have hkg110 := hzpd
    refine qI rfl (zN (vs := [(.pointer (some ⟨p, 0, none⟩)), u90, (.slice none 0 0)]) Tryz.func79 nm79 rfl rfl rfl ?_)
    refine Calls.mono (qL hX106.pins hpk109 hok84 hr105 (xO _ _) (by omega) ⟨by simp, by simp⟩ (one_at hzpl) nil_at) ?_
    rintro _ w121 ⟨z111, L116, R117, B118, q119, G120, rfl, hpk122, hok123, hpx124, hlo125, hx126, hpl112, hpd113, hqn114, hcm115⟩
    refine ⟨_, rfl, ?_⟩
    have hX127 := hX106.trans hx126 hpin83
    have hpin128 := PIn.call hpin83 hlo125 hX106.size
    have hql129 := hpx124.len
    have hml130 : (q119.ns.map Nd.l).length = q119.ns.length ∧ (q119.ns.map Nd.r).length = q119.ns.length := ⟨List.length_map .., List.length_map ..⟩
    have hml131 : q119.bs.length = q119.ns.length ∧ q119.ns.length ≤ 1048576 := ⟨hok123.ar.ok.len, hok123.ar.ok.lim⟩
    have hng132 := hpd113.trans (show _ = mkG [pd q76 za] [] from rfl)
    rw [hkg110] at hng132
    have hqn133 := hqn114
    refine qD rfl (zC (v := (.int .i64 z111)) rfl) ?_
    refine qe ?_
    refine yF ?_
    refine zA (zF ?_)
    refine qD rfl (yL rfl rfl (by omega)) ?_
    refine qD rfl (zB (v := (.int .i64 ((ka : Int) + 1))) rfl) ?_
    refine qe ?_
    refine yE ?_
    refine ⟨_, ?_, _, rfl, _, ka + 1, z111, L116, R117, B118, q119, G120, (zE (x := 35) (zE (x := 34) (zE (x := 5) (zE (x := 4) (zE (x := 3) (zV (x := 0) rfl) rfl) rfl) rfl) rfl) rfl), rfl, hX127, (Pin.le_trans (Pin.le_trans hlek78 hle107) hx126.le), (by omega), hpl112, (hng132.trans (int_next ka).symm), (by omega), hpk122, hpin128, hok123, (PX.trans hpx85 hpx124)⟩
    omega
   refine wp_exit ?_
   refine zZ ?_
   refine yG ?_
   refine yC ?_
   refine zA (zD (zF ?_))
   refine qD rfl (zB (v := (.int .i64 za)) rfl) ?_
   refine qD rfl (zC (v := (.int .i64 za)) rfl) ?_
   refine qe (zA ?_)
   refine wp_ret ?_
   refine zR ?_
   refine zO (v := (.int .i64 za)) rfl rfl rfl ?_
   have hzz := hzpd
   have hntm := qO dp
   exact ⟨_, L73, R74, B75, q76, GL1, rfl, hpk82, hok84, (PX.trans hpx63 hpx85), PIn.lo hpin83 rfl, hX81, hzpl, (hzz.trans (by rw [hdp0, show (ka : Int) = t by omega]; rfl)), (by omega)⟩
  refine zD (zF ?_)
  refine qD rfl (zJ (k := 1) rfl Tryz.underlying34 rfl nz3 rfl) ?_
  refine qD rfl (zL (u := (.int .i64 (dp : Int))) ag3 rfl (hX19.pins _ _ _ (hbp20 1 _ rfl))) ?_
  refine qD rfl (qJ rfl rfl) ?_
  refine qD rfl (zC (v := (.bool (decide (((dp : Int) : Int) = 0)))) rfl) ?_
  refine qe (zA ?_)
  refine yA (p := ((dp : Int) : Int) = 0) rfl rfl (fun _ => ?_) (fun h => absurd h23 h)
  refine zD (zF ?_)
  refine qD rfl (zB (v := (.pointer (some ⟨p, 0, none⟩))) rfl) ?_
  refine qI rfl (zN (vs := [(.pointer (some ⟨p, 0, none⟩)), (.slice none 0 0), (.slice none 0 0)]) Tryz.func79 nm79 rfl rfl rfl ?_)
  refine Calls.mono (qL hX19.pins hpk22 hok (xO _ _) (xO _ _) (by omega) ⟨by simp, by simp⟩ nil_at nil_at) ?_
  rintro _ w145 ⟨z135, L140, R141, B142, q143, G144, rfl, hpk146, hok147, hpx148, hlo149, hx150, hpl136, hpd137, hqn138, hcm139⟩
  refine ⟨_, rfl, ?_⟩
  have hX151 := hX19.trans hx150 hpin
  have hpin152 := PIn.call hpin hlo149 hX19.size
  have hql153 := hpx148.len
  have hml154 : (q143.ns.map Nd.l).length = q143.ns.length ∧ (q143.ns.map Nd.r).length = q143.ns.length := ⟨List.length_map .., List.length_map ..⟩
  have hml155 : q143.bs.length = q143.ns.length ∧ q143.ns.length ≤ 1048576 := ⟨hok147.ar.ok.len, hok147.ar.ok.lim⟩
  have hng156 := hpd137.trans (show _ = mkG [] [] from rfl)
  have hqn157 := hqn138
  refine qD rfl (zC (v := (.int .i64 z135)) rfl) ?_
  refine qe (zA (zD (zD (zF ?_))))
  refine qD rfl (zJ (k := 0) rfl Tryz.underlying34 rfl nz3 rfl) ?_
  refine qD rfl (zL (u := (.int .i64 t)) ag3 rfl ((Pins.of_le hX151.pins hx150.le) _ _ _ (hbp20 0 _ rfl))) ?_
  refine qD rfl (r_neg rfl (by omega)) ?_
  refine qD rfl (zB (v := (.int .i64 0)) rfl) ?_
  refine qe (zA ?_)
  refine zX ?_
  have hz0162 := hng156
  have hz0162p := hpl136
  have hdp0 : dp = 0 := by omega
  have hq0l : q143.ns.length ≤ q.ns.length + 1 := by omega
  have hlim0 := hn.lim
  rw [hdp0] at hlim0
  have hnt0 := qO dp
  refine yK (fun (k : Nat) (en : Nat → Value) (W : World) => ∃ (env1 : Nat → Value) (kb : Nat) (zb : Int) (L158 : Value) (R159 : Value) (B160 : Value) (q161 : PSt) (GL2 : Pin), en = (upd (upd (upd (upd (upd (upd env1 0 (.pointer (some ⟨p, 0, none⟩))) 3 (.pointer (some ⟨b3, 0, none⟩))) 4 (.int .i64 0)) 6 (.int .i64 zb)) 51 (.int .i64 (-t))) 52 (.int .i64 (kb : Int))) ∧ k = (-t).toNat - kb ∧ Ext (inP p L R B mm) G w GL2 W ∧ Pin.le G144 GL2 ∧ (kb ≤ (-t).toNat) ∧ (PlaceOk q161 zb) ∧ (pd q161 zb = intG (-(kb : Int))) ∧ (q161.ns.length ≤ q.ns.length + 1 + kb) ∧ (Pk 65 3 GL2 W p L158 R159 B160 mm q161) ∧ (PIn w ((inP p L R B mm)) p L158 R159 B160 mm) ∧ (PoolOk q161) ∧ (PX q143 q161)) _ ⟨_, 0, z135, L140, R141, B142, q143, G144, (zE (x := 52) (zE (x := 51) (zE (x := 6) (zE (x := 4) (zE (x := 3) (zV (x := 0) rfl) rfl) rfl) rfl) rfl) rfl), rfl, hX151, Pin.le_refl _, Nat.zero_le _, hz0162p, (hz0162.trans rfl), (by omega), hpk146, hpin152, hok147, (PX.refl _)⟩ ?_
  rintro k163 _ w164 ⟨env1, kb, zb, L158, R159, B160, q161, GL2, rfl, hk165, hX166, hlek163, hkv, hzpl, hzpd, hnq, hpk167, hpin168, hok169, hpx170⟩
  have hql171 := hpx170.len
  have hml172 : (q161.ns.map Nd.l).length = q161.ns.length ∧ (q161.ns.map Nd.r).length = q161.ns.length := ⟨List.length_map .., List.length_map ..⟩
  have hml173 : q161.bs.length = q161.ns.length ∧ q161.ns.length ≤ 1048576 := ⟨hok169.ar.ok.len, hok169.ar.ok.lim⟩
  refine zD (zF ?_)
  refine qD rfl (yN rfl rfl) ?_
  refine qe (zA (zD ?_))
  refine yA (p := ((kb : Int) : Int) < (-t)) rfl rfl (fun h174 => ?_) (fun h174 => ?_)
  ·skip
   refine wp_skip ?_
   refine zA (zD ?_)
   refine zX ?_
   refine zF ?_
   refine qD rfl (zB (v := (.pointer (some ⟨p, 0, none⟩))) rfl) ?_
   refine qD rfl (zB (v := (.int .i64 zb)) rfl) ?_
   refine qI rfl (yU (E := eInt) (e := 3) [(.int .i64 zb)] [zb] Tryz.underlying65 sz3 zr3 (by exact xS (by rfl)) (xA (by rfl)) rfl rfl rfl rfl (by decide) hX166.pins (fun u175 w176 ho177 hp178 hl179 hk180 => ?_))
   have hX181 := hX166.step hp178 hl179
   have hpk182 := hpk167.below hl179 hp178
   have ha187 := hpk167.new (x := u175.ownBlock) (fun k hk => by rw [hk180] at hk; cases hk; exact Nat.le_refl _)
   have ho188 : Own eInt 3 GL2 w176 w.heap.size u175 ([zb]) := ho177.weaken hX166.size
   obtain ⟨G189, hle192, hX191, hr190, hf193⟩ := ho188.sealed hX181
   have hpk194 := hpk182.moreO hle192 hf193 ha187
   have hkg195 := hzpd
   refine qI rfl (zN (vs := [(.pointer (some ⟨p, 0, none⟩)), (.slice none 0 0), u175]) Tryz.func79 nm79 rfl rfl rfl ?_)
   refine Calls.mono (qL hX191.pins hpk194 hok169 (xO _ _) hr190 (by omega) ⟨by simp, by simp⟩ nil_at (one_at hzpl)) ?_
   rintro _ w206 ⟨z196, L201, R202, B203, q204, G205, rfl, hpk207, hok208, hpx209, hlo210, hx211, hpl197, hpd198, hqn199, hcm200⟩
   refine ⟨_, rfl, ?_⟩
   have hX212 := hX191.trans hx211 hpin168
   have hpin213 := PIn.call hpin168 hlo210 hX191.size
   have hql214 := hpx209.len
   have hml215 : (q204.ns.map Nd.l).length = q204.ns.length ∧ (q204.ns.map Nd.r).length = q204.ns.length := ⟨List.length_map .., List.length_map ..⟩
   have hml216 : q204.bs.length = q204.ns.length ∧ q204.ns.length ≤ 1048576 := ⟨hok208.ar.ok.len, hok208.ar.ok.lim⟩
   have hng217 := hpd198.trans (show _ = mkG [] [pd q161 zb] from rfl)
   rw [hkg195] at hng217
   have hqn218 := hqn199
   refine qD rfl (zC (v := (.int .i64 z196)) rfl) ?_
   refine qe ?_
   refine yF ?_
   refine zA (zF ?_)
   refine qD rfl (yL rfl rfl (by omega)) ?_
   refine qD rfl (zB (v := (.int .i64 ((kb : Int) + 1))) rfl) ?_
   refine qe ?_
   refine yE ?_
   refine ⟨_, ?_, _, rfl, _, kb + 1, z196, L201, R202, B203, q204, G205, (zE (x := 52) (zE (x := 51) (zE (x := 6) (zE (x := 4) (zE (x := 3) (zV (x := 0) rfl) rfl) rfl) rfl) rfl) rfl), rfl, hX212, (Pin.le_trans (Pin.le_trans hlek163 hle192) hx211.le), (by omega), hpl197, (hng217.trans (int_prev kb).symm), (by omega), hpk207, hpin213, hok208, (PX.trans hpx170 hpx209)⟩
   omega
  refine wp_exit ?_
  refine zZ ?_
  refine yG ?_
  refine yC ?_
  refine zA (zD (zF ?_))
  refine qD rfl (zB (v := (.int .i64 zb)) rfl) ?_
  refine qD rfl (zC (v := (.int .i64 zb)) rfl) ?_
  refine qe (zA ?_)
  refine wp_ret ?_
  refine zR ?_
  refine zO (v := (.int .i64 zb)) rfl rfl rfl ?_
  have hzz := hzpd
  have hntm := qO dp
  exact ⟨_, L158, R159, B160, q161, GL2, rfl, hpk167, hok169, (PX.trans hpx148 hpx170), PIn.lo hpin168 rfl, hX166, hzpl, (hzz.trans (by rw [hdp0, show (-(kb : Int)) = t by omega]; rfl)), (by omega)⟩
 refine qs rfl rfl rfl rfl rfl rfl ?_
 refine qs rfl rfl rfl rfl rfl rfl ?_
 refine qs rfl rfl rfl rfl rfl rfl ?_
 refine qD rfl (yT (v := (.bool false)) rfl rfl) ?_
 refine qD rfl (zC (v := (.bool false)) rfl) ?_
 refine qe (zA ?_)
 refine qP rfl rfl ?_
 refine zD (zF ?_)
 refine qD rfl (zJ (k := 1) rfl Tryz.underlying34 rfl nz3 rfl) ?_
 refine qD rfl (zL (u := (.int .i64 (dp : Int))) ag3 rfl (hX19.pins _ _ _ (hbp20 1 _ rfl))) ?_
 refine qD rfl (qJ rfl rfl) ?_
 refine qD rfl (zB (v := (.bool (decide (((dp : Int) : Int) = 0)))) rfl) ?_
 refine qbd (p := ((dp : Int) : Int) = 0) (t := 26) rfl (fun h => absurd h h23) (fun _ => ?_)
 refine qs rfl rfl rfl rfl rfl rfl ?_
 refine qs rfl rfl rfl rfl rfl rfl ?_
 refine qs rfl rfl rfl rfl rfl rfl ?_
 refine qD rfl (yT (v := (.bool false)) rfl rfl) ?_
 refine qD rfl (zC (v := (.bool false)) rfl) ?_
 refine qe (zA ?_)
 refine qP rfl rfl ?_
 refine zD (zF ?_)
 refine qD rfl (zJ (k := 1) rfl Tryz.underlying34 rfl nz3 rfl) ?_
 refine qD rfl (zL (u := (.int .i64 (dp : Int))) ag3 rfl (hX19.pins _ _ _ (hbp20 1 _ rfl))) ?_
 refine qD rfl (qJ rfl rfl) ?_
 refine qD rfl (zC (v := (.bool (decide (((dp : Int) : Int) = 0)))) rfl) ?_
 refine qe (zA ?_)
 refine yA (p := ((dp : Int) : Int) = 0) rfl rfl (fun h => absurd h h23) (fun _ => ?_)
 refine wp_skip ?_
 refine yF ?_
 refine zA (zD (zF ?_))
 have hdp1 : 1 ≤ dp := by omega
 have hpw := hn.pow
 have htp := hn.top
 have hk1 := hn.kid hdp1 (s := t - 1) (Or.inl rfl)
 have hk2 := hn.kid hdp1 (s := t + 1) (Or.inr rfl)
 have hlg1 := hk1.1.good
 have hlg2 := hk2.1.good
 have hnt := numT_two hdp1 (hn.odd.resolve_left (by omega))
 have hdk := dy_kids hdp1 (hn.odd.resolve_left (by omega))
 refine qD rfl (zJ (k := 0) rfl Tryz.underlying34 rfl nz3 rfl) ?_
 refine qD rfl (zL (u := (.int .i64 t)) ag3 rfl (hX19.pins _ _ _ (hbp20 0 _ rfl))) ?_
 refine qD rfl (qH rfl rfl (by omega)) ?_
 refine qD rfl (zJ (k := 1) rfl Tryz.underlying34 rfl nz3 rfl) ?_
 refine qD rfl (zL (u := (.int .i64 (dp : Int))) ag3 rfl (hX19.pins _ _ _ (hbp20 1 _ rfl))) ?_
 refine qI rfl (zN (vs := [(.int .i64 (t - 1)), (.int .i64 (dp : Int))]) Tryz.func122 nm122 rfl rfl rfl ?_)
 refine Calls.mono (lowest_ok hX19.pins (by omega) (by omega) hlg1) ?_
 rintro _ w222 ⟨G221, rfl, hx223⟩
 refine ⟨_, rfl, ?_⟩
 have hX224 := hX19.tr hx223
 have hpk225 := hpk22.ext hx223
 refine qD rfl (zB (v := (.tuple #[(.agg [(.int .i64 ((lowD dp (t - 1)).1)), (.int .i64 (((lowD dp (t - 1)).2 : Nat) : Int))].toArray), (.bool true)])) rfl) ?_
 refine qD rfl (xG (v := (.agg [(.int .i64 ((lowD dp (t - 1)).1)), (.int .i64 (((lowD dp (t - 1)).2 : Nat) : Int))].toArray)) rfl rfl) ?_
 refine qD rfl (xG (v := (.bool true)) rfl rfl) ?_
 refine qI rfl (yW [(.int .i64 0), (.int .i64 0)] zr34 rfl hX224.pins (fun b226 w227 hk228 hb229 hp230 hl231 => ?_))
 have hX232 := hX224.step hp230 hl231
 have hpk233 := hpk225.below hl231 hp230
 have ha238 := hpk225.new (x := (some b226)) (fun k hk => by rw [(congrArg some hk228)] at hk; cases hk; exact Nat.le_refl _)
 have hlo239 : w.heap.size ≤ b226 := by have := hX224.size; omega
 refine q0 rfl rfl rfl (xF (cs' := [(.int .i64 ((lowD dp (t - 1)).1)), (.int .i64 (((lowD dp (t - 1)).2 : Nat) : Int))]) (us := [(.int .i64 ((lowD dp (t - 1)).1)), (.int .i64 (((lowD dp (t - 1)).2 : Nat) : Int))]) (v := (.agg [(.int .i64 ((lowD dp (t - 1)).1)), (.int .i64 (((lowD dp (t - 1)).2 : Nat) : Int))].toArray)) sz34 rfl rfl rfl (xY (by rfl) (by rfl)) hX232.pins hb229 (Nat.le_of_ble_eq_true rfl) rfl (fun w240 hb241 hp242 hg243 hz244 => ?_))
 have hX245 := hX232.write hp242 hg243 ((yM hlo239))
 have hpk246 := hpk233.kept hg243 hp242 ha238
 obtain ⟨G247, hle248, hX249, hbp250, hf251⟩ := hb241.shut hX245 hlo239
 have hpk252 := hpk246.more hle248 hf251 ha238
 refine qD rfl (zC (v := (.bool true)) rfl) ?_
 refine qe (zA (zD (zF ?_)))
 refine qD rfl (zJ (k := 0) rfl Tryz.underlying34 rfl nz3 rfl) ?_
 refine qD rfl (zL (u := (.int .i64 t)) ag3 rfl ((Pins.of_le hX249.pins (Pin.le_trans hx223.le hle248)) _ _ _ (hbp20 0 _ rfl))) ?_
 refine qD rfl (yL rfl rfl (by omega)) ?_
 refine qD rfl (zJ (k := 1) rfl Tryz.underlying34 rfl nz3 rfl) ?_
 refine qD rfl (zL (u := (.int .i64 (dp : Int))) ag3 rfl ((Pins.of_le hX249.pins (Pin.le_trans hx223.le hle248)) _ _ _ (hbp20 1 _ rfl))) ?_
 refine qI rfl (zN (vs := [(.int .i64 (t + 1)), (.int .i64 (dp : Int))]) Tryz.func122 nm122 rfl rfl rfl ?_)
 refine Calls.mono (lowest_ok hX249.pins (by omega) (by omega) hlg2) ?_
 rintro _ w254 ⟨G253, rfl, hx255⟩
 refine ⟨_, rfl, ?_⟩
 have hX256 := hX249.tr hx255
 have hpk257 := hpk252.ext hx255
 refine qD rfl (zB (v := (.tuple #[(.agg [(.int .i64 ((lowD dp (t + 1)).1)), (.int .i64 (((lowD dp (t + 1)).2 : Nat) : Int))].toArray), (.bool true)])) rfl) ?_
 refine qD rfl (xG (v := (.agg [(.int .i64 ((lowD dp (t + 1)).1)), (.int .i64 (((lowD dp (t + 1)).2 : Nat) : Int))].toArray)) rfl rfl) ?_
 refine qD rfl (xG (v := (.bool true)) rfl rfl) ?_
 refine qI rfl (yW [(.int .i64 0), (.int .i64 0)] zr34 rfl hX256.pins (fun b258 w259 hk260 hb261 hp262 hl263 => ?_))
 have hX264 := hX256.step hp262 hl263
 have hpk265 := hpk257.below hl263 hp262
 have ha270 := hpk257.new (x := (some b258)) (fun k hk => by rw [(congrArg some hk260)] at hk; cases hk; exact Nat.le_refl _)
 have hlo271 : w.heap.size ≤ b258 := by have := hX256.size; omega
 refine q0 rfl rfl rfl (xF (cs' := [(.int .i64 ((lowD dp (t + 1)).1)), (.int .i64 (((lowD dp (t + 1)).2 : Nat) : Int))]) (us := [(.int .i64 ((lowD dp (t + 1)).1)), (.int .i64 (((lowD dp (t + 1)).2 : Nat) : Int))]) (v := (.agg [(.int .i64 ((lowD dp (t + 1)).1)), (.int .i64 (((lowD dp (t + 1)).2 : Nat) : Int))].toArray)) sz34 rfl rfl rfl (xY (by rfl) (by rfl)) hX264.pins hb261 (Nat.le_of_ble_eq_true rfl) rfl (fun w272 hb273 hp274 hg275 hz276 => ?_))
 have hX277 := hX264.write hp274 hg275 ((yM hlo271))
 have hpk278 := hpk265.kept hg275 hp274 ha270
 obtain ⟨G279, hle280, hX281, hbp282, hf283⟩ := hb273.shut hX277 hlo271
 have hpk284 := hpk278.more hle280 hf283 ha270
 refine qD rfl (zC (v := (.bool true)) rfl) ?_
 refine qe (zA (zD ?_))
 refine yX (S := fun wz => Pins G279 wz) (last := 11) (by kernel_rfl) rfl ?_
 have hl285 : Below w272.heap.size w272 w272.drew := (Below.refl _ _).drew
 have hp286 := hX281.pins.below hl285
 have hX287 := hX281.step hp286 hl285
 have hpk288 := hpk284.below hl285 hp286
 refine dT (i := 0) rfl rfl (by kernel_rfl) (fun _ _ => zB (v := (.pointer (some ⟨p, 0, none⟩))) rfl) hX287.pins ?_
 refine dT (i := 1) rfl rfl (by kernel_rfl) (fun _ _ => zB (v := (.pointer (some ⟨p, 0, none⟩))) rfl) hX287.pins ?_
 refine dT (i := 2) rfl rfl (by kernel_rfl) (fun _ hS => yH (cs := [(.int .i64 ((lowD dp (t - 1)).1)), (.int .i64 (((lowD dp (t - 1)).2 : Nat) : Int))]) ag34 sz34 rfl (fun j u hj => (Pins.of_le hS (Pin.le_trans hx255.le hle280)) _ _ _ (hbp250 _ _ (by simpa using hj)))) hX287.pins ?_
 refine dT (i := 5) rfl rfl (by kernel_rfl) (fun _ _ => zB (v := (.pointer (some ⟨p, 0, none⟩))) rfl) hX287.pins ?_
 refine dT (i := 6) rfl rfl (by kernel_rfl) (fun _ hS => yH (cs := [(.int .i64 ((lowD dp (t + 1)).1)), (.int .i64 (((lowD dp (t + 1)).2 : Nat) : Int))]) ag34 sz34 rfl (fun j u hj => hS _ _ _ (hbp282 _ _ (by simpa using hj)))) hX287.pins ?_
 refine zQ (i := 3) (by kernel_rfl) (zU (i := 3) rfl rfl rfl (zG rfl _) (zN (vs := [(.pointer (some ⟨p, 0, none⟩)), (.agg [(.int .i64 ((lowD dp (t - 1)).1)), (.int .i64 (((lowD dp (t - 1)).2 : Nat) : Int))].toArray)]) Tryz.func102 nm102 rfl rfl rfl ?_))
 refine Calls.mono (ih hX287.pins hpk288 hok hk1.1 (by omega) (by omega)) ?_
 rintro _ w298 ⟨z289, L293, R294, B295, q296, G297, rfl, hpk299, hok300, hpx301, hlo302, hx303, hpl290, hpd291, hqn292⟩
 refine ⟨_, rfl, ?_⟩
 have hX304 := hX287.trans hx303 hpin
 have hpin305 := PIn.call hpin hlo302 hX287.size
 have hql306 := hpx301.len
 have hml307 : (q296.ns.map Nd.l).length = q296.ns.length ∧ (q296.ns.map Nd.r).length = q296.ns.length := ⟨List.length_map .., List.length_map ..⟩
 have hml308 : q296.bs.length = q296.ns.length ∧ q296.ns.length ≤ 1048576 := ⟨hok300.ar.ok.len, hok300.ar.ok.lim⟩
 refine ⟨fun _ => (Pins.of_le hX304.pins hx303.le), ?_⟩
 refine qS (i := 4) (j := 7) (by kernel_rfl) ?_ ?_
 ·skip
  refine (zU (i := 4) rfl rfl rfl (zG rfl _) (yU (E := eInt) (e := 3) [(.int .i64 z289)] [z289] Tryz.underlying65 sz3 zr3 (by exact xS (by rfl)) (xA (by rfl)) rfl rfl rfl rfl (by decide) hX304.pins (fun u309 w310 ho311 hp312 hl313 hk314 => ?_)))
  have hX315 := hX304.step hp312 hl313
  have hpk316 := hpk299.below hl313 hp312
  have ha321 := hpk299.new (x := u309.ownBlock) (fun k hk => by rw [hk314] at hk; cases hk; exact Nat.le_refl _)
  have ho322 : Own eInt 3 G297 w310 w.heap.size u309 ([z289]) := ho311.weaken hX304.size
  refine ⟨fun _ => (Pins.of_le hX315.pins hx303.le), ?_⟩
  refine zQ (i := 7) (by kernel_rfl) (zU (i := 7) rfl rfl rfl (zG rfl _) (zN (vs := [(.pointer (some ⟨p, 0, none⟩)), (.agg [(.int .i64 ((lowD dp (t + 1)).1)), (.int .i64 (((lowD dp (t + 1)).2 : Nat) : Int))].toArray)]) Tryz.func102 nm102 rfl rfl rfl ?_))
  refine Calls.mono (ih hX315.pins hpk316 hok300 hk2.1 (by omega) (by omega)) ?_
  rintro _ w332 ⟨z323, L327, R328, B329, q330, G331, rfl, hpk333, hok334, hpx335, hlo336, hx337, hpl324, hpd325, hqn326⟩
  refine ⟨_, rfl, ?_⟩
  have hX338 := hX315.trans hx337 hpin305
  have ho339 := ho322.extS hx337 ha321
  have hnp340 := NP.call ha321 hlo336 (own_lt ho322)
  have hpin341 := PIn.call hpin305 hlo336 hX315.size
  have hql342 := hpx335.len
  have hml343 : (q330.ns.map Nd.l).length = q330.ns.length ∧ (q330.ns.map Nd.r).length = q330.ns.length := ⟨List.length_map .., List.length_map ..⟩
  have hml344 : q330.bs.length = q330.ns.length ∧ q330.ns.length ≤ 1048576 := ⟨hok334.ar.ok.len, hok334.ar.ok.lim⟩
  refine ⟨fun _ => (Pins.of_le hX338.pins (Pin.le_trans hx303.le hx337.le)), ?_⟩
  refine zQ (i := 8) (by kernel_rfl) (zU (i := 8) rfl rfl rfl (zG rfl _) (yU (E := eInt) (e := 3) [(.int .i64 z323)] [z323] Tryz.underlying65 sz3 zr3 (by exact xS (by rfl)) (xA (by rfl)) rfl rfl rfl rfl (by decide) hX338.pins (fun u345 w346 ho347 hp348 hl349 hk350 => ?_)))
  have hX351 := hX338.step hp348 hl349
  have ho352 := ho339.below hl349
  have hpk353 := hpk333.below hl349 hp348
  have ha354 : Apart u345.ownBlock u309.ownBlock := zH hk350 ho339.lt
  have ha359 := hpk333.new (x := u345.ownBlock) (fun k hk => by rw [hk350] at hk; cases hk; exact Nat.le_refl _)
  have ho360 : Own eInt 3 G331 w346 w.heap.size u345 ([z323]) := ho347.weaken hX338.size
  refine ⟨fun _ => (Pins.of_le hX351.pins (Pin.le_trans hx303.le hx337.le)), ?_⟩
  obtain ⟨G361, hle364, hX363, hr362, hf365⟩ := ho352.sealed hX351
  have ho366 := ho360.moreO hle364 hf365 ha354
  have hpk367 := hpk353.moreO hle364 hf365 hnp340
  obtain ⟨G368, hle371, hX370, hr369, hf372⟩ := ho366.sealed hX363
  have hpk373 := hpk367.moreO hle371 hf372 ha359
  have hkg374 := ((hpx335.pd hok300 hok334 hpl290).trans hpd291)
  have hkg375 := hpd325
  refine zQ (i := 9) (by kernel_rfl) (zU (i := 9) rfl rfl rfl (zG rfl _) (zN (vs := [(.pointer (some ⟨p, 0, none⟩)), u309, u345]) Tryz.func79 nm79 rfl rfl rfl ?_))
  refine Calls.mono (qL hX370.pins hpk373 hok334 (hr362.mono hle371) hr369 (by omega) ⟨by simp, by simp⟩ (one_at (hpx335.place hpl290)) (one_at hpl324)) ?_
  rintro _ w386 ⟨z376, L381, R382, B383, q384, G385, rfl, hpk387, hok388, hpx389, hlo390, hx391, hpl377, hpd378, hqn379, hcm380⟩
  refine ⟨_, rfl, ?_⟩
  have hX392 := hX370.trans hx391 hpin341
  have hpin393 := PIn.call hpin341 hlo390 hX370.size
  have hql394 := hpx389.len
  have hml395 : (q384.ns.map Nd.l).length = q384.ns.length ∧ (q384.ns.map Nd.r).length = q384.ns.length := ⟨List.length_map .., List.length_map ..⟩
  have hml396 : q384.bs.length = q384.ns.length ∧ q384.ns.length ≤ 1048576 := ⟨hok388.ar.ok.len, hok388.ar.ok.lim⟩
  have hng397 := hpd378.trans (show _ = mkG [pd q330 z289] [pd q330 z323] from rfl)
  rw [hkg374] at hng397
  rw [hkg375] at hng397
  have hqn398 := hqn379
  refine ⟨fun _ => (Pins.of_le hX392.pins (Pin.le_trans (Pin.le_trans (Pin.le_trans (Pin.le_trans hx303.le hx337.le) hle364) hle371) hx391.le)), ?_⟩
  refine dT (i := 10) rfl rfl (by kernel_rfl) (fun _ _ => zC (v := (.int .i64 z376)) rfl) (Pins.of_le hX392.pins (Pin.le_trans (Pin.le_trans (Pin.le_trans (Pin.le_trans hx303.le hx337.le) hle364) hle371) hx391.le)) ?_
  refine yJ (by kernel_rfl) ?_
  refine zA ?_
  refine wp_ret ?_
  refine zR ?_
  refine zO (v := (.int .i64 z376)) rfl rfl rfl ?_
  have hzz := hng397
  have hntm := qO dp
  exact ⟨_, L381, R382, B383, q384, G385, rfl, hpk387, hok388, (PX.trans (PX.trans hpx301 hpx335) hpx389), PIn.lo hpin393 rfl, hX392, hpl377, (hzz.trans hdk.symm), (by omega)⟩
 ·skip
  refine (zU (i := 7) rfl rfl rfl (zG rfl _) (zN (vs := [(.pointer (some ⟨p, 0, none⟩)), (.agg [(.int .i64 ((lowD dp (t + 1)).1)), (.int .i64 (((lowD dp (t + 1)).2 : Nat) : Int))].toArray)]) Tryz.func102 nm102 rfl rfl rfl ?_))
  refine Calls.mono (ih hX304.pins hpk299 hok300 hk2.1 (by omega) (by omega)) ?_
  rintro _ w408 ⟨z399, L403, R404, B405, q406, G407, rfl, hpk409, hok410, hpx411, hlo412, hx413, hpl400, hpd401, hqn402⟩
  refine ⟨_, rfl, ?_⟩
  have hX414 := hX304.trans hx413 hpin305
  have hpin415 := PIn.call hpin305 hlo412 hX304.size
  have hql416 := hpx411.len
  have hml417 : (q406.ns.map Nd.l).length = q406.ns.length ∧ (q406.ns.map Nd.r).length = q406.ns.length := ⟨List.length_map .., List.length_map ..⟩
  have hml418 : q406.bs.length = q406.ns.length ∧ q406.ns.length ≤ 1048576 := ⟨hok410.ar.ok.len, hok410.ar.ok.lim⟩
  refine ⟨fun _ => (Pins.of_le hX414.pins (Pin.le_trans hx303.le hx413.le)), ?_⟩
  refine qS (i := 4) (j := 8) (by kernel_rfl) ?_ ?_
  ·skip
   refine (zU (i := 4) rfl rfl rfl (zG rfl _) (yU (E := eInt) (e := 3) [(.int .i64 z289)] [z289] Tryz.underlying65 sz3 zr3 (by exact xS (by rfl)) (xA (by rfl)) rfl rfl rfl rfl (by decide) hX414.pins (fun u419 w420 ho421 hp422 hl423 hk424 => ?_)))
   have hX425 := hX414.step hp422 hl423
   have hpk426 := hpk409.below hl423 hp422
   have ha431 := hpk409.new (x := u419.ownBlock) (fun k hk => by rw [hk424] at hk; cases hk; exact Nat.le_refl _)
   have ho432 : Own eInt 3 G407 w420 w.heap.size u419 ([z289]) := ho421.weaken hX414.size
   refine ⟨fun _ => (Pins.of_le hX425.pins (Pin.le_trans hx303.le hx413.le)), ?_⟩
   refine zQ (i := 8) (by kernel_rfl) (zU (i := 8) rfl rfl rfl (zG rfl _) (yU (E := eInt) (e := 3) [(.int .i64 z399)] [z399] Tryz.underlying65 sz3 zr3 (by exact xS (by rfl)) (xA (by rfl)) rfl rfl rfl rfl (by decide) hX425.pins (fun u433 w434 ho435 hp436 hl437 hk438 => ?_)))
   have hX439 := hX425.step hp436 hl437
   have ho440 := ho432.below hl437
   have hpk441 := hpk426.below hl437 hp436
   have ha445 : Apart u433.ownBlock u419.ownBlock := zH hk438 ho432.lt
   have ha447 := hpk426.new (x := u433.ownBlock) (fun k hk => by rw [hk438] at hk; cases hk; exact Nat.le_refl _)
   have ho448 : Own eInt 3 G407 w434 w.heap.size u433 ([z399]) := ho435.weaken hX425.size
   refine ⟨fun _ => (Pins.of_le hX439.pins (Pin.le_trans hx303.le hx413.le)), ?_⟩
   obtain ⟨G449, hle452, hX451, hr450, hf453⟩ := ho440.sealed hX439
   have ho454 := ho448.moreO hle452 hf453 ha445
   have hpk455 := hpk441.moreO hle452 hf453 ha431
   obtain ⟨G456, hle459, hX458, hr457, hf460⟩ := ho454.sealed hX451
   have hpk461 := hpk455.moreO hle459 hf460 ha447
   have hkg462 := ((hpx411.pd hok300 hok410 hpl290).trans hpd291)
   have hkg463 := hpd401
   refine zQ (i := 9) (by kernel_rfl) (zU (i := 9) rfl rfl rfl (zG rfl _) (zN (vs := [(.pointer (some ⟨p, 0, none⟩)), u419, u433]) Tryz.func79 nm79 rfl rfl rfl ?_))
   refine Calls.mono (qL hX458.pins hpk461 hok410 (hr450.mono hle459) hr457 (by omega) ⟨by simp, by simp⟩ (one_at (hpx411.place hpl290)) (one_at hpl400)) ?_
   rintro _ w474 ⟨z464, L469, R470, B471, q472, G473, rfl, hpk475, hok476, hpx477, hlo478, hx479, hpl465, hpd466, hqn467, hcm468⟩
   refine ⟨_, rfl, ?_⟩
   have hX480 := hX458.trans hx479 hpin415
   have hpin481 := PIn.call hpin415 hlo478 hX458.size
   have hql482 := hpx477.len
   have hml483 : (q472.ns.map Nd.l).length = q472.ns.length ∧ (q472.ns.map Nd.r).length = q472.ns.length := ⟨List.length_map .., List.length_map ..⟩
   have hml484 : q472.bs.length = q472.ns.length ∧ q472.ns.length ≤ 1048576 := ⟨hok476.ar.ok.len, hok476.ar.ok.lim⟩
   have hng485 := hpd466.trans (show _ = mkG [pd q406 z289] [pd q406 z399] from rfl)
   rw [hkg462] at hng485
   rw [hkg463] at hng485
   have hqn486 := hqn467
   refine ⟨fun _ => (Pins.of_le hX480.pins (Pin.le_trans (Pin.le_trans (Pin.le_trans (Pin.le_trans hx303.le hx413.le) hle452) hle459) hx479.le)), ?_⟩
   refine dT (i := 10) rfl rfl (by kernel_rfl) (fun _ _ => zC (v := (.int .i64 z464)) rfl) (Pins.of_le hX480.pins (Pin.le_trans (Pin.le_trans (Pin.le_trans (Pin.le_trans hx303.le hx413.le) hle452) hle459) hx479.le)) ?_
   refine yJ (by kernel_rfl) ?_
   refine zA ?_
   refine wp_ret ?_
   refine zR ?_
   refine zO (v := (.int .i64 z464)) rfl rfl rfl ?_
   have hzz := hng485
   have hntm := qO dp
   exact ⟨_, L469, R470, B471, q472, G473, rfl, hpk475, hok476, (PX.trans (PX.trans hpx301 hpx411) hpx477), PIn.lo hpin481 rfl, hX480, hpl465, (hzz.trans hdk.symm), (by omega)⟩
  ·skip
   refine (zU (i := 8) rfl rfl rfl (zG rfl _) (yU (E := eInt) (e := 3) [(.int .i64 z399)] [z399] Tryz.underlying65 sz3 zr3 (by exact xS (by rfl)) (xA (by rfl)) rfl rfl rfl rfl (by decide) hX414.pins (fun u487 w488 ho489 hp490 hl491 hk492 => ?_)))
   have hX493 := hX414.step hp490 hl491
   have hpk494 := hpk409.below hl491 hp490
   have ha499 := hpk409.new (x := u487.ownBlock) (fun k hk => by rw [hk492] at hk; cases hk; exact Nat.le_refl _)
   have ho500 : Own eInt 3 G407 w488 w.heap.size u487 ([z399]) := ho489.weaken hX414.size
   refine ⟨fun _ => (Pins.of_le hX493.pins (Pin.le_trans hx303.le hx413.le)), ?_⟩
   refine zQ (i := 4) (by kernel_rfl) (zU (i := 4) rfl rfl rfl (zG rfl _) (yU (E := eInt) (e := 3) [(.int .i64 z289)] [z289] Tryz.underlying65 sz3 zr3 (by exact xS (by rfl)) (xA (by rfl)) rfl rfl rfl rfl (by decide) hX493.pins (fun u501 w502 ho503 hp504 hl505 hk506 => ?_)))
   have hX507 := hX493.step hp504 hl505
   have ho508 := ho500.below hl505
   have hpk509 := hpk494.below hl505 hp504
   have ha513 : Apart u501.ownBlock u487.ownBlock := zH hk506 ho500.lt
   have ha515 := hpk494.new (x := u501.ownBlock) (fun k hk => by rw [hk506] at hk; cases hk; exact Nat.le_refl _)
   have ho516 : Own eInt 3 G407 w502 w.heap.size u501 ([z289]) := ho503.weaken hX493.size
   refine ⟨fun _ => (Pins.of_le hX507.pins (Pin.le_trans hx303.le hx413.le)), ?_⟩
   obtain ⟨G517, hle520, hX519, hr518, hf521⟩ := ho516.sealed hX507
   have ho522 := ho508.moreO hle520 hf521 ha513.symm
   have hpk523 := hpk509.moreO hle520 hf521 ha515
   obtain ⟨G524, hle527, hX526, hr525, hf528⟩ := ho522.sealed hX519
   have hpk529 := hpk523.moreO hle527 hf528 ha499
   have hkg530 := ((hpx411.pd hok300 hok410 hpl290).trans hpd291)
   have hkg531 := hpd401
   refine zQ (i := 9) (by kernel_rfl) (zU (i := 9) rfl rfl rfl (zG rfl _) (zN (vs := [(.pointer (some ⟨p, 0, none⟩)), u501, u487]) Tryz.func79 nm79 rfl rfl rfl ?_))
   refine Calls.mono (qL hX526.pins hpk529 hok410 (hr518.mono hle527) hr525 (by omega) ⟨by simp, by simp⟩ (one_at (hpx411.place hpl290)) (one_at hpl400)) ?_
   rintro _ w542 ⟨z532, L537, R538, B539, q540, G541, rfl, hpk543, hok544, hpx545, hlo546, hx547, hpl533, hpd534, hqn535, hcm536⟩
   refine ⟨_, rfl, ?_⟩
   have hX548 := hX526.trans hx547 hpin415
   have hpin549 := PIn.call hpin415 hlo546 hX526.size
   have hql550 := hpx545.len
   have hml551 : (q540.ns.map Nd.l).length = q540.ns.length ∧ (q540.ns.map Nd.r).length = q540.ns.length := ⟨List.length_map .., List.length_map ..⟩
   have hml552 : q540.bs.length = q540.ns.length ∧ q540.ns.length ≤ 1048576 := ⟨hok544.ar.ok.len, hok544.ar.ok.lim⟩
   have hng553 := hpd534.trans (show _ = mkG [pd q406 z289] [pd q406 z399] from rfl)
   rw [hkg530] at hng553
   rw [hkg531] at hng553
   have hqn554 := hqn535
   refine ⟨fun _ => (Pins.of_le hX548.pins (Pin.le_trans (Pin.le_trans (Pin.le_trans (Pin.le_trans hx303.le hx413.le) hle520) hle527) hx547.le)), ?_⟩
   refine dT (i := 10) rfl rfl (by kernel_rfl) (fun _ _ => zC (v := (.int .i64 z532)) rfl) (Pins.of_le hX548.pins (Pin.le_trans (Pin.le_trans (Pin.le_trans (Pin.le_trans hx303.le hx413.le) hle520) hle527) hx547.le)) ?_
   refine yJ (by kernel_rfl) ?_
   refine zA ?_
   refine wp_ret ?_
   refine zR ?_
   refine zO (v := (.int .i64 z532)) rfl rfl rfl ?_
   have hzz := hng553
   have hntm := qO dp
   exact ⟨_, L537, R538, B539, q540, G541, rfl, hpk543, hok544, (PX.trans (PX.trans hpx301 hpx411) hpx545), PIn.lo hpin549 rfl, hX548, hpl533, (hzz.trans hdk.symm), (by omega)⟩

theorem num_all {p : Nat} {mm : PM} : ∀ m, NumP m p mm
 | 0 => fun _ _ _ _ _ h => absurd h (Nat.not_lt_zero _)
 | m + 1 => fun hP hpk hok hn hl hm => number_step hP hpk hok hn hl (num_all m) hm
theorem number_spec {w : World} {G : Pin} {L R B : Value} {q : PSt} {t : Int} {dp p : Nat} {mm : PM} (hP : Pins G w) (hpk : Pk 65 3 G w p L R B mm q) (hok : PoolOk q) (hn : NumOk dp t) (hl : q.ns.length + numT dp ≤ 1048575) :
  Calls Tryz.prog 102 [(.pointer (some ⟨p, 0, none⟩)), (.agg [.int .i64 t, .int .i64 (dp : Int)].toArray)].toArray w fun e w' => ∃ (z : Int) (L' R' B' : Value) (q' : PSt) (G' : Pin), e = .returned (.int .i64 z) ∧ Pk 65 3 G' w' p L' R' B' mm q' ∧ PoolOk q' ∧ PX q q' ∧ PLo w p L R B mm L' R' B' ∧ Ext (inP p L R B mm) G w G' w' ∧ PlaceOk q' z ∧ pd q' z = dyG dp t ∧ q'.ns.length ≤ q.ns.length + numT dp :=
 num_all _ hP hpk hok hn hl (Nat.lt_succ_self _)

end NB1
end Go.Proofs.YtfnginkcmcfdfaaGreatDoor

set_option maxRecDepth 20000
set_option maxHeartbeats 2000000
namespace Go.Proofs.YtfnginkcmcfdfaaGreatDoor
namespace NB2
open Go.RowKit Go.GL Go.Proofs
open Go.Proofs.YtfnginkcmcfdfaaGreatDoor.B1
open Go.Proofs.YtfnginkcmcfdfaaGreatDoor.K1
open Go.Proofs.YtfnginkcmcfdfaaGreatDoor.PO1
open Go.Proofs.YtfnginkcmcfdfaaGreatDoor.PL1
open Go.Proofs.YtfnginkcmcfdfaaGreatDoor.PA1
open Go.Proofs.YtfnginkcmcfdfaaGreatDoor.NU1
open Go.Proofs.YtfnginkcmcfdfaaGreatDoor.NU2
open Go.Proofs.YtfnginkcmcfdfaaGreatDoor.NB1









theorem number_zspec {w : World} {G : Pin} {L R B : Value} {q : PSt} {t z : Int} {p : Nat} {mm : PM} (hP : Pins G w) (hpk : Pk 65 3 G w p L R B mm q) (hok : PoolOk q) (hz : 0 ≤ z) (hn : NumOk z.toNat t) (hl : q.ns.length + numT z.toNat ≤ 1048575) :
  Calls Tryz.prog 102 [(.pointer (some ⟨p, 0, none⟩)), (.agg [.int .i64 t, .int .i64 z].toArray)].toArray w fun e w' => ∃ (y : Int) (L' R' B' : Value) (q' : PSt) (G' : Pin), e = .returned (.int .i64 y) ∧ Pk 65 3 G' w' p L' R' B' mm q' ∧ PoolOk q' ∧ PX q q' ∧ PLo w p L R B mm L' R' B' ∧ Ext (inP p L R B mm) G w G' w' ∧ PlaceOk q' y ∧ pd q' y = dyG z.toNat t ∧ q'.ns.length ≤ q.ns.length + numT z.toNat := by
 obtain ⟨dp, rfl⟩ : ∃ dp : Nat, z = (dp : Int) := ⟨z.toNat, by omega⟩
 simp only [Int.toNat_natCast] at hn hl ⊢
 exact number_spec hP hpk hok hn hl

theorem numbered_spec {w : World} {G : Pin} {L R B : Value} {q : PSt} {t z : Int} {p : Nat} {mm : PM} (hP : Pins G w) (hpk : Pk 65 3 G w p L R B mm q) (hok : PoolOk q) (hl : q.ns.length ≤ 700000) :
  Calls Tryz.prog 52 [(.pointer (some ⟨p, 0, none⟩)), (.agg [(.int .i64 t), (.int .i64 z)].toArray)].toArray w fun e w' => ∃ (y : Int) (L' R' B' : Value) (q' : PSt) (G' : Pin), e = .returned (.tuple #[.int .i64 y, .bool (nmB t z)]) ∧ Pk 65 3 G' w' p L' R' B' mm q' ∧ PoolOk q' ∧ PX q q' ∧ PLo w p L R B mm L' R' B' ∧ Ext (inP p L R B mm) G w G' w' ∧ (nmB t z = true → PlaceOk q' y ∧ pd q' y = dyG z.toNat t) ∧ q'.ns.length ≤ q.ns.length + 315247 := by
 refine zW (n := 32) Tryz.func52 Tryz.ntmps52 rfl rfl ?_
 have hX0 : Ext (inP p L R B mm) G w G w := Ext.refl hP
 have hpin : PIn w (inP p L R B mm) p L R B mm := PIn.self
 have hml1 : (q.ns.map Nd.l).length = q.ns.length ∧ (q.ns.map Nd.r).length = q.ns.length := ⟨List.length_map .., List.length_map ..⟩
 have hml2 : q.bs.length = q.ns.length ∧ q.ns.length ≤ 1048576 := ⟨hok.ar.ok.len, hok.ar.ok.lim⟩
 refine zD (zF ?_)
 refine qI rfl (xH [(.int .i64 t), (.int .i64 z)] (v := (.agg [(.int .i64 t), (.int .i64 z)].toArray)) rfl rfl hX0.pins (fun b3 w4 hk5 hb6 hp7 hl8 => ?_))
 have hX9 := hX0.step hp7 hl8
 have hpk10 := hpk.below hl8 hp7
 have ha15 := hpk.new (x := (some b3)) (fun k hk => by rw [(congrArg some hk5)] at hk; cases hk; exact Nat.le_refl _)
 have hlo16 : w.heap.size ≤ b3 := by have := hX0.size; omega
 obtain ⟨G17, hle18, hX19, hbp20, hf21⟩ := hb6.shut hX9 hlo16
 have hpk22 := hpk10.more hle18 hf21 ha15
 refine qD rfl (zC (v := (.int .i64 0)) rfl) ?_
 refine qD rfl (zC (v := (.bool false)) rfl) ?_
 refine qe (zA (zD (zD (zF ?_))))
 refine qD rfl (yH (cs := [(.int .i64 t), (.int .i64 z)]) ag34 sz34 rfl (fun j u hj => hX19.pins _ _ _ (hbp20 _ _ (by simpa using hj)))) ?_
 refine qI rfl (zN (vs := [(.agg [(.int .i64 t), (.int .i64 z)].toArray)]) Tryz.func101 nm101 rfl rfl rfl ?_)
 refine Calls.mono (goodDyadic_spec (t := t) (z := z) hX19.pins) ?_
 rintro _ w24 ⟨G23, rfl, hx25⟩
 refine ⟨_, rfl, ?_⟩
 have hX26 := hX19.tr hx25
 have hpk27 := hpk22.ext hx25
 refine qD rfl (qB rfl) ?_
 refine qD rfl (zB (v := (.bool (!(decP (GoodD t z))))) rfl) ?_
 refine qbn (t := 10) rfl (fun h28 => ?_) (fun h28 => ?_)
 ·skip
  have hgd : GoodD t z := decP_true.1 h28
  have hgt := hgd.top
  have hgp := hgd.pow
  have hms := max_shrz (t := t) hgp
  refine qdg rfl rfl rfl rfl rfl rfl (zJ (k := 0) rfl Tryz.underlying34 rfl nz3 rfl) ?_
  refine qdg rfl rfl rfl rfl rfl rfl (zL (u := (.int .i64 t)) ag3 rfl ((Pins.of_le hX26.pins hx25.le) _ _ _ (hbp20 0 _ rfl))) ?_
  refine qdg rfl rfl rfl rfl rfl rfl (zJ (k := 0) rfl Tryz.underlying34 rfl nz3 rfl) ?_
  refine qdg rfl rfl rfl rfl rfl rfl (zL (u := (.int .i64 t)) ag3 rfl ((Pins.of_le hX26.pins hx25.le) _ _ _ (hbp20 0 _ rfl))) ?_
  refine qdg rfl rfl rfl rfl rfl rfl (r_neg rfl (by omega)) ?_
  refine qdg rfl rfl rfl rfl rfl rfl (r_max rfl rfl) ?_
  refine qdg rfl rfl rfl rfl rfl rfl (zJ (k := 1) rfl Tryz.underlying34 rfl nz3 rfl) ?_
  refine qdg rfl rfl rfl rfl rfl rfl (zL (u := (.int .i64 z)) ag3 rfl ((Pins.of_le hX26.pins hx25.le) _ _ _ (hbp20 1 _ rfl))) ?_
  refine qdg rfl rfl rfl rfl rfl rfl (r_shrI rfl rfl (by omega)) ?_
  refine qdg rfl rfl rfl rfl rfl rfl (r_geq rfl rfl) ?_
  refine qD rfl (yT (v := (.bool (decide ((120 : Int) ≤ (Int.fdiv (max t (-t)) (2 ^ (min (z : Int).toNat 64))))))) rfl rfl) ?_
  refine qe (zA ?_)
  refine yA (p := (120 : Int) ≤ (Int.fdiv (max t (-t)) (2 ^ (min (z : Int).toNat 64)))) rfl rfl (fun h29 => ?_) (fun h29 => ?_)
  ·skip
   refine zD (zF ?_)
   refine qD rfl (zC (v := (.int .i64 0)) rfl) ?_
   refine qD rfl (zC (v := (.bool false)) rfl) ?_
   refine qe (zA ?_)
   refine wp_ret ?_
   refine zR ?_
   refine c_ret2 (v := (.int .i64 0)) (u := (.bool false)) rfl rfl rfl rfl rfl ?_
   have hbl : ¬ t.natAbs / 2 ^ z.toNat < 120 := by have h9 := h29; rw [hms] at h9; omega
   obtain ⟨e1, e2⟩ := nmz_no (t := t) (z := z) (num_late (born_late hbl)).2
   exact ⟨_, L, R, B, q, G23, by rw [e1], hpk27, hok, (PX.refl _), PIn.lo hpin rfl, hX26, (fun h => by rw [e1] at h; cases h), (by omega)⟩
  refine wp_skip ?_
  refine zA (zD (zF ?_))
  have hbl : t.natAbs / 2 ^ z.toNat < 120 := by have h9 := h29; rw [hms] at h9; omega
  have hno := good_num hgd.nat hbl
  have hnmx := numT_max hno.pow
  refine qD rfl (zB (v := (.pointer (some ⟨p, 0, none⟩))) rfl) ?_
  refine qD rfl (yH (cs := [(.int .i64 t), (.int .i64 z)]) ag34 sz34 rfl (fun j u hj => (Pins.of_le hX26.pins hx25.le) _ _ _ (hbp20 _ _ (by simpa using hj)))) ?_
  refine qI rfl (zN (vs := [(.pointer (some ⟨p, 0, none⟩)), (.agg [(.int .i64 t), (.int .i64 z)].toArray)]) Tryz.func102 nm102 rfl rfl rfl ?_)
  refine Calls.mono (number_zspec hX26.pins hpk27 hok hgp.1 hno (by omega)) ?_
  rintro _ w39 ⟨z30, L34, R35, B36, q37, G38, rfl, hpk40, hok41, hpx42, hlo43, hx44, hpl31, hpd32, hqn33⟩
  refine ⟨_, rfl, ?_⟩
  have hX45 := hX26.trans hx44 hpin
  have hpin46 := PIn.call hpin hlo43 hX26.size
  have hql47 := hpx42.len
  have hml48 : (q37.ns.map Nd.l).length = q37.ns.length ∧ (q37.ns.map Nd.r).length = q37.ns.length := ⟨List.length_map .., List.length_map ..⟩
  have hml49 : q37.bs.length = q37.ns.length ∧ q37.ns.length ≤ 1048576 := ⟨hok41.ar.ok.len, hok41.ar.ok.lim⟩
  refine qD rfl (zC (v := (.int .i64 z30)) rfl) ?_
  refine qe (zA (zD (zF ?_)))
  refine qD rfl (zB (v := (.int .i64 z30)) rfl) ?_
  refine qD rfl (zB (v := (.pointer (some ⟨p, 0, none⟩))) rfl) ?_
  refine qD rfl (zB (v := (.int .i64 z30)) rfl) ?_
  refine qI rfl (yU (E := eInt) (e := 3) [(.int .i64 z30)] [z30] Tryz.underlying65 sz3 zr3 (by exact xS (by rfl)) (xA (by rfl)) rfl rfl rfl rfl (by decide) hX45.pins (fun u50 w51 ho52 hp53 hl54 hk55 => ?_))
  have hX56 := hX45.step hp53 hl54
  have hpk57 := hpk40.below hl54 hp53
  have ha62 := hpk40.new (x := u50.ownBlock) (fun k hk => by rw [hk55] at hk; cases hk; exact Nat.le_refl _)
  have ho63 : Own eInt 3 G38 w51 w.heap.size u50 ([z30]) := ho52.weaken hX45.size
  obtain ⟨G71, hle74, hX73, hr72, hf75⟩ := ho63.sealed hX56
  have hpk76 := hpk57.moreO hle74 hf75 ha62
  refine qI rfl (zN (vs := [(.pointer (some ⟨p, 0, none⟩)), u50]) Tryz.func103 nm103 rfl rfl rfl ?_)
  refine Calls.mono (parts_spec hX73.pins hpk76 hok41 hr72 (place_one hpl31) (by simp)) ?_
  rintro _ w67 ⟨u64, zs65, G66, rfl, ho68, hpt69, hx70⟩
  refine ⟨_, rfl, ?_⟩
  have hX77 := hX73.tr hx70
  have hpk78 := hpk76.ext hx70
  have ho80 : Own eInt 3 G66 w67 w.heap.size u64 zs65 := ho68.weaken hX73.size
  have hql81 := hpt69.len
  refine qD rfl (zT Tryz.underlying65 (v := u64) rfl ho80.read) ?_
  refine qD rfl (r_leq rfl rfl) ?_
  refine qD rfl (zC (v := (.int .i64 z30)) rfl) ?_
  refine qD rfl (zC (v := (.bool (decide (((zs65.length : Int) : Int) ≤ 120)))) rfl) ?_
  refine qe (zA ?_)
  refine wp_ret ?_
  refine zR ?_
  refine c_ret2 (v := (.int .i64 z30)) (u := (.bool (decide (((zs65.length : Int) : Int) ≤ 120)))) rfl rfl rfl rfl rfl ?_
  have hnm := nm_parts hok41 hpl31 hpt69 hpd32 hgd
  exact ⟨_, L34, R35, B36, q37, G66, by rw [hnm], hpk78, hok41, hpx42, PIn.lo hpin46 rfl, hX77, (fun _ => ⟨hpl31, hpd32⟩), (by omega)⟩
 refine qs rfl rfl rfl rfl rfl rfl ?_
 refine qs rfl rfl rfl rfl rfl rfl ?_
 refine qs rfl rfl rfl rfl rfl rfl ?_
 refine qs rfl rfl rfl rfl rfl rfl ?_
 refine qs rfl rfl rfl rfl rfl rfl ?_
 refine qs rfl rfl rfl rfl rfl rfl ?_
 refine qs rfl rfl rfl rfl rfl rfl ?_
 refine qs rfl rfl rfl rfl rfl rfl ?_
 refine qs rfl rfl rfl rfl rfl rfl ?_
 refine qs rfl rfl rfl rfl rfl rfl ?_
 refine qD rfl (xC (v := (.bool true)) rfl rfl) ?_
 refine qe (zA ?_)
 refine c_ifT rfl rfl ?_
 refine zD (zF ?_)
 refine qD rfl (zC (v := (.int .i64 0)) rfl) ?_
 refine qD rfl (zC (v := (.bool false)) rfl) ?_
 refine qe (zA ?_)
 refine wp_ret ?_
 refine zR ?_
 refine c_ret2 (v := (.int .i64 0)) (u := (.bool false)) rfl rfl rfl rfl rfl ?_
 obtain ⟨e1, e2⟩ := nm_bad (t := t) (z := z) (decP_false.1 h28)
 exact ⟨_, L, R, B, q, G23, by rw [e1], hpk27, hok, (PX.refl _), PIn.lo hpin rfl, hX26, (fun h => by rw [e1] at h; cases h), (by omega)⟩

end NB2
end Go.Proofs.YtfnginkcmcfdfaaGreatDoor

set_option maxRecDepth 20000
set_option maxHeartbeats 2000000
namespace Go.Proofs.YtfnginkcmcfdfaaGreatDoor
namespace FT2
open Go.RowKit Go.GL Go.Proofs
open Go.Proofs.YtfnginkcmcfdfaaGreatDoor.B1
open Go.Proofs.YtfnginkcmcfdfaaGreatDoor.K1
open Go.Proofs.YtfnginkcmcfdfaaGreatDoor.PO1
open Go.Proofs.YtfnginkcmcfdfaaGreatDoor.PL1
open Go.Proofs.YtfnginkcmcfdfaaGreatDoor.PA1
open Go.Proofs.YtfnginkcmcfdfaaGreatDoor.NU1
open Go.Proofs.YtfnginkcmcfdfaaGreatDoor.NU2
open Go.Proofs.YtfnginkcmcfdfaaGreatDoor.NB1
open Go.Proofs.YtfnginkcmcfdfaaGreatDoor.NB2















theorem iFitsNumber_spec {w : World} {G : Pin} {v : Value} {fs : List Nd} {t z : Int} (hP : Pins G w) (hv : RSl eNode G v fs) :
  Calls Tryz.prog 19 [(.agg [v].toArray), (.agg [(.int .i64 t), (.int .i64 z)].toArray)].toArray w fun e w' => ∃ G', e = .returned (.tuple #[.bool (ftV fs t z), .bool (ftB fs t z)]) ∧ Ext noS G w G' w' := by
 refine zW (n := 63) Tryz.func19 Tryz.ntmps19 rfl rfl ?_
 have hX0 : Ext noS G w G w := Ext.refl hP
 refine zD (zF ?_)
 refine qI rfl (xH [v] (v := (.agg [v].toArray)) rfl rfl hX0.pins (fun b1 w2 hk3 hb4 hp5 hl6 => ?_))
 have hX7 := hX0.step hp5 hl6
 have hlo8 : w.heap.size ≤ b1 := by have := hX0.size; omega
 obtain ⟨G9, hle10, hX11, hbp12, hf13⟩ := hb4.shut hX7 hlo8
 refine qI rfl (xH [(.int .i64 t), (.int .i64 z)] (v := (.agg [(.int .i64 t), (.int .i64 z)].toArray)) rfl rfl hX11.pins (fun b14 w15 hk16 hb17 hp18 hl19 => ?_))
 have hX20 := hX11.step hp18 hl19
 have hlo21 : w.heap.size ≤ b14 := by have := hX11.size; omega
 obtain ⟨G22, hle23, hX24, hbp25, hf26⟩ := hb17.shut hX20 hlo21
 refine qD rfl (zC (v := (.bool false)) rfl) ?_
 refine qD rfl (zC (v := (.bool false)) rfl) ?_
 refine qe (zA (zD (zD (zF ?_))))
 refine qD rfl (yH (cs := [v]) ag32 sz32 rfl (fun j u hj => (Pins.of_le hX24.pins hle23) _ _ _ (hbp12 _ _ (by simpa using hj)))) ?_
 refine qI rfl (zN (vs := [(.agg [v].toArray)]) Tryz.func50 nm50 rfl rfl rfl ?_)
 refine Calls.mono (goodForm_spec hX24.pins (hv.mono (Pin.le_trans hle10 hle23))) ?_
 rintro _ w28 ⟨G27, rfl, hx29⟩
 refine ⟨_, rfl, ?_⟩
 have hX30 := hX24.tr hx29
 refine qD rfl (qB rfl) ?_
 refine qe (zA ?_)
 refine qY rfl rfl (fun h31 => ?_) (fun h31 => ?_)
 ·skip
  refine wp_skip ?_
  refine zA (zD (zF ?_))
  have hgb : goodB fs = true := h31
  have hga : GoodP fs := goodB_true.1 hgb
  have hla := hga.lo
  have hha := hga.hi
  have hlb := last_bounds hga
  refine qI rfl (zN (vs := []) Tryz.func51 nm51 rfl rfl rfl ?_)
  refine Calls.mono (newPool_spec hX30.pins) ?_
  rintro _ w35 ⟨p32, mm33, G34, rfl, hpk36, hfr37, hx38⟩
  refine ⟨_, rfl, ?_⟩
  have hX42 := hX30.tr hx38
  have hpin43 : PIn w (noS) p32 (.slice none 0 0) (.slice none 0 0) (.slice none 0 0) mm33 := PIn.fresh hfr37 hX30.size
  obtain ⟨q39, hq40⟩ : ∃ q, q = (⟨[], [], [], [], [], [], []⟩ : PSt) := ⟨_, rfl⟩
  rw [← hq40] at hpk36
  have hok41 : PoolOk q39 := by rw [hq40]; exact PoolOk.empty
  have hq40l : q39.ns.length = 0 := by rw [hq40]; rfl
  obtain ⟨L44, R45, B46, eL44, eR45, eB46⟩ : ∃ (l r b : Value), l = .slice none 0 0 ∧ r = .slice none 0 0 ∧ b = .slice none 0 0 := ⟨_, _, _, rfl, rfl, rfl⟩
  have hpk362 : Pk 65 3 G34 w35 p32 L44 R45 B46 mm33 q39 := by rw [eL44, eR45, eB46]; exact hpk36
  have hpin432 : PIn w (noS) p32 L44 R45 B46 mm33 := by rw [eL44, eR45, eB46]; exact hpin43
  have hml47 : (q39.ns.map Nd.l).length = q39.ns.length ∧ (q39.ns.map Nd.r).length = q39.ns.length := ⟨List.length_map .., List.length_map ..⟩
  have hml48 : q39.bs.length = q39.ns.length ∧ q39.ns.length ≤ 1048576 := ⟨hok41.ar.ok.len, hok41.ar.ok.lim⟩
  refine qD rfl (zC (v := (.pointer (some ⟨p32, 0, none⟩))) rfl) ?_
  refine qe (zA (zD (zF ?_)))
  refine qD rfl (zB (v := (.pointer (some ⟨p32, 0, none⟩))) rfl) ?_
  refine qD rfl (yH (cs := [(.int .i64 t), (.int .i64 z)]) ag34 sz34 rfl (fun j u hj => (Pins.of_le hX42.pins (Pin.le_trans hx29.le hx38.le)) _ _ _ (hbp25 _ _ (by simpa using hj)))) ?_
  refine qI rfl (zN (vs := [(.pointer (some ⟨p32, 0, none⟩)), (.agg [(.int .i64 t), (.int .i64 z)].toArray)]) Tryz.func52 nm52 rfl rfl rfl ?_)
  refine Calls.mono (numbered_spec hX42.pins hpk362 hok41 (by omega)) ?_
  rintro _ w57 ⟨z49, L52, R53, B54, q55, G56, rfl, hpk58, hok59, hpx60, hlo61, hx62, hnd50, hqn51⟩
  refine ⟨_, rfl, ?_⟩
  have hX63 := hX42.trans hx62 hpin432
  have hpin64 := PIn.call hpin432 hlo61 hX42.size
  have hql65 := hpx60.len
  have hml66 : (q55.ns.map Nd.l).length = q55.ns.length ∧ (q55.ns.map Nd.r).length = q55.ns.length := ⟨List.length_map .., List.length_map ..⟩
  have hml67 : q55.bs.length = q55.ns.length ∧ q55.ns.length ≤ 1048576 := ⟨hok59.ar.ok.len, hok59.ar.ok.lim⟩
  refine qD rfl (zB (v := (.tuple #[(.int .i64 z49), (.bool (nmB t z))])) rfl) ?_
  refine qD rfl (xG (v := (.int .i64 z49)) rfl rfl) ?_
  refine qD rfl (xG (v := (.bool (nmB t z))) rfl rfl) ?_
  refine qD rfl (zC (v := (.int .i64 z49)) rfl) ?_
  refine qD rfl (zC (v := (.bool (nmB t z))) rfl) ?_
  refine qe (zA (zD (zD (zF ?_))))
  refine qD rfl (zB (v := (.bool (nmB t z))) rfl) ?_
  refine qD rfl (qB rfl) ?_
  refine qe (zA ?_)
  refine qY rfl rfl (fun h68 => ?_) (fun h68 => ?_)
  ·skip
   refine wp_skip ?_
   refine zA (zD (zF ?_))
   refine qD rfl (zB (v := (.pointer (some ⟨p32, 0, none⟩))) rfl) ?_
   refine qD rfl (yH (cs := [v]) ag32 sz32 rfl (fun j u hj => (Pins.of_le hX63.pins (Pin.le_trans (Pin.le_trans (Pin.le_trans hle23 hx29.le) hx38.le) hx62.le)) _ _ _ (hbp12 _ _ (by simpa using hj)))) ?_
   refine qI rfl (zN (vs := [(.pointer (some ⟨p32, 0, none⟩)), (.agg [v].toArray)]) Tryz.func53 nm53 rfl rfl rfl ?_)
   refine Calls.mono (root_spec hX63.pins hpk58 hok59 (hv.mono (Pin.le_trans (Pin.le_trans (Pin.le_trans (Pin.le_trans hle10 hle23) hx29.le) hx38.le) hx62.le)) (qX hga) (by omega) hla) ?_
   rintro _ w78 ⟨z69, L73, R74, B75, q76, G77, rfl, hpk79, hok80, hpx81, hlo82, hx83, hpl70, hpd71, hqn72⟩
   refine ⟨_, rfl, ?_⟩
   have hX84 := hX63.trans hx83 hpin64
   have hpin85 := PIn.call hpin64 hlo82 hX63.size
   have hql86 := hpx81.len
   have hml87 : (q76.ns.map Nd.l).length = q76.ns.length ∧ (q76.ns.map Nd.r).length = q76.ns.length := ⟨List.length_map .., List.length_map ..⟩
   have hml88 : q76.bs.length = q76.ns.length ∧ q76.ns.length ≤ 1048576 := ⟨hok80.ar.ok.len, hok80.ar.ok.lim⟩
   refine qD rfl (zC (v := (.int .i64 z69)) rfl) ?_
   refine qe (zA (zD (zD (zF ?_))))
   have hrp := hpl70
   have hrg := hpd71
   have hpp := hnd50 h68
   have hxp := hpx81.place hpp.1
   have hxg := (hpx81.pd hok59 hok80 hpp.1).trans hpp.2
   have hokq := hok80
   have hrp1 := hrp.1
   have hrp2 := hrp.2
   have hxp1 := hxp.1
   have hxp2 := hxp.2
   have holl := hokq.ar.ok.lens (z69).toNat (by omega)
   refine qD rfl (zB (v := (.pointer (some ⟨p32, 0, none⟩))) rfl) ?_
   refine qD rfl (yZ rfl) ?_
   refine qD rfl (zJ (k := 0) rfl Tryz.underlying72 rfl nz66 rfl) ?_
   refine qD rfl (zL (u := L73) ag66 rfl (hpk79.bx.cell (o := 0) rfl)) ?_
   refine qD rfl (zB (v := (.int .i64 z69)) rfl) ?_
   refine qD rfl (zM Tryz.underlying66 sz65 (v := L73) rfl rfl hpk79.ol.read (by omega) (by omega)) ?_
   obtain ⟨u89, hr90, hl91⟩ := nm_sl (hpk79.ol.at (z := z69) (by omega) (by omega)) (j := (z69).toNat) rfl
   rw [mapl_getD] at hr90
   have hm92 := hr90.max
   refine qD rfl (hl91 ag65 rfl (Gadd.pins hX84.pins L73)) ?_
   refine qD rfl (zT Tryz.underlying65 (v := u89) rfl hr90) ?_
   refine qD rfl (zB (v := (.int .i64 0)) rfl) ?_
   refine qe (zA ?_)
   refine zX ?_
   have lx97 : (q76.ns.getD (z69).toNat default).l = (q76.ns.getD (z69).toNat default).l := rfl
   refine yK (fun (k : Nat) (en : Nat → Value) (W : World) => ∃ (env1 : Nat → Value) (j : Nat) (q96 : PSt) (GLl : Pin), en = (upd (upd (upd (upd (upd (upd env1 6 (.pointer (some ⟨p32, 0, none⟩))) 7 (.int .i64 z49)) 9 (.int .i64 z69)) 35 u89) 36 (.int .i64 (((q76.ns.getD (z69).toNat default).l).length : Int))) 37 (.int .i64 (j : Int))) ∧ k = (q76.ns.getD (z69).toNat default).l.length - j ∧ Ext noS G w GLl W ∧ Pin.le G77 GLl ∧ (j ≤ (q76.ns.getD (z69).toNat default).l.length) ∧ (∀ x, x < j → geB q76.ns ((q76.ns.getD (z69).toNat default).l.getD x 0) z49 = false) ∧ (Pk 65 3 GLl W p32 L73 R74 B75 mm33 q96) ∧ (PoolOk q96) ∧ (PX q76 q96) ∧ (q96.ns = q76.ns ∧ q96.bs = q76.bs)) _ ⟨_, 0, q76, G77, (zE (x := 37) (zE (x := 36) (zE (x := 35) (zE (x := 9) (zE (x := 7) (zV (x := 6) rfl) rfl) rfl) rfl) rfl) rfl), rfl, hX84, Pin.le_refl _, Nat.zero_le _, (fun q hq => absurd hq (Nat.not_lt_zero q)), hpk79, hok80, (PX.refl _), ⟨rfl, rfl⟩⟩ ?_
   rintro k98 _ w99 ⟨env1, j, q96, GLl, rfl, hk100, hX101, hlek98, hjj, hpl, hpk102, hok103, hpx104, hqn105⟩
   have hql106 := hpx104.len
   have hml107 : (q96.ns.map Nd.l).length = q96.ns.length ∧ (q96.ns.map Nd.r).length = q96.ns.length := ⟨List.length_map .., List.length_map ..⟩
   have hml108 : q96.bs.length = q96.ns.length ∧ q96.ns.length ≤ 1048576 := ⟨hok103.ar.ok.len, hok103.ar.ok.lim⟩
   have hlnl := congrArg List.length lx97
   refine zD (zF ?_)
   refine qD rfl (yN rfl rfl) ?_
   refine qe (zA (zD ?_))
   refine yA (p := ((j : Int) : Int) < (((q76.ns.getD (z69).toNat default).l).length : Int)) rfl rfl (fun h109 => ?_) (fun h109 => ?_)
   ·skip
    have hki := (xI hokq.ar.opts (show (z69).toNat < q76.ns.length by omega)).1 _ (yS (d := (0 : Int)) (show j < (q76.ns.getD (z69).toNat default).l.length by omega))
    rw [← lx97] at hki
    refine wp_skip ?_
    refine zA (zD ?_)
    refine zX ?_
    refine zD (zF ?_)
    refine qD rfl (zM Tryz.underlying65 sz3 (v := u89) rfl rfl hr90 (by omega) (by omega)) ?_
    refine qD rfl (zK (r := ((q76.ns.getD (z69).toNat default).l).getD j 0) rfl ag3 (z := (j : Int)) rfl hr90 (Pins.of_le hX101.pins hlek98) (by omega) (by omega)) ?_
    refine qD rfl (zC (v := (.int .i64 (((q76.ns.getD (z69).toNat default).l).getD j 0))) rfl) ?_
    refine qe (zA (zD (zF ?_)))
    refine qD rfl (zB (v := (.pointer (some ⟨p32, 0, none⟩))) rfl) ?_
    refine qD rfl (zB (v := (.int .i64 (((q76.ns.getD (z69).toNat default).l).getD j 0))) rfl) ?_
    refine qD rfl (zB (v := (.int .i64 z49)) rfl) ?_
    refine qI rfl (zN (vs := [(.pointer (some ⟨p32, 0, none⟩)), (.int .i64 (((q76.ns.getD (z69).toNat default).l).getD j 0)), (.int .i64 z49)]) Tryz.func54 nm54 rfl rfl rfl ?_)
    refine Calls.mono (ge_spec hX101.pins hpk102 hok103 ⟨by omega, by omega⟩ ⟨by omega, by omega⟩) ?_
    rintro _ w112 ⟨q110, G111, rfl, hpk113, hok114, hpx115, hqn116, hx117⟩
    refine ⟨_, rfl, ?_⟩
    have hX118 := hX101.trans hx117 (fun i hi => (PIn.o hpin85) i hi)
    have hql119 := hpx115.len
    have hml120 : (q110.ns.map Nd.l).length = q110.ns.length ∧ (q110.ns.map Nd.r).length = q110.ns.length := ⟨List.length_map .., List.length_map ..⟩
    have hml121 : q110.bs.length = q110.ns.length ∧ q110.ns.length ≤ 1048576 := ⟨hok114.ar.ok.len, hok114.ar.ok.lim⟩
    have hql122 := congrArg List.length hqn116.1
    refine qe (zA ?_)
    refine c_if rfl rfl (fun h123 => ?_) (fun h123 => ?_)
    ·skip
     refine zD (zF ?_)
     refine qD rfl (zC (v := (.bool false)) rfl) ?_
     refine qD rfl (zC (v := (.bool true)) rfl) ?_
     refine qe (zA ?_)
     refine wp_ret ?_
     refine zR ?_
     refine c_ret2 (v := (.bool false)) (u := (.bool true)) rfl rfl rfl rfl rfl ?_
     have hfp := fit_pool (x := z49) hokq hrp
     rw [hrg, hxg] at hfp
     obtain ⟨e1, e2⟩ := ftn_yes h31 h68
     rw [e1, e2, decP_false.2 (fun g => by have h5 := (hfp.1 g).1 j (by omega); rw [← lx97, ← geB_same hqn105, h123] at h5; cases h5)]
     exact ⟨_, rfl, hX118⟩
    refine wp_skip ?_
    refine yF ?_
    refine zA (zF ?_)
    refine qD rfl (yL rfl rfl (by omega)) ?_
    refine qD rfl (zB (v := (.int .i64 ((j : Int) + 1))) rfl) ?_
    refine qe ?_
    refine yE ?_
    refine ⟨_, ?_, _, rfl, _, j + 1, q110, G111, (zE (x := 37) (zE (x := 36) (zE (x := 35) (zE (x := 9) (zE (x := 7) (zV (x := 6) rfl) rfl) rfl) rfl) rfl) rfl), rfl, hX118, (Pin.le_trans hlek98 hx117.le), (by omega), (fun x h2 => if h3 : x = j then h3 ▸ (by rw [← lx97, ← geB_same hqn105]; exact h123) else hpl x (by omega)), hpk113, hok114, (PX.trans hpx104 hpx115), (xD hqn105 hqn116)⟩
    omega
   refine wp_exit ?_
   refine zZ ?_
   refine yG ?_
   refine yC ?_
   refine zA (zD (zD (zF ?_)))
   refine qD rfl (zB (v := (.pointer (some ⟨p32, 0, none⟩))) rfl) ?_
   refine qD rfl (yZ rfl) ?_
   refine qD rfl (zJ (k := 1) rfl Tryz.underlying72 rfl nz66 rfl) ?_
   refine qD rfl (zL (u := R74) ag66 rfl (hpk102.bx.cell (o := 1) rfl)) ?_
   refine qD rfl (zB (v := (.int .i64 z69)) rfl) ?_
   refine qD rfl (zM Tryz.underlying66 sz65 (v := R74) rfl rfl hpk102.rr.read (by omega) (by omega)) ?_
   obtain ⟨u124, hr125, hl126⟩ := nm_sl (hpk102.rr.at (z := z69) (by omega) (by omega)) (j := (z69).toNat) rfl
   rw [mapr_getD] at hr125
   have hm127 := hr125.max
   refine qD rfl (hl126 ag65 rfl (Gadd.pins hX101.pins R74)) ?_
   refine qD rfl (zT Tryz.underlying65 (v := u124) rfl hr125) ?_
   refine qD rfl (zB (v := (.int .i64 0)) rfl) ?_
   refine qe (zA ?_)
   refine zX ?_
   have lx132 : (q96.ns.getD (z69).toNat default).r = (q76.ns.getD (z69).toNat default).r := by rw [hqn105.1]
   refine yK (fun (k : Nat) (en : Nat → Value) (W : World) => ∃ (env1 : Nat → Value) (i : Nat) (q131 : PSt) (GLr : Pin), en = (upd (upd (upd (upd (upd env1 6 (.pointer (some ⟨p32, 0, none⟩))) 7 (.int .i64 z49)) 52 u124) 53 (.int .i64 (((q96.ns.getD (z69).toNat default).r).length : Int))) 54 (.int .i64 (i : Int))) ∧ k = (q76.ns.getD (z69).toNat default).r.length - i ∧ Ext noS G w GLr W ∧ Pin.le GLl GLr ∧ (i ≤ (q76.ns.getD (z69).toNat default).r.length) ∧ (∀ x, x < i → geB q76.ns z49 ((q76.ns.getD (z69).toNat default).r.getD x 0) = false) ∧ (Pk 65 3 GLr W p32 L73 R74 B75 mm33 q131) ∧ (PoolOk q131) ∧ (PX q96 q131) ∧ (q131.ns = q96.ns ∧ q131.bs = q96.bs)) _ ⟨_, 0, q96, GLl, (zE (x := 54) (zE (x := 53) (zE (x := 52) (zE (x := 7) (zV (x := 6) rfl) rfl) rfl) rfl) rfl), rfl, hX101, Pin.le_refl _, Nat.zero_le _, (fun q hq => absurd hq (Nat.not_lt_zero q)), hpk102, hok103, (PX.refl _), ⟨rfl, rfl⟩⟩ ?_
   rintro k133 _ w134 ⟨env1, i, q131, GLr, rfl, hk135, hX136, hlek133, hji, hpr, hpk137, hok138, hpx139, hqn140⟩
   have hql141 := hpx139.len
   have hml142 : (q131.ns.map Nd.l).length = q131.ns.length ∧ (q131.ns.map Nd.r).length = q131.ns.length := ⟨List.length_map .., List.length_map ..⟩
   have hml143 : q131.bs.length = q131.ns.length ∧ q131.ns.length ≤ 1048576 := ⟨hok138.ar.ok.len, hok138.ar.ok.lim⟩
   have hlnr := congrArg List.length lx132
   refine zD (zF ?_)
   refine qD rfl (yN rfl rfl) ?_
   refine qe (zA (zD ?_))
   refine yA (p := ((i : Int) : Int) < (((q96.ns.getD (z69).toNat default).r).length : Int)) rfl rfl (fun h144 => ?_) (fun h144 => ?_)
   ·skip
    have hki := (xI hokq.ar.opts (show (z69).toNat < q76.ns.length by omega)).2 _ (yS (d := (0 : Int)) (show i < (q76.ns.getD (z69).toNat default).r.length by omega))
    rw [← lx132] at hki
    refine wp_skip ?_
    refine zA (zD ?_)
    refine zX ?_
    refine zD (zF ?_)
    refine qD rfl (zM Tryz.underlying65 sz3 (v := u124) rfl rfl hr125 (by omega) (by omega)) ?_
    refine qD rfl (zK (r := ((q96.ns.getD (z69).toNat default).r).getD i 0) rfl ag3 (z := (i : Int)) rfl hr125 (Pins.of_le hX136.pins hlek133) (by omega) (by omega)) ?_
    refine qD rfl (zC (v := (.int .i64 (((q96.ns.getD (z69).toNat default).r).getD i 0))) rfl) ?_
    refine qe (zA (zD (zF ?_)))
    refine qD rfl (zB (v := (.pointer (some ⟨p32, 0, none⟩))) rfl) ?_
    refine qD rfl (zB (v := (.int .i64 z49)) rfl) ?_
    refine qD rfl (zB (v := (.int .i64 (((q96.ns.getD (z69).toNat default).r).getD i 0))) rfl) ?_
    refine qI rfl (zN (vs := [(.pointer (some ⟨p32, 0, none⟩)), (.int .i64 z49), (.int .i64 (((q96.ns.getD (z69).toNat default).r).getD i 0))]) Tryz.func54 nm54 rfl rfl rfl ?_)
    refine Calls.mono (ge_spec hX136.pins hpk137 hok138 ⟨by omega, by omega⟩ ⟨by omega, by omega⟩) ?_
    rintro _ w147 ⟨q145, G146, rfl, hpk148, hok149, hpx150, hqn151, hx152⟩
    refine ⟨_, rfl, ?_⟩
    have hX153 := hX136.trans hx152 (fun i hi => (PIn.o hpin85) i hi)
    have hql154 := hpx150.len
    have hml155 : (q145.ns.map Nd.l).length = q145.ns.length ∧ (q145.ns.map Nd.r).length = q145.ns.length := ⟨List.length_map .., List.length_map ..⟩
    have hml156 : q145.bs.length = q145.ns.length ∧ q145.ns.length ≤ 1048576 := ⟨hok149.ar.ok.len, hok149.ar.ok.lim⟩
    have hql157 := congrArg List.length hqn151.1
    refine qe (zA ?_)
    refine c_if rfl rfl (fun h158 => ?_) (fun h158 => ?_)
    ·skip
     refine zD (zF ?_)
     refine qD rfl (zC (v := (.bool false)) rfl) ?_
     refine qD rfl (zC (v := (.bool true)) rfl) ?_
     refine qe (zA ?_)
     refine wp_ret ?_
     refine zR ?_
     refine c_ret2 (v := (.bool false)) (u := (.bool true)) rfl rfl rfl rfl rfl ?_
     have hfp := fit_pool (x := z49) hokq hrp
     rw [hrg, hxg] at hfp
     obtain ⟨e1, e2⟩ := ftn_yes h31 h68
     rw [e1, e2, decP_false.2 (fun g => by have h5 := (hfp.1 g).2 i (by omega); rw [← lx132, ← geB_same (xD hqn105 hqn140), h158] at h5; cases h5)]
     exact ⟨_, rfl, hX153⟩
    refine wp_skip ?_
    refine yF ?_
    refine zA (zF ?_)
    refine qD rfl (yL rfl rfl (by omega)) ?_
    refine qD rfl (zB (v := (.int .i64 ((i : Int) + 1))) rfl) ?_
    refine qe ?_
    refine yE ?_
    refine ⟨_, ?_, _, rfl, _, i + 1, q145, G146, (zE (x := 54) (zE (x := 53) (zE (x := 52) (zE (x := 7) (zV (x := 6) rfl) rfl) rfl) rfl) rfl), rfl, hX153, (Pin.le_trans hlek133 hx152.le), (by omega), (fun x h2 => if h3 : x = i then h3 ▸ (by rw [← lx132, ← geB_same (xD hqn105 hqn140)]; exact h158) else hpr x (by omega)), hpk148, hok149, (PX.trans hpx139 hpx150), (xD hqn140 hqn151)⟩
    omega
   refine wp_exit ?_
   refine zZ ?_
   refine yG ?_
   refine yC ?_
   refine zA (zD (zF ?_))
   refine qD rfl (zC (v := (.bool true)) rfl) ?_
   refine qD rfl (zC (v := (.bool true)) rfl) ?_
   refine qe (zA ?_)
   refine wp_ret ?_
   refine zR ?_
   refine c_ret2 (v := (.bool true)) (u := (.bool true)) rfl rfl rfl rfl rfl ?_
   have hfp := fit_pool (x := z49) hokq hrp
   rw [hrg, hxg] at hfp
   obtain ⟨e1, e2⟩ := ftn_yes h31 h68
   rw [e1, e2, decP_true.2 (hfp.2 ⟨fun x hx => hpl x (by omega), fun x hx => hpr x (by omega)⟩)]
   exact ⟨_, rfl, hX136⟩
  refine zD (zF ?_)
  refine qD rfl (zC (v := (.bool false)) rfl) ?_
  refine qD rfl (zC (v := (.bool false)) rfl) ?_
  refine qe (zA ?_)
  refine wp_ret ?_
  refine zR ?_
  refine c_ret2 (v := (.bool false)) (u := (.bool false)) rfl rfl rfl rfl rfl ?_
  obtain ⟨e1, e2⟩ := ftn_no (fs := fs) (t := t) (z := z) h68
  rw [e1, e2]
  exact ⟨_, rfl, hX63⟩
 refine zD (zF ?_)
 refine qD rfl (zC (v := (.bool false)) rfl) ?_
 refine qD rfl (zC (v := (.bool false)) rfl) ?_
 refine qe (zA ?_)
 refine wp_ret ?_
 refine zR ?_
 refine c_ret2 (v := (.bool false)) (u := (.bool false)) rfl rfl rfl rfl rfl ?_
 obtain ⟨e1, e2⟩ := ftn_bad (fs := fs) (t := t) (z := z) h31
 rw [e1, e2]
 exact ⟨_, rfl, hX30⟩

end FT2
end Go.Proofs.YtfnginkcmcfdfaaGreatDoor

set_option maxRecDepth 20000
set_option maxHeartbeats 2000000
namespace Go.Proofs.YtfnginkcmcfdfaaGreatDoor
namespace LFT
open Go.RowKit Go.GL Go.Proofs
open Go.Proofs.YtfnginkcmcfdfaaGreatDoor.B1
open Go.Proofs.YtfnginkcmcfdfaaGreatDoor.C1
open Go.Proofs.YtfnginkcmcfdfaaGreatDoor.D1
open Go.Proofs.YtfnginkcmcfdfaaGreatDoor.E1
open Go.Proofs.YtfnginkcmcfdfaaGreatDoor.L1
open Go.Proofs.YtfnginkcmcfdfaaGreatDoor.FT1
open Go.Proofs.YtfnginkcmcfdfaaGreatDoor.FT2



















theorem toDyadic_spec {w : World} {G : Pin} {t z : Int} (hP : Pins G w) :
  Calls Tryz.prog 18 [(.agg [(.int .i64 t), (.int .i64 z)].toArray)].toArray w fun e w' => ∃ G', e = .returned (.agg [.int .i64 t, .int .i64 z].toArray) ∧ Ext noS G w G' w' := by
 refine zW (n := 11) Tryz.func18 Tryz.ntmps18 rfl rfl ?_
 have hX0 : Ext noS G w G w := Ext.refl hP
 refine zD (zF ?_)
 refine qI rfl (xH [(.int .i64 t), (.int .i64 z)] (v := (.agg [(.int .i64 t), (.int .i64 z)].toArray)) rfl rfl hX0.pins (fun b1 w2 hk3 hb4 hp5 hl6 => ?_))
 have hX7 := hX0.step hp5 hl6
 have hlo8 : w.heap.size ≤ b1 := by have := hX0.size; omega
 obtain ⟨G9, hle10, hX11, hbp12, hf13⟩ := hb4.shut hX7 hlo8
 refine qI rfl (yW [(.int .i64 0), (.int .i64 0)] zr34 rfl hX11.pins (fun b14 w15 hk16 hb17 hp18 hl19 => ?_))
 have hX20 := hX11.step hp18 hl19
 have hlo21 : w.heap.size ≤ b14 := by have := hX11.size; omega
 refine qe (zA (zD (zF ?_)))
 refine qI rfl (yW [(.int .i64 0), (.int .i64 0)] zr34 rfl hX20.pins (fun b22 w23 hk24 hb25 hp26 hl27 => ?_))
 have hX28 := hX20.step hp26 hl27
 have hb29 := hb17.below hl27
 have ha30 : Apart (some b22) (some b14) := zP (congrArg some hk24) hb17.lt
 have hlo31 : w.heap.size ≤ b22 := by have := hX20.size; omega
 refine qe (zA (zD (zF ?_)))
 refine qD rfl (zJ (k := 0) rfl Tryz.underlying26 rfl nz3 rfl) ?_
 refine qD rfl (zL (u := (.int .i64 t)) ag3 rfl (hX28.pins _ _ _ (hbp12 0 _ rfl))) ?_
 refine qD rfl (zJ (k := 0) rfl Tryz.underlying34 rfl nz3 rfl) ?_
 refine q0 rfl rfl rfl (xF (cs' := [(.int .i64 t), (.int .i64 0)]) (us := [(.int .i64 t)]) (v := (.int .i64 t)) sz3 rfl rfl rfl (xA (by rfl)) hX28.pins hb25 (Nat.le_of_ble_eq_true rfl) rfl (fun w32 hb33 hp34 hg35 hz36 => ?_))
 have hX37 := hX28.write hp34 hg35 ((yM hlo31))
 have hb38 := hb29.keptA hg35 ha30.symm
 refine qe (zA (zD (zF ?_)))
 refine qD rfl (zJ (k := 1) rfl Tryz.underlying26 rfl nz3 rfl) ?_
 refine qD rfl (zL (u := (.int .i64 z)) ag3 rfl (hX37.pins _ _ _ (hbp12 1 _ rfl))) ?_
 refine qD rfl (zJ (k := 1) rfl Tryz.underlying34 rfl nz3 rfl) ?_
 refine q0 rfl rfl rfl (xF (cs' := [(.int .i64 t), (.int .i64 z)]) (us := [(.int .i64 z)]) (v := (.int .i64 z)) sz3 rfl rfl rfl (xA (by rfl)) hX37.pins hb33 (Nat.le_of_ble_eq_true rfl) rfl (fun w39 hb40 hp41 hg42 hz43 => ?_))
 have hX44 := hX37.write hp41 hg42 ((yM hlo31))
 have hb45 := hb38.keptA hg42 ha30.symm
 refine qe (zA (zD (zF ?_)))
 refine qD rfl (yH (cs := [(.int .i64 t), (.int .i64 z)]) ag34 sz34 rfl (fun j u hj => hb40.cell (by simpa using hj))) ?_
 refine q0 rfl rfl rfl (xF (cs' := [(.int .i64 t), (.int .i64 z)]) (us := [(.int .i64 t), (.int .i64 z)]) (v := (.agg [(.int .i64 t), (.int .i64 z)].toArray)) sz34 rfl rfl rfl (xY (by rfl) (by rfl)) hX44.pins hb45 (Nat.le_of_ble_eq_true rfl) rfl (fun w46 hb47 hp48 hg49 hz50 => ?_))
 have hX51 := hX44.write hp48 hg49 ((yM hlo21))
 refine qe (zA ?_)
 refine wp_ret ?_
 refine zR ?_
 refine c_retc (cs := [(.int .i64 t), (.int .i64 z)]) rfl rfl rfl ag34 sz34 (fun j u hj => by rw [Nat.zero_add]; exact hb47.cell hj) ?_
 exact ⟨_, rfl, hX51⟩

theorem law {w : World} {G : Pin} {v : Value} {ns : List Nd} {t z : Int} (hP : Pins G w) (hv : RSl eNode G v ns) :
  Calls Tryz.prog 3 [(.agg [v].toArray), (.agg [(.int .i64 t), (.int .i64 z)].toArray)].toArray w fun e w' => ∃ G', e = .returned (.bool true) ∧ Ext noS G w G' w' := by
 refine zW (n := 46) Tryz.func3 Tryz.ntmps3 rfl rfl ?_
 have hX0 : Ext noS G w G w := Ext.refl hP
 refine zD (zF ?_)
 refine qI rfl (xH [v] (v := (.agg [v].toArray)) rfl rfl hX0.pins (fun b1 w2 hk3 hb4 hp5 hl6 => ?_))
 have hX7 := hX0.step hp5 hl6
 have hlo8 : w.heap.size ≤ b1 := by have := hX0.size; omega
 obtain ⟨G9, hle10, hX11, hbp12, hf13⟩ := hb4.shut hX7 hlo8
 refine qI rfl (xH [(.int .i64 t), (.int .i64 z)] (v := (.agg [(.int .i64 t), (.int .i64 z)].toArray)) rfl rfl hX11.pins (fun b14 w15 hk16 hb17 hp18 hl19 => ?_))
 have hX20 := hX11.step hp18 hl19
 have hlo21 : w.heap.size ≤ b14 := by have := hX11.size; omega
 obtain ⟨G22, hle23, hX24, hbp25, hf26⟩ := hb17.shut hX20 hlo21
 refine qD rfl (zC (v := (.bool false)) rfl) ?_
 refine qe (zA (zD (zF ?_)))
 refine qD rfl (zC (v := (.int .i64 1048576)) rfl) ?_
 refine qe (zA (zD (zF ?_)))
 refine qD rfl (yH (cs := [v]) ag24 sz24 rfl (fun j u hj => (Pins.of_le hX24.pins hle23) _ _ _ (hbp12 _ _ (by simpa using hj)))) ?_
 refine qD rfl (zB (v := (.int .i64 1048576)) rfl) ?_
 refine qI rfl (zN (vs := [(.agg [v].toArray), (.int .i64 1048576)]) Tryz.func15 nm15 rfl rfl rfl ?_)
 refine Calls.mono (szForm_spec hX24.pins (hv.mono (Pin.le_trans hle10 hle23)) (by omega)) ?_
 rintro _ w29 ⟨z27, G28, rfl, hz30, hx31⟩
 refine ⟨_, rfl, ?_⟩
 have hX32 := hX24.tr hx31
 refine qD rfl (zC (v := (.int .i64 z27)) rfl) ?_
 refine qe (zA (zD (zD (zF ?_))))
 refine qD rfl (zB (v := (.int .i64 z27)) rfl) ?_
 refine qD rfl (yN rfl rfl) ?_
 refine qe (zA ?_)
 refine yA (p := (z27 : Int) < 0) rfl rfl (fun h33 => ?_) (fun h33 => ?_)
 ·skip
  refine zD (zF ?_)
  refine qD rfl (zC (v := (.bool true)) rfl) ?_
  refine qe (zA ?_)
  refine wp_ret ?_
  refine zR ?_
  refine zO (v := (.bool true)) rfl rfl rfl ?_
  exact ⟨_, rfl, hX32⟩
 refine wp_skip ?_
 refine zA (zD ?_)
 have hsm : Small ns := small_of (by omega)
 refine yX (S := fun wz => Pins G28 wz) (last := 10) (by kernel_rfl) rfl ?_
 have hl34 : Below w29.heap.size w29 w29.drew := (Below.refl _ _).drew
 have hp35 := hX32.pins.below hl34
 have hX36 := hX32.step hp35 hl34
 refine dT (i := 0) rfl rfl (by kernel_rfl) (fun _ hS => yH (cs := [v]) ag24 sz24 rfl (fun j u hj => (Pins.of_le hS (Pin.le_trans hle23 hx31.le)) _ _ _ (hbp12 _ _ (by simpa using hj)))) hX36.pins ?_
 refine dT (i := 2) rfl rfl (by kernel_rfl) (fun _ hS => yH (cs := [(.int .i64 t), (.int .i64 z)]) ag26 sz26 rfl (fun j u hj => (Pins.of_le hS hx31.le) _ _ _ (hbp25 _ _ (by simpa using hj)))) hX36.pins ?_
 refine zQ (i := 1) (by kernel_rfl) (zU (i := 1) rfl rfl rfl (zG rfl _) (zN (vs := [(.agg [v].toArray)]) Tryz.func17 nm17 rfl rfl rfl ?_))
 refine Calls.mono (toForm_spec hX36.pins (hv.mono (Pin.le_trans (Pin.le_trans hle10 hle23) hx31.le)) hsm) ?_
 rintro _ w39 ⟨u37, G38, rfl, hr40, hx41⟩
 refine ⟨_, rfl, ?_⟩
 have hX42 := hX36.tr hx41
 refine ⟨fun _ => (Pins.of_le hX42.pins hx41.le), ?_⟩
 refine zQ (i := 3) (by kernel_rfl) (zU (i := 3) rfl rfl rfl (zG rfl _) (zN (vs := [(.agg [(.int .i64 t), (.int .i64 z)].toArray)]) Tryz.func18 nm18 rfl rfl rfl ?_))
 refine Calls.mono (toDyadic_spec (t := t) (z := z) hX42.pins) ?_
 rintro _ w44 ⟨G43, rfl, hx45⟩
 refine ⟨_, rfl, ?_⟩
 have hX46 := hX42.tr hx45
 refine ⟨fun _ => (Pins.of_le hX46.pins (Pin.le_trans hx41.le hx45.le)), ?_⟩
 refine zQ (i := 4) (by kernel_rfl) (zU (i := 4) rfl rfl rfl (zG rfl _) (zN (vs := [(.agg [u37].toArray), (.agg [(.int .i64 t), (.int .i64 z)].toArray)]) Tryz.func16 nm16 rfl rfl rfl ?_))
 refine Calls.mono (sFitsNumber_spec (t := t) (z := z) hX46.pins (hr40.mono hx45.le)) ?_
 rintro _ w48 ⟨G47, rfl, hx49⟩
 refine ⟨_, rfl, ?_⟩
 have hX50 := hX46.tr hx49
 refine ⟨fun _ => (Pins.of_le hX50.pins (Pin.le_trans (Pin.le_trans hx41.le hx45.le) hx49.le)), ?_⟩
 refine dT (i := 5) rfl rfl (by kernel_rfl) (fun _ _ => zB (v := (.tuple #[(.bool (ftV ns t z)), (.bool (ftB ns t z))])) rfl) (Pins.of_le hX50.pins (Pin.le_trans (Pin.le_trans hx41.le hx45.le) hx49.le)) ?_
 refine dT (i := 6) rfl rfl (by kernel_rfl) (fun _ _ => xG (v := (.bool (ftV ns t z))) rfl rfl) (Pins.of_le hX50.pins (Pin.le_trans (Pin.le_trans hx41.le hx45.le) hx49.le)) ?_
 refine dT (i := 7) rfl rfl (by kernel_rfl) (fun _ _ => xG (v := (.bool (ftB ns t z))) rfl rfl) (Pins.of_le hX50.pins (Pin.le_trans (Pin.le_trans hx41.le hx45.le) hx49.le)) ?_
 refine dT (i := 8) rfl rfl (by kernel_rfl) (fun _ _ => zC (v := (.bool (ftV ns t z))) rfl) (Pins.of_le hX50.pins (Pin.le_trans (Pin.le_trans hx41.le hx45.le) hx49.le)) ?_
 refine dT (i := 9) rfl rfl (by kernel_rfl) (fun _ _ => zC (v := (.bool (ftB ns t z))) rfl) (Pins.of_le hX50.pins (Pin.le_trans (Pin.le_trans hx41.le hx45.le) hx49.le)) ?_
 refine yJ (by kernel_rfl) ?_
 refine zA (zD (zF ?_))
 refine qD rfl (yH (cs := [v]) ag24 sz24 rfl (fun j u hj => (Pins.of_le hX50.pins (Pin.le_trans (Pin.le_trans (Pin.le_trans (Pin.le_trans hle23 hx31.le) hx41.le) hx45.le) hx49.le)) _ _ _ (hbp12 _ _ (by simpa using hj)))) ?_
 refine qI rfl (zN (vs := [(.agg [v].toArray)]) Tryz.func17 nm17 rfl rfl rfl ?_)
 refine Calls.mono (toForm_spec hX50.pins (hv.mono (Pin.le_trans (Pin.le_trans (Pin.le_trans (Pin.le_trans (Pin.le_trans hle10 hle23) hx31.le) hx41.le) hx45.le) hx49.le)) hsm) ?_
 rintro _ w53 ⟨u51, G52, rfl, hr54, hx55⟩
 refine ⟨_, rfl, ?_⟩
 have hX56 := hX50.tr hx55
 refine qI rfl (yW [(.slice none 0 0)] zr32 rfl hX56.pins (fun b57 w58 hk59 hb60 hp61 hl62 => ?_))
 have hX63 := hX56.step hp61 hl62
 have hlo64 : w.heap.size ≤ b57 := by have := hX56.size; omega
 refine q0 rfl rfl rfl (xF (cs' := [u51]) (us := [u51]) (v := (.agg [u51].toArray)) sz32 rfl rfl rfl (xA hr54.one) hX63.pins hb60 (Nat.le_of_ble_eq_true rfl) rfl (fun w65 hb66 hp67 hg68 hz69 => ?_))
 have hX70 := hX63.write hp67 hg68 ((yM hlo64))
 obtain ⟨G71, hle72, hX73, hbp74, hf75⟩ := hb66.shut hX70 hlo64
 refine qe (zA (zD ?_))
 refine yX (S := fun wz => Pins G71 wz) (last := 9) (by kernel_rfl) rfl ?_
 have hl76 : Below w65.heap.size w65 w65.drew := (Below.refl _ _).drew
 have hp77 := hX73.pins.below hl76
 have hX78 := hX73.step hp77 hl76
 refine dT (i := 0) rfl rfl (by kernel_rfl) (fun _ hS => yH (cs := [u51]) ag32 sz32 rfl (fun j u hj => hS _ _ _ (hbp74 _ _ (by simpa using hj)))) hX78.pins ?_
 refine dT (i := 1) rfl rfl (by kernel_rfl) (fun _ hS => yH (cs := [(.int .i64 t), (.int .i64 z)]) ag26 sz26 rfl (fun j u hj => (Pins.of_le hS (Pin.le_trans (Pin.le_trans (Pin.le_trans (Pin.le_trans (Pin.le_trans hx31.le hx41.le) hx45.le) hx49.le) hx55.le) hle72)) _ _ _ (hbp25 _ _ (by simpa using hj)))) hX78.pins ?_
 refine zQ (i := 2) (by kernel_rfl) (zU (i := 2) rfl rfl rfl (zG rfl _) (zN (vs := [(.agg [(.int .i64 t), (.int .i64 z)].toArray)]) Tryz.func18 nm18 rfl rfl rfl ?_))
 refine Calls.mono (toDyadic_spec (t := t) (z := z) hX78.pins) ?_
 rintro _ w80 ⟨G79, rfl, hx81⟩
 refine ⟨_, rfl, ?_⟩
 have hX82 := hX78.tr hx81
 refine ⟨fun _ => (Pins.of_le hX82.pins hx81.le), ?_⟩
 refine zQ (i := 3) (by kernel_rfl) (zU (i := 3) rfl rfl rfl (zG rfl _) (zN (vs := [(.agg [u51].toArray), (.agg [(.int .i64 t), (.int .i64 z)].toArray)]) Tryz.func19 nm19 rfl rfl rfl ?_))
 refine Calls.mono (iFitsNumber_spec (t := t) (z := z) hX82.pins (hr54.mono (Pin.le_trans hle72 hx81.le))) ?_
 rintro _ w84 ⟨G83, rfl, hx85⟩
 refine ⟨_, rfl, ?_⟩
 have hX86 := hX82.tr hx85
 refine ⟨fun _ => (Pins.of_le hX86.pins (Pin.le_trans hx81.le hx85.le)), ?_⟩
 refine dT (i := 4) rfl rfl (by kernel_rfl) (fun _ _ => zB (v := (.tuple #[(.bool (ftV ns t z)), (.bool (ftB ns t z))])) rfl) (Pins.of_le hX86.pins (Pin.le_trans hx81.le hx85.le)) ?_
 refine dT (i := 5) rfl rfl (by kernel_rfl) (fun _ _ => xG (v := (.bool (ftV ns t z))) rfl rfl) (Pins.of_le hX86.pins (Pin.le_trans hx81.le hx85.le)) ?_
 refine dT (i := 6) rfl rfl (by kernel_rfl) (fun _ _ => xG (v := (.bool (ftB ns t z))) rfl rfl) (Pins.of_le hX86.pins (Pin.le_trans hx81.le hx85.le)) ?_
 refine dT (i := 7) rfl rfl (by kernel_rfl) (fun _ _ => zC (v := (.bool (ftV ns t z))) rfl) (Pins.of_le hX86.pins (Pin.le_trans hx81.le hx85.le)) ?_
 refine dT (i := 8) rfl rfl (by kernel_rfl) (fun _ _ => zC (v := (.bool (ftB ns t z))) rfl) (Pins.of_le hX86.pins (Pin.le_trans hx81.le hx85.le)) ?_
 refine yJ (by kernel_rfl) ?_
 refine zA (zD (zD (zF ?_)))
 refine qD rfl (zB (v := (.bool (ftV ns t z))) rfl) ?_
 refine qD rfl (zB (v := (.bool (ftV ns t z))) rfl) ?_
 refine qD rfl (r_neqB_same Tryz.underlying4 rfl rfl) ?_
 refine qD rfl (zB (v := (.bool false)) rfl) ?_
 refine qdg rfl rfl rfl rfl rfl rfl (zB (v := (.bool (ftB ns t z))) rfl) ?_
 refine qdg rfl rfl rfl rfl rfl rfl (zB (v := (.bool (ftB ns t z))) rfl) ?_
 refine qdg rfl rfl rfl rfl rfl rfl (r_neqB_same Tryz.underlying4 rfl rfl) ?_
 refine qD rfl (yT (v := (.bool false)) rfl rfl) ?_
 refine qe (zA ?_)
 refine qP rfl rfl ?_
 refine wp_skip ?_
 refine zA (zD (zD ?_))
 refine yX (S := fun wz => Pins G83 wz) (last := 5) (by kernel_rfl) rfl ?_
 have hl87 : Below w84.heap.size w84 w84.drew := (Below.refl _ _).drew
 have hp88 := hX86.pins.below hl87
 have hX89 := hX86.step hp88 hl87
 refine dT (i := 0) rfl rfl (by kernel_rfl) (fun _ hS => yH (cs := [u51]) ag32 sz32 rfl (fun j u hj => (Pins.of_le hS (Pin.le_trans hx81.le hx85.le)) _ _ _ (hbp74 _ _ (by simpa using hj)))) hX89.pins ?_
 refine dT (i := 1) rfl rfl (by kernel_rfl) (fun _ hS => yH (cs := [v]) ag24 sz24 rfl (fun j u hj => (Pins.of_le hS (Pin.le_trans (Pin.le_trans (Pin.le_trans (Pin.le_trans (Pin.le_trans (Pin.le_trans (Pin.le_trans (Pin.le_trans hle23 hx31.le) hx41.le) hx45.le) hx49.le) hx55.le) hle72) hx81.le) hx85.le)) _ _ _ (hbp12 _ _ (by simpa using hj)))) hX89.pins ?_
 refine zQ (i := 2) (by kernel_rfl) (zU (i := 2) rfl rfl rfl (zG rfl _) (zN (vs := [(.agg [v].toArray)]) Tryz.func17 nm17 rfl rfl rfl ?_))
 refine Calls.mono (toForm_spec hX89.pins (hv.mono (Pin.le_trans (Pin.le_trans (Pin.le_trans (Pin.le_trans (Pin.le_trans (Pin.le_trans (Pin.le_trans (Pin.le_trans (Pin.le_trans hle10 hle23) hx31.le) hx41.le) hx45.le) hx49.le) hx55.le) hle72) hx81.le) hx85.le)) hsm) ?_
 rintro _ w92 ⟨u90, G91, rfl, hr93, hx94⟩
 refine ⟨_, rfl, ?_⟩
 have hX95 := hX89.tr hx94
 refine ⟨fun _ => (Pins.of_le hX95.pins hx94.le), ?_⟩
 refine zQ (i := 3) (by kernel_rfl) (zU (i := 3) rfl rfl rfl (zG rfl _) (zN (vs := [(.agg [u51].toArray), (.agg [u90].toArray)]) Tryz.func20 nm20 rfl rfl rfl ?_))
 refine Calls.mono (eqForm_spec hX95.pins (hr54.mono (Pin.le_trans (Pin.le_trans (Pin.le_trans hle72 hx81.le) hx85.le) hx94.le)) hr93) ?_
 rintro _ w97 ⟨G96, rfl, hx98⟩
 refine ⟨_, rfl, ?_⟩
 have hX99 := hX95.tr hx98
 refine ⟨fun _ => (Pins.of_le hX99.pins (Pin.le_trans hx94.le hx98.le)), ?_⟩
 refine dT (i := 4) rfl rfl (by kernel_rfl) (fun _ _ => qB rfl) (Pins.of_le hX99.pins (Pin.le_trans hx94.le hx98.le)) ?_
 refine yJ (by kernel_rfl) ?_
 refine zA ?_
 refine qY rfl rfl (fun _ => ?_) (fun h => absurd rfl (of_decide_eq_false h))
 refine wp_skip ?_
 refine zA (zD (zF ?_))
 refine qD rfl (zC (v := (.bool true)) rfl) ?_
 refine qe (zA ?_)
 refine wp_ret ?_
 refine zR ?_
 refine zO (v := (.bool true)) rfl rfl rfl ?_
 exact ⟨_, rfl, hX99⟩

end LFT
end Go.Proofs.YtfnginkcmcfdfaaGreatDoor
