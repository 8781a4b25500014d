/- Texts of this claim in one file: NB6, LNF. -/
import Derived.Test.YtfnginkcmcfdfaaGreatDoorNf6
import Derived.Test.YtfnginkcmcfdfaaGreatDoorChecked
set_option maxRecDepth 20000
set_option maxHeartbeats 2000000
namespace Go.Proofs.YtfnginkcmcfdfaaGreatDoor
namespace NB6
open Go.RowKit Go.GL Go.Proofs
open Go.Proofs.YtfnginkcmcfdfaaGreatDoor.B1
open Go.Proofs.YtfnginkcmcfdfaaGreatDoor.C1
open Go.Proofs.YtfnginkcmcfdfaaGreatDoor.D1
open Go.Proofs.YtfnginkcmcfdfaaGreatDoor.E1
open Go.Proofs.YtfnginkcmcfdfaaGreatDoor.K1
open Go.Proofs.YtfnginkcmcfdfaaGreatDoor.PO1
open Go.Proofs.YtfnginkcmcfdfaaGreatDoor.PL1
open Go.Proofs.YtfnginkcmcfdfaaGreatDoor.PA1
open Go.Proofs.YtfnginkcmcfdfaaGreatDoor.SO1
open Go.Proofs.YtfnginkcmcfdfaaGreatDoor.OD1
open Go.Proofs.YtfnginkcmcfdfaaGreatDoor.FO1
open Go.Proofs.YtfnginkcmcfdfaaGreatDoor.NG1
open Go.Proofs.YtfnginkcmcfdfaaGreatDoor.NF1
open Go.Proofs.YtfnginkcmcfdfaaGreatDoor.SM1
open Go.Proofs.YtfnginkcmcfdfaaGreatDoor.NU1
open Go.Proofs.YtfnginkcmcfdfaaGreatDoor.NU3
open Go.Proofs.YtfnginkcmcfdfaaGreatDoor.NB4
open Go.Proofs.YtfnginkcmcfdfaaGreatDoor.NB5








theorem pl102 : (Tryz.prog.underlying 102).bind (placesD Tryz.prog) = some [(0, 1), (1, 1)] := by kernel_rfl
theorem pl32 : (Tryz.prog.underlying 32).bind (placesD Tryz.prog) = some [(0, 1)] := by kernel_rfl




theorem l7FormN_spec {w : World} {G : Pin} {t : Int} {dp : Nat} (hP : Pins G w) (hg : GoodD t (dp : Int)) :
  Calls Tryz.prog 58 [(.agg [(.int .i64 t), (.int .i64 (dp : Int))].toArray)].toArray w fun e w' => ∃ (u : Value) (G' : Pin), e = .returned (.agg [u].toArray) ∧ RSl eNode G' u (l7F dp t) ∧ Ext noS G w G' w' := by
 refine zZ (n := 15) Tryz.func58 Tryz.ntmps58 rfl rfl ?_
 have hX0 : Ext noS G w G w := Ext.refl hP
 have htp := hg.top
 have hpw := hg.pow
 refine zD (zG ?_)
 refine qI rfl (xT [(.int .i64 t), (.int .i64 (dp : Int))] (v := (.agg [(.int .i64 t), (.int .i64 (dp : Int))].toArray)) rfl rfl hX0.pins (fun b1 w2 hk3 hb4 hp5 hl6 => ?_))
 have hX7 := hX0.step hp5 hl6
 have hlo8 : w.heap.size ≤ b1 := by have := hX0.size; omega
 obtain ⟨G9, hle10, hX11, hbp12, hf13⟩ := hb4.shut hX7 hlo8
 refine qI rfl (yY [(.slice none 0 0)] zr32 rfl hX11.pins (fun b14 w15 hk16 hb17 hp18 hl19 => ?_))
 have hX20 := hX11.step hp18 hl19
 have hlo21 : w.heap.size ≤ b14 := by have := hX11.size; omega
 refine qe (zA (zD (zD (zG ?_))))
 refine qD rfl (yP (cs := [(.int .i64 t), (.int .i64 (dp : Int))]) ag34 sz34 rfl (fun j u hj => hX20.pins _ _ _ (hbp12 _ _ (by simpa using hj)))) ?_
 refine qI rfl (zM (vs := [(.agg [(.int .i64 t), (.int .i64 (dp : Int))].toArray)]) Tryz.func106 nm106 rfl rfl rfl ?_)
 refine Calls.mono (l2Born_spec (t := t) (dp := dp) hX20.pins (by omega) (by omega)) ?_
 rintro _ w23 ⟨G22, rfl, hx24⟩
 refine ⟨_, rfl, ?_⟩
 have hX25 := hX20.tr hx24
 have hb26 := hb17.ext hx24
 refine qD rfl (r_geq rfl rfl) ?_
 refine qe (zA ?_)
 refine yB (p := (120 : Int) ≤ ((bornD dp t : Nat) : Int)) rfl rfl (fun h27 => ?_) (fun h27 => ?_)
 ·skip
  refine zD (zG ?_)
  refine qD rfl (xE [(.slice none 0 0)] [(.slice none 0 0)] [] Tryz.underlying32 zr32 rfl pl32 rfl (fun _ h => by cases h) rfl) ?_
  refine q0 rfl rfl rfl (xA (cs' := [(.slice none 0 0)]) (us := [(.slice none 0 0)]) (v := (.agg [(.slice none 0 0)].toArray)) sz32 rfl rfl rfl (yR (by rfl)) hX25.pins hb26 (Nat.le_of_ble_eq_true rfl) rfl (fun w28 hb29 hp30 hg31 hz32 => ?_))
  have hX33 := hX25.write hp30 hg31 ((yL hlo21))
  refine qe (zA ?_)
  refine wp_ret ?_
  refine zT ?_
  refine c_retc (cs := [(.slice none 0 0)]) rfl rfl rfl ag32 sz32 (fun j u hj => by rw [Nat.zero_add]; exact hb29.cell hj) ?_
  exact ⟨_, _, rfl, (by rw [l7_late (by omega)]; exact (xL _ _)), hX33⟩
 refine wp_skip ?_
 refine zA (zD (zG ?_))
 refine qD rfl (xE [(.slice none 0 0), (.slice none 0 0)] [(.slice none 0 0), (.slice none 0 0)] [] Tryz.underlying102 zr102 rfl pl102 rfl (fun _ h => by cases h) rfl) ?_
 refine qI rfl (xT [(.slice none 0 0), (.slice none 0 0)] (v := (.agg [(.slice none 0 0), (.slice none 0 0)].toArray)) rfl rfl hX25.pins (fun b34 w35 hk36 hb37 hp38 hl39 => ?_))
 have hX40 := hX25.step hp38 hl39
 have hb41 := hb26.below hl39
 have ha42 : Apart (some b34) (some b14) := zK (congrArg some hk36) hb26.lt
 have hlo43 : w.heap.size ≤ b34 := by have := hX25.size; omega
 refine qD rfl (zC (v := (.pointer (some ⟨b34, 0, none⟩))) rfl) ?_
 refine qe (zA (zD (zG ?_)))
 have hbn : bornD dp t < 120 := by omega
 have hno := born_num hg hbn
 have hcn := cnt_num hno
 have hcm := numT_max hno.pow
 have hbe : PoolOk (bkq [] []) := bkq_ok Ar.empty
 refine qD rfl (zB (v := (.pointer (some ⟨b34, 0, none⟩))) rfl) ?_
 refine qD rfl (zB (v := (.pointer (some ⟨b34, 0, none⟩))) rfl) ?_
 refine qD rfl (yP (cs := [(.int .i64 t), (.int .i64 (dp : Int))]) ag34 sz34 rfl (fun j u hj => (Pins.of_le hX40.pins hx24.le) _ _ _ (hbp12 _ _ (by simpa using hj)))) ?_
 refine qI rfl (zM (vs := [(.pointer (some ⟨b34, 0, none⟩)), (.agg [(.int .i64 t), (.int .i64 (dp : Int))].toArray)]) Tryz.func107 nm107 rfl rfl rfl ?_)
 refine Calls.mono (l7Put_spec hX40.pins ⟨hb37, (Own.nil _ _ _ _ _), (Own.nil _ _ _ _ _), apart_none.symm, apart_none.symm, apart_none⟩ hbe hno (by simp; omega)) ?_
 rintro _ w55 ⟨z44, u52, v53, ns45, bs46, G54, rfl, hbk56, hx57, hlu58, hlv59, hok47, hpx48, hpl49, hpd50, hcl51⟩
 refine ⟨_, rfl, ?_⟩
 have hin62 : ∀ i, inS b34 (.slice none 0 0) (.slice none 0 0) i → w.heap.size ≤ i ∨ noS i := inS_lo (yL hlo43) (lo_none _ _) (lo_none _ _)
 have hX63 := hX40.trans hx57 hin62
 have hn64 := notS (u := (.slice none 0 0)) (v := (.slice none 0 0)) ha42.symm apart_none.symm apart_none.symm
 have ho65 := hb41.extS hx57 (notSb hn64)
 have hb68 := hbk56.bx
 have ho69 := hbk56.ou
 have ho70 := hbk56.ov
 have ha71 := hbk56.abu
 have ha72 := hbk56.abv
 have ha73 := hbk56.auv
 have hlo74 := xR hlu58 hin62 hX40.size
 have hlo75 := xR hlv59 hin62 hX40.size
 have hpx76 := hpx48
 refine qI rfl (zM (vs := [(.pointer (some ⟨b34, 0, none⟩)), (.int .i64 z44)]) Tryz.func90 nm90 rfl rfl rfl ?_)
 refine Calls.mono (form_spec hX63.pins ⟨hb68, ho69, ho70, ha71, ha72, ha73⟩ hok47.ar.ok hpl49) ?_
 rintro _ w79 ⟨u77, G78, rfl, hr80, hx81⟩
 refine ⟨_, rfl, ?_⟩
 have hX82 := hX63.tr hx81
 have hb85 := ho65.ext hx81
 refine q0 rfl rfl rfl (xA (cs' := [u77]) (us := [u77]) (v := (.agg [u77].toArray)) sz32 rfl rfl rfl (yR hr80.one) hX82.pins hb85 (Nat.le_of_ble_eq_true rfl) rfl (fun w87 hb88 hp89 hg90 hz91 => ?_))
 have hX92 := hX82.write hp89 hg90 ((yL hlo21))
 refine qe (zA ?_)
 refine wp_ret ?_
 refine zT ?_
 refine c_retc (cs := [u77]) rfl rfl rfl ag32 sz32 (fun j u hj => by rw [Nat.zero_add]; exact hb88.cell hj) ?_
 exact ⟨_, _, rfl, (by rw [l7_early hbn, ← hpd50, ← book_form hok47 hpl49]; exact hr80), hX92⟩

theorem l7Form_spec {w : World} {G : Pin} {t z : Int} (hP : Pins G w) (hg : GoodD t z) :
  Calls Tryz.prog 58 [(.agg [.int .i64 t, .int .i64 z].toArray)].toArray w fun e w' => ∃ (u : Value) (G' : Pin), e = .returned (.agg [u].toArray) ∧ RSl eNode G' u (l7F z.toNat t) ∧ Ext noS G w G' w' := by
 obtain ⟨dp, rfl⟩ : ∃ dp : Nat, z = (dp : Int) := ⟨z.toNat, by have := hg.pow; omega⟩
 simp only [Int.toNat_natCast]
 exact l7FormN_spec hP hg

theorem sNumberForm_spec {w : World} {G : Pin} {t z : Int} (hP : Pins G w) :
  Calls Tryz.prog 21 [(.agg [(.int .i64 t), (.int .i64 z)].toArray)].toArray w fun e w' => ∃ (u : Value) (G' : Pin), e = .returned (.tuple #[(.agg [u].toArray), .bool (nmB t z)]) ∧ RSl eNode G' u (nmF t z) ∧ Ext noS G w G' w' := by
 refine zZ (n := 13) Tryz.func21 Tryz.ntmps21 rfl rfl ?_
 have hX0 : Ext noS G w G w := Ext.refl hP
 refine zD (zG ?_)
 refine qI rfl (xT [(.int .i64 t), (.int .i64 z)] (v := (.agg [(.int .i64 t), (.int .i64 z)].toArray)) rfl rfl hX0.pins (fun b1 w2 hk3 hb4 hp5 hl6 => ?_))
 have hX7 := hX0.step hp5 hl6
 have hlo8 : w.heap.size ≤ b1 := by have := hX0.size; omega
 obtain ⟨G9, hle10, hX11, hbp12, hf13⟩ := hb4.shut hX7 hlo8
 refine qI rfl (yY [(.slice none 0 0)] zr32 rfl hX11.pins (fun b14 w15 hk16 hb17 hp18 hl19 => ?_))
 have hX20 := hX11.step hp18 hl19
 have hlo21 : w.heap.size ≤ b14 := by have := hX11.size; omega
 refine qD rfl (zC (v := (.bool false)) rfl) ?_
 refine qe (zA (zD (zD (zG ?_))))
 refine qD rfl (yP (cs := [(.int .i64 t), (.int .i64 z)]) ag34 sz34 rfl (fun j u hj => hX20.pins _ _ _ (hbp12 _ _ (by simpa using hj)))) ?_
 refine qI rfl (zM (vs := [(.agg [(.int .i64 t), (.int .i64 z)].toArray)]) Tryz.func56 nm56 rfl rfl rfl ?_)
 refine Calls.mono (l2Good_spec (t := t) (z := z) hX20.pins) ?_
 rintro _ w23 ⟨G22, rfl, hx24⟩
 refine ⟨_, rfl, ?_⟩
 have hX25 := hX20.tr hx24
 have hb26 := hb17.ext hx24
 refine qD rfl (r_not rfl) ?_
 refine qe (zA ?_)
 refine c_ifn rfl rfl (fun h27 => ?_) (fun h27 => ?_)
 ·skip
  refine wp_skip ?_
  refine zA (zD (zG ?_))
  have hgd := decP_true.1 h27
  refine qD rfl (yP (cs := [(.int .i64 t), (.int .i64 z)]) ag34 sz34 rfl (fun j u hj => (Pins.of_le hX25.pins hx24.le) _ _ _ (hbp12 _ _ (by simpa using hj)))) ?_
  refine qI rfl (zM (vs := [(.agg [(.int .i64 t), (.int .i64 z)].toArray)]) Tryz.func58 nm58 rfl rfl rfl ?_)
  refine Calls.mono (l7Form_spec (t := t) (z := z) hX25.pins hgd) ?_
  rintro _ w30 ⟨u28, G29, rfl, hr31, hx32⟩
  refine ⟨_, rfl, ?_⟩
  have hX33 := hX25.tr hx32
  have hb34 := hb26.ext hx32
  refine qI rfl (zM (vs := [(.agg [u28].toArray)]) Tryz.func57 nm57 rfl rfl rfl ?_)
  refine Calls.mono (l3If_spec hX33.pins hr31) ?_
  rintro _ w37 ⟨u35, G36, rfl, hr38, hx39⟩
  refine ⟨_, rfl, ?_⟩
  have hX40 := hX33.tr hx39
  have hb41 := hb34.ext hx39
  refine qD rfl (yW (v := (.agg [u35].toArray)) rfl rfl) ?_
  refine qD rfl (yW (v := (.bool (decP (FitsP (l7F (z).toNat t))))) rfl rfl) ?_
  refine q0 rfl rfl rfl (xA (cs' := [u35]) (us := [u35]) (v := (.agg [u35].toArray)) sz32 rfl rfl rfl (yR hr38.one) hX40.pins hb41 (Nat.le_of_ble_eq_true rfl) rfl (fun w42 hb43 hp44 hg45 hz46 => ?_))
  have hX47 := hX40.write hp44 hg45 ((yL hlo21))
  refine qD rfl (zC (v := (.bool (decP (FitsP (l7F (z).toNat t))))) rfl) ?_
  refine qe (zA ?_)
  refine wp_ret ?_
  refine zT ?_
  refine xW (cs := [u35]) (v := (.bool (decP (FitsP (l7F (z).toNat t))))) rfl rfl rfl rfl rfl ag32 sz32 (fun j u hj => by rw [Nat.zero_add]; exact hb43.cell hj) ?_
  obtain ⟨e1, e2⟩ := nm_l7 hgd
  rw [e1, e2]
  exact ⟨_, _, rfl, hr38, hX47⟩
 refine zD (zG ?_)
 refine qD rfl (xE [(.slice none 0 0)] [(.slice none 0 0)] [] Tryz.underlying32 zr32 rfl pl32 rfl (fun _ h => by cases h) rfl) ?_
 refine q0 rfl rfl rfl (xA (cs' := [(.slice none 0 0)]) (us := [(.slice none 0 0)]) (v := (.agg [(.slice none 0 0)].toArray)) sz32 rfl rfl rfl (yR (by rfl)) hX25.pins hb26 (Nat.le_of_ble_eq_true rfl) rfl (fun w48 hb49 hp50 hg51 hz52 => ?_))
 have hX53 := hX25.write hp50 hg51 ((yL hlo21))
 refine qD rfl (zC (v := (.bool false)) rfl) ?_
 refine qe (zA ?_)
 refine wp_ret ?_
 refine zT ?_
 refine xW (cs := [(.slice none 0 0)]) (v := (.bool false)) rfl rfl rfl rfl rfl ag32 sz32 (fun j u hj => by rw [Nat.zero_add]; exact hb49.cell hj) ?_
 obtain ⟨e1, e2⟩ := nm_bad (decP_false.1 h27)
 rw [e1, e2]
 exact ⟨_, _, rfl, (xL _ _), hX53⟩

end NB6
end Go.Proofs.YtfnginkcmcfdfaaGreatDoor

set_option maxRecDepth 20000
set_option maxHeartbeats 2000000
namespace Go.Proofs.YtfnginkcmcfdfaaGreatDoor
namespace LNF
open Go.RowKit Go.GL Go.Proofs
open Go.Proofs.YtfnginkcmcfdfaaGreatDoor.B1
open Go.Proofs.YtfnginkcmcfdfaaGreatDoor.C1
open Go.Proofs.YtfnginkcmcfdfaaGreatDoor.D1
open Go.Proofs.YtfnginkcmcfdfaaGreatDoor.E1
open Go.Proofs.YtfnginkcmcfdfaaGreatDoor.G1
open Go.Proofs.YtfnginkcmcfdfaaGreatDoor.L1
open Go.Proofs.YtfnginkcmcfdfaaGreatDoor.NF1
open Go.Proofs.YtfnginkcmcfdfaaGreatDoor.SM1
open Go.Proofs.YtfnginkcmcfdfaaGreatDoor.NB3
open Go.Proofs.YtfnginkcmcfdfaaGreatDoor.NB6


























theorem markNodeX_spec {w : World} {G : Pin} {v : Value} {ps : List (Value × Value)} {ns : List Nd} {kz : Int} {lo hi : Nat} (hP : Pins G w) (ho : Own eVal2 99 G w 0 v ps) (hpl : ps.length = ns.length) (hav : ∀ u ∈ leafV ps, Apart u.ownBlock v.ownBlock) (hF : Lvs 3 G w lo hi (lvN ps ns)) (hsm : Small ns) (hk : 0 ≤ kz ∧ kz ≤ 1099511627776) :
  Calls Tryz.prog 60 [v, (.int .i64 kz)].toArray w fun e w' => e = .returned (.int .i64 (kz + totN ns)) ∧ Lvs 3 G w' lo hi (lvN ps (markN kz ns)) ∧ Ext (inV (leafV ps)) G w G w' := by
 refine zZ (n := 27) Tryz.func60 Tryz.ntmps60 rfl rfl ?_
 have hX0 : Ext (inV (leafV ps)) G w G w := Ext.refl hP
 have hln := hsm.len
 refine zD (zG ?_)
 refine qD rfl (zC (v := (.int .i64 0)) rfl) ?_
 refine qe (zA (zD (zD (zG ?_))))
 refine qD rfl (zC (v := (.int .i64 0)) rfl) ?_
 refine qe (zA ?_)
 refine yD ?_
 refine yU (fun (k : Nat) (en : Nat → Value) (W : World) => ∃ (env1 : Nat → Value) (j : Nat) (q : Int) (A : List Leaf), en = (upd (upd (upd (upd env1 0 v) 1 (.int .i64 q)) 4 (.int .i64 0)) 5 (.int .i64 (j : Int))) ∧ k = ps.length - j ∧ Ext (inV (leafV ps)) G w G W ∧ (j ≤ ps.length) ∧ (0 ≤ q ∧ q ≤ kz + 2097152 * (j : Int)) ∧ (kz + totN ns = q + totN (ns.drop j)) ∧ (lvN ps (markN kz ns) = A ++ lvN (ps.drop j) (markN q (ns.drop j))) ∧ (Lvs 3 G W lo hi (A ++ lvN (ps.drop j) (ns.drop j))) ∧ (Own eVal2 99 G W 0 v (ps))) _ ⟨_, 0, kz, [], (zF (x := 5) (zF (x := 4) (zF (x := 1) (zW (x := 0) rfl) rfl) rfl) rfl), rfl, hX0, Nat.zero_le _, (by omega), rfl, rfl, hF, ho⟩ ?_
 rintro k1 _ w2 ⟨env1, j, q, A, rfl, hk3, hX4, hj, hq, hqt, hA, hF1, hw5⟩
 refine zD (zD (zG ?_))
 refine qD rfl (zB (v := (.int .i64 (j : Int))) rfl) ?_
 refine qD rfl (zB (v := v) rfl) ?_
 refine qD rfl (zV Tryz.underlying30 (v := v) rfl hw5.read) ?_
 refine qD rfl (yV rfl rfl) ?_
 refine qe (zA ?_)
 refine yB (p := ((j : Int) : Int) < (ps.length : Int)) rfl rfl (fun h6 => ?_) (fun h6 => ?_)
 ·skip
  have hso := hsm.opts j (by omega)
  refine wp_skip ?_
  refine zA (zD ?_)
  refine yD ?_
  refine zD (zG ?_)
  refine qD rfl (zB (v := v) rfl) ?_
  refine qD rfl (zB (v := (.int .i64 (j : Int))) rfl) ?_
  refine qD rfl (zS Tryz.underlying30 sz99 (v := v) rfl rfl hw5.read (by omega) (by omega)) ?_
  refine qD rfl (xV (off := 0) Tryz.underlying99 rfl rfl nz65 (z := (j : Int)) (k := 0) rfl hw5.read (by omega) (by omega)) ?_
  obtain ⟨cs7, hrep8, hagg9, hcell10⟩ := nm_el (j := j) default (hw5.at (z := (j : Int)) (by omega) (by omega)) rfl
  obtain ⟨rfl, hone13⟩ := hrep8
  obtain ⟨u11, hu12⟩ : ∃ u, u = (ps.getD j default).1 := ⟨_, rfl⟩
  refine qD rfl (hcell10 0 u11 (by rw [hu12]; rfl) ag65 rfl (Gadd.pins hX4.pins v)) ?_
  refine qD rfl (zB (v := (.int .i64 q)) rfl) ?_
  have hmem17 : u11 ∈ leafV ps := by rw [hu12]; exact (leafV_mem (by omega)).1
  have hL18 : Lvs 3 G w2 lo hi (A ++ (u11, (ns.getD j default).l) :: (((ps.getD j default).2, (ns.getD j default).r) :: lvN (ps.drop (j + 1)) (ns.drop (j + 1)))) := by rw [hu12, ← lvN_next (by omega) (by omega)]; exact hF1
  refine qI rfl (zM (vs := [u11, (.int .i64 q)]) Tryz.func108 nm108 rfl rfl rfl ?_)
  refine Calls.mono (markIntS_spec hX4.pins ((hL18.own _ (List.mem_append_right _ List.mem_cons_self)).weaken (Nat.zero_le _)) (by omega) (hso.1)) ?_
  rintro _ w14 ⟨rfl, ho15, hx16⟩
  refine ⟨_, rfl, ?_⟩
  have hg20 := mark_grown hx16
  have hX21 := hX4.write hx16.pins hg20 (fun k hk => Or.inr ⟨_, hmem17, hk⟩)
  have ho22 := hw5.keptA hg20 (hav _ hmem17).symm
  have hL19 := Lvs.step hL18 (ho15.up (fun k hk => ((hL18.own _ (List.mem_append_right _ List.mem_cons_self)).lt k hk).1)) hg20
  refine qD rfl (zC (v := (.int .i64 (q + ((ns.getD j default).l.length : Int)))) rfl) ?_
  refine qe (zA (zG ?_))
  refine qD rfl (zB (v := v) rfl) ?_
  refine qD rfl (zB (v := (.int .i64 (j : Int))) rfl) ?_
  refine qD rfl (zS Tryz.underlying30 sz99 (v := v) rfl rfl ho22.read (by omega) (by omega)) ?_
  refine qD rfl (xV (off := 1) Tryz.underlying99 rfl rfl nz65 (z := (j : Int)) (k := 0) rfl ho22.read (by omega) (by omega)) ?_
  obtain ⟨cs23, hrep24, hagg25, hcell26⟩ := nm_el (j := j) default (ho22.at (z := (j : Int)) (by omega) (by omega)) rfl
  obtain ⟨rfl, hone29⟩ := hrep24
  obtain ⟨u27, hu28⟩ : ∃ u, u = (ps.getD j default).2 := ⟨_, rfl⟩
  refine qD rfl (hcell26 1 u27 (by rw [hu28]; rfl) ag65 rfl (Gadd.pins hX21.pins v)) ?_
  refine qD rfl (zB (v := (.int .i64 (q + ((ns.getD j default).l.length : Int)))) rfl) ?_
  have hmem33 : u27 ∈ leafV ps := by rw [hu28]; exact (leafV_mem (by omega)).2
  have hL34 : Lvs 3 G w14 lo hi ((A ++ [(u11, upL (q) (ns.getD j default).l.length)]) ++ (u27, (ns.getD j default).r) :: lvN (ps.drop (j + 1)) (ns.drop (j + 1))) := by rw [hu28, List.append_assoc]; exact hL19
  refine qI rfl (zM (vs := [u27, (.int .i64 (q + ((ns.getD j default).l.length : Int)))]) Tryz.func108 nm108 rfl rfl rfl ?_)
  refine Calls.mono (markIntS_spec hX21.pins ((hL34.own _ (List.mem_append_right _ List.mem_cons_self)).weaken (Nat.zero_le _)) (by omega) (hso.2)) ?_
  rintro _ w30 ⟨rfl, ho31, hx32⟩
  refine ⟨_, rfl, ?_⟩
  have hg36 := mark_grown hx32
  have hX37 := hX21.write hx32.pins hg36 (fun k hk => Or.inr ⟨_, hmem33, hk⟩)
  have ho38 := ho22.keptA hg36 (hav _ hmem33).symm
  have hL35 := Lvs.step hL34 (ho31.up (fun k hk => ((hL34.own _ (List.mem_append_right _ List.mem_cons_self)).lt k hk).1)) hg36
  refine qD rfl (zC (v := (.int .i64 ((q + ((ns.getD j default).l.length : Int)) + ((ns.getD j default).r.length : Int)))) rfl) ?_
  refine qe ?_
  refine yJ ?_
  refine zA (zG ?_)
  refine qD rfl (zB (v := (.int .i64 (j : Int))) rfl) ?_
  refine qD rfl (yQ rfl rfl (by omega)) ?_
  refine qD rfl (zC (v := (.int .i64 ((j : Int) + 1))) rfl) ?_
  refine qe ?_
  refine yM ?_
  refine ⟨_, ?_, _, rfl, _, j + 1, (q + ((ns.getD j default).l.length : Int)) + ((ns.getD j default).r.length : Int), A ++ [(u11, upL (q) (ns.getD j default).l.length)] ++ [(u27, upL (q + ((ns.getD j default).l.length : Int)) (ns.getD j default).r.length)], (zF (x := 5) (zF (x := 4) (zF (x := 1) (zW (x := 0) rfl) rfl) rfl) rfl), rfl, hX37, (by omega), (by omega), (hqt.trans (by rw [totN_next (by omega)]; omega)), (hA.trans (by rw [lvN_markN (by omega) (by omega), List.append_assoc, List.append_assoc, ← hu12, ← hu28]; rfl)), (by rw [List.append_assoc]; exact hL35), ho38⟩
  omega
 refine wp_exit ?_
 refine yC ?_
 refine yN ?_
 refine yK ?_
 refine zA (zD (zG ?_))
 refine qD rfl (zB (v := (.int .i64 q)) rfl) ?_
 refine qD rfl (zC (v := (.int .i64 q)) rfl) ?_
 refine qe (zA ?_)
 refine wp_ret ?_
 refine zT ?_
 refine zQ (v := (.int .i64 q)) rfl rfl rfl ?_
 rw [lvN_end (by omega), List.append_nil] at hA
 rw [lvN_end (by omega), List.append_nil] at hF1
 exact ⟨congrArg (fun z => Ending.returned (Value.int .i64 z)) (by rw [hqt, totN_end (by omega)]; omega), (by rw [hA]; exact hF1), hX4⟩

theorem markFormX_spec {w : World} {G : Pin} {v : Value} {ns : List Nd} {kz : Int} {lo hi : Nat} (hP : Pins G w) (hd : DForm 99 3 G w lo hi v ns) (hsz : hi ≤ w.heap.size) (hsm : Small ns) (hk : 0 ≤ kz ∧ kz ≤ 1099511627776) :
  Calls Tryz.prog 23 [(.agg [v].toArray), (.int .i64 kz)].toArray w fun e w' => e = .returned (.int .i64 (kz + totN ns)) ∧ DForm 99 3 G w' lo hi v (markN kz ns) ∧ Ext (inR lo hi) G w G w' := by
 refine zZ (n := 10) Tryz.func23 Tryz.ntmps23 rfl rfl ?_
 have hX0 : Ext (inR lo hi) G w G w := Ext.refl hP
 refine zD (zG ?_)
 refine qI rfl (xT [v] (v := (.agg [v].toArray)) rfl rfl hX0.pins (fun b1 w2 hk3 hb4 hp5 hl6 => ?_))
 have hX7 := hX0.step hp5 hl6
 have hd8 := hd.below hl6
 have hs9 := Nat.le_trans hsz hl6.size
 have ha10 : hi ≤ b1 ∨ b1 < lo := Or.inl (by have e := Option.some.inj (congrArg some hk3); have := hsz; omega)
 have hlo11 : w.heap.size ≤ b1 := by have := hX0.size; omega
 obtain ⟨G12, hle13, hX14, hbp15, hf16⟩ := hb4.shut hX7 hlo11
 have hd17 := hd8.more hle13 hf16 ha10
 refine qD rfl (zC (v := (.int .i64 0)) rfl) ?_
 refine qe (zA (zD (zG ?_)))
 refine qD rfl (zN (k := 0) rfl Tryz.underlying32 rfl nz30 rfl) ?_
 refine qD rfl (zO (u := v) ag30 rfl (hX14.pins _ _ _ (hbp15 0 _ rfl))) ?_
 refine qD rfl (zB (v := (.int .i64 kz)) rfl) ?_
 obtain ⟨ps18, ho19, hpl20, hav21, hL22, hin23, hst24⟩ := hd17.mark
 refine qI rfl (zM (vs := [v, (.int .i64 kz)]) Tryz.func60 nm60 rfl rfl rfl ?_)
 refine Calls.mono (markNodeX_spec hX14.pins ho19 hpl20 hav21 hL22 hsm hk) ?_
 rintro _ w25 ⟨rfl, hL26, hx27⟩
 refine ⟨_, rfl, ?_⟩
 have hX28 := hX14.trans hx27 (fun i hi => Or.inr (hin23 i hi))
 have hd29 := hst24 (markN_length _ _) hL26 hx27
 refine qD rfl (zC (v := (.int .i64 (kz + totN ns))) rfl) ?_
 refine qe (zA (zD (zG ?_)))
 refine qD rfl (zB (v := (.int .i64 (kz + totN ns))) rfl) ?_
 refine qD rfl (zC (v := (.int .i64 (kz + totN ns))) rfl) ?_
 refine qe (zA ?_)
 refine wp_ret ?_
 refine zT ?_
 refine zQ (v := (.int .i64 (kz + totN ns))) rfl rfl rfl ?_
 exact ⟨rfl, hd29.anti hle13, hX28.shrink⟩

theorem heldNodeS_spec {w : World} {G : Pin} {v : Value} {ns : List Nd} {kz : Int} (hP : Pins G w) (hv : RSl eNode G v (markN kz ns)) (hsm : Small ns) (hk : 0 ≤ kz ∧ kz ≤ 1099511627776) :
  Calls Tryz.prog 61 [v, (.int .i64 kz)].toArray w fun e w' => e = .returned (.int .i64 (kz + totN ns)) ∧ w' = w := by
 refine zZ (n := 31) Tryz.func61 Tryz.ntmps61 rfl rfl ?_
 have hX0 : Ext noS G w G w := Ext.refl hP
 have hul := markN_length kz ns
 have hln := hsm.len
 refine zD (zG ?_)
 refine qD rfl (zC (v := (.int .i64 0)) rfl) ?_
 refine qe (zA (zD (zD (zG ?_))))
 refine qD rfl (zC (v := (.int .i64 0)) rfl) ?_
 refine qe (zA ?_)
 refine yD ?_
 refine yU (fun (k : Nat) (en : Nat → Value) (W : World) => ∃ (env1 : Nat → Value) (j : Nat) (q : Int), en = (upd (upd (upd env1 0 v) 1 (.int .i64 q)) 5 (.int .i64 (j : Int))) ∧ k = ns.length - j ∧ Ext noS G w G W ∧ (j ≤ ns.length) ∧ (W = w) ∧ (0 ≤ q ∧ q ≤ kz + 2097152 * (j : Int)) ∧ (kz + totN ns = q + totN (ns.drop j)) ∧ (markN kz ns).drop j = markN q (ns.drop j)) _ ⟨_, 0, kz, (zF (x := 5) (zF (x := 1) (zW (x := 0) rfl) rfl) rfl), rfl, hX0, Nat.zero_le _, rfl, (by omega), rfl, rfl⟩ ?_
 rintro k1 _ w2 ⟨env1, j, q, rfl, hk3, hX4, hj, hw, hq, hqt, hA⟩
 subst hw
 refine zD (zD (zG ?_))
 refine qD rfl (zB (v := (.int .i64 (j : Int))) rfl) ?_
 refine qD rfl (zB (v := v) rfl) ?_
 refine qD rfl (zV Tryz.underlying30 (v := v) rfl hv) ?_
 refine qD rfl (yV rfl rfl) ?_
 refine qe (zA ?_)
 refine yB (p := ((j : Int) : Int) < ((markN kz ns).length : Int)) rfl rfl (fun h5 => ?_) (fun h5 => ?_)
 ·skip
  have hso := hsm.opts j (by omega)
  have hAj := markN_at (show j < ns.length by omega) hA
  refine wp_skip ?_
  refine zA (zD ?_)
  refine yD ?_
  refine zD (zG ?_)
  refine qD rfl (zB (v := v) rfl) ?_
  refine qD rfl (zB (v := (.int .i64 (j : Int))) rfl) ?_
  refine qD rfl (zS Tryz.underlying30 sz99 (v := v) rfl rfl hv (by omega) (by omega)) ?_
  refine qD rfl (xV (off := 0) Tryz.underlying99 rfl rfl nz65 (z := (j : Int)) (k := 0) rfl hv (by omega) (by omega)) ?_
  obtain ⟨u6, hr7, hl8⟩ := nm_nl (hv.at (z := (j : Int)) (by omega) (by omega)) (j := j) rfl
  have hm9 := hr7.max
  refine qD rfl (hl8 ag65 rfl hX4.pins) ?_
  refine qD rfl (zB (v := (.int .i64 q)) rfl) ?_
  refine qI rfl (zM (vs := [u6, (.int .i64 q)]) Tryz.func109 nm109 rfl rfl rfl ?_)
  refine Calls.mono (heldIntS_spec (n := (ns.getD j default).l.length) hX4.pins (by rw [← hAj.1]; exact hr7) (by omega) (hso.1)) ?_
  rintro _ _ ⟨rfl, rfl⟩
  refine ⟨_, rfl, ?_⟩
  refine qD rfl (zC (v := (.int .i64 (q + (((ns.getD j default).l.length : Int) : Int)))) rfl) ?_
  refine qe (zA (zD (zD (zG ?_))))
  refine qD rfl (zB (v := (.int .i64 (q + (((ns.getD j default).l.length : Int) : Int)))) rfl) ?_
  refine qD rfl (yV rfl rfl) ?_
  refine qe (zA ?_)
  refine yB (p := (q + (((ns.getD j default).l.length : Int) : Int) : Int) < 0) rfl rfl (fun h10 => ?_) (fun h10 => ?_)
  ·skip
   refine zD (zG ?_)
   refine qD rfl (zC (v := (.int .i64 (-1))) rfl) ?_
   refine qe (zA ?_)
   refine wp_ret ?_
   refine zT ?_
   refine zQ (v := (.int .i64 (-1))) rfl rfl rfl ?_
   exact absurd h10 (by omega)
  refine wp_skip ?_
  refine zA (zD (zG ?_))
  refine qD rfl (zB (v := v) rfl) ?_
  refine qD rfl (zB (v := (.int .i64 (j : Int))) rfl) ?_
  refine qD rfl (zS Tryz.underlying30 sz99 (v := v) rfl rfl hv (by omega) (by omega)) ?_
  refine qD rfl (xV (off := 1) Tryz.underlying99 rfl rfl nz65 (z := (j : Int)) (k := 0) rfl hv (by omega) (by omega)) ?_
  obtain ⟨u11, hr12, hl13⟩ := nm_nr (hv.at (z := (j : Int)) (by omega) (by omega)) (j := j) rfl
  have hm14 := hr12.max
  refine qD rfl (hl13 ag65 rfl hX4.pins) ?_
  refine qD rfl (zB (v := (.int .i64 (q + (((ns.getD j default).l.length : Int) : Int)))) rfl) ?_
  refine qI rfl (zM (vs := [u11, (.int .i64 (q + (((ns.getD j default).l.length : Int) : Int)))]) Tryz.func109 nm109 rfl rfl rfl ?_)
  refine Calls.mono (heldIntS_spec (n := (ns.getD j default).r.length) hX4.pins (by rw [← hAj.2.1]; exact hr12) (by omega) (hso.2)) ?_
  rintro _ _ ⟨rfl, rfl⟩
  refine ⟨_, rfl, ?_⟩
  refine qD rfl (zC (v := (.int .i64 ((q + (((ns.getD j default).l.length : Int) : Int)) + (((ns.getD j default).r.length : Int) : Int)))) rfl) ?_
  refine qe (zA (zD (zG ?_)))
  refine qD rfl (zB (v := (.int .i64 ((q + (((ns.getD j default).l.length : Int) : Int)) + (((ns.getD j default).r.length : Int) : Int)))) rfl) ?_
  refine qD rfl (yV rfl rfl) ?_
  refine qe (zA ?_)
  refine yB (p := ((q + (((ns.getD j default).l.length : Int) : Int)) + (((ns.getD j default).r.length : Int) : Int) : Int) < 0) rfl rfl (fun h15 => ?_) (fun h15 => ?_)
  ·skip
   refine zD (zG ?_)
   refine qD rfl (zC (v := (.int .i64 (-1))) rfl) ?_
   refine qe (zA ?_)
   refine wp_ret ?_
   refine zT ?_
   refine zQ (v := (.int .i64 (-1))) rfl rfl rfl ?_
   exact absurd h15 (by omega)
  refine wp_skip ?_
  refine yJ ?_
  refine zA (zG ?_)
  refine qD rfl (zB (v := (.int .i64 (j : Int))) rfl) ?_
  refine qD rfl (yQ rfl rfl (by omega)) ?_
  refine qD rfl (zC (v := (.int .i64 ((j : Int) + 1))) rfl) ?_
  refine qe ?_
  refine yM ?_
  refine ⟨_, ?_, _, rfl, _, j + 1, (q + (((ns.getD j default).l.length : Int) : Int)) + (((ns.getD j default).r.length : Int) : Int), (zF (x := 5) (zF (x := 1) (zW (x := 0) rfl) rfl) rfl), rfl, hX4, (by omega), rfl, (by omega), (hqt.trans (by rw [totN_next (by omega)]; omega)), hAj.2.2⟩
  omega
 refine wp_exit ?_
 refine yC ?_
 refine yN ?_
 refine yK ?_
 refine zA (zD (zG ?_))
 refine qD rfl (zB (v := (.int .i64 q)) rfl) ?_
 refine qD rfl (zC (v := (.int .i64 q)) rfl) ?_
 refine qe (zA ?_)
 refine wp_ret ?_
 refine zT ?_
 refine zQ (v := (.int .i64 q)) rfl rfl rfl ?_
 exact ⟨congrArg (fun z => Ending.returned (Value.int .i64 z)) (by rw [hqt, totN_end (by omega)]; omega), rfl⟩

theorem heldFormX_spec {w : World} {G : Pin} {v : Value} {ns : List Nd} {kz : Int} (hP : Pins G w) (hv : RSl eNode G v (markN kz ns)) (hsm : Small ns) (hk : 0 ≤ kz ∧ kz ≤ 1099511627776) :
  Calls Tryz.prog 24 [(.agg [v].toArray), (.int .i64 kz)].toArray w fun e w' => ∃ G', e = .returned (.int .i64 (kz + totN ns)) ∧ Ext noS G w G' w' := by
 refine zZ (n := 12) Tryz.func24 Tryz.ntmps24 rfl rfl ?_
 have hX0 : Ext noS G w G w := Ext.refl hP
 have htn := totN_nonneg ns
 refine zD (zG ?_)
 refine qI rfl (xT [v] (v := (.agg [v].toArray)) rfl rfl hX0.pins (fun b1 w2 hk3 hb4 hp5 hl6 => ?_))
 have hX7 := hX0.step hp5 hl6
 have hlo8 : w.heap.size ≤ b1 := by have := hX0.size; omega
 obtain ⟨G9, hle10, hX11, hbp12, hf13⟩ := hb4.shut hX7 hlo8
 refine qD rfl (zC (v := (.int .i64 0)) rfl) ?_
 refine qe (zA (zD (zG ?_)))
 refine qD rfl (zN (k := 0) rfl Tryz.underlying32 rfl nz30 rfl) ?_
 refine qD rfl (zO (u := v) ag30 rfl (hX11.pins _ _ _ (hbp12 0 _ rfl))) ?_
 refine qD rfl (zB (v := (.int .i64 kz)) rfl) ?_
 refine qI rfl (zM (vs := [v, (.int .i64 kz)]) Tryz.func61 nm61 rfl rfl rfl ?_)
 refine Calls.mono (heldNodeS_spec hX11.pins (hv.mono hle10) hsm hk) ?_
 rintro _ _ ⟨rfl, rfl⟩
 refine ⟨_, rfl, ?_⟩
 refine qD rfl (zC (v := (.int .i64 (kz + totN ns))) rfl) ?_
 refine qe (zA (zD (zD (zG ?_))))
 refine qD rfl (zB (v := (.int .i64 (kz + totN ns))) rfl) ?_
 refine qD rfl (yV rfl rfl) ?_
 refine qe (zA ?_)
 refine yB (p := (kz + totN ns : Int) < 0) rfl rfl (fun h14 => ?_) (fun h14 => ?_)
 ·skip
  refine zD (zG ?_)
  refine qD rfl (zC (v := (.int .i64 (-1))) rfl) ?_
  refine qe (zA ?_)
  refine wp_ret ?_
  refine zT ?_
  refine zQ (v := (.int .i64 (-1))) rfl rfl rfl ?_
  exact absurd h14 (by omega)
 refine wp_skip ?_
 refine zA (zD (zG ?_))
 refine qD rfl (zB (v := (.int .i64 (kz + totN ns))) rfl) ?_
 refine qD rfl (zC (v := (.int .i64 (kz + totN ns))) rfl) ?_
 refine qe (zA ?_)
 refine wp_ret ?_
 refine zT ?_
 refine zQ (v := (.int .i64 (kz + totN ns))) rfl rfl rfl ?_
 exact ⟨_, rfl, hX11⟩

theorem eqForm_same {w : World} {G : Pin} {u v : Value} {xs : List Nd} (hP : Pins G w) (hu : RSl eNode G u xs) (hv : RSl eNode G v xs) :
  Calls Tryz.prog 20 [(.agg [u].toArray), (.agg [v].toArray)].toArray w fun e w' => ∃ G', e = .returned (.bool true) ∧ Ext noS G w G' w' := by
 refine (eqForm_spec hP hu hv).mono ?_
 rintro e w' ⟨G', rfl, hx⟩
 exact ⟨G', by simp, hx⟩

theorem toDyadic_spec {w : World} {G : Pin} {t z : Int} (hP : Pins G w) :
  Calls Tryz.prog 18 [(.agg [(.int .i64 t), (.int .i64 z)].toArray)].toArray w fun e w' => ∃ G', e = .returned (.agg [.int .i64 t, .int .i64 z].toArray) ∧ Ext noS G w G' w' := by
 refine zZ (n := 11) Tryz.func18 Tryz.ntmps18 rfl rfl ?_
 have hX0 : Ext noS G w G w := Ext.refl hP
 refine zD (zG ?_)
 refine qI rfl (xT [(.int .i64 t), (.int .i64 z)] (v := (.agg [(.int .i64 t), (.int .i64 z)].toArray)) rfl rfl hX0.pins (fun b1 w2 hk3 hb4 hp5 hl6 => ?_))
 have hX7 := hX0.step hp5 hl6
 have hlo8 : w.heap.size ≤ b1 := by have := hX0.size; omega
 obtain ⟨G9, hle10, hX11, hbp12, hf13⟩ := hb4.shut hX7 hlo8
 refine qI rfl (yY [(.int .i64 0), (.int .i64 0)] zr34 rfl hX11.pins (fun b14 w15 hk16 hb17 hp18 hl19 => ?_))
 have hX20 := hX11.step hp18 hl19
 have hlo21 : w.heap.size ≤ b14 := by have := hX11.size; omega
 refine qe (zA (zD (zG ?_)))
 refine qI rfl (yY [(.int .i64 0), (.int .i64 0)] zr34 rfl hX20.pins (fun b22 w23 hk24 hb25 hp26 hl27 => ?_))
 have hX28 := hX20.step hp26 hl27
 have hb29 := hb17.below hl27
 have ha30 : Apart (some b22) (some b14) := zK (congrArg some hk24) hb17.lt
 have hlo31 : w.heap.size ≤ b22 := by have := hX20.size; omega
 refine qe (zA (zD (zG ?_)))
 refine qD rfl (zN (k := 0) rfl Tryz.underlying26 rfl nz3 rfl) ?_
 refine qD rfl (zO (u := (.int .i64 t)) ag3 rfl (hX28.pins _ _ _ (hbp12 0 _ rfl))) ?_
 refine qD rfl (zN (k := 0) rfl Tryz.underlying34 rfl nz3 rfl) ?_
 refine q0 rfl rfl rfl (xA (cs' := [(.int .i64 t), (.int .i64 0)]) (us := [(.int .i64 t)]) (v := (.int .i64 t)) sz3 rfl rfl rfl (yR (by rfl)) hX28.pins hb25 (Nat.le_of_ble_eq_true rfl) rfl (fun w32 hb33 hp34 hg35 hz36 => ?_))
 have hX37 := hX28.write hp34 hg35 ((yL hlo31))
 have hb38 := hb29.keptA hg35 ha30.symm
 refine qe (zA (zD (zG ?_)))
 refine qD rfl (zN (k := 1) rfl Tryz.underlying26 rfl nz3 rfl) ?_
 refine qD rfl (zO (u := (.int .i64 z)) ag3 rfl (hX37.pins _ _ _ (hbp12 1 _ rfl))) ?_
 refine qD rfl (zN (k := 1) rfl Tryz.underlying34 rfl nz3 rfl) ?_
 refine q0 rfl rfl rfl (xA (cs' := [(.int .i64 t), (.int .i64 z)]) (us := [(.int .i64 z)]) (v := (.int .i64 z)) sz3 rfl rfl rfl (yR (by rfl)) hX37.pins hb33 (Nat.le_of_ble_eq_true rfl) rfl (fun w39 hb40 hp41 hg42 hz43 => ?_))
 have hX44 := hX37.write hp41 hg42 ((yL hlo31))
 have hb45 := hb38.keptA hg42 ha30.symm
 refine qe (zA (zD (zG ?_)))
 refine qD rfl (yP (cs := [(.int .i64 t), (.int .i64 z)]) ag34 sz34 rfl (fun j u hj => hb40.cell (by simpa using hj))) ?_
 refine q0 rfl rfl rfl (xA (cs' := [(.int .i64 t), (.int .i64 z)]) (us := [(.int .i64 t), (.int .i64 z)]) (v := (.agg [(.int .i64 t), (.int .i64 z)].toArray)) sz34 rfl rfl rfl (qB (by rfl) (by rfl)) hX44.pins hb45 (Nat.le_of_ble_eq_true rfl) rfl (fun w46 hb47 hp48 hg49 hz50 => ?_))
 have hX51 := hX44.write hp48 hg49 ((yL hlo21))
 refine qe (zA ?_)
 refine wp_ret ?_
 refine zT ?_
 refine c_retc (cs := [(.int .i64 t), (.int .i64 z)]) rfl rfl rfl ag34 sz34 (fun j u hj => by rw [Nat.zero_add]; exact hb47.cell hj) ?_
 exact ⟨_, rfl, hX51⟩

theorem iNumberForm_spec {w : World} {G : Pin} {t z : Int} (hP : Pins G w) :
  Calls Tryz.prog 22 [.agg [.int .i64 t, .int .i64 z].toArray].toArray w fun e w' => ∃ (u : Value) (G' : Pin), e = .returned (.tuple #[.agg [u].toArray, .bool (nmB t z)]) ∧ RSl eNode G' u (nmF t z) ∧ Ext noS G w G' w' := by
 refine (iNumberForm_dspec (t := t) (z := z) hP).mono ?_
 rintro e w' ⟨u, G', rfl, hd, hx⟩
 obtain ⟨G'', h1, h2⟩ := hd.give hx
 exact ⟨u, G'', rfl, h1, h2⟩

theorem law {w : World} {G : Pin} {t z : Int} (hP : Pins G w) :
  Calls Tryz.prog 4 [(.agg [(.int .i64 t), (.int .i64 z)].toArray)].toArray w fun e w' => ∃ G', e = .returned (.bool true) ∧ Ext noS G w G' w' := by
 refine zZ (n := 66) Tryz.func4 Tryz.ntmps4 rfl rfl ?_
 have hX0 : Ext noS G w G w := Ext.refl hP
 have htf := totN_nonneg (nmF t z)
 refine zD (zG ?_)
 refine qI rfl (xT [(.int .i64 t), (.int .i64 z)] (v := (.agg [(.int .i64 t), (.int .i64 z)].toArray)) rfl rfl hX0.pins (fun b1 w2 hk3 hb4 hp5 hl6 => ?_))
 have hX7 := hX0.step hp5 hl6
 have hlo8 : w.heap.size ≤ b1 := by have := hX0.size; omega
 obtain ⟨G9, hle10, hX11, hbp12, hf13⟩ := hb4.shut hX7 hlo8
 refine qD rfl (zC (v := (.bool false)) rfl) ?_
 refine qe (zA (zD (zG ?_)))
 refine qD rfl (yP (cs := [(.int .i64 t), (.int .i64 z)]) ag26 sz26 rfl (fun j u hj => hX11.pins _ _ _ (hbp12 _ _ (by simpa using hj)))) ?_
 refine qI rfl (zM (vs := [(.agg [(.int .i64 t), (.int .i64 z)].toArray)]) Tryz.func18 nm18 rfl rfl rfl ?_)
 refine Calls.mono (toDyadic_spec (t := t) (z := z) hX11.pins) ?_
 rintro _ w15 ⟨G14, rfl, hx16⟩
 refine ⟨_, rfl, ?_⟩
 have hX17 := hX11.tr hx16
 refine qI rfl (zM (vs := [(.agg [(.int .i64 t), (.int .i64 z)].toArray)]) Tryz.func21 nm21 rfl rfl rfl ?_)
 refine Calls.mono (sNumberForm_spec (t := t) (z := z) hX17.pins) ?_
 rintro _ w20 ⟨u18, G19, rfl, hr21, hx22⟩
 refine ⟨_, rfl, ?_⟩
 have hX23 := hX17.tr hx22
 refine qD rfl (zB (v := (.tuple #[(.agg [u18].toArray), (.bool (nmB t z))])) rfl) ?_
 refine qD rfl (yW (v := (.agg [u18].toArray)) rfl rfl) ?_
 refine qD rfl (yW (v := (.bool (nmB t z))) rfl rfl) ?_
 refine qI rfl (yY [(.slice none 0 0)] zr32 rfl hX23.pins (fun b24 w25 hk26 hb27 hp28 hl29 => ?_))
 have hX30 := hX23.step hp28 hl29
 have hlo31 : w.heap.size ≤ b24 := by have := hX23.size; omega
 refine q0 rfl rfl rfl (xA (cs' := [u18]) (us := [u18]) (v := (.agg [u18].toArray)) sz32 rfl rfl rfl (yR hr21.one) hX30.pins hb27 (Nat.le_of_ble_eq_true rfl) rfl (fun w32 hb33 hp34 hg35 hz36 => ?_))
 have hX37 := hX30.write hp34 hg35 ((yL hlo31))
 obtain ⟨G38, hle39, hX40, hbp41, hf42⟩ := hb33.shut hX37 hlo31
 refine qD rfl (zC (v := (.bool (nmB t z))) rfl) ?_
 refine qe (zA (zD (zG ?_)))
 refine qD rfl (yP (cs := [(.int .i64 t), (.int .i64 z)]) ag26 sz26 rfl (fun j u hj => (Pins.of_le hX40.pins (Pin.le_trans (Pin.le_trans hx16.le hx22.le) hle39)) _ _ _ (hbp12 _ _ (by simpa using hj)))) ?_
 refine qI rfl (zM (vs := [(.agg [(.int .i64 t), (.int .i64 z)].toArray)]) Tryz.func18 nm18 rfl rfl rfl ?_)
 refine Calls.mono (toDyadic_spec (t := t) (z := z) hX40.pins) ?_
 rintro _ w44 ⟨G43, rfl, hx45⟩
 refine ⟨_, rfl, ?_⟩
 have hX46 := hX40.tr hx45
 refine qI rfl (zM (vs := [(.agg [(.int .i64 t), (.int .i64 z)].toArray)]) Tryz.func22 nm22 rfl rfl rfl ?_)
 refine Calls.mono (iNumberForm_dspec (t := t) (z := z) hX46.pins) ?_
 rintro _ w49 ⟨u47, G48, rfl, hd50, hx51⟩
 refine ⟨_, rfl, ?_⟩
 have hX52 := hX46.tr hx51
 have hone53 := hd50.one
 refine qD rfl (zB (v := (.tuple #[(.agg [u47].toArray), (.bool (nmB t z))])) rfl) ?_
 refine qD rfl (yW (v := (.agg [u47].toArray)) rfl rfl) ?_
 refine qD rfl (yW (v := (.bool (nmB t z))) rfl rfl) ?_
 refine qI rfl (yY [(.slice none 0 0)] zr32 rfl hX52.pins (fun b54 w55 hk56 hb57 hp58 hl59 => ?_))
 have hX60 := hX52.step hp58 hl59
 have hd61 := hd50.below hl59
 have hs62 := Nat.le_trans (Nat.le_refl w49.heap.size) hl59.size
 have ha63 : w49.heap.size ≤ b54 ∨ b54 < w44.heap.size := Or.inl (by have e := Option.some.inj (congrArg some hk56); have := (Nat.le_refl w49.heap.size); omega)
 have hlo64 : w.heap.size ≤ b54 := by have := hX52.size; omega
 refine q0 rfl rfl rfl (xA (cs' := [u47]) (us := [u47]) (v := (.agg [u47].toArray)) sz32 rfl rfl rfl (yR hone53) hX60.pins hb57 (Nat.le_of_ble_eq_true rfl) rfl (fun w65 hb66 hp67 hg68 hz69 => ?_))
 have hX70 := hX60.write hp67 hg68 ((yL hlo64))
 have hd71 := hd61.kept hg68 ha63
 have hs72 := Nat.le_trans hs62 hg68.size
 obtain ⟨G73, hle74, hX75, hbp76, hf77⟩ := hb66.shut hX70 hlo64
 have hd78 := hd71.more hle74 hf77 ha63
 refine qD rfl (zC (v := (.bool (nmB t z))) rfl) ?_
 refine qe (zA (zD (zD (zG ?_))))
 refine qD rfl (yP (cs := [u47]) ag32 sz32 rfl (fun j u hj => hX75.pins _ _ _ (hbp76 _ _ (by simpa using hj)))) ?_
 refine qD rfl (yP (cs := [u18]) ag32 sz32 rfl (fun j u hj => (Pins.of_le hX75.pins (Pin.le_trans (Pin.le_trans hx45.le hx51.le) hle74)) _ _ _ (hbp41 _ _ (by simpa using hj)))) ?_
 obtain ⟨G82, hle83, hp84, hr85, _⟩ := hd78.read hX75.pins
 refine qI rfl (zM (vs := [(.agg [u47].toArray), (.agg [u18].toArray)]) Tryz.func20 nm20 rfl rfl rfl ?_)
 refine Calls.mono (eqForm_same hp84 hr85 ((hr21.mono (Pin.le_trans (Pin.le_trans (Pin.le_trans hle39 hx45.le) hx51.le) hle74)).mono hle83)) ?_
 rintro _ w80 ⟨G79, rfl, hx81⟩
 refine ⟨_, rfl, ?_⟩
 have hx86 := deep_back hX75.pins hx81
 have hX87 := hX75.step hx86.pins hx86.below
 have hd88 := hd78.below hx86.below
 have hs89 := Nat.le_trans hs72 hx86.below.size
 refine qD rfl (r_not rfl) ?_
 refine qD rfl (zB (v := (.bool false)) rfl) ?_
 refine qdg rfl rfl rfl rfl rfl rfl (zB (v := (.bool (nmB t z))) rfl) ?_
 refine qdg rfl rfl rfl rfl rfl rfl (zB (v := (.bool (nmB t z))) rfl) ?_
 refine qdg rfl rfl rfl rfl rfl rfl (r_neqB_same Tryz.underlying4 rfl rfl) ?_
 refine qD rfl (yO (v := (.bool false)) rfl rfl) ?_
 refine qe (zA ?_)
 refine qE rfl rfl ?_
 refine wp_skip ?_
 refine zA (zD (zG ?_))
 refine qD rfl (zC (v := (.int .i64 1)) rfl) ?_
 refine qe (zA (zD (zG ?_)))
 refine qD rfl (yP (cs := [u47]) ag32 sz32 rfl (fun j u hj => hX87.pins _ _ _ (hbp76 _ _ (by simpa using hj)))) ?_
 refine qD rfl (zB (v := (.int .i64 1)) rfl) ?_
 refine qI rfl (zM (vs := [(.agg [u47].toArray), (.int .i64 1)]) Tryz.func23 nm23 rfl rfl rfl ?_)
 refine Calls.mono (markFormX_spec (kz := 1) hX87.pins hd88 hs89 (nmF_small _ _) (by omega)) ?_
 rintro _ w90 ⟨rfl, hd91, hx92⟩
 refine ⟨_, rfl, ?_⟩
 have hX93 := hX87.trans hx92 (fun i hi => Or.inl (Nat.le_trans hX46.size hi.1))
 obtain ⟨G94, hle95, hp96, hr97, hf98⟩ := hd91.read hX93.pins
 have hX99 := hX93.promise hle95 hp96 hf98 hX46.size
 refine qD rfl (zC (v := (.int .i64 (1 + totN (nmF t z)))) rfl) ?_
 refine qe (zA (zD (zG ?_)))
 refine qD rfl (zC (v := (.int .i64 1)) rfl) ?_
 refine qe (zA (zD (zG ?_)))
 refine qD rfl (yP (cs := [u47]) ag32 sz32 rfl (fun j u hj => (Pins.of_le hX99.pins hle95) _ _ _ (hbp76 _ _ (by simpa using hj)))) ?_
 refine qD rfl (zB (v := (.int .i64 1)) rfl) ?_
 refine qI rfl (zM (vs := [(.agg [u47].toArray), (.int .i64 1)]) Tryz.func24 nm24 rfl rfl rfl ?_)
 refine Calls.mono (heldFormX_spec (kz := 1) (ns := nmF t z) hX99.pins hr97 (nmF_small _ _) (by omega)) ?_
 rintro _ w101 ⟨G100, rfl, hx102⟩
 refine ⟨_, rfl, ?_⟩
 have hX103 := hX99.tr hx102
 refine qD rfl (zC (v := (.int .i64 (1 + totN (nmF t z)))) rfl) ?_
 refine qe (zA (zD (zD (zG ?_))))
 refine qD rfl (zB (v := (.int .i64 (1 + totN (nmF t z)))) rfl) ?_
 refine qD rfl (yV rfl rfl) ?_
 refine qe (zA ?_)
 refine yB (p := (1 + totN (nmF t z) : Int) < 0) rfl rfl (fun h104 => ?_) (fun h104 => ?_)
 ·skip
  refine zD (zG ?_)
  refine qD rfl (zC (v := (.bool false)) rfl) ?_
  refine qe (zA ?_)
  refine wp_ret ?_
  refine zT ?_
  refine zQ (v := (.bool false)) rfl rfl rfl ?_
  exfalso; omega
 refine wp_skip ?_
 refine zA (zD (zD (zG ?_)))
 refine qD rfl (zB (v := (.int .i64 (1 + totN (nmF t z)))) rfl) ?_
 refine qD rfl (zB (v := (.int .i64 (1 + totN (nmF t z)))) rfl) ?_
 refine qD rfl (r_neq rfl rfl) ?_
 refine qe (zA ?_)
 refine yB (p := (1 + totN (nmF t z) : Int) ≠ (1 + totN (nmF t z))) rfl rfl (fun h105 => ?_) (fun h105 => ?_)
 ·skip
  refine zD (zG ?_)
  refine qD rfl (zC (v := (.bool false)) rfl) ?_
  refine qe (zA ?_)
  refine wp_ret ?_
  refine zT ?_
  refine zQ (v := (.bool false)) rfl rfl rfl ?_
  exfalso; omega
 refine wp_skip ?_
 refine zA (zD (zG ?_))
 refine qD rfl (yP (cs := [(.int .i64 t), (.int .i64 z)]) ag26 sz26 rfl (fun j u hj => (Pins.of_le hX103.pins (Pin.le_trans (Pin.le_trans (Pin.le_trans (Pin.le_trans (Pin.le_trans (Pin.le_trans (Pin.le_trans hx16.le hx22.le) hle39) hx45.le) hx51.le) hle74) hle95) hx102.le)) _ _ _ (hbp12 _ _ (by simpa using hj)))) ?_
 refine qI rfl (zM (vs := [(.agg [(.int .i64 t), (.int .i64 z)].toArray)]) Tryz.func18 nm18 rfl rfl rfl ?_)
 refine Calls.mono (toDyadic_spec (t := t) (z := z) hX103.pins) ?_
 rintro _ w107 ⟨G106, rfl, hx108⟩
 refine ⟨_, rfl, ?_⟩
 have hX109 := hX103.tr hx108
 refine qI rfl (zM (vs := [(.agg [(.int .i64 t), (.int .i64 z)].toArray)]) Tryz.func22 nm22 rfl rfl rfl ?_)
 refine Calls.mono (iNumberForm_spec (t := t) (z := z) hX109.pins) ?_
 rintro _ w112 ⟨u110, G111, rfl, hd113, hx114⟩
 refine ⟨_, rfl, ?_⟩
 have hX115 := hX109.tr hx114
 refine qD rfl (zB (v := (.tuple #[(.agg [u110].toArray), (.bool (nmB t z))])) rfl) ?_
 refine qD rfl (yW (v := (.agg [u110].toArray)) rfl rfl) ?_
 refine qD rfl (yW (v := (.bool (nmB t z))) rfl rfl) ?_
 refine qI rfl (yY [(.slice none 0 0)] zr32 rfl hX115.pins (fun b116 w117 hk118 hb119 hp120 hl121 => ?_))
 have hX122 := hX115.step hp120 hl121
 have hlo123 : w.heap.size ≤ b116 := by have := hX115.size; omega
 refine q0 rfl rfl rfl (xA (cs' := [u110]) (us := [u110]) (v := (.agg [u110].toArray)) sz32 rfl rfl rfl (yR hd113.one) hX122.pins hb119 (Nat.le_of_ble_eq_true rfl) rfl (fun w124 hb125 hp126 hg127 hz128 => ?_))
 have hX129 := hX122.write hp126 hg127 ((yL hlo123))
 obtain ⟨G130, hle131, hX132, hbp133, hf134⟩ := hb125.shut hX129 hlo123
 refine qD rfl (zC (v := (.bool (nmB t z))) rfl) ?_
 refine qe (zA (zD (zD (zG ?_))))
 refine qD rfl (yP (cs := [u110]) ag32 sz32 rfl (fun j u hj => hX132.pins _ _ _ (hbp133 _ _ (by simpa using hj)))) ?_
 refine qD rfl (yP (cs := [u18]) ag32 sz32 rfl (fun j u hj => (Pins.of_le hX132.pins (Pin.le_trans (Pin.le_trans (Pin.le_trans (Pin.le_trans (Pin.le_trans (Pin.le_trans (Pin.le_trans hx45.le hx51.le) hle74) hle95) hx102.le) hx108.le) hx114.le) hle131)) _ _ _ (hbp41 _ _ (by simpa using hj)))) ?_
 refine qI rfl (zM (vs := [(.agg [u110].toArray), (.agg [u18].toArray)]) Tryz.func20 nm20 rfl rfl rfl ?_)
 refine Calls.mono (eqForm_same hX132.pins (hd113.mono hle131) (hr21.mono (Pin.le_trans (Pin.le_trans (Pin.le_trans (Pin.le_trans (Pin.le_trans (Pin.le_trans (Pin.le_trans (Pin.le_trans hle39 hx45.le) hx51.le) hle74) hle95) hx102.le) hx108.le) hx114.le) hle131))) ?_
 rintro _ w136 ⟨G135, rfl, hx137⟩
 refine ⟨_, rfl, ?_⟩
 have hX138 := hX132.tr hx137
 refine qD rfl (r_not rfl) ?_
 refine qD rfl (zB (v := (.bool false)) rfl) ?_
 refine qdg rfl rfl rfl rfl rfl rfl (zB (v := (.bool (nmB t z))) rfl) ?_
 refine qdg rfl rfl rfl rfl rfl rfl (zB (v := (.bool (nmB t z))) rfl) ?_
 refine qdg rfl rfl rfl rfl rfl rfl (r_neqB_same Tryz.underlying4 rfl rfl) ?_
 refine qD rfl (yO (v := (.bool false)) rfl rfl) ?_
 refine qe (zA ?_)
 refine qE rfl rfl ?_
 refine wp_skip ?_
 refine zA (zD (zG ?_))
 refine qD rfl (zC (v := (.int .i64 1)) rfl) ?_
 refine qe (zA (zD (zG ?_)))
 refine qD rfl (yP (cs := [u47]) ag32 sz32 rfl (fun j u hj => (Pins.of_le hX138.pins (Pin.le_trans (Pin.le_trans (Pin.le_trans (Pin.le_trans (Pin.le_trans hle95 hx102.le) hx108.le) hx114.le) hle131) hx137.le)) _ _ _ (hbp76 _ _ (by simpa using hj)))) ?_
 refine qD rfl (zB (v := (.int .i64 1)) rfl) ?_
 refine qI rfl (zM (vs := [(.agg [u47].toArray), (.int .i64 1)]) Tryz.func24 nm24 rfl rfl rfl ?_)
 refine Calls.mono (heldFormX_spec (kz := 1) (ns := nmF t z) hX138.pins (hr97.mono (Pin.le_trans (Pin.le_trans (Pin.le_trans (Pin.le_trans hx102.le hx108.le) hx114.le) hle131) hx137.le)) (nmF_small _ _) (by omega)) ?_
 rintro _ w140 ⟨G139, rfl, hx141⟩
 refine ⟨_, rfl, ?_⟩
 have hX142 := hX138.tr hx141
 refine qD rfl (zC (v := (.int .i64 (1 + totN (nmF t z)))) rfl) ?_
 refine qe (zA (zD (zD (zG ?_))))
 refine qD rfl (zB (v := (.int .i64 (1 + totN (nmF t z)))) rfl) ?_
 refine qD rfl (yV rfl rfl) ?_
 refine qe (zA ?_)
 refine yB (p := (1 + totN (nmF t z) : Int) < 0) rfl rfl (fun h => absurd h h104) (fun _ => ?_)
 refine wp_skip ?_
 refine zA (zD (zD (zG ?_)))
 refine qD rfl (zB (v := (.int .i64 (1 + totN (nmF t z)))) rfl) ?_
 refine qD rfl (zB (v := (.int .i64 (1 + totN (nmF t z)))) rfl) ?_
 refine qD rfl (r_neq rfl rfl) ?_
 refine qe (zA ?_)
 refine yB (p := (1 + totN (nmF t z) : Int) ≠ (1 + totN (nmF t z))) rfl rfl (fun h => absurd h h105) (fun _ => ?_)
 refine wp_skip ?_
 refine zA (zD (zG ?_))
 refine qD rfl (zC (v := (.bool true)) rfl) ?_
 refine qe (zA ?_)
 refine wp_ret ?_
 refine zT ?_
 refine zQ (v := (.bool true)) rfl rfl rfl ?_
 exact ⟨_, rfl, hX142⟩

end LNF
end Go.Proofs.YtfnginkcmcfdfaaGreatDoor
