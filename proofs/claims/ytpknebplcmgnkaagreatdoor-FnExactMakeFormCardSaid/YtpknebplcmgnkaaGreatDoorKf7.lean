/- Texts of this claim in one file: LK1. -/
import Derived.Test.YtpknebplcmgnkaaGreatDoorKf6
import Derived.Test.YtpknebplcmgnkaaGreatDoorChecked
set_option maxRecDepth 20000
set_option maxHeartbeats 2000000
namespace Go.Proofs.YtpknebplcmgnkaaGreatDoor
namespace LK1
open Go.RowKit Go.GL Go.Proofs
open Go.Proofs.YtpknebplcmgnkaaGreatDoor.B1
open Go.Proofs.YtpknebplcmgnkaaGreatDoor.C1
open Go.Proofs.YtpknebplcmgnkaaGreatDoor.D1
open Go.Proofs.YtpknebplcmgnkaaGreatDoor.E1
open Go.Proofs.YtpknebplcmgnkaaGreatDoor.G1
open Go.Proofs.YtpknebplcmgnkaaGreatDoor.L1
open Go.Proofs.YtpknebplcmgnkaaGreatDoor.NF1
open Go.Proofs.YtpknebplcmgnkaaGreatDoor.SM1
open Go.Proofs.YtpknebplcmgnkaaGreatDoor.MK1
open Go.Proofs.YtpknebplcmgnkaaGreatDoor.MI1





theorem mk32 : (Tryz.prog.info? 32).map (fun i => (i.size, i.bytes, i.zero)) = some (1, 24, some (.agg #[(.slice none 0 0)])) := by kernel_rfl























theorem szFormT_spec {w : World} {G : Pin} {v : Value} {ns : List Nd} {left : Int} (hP : Pins G w) (hv : RSl eNode G v ns) (hl : 0 ≤ left ∧ left ≤ 1048576) :
  Calls Tryz.prog 15 [(.agg [v].toArray), (.int .i64 left)].toArray w fun e w' => ∃ z G', e = .returned (.int .i64 z) ∧ (z < 0 ∨ 0 ≤ z ∧ z + totN ns ≤ left ∧ Small ns) ∧ Ext noS G w G' w' := by
 refine yA (n := 12) Tryz.func15 Tryz.ntmps15 rfl rfl ?_
 have hX0 : Ext noS G w G w := Ext.refl hP
 refine zD (zG ?_)
 refine qI rfl (qA [v] (v := (.agg [v].toArray)) rfl rfl hX0.pins (fun b1 w2 hk3 hb4 hp5 hl6 => ?_))
 have hX7 := hX0.step hp5 hl6
 have hlo8 : w.heap.size ≤ b1 := by have := hX0.size; omega
 obtain ⟨G9, hle10, hX11, hbp12, hf13⟩ := hb4.shut hX7 hlo8
 refine qD rfl (zC (v := (.int .i64 0)) rfl) ?_
 refine qe (zA (zD (zG ?_)))
 refine qD rfl (zV (k := 0) rfl Tryz.underlying24 rfl nz22 rfl) ?_
 refine qD rfl (zT (u := v) ag22 rfl (hX11.pins _ _ _ (hbp12 0 _ rfl))) ?_
 refine qD rfl (zB (v := (.int .i64 left)) rfl) ?_
 refine qI rfl (zP (vs := [v, (.int .i64 left)]) Tryz.func50 nm50 rfl rfl rfl ?_)
 refine Calls.mono (szNodeS_spec hX11.pins (hv.mono hle10) (by omega)) ?_
 rintro _ w15 ⟨G14, rfl, hx16⟩
 refine ⟨_, rfl, ?_⟩
 have hX17 := hX11.tr hx16
 refine qD rfl (zC (v := (.int .i64 (szNds ns left))) rfl) ?_
 refine qe (zA (zD (zD (zG ?_))))
 refine qD rfl (zB (v := (.int .i64 (szNds ns left))) rfl) ?_
 refine qD rfl (yP rfl rfl) ?_
 refine qe (zA ?_)
 refine yC (p := (szNds ns left : Int) < 0) rfl rfl (fun h18 => ?_) (fun h18 => ?_)
 ·skip
  refine zD (zG ?_)
  refine qD rfl (zC (v := (.int .i64 (-1))) rfl) ?_
  refine qe (zA ?_)
  refine wp_ret ?_
  refine zS ?_
  refine zQ (v := (.int .i64 (-1))) rfl rfl rfl ?_
  exact ⟨_, _, rfl, Or.inl (by omega), hX17⟩
 refine wp_skip ?_
 refine zA (zD (zG ?_))
 refine qD rfl (zB (v := (.int .i64 (szNds ns left))) rfl) ?_
 refine qD rfl (zC (v := (.int .i64 (szNds ns left))) rfl) ?_
 refine qe (zA ?_)
 refine wp_ret ?_
 refine zS ?_
 refine zQ (v := (.int .i64 (szNds ns left))) rfl rfl rfl ?_
 have hzl := szNds_le h18
 have hzt := szNds_tot h18
 exact ⟨_, _, rfl, Or.inr ⟨by omega, by omega, small_le h18 hl.2⟩, hX17⟩

theorem markNodeX_spec {w : World} {G : Pin} {v : Value} {ps : List (Value × Value)} {ns : List Nd} {kz : Int} {lo hi : Nat} (hP : Pins G w) (ho : Own eVal2 103 G w 0 v ps) (hpl : ps.length = ns.length) (hav : ∀ u ∈ leafV ps, Apart u.ownBlock v.ownBlock) (hF : Lvs 3 G w lo hi (lvN ps ns)) (hsm : Small ns) (hk : 0 ≤ kz ∧ kz ≤ 1099511627776) :
  Calls Tryz.prog 68 [v, (.int .i64 kz)].toArray w fun e w' => e = .returned (.int .i64 (kz + totN ns)) ∧ Lvs 3 G w' lo hi (lvN ps (markN kz ns)) ∧ Ext (inV (leafV ps)) G w G w' := by
 refine yA (n := 27) Tryz.func68 Tryz.ntmps68 rfl rfl ?_
 have hX0 : Ext (inV (leafV ps)) G w G w := Ext.refl hP
 have hln := hsm.len
 refine zD (zG ?_)
 refine qD rfl (zC (v := (.int .i64 0)) rfl) ?_
 refine qe (zA (zD (zD (zG ?_))))
 refine qD rfl (zC (v := (.int .i64 0)) rfl) ?_
 refine qe (zA ?_)
 refine zX ?_
 refine yR (fun (k : Nat) (en : Nat → Value) (W : World) => ∃ (env1 : Nat → Value) (j : Nat) (q : Int) (A : List Leaf), en = (upd (upd (upd (upd env1 0 v) 1 (.int .i64 q)) 4 (.int .i64 0)) 5 (.int .i64 (j : Int))) ∧ k = ps.length - j ∧ Ext (inV (leafV ps)) G w G W ∧ (j ≤ ps.length) ∧ (0 ≤ q ∧ q ≤ kz + 2097152 * (j : Int)) ∧ (kz + totN ns = q + totN (ns.drop j)) ∧ (lvN ps (markN kz ns) = A ++ lvN (ps.drop j) (markN q (ns.drop j))) ∧ (Lvs 3 G W lo hi (A ++ lvN (ps.drop j) (ns.drop j))) ∧ (Own eVal2 103 G W 0 v (ps))) _ ⟨_, 0, kz, [], (zF (x := 5) (zF (x := 4) (zF (x := 1) (zR (x := 0) rfl) rfl) rfl) rfl), rfl, hX0, Nat.zero_le _, (by omega), rfl, rfl, hF, ho⟩ ?_
 rintro k1 _ w2 ⟨env1, j, q, A, rfl, hk3, hX4, hj, hq, hqt, hA, hF1, hw5⟩
 refine zD (zD (zG ?_))
 refine qD rfl (zB (v := (.int .i64 (j : Int))) rfl) ?_
 refine qD rfl (zB (v := v) rfl) ?_
 refine qD rfl (zM Tryz.underlying30 (v := v) rfl hw5.read) ?_
 refine qD rfl (yP rfl rfl) ?_
 refine qe (zA ?_)
 refine yC (p := ((j : Int) : Int) < (ps.length : Int)) rfl rfl (fun h6 => ?_) (fun h6 => ?_)
 ·skip
  have hso := hsm.opts j (by omega)
  refine wp_skip ?_
  refine zA (zD ?_)
  refine zX ?_
  refine zD (zG ?_)
  refine qD rfl (zB (v := v) rfl) ?_
  refine qD rfl (zB (v := (.int .i64 (j : Int))) rfl) ?_
  refine qD rfl (zK Tryz.underlying30 yT (v := v) rfl rfl hw5.read (by omega) (by omega)) ?_
  refine qD rfl (xI (off := 0) Tryz.underlying103 rfl rfl nz67 (z := (j : Int)) (k := 0) rfl hw5.read (by omega) (by omega)) ?_
  obtain ⟨cs7, hrep8, hagg9, hcell10⟩ := nm_el (j := j) default (hw5.at (z := (j : Int)) (by omega) (by omega)) rfl
  obtain ⟨rfl, hone13⟩ := hrep8
  obtain ⟨u11, hu12⟩ : ∃ u, u = (ps.getD j default).1 := ⟨_, rfl⟩
  refine qD rfl (hcell10 0 u11 (by rw [hu12]; rfl) ag67 rfl (Gadd.pins hX4.pins v)) ?_
  refine qD rfl (zB (v := (.int .i64 q)) rfl) ?_
  have hmem17 : u11 ∈ leafV ps := by rw [hu12]; exact (leafV_mem (by omega)).1
  have hL18 : Lvs 3 G w2 lo hi (A ++ (u11, (ns.getD j default).l) :: (((ps.getD j default).2, (ns.getD j default).r) :: lvN (ps.drop (j + 1)) (ns.drop (j + 1)))) := by rw [hu12, ← lvN_next (by omega) (by omega)]; exact hF1
  refine qI rfl (zP (vs := [u11, (.int .i64 q)]) Tryz.func111 nm111 rfl rfl rfl ?_)
  refine Calls.mono (markIntS_spec hX4.pins ((hL18.own _ (List.mem_append_right _ List.mem_cons_self)).weaken (Nat.zero_le _)) (by omega) (hso.1)) ?_
  rintro _ w14 ⟨rfl, ho15, hx16⟩
  refine ⟨_, rfl, ?_⟩
  have hg20 := mark_grown hx16
  have hX21 := hX4.write hx16.pins hg20 (fun k hk => Or.inr ⟨_, hmem17, hk⟩)
  have ho22 := hw5.keptA hg20 (hav _ hmem17).symm
  have hL19 := Lvs.step hL18 (ho15.up (fun k hk => ((hL18.own _ (List.mem_append_right _ List.mem_cons_self)).lt k hk).1)) hg20
  refine qD rfl (zC (v := (.int .i64 (q + ((ns.getD j default).l.length : Int)))) rfl) ?_
  refine qe (zA (zG ?_))
  refine qD rfl (zB (v := v) rfl) ?_
  refine qD rfl (zB (v := (.int .i64 (j : Int))) rfl) ?_
  refine qD rfl (zK Tryz.underlying30 yT (v := v) rfl rfl ho22.read (by omega) (by omega)) ?_
  refine qD rfl (xI (off := 1) Tryz.underlying103 rfl rfl nz67 (z := (j : Int)) (k := 0) rfl ho22.read (by omega) (by omega)) ?_
  obtain ⟨cs23, hrep24, hagg25, hcell26⟩ := nm_el (j := j) default (ho22.at (z := (j : Int)) (by omega) (by omega)) rfl
  obtain ⟨rfl, hone29⟩ := hrep24
  obtain ⟨u27, hu28⟩ : ∃ u, u = (ps.getD j default).2 := ⟨_, rfl⟩
  refine qD rfl (hcell26 1 u27 (by rw [hu28]; rfl) ag67 rfl (Gadd.pins hX21.pins v)) ?_
  refine qD rfl (zB (v := (.int .i64 (q + ((ns.getD j default).l.length : Int)))) rfl) ?_
  have hmem33 : u27 ∈ leafV ps := by rw [hu28]; exact (leafV_mem (by omega)).2
  have hL34 : Lvs 3 G w14 lo hi ((A ++ [(u11, upL (q) (ns.getD j default).l.length)]) ++ (u27, (ns.getD j default).r) :: lvN (ps.drop (j + 1)) (ns.drop (j + 1))) := by rw [hu28, List.append_assoc]; exact hL19
  refine qI rfl (zP (vs := [u27, (.int .i64 (q + ((ns.getD j default).l.length : Int)))]) Tryz.func111 nm111 rfl rfl rfl ?_)
  refine Calls.mono (markIntS_spec hX21.pins ((hL34.own _ (List.mem_append_right _ List.mem_cons_self)).weaken (Nat.zero_le _)) (by omega) (hso.2)) ?_
  rintro _ w30 ⟨rfl, ho31, hx32⟩
  refine ⟨_, rfl, ?_⟩
  have hg36 := mark_grown hx32
  have hX37 := hX21.write hx32.pins hg36 (fun k hk => Or.inr ⟨_, hmem33, hk⟩)
  have ho38 := ho22.keptA hg36 (hav _ hmem33).symm
  have hL35 := Lvs.step hL34 (ho31.up (fun k hk => ((hL34.own _ (List.mem_append_right _ List.mem_cons_self)).lt k hk).1)) hg36
  refine qD rfl (zC (v := (.int .i64 ((q + ((ns.getD j default).l.length : Int)) + ((ns.getD j default).r.length : Int)))) rfl) ?_
  refine qe ?_
  refine yI ?_
  refine zA (zG ?_)
  refine qD rfl (zB (v := (.int .i64 (j : Int))) rfl) ?_
  refine qD rfl (yS rfl rfl (by omega)) ?_
  refine qD rfl (zC (v := (.int .i64 ((j : Int) + 1))) rfl) ?_
  refine qe ?_
  refine yF ?_
  refine ⟨_, ?_, _, rfl, _, j + 1, (q + ((ns.getD j default).l.length : Int)) + ((ns.getD j default).r.length : Int), A ++ [(u11, upL (q) (ns.getD j default).l.length)] ++ [(u27, upL (q + ((ns.getD j default).l.length : Int)) (ns.getD j default).r.length)], (zF (x := 5) (zF (x := 4) (zF (x := 1) (zR (x := 0) rfl) rfl) rfl) rfl), rfl, hX37, (by omega), (by omega), (hqt.trans (by rw [totN_next (by omega)]; omega)), (hA.trans (by rw [lvN_markN (by omega) (by omega), List.append_assoc, List.append_assoc, ← hu12, ← hu28]; rfl)), (by rw [List.append_assoc]; exact hL35), ho38⟩
  omega
 refine wp_exit ?_
 refine zY ?_
 refine yL ?_
 refine yJ ?_
 refine zA (zD (zG ?_))
 refine qD rfl (zB (v := (.int .i64 q)) rfl) ?_
 refine qD rfl (zC (v := (.int .i64 q)) rfl) ?_
 refine qe (zA ?_)
 refine wp_ret ?_
 refine zS ?_
 refine zQ (v := (.int .i64 q)) rfl rfl rfl ?_
 rw [lvN_end (by omega), List.append_nil] at hA
 rw [lvN_end (by omega), List.append_nil] at hF1
 exact ⟨congrArg (fun z => Ending.returned (Value.int .i64 z)) (by rw [hqt, totN_end (by omega)]; omega), (by rw [hA]; exact hF1), hX4⟩

theorem markFormX_spec {w : World} {G : Pin} {v : Value} {ns : List Nd} {kz : Int} {lo hi : Nat} (hP : Pins G w) (hd : DForm 103 3 G w lo hi v ns) (hsz : hi ≤ w.heap.size) (hsm : Small ns) (hk : 0 ≤ kz ∧ kz ≤ 1099511627776) :
  Calls Tryz.prog 25 [(.agg [v].toArray), (.int .i64 kz)].toArray w fun e w' => e = .returned (.int .i64 (kz + totN ns)) ∧ DForm 103 3 G w' lo hi v (markN kz ns) ∧ Ext (inR lo hi) G w G w' := by
 refine yA (n := 10) Tryz.func25 Tryz.ntmps25 rfl rfl ?_
 have hX0 : Ext (inR lo hi) G w G w := Ext.refl hP
 refine zD (zG ?_)
 refine qI rfl (qA [v] (v := (.agg [v].toArray)) rfl rfl hX0.pins (fun b1 w2 hk3 hb4 hp5 hl6 => ?_))
 have hX7 := hX0.step hp5 hl6
 have hd8 := hd.below hl6
 have hs9 := Nat.le_trans hsz hl6.size
 have ha10 : hi ≤ b1 ∨ b1 < lo := Or.inl (by have e := Option.some.inj (congrArg some hk3); have := hsz; omega)
 have hlo11 : w.heap.size ≤ b1 := by have := hX0.size; omega
 obtain ⟨G12, hle13, hX14, hbp15, hf16⟩ := hb4.shut hX7 hlo11
 have hd17 := hd8.more hle13 hf16 ha10
 refine qD rfl (zC (v := (.int .i64 0)) rfl) ?_
 refine qe (zA (zD (zG ?_)))
 refine qD rfl (zV (k := 0) rfl Tryz.underlying32 rfl nz30 rfl) ?_
 refine qD rfl (zT (u := v) ag30 rfl (hX14.pins _ _ _ (hbp15 0 _ rfl))) ?_
 refine qD rfl (zB (v := (.int .i64 kz)) rfl) ?_
 obtain ⟨ps18, ho19, hpl20, hav21, hL22, hin23, hst24⟩ := hd17.mark
 refine qI rfl (zP (vs := [v, (.int .i64 kz)]) Tryz.func68 nm68 rfl rfl rfl ?_)
 refine Calls.mono (markNodeX_spec hX14.pins ho19 hpl20 hav21 hL22 hsm hk) ?_
 rintro _ w25 ⟨rfl, hL26, hx27⟩
 refine ⟨_, rfl, ?_⟩
 have hX28 := hX14.trans hx27 (fun i hi => Or.inr (hin23 i hi))
 have hd29 := hst24 (markN_length _ _) hL26 hx27
 refine qD rfl (zC (v := (.int .i64 (kz + totN ns))) rfl) ?_
 refine qe (zA (zD (zG ?_)))
 refine qD rfl (zB (v := (.int .i64 (kz + totN ns))) rfl) ?_
 refine qD rfl (zC (v := (.int .i64 (kz + totN ns))) rfl) ?_
 refine qe (zA ?_)
 refine wp_ret ?_
 refine zS ?_
 refine zQ (v := (.int .i64 (kz + totN ns))) rfl rfl rfl ?_
 exact ⟨rfl, hd29.anti hle13, hX28.shrink⟩

theorem heldNodeS_spec {w : World} {G : Pin} {v : Value} {ns : List Nd} {kz : Int} (hP : Pins G w) (hv : RSl eNode G v (markN kz ns)) (hsm : Small ns) (hk : 0 ≤ kz ∧ kz ≤ 1099511627776) :
  Calls Tryz.prog 69 [v, (.int .i64 kz)].toArray w fun e w' => e = .returned (.int .i64 (kz + totN ns)) ∧ w' = w := by
 refine yA (n := 31) Tryz.func69 Tryz.ntmps69 rfl rfl ?_
 have hX0 : Ext noS G w G w := Ext.refl hP
 have hul := markN_length kz ns
 have hln := hsm.len
 refine zD (zG ?_)
 refine qD rfl (zC (v := (.int .i64 0)) rfl) ?_
 refine qe (zA (zD (zD (zG ?_))))
 refine qD rfl (zC (v := (.int .i64 0)) rfl) ?_
 refine qe (zA ?_)
 refine zX ?_
 refine yR (fun (k : Nat) (en : Nat → Value) (W : World) => ∃ (env1 : Nat → Value) (j : Nat) (q : Int), en = (upd (upd (upd env1 0 v) 1 (.int .i64 q)) 5 (.int .i64 (j : Int))) ∧ k = ns.length - j ∧ Ext noS G w G W ∧ (j ≤ ns.length) ∧ (W = w) ∧ (0 ≤ q ∧ q ≤ kz + 2097152 * (j : Int)) ∧ (kz + totN ns = q + totN (ns.drop j)) ∧ (markN kz ns).drop j = markN q (ns.drop j)) _ ⟨_, 0, kz, (zF (x := 5) (zF (x := 1) (zR (x := 0) rfl) rfl) rfl), rfl, hX0, Nat.zero_le _, rfl, (by omega), rfl, rfl⟩ ?_
 rintro k1 _ w2 ⟨env1, j, q, rfl, hk3, hX4, hj, hw, hq, hqt, hA⟩
 subst hw
 refine zD (zD (zG ?_))
 refine qD rfl (zB (v := (.int .i64 (j : Int))) rfl) ?_
 refine qD rfl (zB (v := v) rfl) ?_
 refine qD rfl (zM Tryz.underlying30 (v := v) rfl hv) ?_
 refine qD rfl (yP rfl rfl) ?_
 refine qe (zA ?_)
 refine yC (p := ((j : Int) : Int) < ((markN kz ns).length : Int)) rfl rfl (fun h5 => ?_) (fun h5 => ?_)
 ·skip
  have hso := hsm.opts j (by omega)
  have hAj := markN_at (show j < ns.length by omega) hA
  refine wp_skip ?_
  refine zA (zD ?_)
  refine zX ?_
  refine zD (zG ?_)
  refine qD rfl (zB (v := v) rfl) ?_
  refine qD rfl (zB (v := (.int .i64 (j : Int))) rfl) ?_
  refine qD rfl (zK Tryz.underlying30 yT (v := v) rfl rfl hv (by omega) (by omega)) ?_
  refine qD rfl (xI (off := 0) Tryz.underlying103 rfl rfl nz67 (z := (j : Int)) (k := 0) rfl hv (by omega) (by omega)) ?_
  obtain ⟨u6, hr7, hl8⟩ := nm_nl (hv.at (z := (j : Int)) (by omega) (by omega)) (j := j) rfl
  have hm9 := hr7.max
  refine qD rfl (hl8 ag67 rfl hX4.pins) ?_
  refine qD rfl (zB (v := (.int .i64 q)) rfl) ?_
  refine qI rfl (zP (vs := [u6, (.int .i64 q)]) Tryz.func112 nm112 rfl rfl rfl ?_)
  refine Calls.mono (heldIntS_spec (n := (ns.getD j default).l.length) hX4.pins (by rw [← hAj.1]; exact hr7) (by omega) (hso.1)) ?_
  rintro _ _ ⟨rfl, rfl⟩
  refine ⟨_, rfl, ?_⟩
  refine qD rfl (zC (v := (.int .i64 (q + (((ns.getD j default).l.length : Int) : Int)))) rfl) ?_
  refine qe (zA (zD (zD (zG ?_))))
  refine qD rfl (zB (v := (.int .i64 (q + (((ns.getD j default).l.length : Int) : Int)))) rfl) ?_
  refine qD rfl (yP rfl rfl) ?_
  refine qe (zA ?_)
  refine yC (p := (q + (((ns.getD j default).l.length : Int) : Int) : Int) < 0) rfl rfl (fun h10 => ?_) (fun h10 => ?_)
  ·skip
   refine zD (zG ?_)
   refine qD rfl (zC (v := (.int .i64 (-1))) rfl) ?_
   refine qe (zA ?_)
   refine wp_ret ?_
   refine zS ?_
   refine zQ (v := (.int .i64 (-1))) rfl rfl rfl ?_
   exact absurd h10 (by omega)
  refine wp_skip ?_
  refine zA (zD (zG ?_))
  refine qD rfl (zB (v := v) rfl) ?_
  refine qD rfl (zB (v := (.int .i64 (j : Int))) rfl) ?_
  refine qD rfl (zK Tryz.underlying30 yT (v := v) rfl rfl hv (by omega) (by omega)) ?_
  refine qD rfl (xI (off := 1) Tryz.underlying103 rfl rfl nz67 (z := (j : Int)) (k := 0) rfl hv (by omega) (by omega)) ?_
  obtain ⟨u11, hr12, hl13⟩ := nm_nr (hv.at (z := (j : Int)) (by omega) (by omega)) (j := j) rfl
  have hm14 := hr12.max
  refine qD rfl (hl13 ag67 rfl hX4.pins) ?_
  refine qD rfl (zB (v := (.int .i64 (q + (((ns.getD j default).l.length : Int) : Int)))) rfl) ?_
  refine qI rfl (zP (vs := [u11, (.int .i64 (q + (((ns.getD j default).l.length : Int) : Int)))]) Tryz.func112 nm112 rfl rfl rfl ?_)
  refine Calls.mono (heldIntS_spec (n := (ns.getD j default).r.length) hX4.pins (by rw [← hAj.2.1]; exact hr12) (by omega) (hso.2)) ?_
  rintro _ _ ⟨rfl, rfl⟩
  refine ⟨_, rfl, ?_⟩
  refine qD rfl (zC (v := (.int .i64 ((q + (((ns.getD j default).l.length : Int) : Int)) + (((ns.getD j default).r.length : Int) : Int)))) rfl) ?_
  refine qe (zA (zD (zG ?_)))
  refine qD rfl (zB (v := (.int .i64 ((q + (((ns.getD j default).l.length : Int) : Int)) + (((ns.getD j default).r.length : Int) : Int)))) rfl) ?_
  refine qD rfl (yP rfl rfl) ?_
  refine qe (zA ?_)
  refine yC (p := ((q + (((ns.getD j default).l.length : Int) : Int)) + (((ns.getD j default).r.length : Int) : Int) : Int) < 0) rfl rfl (fun h15 => ?_) (fun h15 => ?_)
  ·skip
   refine zD (zG ?_)
   refine qD rfl (zC (v := (.int .i64 (-1))) rfl) ?_
   refine qe (zA ?_)
   refine wp_ret ?_
   refine zS ?_
   refine zQ (v := (.int .i64 (-1))) rfl rfl rfl ?_
   exact absurd h15 (by omega)
  refine wp_skip ?_
  refine yI ?_
  refine zA (zG ?_)
  refine qD rfl (zB (v := (.int .i64 (j : Int))) rfl) ?_
  refine qD rfl (yS rfl rfl (by omega)) ?_
  refine qD rfl (zC (v := (.int .i64 ((j : Int) + 1))) rfl) ?_
  refine qe ?_
  refine yF ?_
  refine ⟨_, ?_, _, rfl, _, j + 1, (q + (((ns.getD j default).l.length : Int) : Int)) + (((ns.getD j default).r.length : Int) : Int), (zF (x := 5) (zF (x := 1) (zR (x := 0) rfl) rfl) rfl), rfl, hX4, (by omega), rfl, (by omega), (hqt.trans (by rw [totN_next (by omega)]; omega)), hAj.2.2⟩
  omega
 refine wp_exit ?_
 refine zY ?_
 refine yL ?_
 refine yJ ?_
 refine zA (zD (zG ?_))
 refine qD rfl (zB (v := (.int .i64 q)) rfl) ?_
 refine qD rfl (zC (v := (.int .i64 q)) rfl) ?_
 refine qe (zA ?_)
 refine wp_ret ?_
 refine zS ?_
 refine zQ (v := (.int .i64 q)) rfl rfl rfl ?_
 exact ⟨congrArg (fun z => Ending.returned (Value.int .i64 z)) (by rw [hqt, totN_end (by omega)]; omega), rfl⟩

theorem heldFormX_spec {w : World} {G : Pin} {v : Value} {ns : List Nd} {kz : Int} (hP : Pins G w) (hv : RSl eNode G v (markN kz ns)) (hsm : Small ns) (hk : 0 ≤ kz ∧ kz ≤ 1099511627776) :
  Calls Tryz.prog 26 [(.agg [v].toArray), (.int .i64 kz)].toArray w fun e w' => ∃ G', e = .returned (.int .i64 (kz + totN ns)) ∧ Ext noS G w G' w' := by
 refine yA (n := 12) Tryz.func26 Tryz.ntmps26 rfl rfl ?_
 have hX0 : Ext noS G w G w := Ext.refl hP
 have htn := qO ns
 refine zD (zG ?_)
 refine qI rfl (qA [v] (v := (.agg [v].toArray)) rfl rfl hX0.pins (fun b1 w2 hk3 hb4 hp5 hl6 => ?_))
 have hX7 := hX0.step hp5 hl6
 have hlo8 : w.heap.size ≤ b1 := by have := hX0.size; omega
 obtain ⟨G9, hle10, hX11, hbp12, hf13⟩ := hb4.shut hX7 hlo8
 refine qD rfl (zC (v := (.int .i64 0)) rfl) ?_
 refine qe (zA (zD (zG ?_)))
 refine qD rfl (zV (k := 0) rfl Tryz.underlying32 rfl nz30 rfl) ?_
 refine qD rfl (zT (u := v) ag30 rfl (hX11.pins _ _ _ (hbp12 0 _ rfl))) ?_
 refine qD rfl (zB (v := (.int .i64 kz)) rfl) ?_
 refine qI rfl (zP (vs := [v, (.int .i64 kz)]) Tryz.func69 nm69 rfl rfl rfl ?_)
 refine Calls.mono (heldNodeS_spec hX11.pins (hv.mono hle10) hsm hk) ?_
 rintro _ _ ⟨rfl, rfl⟩
 refine ⟨_, rfl, ?_⟩
 refine qD rfl (zC (v := (.int .i64 (kz + totN ns))) rfl) ?_
 refine qe (zA (zD (zD (zG ?_))))
 refine qD rfl (zB (v := (.int .i64 (kz + totN ns))) rfl) ?_
 refine qD rfl (yP rfl rfl) ?_
 refine qe (zA ?_)
 refine yC (p := (kz + totN ns : Int) < 0) rfl rfl (fun h14 => ?_) (fun h14 => ?_)
 ·skip
  refine zD (zG ?_)
  refine qD rfl (zC (v := (.int .i64 (-1))) rfl) ?_
  refine qe (zA ?_)
  refine wp_ret ?_
  refine zS ?_
  refine zQ (v := (.int .i64 (-1))) rfl rfl rfl ?_
  exact absurd h14 (by omega)
 refine wp_skip ?_
 refine zA (zD (zG ?_))
 refine qD rfl (zB (v := (.int .i64 (kz + totN ns))) rfl) ?_
 refine qD rfl (zC (v := (.int .i64 (kz + totN ns))) rfl) ?_
 refine qe (zA ?_)
 refine wp_ret ?_
 refine zS ?_
 refine zQ (v := (.int .i64 (kz + totN ns))) rfl rfl rfl ?_
 exact ⟨_, rfl, hX11⟩

theorem eqForm_same {w : World} {G : Pin} {u v : Value} {xs : List Nd} (hP : Pins G w) (hu : RSl eNode G u xs) (hv : RSl eNode G v xs) :
  Calls Tryz.prog 20 [(.agg [u].toArray), (.agg [v].toArray)].toArray w fun e w' => ∃ G', e = .returned (.bool true) ∧ Ext noS G w G' w' := by
 refine (eqForm_spec hP hu hv).mono ?_
 rintro e w' ⟨G', rfl, hx⟩
 exact ⟨G', by simp, hx⟩

theorem szFormS_spec {w : World} {G : Pin} {v : Value} {fs : List (List Nd)} {left : Int} (hP : Pins G w) (hv : RSl (eSl eNode) G v fs) (hl : 0 ≤ left ∧ left ≤ 1048576) :
  Calls Tryz.prog 42 [v, (.int .i64 left)].toArray w fun e w' => ∃ z G', e = .returned (.int .i64 z) ∧ (z < 0 ∨ 0 ≤ z ∧ z ≤ left ∧ SmallF fs) ∧ Ext noS G w G' w' := by
 refine yA (n := 27) Tryz.func42 Tryz.ntmps42 rfl rfl ?_
 have hX0 : Ext noS G w G w := Ext.refl hP
 have hm := hv.max
 have htf := qP fs
 refine zD (zG ?_)
 refine qD rfl (zC (v := (.int .i64 0)) rfl) ?_
 refine qe (zA (zD (zG ?_)))
 refine qD rfl (zB (v := (.int .i64 left)) rfl) ?_
 refine qD rfl (zB (v := v) rfl) ?_
 refine qD rfl (zM Tryz.underlying51 (v := v) rfl hv) ?_
 refine qD rfl (r_sub rfl rfl (by omega)) ?_
 refine qD rfl (zC (v := (.int .i64 (left - (fs.length : Int)))) rfl) ?_
 refine qe (zA (zD (zD (zG ?_))))
 refine qD rfl (zB (v := (.int .i64 (left - (fs.length : Int)))) rfl) ?_
 refine qD rfl (yP rfl rfl) ?_
 refine qe (zA ?_)
 refine yC (p := (left - (fs.length : Int) : Int) < 0) rfl rfl (fun h1 => ?_) (fun h1 => ?_)
 ·skip
  refine zD (zG ?_)
  refine qD rfl (zC (v := (.int .i64 (-1))) rfl) ?_
  refine qe (zA ?_)
  refine wp_ret ?_
  refine zS ?_
  refine zQ (v := (.int .i64 (-1))) rfl rfl rfl ?_
  exact ⟨_, _, rfl, Or.inl (by omega), hX0⟩
 refine wp_skip ?_
 refine zA (zD (zD (zG ?_)))
 refine qD rfl (zC (v := (.int .i64 0)) rfl) ?_
 refine qe (zA ?_)
 refine zX ?_
 refine yR (fun (k : Nat) (en : Nat → Value) (W : World) => ∃ (env1 : Nat → Value) (j : Nat) (q : Int) (GL1 : Pin), en = (upd (upd (upd env1 0 v) 1 (.int .i64 q)) 5 (.int .i64 (j : Int))) ∧ k = fs.length - j ∧ Ext noS G w GL1 W ∧ Pin.le G GL1 ∧ (j ≤ fs.length) ∧ (0 ≤ q ∧ q ≤ left) ∧ (totF fs + q ≤ totF (fs.drop j) + (left - (fs.length : Int))) ∧ (∀ i, i < j → Small (fs.getD i []))) _ ⟨_, 0, left - (fs.length : Int), G, (zF (x := 5) (zF (x := 1) (zR (x := 0) rfl) rfl) rfl), rfl, hX0, Pin.le_refl _, Nat.zero_le _, (by omega), Int.le_refl _, (fun i hi => absurd hi (Nat.not_lt_zero i))⟩ ?_
 rintro k2 _ w3 ⟨env1, j, q, GL1, rfl, hk4, hX5, hlek2, hj, hq, hr, hsm⟩
 refine zD (zD (zG ?_))
 refine qD rfl (zB (v := (.int .i64 (j : Int))) rfl) ?_
 refine qD rfl (zB (v := v) rfl) ?_
 refine qD rfl (zM Tryz.underlying51 (v := v) rfl hv) ?_
 refine qD rfl (yP rfl rfl) ?_
 refine qe (zA ?_)
 refine yC (p := ((j : Int) : Int) < (fs.length : Int)) rfl rfl (fun h6 => ?_) (fun h6 => ?_)
 ·skip
  refine wp_skip ?_
  refine zA (zD ?_)
  refine zX ?_
  refine zD (zG ?_)
  refine qD rfl (zB (v := v) rfl) ?_
  refine qD rfl (zB (v := (.int .i64 (j : Int))) rfl) ?_
  refine qD rfl (zK Tryz.underlying51 sz24 (v := v) rfl rfl hv (by omega) (by omega)) ?_
  obtain ⟨u7, hr8, hl9⟩ := nm_form (hv.at (z := (j : Int)) (by omega) (by omega)) (j := j) rfl
  have hm10 := hr8.max
  refine qD rfl (hl9 ag24 sz24 rfl (Pins.of_le hX5.pins hlek2)) ?_
  refine qD rfl (zB (v := (.int .i64 q)) rfl) ?_
  refine qI rfl (zP (vs := [(.agg [u7].toArray), (.int .i64 q)]) Tryz.func15 nm15 rfl rfl rfl ?_)
  refine Calls.mono (szFormT_spec hX5.pins (hr8.mono hlek2) (by omega)) ?_
  rintro _ w13 ⟨z11, G12, rfl, hz14, hx15⟩
  refine ⟨_, rfl, ?_⟩
  have hX16 := hX5.tr hx15
  refine qD rfl (zC (v := (.int .i64 z11)) rfl) ?_
  refine qe (zA (zD (zG ?_)))
  refine qD rfl (zB (v := (.int .i64 z11)) rfl) ?_
  refine qD rfl (yP rfl rfl) ?_
  refine qe (zA ?_)
  refine yC (p := (z11 : Int) < 0) rfl rfl (fun h17 => ?_) (fun h17 => ?_)
  ·skip
   refine zD (zG ?_)
   refine qD rfl (zC (v := (.int .i64 (-1))) rfl) ?_
   refine qe (zA ?_)
   refine wp_ret ?_
   refine zS ?_
   refine zQ (v := (.int .i64 (-1))) rfl rfl rfl ?_
   exact ⟨_, _, rfl, Or.inl (by omega), hX16⟩
  refine wp_skip ?_
  refine yI ?_
  refine zA (zG ?_)
  refine qD rfl (zB (v := (.int .i64 (j : Int))) rfl) ?_
  refine qD rfl (yS rfl rfl (by omega)) ?_
  refine qD rfl (zC (v := (.int .i64 ((j : Int) + 1))) rfl) ?_
  refine qe ?_
  refine yF ?_
  have hz1 : 0 ≤ z11 ∧ z11 + totN (fs.getD j []) ≤ q ∧ Small (fs.getD j []) := by rcases hz14 with h | h <;> first | omega | exact h
  refine ⟨_, ?_, _, rfl, _, j + 1, z11, G12, (zF (x := 5) (zF (x := 1) (zR (x := 0) rfl) rfl) rfl), rfl, hX16, (Pin.le_trans hlek2 hx15.le), (by omega), ⟨hz1.1, by have := hz1.2.1; have := qO (fs.getD j []); omega⟩, (by have := hz1.2.1; have := totF_next (show j < fs.length by omega); omega), (fun i hi => if h3 : i = j then h3 ▸ hz1.2.2 else hsm i (by omega))⟩
  omega
 refine wp_exit ?_
 refine zY ?_
 refine yL ?_
 refine yJ ?_
 refine zA (zD (zG ?_))
 refine qD rfl (zB (v := (.int .i64 q)) rfl) ?_
 refine qD rfl (zC (v := (.int .i64 q)) rfl) ?_
 refine qe (zA ?_)
 refine wp_ret ?_
 refine zS ?_
 refine zQ (v := (.int .i64 q)) rfl rfl rfl ?_
 rw [totF_end (by omega)] at hr
 exact ⟨_, _, rfl, Or.inr ⟨hq.1, by omega, ⟨by omega, fun i hi => hsm i (by omega), by omega⟩⟩, hX5⟩

theorem toFormS_dspec {w : World} {G : Pin} {v : Value} {fs : List (List Nd)} (hP : Pins G w) (hv : RSl (eSl eNode) G v fs) (hsf : SmallF fs) :
  Calls Tryz.prog 44 [v].toArray w fun e w' => ∃ (u : Value) (G' : Pin), e = .returned u ∧ DForms 103 32 3 G' w' w.heap.size w'.heap.size u fs ∧ Ext noS G w G' w' := by
 refine yA (n := 23) Tryz.func44 Tryz.ntmps44 rfl rfl ?_
 have hX0 : Ext noS G w G w := Ext.refl hP
 have hln := hsf.len
 refine zD (zG ?_)
 refine qD rfl (zC (v := (.slice none 0 0)) rfl) ?_
 refine qe (zA (zD (zG ?_)))
 refine qD rfl (zB (v := v) rfl) ?_
 refine qD rfl (zM Tryz.underlying51 (v := v) rfl hv) ?_
 refine qI rfl (o_make (E := eVal) (.slice none 0 0 : Value) 24 (.agg #[(.slice none 0 0)]) Tryz.underlying54 mk32 (fun _ => ⟨rfl, rfl⟩) rfl rfl hX0.pins (by omega) (by omega) (by omega) (fun u1 w2 ho3 hp4 hl5 hk6 => ?_))
 have hX7 := hX0.step hp4 hl5
 have ho8 : Own eVal 32 G w2 w.heap.size u1 (List.replicate fs.length (.slice none 0 0 : Value)) := ho3.weaken hX0.size
 have hm9 : (List.replicate fs.length (.slice none 0 0 : Value)).length = fs.length := List.length_replicate ..
 refine qD rfl (zC (v := u1) rfl) ?_
 refine qe (zA (zD (zD (zG ?_))))
 refine qD rfl (zC (v := (.int .i64 0)) rfl) ?_
 refine qe (zA ?_)
 refine zX ?_
 refine yR (fun (k : Nat) (en : Nat → Value) (W : World) => ∃ (env1 : Nat → Value) (j : Nat) (os : List Value) (GL1 : Pin), en = (upd (upd (upd (upd env1 0 v) 2 (.slice none 0 0)) 3 u1) 4 (.int .i64 (j : Int))) ∧ k = fs.length - j ∧ Ext noS G w GL1 W ∧ Pin.le G GL1 ∧ (j ≤ fs.length) ∧ (os.length = fs.length) ∧ (DCh 103 3 GL1 W u1.ownBlock w.heap.size W.heap.size (os.take j) (fs.take j)) ∧ (Own eVal 32 GL1 W w.heap.size u1 (os))) _ ⟨_, 0, List.replicate fs.length (.slice none 0 0 : Value), G, (zF (x := 4) (zF (x := 3) (zF (x := 2) (zR (x := 0) rfl) rfl) rfl) rfl), rfl, hX7, Pin.le_refl _, Nat.zero_le _, (by simp), hX7.size, ho8⟩ ?_
 rintro k10 _ w11 ⟨env1, j, os, GL1, rfl, hk12, hX13, hlek10, hj, hol, hch, hw14⟩
 refine zD (zD (zG ?_))
 refine qD rfl (zB (v := (.int .i64 (j : Int))) rfl) ?_
 refine qD rfl (zB (v := v) rfl) ?_
 refine qD rfl (zM Tryz.underlying51 (v := v) rfl hv) ?_
 refine qD rfl (yP rfl rfl) ?_
 refine qe (zA ?_)
 refine yC (p := ((j : Int) : Int) < (fs.length : Int)) rfl rfl (fun h15 => ?_) (fun h15 => ?_)
 ·skip
  have hso := hsf.small j (by omega)
  refine wp_skip ?_
  refine zA (zD ?_)
  refine zX ?_
  refine zG ?_
  refine qD rfl (zB (v := u1) rfl) ?_
  refine qD rfl (zB (v := (.int .i64 (j : Int))) rfl) ?_
  refine qD rfl (zB (v := v) rfl) ?_
  refine qD rfl (zB (v := (.int .i64 (j : Int))) rfl) ?_
  refine qD rfl (zK Tryz.underlying51 sz24 (v := v) rfl rfl hv (by omega) (by omega)) ?_
  obtain ⟨u16, hr17, hl18⟩ := nm_form (hv.at (z := (j : Int)) (by omega) (by omega)) (j := j) rfl
  have hm19 := hr17.max
  refine qD rfl (hl18 ag24 sz24 rfl (Pins.of_le hX13.pins hlek10)) ?_
  refine qI rfl (zP (vs := [(.agg [u16].toArray)]) Tryz.func17 nm17 rfl rfl rfl ?_)
  refine Calls.mono (toForm_dspec hX13.pins (hr17.mono hlek10) hso) ?_
  rintro _ w22 ⟨u20, G21, rfl, hd23, hx24⟩
  refine ⟨_, rfl, ?_⟩
  have ha25 : ∀ b, u1.ownBlock = some b → w22.heap.size ≤ b ∨ b < w11.heap.size := fun b hb => Or.inr (hw14.lt b hb).2
  have hX26 := hX13.tr hx24
  have ho27 := hw14.ext hx24
  have hd28 := hch.ext hx24
  have hs29 := Nat.le_trans (Nat.le_refl w11.heap.size) hx24.size
  have hone30 := hd23.one
  refine qD rfl (zK Tryz.underlying54 sz32 (v := u1) rfl rfl ho27.read (by omega) (by omega)) ?_
  refine q0 rfl rfl rfl (o_set (E := eVal) (v := u1) (u := (.agg [u20].toArray)) (z := (j : Int)) (u20) sz32 rfl rfl rfl ⟨rfl, hone30⟩ hX26.pins ho27 (by omega) (by omega) (fun w31 ho32 hp33 hg34 hz35 => ?_))
  have hX36 := hX26.write hp33 hg34 ((yG ho27))
  have hd37 := hd28.keptR hg34
  have hs38 := Nat.le_trans hs29 hg34.size
  have hd39 := hd23.keptO hg34 ha25
  have hs40 := Nat.le_trans (Nat.le_refl w22.heap.size) hg34.size
  refine qe ?_
  refine yI ?_
  refine zA (zG ?_)
  refine qD rfl (zB (v := (.int .i64 (j : Int))) rfl) ?_
  refine qD rfl (yS rfl rfl (by omega)) ?_
  refine qD rfl (zC (v := (.int .i64 ((j : Int) + 1))) rfl) ?_
  refine qe ?_
  refine yF ?_
  refine ⟨_, ?_, _, rfl, _, j + 1, os.set j u20, G21, (zF (x := 4) (zF (x := 3) (zF (x := 2) (zR (x := 0) rfl) rfl) rfl) rfl), rfl, hX36, (Pin.le_trans hlek10 hx24.le), (by omega), ((List.length_set ..).trans hol), (by rw [set_take hol (by omega), xJ fs [] (by omega)]; exact (hd37.snoc hd39 (Nat.le_refl _) hx24.size ha25).top hs40), ho32⟩
  omega
 refine wp_exit ?_
 refine zY ?_
 refine yL ?_
 refine yJ ?_
 refine zA (zD (zG ?_))
 refine qD rfl (zB (v := u1) rfl) ?_
 refine qD rfl (zC (v := u1) rfl) ?_
 refine qe (zA ?_)
 refine wp_ret ?_
 refine zS ?_
 refine zQ (v := u1) rfl rfl rfl ?_
 have hcc := hch
 rw [xY (by omega), xY (by omega)] at hcc
 exact ⟨_, _, rfl, ⟨os, hw14, fun k hk => (hw14.lt k hk).2, hcc⟩, hX13⟩

theorem eqFormS_spec {w : World} {G : Pin} {u v : Value} {xs ys : List (List Nd)} (hP : Pins G w) (hu : RSl (eSl eNode) G u xs) (hv : RSl (eSl eNode) G v ys) :
  Calls Tryz.prog 46 [u, v].toArray w fun e w' => ∃ G', e = .returned (.bool (decide (xs = ys))) ∧ Ext noS G w G' w' := by
 refine yA (n := 27) Tryz.func46 Tryz.ntmps46 rfl rfl ?_
 have hX0 : Ext noS G w G w := Ext.refl hP
 have hm := hu.max
 refine zD (zG ?_)
 refine qD rfl (zC (v := (.bool false)) rfl) ?_
 refine qe (zA (zD (zD (zG ?_))))
 refine qD rfl (zB (v := u) rfl) ?_
 refine qD rfl (zM Tryz.underlying54 (v := u) rfl hu) ?_
 refine qD rfl (zB (v := v) rfl) ?_
 refine qD rfl (zM Tryz.underlying54 (v := v) rfl hv) ?_
 refine qD rfl (r_neq rfl rfl) ?_
 refine qe (zA ?_)
 refine yC (p := ((xs.length : Int) : Int) ≠ (ys.length : Int)) rfl rfl (fun h1 => ?_) (fun h1 => ?_)
 ·skip
  refine zD (zG ?_)
  refine qD rfl (zC (v := (.bool false)) rfl) ?_
  refine qe (zA ?_)
  refine wp_ret ?_
  refine zS ?_
  refine zQ (v := (.bool false)) rfl rfl rfl ?_
  exact ⟨_, congrArg (fun z => Ending.returned (Value.bool z)) (decide_eq_false (fun e => h1 (by rw [e]))).symm, hX0⟩
 refine wp_skip ?_
 refine zA (zD (zD (zG ?_)))
 refine qD rfl (zC (v := (.int .i64 0)) rfl) ?_
 refine qe (zA ?_)
 refine zX ?_
 refine yR (fun (k : Nat) (en : Nat → Value) (W : World) => ∃ (env1 : Nat → Value) (j : Nat) (GL1 : Pin), en = (upd (upd (upd env1 0 u) 1 v) 5 (.int .i64 (j : Int))) ∧ k = xs.length - j ∧ Ext noS G w GL1 W ∧ Pin.le G GL1 ∧ (j ≤ xs.length) ∧ (xs.length = ys.length) ∧ (∀ i, i < j → xs.getD i [] = ys.getD i [])) _ ⟨_, 0, G, (zF (x := 5) (zF (x := 1) (zR (x := 0) rfl) rfl) rfl), rfl, hX0, Pin.le_refl _, Nat.zero_le _, (by omega), (fun i hi => absurd hi (Nat.not_lt_zero i))⟩ ?_
 rintro k2 _ w3 ⟨env1, j, GL1, rfl, hk4, hX5, hlek2, hj, heq, hp⟩
 refine zD (zD (zG ?_))
 refine qD rfl (zB (v := (.int .i64 (j : Int))) rfl) ?_
 refine qD rfl (zB (v := u) rfl) ?_
 refine qD rfl (zM Tryz.underlying54 (v := u) rfl hu) ?_
 refine qD rfl (yP rfl rfl) ?_
 refine qe (zA ?_)
 refine yC (p := ((j : Int) : Int) < (xs.length : Int)) rfl rfl (fun h6 => ?_) (fun h6 => ?_)
 ·skip
  refine wp_skip ?_
  refine zA (zD ?_)
  refine zX ?_
  refine zD ?_
  refine xG (S := fun wz => Pins GL1 wz) (last := 10) (by kernel_rfl) rfl ?_
  have hl7 : Below w3.heap.size w3 w3.drew := (Below.refl _ _).drew
  have hp8 := hX5.pins.below hl7
  have hX9 := hX5.step hp8 hl7
  refine dT (i := 0) rfl rfl (by kernel_rfl) (fun _ _ => zB (v := u) rfl) hX9.pins ?_
  refine dT (i := 1) rfl rfl (by kernel_rfl) (fun _ _ => zB (v := (.int .i64 (j : Int))) rfl) hX9.pins ?_
  refine dT (i := 2) rfl rfl (by kernel_rfl) (fun _ _ => zK Tryz.underlying54 sz32 (v := u) rfl rfl hu (by omega) (by omega)) hX9.pins ?_
  obtain ⟨u10, hr11, hl12⟩ := nm_form (hu.at (z := (j : Int)) (by omega) (by omega)) (j := j) rfl
  have hm13 := hr11.max
  refine dT (i := 3) rfl rfl (by kernel_rfl) (fun _ hS => hl12 ag32 sz32 rfl (Pins.of_le hS hlek2)) hX9.pins ?_
  refine dT (i := 4) rfl rfl (by kernel_rfl) (fun _ _ => zB (v := v) rfl) hX9.pins ?_
  refine dT (i := 5) rfl rfl (by kernel_rfl) (fun _ _ => zB (v := (.int .i64 (j : Int))) rfl) hX9.pins ?_
  refine dT (i := 6) rfl rfl (by kernel_rfl) (fun _ _ => zK Tryz.underlying54 sz32 (v := v) rfl rfl hv (by omega) (by omega)) hX9.pins ?_
  obtain ⟨u14, hr15, hl16⟩ := nm_form (hv.at (z := (j : Int)) (by omega) (by omega)) (j := j) rfl
  have hm17 := hr15.max
  refine dT (i := 7) rfl rfl (by kernel_rfl) (fun _ hS => hl16 ag32 sz32 rfl (Pins.of_le hS hlek2)) hX9.pins ?_
  refine zU (i := 8) (by kernel_rfl) (zZ (i := 8) rfl rfl rfl (zH rfl _) (zP (vs := [(.agg [u10].toArray), (.agg [u14].toArray)]) Tryz.func20 nm20 rfl rfl rfl ?_))
  refine Calls.mono (eqForm_spec hX9.pins (hr11.mono hlek2) (hr15.mono hlek2)) ?_
  rintro _ w19 ⟨G18, rfl, hx20⟩
  refine ⟨_, rfl, ?_⟩
  have hX21 := hX9.tr hx20
  refine ⟨fun _ => (Pins.of_le hX21.pins hx20.le), ?_⟩
  refine dT (i := 9) rfl rfl (by kernel_rfl) (fun _ _ => xU rfl) (Pins.of_le hX21.pins hx20.le) ?_
  refine yV (by kernel_rfl) ?_
  refine zA ?_
  refine c_ifn rfl rfl (fun h22 => ?_) (fun h22 => ?_)
  ·skip
   replace h22 := of_decide_eq_true h22
   refine wp_skip ?_
   refine yI ?_
   refine zA (zG ?_)
   refine qD rfl (zB (v := (.int .i64 (j : Int))) rfl) ?_
   refine qD rfl (yS rfl rfl (by omega)) ?_
   refine qD rfl (zC (v := (.int .i64 ((j : Int) + 1))) rfl) ?_
   refine qe ?_
   refine yF ?_
   refine ⟨_, ?_, _, rfl, _, j + 1, G18, (zF (x := 5) (zF (x := 1) (zR (x := 0) rfl) rfl) rfl), rfl, hX21, (Pin.le_trans hlek2 hx20.le), (by omega), heq, (eqstepG hp h22)⟩
   omega
  replace h22 := of_decide_eq_false h22
  refine zD (zG ?_)
  refine qD rfl (zC (v := (.bool false)) rfl) ?_
  refine qe (zA ?_)
  refine wp_ret ?_
  refine zS ?_
  refine zQ (v := (.bool false)) rfl rfl rfl ?_
  exact ⟨_, congrArg (fun z => Ending.returned (Value.bool z)) (decide_eq_false (fun e => h22 (by rw [e]))).symm, hX21⟩
 refine wp_exit ?_
 refine zY ?_
 refine yL ?_
 refine yJ ?_
 refine zA (zD (zG ?_))
 refine qD rfl (zC (v := (.bool true)) rfl) ?_
 refine qe (zA ?_)
 refine wp_ret ?_
 refine zS ?_
 refine zQ (v := (.bool true)) rfl rfl rfl ?_
 exact ⟨_, congrArg (fun z => Ending.returned (Value.bool z)) (decide_eq_true (eqdoneG heq (by omega) hp)).symm, hX5⟩

theorem markFormS_spec {w : World} {G : Pin} {v : Value} {us : List Value} {fs : List (List Nd)} {kz : Int} {lo hi : Nat} (hP : Pins G w) (ho : Own eVal 32 G w 0 v us) (hC : DCh 103 3 G w v.ownBlock lo hi us fs) (hsf : SmallF fs) (hk : 0 ≤ kz ∧ kz ≤ 1073741824) :
  Calls Tryz.prog 47 [v, (.int .i64 kz)].toArray w fun e w' => e = .returned (.int .i64 (kz + totF fs)) ∧ DCh 103 3 G w' v.ownBlock lo hi us (markF kz fs) ∧ Ext (inNR v.ownBlock lo hi) G w G w' := by
 refine yA (n := 20) Tryz.func47 Tryz.ntmps47 rfl rfl ?_
 have hX0 : Ext (inNR v.ownBlock lo hi) G w G w := Ext.refl hP
 have hln := hsf.len
 have hul := hC.len
 have htn := qP fs
 have htt := hsf.tot
 refine zD (zG ?_)
 refine qD rfl (zC (v := (.int .i64 0)) rfl) ?_
 refine qe (zA (zD (zD (zG ?_))))
 refine qD rfl (zC (v := (.int .i64 0)) rfl) ?_
 refine qe (zA ?_)
 refine zX ?_
 refine yR (fun (k : Nat) (en : Nat → Value) (W : World) => ∃ (env1 : Nat → Value) (j : Nat) (q : Int), en = (upd (upd (upd (upd env1 0 v) 1 (.int .i64 q)) 4 (.int .i64 0)) 5 (.int .i64 (j : Int))) ∧ k = us.length - j ∧ Ext (inNR v.ownBlock lo hi) G w G W ∧ (j ≤ us.length) ∧ (0 ≤ q) ∧ (kz + totF fs = q + totF (fs.drop j)) ∧ (markF kz fs).drop j = markF q (fs.drop j) ∧ (DCh 103 3 G W v.ownBlock lo hi us ((markF kz fs).take j ++ fs.drop j)) ∧ (Own eVal 32 G W 0 v (us))) _ ⟨_, 0, kz, (zF (x := 5) (zF (x := 4) (zF (x := 1) (zR (x := 0) rfl) rfl) rfl) rfl), rfl, hX0, Nat.zero_le _, hk.1, rfl, rfl, hC, ho⟩ ?_
 rintro k1 _ w2 ⟨env1, j, q, rfl, hk3, hX4, hj, hq, hqt, hA, hC1, hw5⟩
 refine zD (zD (zG ?_))
 refine qD rfl (zB (v := (.int .i64 (j : Int))) rfl) ?_
 refine qD rfl (zB (v := v) rfl) ?_
 refine qD rfl (zM Tryz.underlying54 (v := v) rfl hw5.read) ?_
 refine qD rfl (yP rfl rfl) ?_
 refine qe (zA ?_)
 refine yC (p := ((j : Int) : Int) < (us.length : Int)) rfl rfl (fun h6 => ?_) (fun h6 => ?_)
 ·skip
  have hsj := hsf.small j (by omega)
  have htd := qP (fs.drop j)
  have htj := qO (fs.getD j [])
  have hAj := markF_at (show j < fs.length by omega) hA
  refine wp_skip ?_
  refine zA (zD ?_)
  refine zX ?_
  refine zG ?_
  refine qD rfl (zB (v := v) rfl) ?_
  refine qD rfl (zB (v := (.int .i64 (j : Int))) rfl) ?_
  refine qD rfl (zK Tryz.underlying54 sz32 (v := v) rfl rfl hw5.read (by omega) (by omega)) ?_
  refine qD rfl (xI (off := 0) Tryz.underlying32 rfl rfl nz30 (z := (j : Int)) (k := 0) rfl hw5.read (by omega) (by omega)) ?_
  obtain ⟨cs7, hrep8, hagg9, hcell10⟩ := nm_el (j := j) default (hw5.at (z := (j : Int)) (by omega) (by omega)) rfl
  obtain ⟨rfl, hone13⟩ := hrep8
  obtain ⟨u11, hu12⟩ : ∃ u, u = (us.getD j default) := ⟨_, rfl⟩
  refine qD rfl (hcell10 0 u11 (by rw [hu12]; rfl) ag30 rfl (Gadd.pins hX4.pins v)) ?_
  refine qD rfl (zB (v := (.int .i64 q)) rfl) ?_
  have hcl : j < ((markF kz fs).take j ++ fs.drop j).length := by simp [qK]; omega
  obtain ⟨l14, m15, hll16, hmm17, hrr18, hd19, hst20⟩ := hC1.at hcl
  rw [cur_at [] (qK kz fs) (by omega), ← hu12] at hd19
  obtain ⟨ps21, ho22, hpl23, hav24, hL25, hin26, hst27⟩ := hd19.mark
  refine qI rfl (zP (vs := [u11, (.int .i64 q)]) Tryz.func68 nm68 rfl rfl rfl ?_)
  refine Calls.mono (markNodeX_spec hX4.pins ho22 hpl23 hav24 hL25 hsj (by omega)) ?_
  rintro _ w28 ⟨rfl, hL29, hx30⟩
  refine ⟨_, rfl, ?_⟩
  have hd31 := hst27 (markN_length _ _) hL29 hx30
  rw [hu12] at hd31
  have hC32 := hst20 (hx30.back hin26) hd31
  have hX33 := hX4.trans hx30 (fun i hi => Or.inr ⟨Nat.le_trans hll16 (hin26 i hi).1, Nat.lt_of_lt_of_le (hin26 i hi).2 hmm17, fun e => by have h1 := hin26 i hi; have h2 := hrr18 i e; have := h1.1; have := h1.2; omega⟩)
  have ho34 := hw5.extS (hx30.back hin26) (fun k hk hS => by have h2 := hrr18 k hk; have := hS.1; have := hS.2; omega)
  refine qD rfl (zC (v := (.int .i64 (q + totN (fs.getD j [])))) rfl) ?_
  refine qe ?_
  refine yI ?_
  refine zA (zG ?_)
  refine qD rfl (zB (v := (.int .i64 (j : Int))) rfl) ?_
  refine qD rfl (yS rfl rfl (by omega)) ?_
  refine qD rfl (zC (v := (.int .i64 ((j : Int) + 1))) rfl) ?_
  refine qe ?_
  refine yF ?_
  refine ⟨_, ?_, _, rfl, _, j + 1, q + totN (fs.getD j []), (zF (x := 5) (zF (x := 4) (zF (x := 1) (zR (x := 0) rfl) rfl) rfl) rfl), rfl, hX33, (by omega), (by omega), (hqt.trans (by rw [totF_next (show j < fs.length by omega)]; omega)), hAj.2, (by rw [← cur_set [] (qK kz fs) (by omega) hAj.1]; exact hC32), ho34⟩
  omega
 refine wp_exit ?_
 refine zY ?_
 refine yL ?_
 refine yJ ?_
 refine zA (zD (zG ?_))
 refine qD rfl (zB (v := (.int .i64 q)) rfl) ?_
 refine qD rfl (zC (v := (.int .i64 q)) rfl) ?_
 refine qe (zA ?_)
 refine wp_ret ?_
 refine zS ?_
 refine zQ (v := (.int .i64 q)) rfl rfl rfl ?_
 rw [cur_end (qK kz fs) (by omega)] at hC1
 exact ⟨congrArg (fun z => Ending.returned (Value.int .i64 z)) (by rw [hqt, totF_end (by omega)]; omega), hC1, hX4⟩

theorem qJ {w : World} {G : Pin} {v : Value} {fs : List (List Nd)} (hP : Pins G w) (hv : RSl (eSl eNode) G v fs) (hsf : SmallF fs) :
  Calls Tryz.prog 44 [v].toArray w fun e w' => ∃ (u : Value) (G' : Pin), e = .returned u ∧ RSl (eSl eNode) G' u fs ∧ Ext noS G w G' w' := by
 refine (toFormS_dspec hP hv hsf).mono ?_
 rintro e w' ⟨u, G', rfl, hd, hx⟩
 obtain ⟨G'', h1, h2⟩ := hd.give hx
 exact ⟨u, G'', rfl, h1, h2⟩
theorem eqFormS_same {w : World} {G : Pin} {u v : Value} {xs : List (List Nd)} (hP : Pins G w) (hu : RSl (eSl eNode) G u xs) (hv : RSl (eSl eNode) G v xs) :
  Calls Tryz.prog 46 [u, v].toArray w fun e w' => ∃ G', e = .returned (.bool true) ∧ Ext noS G w G' w' := by
 refine (eqFormS_spec hP hu hv).mono ?_
 rintro e w' ⟨G', rfl, hx⟩
 exact ⟨G', by simp, hx⟩

theorem iMakeForm_spec {w : World} {G : Pin} {u : Value} {ns : List (List Nd)} {v : Value} {ms : List (List Nd)} (hP : Pins G w) (hu : RSl (eSl eNode) G u ns) (hv : RSl (eSl eNode) G v ms) :
  Calls Tryz.prog 45 [u, v].toArray w fun e w' => ∃ (u : Value) (G' : Pin), e = .returned (.tuple #[.agg [u].toArray, .bool (makeB ns ms)]) ∧ RSl eNode G' u (makeF ns ms) ∧ Ext noS G w G' w' := by
 refine (iMakeForm_dspec hP hu hv).mono ?_
 rintro e w' ⟨u, G', rfl, hd, hx⟩
 obtain ⟨G'', h1, h2⟩ := hd.give hx
 exact ⟨u, G'', rfl, h1, h2⟩

theorem law {w : World} {G : Pin} {u v : Value} {ns ms : List (List Nd)} (hP : Pins G w) (hu : RSl (eSl eNode) G u ns) (hv : RSl (eSl eNode) G v ms) :
  Calls Tryz.prog 13 [u, v].toArray w fun e w' => ∃ G', e = .returned (.bool true) ∧ Ext noS G w G' w' := by
 refine yA (n := 119) Tryz.func13 Tryz.ntmps13 rfl rfl ?_
 have hX0 : Ext noS G w G w := Ext.refl hP
 have htzns := qP ns
 have htzms := qP ms
 refine zD (zG ?_)
 refine qD rfl (zC (v := (.bool false)) rfl) ?_
 refine qe (zA (zD (zG ?_)))
 refine qD rfl (zC (v := (.int .i64 1048576)) rfl) ?_
 refine qe (zA (zD (zG ?_)))
 refine qD rfl (zB (v := u) rfl) ?_
 refine qD rfl (zB (v := (.int .i64 1048576)) rfl) ?_
 refine qI rfl (zP (vs := [u, (.int .i64 1048576)]) Tryz.func42 nm42 rfl rfl rfl ?_)
 refine Calls.mono (szFormS_spec hX0.pins hu (by omega)) ?_
 rintro _ w3 ⟨z1, G2, rfl, hz4, hx5⟩
 refine ⟨_, rfl, ?_⟩
 have hX6 := hX0.tr hx5
 refine qD rfl (zC (v := (.int .i64 z1)) rfl) ?_
 refine qe (zA (zD (zD (zG ?_))))
 refine qD rfl (zB (v := (.int .i64 z1)) rfl) ?_
 refine qD rfl (yP rfl rfl) ?_
 refine qe (zA ?_)
 refine yC (p := (z1 : Int) < 0) rfl rfl (fun h7 => ?_) (fun h7 => ?_)
 ·skip
  refine zD (zG ?_)
  refine qD rfl (zC (v := (.bool true)) rfl) ?_
  refine qe (zA ?_)
  refine wp_ret ?_
  refine zS ?_
  refine zQ (v := (.bool true)) rfl rfl rfl ?_
  exact ⟨_, rfl, hX6⟩
 refine wp_skip ?_
 refine zA (zD (zG ?_))
 refine qD rfl (zB (v := v) rfl) ?_
 refine qD rfl (zB (v := (.int .i64 z1)) rfl) ?_
 refine qI rfl (zP (vs := [v, (.int .i64 z1)]) Tryz.func42 nm42 rfl rfl rfl ?_)
 refine Calls.mono (szFormS_spec hX6.pins (hv.mono hx5.le) (by omega)) ?_
 rintro _ w10 ⟨z8, G9, rfl, hz11, hx12⟩
 refine ⟨_, rfl, ?_⟩
 have hX13 := hX6.tr hx12
 refine qD rfl (zC (v := (.int .i64 z8)) rfl) ?_
 refine qe (zA (zD (zD (zG ?_))))
 refine qD rfl (zB (v := (.int .i64 z8)) rfl) ?_
 refine qD rfl (yP rfl rfl) ?_
 refine qe (zA ?_)
 refine yC (p := (z8 : Int) < 0) rfl rfl (fun h14 => ?_) (fun h14 => ?_)
 ·skip
  refine zD (zG ?_)
  refine qD rfl (zC (v := (.bool true)) rfl) ?_
  refine qe (zA ?_)
  refine wp_ret ?_
  refine zS ?_
  refine zQ (v := (.bool true)) rfl rfl rfl ?_
  exact ⟨_, rfl, hX13⟩
 refine wp_skip ?_
 refine zA (zD (zG ?_))
 have hsn : SmallF ns := by rcases hz4 with h | h <;> first | omega | exact h.2.2
 have htxns := hsn.tot
 have hsm : SmallF ms := by rcases hz11 with h | h <;> first | omega | exact h.2.2
 have htxms := hsm.tot
 have htf := qO (makeF ns ms)
 refine qD rfl (zB (v := u) rfl) ?_
 refine qI rfl (zP (vs := [u]) Tryz.func44 nm44 rfl rfl rfl ?_)
 refine Calls.mono (qJ hX13.pins (hu.mono (Pin.le_trans hx5.le hx12.le)) hsn) ?_
 rintro _ w17 ⟨u15, G16, rfl, hr18, hx19⟩
 refine ⟨_, rfl, ?_⟩
 have hX20 := hX13.tr hx19
 refine qD rfl (zB (v := v) rfl) ?_
 refine qI rfl (zP (vs := [v]) Tryz.func44 nm44 rfl rfl rfl ?_)
 refine Calls.mono (qJ hX20.pins (hv.mono (Pin.le_trans (Pin.le_trans hx5.le hx12.le) hx19.le)) hsm) ?_
 rintro _ w23 ⟨u21, G22, rfl, hr24, hx25⟩
 refine ⟨_, rfl, ?_⟩
 have hX26 := hX20.tr hx25
 refine qI rfl (zP (vs := [u15, u21]) Tryz.func43 nm43 rfl rfl rfl ?_)
 refine Calls.mono (sMakeForm_spec hX26.pins (hr18.mono hx25.le) hr24) ?_
 rintro _ w29 ⟨u27, G28, rfl, hr30, hx31⟩
 refine ⟨_, rfl, ?_⟩
 have hX32 := hX26.tr hx31
 refine qD rfl (zB (v := (.tuple #[(.agg [u27].toArray), (.bool (makeB ns ms))])) rfl) ?_
 refine qD rfl (xP (v := (.agg [u27].toArray)) rfl rfl) ?_
 refine qD rfl (xP (v := (.bool (makeB ns ms))) rfl rfl) ?_
 refine qI rfl (xB [(.slice none 0 0)] zr32 rfl hX32.pins (fun b33 w34 hk35 hb36 hp37 hl38 => ?_))
 have hX39 := hX32.step hp37 hl38
 have hlo40 : w.heap.size ≤ b33 := by have := hX32.size; omega
 refine q0 rfl rfl rfl (xC (cs' := [u27]) (us := [u27]) (v := (.agg [u27].toArray)) sz32 rfl rfl rfl (yX hr30.one) hX39.pins hb36 (Nat.le_of_ble_eq_true rfl) rfl (fun w41 hb42 hp43 hg44 hz45 => ?_))
 have hX46 := hX39.write hp43 hg44 ((yU hlo40))
 obtain ⟨G47, hle48, hX49, hbp50, hf51⟩ := hb42.shut hX46 hlo40
 refine qD rfl (zC (v := (.bool (makeB ns ms))) rfl) ?_
 refine qe (zA (zD (zG ?_)))
 refine qD rfl (zB (v := u) rfl) ?_
 refine qI rfl (zP (vs := [u]) Tryz.func44 nm44 rfl rfl rfl ?_)
 refine Calls.mono (toFormS_dspec hX49.pins (hu.mono (Pin.le_trans (Pin.le_trans (Pin.le_trans (Pin.le_trans (Pin.le_trans hx5.le hx12.le) hx19.le) hx25.le) hx31.le) hle48)) hsn) ?_
 rintro _ w54 ⟨u52, G53, rfl, hd55, hx56⟩
 refine ⟨_, rfl, ?_⟩
 have hX57 := hX49.tr hx56
 have hone58 := hd55.one
 refine qD rfl (zC (v := u52) rfl) ?_
 refine qe (zA (zD (zG ?_)))
 refine qD rfl (zB (v := v) rfl) ?_
 have hgx4 := (Nat.le_refl w54.heap.size)
 refine qI rfl (zP (vs := [v]) Tryz.func44 nm44 rfl rfl rfl ?_)
 refine Calls.mono (toFormS_dspec hX57.pins (hv.mono (Pin.le_trans (Pin.le_trans (Pin.le_trans (Pin.le_trans (Pin.le_trans (Pin.le_trans hx5.le hx12.le) hx19.le) hx25.le) hx31.le) hle48) hx56.le)) hsm) ?_
 rintro _ w61 ⟨u59, G60, rfl, hd62, hx63⟩
 refine ⟨_, rfl, ?_⟩
 have hX64 := hX57.tr hx63
 have hd65 := hd55.ext hx63
 have hs66 := Nat.le_trans (Nat.le_refl w54.heap.size) hx63.size
 have hone67 := hd62.one
 refine qD rfl (zC (v := u59) rfl) ?_
 refine qe (zA (zD (zG ?_)))
 refine qD rfl (zB (v := u52) rfl) ?_
 refine qD rfl (zB (v := u59) rfl) ?_
 obtain ⟨G68, hle69, hp70, hr71, hf72⟩ := hd65.read hX64.pins
 obtain ⟨G73, hle74, hp75, hr76, hf77⟩ := hd62.read hX64.pins
 obtain ⟨G78, hc79, hc80, hc81, hc82, hc83⟩ := join_pins hle69 hp70 hp75 hf72 hf77
 refine qI rfl (zP (vs := [u52, u59]) Tryz.func45 nm45 rfl rfl rfl ?_)
 refine Calls.mono (iMakeForm_dspec hc82 (hr71.mono hc80) (hr76.mono hc81)) ?_
 rintro _ w86 ⟨u84, G85, rfl, hd87, hx88⟩
 refine ⟨_, rfl, ?_⟩
 have hgxu52 := hs66
 have hgxu59 := (Nat.le_refl w61.heap.size)
 have hx89 := deep_back hX64.pins hx88
 have hX90 := hX64.step hx89.pins hx89.below
 have hd91 := hd65.below hx89.below
 have hs92 := Nat.le_trans hs66 hx89.below.size
 have hd93 := hd62.below hx89.below
 have hs94 := Nat.le_trans (Nat.le_refl w61.heap.size) hx89.below.size
 have hd95 := hd87.anti (Pin.le_trans hc79 hx88.le)
 have hone96 := hd95.one
 refine qD rfl (zB (v := (.tuple #[(.agg [u84].toArray), (.bool (makeB ns ms))])) rfl) ?_
 refine qD rfl (xP (v := (.agg [u84].toArray)) rfl rfl) ?_
 refine qD rfl (xP (v := (.bool (makeB ns ms))) rfl rfl) ?_
 refine qI rfl (xB [(.slice none 0 0)] zr32 rfl hX90.pins (fun b97 w98 hk99 hb100 hp101 hl102 => ?_))
 have hX103 := hX90.step hp101 hl102
 have hd104 := hd91.below hl102
 have hs105 := Nat.le_trans hs92 hl102.size
 have hd106 := hd93.below hl102
 have hs107 := Nat.le_trans hs94 hl102.size
 have hd108 := hd95.below hl102
 have hs109 := Nat.le_trans (Nat.le_refl w86.heap.size) hl102.size
 have ha110 : w54.heap.size ≤ b97 ∨ b97 < w41.heap.size := Or.inl (by have e := Option.some.inj (congrArg some hk99); have := hs92; omega)
 have ha111 : w61.heap.size ≤ b97 ∨ b97 < w54.heap.size := Or.inl (by have e := Option.some.inj (congrArg some hk99); have := hs94; omega)
 have ha112 : w86.heap.size ≤ b97 ∨ b97 < w61.heap.size := Or.inl (by have e := Option.some.inj (congrArg some hk99); have := (Nat.le_refl w86.heap.size); omega)
 have hlo113 : w.heap.size ≤ b97 := by have := hX90.size; omega
 refine q0 rfl rfl rfl (xC (cs' := [u84]) (us := [u84]) (v := (.agg [u84].toArray)) sz32 rfl rfl rfl (yX hone96) hX103.pins hb100 (Nat.le_of_ble_eq_true rfl) rfl (fun w114 hb115 hp116 hg117 hz118 => ?_))
 have hX119 := hX103.write hp116 hg117 ((yU hlo113))
 have hd120 := hd104.kept hg117 ha110
 have hs121 := Nat.le_trans hs105 hg117.size
 have hd122 := hd106.kept hg117 ha111
 have hs123 := Nat.le_trans hs107 hg117.size
 have hd124 := hd108.kept hg117 ha112
 have hs125 := Nat.le_trans hs109 hg117.size
 obtain ⟨G126, hle127, hX128, hbp129, hf130⟩ := hb115.shut hX119 hlo113
 have hd131 := hd120.more hle127 hf130 ha110
 have hd132 := hd122.more hle127 hf130 ha111
 have hd133 := hd124.more hle127 hf130 ha112
 refine qD rfl (zC (v := (.bool (makeB ns ms))) rfl) ?_
 refine qe (zA (zD (zD (zG ?_))))
 refine qD rfl (xM (cs := [u84]) ag32 sz32 rfl (fun j u hj => hX128.pins _ _ _ (hbp129 _ _ (by simpa using hj)))) ?_
 refine qD rfl (xM (cs := [u27]) ag32 sz32 rfl (fun j u hj => (Pins.of_le hX128.pins (Pin.le_trans (Pin.le_trans hx56.le hx63.le) hle127)) _ _ _ (hbp50 _ _ (by simpa using hj)))) ?_
 obtain ⟨G137, hle138, hp139, hr140, _⟩ := hd133.read hX128.pins
 refine qI rfl (zP (vs := [(.agg [u84].toArray), (.agg [u27].toArray)]) Tryz.func20 nm20 rfl rfl rfl ?_)
 refine Calls.mono (eqForm_same hp139 hr140 ((hr30.mono (Pin.le_trans (Pin.le_trans (Pin.le_trans hle48 hx56.le) hx63.le) hle127)).mono hle138)) ?_
 rintro _ w135 ⟨G134, rfl, hx136⟩
 refine ⟨_, rfl, ?_⟩
 have hx141 := deep_back hX128.pins hx136
 have hX142 := hX128.step hx141.pins hx141.below
 have hd143 := hd131.below hx141.below
 have hs144 := Nat.le_trans hs121 hx141.below.size
 have hd145 := hd132.below hx141.below
 have hs146 := Nat.le_trans hs123 hx141.below.size
 have hd147 := hd133.below hx141.below
 have hs148 := Nat.le_trans hs125 hx141.below.size
 refine qD rfl (xU rfl) ?_
 refine qD rfl (zB (v := (.bool false)) rfl) ?_
 refine qdg rfl rfl rfl rfl rfl rfl (zB (v := (.bool (makeB ns ms))) rfl) ?_
 refine qdg rfl rfl rfl rfl rfl rfl (zB (v := (.bool (makeB ns ms))) rfl) ?_
 refine qdg rfl rfl rfl rfl rfl rfl (r_neqB_same Tryz.underlying4 rfl rfl) ?_
 refine qD rfl (xD (v := (.bool false)) rfl rfl) ?_
 refine qe (zA ?_)
 refine qL rfl rfl ?_
 refine wp_skip ?_
 refine zA (zD (zD (zG ?_)))
 refine qD rfl (zB (v := u52) rfl) ?_
 refine qD rfl (zB (v := u) rfl) ?_
 refine qI rfl (zP (vs := [u]) Tryz.func44 nm44 rfl rfl rfl ?_)
 refine Calls.mono (qJ hX142.pins (hu.mono (Pin.le_trans (Pin.le_trans (Pin.le_trans (Pin.le_trans (Pin.le_trans (Pin.le_trans (Pin.le_trans (Pin.le_trans hx5.le hx12.le) hx19.le) hx25.le) hx31.le) hle48) hx56.le) hx63.le) hle127)) hsn) ?_
 rintro _ w151 ⟨u149, G150, rfl, hr152, hx153⟩
 refine ⟨_, rfl, ?_⟩
 have hX154 := hX142.tr hx153
 have hd155 := hd143.ext hx153
 have hs156 := Nat.le_trans hs144 hx153.size
 have hd157 := hd145.ext hx153
 have hs158 := Nat.le_trans hs146 hx153.size
 have hd159 := hd147.ext hx153
 have hs160 := Nat.le_trans hs148 hx153.size
 obtain ⟨G164, hle165, hp166, hr167, _⟩ := hd155.read hX154.pins
 refine qI rfl (zP (vs := [u52, u149]) Tryz.func46 nm46 rfl rfl rfl ?_)
 refine Calls.mono (eqFormS_same hp166 hr167 (hr152.mono hle165)) ?_
 rintro _ w162 ⟨G161, rfl, hx163⟩
 refine ⟨_, rfl, ?_⟩
 have hx168 := deep_back hX154.pins hx163
 have hX169 := hX154.step hx168.pins hx168.below
 have hd170 := hd155.below hx168.below
 have hs171 := Nat.le_trans hs156 hx168.below.size
 have hd172 := hd157.below hx168.below
 have hs173 := Nat.le_trans hs158 hx168.below.size
 have hd174 := hd159.below hx168.below
 have hs175 := Nat.le_trans hs160 hx168.below.size
 refine qD rfl (xU rfl) ?_
 refine qe (zA ?_)
 refine qL rfl rfl ?_
 refine wp_skip ?_
 refine zA (zD (zD (zG ?_)))
 refine qD rfl (zB (v := u59) rfl) ?_
 refine qD rfl (zB (v := v) rfl) ?_
 refine qI rfl (zP (vs := [v]) Tryz.func44 nm44 rfl rfl rfl ?_)
 refine Calls.mono (qJ hX169.pins (hv.mono (Pin.le_trans (Pin.le_trans (Pin.le_trans (Pin.le_trans (Pin.le_trans (Pin.le_trans (Pin.le_trans (Pin.le_trans (Pin.le_trans hx5.le hx12.le) hx19.le) hx25.le) hx31.le) hle48) hx56.le) hx63.le) hle127) hx153.le)) hsm) ?_
 rintro _ w178 ⟨u176, G177, rfl, hr179, hx180⟩
 refine ⟨_, rfl, ?_⟩
 have hX181 := hX169.tr hx180
 have hd182 := hd170.ext hx180
 have hs183 := Nat.le_trans hs171 hx180.size
 have hd184 := hd172.ext hx180
 have hs185 := Nat.le_trans hs173 hx180.size
 have hd186 := hd174.ext hx180
 have hs187 := Nat.le_trans hs175 hx180.size
 obtain ⟨G191, hle192, hp193, hr194, _⟩ := hd184.read hX181.pins
 refine qI rfl (zP (vs := [u59, u176]) Tryz.func46 nm46 rfl rfl rfl ?_)
 refine Calls.mono (eqFormS_same hp193 hr194 (hr179.mono hle192)) ?_
 rintro _ w189 ⟨G188, rfl, hx190⟩
 refine ⟨_, rfl, ?_⟩
 have hx195 := deep_back hX181.pins hx190
 have hX196 := hX181.step hx195.pins hx195.below
 have hd197 := hd182.below hx195.below
 have hs198 := Nat.le_trans hs183 hx195.below.size
 have hd199 := hd184.below hx195.below
 have hs200 := Nat.le_trans hs185 hx195.below.size
 have hd201 := hd186.below hx195.below
 have hs202 := Nat.le_trans hs187 hx195.below.size
 refine qD rfl (xU rfl) ?_
 refine qe (zA ?_)
 refine qL rfl rfl ?_
 refine wp_skip ?_
 refine zA (zD (zG ?_))
 refine qD rfl (zC (v := (.int .i64 1)) rfl) ?_
 refine qe (zA (zD (zG ?_)))
 refine qD rfl (zB (v := u52) rfl) ?_
 refine qD rfl (zB (v := (.int .i64 1)) rfl) ?_
 obtain ⟨us203, ho204, hul205, hC206, hst207⟩ := hd197.mark
 refine qI rfl (zP (vs := [u52, (.int .i64 1)]) Tryz.func47 nm47 rfl rfl rfl ?_)
 refine Calls.mono (markFormS_spec (kz := 1) hX196.pins ho204 hC206 hsn (by omega)) ?_
 rintro _ w208 ⟨rfl, hC209, hx210⟩
 refine ⟨_, rfl, ?_⟩
 have hX211 := hX196.trans hx210 (fun i hi => Or.inl (Nat.le_trans hX49.size hi.1))
 have hd212 := hd199.extS hx210 (fun k h1 h2 h3 => by have := h3.1; have := h3.2.1; omega)
 have hs213 := Nat.le_trans hs200 hx210.size
 have hd214 := hd201.extS hx210 (fun k h1 h2 h3 => by have := h3.1; have := h3.2.1; omega)
 have hs215 := Nat.le_trans hs202 hx210.size
 refine qD rfl (zC (v := (.int .i64 (1 + totF ns))) rfl) ?_
 refine qe (zA (zD (zG ?_)))
 refine qD rfl (zB (v := u59) rfl) ?_
 refine qD rfl (zB (v := (.int .i64 (1 + totF ns))) rfl) ?_
 obtain ⟨us216, ho217, hul218, hC219, hst220⟩ := hd212.mark
 refine qI rfl (zP (vs := [u59, (.int .i64 (1 + totF ns))]) Tryz.func47 nm47 rfl rfl rfl ?_)
 refine Calls.mono (markFormS_spec (kz := 1 + totF ns) hX211.pins ho217 hC219 hsm (by omega)) ?_
 rintro _ w221 ⟨rfl, hC222, hx223⟩
 refine ⟨_, rfl, ?_⟩
 have hX224 := hX211.trans hx223 (fun i hi => Or.inl (Nat.le_trans hX57.size hi.1))
 have hd225 := hd214.extS hx223 (fun k h1 h2 h3 => by have := h3.1; have := h3.2.1; omega)
 have hs226 := Nat.le_trans hs215 hx223.size
 refine qD rfl (zC (v := (.int .i64 ((1 + totF ns) + totF ms))) rfl) ?_
 refine qe (zA (zD (zD (zG ?_))))
 refine qD rfl (zB (v := (.int .i64 ((1 + totF ns) + totF ms))) rfl) ?_
 refine qD rfl (yP rfl rfl) ?_
 refine qD rfl (zB (v := (.bool (decide (((1 + totF ns) + totF ms : Int) < 0)))) rfl) ?_
 refine qbd (p := ((1 + totF ns) + totF ms : Int) < 0) (t := 72) rfl (fun h227 => ?_) (fun h227 => ?_)
 ·skip
  refine qs rfl rfl rfl rfl rfl rfl ?_
  refine qs rfl rfl rfl rfl rfl rfl ?_
  refine qs rfl rfl rfl rfl rfl rfl ?_
  refine qs rfl rfl rfl rfl rfl rfl ?_
  refine qD rfl (xL (v := (.bool true)) rfl rfl) ?_
  refine qD rfl (zB (v := (.bool true)) rfl) ?_
  refine qs rfl rfl rfl rfl rfl rfl ?_
  refine qs rfl rfl rfl rfl rfl rfl ?_
  refine qs rfl rfl rfl rfl rfl rfl ?_
  refine qD rfl (xL (v := (.bool true)) rfl rfl) ?_
  refine qe (zA ?_)
  refine c_ifT rfl rfl ?_
  refine zD (zG ?_)
  refine qD rfl (zC (v := (.bool false)) rfl) ?_
  refine qe (zA ?_)
  refine wp_ret ?_
  refine zS ?_
  refine zQ (v := (.bool false)) rfl rfl rfl ?_
  exfalso; omega
 refine qdg rfl rfl rfl rfl rfl rfl (xM (cs := [u84]) ag32 sz32 rfl (fun j u hj => (Pins.of_le hX224.pins (Pin.le_trans hx153.le hx180.le)) _ _ _ (hbp129 _ _ (by simpa using hj)))) ?_
 refine qdg rfl rfl rfl rfl rfl rfl (xM (cs := [u27]) ag32 sz32 rfl (fun j u hj => (Pins.of_le hX224.pins (Pin.le_trans (Pin.le_trans (Pin.le_trans (Pin.le_trans hx56.le hx63.le) hle127) hx153.le) hx180.le)) _ _ _ (hbp50 _ _ (by simpa using hj)))) ?_
 obtain ⟨G231, hle232, hp233, hr234, _⟩ := hd225.read hX224.pins
 refine q1g rfl rfl rfl rfl rfl rfl (zP (vs := [(.agg [u84].toArray), (.agg [u27].toArray)]) Tryz.func20 nm20 rfl rfl rfl ?_)
 refine Calls.mono (eqForm_same hp233 hr234 ((hr30.mono (Pin.le_trans (Pin.le_trans (Pin.le_trans (Pin.le_trans (Pin.le_trans hle48 hx56.le) hx63.le) hle127) hx153.le) hx180.le)).mono hle232)) ?_
 rintro _ w229 ⟨G228, rfl, hx230⟩
 refine ⟨_, rfl, ?_⟩
 have hx235 := deep_back hX224.pins hx230
 have hX236 := hX224.step hx235.pins hx235.below
 have hd237 := hd225.below hx235.below
 have hs238 := Nat.le_trans hs226 hx235.below.size
 refine qdg rfl rfl rfl rfl rfl rfl (xU rfl) ?_
 refine qD rfl (xD (v := (.bool false)) rfl rfl) ?_
 refine qD rfl (zB (v := (.bool false)) rfl) ?_
 refine qdg rfl rfl rfl rfl rfl rfl (zB (v := (.bool (makeB ns ms))) rfl) ?_
 refine qdg rfl rfl rfl rfl rfl rfl (zB (v := (.bool (makeB ns ms))) rfl) ?_
 refine qdg rfl rfl rfl rfl rfl rfl (r_neqB_same Tryz.underlying4 rfl rfl) ?_
 refine qD rfl (xD (v := (.bool false)) rfl rfl) ?_
 refine qe (zA ?_)
 refine qL rfl rfl ?_
 refine wp_skip ?_
 refine zA (zD (zG ?_))
 refine qD rfl (zC (v := (.int .i64 1)) rfl) ?_
 refine qe (zA (zD (zG ?_)))
 refine qD rfl (xM (cs := [u84]) ag32 sz32 rfl (fun j u hj => (Pins.of_le hX236.pins (Pin.le_trans hx153.le hx180.le)) _ _ _ (hbp129 _ _ (by simpa using hj)))) ?_
 refine qD rfl (zB (v := (.int .i64 1)) rfl) ?_
 refine qI rfl (zP (vs := [(.agg [u84].toArray), (.int .i64 1)]) Tryz.func25 nm25 rfl rfl rfl ?_)
 refine Calls.mono (markFormX_spec (kz := 1) hX236.pins hd237 hs238 (make_small _ _) (by omega)) ?_
 rintro _ w239 ⟨rfl, hd240, hx241⟩
 refine ⟨_, rfl, ?_⟩
 have hX242 := hX236.trans hx241 (fun i hi => Or.inl (Nat.le_trans hX64.size hi.1))
 obtain ⟨G243, hle244, hp245, hr246, hf247⟩ := hd240.read hX242.pins
 have hX248 := hX242.promise hle244 hp245 hf247 hX64.size
 refine qD rfl (zC (v := (.int .i64 (1 + totN (makeF ns ms)))) rfl) ?_
 refine qe (zA (zD (zG ?_)))
 refine qD rfl (zC (v := (.int .i64 1)) rfl) ?_
 refine qe (zA (zD (zG ?_)))
 refine qD rfl (xM (cs := [u84]) ag32 sz32 rfl (fun j u hj => (Pins.of_le hX248.pins (Pin.le_trans (Pin.le_trans hx153.le hx180.le) hle244)) _ _ _ (hbp129 _ _ (by simpa using hj)))) ?_
 refine qD rfl (zB (v := (.int .i64 1)) rfl) ?_
 refine qI rfl (zP (vs := [(.agg [u84].toArray), (.int .i64 1)]) Tryz.func26 nm26 rfl rfl rfl ?_)
 refine Calls.mono (heldFormX_spec (kz := 1) (ns := makeF ns ms) hX248.pins hr246 (make_small _ _) (by omega)) ?_
 rintro _ w250 ⟨G249, rfl, hx251⟩
 refine ⟨_, rfl, ?_⟩
 have hX252 := hX248.tr hx251
 refine qD rfl (zC (v := (.int .i64 (1 + totN (makeF ns ms)))) rfl) ?_
 refine qe (zA (zD (zD (zG ?_))))
 refine qD rfl (zB (v := (.int .i64 (1 + totN (makeF ns ms)))) rfl) ?_
 refine qD rfl (yP rfl rfl) ?_
 refine qe (zA ?_)
 refine yC (p := (1 + totN (makeF ns ms) : Int) < 0) rfl rfl (fun h253 => ?_) (fun h253 => ?_)
 ·skip
  refine zD (zG ?_)
  refine qD rfl (zC (v := (.bool false)) rfl) ?_
  refine qe (zA ?_)
  refine wp_ret ?_
  refine zS ?_
  refine zQ (v := (.bool false)) rfl rfl rfl ?_
  exfalso; omega
 refine wp_skip ?_
 refine zA (zD (zD (zG ?_)))
 refine qD rfl (zB (v := (.int .i64 (1 + totN (makeF ns ms)))) rfl) ?_
 refine qD rfl (zB (v := (.int .i64 (1 + totN (makeF ns ms)))) rfl) ?_
 refine qD rfl (r_neq rfl rfl) ?_
 refine qe (zA ?_)
 refine yC (p := (1 + totN (makeF ns ms) : Int) ≠ (1 + totN (makeF ns ms))) rfl rfl (fun h254 => ?_) (fun h254 => ?_)
 ·skip
  refine zD (zG ?_)
  refine qD rfl (zC (v := (.bool false)) rfl) ?_
  refine qe (zA ?_)
  refine wp_ret ?_
  refine zS ?_
  refine zQ (v := (.bool false)) rfl rfl rfl ?_
  exfalso; omega
 refine wp_skip ?_
 refine zA (zD (zG ?_))
 refine qD rfl (zB (v := u) rfl) ?_
 refine qI rfl (zP (vs := [u]) Tryz.func44 nm44 rfl rfl rfl ?_)
 refine Calls.mono (qJ hX252.pins (hu.mono (Pin.le_trans (Pin.le_trans (Pin.le_trans (Pin.le_trans (Pin.le_trans (Pin.le_trans (Pin.le_trans (Pin.le_trans (Pin.le_trans (Pin.le_trans (Pin.le_trans (Pin.le_trans hx5.le hx12.le) hx19.le) hx25.le) hx31.le) hle48) hx56.le) hx63.le) hle127) hx153.le) hx180.le) hle244) hx251.le)) hsn) ?_
 rintro _ w257 ⟨u255, G256, rfl, hr258, hx259⟩
 refine ⟨_, rfl, ?_⟩
 have hX260 := hX252.tr hx259
 refine qD rfl (zB (v := v) rfl) ?_
 refine qI rfl (zP (vs := [v]) Tryz.func44 nm44 rfl rfl rfl ?_)
 refine Calls.mono (qJ hX260.pins (hv.mono (Pin.le_trans (Pin.le_trans (Pin.le_trans (Pin.le_trans (Pin.le_trans (Pin.le_trans (Pin.le_trans (Pin.le_trans (Pin.le_trans (Pin.le_trans (Pin.le_trans (Pin.le_trans (Pin.le_trans hx5.le hx12.le) hx19.le) hx25.le) hx31.le) hle48) hx56.le) hx63.le) hle127) hx153.le) hx180.le) hle244) hx251.le) hx259.le)) hsm) ?_
 rintro _ w263 ⟨u261, G262, rfl, hr264, hx265⟩
 refine ⟨_, rfl, ?_⟩
 have hX266 := hX260.tr hx265
 refine qI rfl (zP (vs := [u255, u261]) Tryz.func45 nm45 rfl rfl rfl ?_)
 refine Calls.mono (iMakeForm_spec hX266.pins (hr258.mono hx265.le) hr264) ?_
 rintro _ w269 ⟨u267, G268, rfl, hr270, hx271⟩
 refine ⟨_, rfl, ?_⟩
 have hX272 := hX266.tr hx271
 refine qD rfl (zB (v := (.tuple #[(.agg [u267].toArray), (.bool (makeB ns ms))])) rfl) ?_
 refine qD rfl (xP (v := (.agg [u267].toArray)) rfl rfl) ?_
 refine qD rfl (xP (v := (.bool (makeB ns ms))) rfl rfl) ?_
 refine qI rfl (xB [(.slice none 0 0)] zr32 rfl hX272.pins (fun b273 w274 hk275 hb276 hp277 hl278 => ?_))
 have hX279 := hX272.step hp277 hl278
 have hlo280 : w.heap.size ≤ b273 := by have := hX272.size; omega
 refine q0 rfl rfl rfl (xC (cs' := [u267]) (us := [u267]) (v := (.agg [u267].toArray)) sz32 rfl rfl rfl (yX hr270.one) hX279.pins hb276 (Nat.le_of_ble_eq_true rfl) rfl (fun w281 hb282 hp283 hg284 hz285 => ?_))
 have hX286 := hX279.write hp283 hg284 ((yU hlo280))
 obtain ⟨G287, hle288, hX289, hbp290, hf291⟩ := hb282.shut hX286 hlo280
 refine qD rfl (zC (v := (.bool (makeB ns ms))) rfl) ?_
 refine qe (zA (zD (zD (zG ?_))))
 refine qD rfl (xM (cs := [u267]) ag32 sz32 rfl (fun j u hj => hX289.pins _ _ _ (hbp290 _ _ (by simpa using hj)))) ?_
 refine qD rfl (xM (cs := [u27]) ag32 sz32 rfl (fun j u hj => (Pins.of_le hX289.pins (Pin.le_trans (Pin.le_trans (Pin.le_trans (Pin.le_trans (Pin.le_trans (Pin.le_trans (Pin.le_trans (Pin.le_trans (Pin.le_trans (Pin.le_trans hx56.le hx63.le) hle127) hx153.le) hx180.le) hle244) hx251.le) hx259.le) hx265.le) hx271.le) hle288)) _ _ _ (hbp50 _ _ (by simpa using hj)))) ?_
 refine qI rfl (zP (vs := [(.agg [u267].toArray), (.agg [u27].toArray)]) Tryz.func20 nm20 rfl rfl rfl ?_)
 refine Calls.mono (eqForm_same hX289.pins (hr270.mono hle288) (hr30.mono (Pin.le_trans (Pin.le_trans (Pin.le_trans (Pin.le_trans (Pin.le_trans (Pin.le_trans (Pin.le_trans (Pin.le_trans (Pin.le_trans (Pin.le_trans (Pin.le_trans hle48 hx56.le) hx63.le) hle127) hx153.le) hx180.le) hle244) hx251.le) hx259.le) hx265.le) hx271.le) hle288))) ?_
 rintro _ w293 ⟨G292, rfl, hx294⟩
 refine ⟨_, rfl, ?_⟩
 have hX295 := hX289.tr hx294
 refine qD rfl (xU rfl) ?_
 refine qD rfl (zB (v := (.bool false)) rfl) ?_
 refine qdg rfl rfl rfl rfl rfl rfl (zB (v := (.bool (makeB ns ms))) rfl) ?_
 refine qdg rfl rfl rfl rfl rfl rfl (zB (v := (.bool (makeB ns ms))) rfl) ?_
 refine qdg rfl rfl rfl rfl rfl rfl (r_neqB_same Tryz.underlying4 rfl rfl) ?_
 refine qD rfl (xD (v := (.bool false)) rfl rfl) ?_
 refine qe (zA ?_)
 refine qL rfl rfl ?_
 refine wp_skip ?_
 refine zA (zD (zG ?_))
 refine qD rfl (zC (v := (.int .i64 1)) rfl) ?_
 refine qe (zA (zD (zG ?_)))
 refine qD rfl (xM (cs := [u84]) ag32 sz32 rfl (fun j u hj => (Pins.of_le hX295.pins (Pin.le_trans (Pin.le_trans (Pin.le_trans (Pin.le_trans (Pin.le_trans (Pin.le_trans (Pin.le_trans (Pin.le_trans hx153.le hx180.le) hle244) hx251.le) hx259.le) hx265.le) hx271.le) hle288) hx294.le)) _ _ _ (hbp129 _ _ (by simpa using hj)))) ?_
 refine qD rfl (zB (v := (.int .i64 1)) rfl) ?_
 refine qI rfl (zP (vs := [(.agg [u84].toArray), (.int .i64 1)]) Tryz.func26 nm26 rfl rfl rfl ?_)
 refine Calls.mono (heldFormX_spec (kz := 1) (ns := makeF ns ms) hX295.pins (hr246.mono (Pin.le_trans (Pin.le_trans (Pin.le_trans (Pin.le_trans (Pin.le_trans hx251.le hx259.le) hx265.le) hx271.le) hle288) hx294.le)) (make_small _ _) (by omega)) ?_
 rintro _ w297 ⟨G296, rfl, hx298⟩
 refine ⟨_, rfl, ?_⟩
 have hX299 := hX295.tr hx298
 refine qD rfl (zC (v := (.int .i64 (1 + totN (makeF ns ms)))) rfl) ?_
 refine qe (zA (zD (zD (zG ?_))))
 refine qD rfl (zB (v := (.int .i64 (1 + totN (makeF ns ms)))) rfl) ?_
 refine qD rfl (yP rfl rfl) ?_
 refine qe (zA ?_)
 refine yC (p := (1 + totN (makeF ns ms) : Int) < 0) rfl rfl (fun h => absurd h h253) (fun _ => ?_)
 refine wp_skip ?_
 refine zA (zD (zD (zG ?_)))
 refine qD rfl (zB (v := (.int .i64 (1 + totN (makeF ns ms)))) rfl) ?_
 refine qD rfl (zB (v := (.int .i64 (1 + totN (makeF ns ms)))) rfl) ?_
 refine qD rfl (r_neq rfl rfl) ?_
 refine qe (zA ?_)
 refine yC (p := (1 + totN (makeF ns ms) : Int) ≠ (1 + totN (makeF ns ms))) rfl rfl (fun h => absurd h h254) (fun _ => ?_)
 refine wp_skip ?_
 refine zA (zD (zG ?_))
 refine qD rfl (zC (v := (.bool true)) rfl) ?_
 refine qe (zA ?_)
 refine wp_ret ?_
 refine zS ?_
 refine zQ (v := (.bool true)) rfl rfl rfl ?_
 exact ⟨_, rfl, hX299⟩

end LK1
end Go.Proofs.YtpknebplcmgnkaaGreatDoor
