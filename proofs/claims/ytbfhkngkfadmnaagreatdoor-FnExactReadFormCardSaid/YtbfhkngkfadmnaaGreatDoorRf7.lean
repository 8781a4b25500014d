/- Texts of this claim in one file: RF2, LRF. -/
import Derived.Test.YtbfhkngkfadmnaaGreatDoorRf6
import Derived.Test.YtbfhkngkfadmnaaGreatDoorChecked
set_option maxRecDepth 20000
set_option maxHeartbeats 2000000
namespace Go.Proofs.YtbfhkngkfadmnaaGreatDoor
namespace RF2
open Go.RowKit Go.GL Go.Proofs
open B1 C1 D1 E1 K1 RS1 RS2 RS3 T1











theorem pl24 : (Tryz.prog.underlying 24).bind (placesD Tryz.prog) = some [(0, 1)] := by kernel_rfl
theorem pl34 : (Tryz.prog.underlying 34).bind (placesD Tryz.prog) = some [(0, 1), (1, 1)] := by kernel_rfl
theorem pl36 : (Tryz.prog.underlying 36).bind (placesD Tryz.prog) = some [(0, 1), (1, 1), (2, 1), (3, 1)] := by kernel_rfl




theorem sReadForm_spec {w : World} {G : Pin} {s : ByteArray} (hP : Pins G w) :
  Calls Tryz.prog 4 [(.string s)].toArray w fun e w' => ∃ (u : Value) (G' : Pin), e = .returned (.tuple #[(.agg [u].toArray), .bool (rdB s)]) ∧ RSl eNode G' u (rdF s) ∧ Ext noS G w G' w' := by
 refine s_enter (n := 49) Tryz.func4 Tryz.ntmps4 rfl rfl ?_
 have hX0 : Ext noS G w G w := Ext.refl hP
 have hbe : PoolOk (bkq [] []) := bkq_ok Ar.empty
 refine s_seq (c_reg ?_)
 refine q1 rfl rfl rfl (o_alloc [(.slice none 0 0)] zr24 rfl hX0.pins (fun b1 w2 hk3 hb4 hp5 hl6 => ?_))
 have hX7 := hX0.step hp5 hl6
 have hlo8 : w.heap.size ≤ b1 := by have := hX0.size; omega
 refine qd rfl rfl rfl (r_assign (v := (.bool false)) rfl) (qe (s_then (s_seq (s_seq (c_reg ?_)))))
 refine qd rfl rfl rfl (r_move (v := (.string s)) rfl) (qd rfl rfl rfl (r_lenS Tryz.underlying9 rfl) (qd rfl rfl rfl (r_gtr rfl rfl) (qe (s_then ?_))))
 refine c_ifd (p := (4000 : Int) < (s.size : Int)) rfl rfl (fun h9 => ?_) (fun h9 => ?_)
 refine s_seq (c_reg ?_)
 refine qd rfl rfl rfl (r_build [(.slice none 0 0)] [(.slice none 0 0)] [] Tryz.underlying24 zr24 rfl pl24 rfl (fun _ h => by cases h) rfl) (q0 rfl rfl rfl (o_stp (cs' := [(.slice none 0 0)]) (us := [(.slice none 0 0)]) (v := (.agg [(.slice none 0 0)].toArray)) sz24 rfl rfl rfl (ones1 (by rfl)) hX7.pins hb4 (Nat.le_of_ble_eq_true rfl) rfl (fun w10 hb11 hp12 hg13 hz14 => ?_)))
 have hX15 := hX7.write hp12 hg13 ((lo_box hlo8))
 refine qd rfl rfl rfl (r_assign (v := (.bool false)) rfl) (qe (s_then ?_))
 refine wp_ret (s_ret (c_retct (cs := [(.slice none 0 0)]) (v := (.bool false)) rfl rfl rfl rfl rfl ag24 sz24 (fun j u hj => by rw [Nat.zero_add]; exact hb11.cell hj) ?_))
 have hrb : rdB s = false := rdB_long (by omega)
 rw [hrb, rdF_no hrb]
 exact ⟨_, _, rfl, (nil_reads _ _), hX15⟩
 refine wp_skip (s_then (s_seq (c_reg ?_)))
 refine qd rfl rfl rfl (r_move (v := (.string s)) rfl) (qd rfl rfl rfl (r_build [(.slice none 0 0), (.slice none 0 0)] [(.slice none 0 0), (.slice none 0 0)] [] Tryz.underlying34 zr34 rfl pl34 rfl (fun _ h => by cases h) rfl) (q1 rfl rfl rfl (o_box [(.slice none 0 0), (.slice none 0 0)] (v := (.agg [(.slice none 0 0), (.slice none 0 0)].toArray)) rfl rfl hX7.pins (fun b16 w17 hk18 hb19 hp20 hl21 => ?_))))
 have hX22 := hX7.step hp20 hl21
 have hb23 := hb4.below hl21
 have ha24 : Apart (some b16) (some b1) := new_ne_box (congrArg some hk18) hb4.lt
 have hlo25 : w.heap.size ≤ b16 := by have := hX7.size; omega
 refine qd rfl rfl rfl (r_build [(.string ByteArray.empty), (.int .i64 0), (.bool false), (.pointer none)] [(.string s), (.int .i64 0), (.bool false), (.pointer (some ⟨b16, 0, none⟩))] [(0, (.string s), [(.string s)]), (3, (.pointer (some ⟨b16, 0, none⟩)), [(.pointer (some ⟨b16, 0, none⟩))])] Tryz.underlying36 zr36 rfl pl36 rfl (List.forall_mem_cons.2 ⟨rfl, (List.forall_mem_cons.2 ⟨rfl, (fun _ h => by cases h)⟩)⟩) rfl) (q1 rfl rfl rfl (o_box [(.string s), (.int .i64 0), (.bool false), (.pointer (some ⟨b16, 0, none⟩))] (v := (.agg [(.string s), (.int .i64 0), (.bool false), (.pointer (some ⟨b16, 0, none⟩))].toArray)) rfl rfl hX22.pins (fun b26 w27 hk28 hb29 hp30 hl31 => ?_)))
 have hX32 := hX22.step hp30 hl31
 have hb33 := hb23.below hl31
 have hb34 := hb19.below hl31
 have ha35 : Apart (some b26) (some b1) := new_ne_box (congrArg some hk28) hb23.lt
 have ha36 : Apart (some b26) (some b16) := new_ne_box (congrArg some hk28) hb19.lt
 have hlo37 : w.heap.size ≤ b26 := by have := hX22.size; omega
 refine qd rfl rfl rfl (r_assign (v := (.pointer (some ⟨b26, 0, none⟩))) rfl) (qe (s_then (s_seq (c_reg ?_))))
 refine qd rfl rfl rfl (r_move (v := (.pointer (some ⟨b26, 0, none⟩))) rfl) (q1 rfl rfl rfl (o_call (vs := [(.pointer (some ⟨b26, 0, none⟩))]) Tryz.func9 nm9 rfl rfl rfl ?_))
 refine Calls.mono (rgame_spec (i := 0) hX32.pins hb29 ⟨hb34, (Own.nil _ _ _ _ _), (Own.nil _ _ _ _ _), apart_none.symm, apart_none.symm, apart_none⟩ ha36 apart_none.symm apart_none.symm hbe (by omega) (by first | omega | (simp; omega)) rfl) ?_
 rintro _ w47 ⟨z38, n40, bd41, u42, v43, ns44, bs45, G46, rfl, hr48, hbk49, ha50, ha51, hx52, hlu53, hlv54, hok55, hpx56, hy57⟩
 refine ⟨_, rfl, ?_⟩
 have hin59 : ∀ i, inT b26 b16 (.slice none 0 0) (.slice none 0 0) i → w.heap.size ≤ i ∨ noS i := inT_lo (lo_box hlo37) (lo_box hlo25) (lo_none _ _) (lo_none _ _)
 have hX60 := hX32.trans hx52 hin59
 have hn61 := notT (u := (.slice none 0 0)) (v := (.slice none 0 0)) ha35.symm ha24.symm apart_none.symm apart_none.symm
 have ho62 := hb33.extS hx52 (notTb hn61)
 have hb65 := hbk49.bx
 have ho66 := hbk49.ou
 have ho67 := hbk49.ov
 have ha68 := hbk49.abu
 have ha69 := hbk49.abv
 have ha70 := hbk49.auv
 have hlo71 := lo_callT hlu53 hin59 hX32.size
 have hlo72 := lo_callT hlv54 hin59 hX32.size
 have hpx73 := PX.trans (PX.refl (bkq [] [])) hpx56
 have hyl74 := hy57.le
 have hys75 : ns44.length + 0 ≤ ([]).length + n40 := hy57.sz
 refine qd rfl rfl rfl (r_assign (v := (.int .i64 z38)) rfl) (qe (s_then (s_seq (s_seq (c_reg ?_)))))
 refine qd rfl rfl rfl (r_move (v := (.pointer (some ⟨b26, 0, none⟩))) rfl) (qd rfl rfl rfl (r_nil rfl) (qd rfl rfl rfl (r_fldp (k := 2) rfl Tryz.underlying36 rfl nz4 rfl) (qd rfl rfl rfl (r_ldp1 (u := (.bool bd41)) ag4 rfl (hr48.cell (o := 2) rfl)) (qd rfl rfl rfl (r_move (v := (.bool bd41)) rfl) (qb (t := 22) rfl (fun h76 => ?_) (fun h76 => ?_))))))
 refine qs rfl rfl rfl rfl rfl rfl (qs rfl rfl rfl rfl rfl rfl (qs rfl rfl rfl rfl rfl rfl (qs rfl rfl rfl rfl rfl rfl (qs rfl rfl rfl rfl rfl rfl (qs rfl rfl rfl rfl rfl rfl (qs rfl rfl rfl rfl rfl rfl (qd rfl rfl rfl (r_pickT (v := (.bool true)) rfl rfl) (qe (s_then ?_)))))))))
 refine c_ifT rfl rfl (s_seq (c_reg ?_))
 refine qd rfl rfl rfl (r_build [(.slice none 0 0)] [(.slice none 0 0)] [] Tryz.underlying24 zr24 rfl pl24 rfl (fun _ h => by cases h) rfl) (q0 rfl rfl rfl (o_stp (cs' := [(.slice none 0 0)]) (us := [(.slice none 0 0)]) (v := (.agg [(.slice none 0 0)].toArray)) sz24 rfl rfl rfl (ones1 (by rfl)) hX60.pins ho62 (Nat.le_of_ble_eq_true rfl) rfl (fun w77 hb78 hp79 hg80 hz81 => ?_)))
 have hX82 := hX60.write hp79 hg80 ((lo_box hlo8))
 refine qd rfl rfl rfl (r_assign (v := (.bool false)) rfl) (qe (s_then ?_))
 refine wp_ret (s_ret (c_retct (cs := [(.slice none 0 0)]) (v := (.bool false)) rfl rfl rfl rfl rfl ag24 sz24 (fun j u hj => by rw [Nat.zero_add]; exact hb78.cell hj) ?_))
 have hrb : rdB s = false := rdB_none (hy57.no h76)
 rw [hrb, rdF_no hrb]
 exact ⟨_, _, rfl, (nil_reads _ _), hX82⟩
 refine qdg rfl rfl rfl rfl rfl rfl (r_move (v := (.pointer (some ⟨b26, 0, none⟩))) rfl) (qdg rfl rfl rfl rfl rfl rfl (r_nil rfl) (qdg rfl rfl rfl rfl rfl rfl (r_fldp (k := 1) rfl Tryz.underlying36 rfl nz3 rfl) (qdg rfl rfl rfl rfl rfl rfl (r_ldp1 (u := (.int .i64 (n40 : Int))) ag3 rfl (hr48.cell (o := 1) rfl)) (qdg rfl rfl rfl rfl rfl rfl (r_move (v := (.string s)) rfl) (qdg rfl rfl rfl rfl rfl rfl (r_lenS Tryz.underlying9 rfl) (qdg rfl rfl rfl rfl rfl rfl (r_neq rfl rfl) (qd rfl rfl rfl (r_pickF (v := (.bool (decide (((n40 : Int) : Int) ≠ (s.size : Int))))) rfl rfl) (qe (s_then ?_)))))))))
 refine c_ifd (p := ((n40 : Int) : Int) ≠ (s.size : Int)) rfl rfl (fun h87 => ?_) (fun h87 => ?_)
 refine s_seq (c_reg ?_)
 refine qd rfl rfl rfl (r_build [(.slice none 0 0)] [(.slice none 0 0)] [] Tryz.underlying24 zr24 rfl pl24 rfl (fun _ h => by cases h) rfl) (q0 rfl rfl rfl (o_stp (cs' := [(.slice none 0 0)]) (us := [(.slice none 0 0)]) (v := (.agg [(.slice none 0 0)].toArray)) sz24 rfl rfl rfl (ones1 (by rfl)) hX60.pins ho62 (Nat.le_of_ble_eq_true rfl) rfl (fun w88 hb89 hp90 hg91 hz92 => ?_)))
 have hX93 := hX60.write hp90 hg91 ((lo_box hlo8))
 refine qd rfl rfl rfl (r_assign (v := (.bool false)) rfl) (qe (s_then ?_))
 refine wp_ret (s_ret (c_retct (cs := [(.slice none 0 0)]) (v := (.bool false)) rfl rfl rfl rfl rfl ag24 sz24 (fun j u hj => by rw [Nat.zero_add]; exact hb89.cell hj) ?_))
 have hrb : rdB s = false := (by obtain ⟨g9, hrd, _⟩ := hy57.yes h76; exact rdB_some hrd (fun k => absurd k.1 (by omega)))
 rw [hrb, rdF_no hrb]
 exact ⟨_, _, rfl, (nil_reads _ _), hX93⟩
 refine wp_skip (s_then (s_seq (c_reg ?_)))
 obtain ⟨g9, hrd, hpd, hpl, hlt⟩ := hy57.yes h76
 have hn9 : n40 = s.size := by omega
 subst hpd
 rw [hn9] at hrd
 have hif := form_is hok55 hpl
 have hbf := book_form hok55 hpl
 refine qd rfl rfl rfl (r_move (v := (.pointer (some ⟨b26, 0, none⟩))) rfl) (qd rfl rfl rfl (r_nil rfl) (qd rfl rfl rfl (r_fldp (k := 3) rfl Tryz.underlying36 rfl nz31 rfl) (qd rfl rfl rfl (r_ldp1 (u := (.pointer (some ⟨b16, 0, none⟩))) ag31 rfl (hr48.cell (o := 3) rfl)) (qd rfl rfl rfl (r_move (v := (.int .i64 z38)) rfl) (q1 rfl rfl rfl (o_call (vs := [(.pointer (some ⟨b16, 0, none⟩)), (.int .i64 z38)]) Tryz.func10 nm10 rfl rfl rfl ?_))))))
 refine Calls.mono (form_spec hX60.pins ⟨hb65, ho66, ho67, ha68, ha69, ha70⟩ hok55.ar.ok hpl) ?_
 rintro _ w100 ⟨u98, G99, rfl, hr101, hx102⟩
 refine ⟨_, rfl, ?_⟩
 have hX103 := hX60.tr hx102
 have hb106 := ho62.ext hx102
 refine q1 rfl rfl rfl (o_alloc [(.slice none 0 0)] zr24 rfl hX103.pins (fun b109 w110 hk111 hb112 hp113 hl114 => ?_))
 have hX115 := hX103.step hp113 hl114
 have hb118 := hb106.below hl114
 have ha123 : Apart (some b109) (some b1) := new_ne_box (congrArg some hk111) hb106.lt
 have hlo126 : w.heap.size ≤ b109 := by have := hX103.size; omega
 refine q0 rfl rfl rfl (o_stp (cs' := [u98]) (us := [u98]) (v := (.agg [u98].toArray)) sz24 rfl rfl rfl (ones1 hr101.one) hX115.pins hb112 (Nat.le_of_ble_eq_true rfl) rfl (fun w127 hb128 hp129 hg130 hz131 => ?_))
 have hX132 := hX115.write hp129 hg130 ((lo_box hlo126))
 have hb135 := hb118.keptA hg130 ha123.symm
 obtain ⟨G138, hle139, hX140, hbp141, hf142⟩ := hb128.shut hX132 hlo126
 have hb145 := hb135.moreA hf142 ha123.symm
 refine qe (s_then (s_seq (s_seq (c_reg ?_))))
 refine qd rfl rfl rfl (r_ldpA (cs := [u98]) ag24 sz24 rfl (fun j u hj => hX140.pins _ _ _ (hbp141 _ _ (by simpa using hj)))) (q1 rfl rfl rfl (o_call (vs := [(.agg [u98].toArray)]) Tryz.func11 nm11 rfl rfl rfl ?_))
 refine Calls.mono (l3Fits_spec hX140.pins (hr101.mono hle139)) ?_
 rintro _ w149 ⟨G148, rfl, hx150⟩
 refine ⟨_, rfl, ?_⟩
 have hX151 := hX140.tr hx150
 have hb154 := hb145.ext hx150
 refine qd rfl rfl rfl (r_not rfl) (qd rfl rfl rfl (r_move (v := (.bool (!(decP (FitsP (formM ns44 bs45 (z38).toNat)))))) rfl) (qbn (t := 41) rfl (fun h157 => ?_) (fun h157 => ?_)))
 refine qdg rfl rfl rfl rfl rfl rfl (r_ldpA (cs := [u98]) ag24 sz24 rfl (fun j u hj => (Pins.of_le hX151.pins hx150.le) _ _ _ (hbp141 _ _ (by simpa using hj)))) (q1g rfl rfl rfl rfl rfl rfl (o_call (vs := [(.agg [u98].toArray)]) Tryz.func12 nm12 rfl rfl rfl ?_))
 refine Calls.mono (l3Text_spec hX151.pins (hr101.mono (Pin.le_trans hle139 hx150.le)) (good_of hbf hif h157)) ?_
 rintro _ w159 ⟨G158, rfl, hx160⟩
 refine ⟨_, rfl, ?_⟩
 have hX161 := hX151.tr hx160
 have hb164 := hb154.ext hx160
 refine qdg rfl rfl rfl rfl rfl rfl (r_move (v := (.string s)) rfl) (qdg rfl rfl rfl rfl rfl rfl (r_neqS rfl rfl) (qd rfl rfl rfl (r_pickF (v := (.bool (!((textOf (formM ns44 bs45 (z38).toNat)).toList == s.toList)))) rfl rfl) (qe (s_then ?_))))
 refine c_ifn rfl rfl (fun h167 => ?_) (fun h167 => ?_)
 refine wp_skip (s_then (s_seq (c_reg ?_)))
 refine qd rfl rfl rfl (r_ldpA (cs := [u98]) ag24 sz24 rfl (fun j u hj => (Pins.of_le hX161.pins (Pin.le_trans hx150.le hx160.le)) _ _ _ (hbp141 _ _ (by simpa using hj)))) (q0 rfl rfl rfl (o_stp (cs' := [u98]) (us := [u98]) (v := (.agg [u98].toArray)) sz24 rfl rfl rfl (ones1 hr101.one) hX161.pins hb164 (Nat.le_of_ble_eq_true rfl) rfl (fun w168 hb169 hp170 hg171 hz172 => ?_)))
 have hX173 := hX161.write hp170 hg171 ((lo_box hlo8))
 refine qd rfl rfl rfl (r_assign (v := (.bool true)) rfl) (qe (s_then ?_))
 refine wp_ret (s_ret (c_retct (cs := [u98]) (v := (.bool true)) rfl rfl rfl rfl rfl ag24 sz24 (fun j u hj => by rw [Nat.zero_add]; exact hb169.cell hj) ?_))
 obtain ⟨hr1, hr2⟩ := rd_done2 (by omega) hrd hif (fit_of hbf h157) (txt_of hbf h167)
 rw [hr1, hr2, ← hbf]
 exact ⟨_, _, rfl, (hr101.mono (Pin.le_trans (Pin.le_trans hle139 hx150.le) hx160.le)), hX173⟩
 refine s_seq (c_reg ?_)
 refine qd rfl rfl rfl (r_build [(.slice none 0 0)] [(.slice none 0 0)] [] Tryz.underlying24 zr24 rfl pl24 rfl (fun _ h => by cases h) rfl) (q0 rfl rfl rfl (o_stp (cs' := [(.slice none 0 0)]) (us := [(.slice none 0 0)]) (v := (.agg [(.slice none 0 0)].toArray)) sz24 rfl rfl rfl (ones1 (by rfl)) hX161.pins hb164 (Nat.le_of_ble_eq_true rfl) rfl (fun w178 hb179 hp180 hg181 hz182 => ?_)))
 have hX183 := hX161.write hp180 hg181 ((lo_box hlo8))
 refine qd rfl rfl rfl (r_assign (v := (.bool false)) rfl) (qe (s_then ?_))
 refine wp_ret (s_ret (c_retct (cs := [(.slice none 0 0)]) (v := (.bool false)) rfl rfl rfl rfl rfl ag24 sz24 (fun j u hj => by rw [Nat.zero_add]; exact hb179.cell hj) ?_))
 have hrb : rdB s = false := rd_text hrd (txt_of hbf h167)
 rw [hrb, rdF_no hrb]
 exact ⟨_, _, rfl, (nil_reads _ _), hX183⟩
 refine qs rfl rfl rfl rfl rfl rfl (qs rfl rfl rfl rfl rfl rfl (qs rfl rfl rfl rfl rfl rfl (qs rfl rfl rfl rfl rfl rfl (qd rfl rfl rfl (r_pickT (v := (.bool true)) rfl rfl) (qe (s_then ?_))))))
 refine c_ifT rfl rfl (s_seq (c_reg ?_))
 refine qd rfl rfl rfl (r_build [(.slice none 0 0)] [(.slice none 0 0)] [] Tryz.underlying24 zr24 rfl pl24 rfl (fun _ h => by cases h) rfl) (q0 rfl rfl rfl (o_stp (cs' := [(.slice none 0 0)]) (us := [(.slice none 0 0)]) (v := (.agg [(.slice none 0 0)].toArray)) sz24 rfl rfl rfl (ones1 (by rfl)) hX151.pins hb154 (Nat.le_of_ble_eq_true rfl) rfl (fun w188 hb189 hp190 hg191 hz192 => ?_)))
 have hX193 := hX151.write hp190 hg191 ((lo_box hlo8))
 refine qd rfl rfl rfl (r_assign (v := (.bool false)) rfl) (qe (s_then ?_))
 refine wp_ret (s_ret (c_retct (cs := [(.slice none 0 0)]) (v := (.bool false)) rfl rfl rfl rfl rfl ag24 sz24 (fun j u hj => by rw [Nat.zero_add]; exact hb189.cell hj) ?_))
 have hrb : rdB s = false := rd_unfit hrd (fit_of hbf h157)
 rw [hrb, rdF_no hrb]
 exact ⟨_, _, rfl, (nil_reads _ _), hX193⟩

end RF2
end Go.Proofs.YtbfhkngkfadmnaaGreatDoor

set_option maxRecDepth 20000
set_option maxHeartbeats 2000000
namespace Go.Proofs.YtbfhkngkfadmnaaGreatDoor
namespace LRF
open Go.RowKit Go.GL Go.Proofs
open B1 C1 D1 E1 G1 L1 RF1 RF2

















theorem markNodeX_spec {w : World} {G : Pin} {v : Value} {ps : List (Value × Value)} {ns : List Nd} {kz : Int} {lo hi : Nat} (hP : Pins G w) (ho : Own eVal2 58 G w 0 v ps) (hpl : ps.length = ns.length) (hav : ∀ u ∈ leafV ps, Apart u.ownBlock v.ownBlock) (hF : Lvs 3 G w lo hi (lvN ps ns)) (hsm : Small ns) (hk : 0 ≤ kz ∧ kz ≤ 1099511627776) :
  Calls Tryz.prog 18 [v, (.int .i64 kz)].toArray w fun e w' => e = .returned (.int .i64 (kz + totN ns)) ∧ Lvs 3 G w' lo hi (lvN ps (markN kz ns)) ∧ Ext (inV (leafV ps)) G w G w' := by
 refine s_enter (n := 27) Tryz.func18 Tryz.ntmps18 rfl rfl ?_
 have hX0 : Ext (inV (leafV ps)) G w G w := Ext.refl hP
 have hln := hsm.len
 refine s_seq (c_reg ?_)
 refine qd rfl rfl rfl (r_assign (v := (.int .i64 0)) rfl) (qe (s_then (s_seq (s_seq (c_reg ?_)))))
 refine qd rfl rfl rfl (r_assign (v := (.int .i64 0)) rfl) (qe (s_then ?_))
 refine s_blk (s_loop (fun (k : Nat) (en : Nat → Value) (W : World) => ∃ (env1 : Nat → Value) (j : Nat) (q : Int) (A : List Leaf), en = (upd (upd (upd (upd env1 0 v) 1 (.int .i64 q)) 4 (.int .i64 0)) 5 (.int .i64 (j : Int))) ∧ k = ps.length - j ∧ Ext (inV (leafV ps)) G w G W ∧ (j ≤ ps.length) ∧ (0 ≤ q ∧ q ≤ kz + 2097152 * (j : Int)) ∧ (kz + totN ns = q + totN (ns.drop j)) ∧ (lvN ps (markN kz ns) = A ++ lvN (ps.drop j) (markN q (ns.drop j))) ∧ (Lvs 3 G W lo hi (A ++ lvN (ps.drop j) (ns.drop j))) ∧ (Own eVal2 58 G W 0 v (ps))) _ ⟨_, 0, kz, [], (packS (x := 5) (packS (x := 4) (packS (x := 1) (pack1 (x := 0) rfl) rfl) rfl) rfl), rfl, hX0, Nat.zero_le _, (by omega), rfl, rfl, hF, ho⟩ ?_)
 rintro k1 _ w2 ⟨env1, j, q, A, rfl, hk3, hX4, hj, hq, hqt, hA, hF1, hw5⟩
 refine s_seq (s_seq (c_reg ?_))
 refine qd rfl rfl rfl (r_move (v := (.int .i64 (j : Int))) rfl) (qd rfl rfl rfl (r_move (v := v) rfl) (qd rfl rfl rfl (run_len Tryz.underlying22 (v := v) rfl hw5.read) (qd rfl rfl rfl (r_lss rfl rfl) (qe (s_then ?_)))))
 refine c_ifd (p := ((j : Int) : Int) < (ps.length : Int)) rfl rfl (fun h6 => ?_) (fun h6 => ?_)
 have hso := hsm.opts j (by omega)
 refine wp_skip (s_then (s_seq ?_))
 refine s_blk (s_seq (c_reg ?_))
 refine qd rfl rfl rfl (r_move (v := v) rfl) (qd rfl rfl rfl (r_move (v := (.int .i64 (j : Int))) rfl) (qd rfl rfl rfl (run_idx Tryz.underlying22 sz58 (v := v) rfl rfl hw5.read (by omega) (by omega)) (qd rfl rfl rfl (run_fld (off := 0) Tryz.underlying58 rfl rfl nz32 (z := (j : Int)) (k := 0) rfl hw5.read (by omega) (by omega)) ?_)))
 obtain ⟨cs7, hrep8, hagg9, hcell10⟩ := nm_el (j := j) default (hw5.at (z := (j : Int)) (by omega) (by omega)) rfl
 obtain ⟨rfl, hone13⟩ := hrep8
 obtain ⟨u11, hu12⟩ : ∃ u, u = (ps.getD j default).1 := ⟨_, rfl⟩
 refine qd rfl rfl rfl (hcell10 0 u11 (by rw [hu12]; rfl) ag32 rfl (Gadd.pins hX4.pins v)) (qd rfl rfl rfl (r_move (v := (.int .i64 q)) rfl) ?_)
 have hmem17 : u11 ∈ leafV ps := by rw [hu12]; exact (leafV_mem (by omega)).1
 have hL18 : Lvs 3 G w2 lo hi (A ++ (u11, (ns.getD j default).l) :: (((ps.getD j default).2, (ns.getD j default).r) :: lvN (ps.drop (j + 1)) (ns.drop (j + 1)))) := by rw [hu12, ← lvN_next (by omega) (by omega)]; exact hF1
 refine q1 rfl rfl rfl (o_call (vs := [u11, (.int .i64 q)]) Tryz.func36 nm36 rfl rfl rfl ?_)
 refine Calls.mono (markIntS_spec hX4.pins ((hL18.own _ (List.mem_append_right _ List.mem_cons_self)).weaken (Nat.zero_le _)) (by omega) (hso.1)) ?_
 rintro _ w14 ⟨rfl, ho15, hx16⟩
 refine ⟨_, rfl, ?_⟩
 have hg20 := mark_grown hx16
 have hX21 := hX4.write hx16.pins hg20 (fun k hk => Or.inr ⟨_, hmem17, hk⟩)
 have ho22 := hw5.keptA hg20 (hav _ hmem17).symm
 have hL19 := Lvs.step hL18 (ho15.up (fun k hk => ((hL18.own _ (List.mem_append_right _ List.mem_cons_self)).lt k hk).1)) hg20
 refine qd rfl rfl rfl (r_assign (v := (.int .i64 (q + ((ns.getD j default).l.length : Int)))) rfl) (qe (s_then (c_reg ?_)))
 refine qd rfl rfl rfl (r_move (v := v) rfl) (qd rfl rfl rfl (r_move (v := (.int .i64 (j : Int))) rfl) (qd rfl rfl rfl (run_idx Tryz.underlying22 sz58 (v := v) rfl rfl ho22.read (by omega) (by omega)) (qd rfl rfl rfl (run_fld (off := 1) Tryz.underlying58 rfl rfl nz32 (z := (j : Int)) (k := 0) rfl ho22.read (by omega) (by omega)) ?_)))
 obtain ⟨cs23, hrep24, hagg25, hcell26⟩ := nm_el (j := j) default (ho22.at (z := (j : Int)) (by omega) (by omega)) rfl
 obtain ⟨rfl, hone29⟩ := hrep24
 obtain ⟨u27, hu28⟩ : ∃ u, u = (ps.getD j default).2 := ⟨_, rfl⟩
 refine qd rfl rfl rfl (hcell26 1 u27 (by rw [hu28]; rfl) ag32 rfl (Gadd.pins hX21.pins v)) (qd rfl rfl rfl (r_move (v := (.int .i64 (q + ((ns.getD j default).l.length : Int)))) rfl) ?_)
 have hmem33 : u27 ∈ leafV ps := by rw [hu28]; exact (leafV_mem (by omega)).2
 have hL34 : Lvs 3 G w14 lo hi ((A ++ [(u11, upL (q) (ns.getD j default).l.length)]) ++ (u27, (ns.getD j default).r) :: lvN (ps.drop (j + 1)) (ns.drop (j + 1))) := by rw [hu28, List.append_assoc]; exact hL19
 refine q1 rfl rfl rfl (o_call (vs := [u27, (.int .i64 (q + ((ns.getD j default).l.length : Int)))]) Tryz.func36 nm36 rfl rfl rfl ?_)
 refine Calls.mono (markIntS_spec hX21.pins ((hL34.own _ (List.mem_append_right _ List.mem_cons_self)).weaken (Nat.zero_le _)) (by omega) (hso.2)) ?_
 rintro _ w30 ⟨rfl, ho31, hx32⟩
 refine ⟨_, rfl, ?_⟩
 have hg36 := mark_grown hx32
 have hX37 := hX21.write hx32.pins hg36 (fun k hk => Or.inr ⟨_, hmem33, hk⟩)
 have ho38 := ho22.keptA hg36 (hav _ hmem33).symm
 have hL35 := Lvs.step hL34 (ho31.up (fun k hk => ((hL34.own _ (List.mem_append_right _ List.mem_cons_self)).lt k hk).1)) hg36
 refine qd rfl rfl rfl (r_assign (v := (.int .i64 ((q + ((ns.getD j default).l.length : Int)) + ((ns.getD j default).r.length : Int)))) rfl) (qe (s_blkN (s_then (c_reg ?_))))
 refine qd rfl rfl rfl (r_move (v := (.int .i64 (j : Int))) rfl) (qd rfl rfl rfl (r_add rfl rfl (by omega)) (qd rfl rfl rfl (r_assign (v := (.int .i64 ((j : Int) + 1))) rfl) (qe (s_lopN (⟨_, ?_, _, rfl, _, j + 1, (q + ((ns.getD j default).l.length : Int)) + ((ns.getD j default).r.length : Int), A ++ [(u11, upL (q) (ns.getD j default).l.length)] ++ [(u27, upL (q + ((ns.getD j default).l.length : Int)) (ns.getD j default).r.length)], (packS (x := 5) (packS (x := 4) (packS (x := 1) (pack1 (x := 0) rfl) rfl) rfl) rfl), rfl, hX37, (by omega), (by omega), (hqt.trans (by rw [totN_next (by omega)]; omega)), (hA.trans (by rw [lvN_markN (by omega) (by omega), List.append_assoc, List.append_assoc, ← hu12, ← hu28]; rfl)), (by rw [List.append_assoc]; exact hL35), ho38⟩)))))
 omega
 refine wp_exit (s_thenE (s_lopE (s_blkE (s_then (s_seq (c_reg ?_))))))
 refine qd rfl rfl rfl (r_move (v := (.int .i64 q)) rfl) (qd rfl rfl rfl (r_assign (v := (.int .i64 q)) rfl) (qe (s_then ?_)))
 refine wp_ret (s_ret (c_ret1 (v := (.int .i64 q)) rfl rfl rfl ?_))
 rw [lvN_end (by omega), List.append_nil] at hA
 rw [lvN_end (by omega), List.append_nil] at hF1
 exact ⟨congrArg (fun z => Ending.returned (Value.int .i64 z)) (by rw [hqt, totN_end (by omega)]; omega), (by rw [hA]; exact hF1), hX4⟩

theorem markFormX_spec {w : World} {G : Pin} {v : Value} {ns : List Nd} {kz : Int} {lo hi : Nat} (hP : Pins G w) (hd : DForm 58 3 G w lo hi v ns) (hsz : hi ≤ w.heap.size) (hsm : Small ns) (hk : 0 ≤ kz ∧ kz ≤ 1099511627776) :
  Calls Tryz.prog 7 [(.agg [v].toArray), (.int .i64 kz)].toArray w fun e w' => e = .returned (.int .i64 (kz + totN ns)) ∧ DForm 58 3 G w' lo hi v (markN kz ns) ∧ Ext (inR lo hi) G w G w' := by
 refine s_enter (n := 10) Tryz.func7 Tryz.ntmps7 rfl rfl ?_
 have hX0 : Ext (inR lo hi) G w G w := Ext.refl hP
 refine s_seq (c_reg ?_)
 refine q1 rfl rfl rfl (o_box [v] (v := (.agg [v].toArray)) rfl rfl hX0.pins (fun b1 w2 hk3 hb4 hp5 hl6 => ?_))
 have hX7 := hX0.step hp5 hl6
 have hd8 := hd.below hl6
 have hs9 := Nat.le_trans hsz hl6.size
 have ha10 : hi ≤ b1 ∨ b1 < lo := Or.inl (by have e := Option.some.inj (congrArg some hk3); have := hsz; omega)
 have hlo11 : w.heap.size ≤ b1 := by have := hX0.size; omega
 obtain ⟨G12, hle13, hX14, hbp15, hf16⟩ := hb4.shut hX7 hlo11
 have hd17 := hd8.more hle13 hf16 ha10
 refine qd rfl rfl rfl (r_assign (v := (.int .i64 0)) rfl) (qe (s_then (s_seq (c_reg ?_))))
 refine qd rfl rfl rfl (r_fldp (k := 0) rfl Tryz.underlying24 rfl nz22 rfl) (qd rfl rfl rfl (r_ldp1 (u := v) ag22 rfl (hX14.pins _ _ _ (hbp15 0 _ rfl))) (qd rfl rfl rfl (r_move (v := (.int .i64 kz)) rfl) ?_))
 obtain ⟨ps18, ho19, hpl20, hav21, hL22, hin23, hst24⟩ := hd17.mark
 refine q1 rfl rfl rfl (o_call (vs := [v, (.int .i64 kz)]) Tryz.func18 nm18 rfl rfl rfl ?_)
 refine Calls.mono (markNodeX_spec hX14.pins ho19 hpl20 hav21 hL22 hsm hk) ?_
 rintro _ w25 ⟨rfl, hL26, hx27⟩
 refine ⟨_, rfl, ?_⟩
 have hX28 := hX14.trans hx27 (fun i hi => Or.inr (hin23 i hi))
 have hd29 := hst24 (markN_length _ _) hL26 hx27
 refine qd rfl rfl rfl (r_assign (v := (.int .i64 (kz + totN ns))) rfl) (qe (s_then (s_seq (c_reg ?_))))
 refine qd rfl rfl rfl (r_move (v := (.int .i64 (kz + totN ns))) rfl) (qd rfl rfl rfl (r_assign (v := (.int .i64 (kz + totN ns))) rfl) (qe (s_then ?_)))
 exact wp_ret (s_ret (c_ret1 (v := (.int .i64 (kz + totN ns))) rfl rfl rfl (⟨rfl, hd29.anti hle13, hX28.shrink⟩)))

theorem heldNodeS_spec {w : World} {G : Pin} {v : Value} {ns : List Nd} {kz : Int} (hP : Pins G w) (hv : RSl eNode G v (markN kz ns)) (hsm : Small ns) (hk : 0 ≤ kz ∧ kz ≤ 1099511627776) :
  Calls Tryz.prog 19 [v, (.int .i64 kz)].toArray w fun e w' => e = .returned (.int .i64 (kz + totN ns)) ∧ w' = w := by
 refine s_enter (n := 31) Tryz.func19 Tryz.ntmps19 rfl rfl ?_
 have hX0 : Ext noS G w G w := Ext.refl hP
 have hul := markN_length kz ns
 have hln := hsm.len
 refine s_seq (c_reg ?_)
 refine qd rfl rfl rfl (r_assign (v := (.int .i64 0)) rfl) (qe (s_then (s_seq (s_seq (c_reg ?_)))))
 refine qd rfl rfl rfl (r_assign (v := (.int .i64 0)) rfl) (qe (s_then ?_))
 refine s_blk (s_loop (fun (k : Nat) (en : Nat → Value) (W : World) => ∃ (env1 : Nat → Value) (j : Nat) (q : Int), en = (upd (upd (upd env1 0 v) 1 (.int .i64 q)) 5 (.int .i64 (j : Int))) ∧ k = ns.length - j ∧ Ext noS G w G W ∧ (j ≤ ns.length) ∧ (W = w) ∧ (0 ≤ q ∧ q ≤ kz + 2097152 * (j : Int)) ∧ (kz + totN ns = q + totN (ns.drop j)) ∧ (markN kz ns).drop j = markN q (ns.drop j)) _ ⟨_, 0, kz, (packS (x := 5) (packS (x := 1) (pack1 (x := 0) rfl) rfl) rfl), rfl, hX0, Nat.zero_le _, rfl, (by omega), rfl, rfl⟩ ?_)
 rintro k1 _ w2 ⟨env1, j, q, rfl, hk3, hX4, hj, hw, hq, hqt, hA⟩
 subst hw
 refine s_seq (s_seq (c_reg ?_))
 refine qd rfl rfl rfl (r_move (v := (.int .i64 (j : Int))) rfl) (qd rfl rfl rfl (r_move (v := v) rfl) (qd rfl rfl rfl (run_len Tryz.underlying22 (v := v) rfl hv) (qd rfl rfl rfl (r_lss rfl rfl) (qe (s_then ?_)))))
 refine c_ifd (p := ((j : Int) : Int) < ((markN kz ns).length : Int)) rfl rfl (fun h5 => ?_) (fun h5 => ?_)
 have hso := hsm.opts j (by omega)
 have hAj := markN_at (show j < ns.length by omega) hA
 refine wp_skip (s_then (s_seq ?_))
 refine s_blk (s_seq (c_reg ?_))
 refine qd rfl rfl rfl (r_move (v := v) rfl) (qd rfl rfl rfl (r_move (v := (.int .i64 (j : Int))) rfl) (qd rfl rfl rfl (run_idx Tryz.underlying22 sz58 (v := v) rfl rfl hv (by omega) (by omega)) (qd rfl rfl rfl (run_fld (off := 0) Tryz.underlying58 rfl rfl nz32 (z := (j : Int)) (k := 0) rfl hv (by omega) (by omega)) ?_)))
 obtain ⟨u6, hr7, hl8⟩ := nm_nl (hv.at (z := (j : Int)) (by omega) (by omega)) (j := j) rfl
 have hm9 := hr7.max
 refine qd rfl rfl rfl (hl8 ag32 rfl hX4.pins) (qd rfl rfl rfl (r_move (v := (.int .i64 q)) rfl) (q1 rfl rfl rfl (o_call (vs := [u6, (.int .i64 q)]) Tryz.func37 nm37 rfl rfl rfl ?_)))
 refine Calls.mono (heldIntS_spec (n := (ns.getD j default).l.length) hX4.pins (by rw [← hAj.1]; exact hr7) (by omega) (hso.1)) ?_
 rintro _ _ ⟨rfl, rfl⟩
 refine ⟨_, rfl, ?_⟩
 refine qd rfl rfl rfl (r_assign (v := (.int .i64 (q + (((ns.getD j default).l.length : Int) : Int)))) rfl) (qe (s_then (s_seq (s_seq (c_reg ?_)))))
 refine qd rfl rfl rfl (r_move (v := (.int .i64 (q + (((ns.getD j default).l.length : Int) : Int)))) rfl) (qd rfl rfl rfl (r_lss rfl rfl) (qe (s_then ?_)))
 refine c_ifd (p := (q + (((ns.getD j default).l.length : Int) : Int) : Int) < 0) rfl rfl (fun h10 => ?_) (fun h10 => ?_)
 refine s_seq (c_reg ?_)
 refine qd rfl rfl rfl (r_assign (v := (.int .i64 (-1))) rfl) (qe (s_then ?_))
 exact wp_ret (s_ret (c_ret1 (v := (.int .i64 (-1))) rfl rfl rfl (absurd h10 (by omega))))
 refine wp_skip (s_then (s_seq (c_reg ?_)))
 refine qd rfl rfl rfl (r_move (v := v) rfl) (qd rfl rfl rfl (r_move (v := (.int .i64 (j : Int))) rfl) (qd rfl rfl rfl (run_idx Tryz.underlying22 sz58 (v := v) rfl rfl hv (by omega) (by omega)) (qd rfl rfl rfl (run_fld (off := 1) Tryz.underlying58 rfl rfl nz32 (z := (j : Int)) (k := 0) rfl hv (by omega) (by omega)) ?_)))
 obtain ⟨u11, hr12, hl13⟩ := nm_nr (hv.at (z := (j : Int)) (by omega) (by omega)) (j := j) rfl
 have hm14 := hr12.max
 refine qd rfl rfl rfl (hl13 ag32 rfl hX4.pins) (qd rfl rfl rfl (r_move (v := (.int .i64 (q + (((ns.getD j default).l.length : Int) : Int)))) rfl) (q1 rfl rfl rfl (o_call (vs := [u11, (.int .i64 (q + (((ns.getD j default).l.length : Int) : Int)))]) Tryz.func37 nm37 rfl rfl rfl ?_)))
 refine Calls.mono (heldIntS_spec (n := (ns.getD j default).r.length) hX4.pins (by rw [← hAj.2.1]; exact hr12) (by omega) (hso.2)) ?_
 rintro _ _ ⟨rfl, rfl⟩
 refine ⟨_, rfl, ?_⟩
 refine qd rfl rfl rfl (r_assign (v := (.int .i64 ((q + (((ns.getD j default).l.length : Int) : Int)) + (((ns.getD j default).r.length : Int) : Int)))) rfl) (qe (s_then (s_seq (c_reg ?_))))
 refine qd rfl rfl rfl (r_move (v := (.int .i64 ((q + (((ns.getD j default).l.length : Int) : Int)) + (((ns.getD j default).r.length : Int) : Int)))) rfl) (qd rfl rfl rfl (r_lss rfl rfl) (qe (s_then ?_)))
 refine c_ifd (p := ((q + (((ns.getD j default).l.length : Int) : Int)) + (((ns.getD j default).r.length : Int) : Int) : Int) < 0) rfl rfl (fun h15 => ?_) (fun h15 => ?_)
 refine s_seq (c_reg ?_)
 refine qd rfl rfl rfl (r_assign (v := (.int .i64 (-1))) rfl) (qe (s_then ?_))
 exact wp_ret (s_ret (c_ret1 (v := (.int .i64 (-1))) rfl rfl rfl (absurd h15 (by omega))))
 refine wp_skip (s_blkN (s_then (c_reg ?_)))
 refine qd rfl rfl rfl (r_move (v := (.int .i64 (j : Int))) rfl) (qd rfl rfl rfl (r_add rfl rfl (by omega)) (qd rfl rfl rfl (r_assign (v := (.int .i64 ((j : Int) + 1))) rfl) (qe (s_lopN (⟨_, ?_, _, rfl, _, j + 1, (q + (((ns.getD j default).l.length : Int) : Int)) + (((ns.getD j default).r.length : Int) : Int), (packS (x := 5) (packS (x := 1) (pack1 (x := 0) rfl) rfl) rfl), rfl, hX4, (by omega), rfl, (by omega), (hqt.trans (by rw [totN_next (by omega)]; omega)), hAj.2.2⟩)))))
 omega
 refine wp_exit (s_thenE (s_lopE (s_blkE (s_then (s_seq (c_reg ?_))))))
 refine qd rfl rfl rfl (r_move (v := (.int .i64 q)) rfl) (qd rfl rfl rfl (r_assign (v := (.int .i64 q)) rfl) (qe (s_then ?_)))
 exact wp_ret (s_ret (c_ret1 (v := (.int .i64 q)) rfl rfl rfl (⟨congrArg (fun z => Ending.returned (Value.int .i64 z)) (by rw [hqt, totN_end (by omega)]; omega), rfl⟩)))

theorem heldFormX_spec {w : World} {G : Pin} {v : Value} {ns : List Nd} {kz : Int} (hP : Pins G w) (hv : RSl eNode G v (markN kz ns)) (hsm : Small ns) (hk : 0 ≤ kz ∧ kz ≤ 1099511627776) :
  Calls Tryz.prog 8 [(.agg [v].toArray), (.int .i64 kz)].toArray w fun e w' => ∃ G', e = .returned (.int .i64 (kz + totN ns)) ∧ Ext noS G w G' w' := by
 refine s_enter (n := 12) Tryz.func8 Tryz.ntmps8 rfl rfl ?_
 have hX0 : Ext noS G w G w := Ext.refl hP
 have htn := totN_nonneg ns
 refine s_seq (c_reg ?_)
 refine q1 rfl rfl rfl (o_box [v] (v := (.agg [v].toArray)) rfl rfl hX0.pins (fun b1 w2 hk3 hb4 hp5 hl6 => ?_))
 have hX7 := hX0.step hp5 hl6
 have hlo8 : w.heap.size ≤ b1 := by have := hX0.size; omega
 obtain ⟨G9, hle10, hX11, hbp12, hf13⟩ := hb4.shut hX7 hlo8
 refine qd rfl rfl rfl (r_assign (v := (.int .i64 0)) rfl) (qe (s_then (s_seq (c_reg ?_))))
 refine qd rfl rfl rfl (r_fldp (k := 0) rfl Tryz.underlying24 rfl nz22 rfl) (qd rfl rfl rfl (r_ldp1 (u := v) ag22 rfl (hX11.pins _ _ _ (hbp12 0 _ rfl))) (qd rfl rfl rfl (r_move (v := (.int .i64 kz)) rfl) (q1 rfl rfl rfl (o_call (vs := [v, (.int .i64 kz)]) Tryz.func19 nm19 rfl rfl rfl ?_))))
 refine Calls.mono (heldNodeS_spec hX11.pins (hv.mono hle10) hsm hk) ?_
 rintro _ _ ⟨rfl, rfl⟩
 refine ⟨_, rfl, ?_⟩
 refine qd rfl rfl rfl (r_assign (v := (.int .i64 (kz + totN ns))) rfl) (qe (s_then (s_seq (s_seq (c_reg ?_)))))
 refine qd rfl rfl rfl (r_move (v := (.int .i64 (kz + totN ns))) rfl) (qd rfl rfl rfl (r_lss rfl rfl) (qe (s_then ?_)))
 refine c_ifd (p := (kz + totN ns : Int) < 0) rfl rfl (fun h14 => ?_) (fun h14 => ?_)
 refine s_seq (c_reg ?_)
 refine qd rfl rfl rfl (r_assign (v := (.int .i64 (-1))) rfl) (qe (s_then ?_))
 exact wp_ret (s_ret (c_ret1 (v := (.int .i64 (-1))) rfl rfl rfl (absurd h14 (by omega))))
 refine wp_skip (s_then (s_seq (c_reg ?_)))
 refine qd rfl rfl rfl (r_move (v := (.int .i64 (kz + totN ns))) rfl) (qd rfl rfl rfl (r_assign (v := (.int .i64 (kz + totN ns))) rfl) (qe (s_then ?_)))
 exact wp_ret (s_ret (c_ret1 (v := (.int .i64 (kz + totN ns))) rfl rfl rfl (⟨_, rfl, hX11⟩)))

theorem eqForm_same {w : World} {G : Pin} {u v : Value} {xs : List Nd} (hP : Pins G w) (hu : RSl eNode G u xs) (hv : RSl eNode G v xs) :
  Calls Tryz.prog 6 [(.agg [u].toArray), (.agg [v].toArray)].toArray w fun e w' => ∃ G', e = .returned (.bool true) ∧ Ext noS G w G' w' := by
 refine (eqForm_spec hP hu hv).mono ?_
 rintro e w' ⟨G', rfl, hx⟩
 exact ⟨G', by simp, hx⟩

theorem iReadForm_spec {w : World} {G : Pin} {s : ByteArray} (hP : Pins G w) :
  Calls Tryz.prog 5 [.string s].toArray w fun e w' => ∃ (u : Value) (G' : Pin), e = .returned (.tuple #[.agg [u].toArray, .bool (rdB s)]) ∧ RSl eNode G' u (rdF s) ∧ Ext noS G w G' w' := by
 refine (iReadForm_dspec (s := s) hP).mono ?_
 rintro e w' ⟨u, G', rfl, hd, hx⟩
 obtain ⟨G'', h1, h2⟩ := hd.give hx
 exact ⟨u, G'', rfl, h1, h2⟩

theorem law {w : World} {G : Pin} {s : ByteArray} (hP : Pins G w) :
  Calls Tryz.prog 3 [(.string s)].toArray w fun e w' => ∃ G', e = .returned (.bool true) ∧ Ext noS G w G' w' := by
 refine s_enter (n := 66) Tryz.func3 Tryz.ntmps3 rfl rfl ?_
 have hX0 : Ext noS G w G w := Ext.refl hP
 have htf := totN_nonneg (rdF s)
 refine s_seq (c_reg ?_)
 refine qd rfl rfl rfl (r_assign (v := (.bool false)) rfl) (qe (s_then (s_seq (s_seq (c_reg ?_)))))
 refine qd rfl rfl rfl (r_move (v := (.string s)) rfl) (qd rfl rfl rfl (r_lenS Tryz.underlying9 rfl) (qd rfl rfl rfl (r_gtr rfl rfl) (qe (s_then ?_))))
 refine c_ifd (p := (1048576 : Int) < (s.size : Int)) rfl rfl (fun h1 => ?_) (fun h1 => ?_)
 refine s_seq (c_reg ?_)
 refine qd rfl rfl rfl (r_assign (v := (.bool true)) rfl) (qe (s_then ?_))
 exact wp_ret (s_ret (c_ret1 (v := (.bool true)) rfl rfl rfl (⟨_, rfl, hX0⟩)))
 refine wp_skip (s_then (s_seq (c_reg ?_)))
 refine qd rfl rfl rfl (r_move (v := (.string s)) rfl) (q1 rfl rfl rfl (o_call (vs := [(.string s)]) Tryz.func4 nm4 rfl rfl rfl ?_))
 refine Calls.mono (sReadForm_spec (s := s) hX0.pins) ?_
 rintro _ w4 ⟨u2, G3, rfl, hr5, hx6⟩
 refine ⟨_, rfl, ?_⟩
 have hX7 := hX0.tr hx6
 refine qd rfl rfl rfl (r_move (v := (.tuple #[(.agg [u2].toArray), (.bool (rdB s))])) rfl) (qd rfl rfl rfl (r_extract (v := (.agg [u2].toArray)) rfl rfl) (qd rfl rfl rfl (r_extract (v := (.bool (rdB s))) rfl rfl) (q1 rfl rfl rfl (o_alloc [(.slice none 0 0)] zr24 rfl hX7.pins (fun b8 w9 hk10 hb11 hp12 hl13 => ?_)))))
 have hX14 := hX7.step hp12 hl13
 have hlo15 : w.heap.size ≤ b8 := by have := hX7.size; omega
 refine q0 rfl rfl rfl (o_stp (cs' := [u2]) (us := [u2]) (v := (.agg [u2].toArray)) sz24 rfl rfl rfl (ones1 hr5.one) hX14.pins hb11 (Nat.le_of_ble_eq_true rfl) rfl (fun w16 hb17 hp18 hg19 hz20 => ?_))
 have hX21 := hX14.write hp18 hg19 ((lo_box hlo15))
 obtain ⟨G22, hle23, hX24, hbp25, hf26⟩ := hb17.shut hX21 hlo15
 refine qd rfl rfl rfl (r_assign (v := (.bool (rdB s))) rfl) (qe (s_then (s_seq (c_reg ?_))))
 refine qd rfl rfl rfl (r_move (v := (.string s)) rfl) (q1 rfl rfl rfl (o_call (vs := [(.string s)]) Tryz.func5 nm5 rfl rfl rfl ?_))
 refine Calls.mono (iReadForm_dspec (s := s) hX24.pins) ?_
 rintro _ w29 ⟨u27, G28, rfl, hd30, hx31⟩
 refine ⟨_, rfl, ?_⟩
 have hX32 := hX24.tr hx31
 have hone33 := hd30.one
 refine qd rfl rfl rfl (r_move (v := (.tuple #[(.agg [u27].toArray), (.bool (rdB s))])) rfl) (qd rfl rfl rfl (r_extract (v := (.agg [u27].toArray)) rfl rfl) (qd rfl rfl rfl (r_extract (v := (.bool (rdB s))) rfl rfl) (q1 rfl rfl rfl (o_alloc [(.slice none 0 0)] zr24 rfl hX32.pins (fun b34 w35 hk36 hb37 hp38 hl39 => ?_)))))
 have hX40 := hX32.step hp38 hl39
 have hd41 := hd30.below hl39
 have hs42 := Nat.le_trans (Nat.le_refl w29.heap.size) hl39.size
 have ha43 : w29.heap.size ≤ b34 ∨ b34 < w16.heap.size := Or.inl (by have e := Option.some.inj (congrArg some hk36); have := (Nat.le_refl w29.heap.size); omega)
 have hlo44 : w.heap.size ≤ b34 := by have := hX32.size; omega
 refine q0 rfl rfl rfl (o_stp (cs' := [u27]) (us := [u27]) (v := (.agg [u27].toArray)) sz24 rfl rfl rfl (ones1 hone33) hX40.pins hb37 (Nat.le_of_ble_eq_true rfl) rfl (fun w45 hb46 hp47 hg48 hz49 => ?_))
 have hX50 := hX40.write hp47 hg48 ((lo_box hlo44))
 have hd51 := hd41.kept hg48 ha43
 have hs52 := Nat.le_trans hs42 hg48.size
 obtain ⟨G53, hle54, hX55, hbp56, hf57⟩ := hb46.shut hX50 hlo44
 have hd58 := hd51.more hle54 hf57 ha43
 refine qd rfl rfl rfl (r_assign (v := (.bool (rdB s))) rfl) (qe (s_then (s_seq (s_seq (c_reg ?_)))))
 refine qd rfl rfl rfl (r_ldpA (cs := [u27]) ag24 sz24 rfl (fun j u hj => hX55.pins _ _ _ (hbp56 _ _ (by simpa using hj)))) (qd rfl rfl rfl (r_ldpA (cs := [u2]) ag24 sz24 rfl (fun j u hj => (Pins.of_le hX55.pins (Pin.le_trans hx31.le hle54)) _ _ _ (hbp25 _ _ (by simpa using hj)))) ?_)
 obtain ⟨G62, hle63, hp64, hr65, _⟩ := hd58.read hX55.pins
 refine q1 rfl rfl rfl (o_call (vs := [(.agg [u27].toArray), (.agg [u2].toArray)]) Tryz.func6 nm6 rfl rfl rfl ?_)
 refine Calls.mono (eqForm_same hp64 hr65 ((hr5.mono (Pin.le_trans (Pin.le_trans hle23 hx31.le) hle54)).mono hle63)) ?_
 rintro _ w60 ⟨G59, rfl, hx61⟩
 refine ⟨_, rfl, ?_⟩
 have hx66 := deep_back hX55.pins hx61
 have hX67 := hX55.step hx66.pins hx66.below
 have hd68 := hd58.below hx66.below
 have hs69 := Nat.le_trans hs52 hx66.below.size
 refine qd rfl rfl rfl (r_not rfl) (qd rfl rfl rfl (r_move (v := (.bool false)) rfl) (qdg rfl rfl rfl rfl rfl rfl (r_move (v := (.bool (rdB s))) rfl) (qdg rfl rfl rfl rfl rfl rfl (r_move (v := (.bool (rdB s))) rfl) (qdg rfl rfl rfl rfl rfl rfl (r_neqB_same Tryz.underlying4 rfl rfl) (qd rfl rfl rfl (r_pickF (v := (.bool false)) rfl rfl) (qe (s_then ?_)))))))
 refine c_ifF rfl rfl (wp_skip (s_then (s_seq (c_reg ?_))))
 refine qd rfl rfl rfl (r_assign (v := (.int .i64 1)) rfl) (qe (s_then (s_seq (c_reg ?_))))
 refine qd rfl rfl rfl (r_ldpA (cs := [u27]) ag24 sz24 rfl (fun j u hj => hX67.pins _ _ _ (hbp56 _ _ (by simpa using hj)))) (qd rfl rfl rfl (r_move (v := (.int .i64 1)) rfl) (q1 rfl rfl rfl (o_call (vs := [(.agg [u27].toArray), (.int .i64 1)]) Tryz.func7 nm7 rfl rfl rfl ?_)))
 refine Calls.mono (markFormX_spec (kz := 1) hX67.pins hd68 hs69 (rd_small _) (by omega)) ?_
 rintro _ w70 ⟨rfl, hd71, hx72⟩
 refine ⟨_, rfl, ?_⟩
 have hX73 := hX67.trans hx72 (fun i hi => Or.inl (Nat.le_trans hX24.size hi.1))
 obtain ⟨G74, hle75, hp76, hr77, hf78⟩ := hd71.read hX73.pins
 have hX79 := hX73.promise hle75 hp76 hf78 hX24.size
 refine qd rfl rfl rfl (r_assign (v := (.int .i64 (1 + totN (rdF s)))) rfl) (qe (s_then (s_seq (c_reg ?_))))
 refine qd rfl rfl rfl (r_assign (v := (.int .i64 1)) rfl) (qe (s_then (s_seq (c_reg ?_))))
 refine qd rfl rfl rfl (r_ldpA (cs := [u27]) ag24 sz24 rfl (fun j u hj => (Pins.of_le hX79.pins hle75) _ _ _ (hbp56 _ _ (by simpa using hj)))) (qd rfl rfl rfl (r_move (v := (.int .i64 1)) rfl) (q1 rfl rfl rfl (o_call (vs := [(.agg [u27].toArray), (.int .i64 1)]) Tryz.func8 nm8 rfl rfl rfl ?_)))
 refine Calls.mono (heldFormX_spec (kz := 1) (ns := rdF s) hX79.pins hr77 (rd_small _) (by omega)) ?_
 rintro _ w81 ⟨G80, rfl, hx82⟩
 refine ⟨_, rfl, ?_⟩
 have hX83 := hX79.tr hx82
 refine qd rfl rfl rfl (r_assign (v := (.int .i64 (1 + totN (rdF s)))) rfl) (qe (s_then (s_seq (s_seq (c_reg ?_)))))
 refine qd rfl rfl rfl (r_move (v := (.int .i64 (1 + totN (rdF s)))) rfl) (qd rfl rfl rfl (r_lss rfl rfl) (qe (s_then ?_)))
 refine c_ifd (p := (1 + totN (rdF s) : Int) < 0) rfl rfl (fun h84 => ?_) (fun h84 => ?_)
 refine s_seq (c_reg ?_)
 refine qd rfl rfl rfl (r_assign (v := (.bool false)) rfl) (qe (s_then ?_))
 refine wp_ret (s_ret (c_ret1 (v := (.bool false)) rfl rfl rfl ?_))
 exfalso; omega
 refine wp_skip (s_then (s_seq (s_seq (c_reg ?_))))
 refine qd rfl rfl rfl (r_move (v := (.int .i64 (1 + totN (rdF s)))) rfl) (qd rfl rfl rfl (r_move (v := (.int .i64 (1 + totN (rdF s)))) rfl) (qd rfl rfl rfl (r_neq rfl rfl) (qe (s_then ?_))))
 refine c_ifd (p := (1 + totN (rdF s) : Int) ≠ (1 + totN (rdF s))) rfl rfl (fun h85 => ?_) (fun h85 => ?_)
 refine s_seq (c_reg ?_)
 refine qd rfl rfl rfl (r_assign (v := (.bool false)) rfl) (qe (s_then ?_))
 refine wp_ret (s_ret (c_ret1 (v := (.bool false)) rfl rfl rfl ?_))
 exfalso; omega
 refine wp_skip (s_then (s_seq (c_reg ?_)))
 refine qd rfl rfl rfl (r_move (v := (.string s)) rfl) (q1 rfl rfl rfl (o_call (vs := [(.string s)]) Tryz.func5 nm5 rfl rfl rfl ?_))
 refine Calls.mono (iReadForm_spec (s := s) hX83.pins) ?_
 rintro _ w88 ⟨u86, G87, rfl, hd89, hx90⟩
 refine ⟨_, rfl, ?_⟩
 have hX91 := hX83.tr hx90
 refine qd rfl rfl rfl (r_move (v := (.tuple #[(.agg [u86].toArray), (.bool (rdB s))])) rfl) (qd rfl rfl rfl (r_extract (v := (.agg [u86].toArray)) rfl rfl) (qd rfl rfl rfl (r_extract (v := (.bool (rdB s))) rfl rfl) (q1 rfl rfl rfl (o_alloc [(.slice none 0 0)] zr24 rfl hX91.pins (fun b92 w93 hk94 hb95 hp96 hl97 => ?_)))))
 have hX98 := hX91.step hp96 hl97
 have hlo99 : w.heap.size ≤ b92 := by have := hX91.size; omega
 refine q0 rfl rfl rfl (o_stp (cs' := [u86]) (us := [u86]) (v := (.agg [u86].toArray)) sz24 rfl rfl rfl (ones1 hd89.one) hX98.pins hb95 (Nat.le_of_ble_eq_true rfl) rfl (fun w100 hb101 hp102 hg103 hz104 => ?_))
 have hX105 := hX98.write hp102 hg103 ((lo_box hlo99))
 obtain ⟨G106, hle107, hX108, hbp109, hf110⟩ := hb101.shut hX105 hlo99
 refine qd rfl rfl rfl (r_assign (v := (.bool (rdB s))) rfl) (qe (s_then (s_seq (s_seq (c_reg ?_)))))
 refine qd rfl rfl rfl (r_ldpA (cs := [u86]) ag24 sz24 rfl (fun j u hj => hX108.pins _ _ _ (hbp109 _ _ (by simpa using hj)))) (qd rfl rfl rfl (r_ldpA (cs := [u2]) ag24 sz24 rfl (fun j u hj => (Pins.of_le hX108.pins (Pin.le_trans (Pin.le_trans (Pin.le_trans (Pin.le_trans (Pin.le_trans hx31.le hle54) hle75) hx82.le) hx90.le) hle107)) _ _ _ (hbp25 _ _ (by simpa using hj)))) (q1 rfl rfl rfl (o_call (vs := [(.agg [u86].toArray), (.agg [u2].toArray)]) Tryz.func6 nm6 rfl rfl rfl ?_)))
 refine Calls.mono (eqForm_same hX108.pins (hd89.mono hle107) (hr5.mono (Pin.le_trans (Pin.le_trans (Pin.le_trans (Pin.le_trans (Pin.le_trans (Pin.le_trans hle23 hx31.le) hle54) hle75) hx82.le) hx90.le) hle107))) ?_
 rintro _ w112 ⟨G111, rfl, hx113⟩
 refine ⟨_, rfl, ?_⟩
 have hX114 := hX108.tr hx113
 refine qd rfl rfl rfl (r_not rfl) (qd rfl rfl rfl (r_move (v := (.bool false)) rfl) (qdg rfl rfl rfl rfl rfl rfl (r_move (v := (.bool (rdB s))) rfl) (qdg rfl rfl rfl rfl rfl rfl (r_move (v := (.bool (rdB s))) rfl) (qdg rfl rfl rfl rfl rfl rfl (r_neqB_same Tryz.underlying4 rfl rfl) (qd rfl rfl rfl (r_pickF (v := (.bool false)) rfl rfl) (qe (s_then ?_)))))))
 refine c_ifF rfl rfl (wp_skip (s_then (s_seq (c_reg ?_))))
 refine qd rfl rfl rfl (r_assign (v := (.int .i64 1)) rfl) (qe (s_then (s_seq (c_reg ?_))))
 refine qd rfl rfl rfl (r_ldpA (cs := [u27]) ag24 sz24 rfl (fun j u hj => (Pins.of_le hX114.pins (Pin.le_trans (Pin.le_trans (Pin.le_trans (Pin.le_trans hle75 hx82.le) hx90.le) hle107) hx113.le)) _ _ _ (hbp56 _ _ (by simpa using hj)))) (qd rfl rfl rfl (r_move (v := (.int .i64 1)) rfl) (q1 rfl rfl rfl (o_call (vs := [(.agg [u27].toArray), (.int .i64 1)]) Tryz.func8 nm8 rfl rfl rfl ?_)))
 refine Calls.mono (heldFormX_spec (kz := 1) (ns := rdF s) hX114.pins (hr77.mono (Pin.le_trans (Pin.le_trans (Pin.le_trans hx82.le hx90.le) hle107) hx113.le)) (rd_small _) (by omega)) ?_
 rintro _ w116 ⟨G115, rfl, hx117⟩
 refine ⟨_, rfl, ?_⟩
 have hX118 := hX114.tr hx117
 refine qd rfl rfl rfl (r_assign (v := (.int .i64 (1 + totN (rdF s)))) rfl) (qe (s_then (s_seq (s_seq (c_reg ?_)))))
 refine qd rfl rfl rfl (r_move (v := (.int .i64 (1 + totN (rdF s)))) rfl) (qd rfl rfl rfl (r_lss rfl rfl) (qe (s_then ?_)))
 refine c_ifd (p := (1 + totN (rdF s) : Int) < 0) rfl rfl (fun h => absurd h h84) (fun _ => ?_)
 refine wp_skip (s_then (s_seq (s_seq (c_reg ?_))))
 refine qd rfl rfl rfl (r_move (v := (.int .i64 (1 + totN (rdF s)))) rfl) (qd rfl rfl rfl (r_move (v := (.int .i64 (1 + totN (rdF s)))) rfl) (qd rfl rfl rfl (r_neq rfl rfl) (qe (s_then ?_))))
 refine c_ifd (p := (1 + totN (rdF s) : Int) ≠ (1 + totN (rdF s))) rfl rfl (fun h => absurd h h85) (fun _ => ?_)
 refine wp_skip (s_then (s_seq (c_reg ?_)))
 refine qd rfl rfl rfl (r_assign (v := (.bool true)) rfl) (qe (s_then ?_))
 exact wp_ret (s_ret (c_ret1 (v := (.bool true)) rfl rfl rfl (⟨_, rfl, hX118⟩)))

end LRF
end Go.Proofs.YtbfhkngkfadmnaaGreatDoor
