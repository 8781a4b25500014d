/- Texts of this claim in one file: DV1, DV2, N1, N2, PQ1, LI1, Play, PQ2, GW1, SO7, LPA. -/
import Derived.Test.YtkfgdhanaijddaaGreatDoorPb6
import Derived.Test.YtkfgdhanaijddaaGreatDoorChecked
set_option maxRecDepth 20000
set_option maxHeartbeats 2000000
namespace Go.Proofs.YtkfgdhanaijddaaGreatDoor
namespace DV1
open Go.RowKit Go.GL Go.Proofs
open Go.Proofs.YtkfgdhanaijddaaGreatDoor.B1
open Go.Proofs.YtkfgdhanaijddaaGreatDoor.C1
open Go.Proofs.YtkfgdhanaijddaaGreatDoor.D1
open Go.Proofs.YtkfgdhanaijddaaGreatDoor.E1
open Go.Proofs.YtkfgdhanaijddaaGreatDoor.MK1
open Go.Proofs.YtkfgdhanaijddaaGreatDoor.DR1
open Go.Proofs.YtkfgdhanaijddaaGreatDoor.DR2












theorem pl68 : (Tryz.prog.underlying 68).bind (placesD Tryz.prog) = some [(0, 1), (1, 1)] := by kernel_rfl








theorem l1Own_spec {w : World} {G : Pin} {v : Value} {xs : List Int} (hP : Pins G w) (hv : RSl eInt G v xs) (hs : xs.length ≤ 1048576) :
  Calls Tryz.prog 99 [v].toArray w fun e w' => ∃ (u : Value) (G' : Pin), e = .returned u ∧ Own eInt 3 G' w' w.heap.size u xs ∧ Ext noS G w G' w' := by
 refine s_enter (n := 6) Tryz.func99 Tryz.ntmps99 rfl rfl ?_
 have hX0 : Ext noS G w G w := Ext.refl hP
 refine s_seq (c_reg ?_)
 refine qd rfl rfl rfl (r_assign (v := (.slice none 0 0)) rfl) (qe (s_then (s_seq (c_reg ?_))))
 refine q1 rfl rfl rfl (o_build0 (E := eInt) (e := 3) Tryz.underlying57 sz3 hX0.pins (fun u1 w2 ho3 hp4 hl5 hk6 => ?_))
 have hX7 := hX0.step hp4 hl5
 have ho8 : Own eInt 3 G w2 w.heap.size u1 ([]) := ho3.weaken hX0.size
 refine qd rfl rfl rfl (r_move (v := v) rfl) (q1 rfl rfl rfl (o_append (E := eInt) (v := u1) (u := v) 8 Tryz.underlying57 ap3 (by decide) rfl rfl hX7.pins ho8 ((hv.mono (Pin.le_refl _)).src hX7.pins (by decide)) (by first | omega | (rw [List.nil_append]; omega) | (rw [List.length_nil]; omega) | (rw [List.length_append]; omega) | (simp; done) | (simp; omega) | (simp only [List.length_cons, List.length_nil]; omega) | (simp only [List.length_append, List.length_cons, List.length_nil]; omega)) (by first | omega | (rw [List.nil_append]; omega) | (rw [List.length_nil]; omega) | (rw [List.length_append]; omega) | (simp; done) | (simp; omega) | (simp only [List.length_cons, List.length_nil]; omega) | (simp only [List.length_append, List.length_cons, List.length_nil]; omega)) (hX7.size) (fun u9 w10 ho11 hp12 hg13 hw14 => ?_)))
 have hX15 := hX7.write hp12 hg13 ((lo_own ho8))
 have hm16 : (([]) ++ xs).length = ([]).length + xs.length := List.length_append
 refine qd rfl rfl rfl (r_assign (v := u9) rfl) (qe (s_then ?_))
 exact wp_ret (s_ret (c_ret1 (v := u9) rfl rfl rfl (⟨_, _, rfl, (by simpa using ho11), hX15⟩)))

theorem anyForm_spec {w : World} {G : Pin} {c : Nat} {cv : Value} {code : List UInt8} {a s : Int} {n : Int} (hP : Pins G w) (hB : Bx G w c [cv, .int .i64 a, .int .u64 s]) (hc : RSl eByte G cv code) (ha : 0 ≤ a ∧ a + (12 * n + 10) ≤ 1000000) (hs : 0 ≤ s ∧ s < 18446744073709551616) (hn : 0 ≤ n ∧ n ≤ 6) :
  Calls Tryz.prog 44 [(.pointer (some ⟨c, 0, none⟩)), (.int .i64 n)].toArray w fun e w' => ∃ (u : Value) (ns : List Nd) (a' s' : Int) (G' : Pin), e = .returned (.agg [u].toArray) ∧ RSl eNode G' u ns ∧ Bx G' w' c [cv, .int .i64 a', .int .u64 s'] ∧ (a ≤ a' ∧ a' ≤ a + (12 * n + 10)) ∧ (0 ≤ s' ∧ s' < 18446744073709551616) ∧ Ext (inO (some c)) G w G' w' := by
 refine s_enter (n := 77) Tryz.func44 Tryz.ntmps44 rfl rfl ?_
 have hX0 : Ext (inO (some c)) G w G w := Ext.refl hP
 have hm := hc.max
 refine s_seq (c_reg ?_)
 refine q1 rfl rfl rfl (o_alloc [(.slice none 0 0)] zr28 rfl hX0.pins (fun b1 w2 hk3 hb4 hp5 hl6 => ?_))
 have hX7 := hX0.step hp5 hl6
 have hb8 := hB.below hl6
 have ha9 : Apart (some b1) (some c) := new_ne_box (congrArg some hk3) hB.lt
 have hlo10 : w.heap.size ≤ b1 := by have := hX0.size; omega
 refine qe (s_then (s_seq (c_reg ?_)))
 refine qd rfl rfl rfl (r_move (v := (.pointer (some ⟨c, 0, none⟩))) rfl) (qd rfl rfl rfl (r_move (v := (.int .i64 n)) rfl) (q1 rfl rfl rfl (o_call (vs := [(.pointer (some ⟨c, 0, none⟩)), (.int .i64 n)]) Tryz.func42 nm42 rfl rfl rfl ?_)))
 refine Calls.mono (dform_spec (n := n) hX7.pins hb8 hc (by omega) (by omega) (by omega)) ?_
 rintro _ w16 ⟨u11, g12, a13, s14, G15, rfl, ho17, hif18, hfl19, hb20, hda21, hds22, hx23⟩
 refine ⟨_, rfl, ?_⟩
 have hX24 := hX7.trans hx23 (fun i hi => lo_self i hi)
 have hb25 := hb4.extS hx23 (notOb ha9)
 have ha26 : Apart u11.ownBlock (some c) := made_ne_box ho17.lt hb8.lt
 have ha27 : Apart u11.ownBlock (some b1) := made_ne_box ho17.lt hb4.lt
 have ho28 : Own eNode 68 G15 w16 w.heap.size u11 (formG g12) := ho17.weaken hX7.size
 have hfo29 := hif18.1.lo
 refine q1 rfl rfl rfl (o_alloc [(.slice none 0 0)] zr28 rfl hX24.pins (fun b30 w31 hk32 hb33 hp34 hl35 => ?_))
 have hX36 := hX24.step hp34 hl35
 have ho37 := ho28.below hl35
 have hb38 := hb20.below hl35
 have hb39 := hb25.below hl35
 have ha40 : Apart (some b30) u11.ownBlock := new_ne_own (congrArg some hk32) ho28.lt
 have ha41 : Apart (some b30) (some c) := new_ne_box (congrArg some hk32) hb20.lt
 have ha42 : Apart (some b30) (some b1) := new_ne_box (congrArg some hk32) hb25.lt
 have hlo43 : w.heap.size ≤ b30 := by have := hX24.size; omega
 refine q0 rfl rfl rfl (o_stp (cs' := [u11]) (us := [u11]) (v := (.agg [u11].toArray)) sz28 rfl rfl rfl (ones1 ho37.one) hX36.pins hb33 (Nat.le_of_ble_eq_true rfl) rfl (fun w44 hb45 hp46 hg47 hz48 => ?_))
 have hX49 := hX36.write hp46 hg47 ((lo_box hlo43))
 have ho50 := ho37.keptA hg47 ha40.symm
 have hb51 := hb38.keptA hg47 ha41.symm
 have hb52 := hb39.keptA hg47 ha42.symm
 refine qe (s_then (s_seq (c_reg ?_)))
 refine qd rfl rfl rfl (r_move (v := (.pointer (some ⟨c, 0, none⟩))) rfl) (qd rfl rfl rfl (r_fldp (k := 0) rfl Tryz.underlying28 rfl nz26 rfl) (qd rfl rfl rfl (r_ldp1 (u := u11) ag26 rfl (hb45.cell (o := 0) rfl)) (qd rfl rfl rfl (run_len Tryz.underlying26 (v := u11) rfl ho50.read) (q1 rfl rfl rfl (o_call (vs := [(.pointer (some ⟨c, 0, none⟩)), (.int .i64 ((formG g12).length : Int))]) Tryz.func41 nm41 rfl rfl rfl ?_)))))
 refine Calls.mono (pick_spec hX49.pins hb51 (hc.mono hx23.le) (by omega) (by omega) (n := ((formG g12).length : Int)) (by omega)) ?_
 rintro _ w57 ⟨z53, a55, s56, rfl, hz54, hb58, hda59, hds60, hx61⟩
 refine ⟨_, rfl, ?_⟩
 have hX62 := hX49.trans hx61 (fun i hi => lo_self i hi)
 have ho63 := ho50.extS hx61 (notO ha26)
 have hb64 := hb52.extS hx61 (notOb ha9)
 have hb65 := hb45.extS hx61 (notOb ha41)
 refine qd rfl rfl rfl (r_assign (v := (.int .i64 z53)) rfl) (qe (s_then (s_seq (s_seq (c_reg ?_)))))
 refine qd rfl rfl rfl (r_move (v := (.pointer (some ⟨c, 0, none⟩))) rfl) (q1 rfl rfl rfl (o_call (vs := [(.pointer (some ⟨c, 0, none⟩)), (.int .i64 24)]) Tryz.func41 nm41 rfl rfl rfl ?_))
 refine Calls.mono (pick_spec hX62.pins hb58 (hc.mono hx23.le) (by omega) (by omega) (n := 24) (by omega)) ?_
 rintro _ w70 ⟨z66, a68, s69, rfl, hz67, hb71, hda72, hds73, hx74⟩
 refine ⟨_, rfl, ?_⟩
 have hX75 := hX62.trans hx74 (fun i hi => lo_self i hi)
 have ho76 := ho63.extS hx74 (notO ha26)
 have hb77 := hb64.extS hx74 (notOb ha9)
 have hb78 := hb65.extS hx74 (notOb ha41)
 refine qe (s_then ?_)
 refine s_blk (s_seq (c_reg ?_))
 refine qd rfl rfl rfl (r_eql rfl rfl) (qd rfl rfl rfl (r_assign (v := (.bool (decide ((z66 : Int) = 0)))) rfl) (qe (s_then ?_)))
 refine c_ifd (p := (z66 : Int) = 0) rfl rfl (fun h79 => ?_) (fun h79 => ?_)
 have hlk := (isform_ok hif18 (by omega)).lens (z53).toNat (by omega)
 have hq80 := Gadd.pins hX75.pins u11
 have hr81 := ho76.read
 refine c_draw (S := fun wz => BxR wz b30 [u11] ∧ Pins (Gadd G15 w70 u11) wz) (last := 18) (by kernel_rfl) rfl ?_
 have hl82 : Below w70.heap.size w70 w70.drew := (Below.refl _ _).drew
 have hp83 := hX75.pins.below hl82
 have hX84 := hX75.step hp83 hl82
 have ho85 := ho76.below hl82
 have hb86 := hb71.below hl82
 have hb87 := hb77.below hl82
 have hb88 := hb78.below hl82
 have hq89 := hq80.below hl82
 refine dr_take (i := 0) rfl rfl rfl (want_none rfl _) (by kernel_rfl) (fun _ _ => r_fldp (k := 0) rfl Tryz.underlying28 rfl nz26 rfl) ⟨hb88.reads, hq89⟩ (dr_take (i := 1) rfl rfl rfl (want_none rfl _) (by kernel_rfl) (fun _ hS => r_ldp1 (u := u11) ag26 rfl (hS.1 0 _ rfl)) ⟨hb88.reads, hq89⟩ (dr_take (i := 2) rfl rfl rfl (want_none rfl _) (by kernel_rfl) (fun _ _ => r_move (v := (.int .i64 z53)) rfl) ⟨hb88.reads, hq89⟩ (dr_take (i := 3) rfl rfl rfl (want_none rfl _) (by kernel_rfl) (fun _ _ => r_fldp (k := 0) rfl Tryz.underlying28 rfl nz26 rfl) ⟨hb88.reads, hq89⟩ (dr_take (i := 4) rfl rfl rfl (want_none rfl _) (by kernel_rfl) (fun _ hS => r_ldp1 (u := u11) ag26 rfl (hS.1 0 _ rfl)) ⟨hb88.reads, hq89⟩ (dr_take (i := 5) rfl rfl rfl (want_none rfl _) (by kernel_rfl) (fun _ _ => r_move (v := (.int .i64 z53)) rfl) ⟨hb88.reads, hq89⟩ (dr_take (i := 6) rfl rfl rfl (want_none rfl _) (by kernel_rfl) (fun _ _ => run_idx Tryz.underlying26 sz68 (v := u11) rfl rfl hr81 (by omega) (by omega)) ⟨hb88.reads, hq89⟩ (dr_take (i := 7) rfl rfl rfl (want_none rfl _) (by kernel_rfl) (fun _ _ => run_fld (off := 0) Tryz.underlying68 rfl rfl nz57 (z := z53) (k := 0) rfl hr81 (by omega) (by omega)) ⟨hb88.reads, hq89⟩ ?_)))))))
 obtain ⟨u90, hr91, hl92⟩ := nm_nl (ho76.at (z := z53) (by omega) (by omega)) (j := (z53).toNat) rfl
 have hm93 := hr91.max
 refine dr_take (i := 8) rfl rfl rfl (want_none rfl _) (by kernel_rfl) (fun _ hS => hl92 ag57 rfl hS.2) ⟨hb88.reads, hq89⟩ (dr_take (i := 10) rfl rfl rfl (want_none rfl _) (by kernel_rfl) (fun _ _ => r_move (v := (.pointer (some ⟨c, 0, none⟩))) rfl) ⟨hb88.reads, hq89⟩ (dr_take (i := 11) rfl rfl rfl (want_none rfl _) (by kernel_rfl) (fun _ _ => r_move (v := (.int .i64 z53)) rfl) ⟨hb88.reads, hq89⟩ (dr_two (i := 9) (j := 12) (by kernel_rfl) ?_ ?_)))
 refine (drOp1 (i := 9) rfl rfl rfl (want_none rfl _) (o_call (vs := [u90]) Tryz.func99 nm99 rfl rfl rfl ?_))
 refine Calls.mono (l1Own_spec hX84.pins hr91 (by omega)) ?_
 rintro _ w96 ⟨u94, G95, rfl, ho97, hx98⟩
 refine ⟨_, rfl, ?_⟩
 have hX99 := hX84.tr hx98
 have ho100 := ho85.ext hx98
 have hb101 := hb86.ext hx98
 have hb102 := hb87.ext hx98
 have hb103 := hb88.ext hx98
 have ha104 : Apart u94.ownBlock u11.ownBlock := made_ne_own ho97.lt ho85.lt
 have ha105 : Apart u94.ownBlock (some c) := made_ne_box ho97.lt hb86.lt
 have ha106 : Apart u94.ownBlock (some b1) := made_ne_box ho97.lt hb87.lt
 have ha107 : Apart u94.ownBlock (some b30) := made_ne_box ho97.lt hb88.lt
 have ho108 : Own eInt 3 G95 w96 w.heap.size u94 (((formG g12).getD (z53).toNat default).l) := ho97.weaken hX84.size
 have hq109 := hq89.below hx98.below
 refine ⟨fun _ => ⟨hb103.reads, hq109⟩, ?_⟩
 refine dr_one (i := 12) (by kernel_rfl) (drOp1 (i := 12) rfl rfl rfl (want_none rfl _) (o_buildF (E := eInt) (e := 3) [(.int .i64 0), (.int .i64 z53), (.int .i64 (-1)), (.int .i64 1)] [0, z53, (-1), 1] Tryz.underlying57 sz3 zr3 (by exact reps4 (by rfl) (by rfl) (by rfl) (by rfl)) (ones4 (by rfl) (by rfl) (by rfl) (by rfl)) rfl rfl rfl rfl (by decide) hX99.pins (fun u110 w111 ho112 hp113 hl114 hk115 => ?_)))
 have hX116 := hX99.step hp113 hl114
 have ho117 := ho100.below hl114
 have ho118 := ho108.below hl114
 have hb119 := hb101.below hl114
 have hb120 := hb102.below hl114
 have hb121 := hb103.below hl114
 have ha122 : Apart u110.ownBlock u11.ownBlock := new_ne_own hk115 ho100.lt
 have ha123 : Apart u110.ownBlock u94.ownBlock := new_ne_own hk115 ho108.lt
 have ha124 : Apart u110.ownBlock (some c) := new_ne_box hk115 hb101.lt
 have ha125 : Apart u110.ownBlock (some b1) := new_ne_box hk115 hb102.lt
 have ha126 : Apart u110.ownBlock (some b30) := new_ne_box hk115 hb103.lt
 have ho127 : Own eInt 3 G95 w111 w.heap.size u110 ([0, z53, (-1), 1]) := ho112.weaken hX99.size
 have hq128 := hq109.below hl114
 refine ⟨fun _ => ⟨hb121.reads, hq128⟩, ?_⟩
 obtain ⟨G129, hle132, hX131, hr130, hf133⟩ := ho127.sealed hX116
 have ho134 := ho117.moreO hle132 hf133 ha122.symm
 have ho135 := ho118.moreO hle132 hf133 ha123.symm
 have hb136 := hb119.moreO hf133 ha124.symm
 have hb137 := hb120.moreO hf133 ha125.symm
 have hb138 := hb121.moreO hf133 ha126.symm
 refine dr_one (i := 13) (by kernel_rfl) (drOp1 (i := 13) rfl rfl rfl (want_none rfl _) (o_call (vs := [(.pointer (some ⟨c, 0, none⟩)), u110]) Tryz.func100 nm100 rfl rfl rfl ?_))
 refine Calls.mono (among_spec hX131.pins hb136 (hc.mono (Pin.le_trans (Pin.le_trans hx23.le hx98.le) hle132)) (by omega) (by omega) hr130 (by simp)) ?_
 rintro _ w143 ⟨z139, a141, s142, rfl, hz140, hb144, hda145, hds146, hx147⟩
 refine ⟨_, rfl, ?_⟩
 have hX148 := hX131.trans hx147 (fun i hi => lo_self i hi)
 have ho149 := ho134.extS hx147 (notO ha26)
 have ho150 := ho135.extS hx147 (notO ha105)
 have hb151 := hb137.extS hx147 (notOb ha9)
 have hb152 := hb138.extS hx147 (notOb ha41)
 have hq153 := Gadd.turn hq128 (Pins.of_le hX148.pins (Pin.le_trans hx98.le hle132)) hx147 (notO ha26)
 refine ⟨fun _ => ⟨hb152.reads, hq153⟩, ?_⟩
 refine dr_one (i := 14) (by kernel_rfl) (drOp1 (i := 14) rfl rfl rfl (want_none rfl _) (o_buildF (E := eInt) (e := 3) [(.int .i64 z139)] [z139] Tryz.underlying57 sz3 zr3 (by exact reps1 (by rfl)) (ones1 (by rfl)) rfl rfl rfl rfl (by decide) hX148.pins (fun u154 w155 ho156 hp157 hl158 hk159 => ?_)))
 have hX160 := hX148.step hp157 hl158
 have ho161 := ho149.below hl158
 have ho162 := ho150.below hl158
 have hb163 := hb144.below hl158
 have hb164 := hb151.below hl158
 have hb165 := hb152.below hl158
 have ho171 : Own eInt 3 G129 w155 w.heap.size u154 ([z139]) := ho156.weaken hX148.size
 have hq172 := hq153.below hl158
 refine ⟨fun _ => ⟨hb165.reads, hq172⟩, ?_⟩
 refine dr_one (i := 15) (by kernel_rfl) (drOp1 (i := 15) rfl rfl rfl (want_none rfl _) (o_append (E := eInt) (v := u94) (u := u154) 8 Tryz.underlying57 ap3 (by decide) rfl rfl hX160.pins ho162 ho171.src (by first | omega | (rw [List.nil_append]; omega) | (rw [List.length_nil]; omega) | (rw [List.length_append]; omega) | (simp; done) | (simp; omega) | (simp only [List.length_cons, List.length_nil]; omega) | (simp only [List.length_append, List.length_cons, List.length_nil]; omega)) (by first | omega | (rw [List.nil_append]; omega) | (rw [List.length_nil]; omega) | (rw [List.length_append]; omega) | (simp; done) | (simp; omega) | (simp only [List.length_cons, List.length_nil]; omega) | (simp only [List.length_append, List.length_cons, List.length_nil]; omega)) (hX160.size) (fun u173 w174 ho175 hp176 hg177 hw178 => ?_)))
 have hX179 := hX160.write hp176 hg177 ((lo_own ho162))
 have ho180 := ho161.keptA hg177 ha104.symm
 have hb182 := hb163.keptA hg177 ha105.symm
 have hb183 := hb164.keptA hg177 ha106.symm
 have hb184 := hb165.keptA hg177 ha107.symm
 have ha185 : Apart u11.ownBlock u173.ownBlock := app_ne_own ha104.symm hw178 ho161.lt
 have ha187 : Apart (some c) u173.ownBlock := app_ne_box ha105.symm hw178 hb163.lt
 have ha188 : Apart (some b1) u173.ownBlock := app_ne_box ha106.symm hw178 hb164.lt
 have ha189 : Apart (some b30) u173.ownBlock := app_ne_box ha107.symm hw178 hb165.lt
 have hm190 : ((((formG g12).getD (z53).toNat default).l) ++ ([z139])).length = (((formG g12).getD (z53).toNat default).l).length + 1 := List.length_append
 have hq191 := Gadd.turn hq172 (Pins.of_le hX179.pins (Pin.le_trans hx98.le hle132)) (Ext.one hp176 hg177) (notO ha104.symm)
 refine ⟨fun _ => ⟨hb184.reads, hq191⟩, ?_⟩
 refine dr_one (i := 16) (by kernel_rfl) (drOp1 (i := 16) rfl rfl rfl (want_none rfl _) (EO.run (run_idx Tryz.underlying26 sz68 (v := u11) rfl rfl hr81 (by omega) (by omega)) ⟨fun _ => ⟨hb184.reads, hq191⟩, ?_⟩))
 refine dr_take (i := 17) rfl rfl rfl (want_none rfl _) (by kernel_rfl) (fun _ _ => run_fld (off := 0) Tryz.underlying68 rfl rfl nz57 (z := z53) (k := 0) rfl hr81 (by omega) (by omega)) ⟨hb184.reads, hq191⟩ ?_
 obtain ⟨G192, hle195, hX194, hr193, hf196⟩ := ho175.sealed hX179
 have ho197 := ho180.moreO hle195 hf196 ha185
 have hb198 := hb182.moreO hf196 ha187
 have hb199 := hb183.moreO hf196 ha188
 have hb200 := hb184.moreO hf196 ha189
 refine dr_one (i := 18) (by kernel_rfl) (drOp0 (i := 18) rfl rfl rfl (want_none rfl _) (o_setNL (v := u11) (z := z53) (u := u173) sz57 rfl rfl hr193 hX194.pins ho197 (by omega) (by omega) (fun w201 ho202 hp203 hg204 hz205 => ?_)))
 have hX206 := hX194.write hp203 hg204 ((lo_own ho197))
 have hb207 := hb198.keptA hg204 ha26.symm
 have hb208 := hb199.keptA hg204 ha27.symm
 have hb209 := hb200.keptA hg204 ha40
 refine ⟨fun h => absurd rfl h, ?_⟩
 refine dr_end (by kernel_rfl) (s_blkN (s_then (s_seq (c_reg ?_))))
 refine qd rfl rfl rfl (r_ldpA (cs := [u11]) ag28 sz28 rfl (fun j u hj => hb209.cell (by simpa using hj))) (q0 rfl rfl rfl (o_stp (cs' := [u11]) (us := [u11]) (v := (.agg [u11].toArray)) sz28 rfl rfl rfl (ones1 ho202.one) hX206.pins hb208 (Nat.le_of_ble_eq_true rfl) rfl (fun w210 hb211 hp212 hg213 hz214 => ?_)))
 have hX215 := hX206.write hp212 hg213 ((lo_box hlo10))
 have ho216 := ho202.keptA hg213 ha27
 have hb217 := hb207.keptA hg213 ha9.symm
 refine qe (s_then ?_)
 refine wp_ret (s_ret (c_retc (cs := [u11]) rfl rfl rfl ag28 sz28 (fun j u hj => by rw [Nat.zero_add]; exact hb211.cell hj) ?_))
 obtain ⟨G219, hle222, hX221, hr220, hf223⟩ := ho216.sealed hX215
 have hb224 := hb217.moreO hf223 ha26.symm
 exact ⟨_, _, _, _, _, rfl, hr220, hb224, (by omega), (by omega), hX221⟩
 refine (drOp1 (i := 12) rfl rfl rfl (want_none rfl _) (o_buildF (E := eInt) (e := 3) [(.int .i64 0), (.int .i64 z53), (.int .i64 (-1)), (.int .i64 1)] [0, z53, (-1), 1] Tryz.underlying57 sz3 zr3 (by exact reps4 (by rfl) (by rfl) (by rfl) (by rfl)) (ones4 (by rfl) (by rfl) (by rfl) (by rfl)) rfl rfl rfl rfl (by decide) hX84.pins (fun u227 w228 ho229 hp230 hl231 hk232 => ?_)))
 have hX233 := hX84.step hp230 hl231
 have ho234 := ho85.below hl231
 have hb235 := hb86.below hl231
 have hb236 := hb87.below hl231
 have hb237 := hb88.below hl231
 have ha238 : Apart u227.ownBlock u11.ownBlock := new_ne_own hk232 ho85.lt
 have ha239 : Apart u227.ownBlock (some c) := new_ne_box hk232 hb86.lt
 have ha240 : Apart u227.ownBlock (some b1) := new_ne_box hk232 hb87.lt
 have ha241 : Apart u227.ownBlock (some b30) := new_ne_box hk232 hb88.lt
 have ho242 : Own eInt 3 G15 w228 w.heap.size u227 ([0, z53, (-1), 1]) := ho229.weaken hX84.size
 have hq243 := hq89.below hl231
 refine ⟨fun _ => ⟨hb237.reads, hq243⟩, ?_⟩
 refine dr_one (i := 9) (by kernel_rfl) (drOp1 (i := 9) rfl rfl rfl (want_none rfl _) (o_call (vs := [u90]) Tryz.func99 nm99 rfl rfl rfl ?_))
 refine Calls.mono (l1Own_spec hX233.pins hr91 (by omega)) ?_
 rintro _ w246 ⟨u244, G245, rfl, ho247, hx248⟩
 refine ⟨_, rfl, ?_⟩
 have hX249 := hX233.tr hx248
 have ho250 := ho234.ext hx248
 have ho251 := ho242.ext hx248
 have hb252 := hb235.ext hx248
 have hb253 := hb236.ext hx248
 have hb254 := hb237.ext hx248
 have ha255 : Apart u244.ownBlock u11.ownBlock := made_ne_own ho247.lt ho234.lt
 have ha256 : Apart u244.ownBlock u227.ownBlock := made_ne_own ho247.lt ho242.lt
 have ha257 : Apart u244.ownBlock (some c) := made_ne_box ho247.lt hb235.lt
 have ha258 : Apart u244.ownBlock (some b1) := made_ne_box ho247.lt hb236.lt
 have ha259 : Apart u244.ownBlock (some b30) := made_ne_box ho247.lt hb237.lt
 have ho260 : Own eInt 3 G245 w246 w.heap.size u244 (((formG g12).getD (z53).toNat default).l) := ho247.weaken hX233.size
 have hq261 := hq243.below hx248.below
 refine ⟨fun _ => ⟨hb254.reads, hq261⟩, ?_⟩
 obtain ⟨G262, hle265, hX264, hr263, hf266⟩ := ho251.sealed hX249
 have ho267 := ho250.moreO hle265 hf266 ha238.symm
 have ho268 := ho260.moreO hle265 hf266 ha256
 have hb269 := hb252.moreO hf266 ha239.symm
 have hb270 := hb253.moreO hf266 ha240.symm
 have hb271 := hb254.moreO hf266 ha241.symm
 refine dr_one (i := 13) (by kernel_rfl) (drOp1 (i := 13) rfl rfl rfl (want_none rfl _) (o_call (vs := [(.pointer (some ⟨c, 0, none⟩)), u227]) Tryz.func100 nm100 rfl rfl rfl ?_))
 refine Calls.mono (among_spec hX264.pins hb269 (hc.mono (Pin.le_trans (Pin.le_trans hx23.le hx248.le) hle265)) (by omega) (by omega) hr263 (by simp)) ?_
 rintro _ w276 ⟨z272, a274, s275, rfl, hz273, hb277, hda278, hds279, hx280⟩
 refine ⟨_, rfl, ?_⟩
 have hX281 := hX264.trans hx280 (fun i hi => lo_self i hi)
 have ho282 := ho267.extS hx280 (notO ha26)
 have ho283 := ho268.extS hx280 (notO ha257)
 have hb284 := hb270.extS hx280 (notOb ha9)
 have hb285 := hb271.extS hx280 (notOb ha41)
 have hq286 := Gadd.turn hq261 (Pins.of_le hX281.pins (Pin.le_trans hx248.le hle265)) hx280 (notO ha26)
 refine ⟨fun _ => ⟨hb285.reads, hq286⟩, ?_⟩
 refine dr_one (i := 14) (by kernel_rfl) (drOp1 (i := 14) rfl rfl rfl (want_none rfl _) (o_buildF (E := eInt) (e := 3) [(.int .i64 z272)] [z272] Tryz.underlying57 sz3 zr3 (by exact reps1 (by rfl)) (ones1 (by rfl)) rfl rfl rfl rfl (by decide) hX281.pins (fun u287 w288 ho289 hp290 hl291 hk292 => ?_)))
 have hX293 := hX281.step hp290 hl291
 have ho294 := ho282.below hl291
 have ho295 := ho283.below hl291
 have hb296 := hb277.below hl291
 have hb297 := hb284.below hl291
 have hb298 := hb285.below hl291
 have ho304 : Own eInt 3 G262 w288 w.heap.size u287 ([z272]) := ho289.weaken hX281.size
 have hq305 := hq286.below hl291
 refine ⟨fun _ => ⟨hb298.reads, hq305⟩, ?_⟩
 refine dr_one (i := 15) (by kernel_rfl) (drOp1 (i := 15) rfl rfl rfl (want_none rfl _) (o_append (E := eInt) (v := u244) (u := u287) 8 Tryz.underlying57 ap3 (by decide) rfl rfl hX293.pins ho295 ho304.src (by first | omega | (rw [List.nil_append]; omega) | (rw [List.length_nil]; omega) | (rw [List.length_append]; omega) | (simp; done) | (simp; omega) | (simp only [List.length_cons, List.length_nil]; omega) | (simp only [List.length_append, List.length_cons, List.length_nil]; omega)) (by first | omega | (rw [List.nil_append]; omega) | (rw [List.length_nil]; omega) | (rw [List.length_append]; omega) | (simp; done) | (simp; omega) | (simp only [List.length_cons, List.length_nil]; omega) | (simp only [List.length_append, List.length_cons, List.length_nil]; omega)) (hX293.size) (fun u306 w307 ho308 hp309 hg310 hw311 => ?_)))
 have hX312 := hX293.write hp309 hg310 ((lo_own ho295))
 have ho313 := ho294.keptA hg310 ha255.symm
 have hb315 := hb296.keptA hg310 ha257.symm
 have hb316 := hb297.keptA hg310 ha258.symm
 have hb317 := hb298.keptA hg310 ha259.symm
 have ha318 : Apart u11.ownBlock u306.ownBlock := app_ne_own ha255.symm hw311 ho294.lt
 have ha320 : Apart (some c) u306.ownBlock := app_ne_box ha257.symm hw311 hb296.lt
 have ha321 : Apart (some b1) u306.ownBlock := app_ne_box ha258.symm hw311 hb297.lt
 have ha322 : Apart (some b30) u306.ownBlock := app_ne_box ha259.symm hw311 hb298.lt
 have hm323 : ((((formG g12).getD (z53).toNat default).l) ++ ([z272])).length = (((formG g12).getD (z53).toNat default).l).length + 1 := List.length_append
 have hq324 := Gadd.turn hq305 (Pins.of_le hX312.pins (Pin.le_trans hx248.le hle265)) (Ext.one hp309 hg310) (notO ha255.symm)
 refine ⟨fun _ => ⟨hb317.reads, hq324⟩, ?_⟩
 refine dr_one (i := 16) (by kernel_rfl) (drOp1 (i := 16) rfl rfl rfl (want_none rfl _) (EO.run (run_idx Tryz.underlying26 sz68 (v := u11) rfl rfl hr81 (by omega) (by omega)) ⟨fun _ => ⟨hb317.reads, hq324⟩, ?_⟩))
 refine dr_take (i := 17) rfl rfl rfl (want_none rfl _) (by kernel_rfl) (fun _ _ => run_fld (off := 0) Tryz.underlying68 rfl rfl nz57 (z := z53) (k := 0) rfl hr81 (by omega) (by omega)) ⟨hb317.reads, hq324⟩ ?_
 obtain ⟨G325, hle328, hX327, hr326, hf329⟩ := ho308.sealed hX312
 have ho330 := ho313.moreO hle328 hf329 ha318
 have hb331 := hb315.moreO hf329 ha320
 have hb332 := hb316.moreO hf329 ha321
 have hb333 := hb317.moreO hf329 ha322
 refine dr_one (i := 18) (by kernel_rfl) (drOp0 (i := 18) rfl rfl rfl (want_none rfl _) (o_setNL (v := u11) (z := z53) (u := u306) sz57 rfl rfl hr326 hX327.pins ho330 (by omega) (by omega) (fun w334 ho335 hp336 hg337 hz338 => ?_)))
 have hX339 := hX327.write hp336 hg337 ((lo_own ho330))
 have hb340 := hb331.keptA hg337 ha26.symm
 have hb341 := hb332.keptA hg337 ha27.symm
 have hb342 := hb333.keptA hg337 ha40
 refine ⟨fun h => absurd rfl h, ?_⟩
 refine dr_end (by kernel_rfl) (s_blkN (s_then (s_seq (c_reg ?_))))
 refine qd rfl rfl rfl (r_ldpA (cs := [u11]) ag28 sz28 rfl (fun j u hj => hb342.cell (by simpa using hj))) (q0 rfl rfl rfl (o_stp (cs' := [u11]) (us := [u11]) (v := (.agg [u11].toArray)) sz28 rfl rfl rfl (ones1 ho335.one) hX339.pins hb341 (Nat.le_of_ble_eq_true rfl) rfl (fun w343 hb344 hp345 hg346 hz347 => ?_)))
 have hX348 := hX339.write hp345 hg346 ((lo_box hlo10))
 have ho349 := ho335.keptA hg346 ha27
 have hb350 := hb340.keptA hg346 ha9.symm
 refine qe (s_then ?_)
 refine wp_ret (s_ret (c_retc (cs := [u11]) rfl rfl rfl ag28 sz28 (fun j u hj => by rw [Nat.zero_add]; exact hb344.cell hj) ?_))
 obtain ⟨G352, hle355, hX354, hr353, hf356⟩ := ho349.sealed hX348
 have hb357 := hb350.moreO hf356 ha26.symm
 exact ⟨_, _, _, _, _, rfl, hr353, hb357, (by omega), (by omega), hX354⟩
 refine s_seq (c_reg ?_)
 refine qd rfl rfl rfl (r_eql rfl rfl) (qd rfl rfl rfl (r_assign (v := (.bool (decide ((z66 : Int) = 1)))) rfl) (qe (s_then ?_)))
 refine c_ifd (p := (z66 : Int) = 1) rfl rfl (fun h360 => ?_) (fun h360 => ?_)
 refine c_reg (qd rfl rfl rfl (r_fldp (k := 0) rfl Tryz.underlying28 rfl nz26 rfl) (qd rfl rfl rfl (r_ldp1 (u := u11) ag26 rfl (hb78.cell (o := 0) rfl)) (q1 rfl rfl rfl (o_buildF (E := eInt) (e := 3) [(.int .i64 0)] [0] Tryz.underlying57 sz3 zr3 (by exact reps1 (by rfl)) (ones1 (by rfl)) rfl rfl rfl rfl (by decide) hX75.pins (fun u361 w362 ho363 hp364 hl365 hk366 => ?_)))))
 have hX367 := hX75.step hp364 hl365
 have ho368 := ho76.below hl365
 have hb369 := hb71.below hl365
 have hb370 := hb77.below hl365
 have hb371 := hb78.below hl365
 have ha372 : Apart u361.ownBlock u11.ownBlock := new_ne_own hk366 ho76.lt
 have ha373 : Apart u361.ownBlock (some c) := new_ne_box hk366 hb71.lt
 have ha374 : Apart u361.ownBlock (some b1) := new_ne_box hk366 hb77.lt
 have ha375 : Apart u361.ownBlock (some b30) := new_ne_box hk366 hb78.lt
 have ho376 : Own eInt 3 G15 w362 w.heap.size u361 ([0]) := ho363.weaken hX75.size
 refine qd rfl rfl rfl (r_build [(.slice none 0 0), (.slice none 0 0)] [(.slice none 0 0), u361] [(1, u361, [u361])] Tryz.underlying68 zr68 rfl pl68 rfl (List.forall_mem_cons.2 ⟨(cells_one ho376.one), (fun _ h => by cases h)⟩) rfl) ?_
 obtain ⟨G377, hle380, hX379, hr378, hf381⟩ := ho376.sealed hX367
 have ho382 := ho368.moreO hle380 hf381 ha372.symm
 have hb383 := hb369.moreO hf381 ha373.symm
 have hb384 := hb370.moreO hf381 ha374.symm
 have hb385 := hb371.moreO hf381 ha375.symm
 refine q1 rfl rfl rfl (o_build1 (E := eNode) (e := 68) [(.slice none 0 0), u361] (⟨[], [0]⟩ : Nd) Tryz.underlying26 sz68 zr68 ⟨_, _, rfl, (nil_reads _ _), hr378⟩ rfl (by decide) hX379.pins (fun u386 w387 ho388 hp389 hl390 hk391 => ?_))
 have hX392 := hX379.step hp389 hl390
 have ho393 := ho382.below hl390
 have hb394 := hb383.below hl390
 have hb395 := hb384.below hl390
 have hb396 := hb385.below hl390
 have ho401 : Own eNode 68 G377 w387 w.heap.size u386 ([(⟨[], [0]⟩ : Nd)]) := ho388.weaken hX379.size
 refine q1 rfl rfl rfl (o_append (E := eNode) (v := u11) (u := u386) 48 Tryz.underlying26 ap68 (by decide) rfl rfl hX392.pins ho393 ho401.src (by first | omega | (rw [List.nil_append]; omega) | (rw [List.length_nil]; omega) | (rw [List.length_append]; omega) | (simp; done) | (simp; omega) | (simp only [List.length_cons, List.length_nil]; omega) | (simp only [List.length_append, List.length_cons, List.length_nil]; omega)) (by first | omega | (rw [List.nil_append]; omega) | (rw [List.length_nil]; omega) | (rw [List.length_append]; omega) | (simp; done) | (simp; omega) | (simp only [List.length_cons, List.length_nil]; omega) | (simp only [List.length_append, List.length_cons, List.length_nil]; omega)) (hX392.size) (fun u402 w403 ho404 hp405 hg406 hw407 => ?_))
 have hX408 := hX392.write hp405 hg406 ((lo_own ho393))
 have hb410 := hb394.keptA hg406 ha26.symm
 have hb411 := hb395.keptA hg406 ha27.symm
 have hb412 := hb396.keptA hg406 ha40
 have ha414 : Apart (some c) u402.ownBlock := app_ne_box ha26.symm hw407 hb394.lt
 have ha415 : Apart (some b1) u402.ownBlock := app_ne_box ha27.symm hw407 hb395.lt
 have ha416 : Apart (some b30) u402.ownBlock := app_ne_box ha40 hw407 hb396.lt
 have hm417 : ((formG g12) ++ ([(⟨[], [0]⟩ : Nd)])).length = (formG g12).length + 1 := List.length_append
 refine qd rfl rfl rfl (r_fldp (k := 0) rfl Tryz.underlying28 rfl nz26 rfl) (q0 rfl rfl rfl (o_stp (cs' := [u402]) (us := [u402]) (v := u402) sz26 rfl rfl (cells1 ho404.one) (ones1 ho404.one) hX408.pins hb412 (Nat.le_of_ble_eq_true rfl) rfl (fun w418 hb419 hp420 hg421 hz422 => ?_)))
 have hX423 := hX408.write hp420 hg421 ((lo_box hlo43))
 have ho424 := ho404.keptA hg421 ha416.symm
 have hb425 := hb410.keptA hg421 ha41.symm
 have hb426 := hb411.keptA hg421 ha42.symm
 refine qe (s_blkN (s_then (s_seq (c_reg ?_))))
 refine qd rfl rfl rfl (r_ldpA (cs := [u402]) ag28 sz28 rfl (fun j u hj => hb419.cell (by simpa using hj))) (q0 rfl rfl rfl (o_stp (cs' := [u402]) (us := [u402]) (v := (.agg [u402].toArray)) sz28 rfl rfl rfl (ones1 ho424.one) hX423.pins hb426 (Nat.le_of_ble_eq_true rfl) rfl (fun w427 hb428 hp429 hg430 hz431 => ?_)))
 have hX432 := hX423.write hp429 hg430 ((lo_box hlo10))
 have ho433 := ho424.keptA hg430 ha415.symm
 have hb434 := hb425.keptA hg430 ha9.symm
 refine qe (s_then ?_)
 refine wp_ret (s_ret (c_retc (cs := [u402]) rfl rfl rfl ag28 sz28 (fun j u hj => by rw [Nat.zero_add]; exact hb428.cell hj) ?_))
 obtain ⟨G436, hle439, hX438, hr437, hf440⟩ := ho433.sealed hX432
 have hb441 := hb434.moreO hf440 ha414
 exact ⟨_, _, _, _, _, rfl, hr437, hb441, (by omega), (by omega), hX438⟩
 refine s_seq (c_reg ?_)
 refine qd rfl rfl rfl (r_eql rfl rfl) (qd rfl rfl rfl (r_assign (v := (.bool (decide ((z66 : Int) = 2)))) rfl) (qe (s_then ?_)))
 refine c_ifd (p := (z66 : Int) = 2) rfl rfl (fun h444 => ?_) (fun h444 => ?_)
 refine c_reg (qd rfl rfl rfl (r_fldp (k := 0) rfl Tryz.underlying28 rfl nz26 rfl) (qd rfl rfl rfl (r_ldp1 (u := u11) ag26 rfl (hb78.cell (o := 0) rfl)) (qd rfl rfl rfl (r_fldp (k := 0) rfl Tryz.underlying28 rfl nz26 rfl) (qd rfl rfl rfl (r_ldp1 (u := u11) ag26 rfl (hb78.cell (o := 0) rfl)) (qd rfl rfl rfl (run_len Tryz.underlying26 (v := u11) rfl ho76.read) (qd rfl rfl rfl (r_sub rfl rfl (by omega)) ?_))))))
 obtain ⟨u445, ho446, hb447, hl448⟩ := own_cut ho76 ((((formG g12).length : Int) - 1).toNat) (((formG g12).length : Int) - 1) (by omega) rfl (by omega) (by omega)
 have ha449 : Apart u445.ownBlock (some c) := by rw [hb447]; exact ha26
 have ha450 : Apart u445.ownBlock (some b1) := by rw [hb447]; exact ha27
 have ha451 : Apart (some b30) u445.ownBlock := by rw [hb447]; exact ha40
 refine qd rfl rfl rfl (hl448 Tryz.underlying26 sz68 rfl rfl rfl) (qd rfl rfl rfl (r_fldp (k := 0) rfl Tryz.underlying28 rfl nz26 rfl) (q0 rfl rfl rfl (o_stp (cs' := [u445]) (us := [u445]) (v := u445) sz26 rfl rfl (cells1 ho446.one) (ones1 ho446.one) hX75.pins hb78 (Nat.le_of_ble_eq_true rfl) rfl (fun w452 hb453 hp454 hg455 hz456 => ?_))))
 have hX457 := hX75.write hp454 hg455 ((lo_box hlo43))
 have ho458 := ho446.keptA hg455 ha451.symm
 have hb459 := hb71.keptA hg455 ha41.symm
 have hb460 := hb77.keptA hg455 ha42.symm
 refine qe (s_blkN (s_then (s_seq (c_reg ?_))))
 refine qd rfl rfl rfl (r_ldpA (cs := [u445]) ag28 sz28 rfl (fun j u hj => hb453.cell (by simpa using hj))) (q0 rfl rfl rfl (o_stp (cs' := [u445]) (us := [u445]) (v := (.agg [u445].toArray)) sz28 rfl rfl rfl (ones1 ho458.one) hX457.pins hb460 (Nat.le_of_ble_eq_true rfl) rfl (fun w461 hb462 hp463 hg464 hz465 => ?_)))
 have hX466 := hX457.write hp463 hg464 ((lo_box hlo10))
 have ho467 := ho458.keptA hg464 ha450
 have hb468 := hb459.keptA hg464 ha9.symm
 refine qe (s_then ?_)
 refine wp_ret (s_ret (c_retc (cs := [u445]) rfl rfl rfl ag28 sz28 (fun j u hj => by rw [Nat.zero_add]; exact hb462.cell hj) ?_))
 obtain ⟨G470, hle473, hX472, hr471, hf474⟩ := ho467.sealed hX466
 have hb475 := hb468.moreO hf474 ha449.symm
 exact ⟨_, _, _, _, _, rfl, hr471, hb475, (by omega), (by omega), hX472⟩
 refine s_seq (c_reg ?_)
 refine qd rfl rfl rfl (r_eql rfl rfl) (qd rfl rfl rfl (r_assign (v := (.bool (decide ((z66 : Int) = 3)))) rfl) (qe (s_then ?_)))
 refine c_ifd (p := (z66 : Int) = 3) rfl rfl (fun h478 => ?_) (fun h478 => ?_)
 refine s_seq (c_reg ?_)
 refine qd rfl rfl rfl (r_fldp (k := 0) rfl Tryz.underlying28 rfl nz26 rfl) (qd rfl rfl rfl (r_ldp1 (u := u11) ag26 rfl (hb78.cell (o := 0) rfl)) (qd rfl rfl rfl (run_idx Tryz.underlying26 sz68 (v := u11) rfl rfl ho76.read (by omega) (by omega)) ?_))
 obtain ⟨u479, u480, hr481, hr482, hl483⟩ := nm_node (ho76.at (z := 0) (by omega) (by omega)) (j := 0) rfl
 have hm484 := hr481.max
 have hm485 := hr482.max
 refine qd rfl rfl rfl (hl483 ag68 sz68 rfl (Gadd.pins hX75.pins u11)) (q1 rfl rfl rfl (o_alloc [(.slice none 0 0), (.slice none 0 0)] zr68 rfl hX75.pins (fun b486 w487 hk488 hb489 hp490 hl491 => ?_)))
 have hX492 := hX75.step hp490 hl491
 have ho493 := ho76.below hl491
 have hb494 := hb71.below hl491
 have hb495 := hb77.below hl491
 have hb496 := hb78.below hl491
 have ha497 : Apart (some b486) u11.ownBlock := new_ne_own (congrArg some hk488) ho76.lt
 have ha498 : Apart (some b486) (some c) := new_ne_box (congrArg some hk488) hb71.lt
 have ha499 : Apart (some b486) (some b1) := new_ne_box (congrArg some hk488) hb77.lt
 have ha500 : Apart (some b486) (some b30) := new_ne_box (congrArg some hk488) hb78.lt
 have hlo501 : w.heap.size ≤ b486 := by have := hX75.size; omega
 refine q0 rfl rfl rfl (o_stp (cs' := [u479, u480]) (us := [u479, u480]) (v := (.agg [u479, u480].toArray)) sz68 rfl rfl rfl (ones2 hr481.one hr482.one) hX492.pins hb489 (Nat.le_of_ble_eq_true rfl) rfl (fun w502 hb503 hp504 hg505 hz506 => ?_))
 have hX507 := hX492.write hp504 hg505 ((lo_box hlo501))
 have ho508 := ho493.keptA hg505 ha497.symm
 have hb509 := hb494.keptA hg505 ha498.symm
 have hb510 := hb495.keptA hg505 ha499.symm
 have hb511 := hb496.keptA hg505 ha500.symm
 obtain ⟨G512, hle513, hX514, hbp515, hf516⟩ := hb503.shut hX507 hlo501
 have ho517 := ho508.moreA hle513 hf516 ha497.symm
 have hb518 := hb509.moreA hf516 ha498.symm
 have hb519 := hb510.moreA hf516 ha499.symm
 have hb520 := hb511.moreA hf516 ha500.symm
 refine qe (s_then (s_seq ?_))
 have hq521 := Gadd.pins hX514.pins u11
 have hr522 := ho517.read
 refine c_draw (S := fun wz => BxR wz b30 [u11] ∧ Pins (Gadd G512 w502 u11) wz) (last := 8) (by kernel_rfl) rfl ?_
 have hl523 : Below w502.heap.size w502 w502.drew := (Below.refl _ _).drew
 have hp524 := hX514.pins.below hl523
 have hX525 := hX514.step hp524 hl523
 have ho526 := ho517.below hl523
 have hb527 := hb518.below hl523
 have hb528 := hb519.below hl523
 have hb529 := hb520.below hl523
 have hq530 := hq521.below hl523
 refine dr_take (i := 0) rfl rfl rfl (want_none rfl _) (by kernel_rfl) (fun _ _ => r_fldp (k := 0) rfl Tryz.underlying28 rfl nz26 rfl) ⟨hb529.reads, hq530⟩ (dr_take (i := 1) rfl rfl rfl (want_none rfl _) (by kernel_rfl) (fun _ hS => r_ldp1 (u := u11) ag26 rfl (hS.1 0 _ rfl)) ⟨hb529.reads, hq530⟩ (dr_take (i := 2) rfl rfl rfl (want_none rfl _) (by kernel_rfl) (fun _ _ => r_fldp (k := 0) rfl Tryz.underlying28 rfl nz26 rfl) ⟨hb529.reads, hq530⟩ (dr_take (i := 3) rfl rfl rfl (want_none rfl _) (by kernel_rfl) (fun _ hS => r_ldp1 (u := u11) ag26 rfl (hS.1 0 _ rfl)) ⟨hb529.reads, hq530⟩ (dr_take (i := 4) rfl rfl rfl (want_none rfl _) (by kernel_rfl) (fun _ _ => r_move (v := (.int .i64 z53)) rfl) ⟨hb529.reads, hq530⟩ (dr_take (i := 5) rfl rfl rfl (want_none rfl _) (by kernel_rfl) (fun _ _ => run_idx Tryz.underlying26 sz68 (v := u11) rfl rfl hr522 (by omega) (by omega)) ⟨hb529.reads, hq530⟩ ?_)))))
 obtain ⟨u531, u532, hr533, hr534, hl535⟩ := nm_node (ho517.at (z := z53) (by omega) (by omega)) (j := (z53).toNat) rfl
 have hm536 := hr533.max
 have hm537 := hr534.max
 refine dr_take (i := 6) rfl rfl rfl (want_none rfl _) (by kernel_rfl) (fun _ hS => hl535 ag68 sz68 rfl hS.2) ⟨hb529.reads, hq530⟩ (dr_take (i := 7) rfl rfl rfl (want_none rfl _) (by kernel_rfl) (fun _ _ => run_idx Tryz.underlying26 sz68 (v := u11) rfl rfl hr522 (by omega) (by omega)) ⟨hb529.reads, hq530⟩ (dr_one (i := 8) (by kernel_rfl) (drOp0 (i := 8) rfl rfl rfl (want_none rfl _) (o_set (E := eNode) (v := u11) (u := (.agg [u531, u532].toArray)) (z := 0) ((⟨((formG g12).getD (z53).toNat default).l, ((formG g12).getD (z53).toNat default).r⟩ : Nd)) sz68 rfl rfl rfl ⟨_, _, rfl, hr533, hr534⟩ hX525.pins ho526 (by omega) (by omega) (fun w538 ho539 hp540 hg541 hz542 => ?_)))))
 have hX543 := hX525.write hp540 hg541 ((lo_own ho526))
 have hb544 := hb527.keptA hg541 ha26.symm
 have hb545 := hb528.keptA hg541 ha27.symm
 have hb546 := hb529.keptA hg541 ha40
 have ho547 : Own eNode 68 G512 w538 w.heap.size u11 ((formG g12).set 0 (⟨((formG g12).getD (z53).toNat default).l, ((formG g12).getD (z53).toNat default).r⟩ : Nd)) := ho539
 have hm548 : ((formG g12).set 0 (⟨((formG g12).getD (z53).toNat default).l, ((formG g12).getD (z53).toNat default).r⟩ : Nd)).length = (formG g12).length := List.length_set ..
 refine ⟨fun h => absurd rfl h, ?_⟩
 refine dr_end (by kernel_rfl) (s_then (c_reg ?_))
 refine qd rfl rfl rfl (r_fldp (k := 0) rfl Tryz.underlying28 rfl nz26 rfl) (qd rfl rfl rfl (r_ldp1 (u := u11) ag26 rfl (hb546.cell (o := 0) rfl)) (qd rfl rfl rfl (r_move (v := (.int .i64 z53)) rfl) (qd rfl rfl rfl (r_ldpA (cs := [u479, u480]) ag68 sz68 rfl (fun j u hj => hX543.pins _ _ _ (hbp515 _ _ (by simpa using hj)))) (qd rfl rfl rfl (run_idx Tryz.underlying26 sz68 (v := u11) rfl rfl ho547.read (by omega) (by omega)) (q0 rfl rfl rfl (o_set (E := eNode) (v := u11) (u := (.agg [u479, u480].toArray)) (z := z53) ((⟨((formG g12).getD 0 default).l, ((formG g12).getD 0 default).r⟩ : Nd)) sz68 rfl rfl rfl ⟨_, _, rfl, (hr481.mono hle513), (hr482.mono hle513)⟩ hX543.pins ho547 (by omega) (by omega) (fun w549 ho550 hp551 hg552 hz553 => ?_)))))))
 have hX554 := hX543.write hp551 hg552 ((lo_own ho547))
 have hb555 := hb544.keptA hg552 ha26.symm
 have hb556 := hb545.keptA hg552 ha27.symm
 have hb557 := hb546.keptA hg552 ha40
 have ho558 : Own eNode 68 G512 w549 w.heap.size u11 (((formG g12).set 0 (⟨((formG g12).getD (z53).toNat default).l, ((formG g12).getD (z53).toNat default).r⟩ : Nd)).set (z53).toNat (⟨((formG g12).getD 0 default).l, ((formG g12).getD 0 default).r⟩ : Nd)) := ho550
 have hm559 : (((formG g12).set 0 (⟨((formG g12).getD (z53).toNat default).l, ((formG g12).getD (z53).toNat default).r⟩ : Nd)).set (z53).toNat (⟨((formG g12).getD 0 default).l, ((formG g12).getD 0 default).r⟩ : Nd)).length = ((formG g12).set 0 (⟨((formG g12).getD (z53).toNat default).l, ((formG g12).getD (z53).toNat default).r⟩ : Nd)).length := List.length_set ..
 refine qe (s_blkN (s_then (s_seq (c_reg ?_))))
 refine qd rfl rfl rfl (r_ldpA (cs := [u11]) ag28 sz28 rfl (fun j u hj => hb557.cell (by simpa using hj))) (q0 rfl rfl rfl (o_stp (cs' := [u11]) (us := [u11]) (v := (.agg [u11].toArray)) sz28 rfl rfl rfl (ones1 ho558.one) hX554.pins hb556 (Nat.le_of_ble_eq_true rfl) rfl (fun w560 hb561 hp562 hg563 hz564 => ?_)))
 have hX565 := hX554.write hp562 hg563 ((lo_box hlo10))
 have ho566 := ho558.keptA hg563 ha27
 have hb567 := hb555.keptA hg563 ha9.symm
 refine qe (s_then ?_)
 refine wp_ret (s_ret (c_retc (cs := [u11]) rfl rfl rfl ag28 sz28 (fun j u hj => by rw [Nat.zero_add]; exact hb561.cell hj) ?_))
 obtain ⟨G569, hle572, hX571, hr570, hf573⟩ := ho566.sealed hX565
 have hb574 := hb567.moreO hf573 ha26.symm
 exact ⟨_, _, _, _, _, rfl, hr570, hb574, (by omega), (by omega), hX571⟩
 refine wp_skip (s_blkN (s_then (s_seq (c_reg ?_))))
 refine qd rfl rfl rfl (r_ldpA (cs := [u11]) ag28 sz28 rfl (fun j u hj => hb78.cell (by simpa using hj))) (q0 rfl rfl rfl (o_stp (cs' := [u11]) (us := [u11]) (v := (.agg [u11].toArray)) sz28 rfl rfl rfl (ones1 ho76.one) hX75.pins hb77 (Nat.le_of_ble_eq_true rfl) rfl (fun w577 hb578 hp579 hg580 hz581 => ?_)))
 have hX582 := hX75.write hp579 hg580 ((lo_box hlo10))
 have ho583 := ho76.keptA hg580 ha27
 have hb584 := hb71.keptA hg580 ha9.symm
 refine qe (s_then ?_)
 refine wp_ret (s_ret (c_retc (cs := [u11]) rfl rfl rfl ag28 sz28 (fun j u hj => by rw [Nat.zero_add]; exact hb578.cell hj) ?_))
 obtain ⟨G586, hle589, hX588, hr587, hf590⟩ := ho583.sealed hX582
 have hb591 := hb584.moreO hf590 ha26.symm
 exact ⟨_, _, _, _, _, rfl, hr587, hb591, (by omega), (by omega), hX588⟩

end DV1
end Go.Proofs.YtkfgdhanaijddaaGreatDoor

set_option maxRecDepth 20000
set_option maxHeartbeats 2000000
namespace Go.Proofs.YtkfgdhanaijddaaGreatDoor
namespace DV2
open Go.RowKit Go.GL Go.Proofs
open Go.Proofs.YtkfgdhanaijddaaGreatDoor.B1
open Go.Proofs.YtkfgdhanaijddaaGreatDoor.C1
open Go.Proofs.YtkfgdhanaijddaaGreatDoor.D1
open Go.Proofs.YtkfgdhanaijddaaGreatDoor.E1
open Go.Proofs.YtkfgdhanaijddaaGreatDoor.MK1
open Go.Proofs.YtkfgdhanaijddaaGreatDoor.DR1
open Go.Proofs.YtkfgdhanaijddaaGreatDoor.DR2
open Go.Proofs.YtkfgdhanaijddaaGreatDoor.DV1











theorem pl28 : (Tryz.prog.underlying 28).bind (placesD Tryz.prog) = some [(0, 1)] := by kernel_rfl
theorem pl63 : (Tryz.prog.underlying 63).bind (placesD Tryz.prog) = some [(0, 1), (1, 1), (2, 1)] := by kernel_rfl
theorem pl68 : (Tryz.prog.underlying 68).bind (placesD Tryz.prog) = some [(0, 1), (1, 1)] := by kernel_rfl





theorem drFormText_spec {w : World} {G : Pin} {v : Value} {code : List UInt8} (hP : Pins G w) (hc : RSl eByte G v code) :
  Calls Tryz.prog 73 [v].toArray w fun e w' => ∃ (u0 : Value) (ns0 : List Nd) (G' : Pin), e = .returned (.agg [u0].toArray) ∧ RSl eNode G' u0 ns0 ∧ Ext noS G w G' w' := by
 refine s_enter (n := 20) Tryz.func73 Tryz.ntmps73 rfl rfl ?_
 have hX0 : Ext noS G w G w := Ext.refl hP
 have hm := hc.max
 refine s_seq (c_reg ?_)
 refine q1 rfl rfl rfl (o_alloc [(.slice none 0 0)] zr28 rfl hX0.pins (fun b1 w2 hk3 hb4 hp5 hl6 => ?_))
 have hX7 := hX0.step hp5 hl6
 have hlo8 : w.heap.size ≤ b1 := by have := hX0.size; omega
 refine qe (s_then (s_seq (c_reg ?_)))
 refine qd rfl rfl rfl (r_move (v := v) rfl) (qd rfl rfl rfl (r_build [(.slice none 0 0), (.int .i64 0), (.int .u64 0)] [v, (.int .i64 0), (.int .u64 0)] [(0, v, [v])] Tryz.underlying63 zr63 rfl pl63 rfl (List.forall_mem_cons.2 ⟨(cells_one hc.one), (fun _ h => by cases h)⟩) rfl) (q1 rfl rfl rfl (o_box [v, (.int .i64 0), (.int .u64 0)] (v := (.agg [v, (.int .i64 0), (.int .u64 0)].toArray)) rfl rfl hX7.pins (fun b9 w10 hk11 hb12 hp13 hl14 => ?_))))
 have hX15 := hX7.step hp13 hl14
 have hb16 := hb4.below hl14
 have ha17 : Apart (some b9) (some b1) := new_ne_box (congrArg some hk11) hb4.lt
 have hlo18 : w.heap.size ≤ b9 := by have := hX7.size; omega
 refine qd rfl rfl rfl (r_assign (v := (.pointer (some ⟨b9, 0, none⟩))) rfl) (qe (s_then (s_seq (s_seq (c_reg ?_)))))
 refine qd rfl rfl rfl (r_move (v := (.pointer (some ⟨b9, 0, none⟩))) rfl) (q1 rfl rfl rfl (o_call (vs := [(.pointer (some ⟨b9, 0, none⟩)), (.int .i64 8)]) Tryz.func43 nm43 rfl rfl rfl ?_))
 refine Calls.mono (one_spec hX15.pins hb12 hc (by omega) (by omega) (n := 8) (by omega)) ?_
 rintro _ w22 ⟨z19, a20, s21, rfl, hb23, hda24, hds25, hx26⟩
 refine ⟨_, rfl, ?_⟩
 have hX27 := hX15.trans hx26 (fun i hi => (lo_box hlo18) i hi)
 have hb28 := hb16.extS hx26 (notOb ha17.symm)
 refine qe (s_then ?_)
 refine c_if rfl rfl (fun h29 => ?_) (fun h29 => ?_)
 refine s_seq (c_reg ?_)
 refine qd rfl rfl rfl (r_move (v := (.pointer (some ⟨b9, 0, none⟩))) rfl) (q1 rfl rfl rfl (o_call (vs := [(.pointer (some ⟨b9, 0, none⟩)), (.int .i64 5)]) Tryz.func42 nm42 rfl rfl rfl ?_))
 refine Calls.mono (dform_spec (n := 5) hX27.pins hb23 hc (by omega) (by omega) (by omega)) ?_
 rintro _ w35 ⟨u30, g31, a32, s33, G34, rfl, ho36, hif37, hfl38, hb39, hda40, hds41, hx42⟩
 refine ⟨_, rfl, ?_⟩
 have hX43 := hX27.trans hx42 (fun i hi => (lo_box hlo18) i hi)
 have hb44 := hb28.extS hx42 (notOb ha17.symm)
 have ha45 : Apart u30.ownBlock (some b1) := made_ne_box ho36.lt hb28.lt
 have ha46 : Apart u30.ownBlock (some b9) := made_ne_box ho36.lt hb23.lt
 have ho47 : Own eNode 68 G34 w35 w.heap.size u30 (formG g31) := ho36.weaken hX27.size
 have hfo48 := hif37.1.lo
 refine qd rfl rfl rfl (r_move (v := (.pointer (some ⟨b9, 0, none⟩))) rfl) (q1 rfl rfl rfl (o_call (vs := [(.pointer (some ⟨b9, 0, none⟩)), (.int .i64 6)]) Tryz.func42 nm42 rfl rfl rfl ?_))
 refine Calls.mono (dform_spec (n := 6) hX43.pins hb39 (hc.mono hx42.le) (by omega) (by omega) (by omega)) ?_
 rintro _ w54 ⟨u49, g50, a51, s52, G53, rfl, ho55, hif56, hfl57, hb58, hda59, hds60, hx61⟩
 refine ⟨_, rfl, ?_⟩
 have hX62 := hX43.trans hx61 (fun i hi => (lo_box hlo18) i hi)
 have ho63 := ho47.extS hx61 (notO ha46)
 have hb64 := hb44.extS hx61 (notOb ha17.symm)
 have ha65 : Apart u49.ownBlock u30.ownBlock := made_ne_own ho55.lt ho47.lt
 have ha66 : Apart u49.ownBlock (some b1) := made_ne_box ho55.lt hb44.lt
 have ha67 : Apart u49.ownBlock (some b9) := made_ne_box ho55.lt hb39.lt
 have ho68 : Own eNode 68 G53 w54 w.heap.size u49 (formG g50) := ho55.weaken hX43.size
 have hfo69 := hif56.1.lo
 obtain ⟨G70, hle73, hX72, hr71, hf74⟩ := ho63.sealed hX62
 have ho75 := ho68.moreO hle73 hf74 ha65
 have hb76 := hb64.moreO hf74 ha45.symm
 have hb77 := hb58.moreO hf74 ha46.symm
 obtain ⟨G78, hle81, hX80, hr79, hf82⟩ := ho75.sealed hX72
 have hb83 := hb76.moreO hf82 ha66.symm
 have hb84 := hb77.moreO hf82 ha67.symm
 refine q1 rfl rfl rfl (o_buildA (E := (eSl eNode)) (e := 28) [u30, u49] [formG g31, formG g50] Tryz.underlying24 sz28 zr28 (by exact reps2 (⟨_, rfl, (hr71.mono hle81)⟩) (⟨_, rfl, hr79⟩)) (ones2 hr71.one hr79.one) rfl rfl rfl rfl (by decide) hX80.pins (fun u85 w86 ho87 hp88 hl89 hk90 => ?_))
 have hX91 := hX80.step hp88 hl89
 have hb92 := hb83.below hl89
 have hb93 := hb84.below hl89
 have ha94 : Apart u85.ownBlock (some b1) := new_ne_box hk90 hb83.lt
 have ha95 : Apart u85.ownBlock (some b9) := new_ne_box hk90 hb84.lt
 have ho96 : Own (eSl eNode) 28 G78 w86 w.heap.size u85 ([formG g31, formG g50]) := ho87.weaken hX80.size
 refine qd rfl rfl rfl (r_move (v := (.pointer (some ⟨b9, 0, none⟩))) rfl) (q1 rfl rfl rfl (o_call (vs := [(.pointer (some ⟨b9, 0, none⟩)), (.int .i64 6)]) Tryz.func42 nm42 rfl rfl rfl ?_))
 refine Calls.mono (dform_spec (n := 6) hX91.pins hb93 (hc.mono (Pin.le_trans (Pin.le_trans (Pin.le_trans hx42.le hx61.le) hle73) hle81)) (by omega) (by omega) (by omega)) ?_
 rintro _ w102 ⟨u97, g98, a99, s100, G101, rfl, ho103, hif104, hfl105, hb106, hda107, hds108, hx109⟩
 refine ⟨_, rfl, ?_⟩
 have hX110 := hX91.trans hx109 (fun i hi => (lo_box hlo18) i hi)
 have ho111 := ho96.extS hx109 (notO ha95)
 have hb112 := hb92.extS hx109 (notOb ha17.symm)
 have ha113 : Apart u97.ownBlock u85.ownBlock := made_ne_own ho103.lt ho96.lt
 have ha114 : Apart u97.ownBlock (some b1) := made_ne_box ho103.lt hb92.lt
 have ho116 : Own eNode 68 G101 w102 w.heap.size u97 (formG g98) := ho103.weaken hX91.size
 have hfo117 := hif104.1.lo
 obtain ⟨G118, hle121, hX120, hr119, hf122⟩ := ho116.sealed hX110
 have ho123 := ho111.moreO hle121 hf122 ha113.symm
 have hb124 := hb112.moreO hf122 ha114.symm
 refine q1 rfl rfl rfl (o_build1 (E := (eSl eNode)) (e := 28) [u97] (formG g98) Tryz.underlying24 sz28 zr28 ⟨_, rfl, hr119⟩ rfl (by decide) hX120.pins (fun u126 w127 ho128 hp129 hl130 hk131 => ?_))
 have hX132 := hX120.step hp129 hl130
 have ho133 := ho123.below hl130
 have hb134 := hb124.below hl130
 have ha136 : Apart u126.ownBlock u85.ownBlock := new_ne_own hk131 ho123.lt
 have ha137 : Apart u126.ownBlock (some b1) := new_ne_box hk131 hb124.lt
 have ho139 : Own (eSl eNode) 28 G118 w127 w.heap.size u126 ([formG g98]) := ho128.weaken hX120.size
 obtain ⟨G140, hle143, hX142, hr141, hf144⟩ := ho133.sealed hX132
 have ho145 := ho139.moreO hle143 hf144 ha136
 have hb146 := hb134.moreO hf144 ha94.symm
 obtain ⟨G148, hle151, hX150, hr149, hf152⟩ := ho145.sealed hX142
 have hb153 := hb146.moreO hf152 ha137.symm
 refine q1 rfl rfl rfl (o_call (vs := [u85, u126]) Tryz.func67 nm67 rfl rfl rfl ?_)
 refine Calls.mono (l3Make_spec hX150.pins (hr141.mono hle151) hr149 (AllW.cons hif37 (by omega) (AllW.cons hif56 (by omega) AllW.nil (by simp)) (by simp)) (AllW.cons hif104 (by omega) AllW.nil (by simp))) ?_
 rintro _ w157 ⟨u155, G156, rfl, hr158, hx159⟩
 refine ⟨_, rfl, ?_⟩
 have hX160 := hX150.tr hx159
 have hb161 := hb153.ext hx159
 refine q0 rfl rfl rfl (o_stp (cs' := [u155]) (us := [u155]) (v := (.agg [u155].toArray)) sz28 rfl rfl rfl (ones1 hr158.one) hX160.pins hb161 (Nat.le_of_ble_eq_true rfl) rfl (fun w163 hb164 hp165 hg166 hz167 => ?_))
 have hX168 := hX160.write hp165 hg166 ((lo_box hlo8))
 refine qe (s_then ?_)
 exact wp_ret (s_ret (c_retc (cs := [u155]) rfl rfl rfl ag28 sz28 (fun j u hj => by rw [Nat.zero_add]; exact hb164.cell hj) (⟨_, _, _, rfl, hr158, hX168⟩)))
 refine wp_skip (s_then (s_seq (c_reg ?_)))
 refine qd rfl rfl rfl (r_move (v := (.pointer (some ⟨b9, 0, none⟩))) rfl) (q1 rfl rfl rfl (o_call (vs := [(.pointer (some ⟨b9, 0, none⟩)), (.int .i64 4)]) Tryz.func44 nm44 rfl rfl rfl ?_))
 refine Calls.mono (anyForm_spec (n := 4) hX27.pins hb23 hc (by omega) (by omega) (by omega)) ?_
 rintro _ w175 ⟨u170, ns171, a172, s173, G174, rfl, hr176, hb177, hda178, hds179, hx180⟩
 refine ⟨_, rfl, ?_⟩
 have hX181 := hX27.trans hx180 (fun i hi => (lo_box hlo18) i hi)
 have hb182 := hb28.extS hx180 (notOb ha17.symm)
 have hm183 := hr176.max
 refine q0 rfl rfl rfl (o_stp (cs' := [u170]) (us := [u170]) (v := (.agg [u170].toArray)) sz28 rfl rfl rfl (ones1 hr176.one) hX181.pins hb182 (Nat.le_of_ble_eq_true rfl) rfl (fun w184 hb185 hp186 hg187 hz188 => ?_))
 have hX189 := hX181.write hp186 hg187 ((lo_box hlo8))
 refine qe (s_then ?_)
 exact wp_ret (s_ret (c_retc (cs := [u170]) rfl rfl rfl ag28 sz28 (fun j u hj => by rw [Nat.zero_add]; exact hb185.cell hj) (⟨_, _, _, rfl, hr176, hX189⟩)))

theorem vBig_spec {w : World} {G : Pin} {v : Value} {code : List UInt8} (hP : Pins G w) (hc : RSl eByte G v code) :
  Calls Tryz.prog 10 [v].toArray w fun e w' => e = .returned (.bool (decide ((65536 : Int) < (code.length : Int)))) ∧ Ext noS G w G w' := by
 refine s_enter (n := 6) Tryz.func10 Tryz.ntmps10 rfl rfl ?_
 have hX0 : Ext noS G w G w := Ext.refl hP
 have hm := hc.max
 refine s_seq (c_reg ?_)
 refine qd rfl rfl rfl (r_assign (v := (.bool false)) rfl) (qe (s_then (s_seq (c_reg ?_))))
 refine qd rfl rfl rfl (r_move (v := v) rfl) (qd rfl rfl rfl (run_len Tryz.underlying22 (v := v) rfl hc) (qd rfl rfl rfl (r_gtr rfl rfl) (qd rfl rfl rfl (r_assign (v := (.bool (decide ((65536 : Int) < (code.length : Int))))) rfl) (qe (s_then ?_)))))
 exact wp_ret (s_ret (c_ret1 (v := (.bool (decide ((65536 : Int) < (code.length : Int))))) rfl rfl rfl (⟨rfl, hX0⟩)))

theorem vZero_spec {w : World} {G : Pin} (hP : Pins G w) :
  Calls Tryz.prog 40 [].toArray w fun e w' => ∃ (u : Value) (G' : Pin), e = .returned (.agg [u].toArray) ∧ RSl eNode G' u zF ∧ Ext noS G w G' w' := by
 refine s_enter (n := 4) Tryz.func40 Tryz.ntmps40 rfl rfl ?_
 have hX0 : Ext noS G w G w := Ext.refl hP
 refine s_seq (c_reg ?_)
 refine q1 rfl rfl rfl (o_alloc [(.slice none 0 0)] zr28 rfl hX0.pins (fun b1 w2 hk3 hb4 hp5 hl6 => ?_))
 have hX7 := hX0.step hp5 hl6
 have hlo8 : w.heap.size ≤ b1 := by have := hX0.size; omega
 refine qe (s_then (s_seq (c_reg ?_)))
 refine qd rfl rfl rfl (r_build [(.slice none 0 0), (.slice none 0 0)] [(.slice none 0 0), (.slice none 0 0)] [] Tryz.underlying68 zr68 rfl pl68 rfl (fun _ h => by cases h) rfl) (q1 rfl rfl rfl (o_build1 (E := eNode) (e := 68) [(.slice none 0 0), (.slice none 0 0)] (⟨[], []⟩ : Nd) Tryz.underlying26 sz68 zr68 ⟨_, _, rfl, (nil_reads _ _), (nil_reads _ _)⟩ rfl (by decide) hX7.pins (fun u9 w10 ho11 hp12 hl13 hk14 => ?_)))
 have hX15 := hX7.step hp12 hl13
 have hb16 := hb4.below hl13
 have ha17 : Apart u9.ownBlock (some b1) := new_ne_box hk14 hb4.lt
 have ho18 : Own eNode 68 G w10 w.heap.size u9 ([(⟨[], []⟩ : Nd)]) := ho11.weaken hX7.size
 refine qd rfl rfl rfl (r_build [(.slice none 0 0)] [u9] [(0, u9, [u9])] Tryz.underlying28 zr28 rfl pl28 rfl (List.forall_mem_cons.2 ⟨(cells_one ho18.one), (fun _ h => by cases h)⟩) rfl) (q0 rfl rfl rfl (o_stp (cs' := [u9]) (us := [u9]) (v := (.agg [u9].toArray)) sz28 rfl rfl rfl (ones1 ho18.one) hX15.pins hb16 (Nat.le_of_ble_eq_true rfl) rfl (fun w19 hb20 hp21 hg22 hz23 => ?_)))
 have hX24 := hX15.write hp21 hg22 ((lo_box hlo8))
 have ho25 := ho18.keptA hg22 ha17
 refine qe (s_then ?_)
 refine wp_ret (s_ret (c_retc (cs := [u9]) rfl rfl rfl ag28 sz28 (fun j u hj => by rw [Nat.zero_add]; exact hb20.cell hj) ?_))
 obtain ⟨G26, hle29, hX28, hr27, hf30⟩ := ho25.sealed hX24
 exact ⟨_, _, rfl, hr27, hX28⟩

theorem GoodForm_spec {w : World} {G : Pin} {v : Value} {ns : List Nd} (hP : Pins G w) (hv : RSl eNode G v ns) :
  Calls Tryz.prog 74 [(.agg [v].toArray)].toArray w fun e w' => ∃ G', e = .returned (.bool (goodB ns)) ∧ Ext noS G w G' w' := by
 refine s_enter (n := 5) Tryz.func74 Tryz.ntmps74 rfl rfl ?_
 have hX0 : Ext noS G w G w := Ext.refl hP
 refine s_seq (c_reg ?_)
 refine q1 rfl rfl rfl (o_box [v] (v := (.agg [v].toArray)) rfl rfl hX0.pins (fun b1 w2 hk3 hb4 hp5 hl6 => ?_))
 have hX7 := hX0.step hp5 hl6
 have hlo8 : w.heap.size ≤ b1 := by have := hX0.size; omega
 obtain ⟨G9, hle10, hX11, hbp12, hf13⟩ := hb4.shut hX7 hlo8
 refine qd rfl rfl rfl (r_assign (v := (.bool false)) rfl) (qe (s_then (s_seq (c_reg ?_))))
 refine qd rfl rfl rfl (r_ldpA (cs := [v]) ag28 sz28 rfl (fun j u hj => hX11.pins _ _ _ (hbp12 _ _ (by simpa using hj)))) (q1 rfl rfl rfl (o_call (vs := [(.agg [v].toArray)]) Tryz.func59 nm59 rfl rfl rfl ?_))
 refine Calls.mono (l3Good_spec hX11.pins (hv.mono hle10)) ?_
 rintro _ w15 ⟨G14, rfl, hx16⟩
 refine ⟨_, rfl, ?_⟩
 have hX17 := hX11.tr hx16
 refine qd rfl rfl rfl (r_assign (v := (.bool (decP (GoodS ns)))) rfl) (qe (s_then ?_))
 exact wp_ret (s_ret (c_ret1 (v := (.bool (decP (GoodS ns)))) rfl rfl rfl (⟨_, congrArg (fun z => Ending.returned (Value.bool z)) (good_eq ns), hX17⟩)))

theorem vForm_spec {w : World} {G : Pin} {v : Value} {code : List UInt8} (hP : Pins G w) (hc : RSl eByte G v code) :
  Calls Tryz.prog 24 [v].toArray w fun e w' => ∃ (u : Value) (ns : List Nd) (G' : Pin), e = .returned (.agg [u].toArray) ∧ RSl eNode G' u ns ∧ GoodP ns ∧ ns.length ≤ 30 ∧ Ext noS G w G' w' := by
 refine s_enter (n := 17) Tryz.func24 Tryz.ntmps24 rfl rfl ?_
 have hX0 : Ext noS G w G w := Ext.refl hP
 have hm := hc.max
 refine s_seq (c_reg ?_)
 refine q1 rfl rfl rfl (o_alloc [(.slice none 0 0)] zr28 rfl hX0.pins (fun b1 w2 hk3 hb4 hp5 hl6 => ?_))
 have hX7 := hX0.step hp5 hl6
 have hlo8 : w.heap.size ≤ b1 := by have := hX0.size; omega
 refine qe (s_then (s_seq (c_reg ?_)))
 refine qd rfl rfl rfl (r_move (v := v) rfl) (q1 rfl rfl rfl (o_call (vs := [v]) Tryz.func73 nm73 rfl rfl rfl ?_))
 refine Calls.mono (drFormText_spec hX7.pins hc) ?_
 rintro _ w10 ⟨u12, ns13, G9, rfl, hr14, hx11⟩
 refine ⟨_, rfl, ?_⟩
 have hX15 := hX7.tr hx11
 have hb16 := hb4.ext hx11
 have hm17 := hr14.max
 refine q1 rfl rfl rfl (o_alloc [(.slice none 0 0)] zr28 rfl hX15.pins (fun b18 w19 hk20 hb21 hp22 hl23 => ?_))
 have hX24 := hX15.step hp22 hl23
 have hb25 := hb16.below hl23
 have ha26 : Apart (some b18) (some b1) := new_ne_box (congrArg some hk20) hb16.lt
 have hlo27 : w.heap.size ≤ b18 := by have := hX15.size; omega
 refine q0 rfl rfl rfl (o_stp (cs' := [u12]) (us := [u12]) (v := (.agg [u12].toArray)) sz28 rfl rfl rfl (ones1 hr14.one) hX24.pins hb21 (Nat.le_of_ble_eq_true rfl) rfl (fun w28 hb29 hp30 hg31 hz32 => ?_))
 have hX33 := hX24.write hp30 hg31 ((lo_box hlo27))
 have hb34 := hb25.keptA hg31 ha26.symm
 obtain ⟨G35, hle36, hX37, hbp38, hf39⟩ := hb29.shut hX33 hlo27
 have hb40 := hb34.moreA hf39 ha26.symm
 refine qe (s_then (s_seq (s_seq (c_reg ?_))))
 refine qd rfl rfl rfl (r_ldpA (cs := [u12]) ag28 sz28 rfl (fun j u hj => hX37.pins _ _ _ (hbp38 _ _ (by simpa using hj)))) (q1 rfl rfl rfl (o_call (vs := [(.agg [u12].toArray)]) Tryz.func74 nm74 rfl rfl rfl ?_))
 refine Calls.mono (GoodForm_spec hX37.pins (hr14.mono hle36)) ?_
 rintro _ w42 ⟨G41, rfl, hx43⟩
 refine ⟨_, rfl, ?_⟩
 have hX44 := hX37.tr hx43
 have hb45 := hb40.ext hx43
 refine qd rfl rfl rfl (r_not rfl) (qd rfl rfl rfl (r_move (v := (.bool (!(goodB ns13)))) rfl) (qbn (t := 9) rfl (fun h46 => ?_) (fun h46 => ?_)))
 refine qdg rfl rfl rfl rfl rfl rfl (r_fldp (k := 0) rfl Tryz.underlying28 rfl nz26 rfl) (qdg rfl rfl rfl rfl rfl rfl (r_ldp1 (u := u12) ag26 rfl ((Pins.of_le hX44.pins hx43.le) _ _ _ (hbp38 0 _ rfl))) (qdg rfl rfl rfl rfl rfl rfl (run_len Tryz.underlying26 (v := u12) rfl hr14) (qdg rfl rfl rfl rfl rfl rfl (r_gtr rfl rfl) (qd rfl rfl rfl (r_pickF (v := (.bool (decide ((30 : Int) < (ns13.length : Int))))) rfl rfl) (qe (s_then ?_))))))
 refine c_ifd (p := (30 : Int) < (ns13.length : Int)) rfl rfl (fun h47 => ?_) (fun h47 => ?_)
 refine s_seq (c_reg ?_)
 refine q1 rfl rfl rfl (o_call (vs := []) Tryz.func40 nm40 rfl rfl rfl ?_)
 refine Calls.mono (vZero_spec hX44.pins ) ?_
 rintro _ w50 ⟨u48, G49, rfl, hr51, hx52⟩
 refine ⟨_, rfl, ?_⟩
 have hX53 := hX44.tr hx52
 have hb54 := hb45.ext hx52
 refine q0 rfl rfl rfl (o_stp (cs' := [u48]) (us := [u48]) (v := (.agg [u48].toArray)) sz28 rfl rfl rfl (ones1 hr51.one) hX53.pins hb54 (Nat.le_of_ble_eq_true rfl) rfl (fun w55 hb56 hp57 hg58 hz59 => ?_))
 have hX60 := hX53.write hp57 hg58 ((lo_box hlo8))
 refine qe (s_then ?_)
 exact wp_ret (s_ret (c_retc (cs := [u48]) rfl rfl rfl ag28 sz28 (fun j u hj => by rw [Nat.zero_add]; exact hb56.cell hj) (⟨_, _, _, rfl, hr51, goodP_zF, (by decide), hX60⟩)))
 refine wp_skip (s_then (s_seq (c_reg ?_)))
 refine qd rfl rfl rfl (r_ldpA (cs := [u12]) ag28 sz28 rfl (fun j u hj => (Pins.of_le hX44.pins hx43.le) _ _ _ (hbp38 _ _ (by simpa using hj)))) (q0 rfl rfl rfl (o_stp (cs' := [u12]) (us := [u12]) (v := (.agg [u12].toArray)) sz28 rfl rfl rfl (ones1 hr14.one) hX44.pins hb45 (Nat.le_of_ble_eq_true rfl) rfl (fun w61 hb62 hp63 hg64 hz65 => ?_)))
 have hX66 := hX44.write hp63 hg64 ((lo_box hlo8))
 refine qe (s_then ?_)
 exact wp_ret (s_ret (c_retc (cs := [u12]) rfl rfl rfl ag28 sz28 (fun j u hj => by rw [Nat.zero_add]; exact hb62.cell hj) (⟨_, _, _, rfl, (hr14.mono (Pin.le_trans hle36 hx43.le)), (goodB_true.1 h46), (by omega), hX66⟩)))
 refine qs rfl rfl rfl rfl rfl rfl (qs rfl rfl rfl rfl rfl rfl (qs rfl rfl rfl rfl rfl rfl (qs rfl rfl rfl rfl rfl rfl (qd rfl rfl rfl (r_pickT (v := (.bool true)) rfl rfl) (qe (s_then ?_))))))
 refine c_ifT rfl rfl (s_seq (c_reg ?_))
 refine q1 rfl rfl rfl (o_call (vs := []) Tryz.func40 nm40 rfl rfl rfl ?_)
 refine Calls.mono (vZero_spec hX44.pins ) ?_
 rintro _ w69 ⟨u67, G68, rfl, hr70, hx71⟩
 refine ⟨_, rfl, ?_⟩
 have hX72 := hX44.tr hx71
 have hb73 := hb45.ext hx71
 refine q0 rfl rfl rfl (o_stp (cs' := [u67]) (us := [u67]) (v := (.agg [u67].toArray)) sz28 rfl rfl rfl (ones1 hr70.one) hX72.pins hb73 (Nat.le_of_ble_eq_true rfl) rfl (fun w74 hb75 hp76 hg77 hz78 => ?_))
 have hX79 := hX72.write hp76 hg77 ((lo_box hlo8))
 refine qe (s_then ?_)
 exact wp_ret (s_ret (c_retc (cs := [u67]) rfl rfl rfl ag28 sz28 (fun j u hj => by rw [Nat.zero_add]; exact hb75.cell hj) (⟨_, _, _, rfl, hr70, goodP_zF, (by decide), hX79⟩)))

end DV2
end Go.Proofs.YtkfgdhanaijddaaGreatDoor

set_option maxRecDepth 20000
set_option maxHeartbeats 2000000
namespace Go.Proofs.YtkfgdhanaijddaaGreatDoor
namespace N1
open Go.RowKit Go.GL Go.Proofs
open Go.Proofs.YtkfgdhanaijddaaGreatDoor.B1
open Go.Proofs.YtkfgdhanaijddaaGreatDoor.C1
open Go.Proofs.YtkfgdhanaijddaaGreatDoor.D1
open Go.Proofs.YtkfgdhanaijddaaGreatDoor.E1
end N1
end Go.Proofs.YtkfgdhanaijddaaGreatDoor

set_option maxRecDepth 20000
set_option maxHeartbeats 2000000
namespace Go.Proofs.YtkfgdhanaijddaaGreatDoor
namespace N2
open Go.RowKit Go.GL Go.Proofs
open Go.Proofs.YtkfgdhanaijddaaGreatDoor.B1
open Go.Proofs.YtkfgdhanaijddaaGreatDoor.C1
open Go.Proofs.YtkfgdhanaijddaaGreatDoor.D1
open Go.Proofs.YtkfgdhanaijddaaGreatDoor.E1





theorem top_spec {w : World} {G : Pin} {v : Value} {ns : List Nd} (hP : Pins G w) (hv : RSl eNode G v ns) (hn : 1 ≤ ns.length) :
  Calls Tryz.prog 76 [(.agg [v].toArray)].toArray w fun e w' => ∃ (u v : Value) (G' : Pin), e = .returned (.agg [u, v].toArray) ∧ RSl eInt G' u (lastN ns).l ∧ RSl eInt G' v (lastN ns).r ∧ Ext noS G w G' w' := by
 refine s_enter (n := 11) Tryz.func76 Tryz.ntmps76 rfl rfl ?_
 have hX0 : Ext noS G w G w := Ext.refl hP
 have hm := hv.max
 have hlast : ((ns.length : Int) - 1).toNat = ns.length - 1 := by omega
 refine s_seq (c_reg ?_)
 refine q1 rfl rfl rfl (o_box [v] (v := (.agg [v].toArray)) rfl rfl hX0.pins (fun b1 w2 hk3 hb4 hp5 hl6 => ?_))
 have hX7 := hX0.step hp5 hl6
 have hlo8 : w.heap.size ≤ b1 := by have := hX0.size; omega
 obtain ⟨G9, hle10, hX11, hbp12, hf13⟩ := hb4.shut hX7 hlo8
 refine q1 rfl rfl rfl (o_alloc [(.slice none 0 0), (.slice none 0 0)] zr68 rfl hX11.pins (fun b14 w15 hk16 hb17 hp18 hl19 => ?_))
 have hX20 := hX11.step hp18 hl19
 have hlo21 : w.heap.size ≤ b14 := by have := hX11.size; omega
 refine qe (s_then (s_seq (c_reg ?_)))
 refine qd rfl rfl rfl (r_fldp (k := 0) rfl Tryz.underlying28 rfl nz26 rfl) (qd rfl rfl rfl (r_ldp1 (u := v) ag26 rfl (hX20.pins _ _ _ (hbp12 0 _ rfl))) (qd rfl rfl rfl (r_fldp (k := 0) rfl Tryz.underlying28 rfl nz26 rfl) (qd rfl rfl rfl (r_ldp1 (u := v) ag26 rfl (hX20.pins _ _ _ (hbp12 0 _ rfl))) (qd rfl rfl rfl (run_len Tryz.underlying26 (v := v) rfl hv) (qd rfl rfl rfl (r_sub rfl rfl (by omega)) (qd rfl rfl rfl (run_idx Tryz.underlying26 sz68 (v := v) rfl rfl hv (by omega) (by omega)) ?_))))))
 obtain ⟨u22, u23, hr24, hr25, hl26⟩ := nm_node (hv.at (z := ((ns.length : Int) - 1)) (by omega) (by omega)) (j := ((ns.length : Int) - 1).toNat) rfl
 have hm27 := hr24.max
 have hm28 := hr25.max
 refine qd rfl rfl rfl (hl26 ag68 sz68 rfl (Pins.of_le hX20.pins hle10)) (q0 rfl rfl rfl (o_stp (cs' := [u22, u23]) (us := [u22, u23]) (v := (.agg [u22, u23].toArray)) sz68 rfl rfl rfl (ones2 hr24.one hr25.one) hX20.pins hb17 (Nat.le_of_ble_eq_true rfl) rfl (fun w29 hb30 hp31 hg32 hz33 => ?_)))
 have hX34 := hX20.write hp31 hg32 ((lo_box hlo21))
 refine qe (s_then ?_)
 refine wp_ret (s_ret (c_retc (cs := [u22, u23]) rfl rfl rfl ag68 sz68 (fun j u hj => by rw [Nat.zero_add]; exact hb30.cell hj) ?_))
 unfold lastN
 rw [← hlast]
 exact ⟨_, _, _, rfl, (hr24.mono hle10), (hr25.mono hle10), hX34⟩

end N2
end Go.Proofs.YtkfgdhanaijddaaGreatDoor

set_option maxRecDepth 20000
set_option maxHeartbeats 2000000
namespace Go.Proofs.YtkfgdhanaijddaaGreatDoor
namespace PQ1
open Go.RowKit Go.GL Go.Proofs
open Go.Proofs.YtkfgdhanaijddaaGreatDoor.B1
open Go.Proofs.YtkfgdhanaijddaaGreatDoor.C1
open Go.Proofs.YtkfgdhanaijddaaGreatDoor.E1
open Go.Proofs.YtkfgdhanaijddaaGreatDoor.N1
open Go.Proofs.YtkfgdhanaijddaaGreatDoor.N2








theorem mk3 : (Tryz.prog.info? 3).map (fun i => (i.size, i.bytes, i.zero)) = some (1, 8, some (.int .i64 0)) := by kernel_rfl








theorem pl28 : (Tryz.prog.underlying 28).bind (placesD Tryz.prog) = some [(0, 1)] := by kernel_rfl
theorem pl68 : (Tryz.prog.underlying 68).bind (placesD Tryz.prog) = some [(0, 1), (1, 1)] := by kernel_rfl






theorem renamed_spec {w : World} {G : Pin} {u v : Value} {xs ys : List Int} (hP : Pins G w) (hu : RSl eInt G u xs) (hv : RSl eInt G v ys) (hs : xs.length ≤ 1048576) (hb : ∀ i, i < xs.length → 0 ≤ xs.getD i 0 ∧ xs.getD i 0 < ys.length) :
  Calls Tryz.prog 127 [u, v].toArray w fun e w' => ∃ (u : Value) (G' : Pin), e = .returned u ∧ Own eInt 3 G' w' w.heap.size u (atL ys xs) ∧ Ext noS G w G' w' := by
 refine s_enter (n := 27) Tryz.func127 Tryz.ntmps127 rfl rfl ?_
 have hX0 : Ext noS G w G w := Ext.refl hP
 have hm := hu.max
 have hal : (atL ys xs).length = xs.length := at_length
 have hrl : (List.replicate xs.length (0 : Int)).length = xs.length := List.length_replicate
 refine s_seq (c_reg ?_)
 refine qd rfl rfl rfl (r_assign (v := (.slice none 0 0)) rfl) (qe (s_then (s_seq (c_reg ?_))))
 refine qd rfl rfl rfl (r_move (v := u) rfl) (qd rfl rfl rfl (run_len Tryz.underlying57 (v := u) rfl hu) (q1 rfl rfl rfl (o_make (E := eInt) 0 8 (.int .i64 0) Tryz.underlying57 mk3 (fun _ => rfl) rfl rfl hX0.pins (by omega) (by omega) (by omega) (fun u1 w2 ho3 hp4 hl5 hk6 => ?_))))
 have hX7 := hX0.step hp4 hl5
 have ho8 : Own eInt 3 G w2 w.heap.size u1 (List.replicate xs.length 0) := ho3.weaken hX0.size
 have hm9 : (List.replicate xs.length 0).length = xs.length := List.length_replicate ..
 refine qd rfl rfl rfl (r_assign (v := u1) rfl) (qe (s_then (s_seq (s_seq (c_reg ?_)))))
 refine qd rfl rfl rfl (r_move (v := u) rfl) (qd rfl rfl rfl (run_len Tryz.underlying57 (v := u) rfl hu) (qd rfl rfl rfl (r_move (v := (.int .i64 0)) rfl) (qe (s_then ?_))))
 refine s_blk (s_loop (fun (k : Nat) (en : Nat → Value) (W : World) => ∃ (env1 : Nat → Value) (j : Nat) (os : List Int), en = (upd (upd (upd (upd (upd (upd env1 1 v) 4 (.slice none 0 0)) 5 u1) 11 u) 12 (.int .i64 (xs.length : Int))) 13 (.int .i64 (j : Int))) ∧ k = xs.length - j ∧ Ext noS G w G W ∧ (j ≤ xs.length) ∧ (os = (atL ys xs).take j ++ (List.replicate xs.length 0).drop j) ∧ (os.length = xs.length) ∧ (Own eInt 3 G W w.heap.size u1 (os))) _ ⟨_, 0, List.replicate xs.length 0, (packS (x := 13) (packS (x := 12) (packS (x := 11) (packS (x := 5) (packS (x := 4) (pack1 (x := 1) rfl) rfl) rfl) rfl) rfl) rfl), rfl, hX7, Nat.zero_le _, rfl, hrl, ho8⟩ ?_)
 rintro k10 _ w11 ⟨env1, j, os, rfl, hk12, hX13, hj, hr, hol, hw14⟩
 refine s_seq (c_reg ?_)
 refine qd rfl rfl rfl (r_lss rfl rfl) (qe (s_then (s_seq ?_)))
 refine c_ifd (p := ((j : Int) : Int) < (xs.length : Int)) rfl rfl (fun h15 => ?_) (fun h15 => ?_)
 have hbj := hb j (by omega)
 refine wp_skip (s_then (s_seq ?_))
 refine s_blk (s_seq (c_reg ?_))
 refine qd rfl rfl rfl (r_move (v := (.int .i64 (j : Int))) rfl) (qd rfl rfl rfl (run_idx Tryz.underlying57 sz3 (v := u) rfl rfl hu (by omega) (by omega)) (qd rfl rfl rfl (run_load_int (r := xs.getD j 0) rfl ag3 (z := (j : Int)) rfl hu hX13.pins (by omega) (by omega)) (qd rfl rfl rfl (r_assign (v := (.int .i64 (j : Int))) rfl) (qd rfl rfl rfl (r_assign (v := (.int .i64 (xs.getD j 0))) rfl) (qe (s_then (c_reg ?_)))))))
 refine qd rfl rfl rfl (r_move (v := u1) rfl) (qd rfl rfl rfl (r_move (v := (.int .i64 (j : Int))) rfl) (qd rfl rfl rfl (r_move (v := v) rfl) (qd rfl rfl rfl (r_move (v := (.int .i64 (xs.getD j 0))) rfl) (qd rfl rfl rfl (run_idx Tryz.underlying57 sz3 (v := v) rfl rfl hv (by omega) (by omega)) (qd rfl rfl rfl (run_load_int (r := ys.getD (xs.getD j 0).toNat 0) rfl ag3 (z := (xs.getD j 0)) rfl hv hX13.pins (by omega) (by omega)) (qd rfl rfl rfl (run_idx Tryz.underlying57 sz3 (v := u1) rfl rfl hw14.read (by omega) (by omega)) (q0 rfl rfl rfl (o_set (E := eInt) (v := u1) (u := (.int .i64 (ys.getD (xs.getD j 0).toNat 0))) (z := (j : Int)) (ys.getD (xs.getD j 0).toNat 0) sz3 rfl rfl rfl rfl hX13.pins hw14 (by omega) (by omega) (fun w16 ho17 hp18 hg19 hz20 => ?_)))))))))
 have hX21 := hX13.write hp18 hg19 ((lo_own hw14))
 refine qe (s_blkN (s_then (c_reg ?_)))
 refine qd rfl rfl rfl (r_add rfl rfl (by omega)) (qd rfl rfl rfl (r_move (v := (.int .i64 ((j : Int) + 1))) rfl) (qe (s_lopN (⟨_, ?_, _, rfl, _, j + 1, os.set j (ys.getD (xs.getD j 0).toNat 0), (packS (x := 13) (packS (x := 12) (packS (x := 11) (packS (x := 5) (packS (x := 4) (pack1 (x := 1) rfl) rfl) rfl) rfl) rfl) rfl), rfl, hX21, (by omega), (by rw [hr]; exact cur_set 0 (by omega) (by omega) (at_getD (by omega))), ((List.length_set ..).trans hol), ho17⟩))))
 omega
 refine wp_exit (s_thenE (s_lopE (s_blkE (s_then (s_seq (c_reg ?_))))))
 refine qd rfl rfl rfl (r_move (v := u1) rfl) (qd rfl rfl rfl (r_assign (v := u1) rfl) (qe (s_then ?_)))
 refine wp_ret (s_ret (c_ret1 (v := u1) rfl rfl rfl ?_))
 rw [cur_end (by omega) (by omega)] at hr
 exact ⟨_, _, rfl, (by rw [← hr]; exact hw14), hX13⟩

theorem part_dspec {w : World} {G : Pin} {v : Value} {ns : List Nd} {m : Nat} (hP : Pins G w) (hv : RSl eNode G v ns) (hg : GoodP ns) (hm : m < ns.length) :
  Calls Tryz.prog 75 [(.agg [v].toArray), (.int .i64 (m : Int))].toArray w fun e w' => ∃ (u : Value) (G' : Pin), e = .returned (.agg [u].toArray) ∧ DForm 68 3 G' w' w.heap.size w'.heap.size u (partI ns m) ∧ Ext noS G w G' w' := by
 refine s_enter (n := 54) Tryz.func75 Tryz.ntmps75 rfl rfl ?_
 have hX0 : Ext noS G w G w := Ext.refl hP
 have hlv0 : Lvs 3 G w w.heap.size w.heap.size [] := Lvs.nil
 have hhi := hg.hi
 obtain ⟨hwf, -, -⟩ := wf_good hg
 refine s_seq (c_reg ?_)
 refine q1 rfl rfl rfl (o_box [v] (v := (.agg [v].toArray)) rfl rfl hX0.pins (fun b1 w2 hk3 hb4 hp5 hl6 => ?_))
 have hX7 := hX0.step hp5 hl6
 have hlv8 := (hlv0.below hl6).top
 have ha9 : ApL [] (some b1) := ApL.fresh hlv0 (fun k hk => by rw [(congrArg some hk3)] at hk; cases hk; exact Nat.le_refl _)
 have hlo10 : w.heap.size ≤ b1 := by have := hX0.size; omega
 obtain ⟨G11, hle12, hX13, hbp14, hf15⟩ := hb4.shut hX7 hlo10
 have hlv16 := hlv8.more hle12 hf15 ha9
 refine q1 rfl rfl rfl (o_alloc [(.slice none 0 0)] zr28 rfl hX13.pins (fun b17 w18 hk19 hb20 hp21 hl22 => ?_))
 have hX23 := hX13.step hp21 hl22
 have hlv24 := (hlv16.below hl22).top
 have ha25 : ApL [] (some b17) := ApL.fresh hlv16 (fun k hk => by rw [(congrArg some hk19)] at hk; cases hk; exact Nat.le_refl _)
 have hlo26 : w.heap.size ≤ b17 := by have := hX13.size; omega
 refine qe (s_then (s_seq (c_reg ?_)))
 refine qd rfl rfl rfl (r_fldp (k := 0) rfl Tryz.underlying28 rfl nz26 rfl) (qd rfl rfl rfl (r_ldp1 (u := v) ag26 rfl (hX23.pins _ _ _ (hbp14 0 _ rfl))) (qd rfl rfl rfl (r_move (v := (.int .i64 (m : Int))) rfl) (q1 rfl rfl rfl (o_call (vs := [v, (.int .i64 (m : Int))]) Tryz.func109 nm109 rfl rfl rfl ?_))))
 refine Calls.mono (used_spec hX23.pins (hv.mono hle12) hwf.ok.opts (by omega)) ?_
 rintro _ w29 ⟨u27, G28, rfl, ho30, hx31⟩
 refine ⟨_, rfl, ?_⟩
 have hX32 := hX23.tr hx31
 have hb33 := hb20.ext hx31
 have hlv34 := (hlv24.ext hx31).top
 have ha36 : ApL [] u27.ownBlock := ApL.fresh hlv24 (fun k hk => (ho30.lt k hk).1)
 have ho37 : Own eBool 4 G28 w29 w.heap.size u27 (usedM ns ((m : Int)).toNat) := ho30.weaken hX23.size
 refine qd rfl rfl rfl (r_assign (v := u27) rfl) (qe (s_then (s_seq (c_reg ?_))))
 refine qd rfl rfl rfl (r_fldp (k := 0) rfl Tryz.underlying28 rfl nz26 rfl) (qd rfl rfl rfl (r_ldp1 (u := v) ag26 rfl ((Pins.of_le hX32.pins hx31.le) _ _ _ (hbp14 0 _ rfl))) (qd rfl rfl rfl (run_len Tryz.underlying26 (v := v) rfl hv) (q1 rfl rfl rfl (o_make (E := eInt) 0 8 (.int .i64 0) Tryz.underlying57 mk3 (fun _ => rfl) rfl rfl hX32.pins (by omega) (by omega) (by omega) (fun u38 w39 ho40 hp41 hl42 hk43 => ?_)))))
 have hX44 := hX32.step hp41 hl42
 have ho45 := ho37.below hl42
 have hb46 := hb33.below hl42
 have hlv47 := (hlv34.below hl42).top
 have ha48 : Apart u38.ownBlock u27.ownBlock := new_ne_own hk43 ho37.lt
 have ha49 : Apart u38.ownBlock (some b17) := new_ne_box hk43 hb33.lt
 have ha50 : ApL [] u38.ownBlock := ApL.fresh hlv34 (fun k hk => by rw [hk43] at hk; cases hk; exact Nat.le_refl _)
 have ho51 : Own eInt 3 G28 w39 w.heap.size u38 (List.replicate ns.length 0) := ho40.weaken hX32.size
 have hm52 : (List.replicate ns.length 0).length = ns.length := List.length_replicate ..
 refine qd rfl rfl rfl (r_assign (v := u38) rfl) (qe (s_then (s_seq (c_reg ?_))))
 refine q1 rfl rfl rfl (o_build0 (E := eVal2) (e := 68) Tryz.underlying26 sz68 hX44.pins (fun u53 w54 ho55 hp56 hl57 hk58 => ?_))
 have hX59 := hX44.step hp56 hl57
 have ho60 := ho45.below hl57
 have ho61 := ho51.below hl57
 have hb62 := hb46.below hl57
 have hlv63 := (hlv47.below hl57).top
 have ha64 : Apart u53.ownBlock u27.ownBlock := new_ne_own hk58 ho45.lt
 have ha65 : Apart u53.ownBlock u38.ownBlock := new_ne_own hk58 ho51.lt
 have ha66 : Apart u53.ownBlock (some b17) := new_ne_box hk58 hb46.lt
 have ha67 : ApL [] u53.ownBlock := ApL.fresh hlv47 (fun k hk => by rw [hk58] at hk; cases hk; exact Nat.le_refl _)
 have ho68 : Own eVal2 68 G28 w54 w.heap.size u53 ([]) := ho55.weaken hX44.size
 refine qd rfl rfl rfl (r_assign (v := u53) rfl) (qe (s_then (s_seq (s_seq (c_reg ?_)))))
 refine qd rfl rfl rfl (r_fldp (k := 0) rfl Tryz.underlying28 rfl nz26 rfl) (qd rfl rfl rfl (r_ldp1 (u := v) ag26 rfl ((Pins.of_le hX59.pins hx31.le) _ _ _ (hbp14 0 _ rfl))) (qd rfl rfl rfl (r_move (v := (.int .i64 (m : Int))) rfl) (qd rfl rfl rfl (r_add rfl rfl (by omega)) ?_)))
 obtain ⟨u69, hr70, hl71⟩ := name_slice hv (lo := none) (hi := (some ((m : Int) + 1))) (0) (((m : Int) + 1).toNat) (Or.inl ⟨rfl, rfl⟩) (Or.inr ⟨_, rfl, (by omega), rfl⟩) (by omega) (by omega)
 refine qd rfl rfl rfl (hl71 Tryz.underlying26 sz68 rfl rfl rfl) (qd rfl rfl rfl (run_len Tryz.underlying26 (v := u69) rfl hr70) (qd rfl rfl rfl (r_move (v := (.int .i64 0)) rfl) (qe (s_then ?_))))
 refine s_blk ?_
 have htl : ((ns.take ((m : Int) + 1).toNat).drop 0).length = m + 1 := by rw [List.drop_zero, List.length_take]; omega
 have hul : (usedM ns (m : Int).toNat).length = ns.length := by unfold usedM; rw [ugo_length]; simp
 refine s_loop (fun (k : Nat) (en : Nat → Value) (W : World) => ∃ (env1 : Nat → Value) (j : Nat) (nms : List Int) (nv : Value) (ps : List (Value × Value)) (LV : List Leaf) (GL1 : Pin), en = (upd (upd (upd (upd (upd (upd (upd env1 4 (.pointer (some ⟨b17, 0, none⟩))) 5 u27) 6 u38) 7 nv) 23 u69) 24 (.int .i64 (((ns.take ((m : Int) + 1).toNat).drop 0).length : Int))) 25 (.int .i64 (j : Int))) ∧ k = m + 1 - j ∧ Ext noS G w GL1 W ∧ Pin.le G28 GL1 ∧ (j ≤ m + 1) ∧ (PartOk (useU ns m) j nms) ∧ (nms.length = ns.length) ∧ (ps.length = posU (useU ns m) j) ∧ (LV = lvN ps (partN (useU ns m) ns j)) ∧ (Own eInt 3 GL1 W w.heap.size u38 (nms)) ∧ (Own eVal2 68 GL1 W w.heap.size nv (ps)) ∧ (Own eBool 4 GL1 W w.heap.size u27 (usedM ns ((m : Int)).toNat)) ∧ (Bx GL1 W b17 [(.slice none 0 0)]) ∧ (Apart u38.ownBlock nv.ownBlock) ∧ (Apart nv.ownBlock u27.ownBlock) ∧ (Apart nv.ownBlock (some b17)) ∧ (Lvs 3 GL1 W w.heap.size W.heap.size LV) ∧ (ApL LV u38.ownBlock) ∧ (ApL LV nv.ownBlock) ∧ (ApL LV u27.ownBlock) ∧ (ApL LV (some b17))) _ ⟨_, 0, List.replicate ns.length 0, u53, [], [], G28, (packS (x := 25) (packS (x := 24) (packS (x := 23) (packS (x := 7) (packS (x := 6) (packS (x := 5) (pack1 (x := 4) rfl) rfl) rfl) rfl) rfl) rfl) rfl), rfl, hX59, Pin.le_refl _, Nat.zero_le _, ⟨fun k hk => absurd hk (Nat.not_lt_zero k)⟩, (by simp), rfl, rfl, ho61, ho68, ho60, hb62, ha65.symm, ha64, ha66, hlv63, ha50, ha67, ha36, ha25⟩ ?_
 rintro k72 _ w73 ⟨env1, j, nms, nv, ps, LV, GL1, rfl, hk74, hX75, hlek72, hj, hnp, hnl, hpl, hLV, hw76, hw77, hw78, hw79, ha80, ha81, ha82, hlv83, ha84, ha85, ha86, ha87⟩
 refine s_seq (c_reg ?_)
 refine qd rfl rfl rfl (r_lss rfl rfl) (qe (s_then (s_seq ?_)))
 refine c_ifd (p := ((j : Int) : Int) < (((ns.take ((m : Int) + 1).toNat).drop 0).length : Int)) rfl rfl (fun h88 => ?_) (fun h88 => ?_)
 have hgj : ((ns.take ((m : Int) + 1).toNat).drop 0).getD j default = ns.getD j default := by rw [List.drop_zero, getD_take (by omega)]
 have hplo := posU_lower (useU ns m) j
 have hlj := hg.lenl (i := j) (by omega)
 have hrj := hg.lenr (i := j) (by omega)
 rw [← hgj] at hlj hrj
 refine wp_skip (s_then (s_seq ?_))
 refine s_blk (s_seq (c_reg ?_))
 refine qd rfl rfl rfl (r_move (v := (.int .i64 (j : Int))) rfl) (qd rfl rfl rfl (run_idx Tryz.underlying26 sz68 (v := u69) rfl rfl hr70 (by omega) (by omega)) ?_)
 obtain ⟨u89, u90, hr91, hr92, hl93⟩ := nm_node (hr70.at (z := (j : Int)) (by omega) (by omega)) (j := j) rfl
 have hm94 := hr91.max
 have hm95 := hr92.max
 refine qd rfl rfl rfl (hl93 ag68 sz68 rfl (Pins.of_le hX75.pins (Pin.le_trans (Pin.le_trans hle12 hx31.le) hlek72))) (q1 rfl rfl rfl (o_alloc [(.slice none 0 0), (.slice none 0 0)] zr68 rfl hX75.pins (fun b96 w97 hk98 hb99 hp100 hl101 => ?_)))
 have hX102 := hX75.step hp100 hl101
 have ho103 := hw76.below hl101
 have ho104 := hw77.below hl101
 have ho105 := hw78.below hl101
 have hb106 := hw79.below hl101
 have hlv107 := (hlv83.below hl101).top
 have ha108 : Apart (some b96) u38.ownBlock := new_ne_own (congrArg some hk98) hw76.lt
 have ha109 : Apart (some b96) nv.ownBlock := new_ne_own (congrArg some hk98) hw77.lt
 have ha110 : Apart (some b96) u27.ownBlock := new_ne_own (congrArg some hk98) hw78.lt
 have ha111 : Apart (some b96) (some b17) := new_ne_box (congrArg some hk98) hw79.lt
 have ha112 : ApL LV (some b96) := ApL.fresh hlv83 (fun k hk => by rw [(congrArg some hk98)] at hk; cases hk; exact Nat.le_refl _)
 have hlo113 : w.heap.size ≤ b96 := by have := hX75.size; omega
 refine qd rfl rfl rfl (r_assign (v := (.int .i64 (j : Int))) rfl) (q0 rfl rfl rfl (o_stp (cs' := [u89, u90]) (us := [u89, u90]) (v := (.agg [u89, u90].toArray)) sz68 rfl rfl rfl (ones2 hr91.one hr92.one) hX102.pins hb99 (Nat.le_of_ble_eq_true rfl) rfl (fun w114 hb115 hp116 hg117 hz118 => ?_)))
 have hX119 := hX102.write hp116 hg117 ((lo_box hlo113))
 have ho120 := ho103.keptA hg117 ha108.symm
 have ho121 := ho104.keptA hg117 ha109.symm
 have ho122 := ho105.keptA hg117 ha110.symm
 have hb123 := hb106.keptA hg117 ha111.symm
 have hlv124 := (hlv107.kept hg117 ha112).top
 obtain ⟨G125, hle126, hX127, hbp128, hf129⟩ := hb115.shut hX119 hlo113
 have ho130 := ho120.moreA hle126 hf129 ha108.symm
 have ho131 := ho121.moreA hle126 hf129 ha109.symm
 have ho132 := ho122.moreA hle126 hf129 ha110.symm
 have hb133 := hb123.moreA hf129 ha111.symm
 have hlv134 := hlv124.more hle126 hf129 ha112
 refine qe (s_then (s_seq (c_reg ?_)))
 refine qd rfl rfl rfl (r_move (v := u27) rfl) (qd rfl rfl rfl (r_move (v := (.int .i64 (j : Int))) rfl) (qd rfl rfl rfl (run_idx Tryz.underlying125 sz4 (v := u27) rfl rfl ho132.read (by omega) (by omega)) (qd rfl rfl rfl (run_load_bool (r := (usedM ns ((m : Int)).toNat).getD j false) rfl ag4 (z := (j : Int)) rfl ho132.read (Gadd.pins hX127.pins u27) (by omega) (by omega)) (qe (s_then ?_)))))
 refine c_if rfl rfl (fun h135 => ?_) (fun h135 => ?_)
 refine s_seq (c_reg ?_)
 have hpo := part_opts hg hm (show j ≤ m by omega) h135
 refine qd rfl rfl rfl (r_move (v := u38) rfl) (qd rfl rfl rfl (r_move (v := (.int .i64 (j : Int))) rfl) (qd rfl rfl rfl (r_move (v := nv) rfl) (qd rfl rfl rfl (run_len Tryz.underlying26 (v := nv) rfl ho131.read) (qd rfl rfl rfl (run_idx Tryz.underlying57 sz3 (v := u38) rfl rfl ho130.read (by omega) (by omega)) (q0 rfl rfl rfl (o_set (E := eInt) (v := u38) (u := (.int .i64 (ps.length : Int))) (z := (j : Int)) ((ps.length : Int)) sz3 rfl rfl rfl rfl hX127.pins ho130 (by omega) (by omega) (fun w136 ho137 hp138 hg139 hz140 => ?_)))))))
 have hX141 := hX127.write hp138 hg139 ((lo_own ho130))
 have ho142 := ho131.keptA hg139 ha80.symm
 have ho143 := ho132.keptA hg139 ha48.symm
 have hb144 := hb133.keptA hg139 ha49.symm
 have hlv145 := (hlv134.kept hg139 ha84).top
 refine qe (s_then ?_)
 refine c_draw (S := fun wz => Pins G125 wz) (last := 13) (by kernel_rfl) rfl ?_
 have hl146 : Below w136.heap.size w136 w136.drew := (Below.refl _ _).drew
 have hp147 := hX141.pins.below hl146
 have hX148 := hX141.step hp147 hl146
 have ho149 := ho137.below hl146
 have ho150 := ho142.below hl146
 have ho151 := ho143.below hl146
 have hb152 := hb144.below hl146
 have hlv153 := (hlv145.below hl146).top
 refine dr_take (i := 0) rfl rfl rfl (want_none rfl _) (by kernel_rfl) (fun _ _ => r_move (v := nv) rfl) hX148.pins (dr_take (i := 1) rfl rfl rfl (want_none rfl _) (by kernel_rfl) (fun _ _ => r_fldp (k := 0) rfl Tryz.underlying68 rfl nz57 rfl) hX148.pins (dr_take (i := 2) rfl rfl rfl (want_none rfl _) (by kernel_rfl) (fun _ hS => r_ldp1 (u := u89) ag57 rfl (hS _ _ _ (hbp128 0 _ rfl))) hX148.pins (dr_take (i := 3) rfl rfl rfl (want_none rfl _) (by kernel_rfl) (fun _ _ => r_move (v := u38) rfl) hX148.pins (dr_take (i := 5) rfl rfl rfl (want_none rfl _) (by kernel_rfl) (fun _ _ => r_fldp (k := 1) rfl Tryz.underlying68 rfl nz57 rfl) hX148.pins (dr_take (i := 6) rfl rfl rfl (want_none rfl _) (by kernel_rfl) (fun _ hS => r_ldp1 (u := u90) ag57 rfl (hS _ _ _ (hbp128 1 _ rfl))) hX148.pins (dr_take (i := 7) rfl rfl rfl (want_none rfl _) (by kernel_rfl) (fun _ _ => r_move (v := u38) rfl) hX148.pins (dr_one (i := 4) (by kernel_rfl) (drOp1 (i := 4) rfl rfl rfl (want_none rfl _) (o_call (vs := [u89, u38]) Tryz.func127 nm127 rfl rfl rfl ?_)))))))))
 refine Calls.mono (renamed_spec (Gadd.pins hX148.pins u38) ((hr91.mono (Pin.le_trans (Pin.le_trans (Pin.le_trans hle12 hx31.le) hlek72) hle126)).mono (Gadd.le _ _ _)) ho149.read (by omega) (fun i hi => by rw [hgj] at hi ⊢; have h1 := hpo.1 _ (getD_mem (d := (0 : Int)) hi); rw [List.length_set]; omega)) ?_
 rintro _ w156 ⟨u154, G155, rfl, ho157, hx158⟩
 refine ⟨_, rfl, ?_⟩
 have hx159 := deep_back hX148.pins hx158
 have ho160 := ho157.anti flat_int (Pin.le_trans (Gadd.le G125 w136.drew u38) hx158.le)
 have hX161 := hX148.step hx159.pins hx159.below
 have ho162 := ho149.below hx159.below
 have ho163 := ho150.below hx159.below
 have ho164 := ho151.below hx159.below
 have hb165 := hb152.below hx159.below
 have hlv166 := (hlv153.below hx159.below).top
 have ha167 : Apart u154.ownBlock u38.ownBlock := made_ne_own ho160.lt ho149.lt
 have ha168 : Apart u154.ownBlock nv.ownBlock := made_ne_own ho160.lt ho150.lt
 have ha169 : Apart u154.ownBlock u27.ownBlock := made_ne_own ho160.lt ho151.lt
 have ha170 : Apart u154.ownBlock (some b17) := made_ne_box ho160.lt hb152.lt
 have ha171 : ApL LV u154.ownBlock := ApL.fresh hlv153 (fun k hk => (ho160.lt k hk).1)
 have ho172 : Own eInt 3 G125 w156 w.heap.size u154 (atL ((nms).set j (ps.length : Int)) ((((ns.take ((m : Int) + 1).toNat).drop 0).getD j default).l)) := ho160.weaken hX148.size
 have hm173 : (atL ((nms).set j (ps.length : Int)) ((((ns.take ((m : Int) + 1).toNat).drop 0).getD j default).l)).length = ((((ns.take ((m : Int) + 1).toNat).drop 0).getD j default).l).length := at_length
 refine ⟨fun _ => hX161.pins, ?_⟩
 refine dr_one (i := 8) (by kernel_rfl) (drOp1 (i := 8) rfl rfl rfl (want_none rfl _) (o_call (vs := [u90, u38]) Tryz.func127 nm127 rfl rfl rfl ?_))
 refine Calls.mono (renamed_spec (Gadd.pins hX161.pins u38) ((hr92.mono (Pin.le_trans (Pin.le_trans (Pin.le_trans hle12 hx31.le) hlek72) hle126)).mono (Gadd.le _ _ _)) ho162.read (by omega) (fun i hi => by rw [hgj] at hi ⊢; have h1 := hpo.2 _ (getD_mem (d := (0 : Int)) hi); rw [List.length_set]; omega)) ?_
 rintro _ w176 ⟨u174, G175, rfl, ho177, hx178⟩
 refine ⟨_, rfl, ?_⟩
 have hx179 := deep_back hX161.pins hx178
 have ho180 := ho177.anti flat_int (Pin.le_trans (Gadd.le G125 w156 u38) hx178.le)
 have hX181 := hX161.step hx179.pins hx179.below
 have ho182 := ho162.below hx179.below
 have ho183 := ho163.below hx179.below
 have ho184 := ho164.below hx179.below
 have ho185 := ho172.below hx179.below
 have hb186 := hb165.below hx179.below
 have hlv187 := (hlv166.below hx179.below).top
 have ha188 : Apart u174.ownBlock u38.ownBlock := made_ne_own ho180.lt ho162.lt
 have ha189 : Apart u174.ownBlock nv.ownBlock := made_ne_own ho180.lt ho163.lt
 have ha190 : Apart u174.ownBlock u27.ownBlock := made_ne_own ho180.lt ho164.lt
 have ha191 : Apart u174.ownBlock u154.ownBlock := made_ne_own ho180.lt ho172.lt
 have ha192 : Apart u174.ownBlock (some b17) := made_ne_box ho180.lt hb165.lt
 have ha193 : ApL LV u174.ownBlock := ApL.fresh hlv166 (fun k hk => (ho180.lt k hk).1)
 have ho194 : Own eInt 3 G125 w176 w.heap.size u174 (atL ((nms).set j (ps.length : Int)) ((((ns.take ((m : Int) + 1).toNat).drop 0).getD j default).r)) := ho180.weaken hX161.size
 have hm195 : (atL ((nms).set j (ps.length : Int)) ((((ns.take ((m : Int) + 1).toNat).drop 0).getD j default).r)).length = ((((ns.take ((m : Int) + 1).toNat).drop 0).getD j default).r).length := at_length
 refine ⟨fun _ => hX181.pins, ?_⟩
 refine dr_take (i := 9) rfl rfl rfl (want_none rfl _) (by kernel_rfl) (fun _ _ => r_build [(.slice none 0 0), (.slice none 0 0)] [u154, u174] [(0, u154, [u154]), (1, u174, [u174])] Tryz.underlying68 zr68 rfl pl68 rfl (List.forall_mem_cons.2 ⟨(cells_one ho185.one), (List.forall_mem_cons.2 ⟨(cells_one ho194.one), (fun _ h => by cases h)⟩)⟩) rfl) hX181.pins (dr_one (i := 10) (by kernel_rfl) (drOp1 (i := 10) rfl rfl rfl (want_none rfl _) (o_build1 (E := eVal2) (e := 68) [u154, u174] ((u154, u174) : Value × Value) Tryz.underlying26 sz68 zr68 ⟨rfl, ho185.one, ho194.one⟩ rfl (by decide) hX181.pins (fun u196 w197 ho198 hp199 hl200 hk201 => ?_))))
 have hX202 := hX181.step hp199 hl200
 have ho203 := ho182.below hl200
 have ho204 := ho183.below hl200
 have ho205 := ho184.below hl200
 have ho206 := ho185.below hl200
 have ho207 := ho194.below hl200
 have hb208 := hb186.below hl200
 have hlv209 := (hlv187.below hl200).top
 have ho217 : Own eVal2 68 G125 w197 w.heap.size u196 ([((u154, u174) : Value × Value)]) := ho198.weaken hX181.size
 refine ⟨fun _ => hX202.pins, ?_⟩
 refine dr_one (i := 11) (by kernel_rfl) (drOp1 (i := 11) rfl rfl rfl (want_none rfl _) (o_append (E := eVal2) (v := nv) (u := u196) 48 Tryz.underlying26 ap68 (by decide) rfl rfl hX202.pins ho204 ho217.src (by first | omega | (rw [List.nil_append]; omega) | (rw [List.length_nil]; omega) | (rw [List.length_append]; omega) | (simp; done) | (simp; omega) | (simp only [List.length_append, List.length_cons, List.length_nil]; omega)) (by first | omega | (rw [List.nil_append]; omega) | (rw [List.length_nil]; omega) | (rw [List.length_append]; omega) | (simp; done) | (simp; omega) | (simp only [List.length_append, List.length_cons, List.length_nil]; omega)) (hX202.size) (fun u218 w219 ho220 hp221 hg222 hw223 => ?_)))
 have hX224 := hX202.write hp221 hg222 ((lo_own ho204))
 have ho225 := ho203.keptA hg222 ha80
 have ho226 := ho205.keptA hg222 ha81.symm
 have ho227 := ho206.keptA hg222 ha168
 have ho228 := ho207.keptA hg222 ha189
 have hb230 := hb208.keptA hg222 ha82.symm
 have hlv231 := (hlv209.kept hg222 ha85).top
 have ha232 : Apart u38.ownBlock u218.ownBlock := app_ne_own ha80 hw223 ho203.lt
 have ha233 : Apart u27.ownBlock u218.ownBlock := app_ne_own ha81.symm hw223 ho205.lt
 have ha234 : Apart u154.ownBlock u218.ownBlock := app_ne_own ha168 hw223 ho206.lt
 have ha235 : Apart u174.ownBlock u218.ownBlock := app_ne_own ha189 hw223 ho207.lt
 have ha237 : Apart (some b17) u218.ownBlock := app_ne_box ha82.symm hw223 hb208.lt
 have ha238 : ApL LV u218.ownBlock := ApL.app hlv209 ha85 hw223
 have hm239 : (ps ++ ([((u154, u174) : Value × Value)])).length = ps.length + 1 := List.length_append
 refine ⟨fun _ => hX224.pins, ?_⟩
 refine dr_take (i := 12) rfl rfl rfl (want_none rfl _) (by kernel_rfl) (fun _ _ => r_assign (v := u218) rfl) hX224.pins (dr_end (by kernel_rfl) (s_blkN (s_then (c_reg ?_))))
 refine qd rfl rfl rfl (r_add rfl rfl (by omega)) (qd rfl rfl rfl (r_move (v := (.int .i64 ((j : Int) + 1))) rfl) (qe (s_lopN ?_)))
 have hlv240 := hlv231.add ho227 ha171
 have ha241 : ApL (LV ++ [(u154, atL ((nms).set j (ps.length : Int)) ((((ns.take ((m : Int) + 1).toNat).drop 0).getD j default).l))]) u38.ownBlock := ha84.add ha167
 have ha242 : ApL (LV ++ [(u154, atL ((nms).set j (ps.length : Int)) ((((ns.take ((m : Int) + 1).toNat).drop 0).getD j default).l))]) u27.ownBlock := ha86.add ha169
 have ha243 : ApL (LV ++ [(u154, atL ((nms).set j (ps.length : Int)) ((((ns.take ((m : Int) + 1).toNat).drop 0).getD j default).l))]) u174.ownBlock := ha193.add ha191.symm
 have ha244 : ApL (LV ++ [(u154, atL ((nms).set j (ps.length : Int)) ((((ns.take ((m : Int) + 1).toNat).drop 0).getD j default).l))]) u218.ownBlock := ha238.add ha234
 have ha245 : ApL (LV ++ [(u154, atL ((nms).set j (ps.length : Int)) ((((ns.take ((m : Int) + 1).toNat).drop 0).getD j default).l))]) (some b17) := ha87.add ha170
 have hlv246 := hlv240.add ho228 ha243
 have ha247 : ApL ((LV ++ [(u154, atL ((nms).set j (ps.length : Int)) ((((ns.take ((m : Int) + 1).toNat).drop 0).getD j default).l))]) ++ [(u174, atL ((nms).set j (ps.length : Int)) ((((ns.take ((m : Int) + 1).toNat).drop 0).getD j default).r))]) u38.ownBlock := ha241.add ha188
 have ha248 : ApL ((LV ++ [(u154, atL ((nms).set j (ps.length : Int)) ((((ns.take ((m : Int) + 1).toNat).drop 0).getD j default).l))]) ++ [(u174, atL ((nms).set j (ps.length : Int)) ((((ns.take ((m : Int) + 1).toNat).drop 0).getD j default).r))]) u27.ownBlock := ha242.add ha190
 have ha249 : ApL ((LV ++ [(u154, atL ((nms).set j (ps.length : Int)) ((((ns.take ((m : Int) + 1).toNat).drop 0).getD j default).l))]) ++ [(u174, atL ((nms).set j (ps.length : Int)) ((((ns.take ((m : Int) + 1).toNat).drop 0).getD j default).r))]) u218.ownBlock := ha244.add ha235
 have ha250 : ApL ((LV ++ [(u154, atL ((nms).set j (ps.length : Int)) ((((ns.take ((m : Int) + 1).toNat).drop 0).getD j default).l))]) ++ [(u174, atL ((nms).set j (ps.length : Int)) ((((ns.take ((m : Int) + 1).toNat).drop 0).getD j default).r))]) (some b17) := ha245.add ha192
 refine ⟨_, ?_, _, rfl, _, j + 1, (nms).set j (ps.length : Int), u218, ps ++ [(u154, u174)], (LV ++ [(u154, atL ((nms).set j (ps.length : Int)) ((((ns.take ((m : Int) + 1).toNat).drop 0).getD j default).l))]) ++ [(u174, atL ((nms).set j (ps.length : Int)) ((((ns.take ((m : Int) + 1).toNat).drop 0).getD j default).r))], G125, (packS (x := 25) (packS (x := 24) (packS (x := 23) (packS (x := 7) (packS (x := 6) (packS (x := 5) (pack1 (x := 4) rfl) rfl) rfl) rfl) rfl) rfl) rfl), rfl, hX224, (Pin.le_trans hlek72 hle126), (by omega), (hnp.step (by omega) (by omega)), ((List.length_set ..).trans hnl), (by rw [posU_succ, if_pos (show useU ns m j = true from h135), List.length_append]; simp; omega), (part_leaf hgj hLV hpl h135 (hnp.step (by omega) (by omega)) hpo.1 hpo.2), ho225, ho220, ho226, hb230, ha232, ha233.symm, ha237.symm, hlv246, ha247, ha249, ha248, ha250⟩
 omega
 refine wp_skip (s_blkN (s_then (c_reg ?_)))
 refine qd rfl rfl rfl (r_add rfl rfl (by omega)) (qd rfl rfl rfl (r_move (v := (.int .i64 ((j : Int) + 1))) rfl) (qe (s_lopN (⟨_, ?_, _, rfl, _, j + 1, nms, nv, ps, LV, G125, (packS (x := 25) (packS (x := 24) (packS (x := 23) (packS (x := 7) (packS (x := 6) (packS (x := 5) (pack1 (x := 4) rfl) rfl) rfl) rfl) rfl) rfl) rfl), rfl, hX127, (Pin.le_trans hlek72 hle126), (by omega), (hnp.skip h135), hnl, (by rw [posU_succ, if_neg (by rw [show useU ns m j = false from h135]; decide)]; exact hpl), (by rw [partN_no (show useU ns m j = false from h135)]; exact hLV), ho130, ho131, ho132, hb133, ha80, ha81, ha82, hlv134, ha84, ha85, ha86, ha87⟩))))
 omega
 refine wp_exit (s_thenE (s_lopE (s_blkE (s_then (s_seq (c_reg ?_))))))
 refine qd rfl rfl rfl (r_move (v := nv) rfl) (qd rfl rfl rfl (r_build [(.slice none 0 0)] [nv] [(0, nv, [nv])] Tryz.underlying28 zr28 rfl pl28 rfl (List.forall_mem_cons.2 ⟨(cells_one hw77.one), (fun _ h => by cases h)⟩) rfl) (q0 rfl rfl rfl (o_stp (cs' := [nv]) (us := [nv]) (v := (.agg [nv].toArray)) sz28 rfl rfl rfl (ones1 hw77.one) hX75.pins hw79 (Nat.le_of_ble_eq_true rfl) rfl (fun w251 hb252 hp253 hg254 hz255 => ?_))))
 have hX256 := hX75.write hp253 hg254 ((lo_box hlo26))
 have ho258 := hw77.keptA hg254 ha82
 have hlv260 := (hlv83.kept hg254 ha87).top
 refine qe (s_then ?_)
 refine wp_ret (s_ret (c_retc (cs := [nv]) rfl rfl rfl ag28 sz28 (fun j u hj => by rw [Nat.zero_add]; exact hb252.cell hj) ?_))
 have hap := ha85
 have hlv := hlv260
 have hjm : j = m + 1 := by omega
 subst hjm
 rw [hLV] at hap hlv
 exact ⟨_, _, rfl, ⟨ps, hpl.trans (partN_length _ _ _).symm, ho258, fun k hk => (ho258.lt k hk).2, hlv, hap⟩, hX256⟩

theorem part_dspecZ {w : World} {G : Pin} {v : Value} {ns : List Nd} {z : Int} (hP : Pins G w) (hv : RSl eNode G v ns) (hg : GoodP ns) (hz : 0 ≤ z ∧ z < ns.length) :
  Calls Tryz.prog 75 [(.agg [v].toArray), (.int .i64 z)].toArray w fun e w' => ∃ (u : Value) (G' : Pin), e = .returned (.agg [u].toArray) ∧ DForm 68 3 G' w' w.heap.size w'.heap.size u (partS ns z) ∧ Ext noS G w G' w' := by
 rw [part_eq hg hz]
 obtain ⟨m, hm⟩ : ∃ m : Nat, z = m := ⟨z.toNat, by omega⟩
 subst hm
 exact part_dspec hP hv hg (by omega)

theorem partsAt_dspec {w : World} {G : Pin} {v y : Value} {ns : List Nd} {l : List Int} (hP : Pins G w) (hv : RSl eNode G v ns) (hy : RSl eInt G y l) (hg : GoodP ns) (hb : ∀ i, i < l.length → 0 ≤ l.getD i 0 ∧ l.getD i 0 < ns.length) (hn : l.length ≤ 24) :
  Calls Tryz.prog 77 [(.agg [v].toArray), y].toArray w fun e w' => ∃ (u : Value) (G' : Pin), e = .returned u ∧ DForms 68 28 3 G' w' w.heap.size w'.heap.size u (optsS ns l) ∧ Ext noS G w G' w' := by
 refine s_enter (n := 23) Tryz.func77 Tryz.ntmps77 rfl rfl ?_
 have hX0 : Ext noS G w G w := Ext.refl hP
 refine s_seq (c_reg ?_)
 refine q1 rfl rfl rfl (o_box [v] (v := (.agg [v].toArray)) rfl rfl hX0.pins (fun b1 w2 hk3 hb4 hp5 hl6 => ?_))
 have hX7 := hX0.step hp5 hl6
 have hlo8 : w.heap.size ≤ b1 := by have := hX0.size; omega
 obtain ⟨G9, hle10, hX11, hbp12, hf13⟩ := hb4.shut hX7 hlo8
 refine qd rfl rfl rfl (r_assign (v := (.slice none 0 0)) rfl) (qe (s_then (s_seq (c_reg ?_))))
 refine q1 rfl rfl rfl (o_build0 (E := eVal) (e := 28) Tryz.underlying24 sz28 hX11.pins (fun u14 w15 ho16 hp17 hl18 hk19 => ?_))
 have hX20 := hX11.step hp17 hl18
 have ho21 : Own eVal 28 G9 w15 w.heap.size u14 ([]) := ho16.weaken hX11.size
 refine qd rfl rfl rfl (r_assign (v := u14) rfl) (qe (s_then (s_seq (s_seq (c_reg ?_)))))
 refine qd rfl rfl rfl (r_move (v := y) rfl) (qd rfl rfl rfl (run_len Tryz.underlying57 (v := y) rfl hy) (qd rfl rfl rfl (r_move (v := (.int .i64 0)) rfl) (qe (s_then ?_))))
 refine s_blk (s_loop (fun (k : Nat) (en : Nat → Value) (W : World) => ∃ (env1 : Nat → Value) (j : Nat) (ov : Value) (os : List Value) (GL1 : Pin), en = (upd (upd (upd (upd (upd (upd env1 2 (.pointer (some ⟨b1, 0, none⟩))) 4 (.slice none 0 0)) 5 ov) 9 y) 10 (.int .i64 (l.length : Int))) 11 (.int .i64 (j : Int))) ∧ k = l.length - j ∧ Ext noS G w GL1 W ∧ Pin.le G9 GL1 ∧ (j ≤ l.length) ∧ (os.length = j) ∧ (DCh 68 3 GL1 W ov.ownBlock w.heap.size W.heap.size os (optsS ns (l.take j))) ∧ (Own eVal 28 GL1 W w.heap.size ov (os))) _ ⟨_, 0, u14, [], G9, (packS (x := 11) (packS (x := 10) (packS (x := 9) (packS (x := 5) (packS (x := 4) (pack1 (x := 2) rfl) rfl) rfl) rfl) rfl) rfl), rfl, hX20, Pin.le_refl _, Nat.zero_le _, rfl, hX20.size, ho21⟩ ?_)
 rintro k22 _ w23 ⟨env1, j, ov, os, GL1, rfl, hk24, hX25, hlek22, hj, hol, hch, hw26⟩
 refine s_seq (c_reg ?_)
 refine qd rfl rfl rfl (r_lss rfl rfl) (qe (s_then (s_seq ?_)))
 refine c_ifd (p := ((j : Int) : Int) < (l.length : Int)) rfl rfl (fun h27 => ?_) (fun h27 => ?_)
 have hzj := hb j (by omega)
 refine wp_skip (s_then (s_seq ?_))
 refine s_blk (s_seq (c_reg ?_))
 refine qd rfl rfl rfl (run_idx Tryz.underlying57 sz3 (v := y) rfl rfl hy (by omega) (by omega)) (qd rfl rfl rfl (run_load_int (r := l.getD j 0) rfl ag3 (z := (j : Int)) rfl hy (Pins.of_le hX25.pins (Pin.le_trans hle10 hlek22)) (by omega) (by omega)) (qd rfl rfl rfl (r_assign (v := (.int .i64 (l.getD j 0))) rfl) (qe (s_then (c_reg ?_)))))
 refine qd rfl rfl rfl (r_move (v := ov) rfl) (qd rfl rfl rfl (r_ldpA (cs := [v]) ag28 sz28 rfl (fun j u hj => (Pins.of_le hX25.pins hlek22) _ _ _ (hbp12 _ _ (by simpa using hj)))) (qd rfl rfl rfl (r_move (v := (.int .i64 (l.getD j 0))) rfl) (q1 rfl rfl rfl (o_call (vs := [(.agg [v].toArray), (.int .i64 (l.getD j 0))]) Tryz.func75 nm75 rfl rfl rfl ?_))))
 refine Calls.mono (part_dspecZ hX25.pins (hv.mono (Pin.le_trans hle10 hlek22)) hg hzj) ?_
 rintro _ w30 ⟨u28, G29, rfl, hd31, hx32⟩
 refine ⟨_, rfl, ?_⟩
 have ha33 : ∀ b, ov.ownBlock = some b → w30.heap.size ≤ b ∨ b < w23.heap.size := fun b hb => Or.inr (hw26.lt b hb).2
 have hX34 := hX25.tr hx32
 have ho35 := hw26.ext hx32
 have hd36 := hch.ext hx32
 have hs37 := Nat.le_trans (Nat.le_refl w23.heap.size) hx32.size
 have hone38 := hd31.one
 refine q1 rfl rfl rfl (o_build1 (E := eVal) (e := 28) [u28] u28 Tryz.underlying24 sz28 zr28 ⟨rfl, hone38⟩ rfl (by decide) hX34.pins (fun u39 w40 ho41 hp42 hl43 hk44 => ?_))
 have hX45 := hX34.step hp42 hl43
 have ho46 := ho35.below hl43
 have hd47 := hd36.below hl43
 have hs48 := Nat.le_trans hs37 hl43.size
 have hd49 := hd31.below hl43
 have hs50 := Nat.le_trans (Nat.le_refl w30.heap.size) hl43.size
 have ho54 : Own eVal 28 G29 w40 w.heap.size u39 ([u28]) := ho41.weaken hX34.size
 have hcs := hs48
 have hus := hs50
 refine q1 rfl rfl rfl (o_append (E := eVal) (v := ov) (u := u39) 24 Tryz.underlying24 ap28 (by decide) rfl rfl hX45.pins ho46 ho54.src (by first | omega | (rw [List.nil_append]; omega) | (rw [List.length_nil]; omega) | (rw [List.length_append]; omega) | (simp; done) | (simp; omega) | (simp only [List.length_append, List.length_cons, List.length_nil]; omega)) (by first | omega | (rw [List.nil_append]; omega) | (rw [List.length_nil]; omega) | (rw [List.length_append]; omega) | (simp; done) | (simp; omega) | (simp only [List.length_append, List.length_cons, List.length_nil]; omega)) (hX45.size) (fun u55 w56 ho57 hp58 hg59 hw60 => ?_))
 have hX61 := hX45.write hp58 hg59 ((lo_own ho46))
 have hd63 := hd47.keptR hg59
 have hs64 := Nat.le_trans hs48 hg59.size
 have hd65 := hd49.keptO hg59 ha33
 have hs66 := Nat.le_trans hs50 hg59.size
 have hm68 : (os ++ ([u28])).length = os.length + 1 := List.length_append
 refine qd rfl rfl rfl (r_assign (v := u55) rfl) (qe (s_blkN (s_then (c_reg ?_))))
 refine qd rfl rfl rfl (r_add rfl rfl (by omega)) (qd rfl rfl rfl (r_move (v := (.int .i64 ((j : Int) + 1))) rfl) (qe (s_lopN (⟨_, ?_, _, rfl, _, j + 1, u55, os ++ [u28], G29, (packS (x := 11) (packS (x := 10) (packS (x := 9) (packS (x := 5) (packS (x := 4) (pack1 (x := 2) rfl) rfl) rfl) rfl) rfl) rfl), rfl, hX61, (Pin.le_trans hlek22 hx32.le), (by omega), (by simp; omega), (by rw [← optsS_next (show j < l.length by omega)]; exact ((hd63.row (hw60.imp_right fun ⟨k, h1, h2⟩ => ⟨k, h1, Nat.le_trans hcs h2⟩)).snoc hd65 (Nat.le_refl _) hx32.size (row_avoid hw60 (fun b hb => (hw26.lt b hb).2) hus)).top hs66), ho57⟩))))
 omega
 refine wp_exit (s_thenE (s_lopE (s_blkE (s_then (s_seq (c_reg ?_))))))
 refine qd rfl rfl rfl (r_move (v := ov) rfl) (qd rfl rfl rfl (r_assign (v := ov) rfl) (qe (s_then ?_)))
 refine wp_ret (s_ret (c_ret1 (v := ov) rfl rfl rfl ?_))
 have hcc := hch
 rw [take_all (by omega)] at hcc
 exact ⟨_, _, rfl, ⟨os, hw26, fun k hk => (hw26.lt k hk).2, hcc⟩, hX25⟩

theorem iOptionsOf_dspec {w : World} {G : Pin} {v : Value} {ns : List Nd} (hP : Pins G w) (hv : RSl eNode G v ns) :
  Calls Tryz.prog 26 [(.agg [v].toArray)].toArray w fun e w' => ∃ (u v : Value) (la ha lb hb : Nat) (G' : Pin), e = .returned (.tuple #[u, v, .bool (goodB ns)]) ∧ DForms 68 28 3 G' w' la ha u (opL ns) ∧ DForms 68 28 3 G' w' lb hb v (opR ns) ∧ (w.heap.size ≤ la ∧ ha ≤ w'.heap.size ∧ w.heap.size ≤ lb ∧ hb ≤ w'.heap.size ∧ (ha ≤ lb ∨ hb ≤ la)) ∧ Ext noS G w G' w' := by
 refine s_enter (n := 21) Tryz.func26 Tryz.ntmps26 rfl rfl ?_
 have hX0 : Ext noS G w G w := Ext.refl hP
 refine s_seq (c_reg ?_)
 refine q1 rfl rfl rfl (o_box [v] (v := (.agg [v].toArray)) rfl rfl hX0.pins (fun b1 w2 hk3 hb4 hp5 hl6 => ?_))
 have hX7 := hX0.step hp5 hl6
 have hlo8 : w.heap.size ≤ b1 := by have := hX0.size; omega
 obtain ⟨G9, hle10, hX11, hbp12, hf13⟩ := hb4.shut hX7 hlo8
 refine qd rfl rfl rfl (r_assign (v := (.slice none 0 0)) rfl) (qd rfl rfl rfl (r_assign (v := (.slice none 0 0)) rfl) (qd rfl rfl rfl (r_assign (v := (.bool false)) rfl) (qe (s_then (s_seq (s_seq (c_reg ?_)))))))
 refine qd rfl rfl rfl (r_ldpA (cs := [v]) ag28 sz28 rfl (fun j u hj => hX11.pins _ _ _ (hbp12 _ _ (by simpa using hj)))) (q1 rfl rfl rfl (o_call (vs := [(.agg [v].toArray)]) Tryz.func57 nm57 rfl rfl rfl ?_))
 refine Calls.mono (goodForm_spec hX11.pins (hv.mono hle10)) ?_
 rintro _ w15 ⟨G14, rfl, hx16⟩
 refine ⟨_, rfl, ?_⟩
 have hX17 := hX11.tr hx16
 refine qd rfl rfl rfl (r_not rfl) (qe (s_then ?_))
 refine c_ifn rfl rfl (fun h18 => ?_) (fun h18 => ?_)
 refine wp_skip (s_then (s_seq (c_reg ?_)))
 have hg : GoodP ns := goodB_true.1 (by simpa using h18)
 have hglo := hg.lo
 refine qd rfl rfl rfl (r_ldpA (cs := [v]) ag28 sz28 rfl (fun j u hj => (Pins.of_le hX17.pins hx16.le) _ _ _ (hbp12 _ _ (by simpa using hj)))) (q1 rfl rfl rfl (o_call (vs := [(.agg [v].toArray)]) Tryz.func76 nm76 rfl rfl rfl ?_))
 refine Calls.mono (top_spec hX17.pins (hv.mono (Pin.le_trans hle10 hx16.le)) (by omega)) ?_
 rintro _ w22 ⟨u19, v20, G21, rfl, hr23, hr24, hx25⟩
 refine ⟨_, rfl, ?_⟩
 have hX26 := hX17.tr hx25
 refine q1 rfl rfl rfl (o_alloc [(.slice none 0 0), (.slice none 0 0)] zr68 rfl hX26.pins (fun b27 w28 hk29 hb30 hp31 hl32 => ?_))
 have hX33 := hX26.step hp31 hl32
 have hlo34 : w.heap.size ≤ b27 := by have := hX26.size; omega
 refine q0 rfl rfl rfl (o_stp (cs' := [u19, v20]) (us := [u19, v20]) (v := (.agg [u19, v20].toArray)) sz68 rfl rfl rfl (ones2 hr23.one hr24.one) hX33.pins hb30 (Nat.le_of_ble_eq_true rfl) rfl (fun w35 hb36 hp37 hg38 hz39 => ?_))
 have hX40 := hX33.write hp37 hg38 ((lo_box hlo34))
 obtain ⟨G41, hle42, hX43, hbp44, hf45⟩ := hb36.shut hX40 hlo34
 refine qe (s_then (s_seq ?_))
 refine c_draw (S := fun wz => Pins G41 wz) (last := 11) (by kernel_rfl) rfl ?_
 have hl46 : Below w35.heap.size w35 w35.drew := (Below.refl _ _).drew
 have hp47 := hX43.pins.below hl46
 have hX48 := hX43.step hp47 hl46
 refine dr_take (i := 0) rfl rfl rfl (want_none rfl _) (by kernel_rfl) (fun _ hS => r_ldpA (cs := [v]) ag28 sz28 rfl (fun j u hj => (Pins.of_le hS (Pin.le_trans (Pin.le_trans hx16.le hx25.le) hle42)) _ _ _ (hbp12 _ _ (by simpa using hj)))) hX48.pins (dr_take (i := 1) rfl rfl rfl (want_none rfl _) (by kernel_rfl) (fun _ _ => r_fldp (k := 0) rfl Tryz.underlying68 rfl nz57 rfl) hX48.pins (dr_take (i := 2) rfl rfl rfl (want_none rfl _) (by kernel_rfl) (fun _ hS => r_ldp1 (u := u19) ag57 rfl (hS _ _ _ (hbp44 0 _ rfl))) hX48.pins (dr_take (i := 4) rfl rfl rfl (want_none rfl _) (by kernel_rfl) (fun _ hS => r_ldpA (cs := [v]) ag28 sz28 rfl (fun j u hj => (Pins.of_le hS (Pin.le_trans (Pin.le_trans hx16.le hx25.le) hle42)) _ _ _ (hbp12 _ _ (by simpa using hj)))) hX48.pins (dr_take (i := 5) rfl rfl rfl (want_none rfl _) (by kernel_rfl) (fun _ _ => r_fldp (k := 1) rfl Tryz.underlying68 rfl nz57 rfl) hX48.pins (dr_take (i := 6) rfl rfl rfl (want_none rfl _) (by kernel_rfl) (fun _ hS => r_ldp1 (u := v20) ag57 rfl (hS _ _ _ (hbp44 1 _ rfl))) hX48.pins (dr_one (i := 3) (by kernel_rfl) (drOp1 (i := 3) rfl rfl rfl (want_none rfl _) (o_call (vs := [(.agg [v].toArray), u19]) Tryz.func77 nm77 rfl rfl rfl ?_))))))))
 refine Calls.mono (partsAt_dspec hX48.pins (hv.mono (Pin.le_trans (Pin.le_trans (Pin.le_trans hle10 hx16.le) hx25.le) hle42)) (hr23.mono hle42) hg (optL_at hg true) (optL_len (left := true) hg)) ?_
 rintro _ w51 ⟨u49, G50, rfl, hd52, hx53⟩
 refine ⟨_, rfl, ?_⟩
 have hX54 := hX48.tr hx53
 have hone55 := hd52.one
 refine ⟨fun _ => (Pins.of_le hX54.pins hx53.le), ?_⟩
 refine dr_one (i := 7) (by kernel_rfl) (drOp1 (i := 7) rfl rfl rfl (want_none rfl _) (o_call (vs := [(.agg [v].toArray), v20]) Tryz.func77 nm77 rfl rfl rfl ?_))
 refine Calls.mono (partsAt_dspec hX54.pins (hv.mono (Pin.le_trans (Pin.le_trans (Pin.le_trans (Pin.le_trans hle10 hx16.le) hx25.le) hle42) hx53.le)) (hr24.mono (Pin.le_trans hle42 hx53.le)) hg (optL_at hg false) (optL_len (left := false) hg)) ?_
 rintro _ w58 ⟨u56, G57, rfl, hd59, hx60⟩
 refine ⟨_, rfl, ?_⟩
 have ha61 : w51.heap.size ≤ w51.heap.size ∨ w58.heap.size ≤ w35.drew.heap.size := Or.inl (Nat.le_refl w51.heap.size)
 have hX62 := hX54.tr hx60
 have hd63 := hd52.ext hx60
 have hs64 := Nat.le_trans (Nat.le_refl w51.heap.size) hx60.size
 have hone65 := hd59.one
 refine ⟨fun _ => (Pins.of_le hX62.pins (Pin.le_trans hx53.le hx60.le)), ?_⟩
 refine dr_take (i := 8) rfl rfl rfl (want_none rfl _) (by kernel_rfl) (fun _ _ => r_assign (v := u49) rfl) (Pins.of_le hX62.pins (Pin.le_trans hx53.le hx60.le)) (dr_take (i := 9) rfl rfl rfl (want_none rfl _) (by kernel_rfl) (fun _ _ => r_assign (v := u56) rfl) (Pins.of_le hX62.pins (Pin.le_trans hx53.le hx60.le)) (dr_take (i := 10) rfl rfl rfl (want_none rfl _) (by kernel_rfl) (fun _ _ => r_assign (v := (.bool true)) rfl) (Pins.of_le hX62.pins (Pin.le_trans hx53.le hx60.le)) (dr_end (by kernel_rfl) (s_then (wp_ret (s_ret (c_ret3 (v := u49) (u := u56) (x := (.bool true)) rfl rfl rfl rfl rfl rfl rfl ?_)))))))
 have hgf : goodB ns = true := by simpa using h18
 obtain ⟨e1, e2⟩ := op_yes hgf
 rw [hgf, e1, e2]
 have hq1 := hX48.size
 have hr1 := hs64
 have hq2 := hX54.size
 have hr2 := (Nat.le_refl w58.heap.size)
 exact ⟨_, _, _, _, _, _, _, rfl, hd63, hd59, ⟨hq1, hr1, hq2, hr2, by have h := ha61; omega⟩, hX62⟩
 refine s_seq (c_reg ?_)
 refine q1 rfl rfl rfl (o_build0 (E := eVal) (e := 28) Tryz.underlying24 sz28 hX17.pins (fun u66 w67 ho68 hp69 hl70 hk71 => ?_))
 have hX72 := hX17.step hp69 hl70
 have ho73 : Own eVal 28 G14 w67 w.heap.size u66 ([]) := ho68.weaken hX17.size
 refine q1 rfl rfl rfl (o_build0 (E := eVal) (e := 28) Tryz.underlying24 sz28 hX72.pins (fun u74 w75 ho76 hp77 hl78 hk79 => ?_))
 have hX80 := hX72.step hp77 hl78
 have ho81 := ho73.below hl78
 have ha82 : Apart u74.ownBlock u66.ownBlock := new_ne_own hk79 ho73.lt
 have ho83 : Own eVal 28 G14 w75 w.heap.size u74 ([]) := ho76.weaken hX72.size
 refine qd rfl rfl rfl (r_assign (v := u66) rfl) (qd rfl rfl rfl (r_assign (v := u74) rfl) (qd rfl rfl rfl (r_assign (v := (.bool false)) rfl) (qe (s_then ?_))))
 refine wp_ret (s_ret (c_ret3 (v := u66) (u := u74) (x := (.bool false)) rfl rfl rfl rfl rfl rfl rfl ?_))
 have hgf : goodB ns = false := by simpa using h18
 obtain ⟨e1, e2⟩ := op_no hgf
 rw [hgf, e1, e2]
 have hne : w67.heap.size ≠ w15.heap.size := fun e => ha82 _ hk79 (by rw [hk71, e])
 have hsz := hl70.size
 have hl1 := (ho81.lt _ hk71).2
 have hl2 := (ho83.lt _ hk79).2
 have hA := hX17.size
 exact ⟨_, _, _, _, _, _, _, rfl, (DForms.nil (ho81.up (lo := w15.heap.size) (fun k hk => by rw [hk71] at hk; cases hk; exact Nat.le_refl _)) (hi := w15.heap.size + 1) (fun k hk => by rw [hk71] at hk; cases hk; omega) (by omega)), (DForms.nil (ho83.up (lo := w67.heap.size) (fun k hk => by rw [hk79] at hk; cases hk; exact Nat.le_refl _)) (hi := w67.heap.size + 1) (fun k hk => by rw [hk79] at hk; cases hk; omega) (by omega)), by omega, hX80⟩

end PQ1
end Go.Proofs.YtkfgdhanaijddaaGreatDoor

set_option maxRecDepth 20000
set_option maxHeartbeats 2000000
namespace Go.Proofs.YtkfgdhanaijddaaGreatDoor
namespace LI1
open Go.RowKit Go.GL Go.Proofs
open Go.Proofs.YtkfgdhanaijddaaGreatDoor.B1
open Go.Proofs.YtkfgdhanaijddaaGreatDoor.K1
open Go.Proofs.YtkfgdhanaijddaaGreatDoor.PO1
open Go.Proofs.YtkfgdhanaijddaaGreatDoor.PL1
open Go.Proofs.YtkfgdhanaijddaaGreatDoor.PA1
open Go.Proofs.YtkfgdhanaijddaaGreatDoor.SO1
open Go.Proofs.YtkfgdhanaijddaaGreatDoor.OD1










theorem slIndexI_spec {w : World} {G : Pin} {v : Value} {xs : List Int} {p : Int} (hP : Pins G w) (hv : RSl eInt G v xs) :
  Calls Tryz.prog 66 [v, (.int .i64 p)].toArray w fun e w' => e = .returned (.int .i64 (ixI xs p)) ∧ w' = w := by
 refine s_enter (n := 19) Tryz.func66 Tryz.ntmps66 rfl rfl ?_
 have hX0 : Ext noS G w G w := Ext.refl hP
 have hm := hv.max
 refine s_seq (c_reg ?_)
 refine qd rfl rfl rfl (r_assign (v := (.int .i64 0)) rfl) (qe (s_then (s_seq (s_seq (c_reg ?_)))))
 refine qd rfl rfl rfl (r_move (v := v) rfl) (qd rfl rfl rfl (run_len Tryz.underlying57 (v := v) rfl hv) (qd rfl rfl rfl (r_move (v := (.int .i64 0)) rfl) (qe (s_then ?_))))
 refine s_blk (s_loop (fun (k : Nat) (en : Nat → Value) (W : World) => ∃ (env1 : Nat → Value) (j : Nat), en = (upd (upd (upd (upd env1 0 v) 1 (.int .i64 p)) 7 (.int .i64 (xs.length : Int))) 8 (.int .i64 (j : Int))) ∧ k = xs.length - j ∧ Ext noS G w G W ∧ (j ≤ xs.length) ∧ (W = w) ∧ (ixI xs p = ixFrom p j (xs.drop j))) _ ⟨_, 0, (packS (x := 8) (packS (x := 7) (packS (x := 1) (pack1 (x := 0) rfl) rfl) rfl) rfl), rfl, hX0, Nat.zero_le _, rfl, rfl⟩ ?_)
 rintro k1 _ w2 ⟨env1, j, rfl, hk3, hX4, hj, hw, hr⟩
 subst hw
 refine s_seq (c_reg ?_)
 refine qd rfl rfl rfl (r_lss rfl rfl) (qe (s_then (s_seq ?_)))
 refine c_ifd (p := ((j : Int) : Int) < (xs.length : Int)) rfl rfl (fun h5 => ?_) (fun h5 => ?_)
 refine wp_skip (s_then (s_seq ?_))
 refine s_blk (s_seq (c_reg ?_))
 refine qd rfl rfl rfl (r_move (v := (.int .i64 (j : Int))) rfl) (qd rfl rfl rfl (r_assign (v := (.int .i64 (j : Int))) rfl) (qe (s_then (s_seq (c_reg ?_)))))
 refine qd rfl rfl rfl (r_move (v := (.int .i64 p)) rfl) (qd rfl rfl rfl (r_move (v := v) rfl) (qd rfl rfl rfl (r_move (v := (.int .i64 (j : Int))) rfl) (qd rfl rfl rfl (run_idx Tryz.underlying57 sz3 (v := v) rfl rfl hv (by omega) (by omega)) (qd rfl rfl rfl (run_load_int (r := xs.getD j 0) rfl ag3 (z := (j : Int)) rfl hv hX4.pins (by omega) (by omega)) (qd rfl rfl rfl (r_eql rfl rfl) (qe (s_then ?_)))))))
 refine c_ifd (p := (p : Int) = (xs.getD j 0)) rfl rfl (fun h6 => ?_) (fun h6 => ?_)
 refine s_seq (c_reg ?_)
 refine qd rfl rfl rfl (r_move (v := (.int .i64 (j : Int))) rfl) (qd rfl rfl rfl (r_assign (v := (.int .i64 (j : Int))) rfl) (qe (s_then ?_)))
 exact wp_ret (s_ret (c_ret1 (v := (.int .i64 (j : Int))) rfl rfl rfl (⟨congrArg (fun z => Ending.returned (Value.int .i64 z)) ((hr.trans (xix_hit (by omega) h6)).symm), rfl⟩)))
 refine wp_skip (s_blkN (s_then (c_reg ?_)))
 refine qd rfl rfl rfl (r_add rfl rfl (by omega)) (qd rfl rfl rfl (r_move (v := (.int .i64 ((j : Int) + 1))) rfl) (qe (s_lopN (⟨_, ?_, _, rfl, _, j + 1, (packS (x := 8) (packS (x := 7) (packS (x := 1) (pack1 (x := 0) rfl) rfl) rfl) rfl), rfl, hX4, (by omega), rfl, (hr.trans (xix_next (by omega) h6))⟩))))
 omega
 refine wp_exit (s_thenE (s_lopE (s_blkE (s_then (s_seq (c_reg ?_))))))
 refine qd rfl rfl rfl (r_assign (v := (.int .i64 (-1))) rfl) (qe (s_then ?_))
 exact wp_ret (s_ret (c_ret1 (v := (.int .i64 (-1))) rfl rfl rfl (⟨congrArg (fun z => Ending.returned (Value.int .i64 z)) ((hr.trans (xix_end (by omega))).symm), rfl⟩)))

theorem iLessForm_spec {w : World} {G : Pin} {u v : Value} {ax bs : List Nd} (hP : Pins G w) (hu : RSl eNode G u ax) (hv : RSl eNode G v bs) :
  Calls Tryz.prog 21 [(.agg [u].toArray), (.agg [v].toArray)].toArray w fun e w' => ∃ G', e = .returned (.tuple #[.bool (lsB ax bs), .bool (goodB ax && goodB bs)]) ∧ Ext noS G w G' w' := by
 refine s_enter (n := 41) Tryz.func21 Tryz.ntmps21 rfl rfl ?_
 have hX0 : Ext noS G w G w := Ext.refl hP
 refine s_seq (c_reg ?_)
 refine q1 rfl rfl rfl (o_box [u] (v := (.agg [u].toArray)) rfl rfl hX0.pins (fun b1 w2 hk3 hb4 hp5 hl6 => ?_))
 have hX7 := hX0.step hp5 hl6
 have hlo8 : w.heap.size ≤ b1 := by have := hX0.size; omega
 obtain ⟨G9, hle10, hX11, hbp12, hf13⟩ := hb4.shut hX7 hlo8
 refine q1 rfl rfl rfl (o_box [v] (v := (.agg [v].toArray)) rfl rfl hX11.pins (fun b14 w15 hk16 hb17 hp18 hl19 => ?_))
 have hX20 := hX11.step hp18 hl19
 have hlo21 : w.heap.size ≤ b14 := by have := hX11.size; omega
 obtain ⟨G22, hle23, hX24, hbp25, hf26⟩ := hb17.shut hX20 hlo21
 refine qd rfl rfl rfl (r_assign (v := (.bool false)) rfl) (qd rfl rfl rfl (r_assign (v := (.bool false)) rfl) (qe (s_then (s_seq (s_seq (c_reg ?_))))))
 refine qd rfl rfl rfl (r_ldpA (cs := [u]) ag28 sz28 rfl (fun j u hj => (Pins.of_le hX24.pins hle23) _ _ _ (hbp12 _ _ (by simpa using hj)))) (q1 rfl rfl rfl (o_call (vs := [(.agg [u].toArray)]) Tryz.func57 nm57 rfl rfl rfl ?_))
 refine Calls.mono (goodForm_spec hX24.pins (hu.mono (Pin.le_trans hle10 hle23))) ?_
 rintro _ w28 ⟨G27, rfl, hx29⟩
 refine ⟨_, rfl, ?_⟩
 have hX30 := hX24.tr hx29
 refine qd rfl rfl rfl (r_not rfl) (qd rfl rfl rfl (r_move (v := (.bool (!(goodB ax)))) rfl) (qbn (t := 14) rfl (fun h31 => ?_) (fun h31 => ?_)))
 refine qdg rfl rfl rfl rfl rfl rfl (r_ldpA (cs := [v]) ag28 sz28 rfl (fun j u hj => (Pins.of_le hX30.pins hx29.le) _ _ _ (hbp25 _ _ (by simpa using hj)))) (q1g rfl rfl rfl rfl rfl rfl (o_call (vs := [(.agg [v].toArray)]) Tryz.func57 nm57 rfl rfl rfl ?_))
 refine Calls.mono (goodForm_spec hX30.pins (hv.mono (Pin.le_trans (Pin.le_trans hle10 hle23) hx29.le))) ?_
 rintro _ w33 ⟨G32, rfl, hx34⟩
 refine ⟨_, rfl, ?_⟩
 have hX35 := hX30.tr hx34
 refine qdg rfl rfl rfl rfl rfl rfl (r_not rfl) (qd rfl rfl rfl (r_pickF (v := (.bool (!(goodB bs)))) rfl rfl) (qe (s_then ?_)))
 refine c_ifn rfl rfl (fun h36 => ?_) (fun h36 => ?_)
 refine wp_skip (s_then (s_seq (c_reg ?_)))
 have hga : GoodP ax := goodB_true.1 h31
 have hgb : GoodP bs := goodB_true.1 h36
 have hla := hga.lo
 have hlb := hgb.lo
 have hha := hga.hi
 have hhb := hgb.hi
 refine q1 rfl rfl rfl (o_call (vs := []) Tryz.func46 nm46 rfl rfl rfl ?_)
 refine Calls.mono (newPool_spec hX35.pins) ?_
 rintro _ w40 ⟨p37, mm38, G39, rfl, hpk41, hfr42, hx43⟩
 refine ⟨_, rfl, ?_⟩
 have hX47 := hX35.tr hx43
 have hpin48 : PIn w (noS) p37 (.slice none 0 0) (.slice none 0 0) (.slice none 0 0) mm38 := PIn.fresh hfr42 hX35.size
 obtain ⟨q44, hq45⟩ : ∃ q, q = (⟨[], [], [], [], [], [], []⟩ : PSt) := ⟨_, rfl⟩
 rw [← hq45] at hpk41
 have hok46 : PoolOk q44 := by rw [hq45]; exact PoolOk.empty
 have hq45l : q44.ns.length = 0 := by rw [hq45]; rfl
 obtain ⟨L49, R50, B51, eL49, eR50, eB51⟩ : ∃ (l r b : Value), l = .slice none 0 0 ∧ r = .slice none 0 0 ∧ b = .slice none 0 0 := ⟨_, _, _, rfl, rfl, rfl⟩
 have hpk412 : Pk 57 3 G39 w40 p37 L49 R50 B51 mm38 q44 := by rw [eL49, eR50, eB51]; exact hpk41
 have hpin482 : PIn w (noS) p37 L49 R50 B51 mm38 := by rw [eL49, eR50, eB51]; exact hpin48
 have hml52 : (q44.ns.map Nd.l).length = q44.ns.length ∧ (q44.ns.map Nd.r).length = q44.ns.length := ⟨List.length_map .., List.length_map ..⟩
 have hml53 : q44.bs.length = q44.ns.length ∧ q44.ns.length ≤ 1048576 := ⟨hok46.ar.ok.len, hok46.ar.ok.lim⟩
 refine qd rfl rfl rfl (r_assign (v := (.pointer (some ⟨p37, 0, none⟩))) rfl) (qe (s_then (s_seq ?_)))
 refine c_draw (S := fun wz => Pins G39 wz) (last := 8) (by kernel_rfl) rfl ?_
 have hl54 : Below w40.heap.size w40 w40.drew := (Below.refl _ _).drew
 have hp55 := hX47.pins.below hl54
 have hX56 := hX47.step hp55 hl54
 have hpk57 := hpk412.below hl54 hp55
 refine dr_take (i := 0) rfl rfl rfl (want_none rfl _) (by kernel_rfl) (fun _ _ => r_move (v := (.pointer (some ⟨p37, 0, none⟩))) rfl) hX56.pins (dr_take (i := 1) rfl rfl rfl (want_none rfl _) (by kernel_rfl) (fun _ hS => r_ldpA (cs := [u]) ag28 sz28 rfl (fun j u hj => (Pins.of_le hS (Pin.le_trans (Pin.le_trans (Pin.le_trans hle23 hx29.le) hx34.le) hx43.le)) _ _ _ (hbp12 _ _ (by simpa using hj)))) hX56.pins (dr_take (i := 3) rfl rfl rfl (want_none rfl _) (by kernel_rfl) (fun _ _ => r_move (v := (.pointer (some ⟨p37, 0, none⟩))) rfl) hX56.pins (dr_take (i := 4) rfl rfl rfl (want_none rfl _) (by kernel_rfl) (fun _ hS => r_ldpA (cs := [v]) ag28 sz28 rfl (fun j u hj => (Pins.of_le hS (Pin.le_trans (Pin.le_trans hx29.le hx34.le) hx43.le)) _ _ _ (hbp25 _ _ (by simpa using hj)))) hX56.pins (dr_one (i := 2) (by kernel_rfl) (drOp1 (i := 2) rfl rfl rfl (want_none rfl _) (o_call (vs := [(.pointer (some ⟨p37, 0, none⟩)), (.agg [u].toArray)]) Tryz.func49 nm49 rfl rfl rfl ?_))))))
 refine Calls.mono (root_spec hX56.pins hpk57 hok46 (hu.mono (Pin.le_trans (Pin.le_trans (Pin.le_trans (Pin.le_trans hle10 hle23) hx29.le) hx34.le) hx43.le)) (good_form hga) (by omega) hla) ?_
 rintro _ w67 ⟨z58, L62, R63, B64, q65, G66, rfl, hpk68, hok69, hpx70, hlo71, hx72, hpl59, hpd60, hqn61⟩
 refine ⟨_, rfl, ?_⟩
 have hX73 := hX56.trans hx72 hpin482
 have hpin74 := PIn.call hpin482 hlo71 hX56.size
 have hql75 := hpx70.len
 have hml76 : (q65.ns.map Nd.l).length = q65.ns.length ∧ (q65.ns.map Nd.r).length = q65.ns.length := ⟨List.length_map .., List.length_map ..⟩
 have hml77 : q65.bs.length = q65.ns.length ∧ q65.ns.length ≤ 1048576 := ⟨hok69.ar.ok.len, hok69.ar.ok.lim⟩
 refine ⟨fun _ => (Pins.of_le hX73.pins hx72.le), ?_⟩
 refine dr_one (i := 5) (by kernel_rfl) (drOp1 (i := 5) rfl rfl rfl (want_none rfl _) (o_call (vs := [(.pointer (some ⟨p37, 0, none⟩)), (.agg [v].toArray)]) Tryz.func49 nm49 rfl rfl rfl ?_))
 refine Calls.mono (root_spec hX73.pins hpk68 hok69 (hv.mono (Pin.le_trans (Pin.le_trans (Pin.le_trans (Pin.le_trans (Pin.le_trans hle10 hle23) hx29.le) hx34.le) hx43.le) hx72.le)) (good_form hgb) (by omega) hlb) ?_
 rintro _ w87 ⟨z78, L82, R83, B84, q85, G86, rfl, hpk88, hok89, hpx90, hlo91, hx92, hpl79, hpd80, hqn81⟩
 refine ⟨_, rfl, ?_⟩
 have hX93 := hX73.trans hx92 hpin74
 have hpin94 := PIn.call hpin74 hlo91 hX73.size
 have hql95 := hpx90.len
 have hml96 : (q85.ns.map Nd.l).length = q85.ns.length ∧ (q85.ns.map Nd.r).length = q85.ns.length := ⟨List.length_map .., List.length_map ..⟩
 have hml97 : q85.bs.length = q85.ns.length ∧ q85.ns.length ≤ 1048576 := ⟨hok89.ar.ok.len, hok89.ar.ok.lim⟩
 refine ⟨fun _ => (Pins.of_le hX93.pins (Pin.le_trans hx72.le hx92.le)), ?_⟩
 refine dr_take (i := 6) rfl rfl rfl (want_none rfl _) (by kernel_rfl) (fun _ _ => r_assign (v := (.int .i64 z58)) rfl) (Pins.of_le hX93.pins (Pin.le_trans hx72.le hx92.le)) (dr_take (i := 7) rfl rfl rfl (want_none rfl _) (by kernel_rfl) (fun _ _ => r_assign (v := (.int .i64 z78)) rfl) (Pins.of_le hX93.pins (Pin.le_trans hx72.le hx92.le)) (dr_end (by kernel_rfl) (s_then (s_seq (c_reg ?_)))))
 refine qd rfl rfl rfl (r_move (v := (.pointer (some ⟨p37, 0, none⟩))) rfl) (qd rfl rfl rfl (r_move (v := (.int .i64 z58)) rfl) (qd rfl rfl rfl (r_move (v := (.int .i64 z78)) rfl) (q1 rfl rfl rfl (o_buildF (E := eInt) (e := 3) [(.int .i64 z58), (.int .i64 z78)] [z58, z78] Tryz.underlying57 sz3 zr3 (by exact reps2 (by rfl) (by rfl)) (ones2 (by rfl) (by rfl)) rfl rfl rfl rfl (by decide) hX93.pins (fun u98 w99 ho100 hp101 hl102 hk103 => ?_)))))
 have hX104 := hX93.step hp101 hl102
 have hpk105 := hpk88.below hl102 hp101
 have ha110 := hpk88.new (x := u98.ownBlock) (fun k hk => by rw [hk103] at hk; cases hk; exact Nat.le_refl _)
 have ho111 : Own eInt 3 G86 w99 w.heap.size u98 ([z58, z78]) := ho100.weaken hX93.size
 obtain ⟨G124, hle127, hX126, hr125, hf128⟩ := ho111.sealed hX104
 have hpk129 := hpk105.moreO hle127 hf128 ha110
 have hpd130 := ((hpx90.pd hok69 hok89 hpl59).trans hpd60)
 have hpd131 := hpd80
 refine q1 rfl rfl rfl (o_call (vs := [(.pointer (some ⟨p37, 0, none⟩)), u98]) Tryz.func65 nm65 rfl rfl rfl ?_)
 refine Calls.mono (order_spec hX126.pins hpk129 hok89 hr125 (two_place (hpx90.place hpl59) hpl79) (by simp)) ?_
 rintro _ w118 ⟨u112, v113, ls114, ns115, zs116, G117, rfl, ho119, hd120, hor121, hpt122, hx123⟩
 refine ⟨_, rfl, ?_⟩
 have hX132 := hX126.tr hx123
 have ho135 : Own eInt 3 G117 w118 w.heap.size u112 ls114 := ho119.weaken hX126.size
 refine qd rfl rfl rfl (r_move (v := (.tuple #[u112, v113])) rfl) (qd rfl rfl rfl (r_extract (v := u112) rfl rfl) (qd rfl rfl rfl (r_extract (v := v113) rfl rfl) (qd rfl rfl rfl (r_assign (v := u112) rfl) (qd rfl rfl rfl (r_assign (v := v113) rfl) (qe (s_then (s_seq (c_reg ?_))))))))
 refine qd rfl rfl rfl (r_move (v := u112) rfl) (qd rfl rfl rfl (r_move (v := (.int .i64 z58)) rfl) ?_)
 obtain ⟨G136, hle139, hX138, hr137, hf140⟩ := ho135.sealed hX132
 refine q1 rfl rfl rfl (o_call (vs := [u112, (.int .i64 z58)]) Tryz.func66 nm66 rfl rfl rfl ?_)
 refine Calls.mono (slIndexI_spec hX138.pins hr137) ?_
 rintro _ _ ⟨rfl, rfl⟩
 refine ⟨_, rfl, ?_⟩
 refine qd rfl rfl rfl (r_move (v := u112) rfl) (qd rfl rfl rfl (r_move (v := (.int .i64 z78)) rfl) (q1 rfl rfl rfl (o_call (vs := [u112, (.int .i64 z78)]) Tryz.func66 nm66 rfl rfl rfl ?_)))
 refine Calls.mono (slIndexI_spec hX138.pins hr137) ?_
 rintro _ _ ⟨rfl, rfl⟩
 refine ⟨_, rfl, ?_⟩
 refine qd rfl rfl rfl (r_lss rfl rfl) (qd rfl rfl rfl (r_assign (v := (.bool (decide ((ixI ls114 z58 : Int) < (ixI ls114 z78))))) rfl) (qd rfl rfl rfl (r_assign (v := (.bool true)) rfl) (qe (s_then ?_))))
 refine wp_ret (s_ret (c_ret2 (v := (.bool (decide ((ixI ls114 z58 : Int) < (ixI ls114 z78))))) (u := (.bool true)) rfl rfl rfl rfl rfl ?_))
 have hll : ls114.length ≤ q85.ns.length := by rw [hor121.perm.length_eq]; exact hpt122.len
 have hl2 := hok89.ar.ok.lim
 obtain ⟨e1, e2⟩ := lsB_good hga hgb
 rw [e1, e2, less_law hga hgb hor121 hok89 hpt122 hpd130 hpd131 (by omega)]
 exact ⟨_, rfl, hX138⟩
 refine s_seq (c_reg ?_)
 refine qd rfl rfl rfl (r_assign (v := (.bool false)) rfl) (qd rfl rfl rfl (r_assign (v := (.bool false)) rfl) (qe (s_then ?_)))
 refine wp_ret (s_ret (c_ret2 (v := (.bool false)) (u := (.bool false)) rfl rfl rfl rfl rfl ?_))
 obtain ⟨e1, e2⟩ := lsB_bad (Or.inr h36)
 rw [e1, e2]
 exact ⟨_, rfl, hX35⟩
 refine qs rfl rfl rfl rfl rfl rfl (qs rfl rfl rfl rfl rfl rfl (qs rfl rfl rfl rfl rfl rfl (qd rfl rfl rfl (r_pickT (v := (.bool true)) rfl rfl) (qe (s_then ?_)))))
 refine c_ifT rfl rfl (s_seq (c_reg ?_))
 refine qd rfl rfl rfl (r_assign (v := (.bool false)) rfl) (qd rfl rfl rfl (r_assign (v := (.bool false)) rfl) (qe (s_then ?_)))
 refine wp_ret (s_ret (c_ret2 (v := (.bool false)) (u := (.bool false)) rfl rfl rfl rfl rfl ?_))
 obtain ⟨e1, e2⟩ := lsB_bad (Or.inl h31)
 rw [e1, e2]
 exact ⟨_, rfl, hX30⟩

end LI1
end Go.Proofs.YtkfgdhanaijddaaGreatDoor

namespace Go.GL
open Go Go.RowKit

theorem dr_weak {P : Program} {md : Region.Mode} {ops : Array Oper} {Q : Exit → Act → World → Prop} {S S' : World → Prop} {last : Nat} (hS : ∀ w, S' w → S w) : ∀ (fuel : Nat) (listed : Array Bool) (a : Act) (w : World), dr P md ops Q S' last fuel listed a w → dr P md ops Q S last fuel listed a w
 | 0, _, _, _, h => h
 | fuel + 1, _, _, _, h => ⟨h.1, fun i hi => wpOp_mono (fun a' w' h' => ⟨fun hne => hS _ (h'.1 hne), dr_weak hS fuel _ a' w' h'.2⟩) (h.2 i hi)⟩
theorem dr_more {P : Program} {ops : Array Oper} {Q : Exit → Act → World → Prop} {S' S : World → Prop} {last fuel : Nat} {listed : Array Bool} {a : Act} {w : World} (hS : ∀ w, S' w → S w) (h : DR P ops Q S' last fuel listed a w) : DR P ops Q S last fuel listed a w :=
 ⟨dr_weak hS _ _ _ _ h.out⟩

end Go.GL

set_option maxRecDepth 20000
set_option maxHeartbeats 2000000
namespace Go.Proofs.YtkfgdhanaijddaaGreatDoor
namespace PQ2
open Go.RowKit Go.GL Go.Proofs
open Go.Proofs.YtkfgdhanaijddaaGreatDoor.B1
open Go.Proofs.YtkfgdhanaijddaaGreatDoor.C1
open Go.Proofs.YtkfgdhanaijddaaGreatDoor.D1
open Go.Proofs.YtkfgdhanaijddaaGreatDoor.E1
open Go.Proofs.YtkfgdhanaijddaaGreatDoor.K1
open Go.Proofs.YtkfgdhanaijddaaGreatDoor.PO1
open Go.Proofs.YtkfgdhanaijddaaGreatDoor.PL1
open Go.Proofs.YtkfgdhanaijddaaGreatDoor.PA1
open Go.Proofs.YtkfgdhanaijddaaGreatDoor.SO1
open Go.Proofs.YtkfgdhanaijddaaGreatDoor.OD1
open Go.Proofs.YtkfgdhanaijddaaGreatDoor.SF1
open Go.Proofs.YtkfgdhanaijddaaGreatDoor.MK1
open Go.Proofs.YtkfgdhanaijddaaGreatDoor.DR1
open Go.Proofs.YtkfgdhanaijddaaGreatDoor.DR2
open Go.Proofs.YtkfgdhanaijddaaGreatDoor.DV1
open Go.Proofs.YtkfgdhanaijddaaGreatDoor.DV2
open Go.Proofs.YtkfgdhanaijddaaGreatDoor.N1
open Go.Proofs.YtkfgdhanaijddaaGreatDoor.N2
open Go.Proofs.YtkfgdhanaijddaaGreatDoor.PQ1







theorem pl28 : (Tryz.prog.underlying 28).bind (placesD Tryz.prog) = some [(0, 1)] := by kernel_rfl



theorem part_pspec {w : World} {G : Pin} {v : Value} {ns : List Nd} {z : Int} (hP : Pins G w) (hv : RSl eNode G v ns) (hg : GoodP ns) (hz : 0 ≤ z ∧ z < ns.length) :
  Calls Tryz.prog 75 [(.agg [v].toArray), (.int .i64 z)].toArray w fun e w' => ∃ (u : Value) (G' : Pin), e = .returned (.agg [u].toArray) ∧ RSl eNode G' u (partS ns z) ∧ Ext noS G w G' w' := by
 refine (part_dspecZ hP hv hg hz).mono ?_
 rintro e w' ⟨u, G', rfl, hd, hx⟩
 obtain ⟨G2, hr, hx2⟩ := d_prom hd hx
 exact ⟨u, G2, rfl, hr, hx2⟩
theorem iOptionsOf_pspec {w : World} {G : Pin} {v : Value} {ns : List Nd} (hP : Pins G w) (hv : RSl eNode G v ns) (hg : GoodP ns) :
  Calls Tryz.prog 26 [(.agg [v].toArray)].toArray w fun e w' => ∃ (u v : Value) (G' : Pin), e = .returned (.tuple #[u, v, .bool true]) ∧ RSl (eSl eNode) G' u (optsS ns (lastN ns).l) ∧ RSl (eSl eNode) G' v (optsS ns (lastN ns).r) ∧ Ext noS G w G' w' := by
 refine (iOptionsOf_dspec hP hv).mono ?_
 rintro e w' ⟨u, v, la, ha, lb, hb, G', rfl, h1, h2, h3, hx⟩
 have hgb := goodB_true.2 hg
 obtain ⟨e1, e2⟩ := op_yes hgb
 rw [e1] at h1
 rw [e2] at h2
 obtain ⟨G1, l1, p1, r1, f1⟩ := h1.read hx.pins
 obtain ⟨G2, l2, p2, r2, f2⟩ := h2.read hx.pins
 obtain ⟨G3, c0, c1, c2, c3, c4⟩ := join_pins l1 p1 p2 f1 f2
 exact ⟨u, v, G3, by rw [hgb], r1.mono c1, r2.mono c2, hx.promise c0 c3 c4 (by omega)⟩

theorem births_pspec {w : World} {G : Pin} {v : Value} {ns : List Nd} (hP : Pins G w) (hv : RSl eNode G v ns) (ho : OptsOk ns) (hs : ns.length ≤ 1048576) :
  Calls Tryz.prog 78 [v].toArray w fun e w' => ∃ (u : Value) (G' : Pin), e = .returned u ∧ RSl eInt G' u (births ns) ∧ Ext noS G w G' w' := by
 refine (births_spec hP hv ho hs).mono ?_
 rintro e w' ⟨u, G', rfl, ho, hx⟩
 have h := ho.shut hx
 exact ⟨u, _, rfl, h.1, h.2⟩

theorem PartAt_spec {w : World} {G : Pin} {v : Value} {ns : List Nd} {z : Int} (hP : Pins G w) (hv : RSl eNode G v ns) (hg : GoodP ns) (hz : 0 ≤ z ∧ z < ns.length) :
  Calls Tryz.prog 25 [(.agg [v].toArray), (.int .i64 z)].toArray w fun e w' => ∃ (u : Value) (G' : Pin), e = .returned (.tuple #[(.agg [u].toArray), .bool true]) ∧ RSl eNode G' u (partS ns z) ∧ Ext noS G w G' w' := by
 refine s_enter (n := 24) Tryz.func25 Tryz.ntmps25 rfl rfl ?_
 have hX0 : Ext noS G w G w := Ext.refl hP
 refine s_seq (c_reg ?_)
 refine q1 rfl rfl rfl (o_box [v] (v := (.agg [v].toArray)) rfl rfl hX0.pins (fun b1 w2 hk3 hb4 hp5 hl6 => ?_))
 have hX7 := hX0.step hp5 hl6
 have hlo8 : w.heap.size ≤ b1 := by have := hX0.size; omega
 obtain ⟨G9, hle10, hX11, hbp12, hf13⟩ := hb4.shut hX7 hlo8
 refine q1 rfl rfl rfl (o_alloc [(.slice none 0 0)] zr28 rfl hX11.pins (fun b14 w15 hk16 hb17 hp18 hl19 => ?_))
 have hX20 := hX11.step hp18 hl19
 have hlo21 : w.heap.size ≤ b14 := by have := hX11.size; omega
 refine qd rfl rfl rfl (r_assign (v := (.bool false)) rfl) (qe (s_then (s_seq (s_seq (c_reg ?_)))))
 refine qd rfl rfl rfl (r_ldpA (cs := [v]) ag28 sz28 rfl (fun j u hj => hX20.pins _ _ _ (hbp12 _ _ (by simpa using hj)))) (q1 rfl rfl rfl (o_call (vs := [(.agg [v].toArray)]) Tryz.func57 nm57 rfl rfl rfl ?_))
 refine Calls.mono (goodForm_spec hX20.pins (hv.mono hle10)) ?_
 rintro _ w23 ⟨G22, rfl, hx24⟩
 refine ⟨_, rfl, ?_⟩
 have hX25 := hX20.tr hx24
 have hb26 := hb17.ext hx24
 refine qd rfl rfl rfl (r_not rfl) (qd rfl rfl rfl (r_move (v := (.bool (!(goodB ns)))) rfl) (qbn (t := 9) rfl (fun h27 => ?_) (fun h27 => ?_)))
 refine qdg rfl rfl rfl rfl rfl rfl (r_move (v := (.int .i64 z)) rfl) (qdg rfl rfl rfl rfl rfl rfl (r_lss rfl rfl) (qd rfl rfl rfl (r_pickF (v := (.bool (decide ((z : Int) < 0)))) rfl rfl) (qd rfl rfl rfl (r_move (v := (.bool (decide ((z : Int) < 0)))) rfl) (qbd (p := (z : Int) < 0) (t := 13) rfl (fun h28 => ?_) (fun h28 => ?_)))))
 refine qs rfl rfl rfl rfl rfl rfl (qs rfl rfl rfl rfl rfl rfl (qs rfl rfl rfl rfl rfl rfl (qs rfl rfl rfl rfl rfl rfl (qs rfl rfl rfl rfl rfl rfl (qd rfl rfl rfl (r_pickT (v := (.bool true)) rfl rfl) (qe (s_then ?_)))))))
 refine c_ifT rfl rfl (s_seq (c_reg ?_))
 refine qd rfl rfl rfl (r_build [(.slice none 0 0)] [(.slice none 0 0)] [] Tryz.underlying28 zr28 rfl pl28 rfl (fun _ h => by cases h) rfl) (q0 rfl rfl rfl (o_stp (cs' := [(.slice none 0 0)]) (us := [(.slice none 0 0)]) (v := (.agg [(.slice none 0 0)].toArray)) sz28 rfl rfl rfl (ones1 (by rfl)) hX25.pins hb26 (Nat.le_of_ble_eq_true rfl) rfl (fun w29 hb30 hp31 hg32 hz33 => ?_)))
 refine qd rfl rfl rfl (r_assign (v := (.bool false)) rfl) (qe (s_then ?_))
 refine wp_ret (s_ret (c_retct (cs := [(.slice none 0 0)]) (v := (.bool false)) rfl rfl rfl rfl rfl ag28 sz28 (fun j u hj => by rw [Nat.zero_add]; exact hb30.cell hj) ?_))
 exfalso
 omega
 refine qdg rfl rfl rfl rfl rfl rfl (r_move (v := (.int .i64 z)) rfl) (qdg rfl rfl rfl rfl rfl rfl (r_fldp (k := 0) rfl Tryz.underlying28 rfl nz26 rfl) (qdg rfl rfl rfl rfl rfl rfl (r_ldp1 (u := v) ag26 rfl ((Pins.of_le hX25.pins hx24.le) _ _ _ (hbp12 0 _ rfl))) (qdg rfl rfl rfl rfl rfl rfl (run_len Tryz.underlying26 (v := v) rfl hv) (qdg rfl rfl rfl rfl rfl rfl (r_geq rfl rfl) (qd rfl rfl rfl (r_pickF (v := (.bool (decide (((ns.length : Int) : Int) ≤ z)))) rfl rfl) (qe (s_then ?_)))))))
 refine c_ifd (p := ((ns.length : Int) : Int) ≤ z) rfl rfl (fun h35 => ?_) (fun h35 => ?_)
 refine s_seq (c_reg ?_)
 refine qd rfl rfl rfl (r_build [(.slice none 0 0)] [(.slice none 0 0)] [] Tryz.underlying28 zr28 rfl pl28 rfl (fun _ h => by cases h) rfl) (q0 rfl rfl rfl (o_stp (cs' := [(.slice none 0 0)]) (us := [(.slice none 0 0)]) (v := (.agg [(.slice none 0 0)].toArray)) sz28 rfl rfl rfl (ones1 (by rfl)) hX25.pins hb26 (Nat.le_of_ble_eq_true rfl) rfl (fun w36 hb37 hp38 hg39 hz40 => ?_)))
 refine qd rfl rfl rfl (r_assign (v := (.bool false)) rfl) (qe (s_then ?_))
 refine wp_ret (s_ret (c_retct (cs := [(.slice none 0 0)]) (v := (.bool false)) rfl rfl rfl rfl rfl ag28 sz28 (fun j u hj => by rw [Nat.zero_add]; exact hb37.cell hj) ?_))
 exfalso
 omega
 refine wp_skip (s_then (s_seq (c_reg ?_)))
 refine qd rfl rfl rfl (r_ldpA (cs := [v]) ag28 sz28 rfl (fun j u hj => (Pins.of_le hX25.pins hx24.le) _ _ _ (hbp12 _ _ (by simpa using hj)))) (qd rfl rfl rfl (r_move (v := (.int .i64 z)) rfl) (q1 rfl rfl rfl (o_call (vs := [(.agg [v].toArray), (.int .i64 z)]) Tryz.func75 nm75 rfl rfl rfl ?_)))
 refine Calls.mono (part_pspec hX25.pins (hv.mono (Pin.le_trans hle10 hx24.le)) hg (by omega)) ?_
 rintro _ w44 ⟨u42, G43, rfl, hr45, hx46⟩
 refine ⟨_, rfl, ?_⟩
 have hX47 := hX25.tr hx46
 have hb48 := hb26.ext hx46
 refine q0 rfl rfl rfl (o_stp (cs' := [u42]) (us := [u42]) (v := (.agg [u42].toArray)) sz28 rfl rfl rfl (ones1 hr45.one) hX47.pins hb48 (Nat.le_of_ble_eq_true rfl) rfl (fun w49 hb50 hp51 hg52 hz53 => ?_))
 have hX54 := hX47.write hp51 hg52 ((lo_box hlo21))
 refine qd rfl rfl rfl (r_assign (v := (.bool true)) rfl) (qe (s_then ?_))
 exact wp_ret (s_ret (c_retct (cs := [u42]) (v := (.bool true)) rfl rfl rfl rfl rfl ag28 sz28 (fun j u hj => by rw [Nat.zero_add]; exact hb50.cell hj) (⟨_, _, rfl, hr45, hX54⟩)))
 refine qs rfl rfl rfl rfl rfl rfl (qs rfl rfl rfl rfl rfl rfl (qd rfl rfl rfl (r_pickT (v := (.bool true)) rfl rfl) (qd rfl rfl rfl (r_move (v := (.bool true)) rfl) (qs rfl rfl rfl rfl rfl rfl (qs rfl rfl rfl rfl rfl rfl (qs rfl rfl rfl rfl rfl rfl (qs rfl rfl rfl rfl rfl rfl (qs rfl rfl rfl rfl rfl rfl (qd rfl rfl rfl (r_pickT (v := (.bool true)) rfl rfl) (qe (s_then ?_)))))))))))
 refine c_ifT rfl rfl (s_seq (c_reg ?_))
 refine qd rfl rfl rfl (r_build [(.slice none 0 0)] [(.slice none 0 0)] [] Tryz.underlying28 zr28 rfl pl28 rfl (fun _ h => by cases h) rfl) (q0 rfl rfl rfl (o_stp (cs' := [(.slice none 0 0)]) (us := [(.slice none 0 0)]) (v := (.agg [(.slice none 0 0)].toArray)) sz28 rfl rfl rfl (ones1 (by rfl)) hX25.pins hb26 (Nat.le_of_ble_eq_true rfl) rfl (fun w55 hb56 hp57 hg58 hz59 => ?_)))
 refine qd rfl rfl rfl (r_assign (v := (.bool false)) rfl) (qe (s_then ?_))
 refine wp_ret (s_ret (c_retct (cs := [(.slice none 0 0)]) (v := (.bool false)) rfl rfl rfl rfl rfl ag28 sz28 (fun j u hj => by rw [Nat.zero_add]; exact hb56.cell hj) ?_))
 exfalso
 rw [goodB_true.2 hg] at h27
 cases h27

theorem BornOf_spec {w : World} {G : Pin} {v : Value} {ns : List Nd} (hP : Pins G w) (hv : RSl eNode G v ns) :
  Calls Tryz.prog 27 [(.agg [v].toArray)].toArray w fun e w' => ∃ G', e = .returned (.tuple #[.int .i64 (bnI ns), .bool (goodB ns)]) ∧ Ext noS G w G' w' := by
 refine s_enter (n := 16) Tryz.func27 Tryz.ntmps27 rfl rfl ?_
 have hX0 : Ext noS G w G w := Ext.refl hP
 refine s_seq (c_reg ?_)
 refine q1 rfl rfl rfl (o_box [v] (v := (.agg [v].toArray)) rfl rfl hX0.pins (fun b1 w2 hk3 hb4 hp5 hl6 => ?_))
 have hX7 := hX0.step hp5 hl6
 have hlo8 : w.heap.size ≤ b1 := by have := hX0.size; omega
 obtain ⟨G9, hle10, hX11, hbp12, hf13⟩ := hb4.shut hX7 hlo8
 refine qd rfl rfl rfl (r_assign (v := (.int .i64 0)) rfl) (qd rfl rfl rfl (r_assign (v := (.bool false)) rfl) (qe (s_then (s_seq (s_seq (c_reg ?_))))))
 refine qd rfl rfl rfl (r_ldpA (cs := [v]) ag28 sz28 rfl (fun j u hj => hX11.pins _ _ _ (hbp12 _ _ (by simpa using hj)))) (q1 rfl rfl rfl (o_call (vs := [(.agg [v].toArray)]) Tryz.func57 nm57 rfl rfl rfl ?_))
 refine Calls.mono (goodForm_spec hX11.pins (hv.mono hle10)) ?_
 rintro _ w15 ⟨G14, rfl, hx16⟩
 refine ⟨_, rfl, ?_⟩
 have hX17 := hX11.tr hx16
 refine qd rfl rfl rfl (r_not rfl) (qe (s_then ?_))
 refine c_ifn rfl rfl (fun h18 => ?_) (fun h18 => ?_)
 refine wp_skip (s_then (s_seq ?_))
 have hg : GoodP ns := goodB_true.1 h18
 have hlo := hg.lo
 have hhi := hg.hi
 have hbl := (births_of (good_form hg).opts).1
 refine c_draw (S := fun wz => Pins G14 wz) (last := 11) (by kernel_rfl) rfl ?_
 have hl19 : Below w15.heap.size w15 w15.drew := (Below.refl _ _).drew
 have hp20 := hX17.pins.below hl19
 have hX21 := hX17.step hp20 hl19
 refine dr_take (i := 0) rfl rfl rfl (want_none rfl _) (by kernel_rfl) (fun _ _ => r_fldp (k := 0) rfl Tryz.underlying28 rfl nz26 rfl) hX21.pins (dr_take (i := 1) rfl rfl rfl (want_none rfl _) (by kernel_rfl) (fun _ hS => r_ldp1 (u := v) ag26 rfl ((Pins.of_le hS hx16.le) _ _ _ (hbp12 0 _ rfl))) hX21.pins (dr_take (i := 3) rfl rfl rfl (want_none rfl _) (by kernel_rfl) (fun _ _ => r_fldp (k := 0) rfl Tryz.underlying28 rfl nz26 rfl) hX21.pins (dr_take (i := 4) rfl rfl rfl (want_none rfl _) (by kernel_rfl) (fun _ hS => r_ldp1 (u := v) ag26 rfl ((Pins.of_le hS hx16.le) _ _ _ (hbp12 0 _ rfl))) hX21.pins (dr_take (i := 5) rfl rfl rfl (want_none rfl _) (by kernel_rfl) (fun _ _ => run_len Tryz.underlying26 (v := v) rfl hv) hX21.pins (dr_take (i := 6) rfl rfl rfl (want_none rfl _) (by kernel_rfl) (fun _ _ => r_sub rfl rfl (by omega)) hX21.pins (dr_one (i := 2) (by kernel_rfl) (drOp1 (i := 2) rfl rfl rfl (want_none rfl _) (o_call (vs := [v]) Tryz.func78 nm78 rfl rfl rfl ?_))))))))
 refine Calls.mono (births_pspec hX21.pins (hv.mono (Pin.le_trans hle10 hx16.le)) (good_form hg).opts (by omega)) ?_
 rintro _ w24 ⟨u22, G23, rfl, hr25, hx26⟩
 refine ⟨_, rfl, ?_⟩
 have hX27 := hX21.tr hx26
 refine ⟨fun _ => (Pins.of_le hX27.pins hx26.le), ?_⟩
 refine dr_take (i := 7) rfl rfl rfl (want_none rfl _) (by kernel_rfl) (fun _ _ => run_idx Tryz.underlying57 sz3 (v := u22) rfl rfl hr25 (by omega) (by omega)) (Pins.of_le hX27.pins hx26.le) (dr_more (S' := fun wz => Pins G14 wz ∧ Pins G23 wz) (fun _ h => h.1) (dr_take (i := 8) rfl rfl rfl (want_none rfl _) (by kernel_rfl) (fun _ hS => run_load_int (r := (births ns).getD ((ns.length : Int) - 1).toNat 0) rfl ag3 (z := ((ns.length : Int) - 1)) rfl hr25 hS.2 (by omega) (by omega)) ⟨(Pins.of_le hX27.pins hx26.le), hX27.pins⟩ (dr_take (i := 9) rfl rfl rfl (want_none rfl _) (by kernel_rfl) (fun _ _ => r_assign (v := (.int .i64 ((births ns).getD ((ns.length : Int) - 1).toNat 0))) rfl) ⟨(Pins.of_le hX27.pins hx26.le), hX27.pins⟩ (dr_take (i := 10) rfl rfl rfl (want_none rfl _) (by kernel_rfl) (fun _ _ => r_assign (v := (.bool true)) rfl) ⟨(Pins.of_le hX27.pins hx26.le), hX27.pins⟩ (dr_end (by kernel_rfl) (s_then (wp_ret (s_ret (c_ret2 (v := (.int .i64 ((births ns).getD ((ns.length : Int) - 1).toNat 0))) (u := (.bool true)) rfl rfl rfl rfl rfl ?_)))))))))
 have hb9 : bnI ns = (births ns).getD ((ns.length : Int) - 1).toNat 0 := by unfold bnI; rw [if_pos h18, show ((ns.length : Int) - 1).toNat = ns.length - 1 by omega]
 rw [hb9, h18]
 exact ⟨_, rfl, hX27⟩
 refine s_seq (c_reg ?_)
 refine qd rfl rfl rfl (r_assign (v := (.int .i64 0)) rfl) (qd rfl rfl rfl (r_assign (v := (.bool false)) rfl) (qe (s_then ?_)))
 refine wp_ret (s_ret (c_ret2 (v := (.int .i64 0)) (u := (.bool false)) rfl rfl rfl rfl rfl ?_))
 rw [show bnI ns = 0 from if_neg (by rw [h18]; exact Bool.noConfusion), h18]
 exact ⟨_, rfl, hX17⟩

end PQ2
end Go.Proofs.YtkfgdhanaijddaaGreatDoor

set_option maxRecDepth 20000
set_option maxHeartbeats 2000000
namespace Go.Proofs.YtkfgdhanaijddaaGreatDoor
namespace GW1
open Go.RowKit Go.GL Go.Proofs
open Go.Proofs.YtkfgdhanaijddaaGreatDoor.B1
open Go.Proofs.YtkfgdhanaijddaaGreatDoor.C1
open Go.Proofs.YtkfgdhanaijddaaGreatDoor.D1
open Go.Proofs.YtkfgdhanaijddaaGreatDoor.E1
open Go.Proofs.YtkfgdhanaijddaaGreatDoor.MK1
open Go.Proofs.YtkfgdhanaijddaaGreatDoor.DR1
open Go.Proofs.YtkfgdhanaijddaaGreatDoor.DR2
open Go.Proofs.YtkfgdhanaijddaaGreatDoor.DV1
open Go.Proofs.YtkfgdhanaijddaaGreatDoor.DV2


theorem vInts_spec {w : World} {G : Pin} {u v : Value} {xs ys : List Int} (hP : Pins G w) (hu : RSl eInt G u xs) (hv : RSl eInt G v ys) :
  Calls Tryz.prog 54 [u, v].toArray w fun e w' => e = .returned (.bool (decide (xs = ys))) ∧ Ext noS G w G w' := by
 refine s_enter (n := 26) Tryz.func54 Tryz.ntmps54 rfl rfl ?_
 have hX0 : Ext noS G w G w := Ext.refl hP
 have hm := hu.max
 refine s_seq (c_reg ?_)
 refine qd rfl rfl rfl (r_assign (v := (.bool false)) rfl) (qe (s_then (s_seq (s_seq (c_reg ?_)))))
 refine qd rfl rfl rfl (r_move (v := u) rfl) (qd rfl rfl rfl (run_len Tryz.underlying57 (v := u) rfl hu) (qd rfl rfl rfl (r_move (v := v) rfl) (qd rfl rfl rfl (run_len Tryz.underlying57 (v := v) rfl hv) (qd rfl rfl rfl (r_neq rfl rfl) (qe (s_then ?_))))))
 refine c_ifd (p := ((xs.length : Int) : Int) ≠ (ys.length : Int)) rfl rfl (fun h1 => ?_) (fun h1 => ?_)
 refine s_seq (c_reg ?_)
 refine qd rfl rfl rfl (r_assign (v := (.bool false)) rfl) (qe (s_then ?_))
 exact wp_ret (s_ret (c_ret1 (v := (.bool false)) rfl rfl rfl (⟨congrArg (fun z => Ending.returned (Value.bool z)) (decide_eq_false (fun e => h1 (by rw [e]))).symm, hX0⟩)))
 refine wp_skip (s_then (s_seq (s_seq (c_reg ?_))))
 refine qd rfl rfl rfl (r_assign (v := (.int .i64 0)) rfl) (qe (s_then ?_))
 refine s_blk (s_loop (fun (k : Nat) (en : Nat → Value) (W : World) => ∃ (env1 : Nat → Value) (j : Nat), en = (upd (upd (upd env1 0 u) 1 v) 5 (.int .i64 (j : Int))) ∧ k = xs.length - j ∧ Ext noS G w G W ∧ (j ≤ xs.length) ∧ (xs.length = ys.length) ∧ (∀ i, i < j → xs.getD i 0 = ys.getD i 0)) _ ⟨_, 0, (packS (x := 5) (packS (x := 1) (pack1 (x := 0) rfl) rfl) rfl), rfl, hX0, Nat.zero_le _, (by omega), (fun i hi => absurd hi (Nat.not_lt_zero i))⟩ ?_)
 rintro k2 _ w3 ⟨env1, j, rfl, hk4, hX5, hj, heq, hp⟩
 refine s_seq (s_seq (c_reg ?_))
 refine qd rfl rfl rfl (r_move (v := (.int .i64 (j : Int))) rfl) (qd rfl rfl rfl (r_move (v := u) rfl) (qd rfl rfl rfl (run_len Tryz.underlying57 (v := u) rfl hu) (qd rfl rfl rfl (r_lss rfl rfl) (qe (s_then ?_)))))
 refine c_ifd (p := ((j : Int) : Int) < (xs.length : Int)) rfl rfl (fun h6 => ?_) (fun h6 => ?_)
 refine wp_skip (s_then (s_seq ?_))
 refine s_blk (s_seq (c_draw (S := fun wz => Pins G wz) (last := 9) (by kernel_rfl) rfl ?_))
 have hl7 : Below w3.heap.size w3 w3.drew := (Below.refl _ _).drew
 have hp8 := hX5.pins.below hl7
 have hX9 := hX5.step hp8 hl7
 refine dr_take (i := 0) rfl rfl rfl (want_none rfl _) (by kernel_rfl) (fun _ _ => r_move (v := u) rfl) hX9.pins (dr_take (i := 1) rfl rfl rfl (want_none rfl _) (by kernel_rfl) (fun _ _ => r_move (v := (.int .i64 (j : Int))) rfl) hX9.pins (dr_take (i := 2) rfl rfl rfl (want_none rfl _) (by kernel_rfl) (fun _ _ => run_idx Tryz.underlying57 sz3 (v := u) rfl rfl hu (by omega) (by omega)) hX9.pins (dr_take (i := 3) rfl rfl rfl (want_none rfl _) (by kernel_rfl) (fun _ hS => run_load_int (r := xs.getD j 0) rfl ag3 (z := (j : Int)) rfl hu hS (by omega) (by omega)) hX9.pins (dr_take (i := 4) rfl rfl rfl (want_none rfl _) (by kernel_rfl) (fun _ _ => r_move (v := v) rfl) hX9.pins (dr_take (i := 5) rfl rfl rfl (want_none rfl _) (by kernel_rfl) (fun _ _ => r_move (v := (.int .i64 (j : Int))) rfl) hX9.pins (dr_take (i := 6) rfl rfl rfl (want_none rfl _) (by kernel_rfl) (fun _ _ => run_idx Tryz.underlying57 sz3 (v := v) rfl rfl hv (by omega) (by omega)) hX9.pins (dr_take (i := 7) rfl rfl rfl (want_none rfl _) (by kernel_rfl) (fun _ hS => run_load_int (r := ys.getD j 0) rfl ag3 (z := (j : Int)) rfl hv hS (by omega) (by omega)) hX9.pins (dr_take (i := 8) rfl rfl rfl (want_none rfl _) (by kernel_rfl) (fun _ _ => r_neq rfl rfl) hX9.pins (dr_end (by kernel_rfl) (s_then (c_ifd (p := (xs.getD j 0 : Int) ≠ (ys.getD j 0)) rfl rfl (fun h10 => ?_) (fun h10 => ?_))))))))))))
 refine s_seq (c_reg ?_)
 refine qd rfl rfl rfl (r_assign (v := (.bool false)) rfl) (qe (s_then ?_))
 exact wp_ret (s_ret (c_ret1 (v := (.bool false)) rfl rfl rfl (⟨congrArg (fun z => Ending.returned (Value.bool z)) (decide_eq_false (fun e => h10 (by rw [e]))).symm, hX9⟩)))
 refine wp_skip (s_blkN (s_then (c_reg ?_)))
 refine qd rfl rfl rfl (r_move (v := (.int .i64 (j : Int))) rfl) (qd rfl rfl rfl (r_add rfl rfl (by omega)) (qd rfl rfl rfl (r_assign (v := (.int .i64 ((j : Int) + 1))) rfl) (qe (s_lopN (⟨_, ?_, _, rfl, _, j + 1, (packS (x := 5) (packS (x := 1) (pack1 (x := 0) rfl) rfl) rfl), rfl, hX9, (by omega), heq, (eqstep hp h10)⟩)))))
 omega
 refine wp_exit (s_thenE (s_lopE (s_blkE (s_then (s_seq (c_reg ?_))))))
 refine qd rfl rfl rfl (r_assign (v := (.bool true)) rfl) (qe (s_then ?_))
 exact wp_ret (s_ret (c_ret1 (v := (.bool true)) rfl rfl rfl (⟨congrArg (fun z => Ending.returned (Value.bool z)) (decide_eq_true (eqdone heq (by omega) hp)).symm, hX5⟩)))

end GW1
end Go.Proofs.YtkfgdhanaijddaaGreatDoor

set_option maxRecDepth 20000
set_option maxHeartbeats 2000000
namespace Go.Proofs.YtkfgdhanaijddaaGreatDoor
namespace SO7
open Go.RowKit Go.GL Go.Proofs
open Go.Proofs.YtkfgdhanaijddaaGreatDoor.B1
open Go.Proofs.YtkfgdhanaijddaaGreatDoor.C1
open Go.Proofs.YtkfgdhanaijddaaGreatDoor.D1
open Go.Proofs.YtkfgdhanaijddaaGreatDoor.E1
open Go.Proofs.YtkfgdhanaijddaaGreatDoor.GW1






theorem vSame_spec {w : World} {G : Pin} {u v : Value} {xs ys : List Nd} (hP : Pins G w) (hu : RSl eNode G u xs) (hv : RSl eNode G v ys) :
  Calls Tryz.prog 15 [(.agg [u].toArray), (.agg [v].toArray)].toArray w fun e w' => ∃ G', e = .returned (.bool (decide (xs = ys))) ∧ Ext noS G w G' w' := by
 refine s_enter (n := 50) Tryz.func15 Tryz.ntmps15 rfl rfl ?_
 have hX0 : Ext noS G w G w := Ext.refl hP
 have hm := hu.max
 refine s_seq (c_reg ?_)
 refine q1 rfl rfl rfl (o_box [u] (v := (.agg [u].toArray)) rfl rfl hX0.pins (fun b1 w2 hk3 hb4 hp5 hl6 => ?_))
 have hX7 := hX0.step hp5 hl6
 have hlo8 : w.heap.size ≤ b1 := by have := hX0.size; omega
 obtain ⟨G9, hle10, hX11, hbp12, hf13⟩ := hb4.shut hX7 hlo8
 refine q1 rfl rfl rfl (o_box [v] (v := (.agg [v].toArray)) rfl rfl hX11.pins (fun b14 w15 hk16 hb17 hp18 hl19 => ?_))
 have hX20 := hX11.step hp18 hl19
 have hlo21 : w.heap.size ≤ b14 := by have := hX11.size; omega
 obtain ⟨G22, hle23, hX24, hbp25, hf26⟩ := hb17.shut hX20 hlo21
 refine qd rfl rfl rfl (r_assign (v := (.bool false)) rfl) (qe (s_then (s_seq (s_seq (c_reg ?_)))))
 refine qd rfl rfl rfl (r_fldp (k := 0) rfl Tryz.underlying28 rfl nz26 rfl) (qd rfl rfl rfl (r_ldp1 (u := u) ag26 rfl ((Pins.of_le hX24.pins hle23) _ _ _ (hbp12 0 _ rfl))) (qd rfl rfl rfl (run_len Tryz.underlying26 (v := u) rfl hu) (qd rfl rfl rfl (r_fldp (k := 0) rfl Tryz.underlying28 rfl nz26 rfl) (qd rfl rfl rfl (r_ldp1 (u := v) ag26 rfl (hX24.pins _ _ _ (hbp25 0 _ rfl))) (qd rfl rfl rfl (run_len Tryz.underlying26 (v := v) rfl hv) (qd rfl rfl rfl (r_neq rfl rfl) (qe (s_then ?_))))))))
 refine c_ifd (p := ((xs.length : Int) : Int) ≠ (ys.length : Int)) rfl rfl (fun h27 => ?_) (fun h27 => ?_)
 refine s_seq (c_reg ?_)
 refine qd rfl rfl rfl (r_assign (v := (.bool false)) rfl) (qe (s_then ?_))
 exact wp_ret (s_ret (c_ret1 (v := (.bool false)) rfl rfl rfl (⟨_, congrArg (fun z => Ending.returned (Value.bool z)) (decide_eq_false (fun e => h27 (by rw [e]))).symm, hX24⟩)))
 refine wp_skip (s_then (s_seq (s_seq (c_reg ?_))))
 refine qd rfl rfl rfl (r_assign (v := (.int .i64 0)) rfl) (qe (s_then ?_))
 refine s_blk (s_loop (fun (k : Nat) (en : Nat → Value) (W : World) => ∃ (env1 : Nat → Value) (j : Nat) (GL1 : Pin), en = (upd (upd (upd env1 2 (.pointer (some ⟨b1, 0, none⟩))) 3 (.pointer (some ⟨b14, 0, none⟩))) 5 (.int .i64 (j : Int))) ∧ k = xs.length - j ∧ Ext noS G w GL1 W ∧ Pin.le G22 GL1 ∧ (j ≤ xs.length) ∧ (xs.length = ys.length) ∧ (∀ i, i < j → xs.getD i default = ys.getD i default)) _ ⟨_, 0, G22, (packS (x := 5) (packS (x := 3) (pack1 (x := 2) rfl) rfl) rfl), rfl, hX24, Pin.le_refl _, Nat.zero_le _, (by omega), (fun i hi => absurd hi (Nat.not_lt_zero i))⟩ ?_)
 rintro k28 _ w29 ⟨env1, j, GL1, rfl, hk30, hX31, hlek28, hj, heq, hp⟩
 refine s_seq (s_seq (c_reg ?_))
 refine qd rfl rfl rfl (r_move (v := (.int .i64 (j : Int))) rfl) (qd rfl rfl rfl (r_fldp (k := 0) rfl Tryz.underlying28 rfl nz26 rfl) (qd rfl rfl rfl (r_ldp1 (u := u) ag26 rfl ((Pins.of_le hX31.pins (Pin.le_trans hle23 hlek28)) _ _ _ (hbp12 0 _ rfl))) (qd rfl rfl rfl (run_len Tryz.underlying26 (v := u) rfl hu) (qd rfl rfl rfl (r_lss rfl rfl) (qe (s_then ?_))))))
 refine c_ifd (p := ((j : Int) : Int) < (xs.length : Int)) rfl rfl (fun h32 => ?_) (fun h32 => ?_)
 refine wp_skip (s_then (s_seq ?_))
 refine s_blk (s_seq (c_draw (S := fun wz => Pins GL1 wz) (last := 30) (by kernel_rfl) rfl ?_))
 have hl33 : Below w29.heap.size w29 w29.drew := (Below.refl _ _).drew
 have hp34 := hX31.pins.below hl33
 have hX35 := hX31.step hp34 hl33
 refine dr_take (i := 0) rfl rfl rfl (want_none rfl _) (by kernel_rfl) (fun _ _ => r_fldp (k := 0) rfl Tryz.underlying28 rfl nz26 rfl) hX35.pins (dr_take (i := 1) rfl rfl rfl (want_none rfl _) (by kernel_rfl) (fun _ hS => r_ldp1 (u := u) ag26 rfl ((Pins.of_le hS (Pin.le_trans hle23 hlek28)) _ _ _ (hbp12 0 _ rfl))) hX35.pins (dr_take (i := 2) rfl rfl rfl (want_none rfl _) (by kernel_rfl) (fun _ _ => r_move (v := (.int .i64 (j : Int))) rfl) hX35.pins (dr_take (i := 3) rfl rfl rfl (want_none rfl _) (by kernel_rfl) (fun _ _ => run_idx Tryz.underlying26 sz68 (v := u) rfl rfl hu (by omega) (by omega)) hX35.pins (dr_take (i := 4) rfl rfl rfl (want_none rfl _) (by kernel_rfl) (fun _ _ => run_fld (off := 0) Tryz.underlying68 rfl rfl nz57 (z := (j : Int)) (k := 0) rfl hu (by omega) (by omega)) hX35.pins ?_))))
 obtain ⟨u36, hr37, hl38⟩ := nm_nl (hu.at (z := (j : Int)) (by omega) (by omega)) (j := j) rfl
 have hm39 := hr37.max
 refine dr_take (i := 5) rfl rfl rfl (want_none rfl _) (by kernel_rfl) (fun _ hS => hl38 ag57 rfl (Pins.of_le hS (Pin.le_trans (Pin.le_trans hle10 hle23) hlek28))) hX35.pins (dr_take (i := 6) rfl rfl rfl (want_none rfl _) (by kernel_rfl) (fun _ _ => r_fldp (k := 0) rfl Tryz.underlying28 rfl nz26 rfl) hX35.pins (dr_take (i := 7) rfl rfl rfl (want_none rfl _) (by kernel_rfl) (fun _ hS => r_ldp1 (u := v) ag26 rfl ((Pins.of_le hS hlek28) _ _ _ (hbp25 0 _ rfl))) hX35.pins (dr_take (i := 8) rfl rfl rfl (want_none rfl _) (by kernel_rfl) (fun _ _ => r_move (v := (.int .i64 (j : Int))) rfl) hX35.pins (dr_take (i := 9) rfl rfl rfl (want_none rfl _) (by kernel_rfl) (fun _ _ => run_idx Tryz.underlying26 sz68 (v := v) rfl rfl hv (by omega) (by omega)) hX35.pins (dr_take (i := 10) rfl rfl rfl (want_none rfl _) (by kernel_rfl) (fun _ _ => run_fld (off := 0) Tryz.underlying68 rfl rfl nz57 (z := (j : Int)) (k := 0) rfl hv (by omega) (by omega)) hX35.pins ?_)))))
 obtain ⟨u40, hr41, hl42⟩ := nm_nl (hv.at (z := (j : Int)) (by omega) (by omega)) (j := j) rfl
 have hm43 := hr41.max
 refine dr_take (i := 11) rfl rfl rfl (want_none rfl _) (by kernel_rfl) (fun _ hS => hl42 ag57 rfl (Pins.of_le hS (Pin.le_trans (Pin.le_trans hle10 hle23) hlek28))) hX35.pins (dr_one (i := 12) (by kernel_rfl) (drOp1 (i := 12) rfl rfl rfl (want_none rfl _) (o_call (vs := [u36, u40]) Tryz.func54 nm54 rfl rfl rfl ?_)))
 refine Calls.mono (vInts_spec hX35.pins (hr37.mono (Pin.le_trans (Pin.le_trans hle10 hle23) hlek28)) (hr41.mono (Pin.le_trans (Pin.le_trans hle10 hle23) hlek28))) ?_
 rintro _ w44 ⟨rfl, hx45⟩
 refine ⟨_, rfl, ?_⟩
 have hX46 := hX35.step hx45.pins hx45.below
 refine ⟨fun _ => hX46.pins, ?_⟩
 refine dr_take (i := 13) rfl rfl rfl (want_none rfl _) (by kernel_rfl) (fun _ _ => r_not rfl) hX46.pins (dr_take (i := 14) rfl rfl rfl (want_none rfl _) (by kernel_rfl) (fun _ _ => r_move (v := (.bool (!(decide (((xs.getD j default).l) = ((ys.getD j default).l)))))) rfl) hX46.pins (drbn (t := 34) rfl (fun h47 => ?_) (fun h47 => ?_)))
 replace h47 := of_decide_eq_true h47
 refine dr_take (i := 15) rfl rfl rfl (want_yes rfl rfl rfl rfl) (by kernel_rfl) (fun _ _ => r_fldp (k := 0) rfl Tryz.underlying28 rfl nz26 rfl) hX46.pins (dr_take (i := 16) rfl rfl rfl (want_yes rfl rfl rfl rfl) (by kernel_rfl) (fun _ hS => r_ldp1 (u := u) ag26 rfl ((Pins.of_le hS (Pin.le_trans hle23 hlek28)) _ _ _ (hbp12 0 _ rfl))) hX46.pins (dr_take (i := 17) rfl rfl rfl (want_yes rfl rfl rfl rfl) (by kernel_rfl) (fun _ _ => r_move (v := (.int .i64 (j : Int))) rfl) hX46.pins (dr_take (i := 18) rfl rfl rfl (want_yes rfl rfl rfl rfl) (by kernel_rfl) (fun _ _ => run_idx Tryz.underlying26 sz68 (v := u) rfl rfl hu (by omega) (by omega)) hX46.pins (dr_take (i := 19) rfl rfl rfl (want_yes rfl rfl rfl rfl) (by kernel_rfl) (fun _ _ => run_fld (off := 1) Tryz.underlying68 rfl rfl nz57 (z := (j : Int)) (k := 0) rfl hu (by omega) (by omega)) hX46.pins ?_))))
 obtain ⟨u48, hr49, hl50⟩ := nm_nr (hu.at (z := (j : Int)) (by omega) (by omega)) (j := j) rfl
 have hm51 := hr49.max
 refine dr_take (i := 20) rfl rfl rfl (want_yes rfl rfl rfl rfl) (by kernel_rfl) (fun _ hS => hl50 ag57 rfl (Pins.of_le hS (Pin.le_trans (Pin.le_trans hle10 hle23) hlek28))) hX46.pins (dr_take (i := 21) rfl rfl rfl (want_yes rfl rfl rfl rfl) (by kernel_rfl) (fun _ _ => r_fldp (k := 0) rfl Tryz.underlying28 rfl nz26 rfl) hX46.pins (dr_take (i := 22) rfl rfl rfl (want_yes rfl rfl rfl rfl) (by kernel_rfl) (fun _ hS => r_ldp1 (u := v) ag26 rfl ((Pins.of_le hS hlek28) _ _ _ (hbp25 0 _ rfl))) hX46.pins (dr_take (i := 23) rfl rfl rfl (want_yes rfl rfl rfl rfl) (by kernel_rfl) (fun _ _ => r_move (v := (.int .i64 (j : Int))) rfl) hX46.pins (dr_take (i := 24) rfl rfl rfl (want_yes rfl rfl rfl rfl) (by kernel_rfl) (fun _ _ => run_idx Tryz.underlying26 sz68 (v := v) rfl rfl hv (by omega) (by omega)) hX46.pins (dr_take (i := 25) rfl rfl rfl (want_yes rfl rfl rfl rfl) (by kernel_rfl) (fun _ _ => run_fld (off := 1) Tryz.underlying68 rfl rfl nz57 (z := (j : Int)) (k := 0) rfl hv (by omega) (by omega)) hX46.pins ?_)))))
 obtain ⟨u52, hr53, hl54⟩ := nm_nr (hv.at (z := (j : Int)) (by omega) (by omega)) (j := j) rfl
 have hm55 := hr53.max
 refine dr_take (i := 26) rfl rfl rfl (want_yes rfl rfl rfl rfl) (by kernel_rfl) (fun _ hS => hl54 ag57 rfl (Pins.of_le hS (Pin.le_trans (Pin.le_trans hle10 hle23) hlek28))) hX46.pins (dr_one (i := 27) (by kernel_rfl) (drOp1 (i := 27) rfl rfl rfl (want_yes rfl rfl rfl rfl) (o_call (vs := [u48, u52]) Tryz.func54 nm54 rfl rfl rfl ?_)))
 refine Calls.mono (vInts_spec hX46.pins (hr49.mono (Pin.le_trans (Pin.le_trans hle10 hle23) hlek28)) (hr53.mono (Pin.le_trans (Pin.le_trans hle10 hle23) hlek28))) ?_
 rintro _ w56 ⟨rfl, hx57⟩
 refine ⟨_, rfl, ?_⟩
 have hX58 := hX46.step hx57.pins hx57.below
 refine ⟨fun _ => hX58.pins, ?_⟩
 refine dr_take (i := 28) rfl rfl rfl (want_yes rfl rfl rfl rfl) (by kernel_rfl) (fun _ _ => r_not rfl) hX58.pins (dr_take (i := 29) rfl rfl rfl (want_none rfl _) (by kernel_rfl) (fun _ _ => r_pickF (v := (.bool (!(decide (((xs.getD j default).r) = ((ys.getD j default).r)))))) rfl rfl) hX58.pins (dr_end (by kernel_rfl) (s_then (c_ifn rfl rfl (fun h59 => ?_) (fun h59 => ?_)))))
 replace h59 := of_decide_eq_true h59
 refine wp_skip (s_blkN (s_then (c_reg ?_)))
 refine qd rfl rfl rfl (r_move (v := (.int .i64 (j : Int))) rfl) (qd rfl rfl rfl (r_add rfl rfl (by omega)) (qd rfl rfl rfl (r_assign (v := (.int .i64 ((j : Int) + 1))) rfl) (qe (s_lopN (⟨_, ?_, _, rfl, _, j + 1, GL1, (packS (x := 5) (packS (x := 3) (pack1 (x := 2) rfl) rfl) rfl), rfl, hX58, hlek28, (by omega), heq, (eqstepN hp h47 h59)⟩)))))
 omega
 replace h59 := of_decide_eq_false h59
 refine s_seq (c_reg ?_)
 refine qd rfl rfl rfl (r_assign (v := (.bool false)) rfl) (qe (s_then ?_))
 exact wp_ret (s_ret (c_ret1 (v := (.bool false)) rfl rfl rfl (⟨_, congrArg (fun z => Ending.returned (Value.bool z)) (decide_eq_false (fun e => h59 (by rw [e]))).symm, hX58⟩)))
 replace h47 := of_decide_eq_false h47
 refine dr_skip (i := 15) rfl rfl (want_no rfl rfl rfl rfl rfl) (by kernel_rfl) hX46.pins (dr_skip (i := 16) rfl rfl (want_no rfl rfl rfl rfl rfl) (by kernel_rfl) hX46.pins (dr_skip (i := 17) rfl rfl (want_no rfl rfl rfl rfl rfl) (by kernel_rfl) hX46.pins (dr_skip (i := 18) rfl rfl (want_no rfl rfl rfl rfl rfl) (by kernel_rfl) hX46.pins (dr_skip (i := 19) rfl rfl (want_no rfl rfl rfl rfl rfl) (by kernel_rfl) hX46.pins (dr_skip (i := 20) rfl rfl (want_no rfl rfl rfl rfl rfl) (by kernel_rfl) hX46.pins (dr_skip (i := 21) rfl rfl (want_no rfl rfl rfl rfl rfl) (by kernel_rfl) hX46.pins (dr_skip (i := 22) rfl rfl (want_no rfl rfl rfl rfl rfl) (by kernel_rfl) hX46.pins (dr_skip (i := 23) rfl rfl (want_no rfl rfl rfl rfl rfl) (by kernel_rfl) hX46.pins (dr_skip (i := 24) rfl rfl (want_no rfl rfl rfl rfl rfl) (by kernel_rfl) hX46.pins (dr_skip (i := 25) rfl rfl (want_no rfl rfl rfl rfl rfl) (by kernel_rfl) hX46.pins (dr_skip (i := 26) rfl rfl (want_no rfl rfl rfl rfl rfl) (by kernel_rfl) hX46.pins (dr_skip (i := 27) rfl rfl (want_no rfl rfl rfl rfl rfl) (by kernel_rfl) hX46.pins (dr_skip (i := 28) rfl rfl (want_no rfl rfl rfl rfl rfl) (by kernel_rfl) hX46.pins ?_)))))))))))))
 refine dr_take (i := 29) rfl rfl rfl (want_none rfl _) (by kernel_rfl) (fun _ _ => r_pickT (v := (.bool true)) rfl rfl) hX46.pins (dr_end (by kernel_rfl) (s_then (c_ifT rfl rfl (s_seq (c_reg ?_)))))
 refine qd rfl rfl rfl (r_assign (v := (.bool false)) rfl) (qe (s_then ?_))
 exact wp_ret (s_ret (c_ret1 (v := (.bool false)) rfl rfl rfl (⟨_, congrArg (fun z => Ending.returned (Value.bool z)) (decide_eq_false (fun e => h47 (by rw [e]))).symm, hX46⟩)))
 refine wp_exit (s_thenE (s_lopE (s_blkE (s_then (s_seq (c_reg ?_))))))
 refine qd rfl rfl rfl (r_assign (v := (.bool true)) rfl) (qe (s_then ?_))
 exact wp_ret (s_ret (c_ret1 (v := (.bool true)) rfl rfl rfl (⟨_, congrArg (fun z => Ending.returned (Value.bool z)) (decide_eq_true (eqdoneN heq (by omega) hp)).symm, hX31⟩)))

end SO7
end Go.Proofs.YtkfgdhanaijddaaGreatDoor

set_option maxRecDepth 20000
set_option maxHeartbeats 2000000
namespace Go.Proofs.YtkfgdhanaijddaaGreatDoor
namespace LPA
open Go.RowKit Go.GL Go.Proofs
open Go.Proofs.YtkfgdhanaijddaaGreatDoor.B1
open Go.Proofs.YtkfgdhanaijddaaGreatDoor.C1
open Go.Proofs.YtkfgdhanaijddaaGreatDoor.D1
open Go.Proofs.YtkfgdhanaijddaaGreatDoor.E1
open Go.Proofs.YtkfgdhanaijddaaGreatDoor.K1
open Go.Proofs.YtkfgdhanaijddaaGreatDoor.PO1
open Go.Proofs.YtkfgdhanaijddaaGreatDoor.PL1
open Go.Proofs.YtkfgdhanaijddaaGreatDoor.PA1
open Go.Proofs.YtkfgdhanaijddaaGreatDoor.SO1
open Go.Proofs.YtkfgdhanaijddaaGreatDoor.OD1
open Go.Proofs.YtkfgdhanaijddaaGreatDoor.SF1
open Go.Proofs.YtkfgdhanaijddaaGreatDoor.MK1
open Go.Proofs.YtkfgdhanaijddaaGreatDoor.DR1
open Go.Proofs.YtkfgdhanaijddaaGreatDoor.DR2
open Go.Proofs.YtkfgdhanaijddaaGreatDoor.DV1
open Go.Proofs.YtkfgdhanaijddaaGreatDoor.DV2
open Go.Proofs.YtkfgdhanaijddaaGreatDoor.N1
open Go.Proofs.YtkfgdhanaijddaaGreatDoor.N2
open Go.Proofs.YtkfgdhanaijddaaGreatDoor.PQ1
open Go.Proofs.YtkfgdhanaijddaaGreatDoor.LI1
open Go.Proofs.YtkfgdhanaijddaaGreatDoor.PQ2
open Go.Proofs.YtkfgdhanaijddaaGreatDoor.GW1
open Go.Proofs.YtkfgdhanaijddaaGreatDoor.SO7













theorem law {w : World} {G : Pin} {v : Value} {code : List UInt8} (hP : Pins G w) (hc : RSl eByte G v code) :
  Calls Tryz.prog 6 [v].toArray w fun e w' => ∃ G', e = .returned (.bool true) ∧ Ext noS G w G' w' := by
 refine s_enter (n := 131) Tryz.func6 Tryz.ntmps6 rfl rfl ?_
 have hX0 : Ext noS G w G w := Ext.refl hP
 have hm := hc.max
 refine s_seq (c_reg ?_)
 refine qd rfl rfl rfl (r_assign (v := (.bool false)) rfl) (qe (s_then (s_seq (s_seq (c_reg ?_)))))
 refine qd rfl rfl rfl (r_move (v := v) rfl) (q1 rfl rfl rfl (o_call (vs := [v]) Tryz.func10 nm10 rfl rfl rfl ?_))
 refine Calls.mono (vBig_spec hX0.pins hc) ?_
 rintro _ w1 ⟨rfl, hx2⟩
 refine ⟨_, rfl, ?_⟩
 have hX3 := hX0.step hx2.pins hx2.below
 refine qe (s_then ?_)
 refine c_ifd (p := ((65536 : Int) < (code.length : Int))) rfl rfl (fun h4 => ?_) (fun h4 => ?_)
 refine s_seq (c_reg ?_)
 refine qd rfl rfl rfl (r_assign (v := (.bool true)) rfl) (qe (s_then ?_))
 exact wp_ret (s_ret (c_ret1 (v := (.bool true)) rfl rfl rfl (⟨_, rfl, hX3⟩)))
 refine wp_skip (s_then (s_seq (c_reg ?_)))
 refine qd rfl rfl rfl (r_move (v := v) rfl) (q1 rfl rfl rfl (o_call (vs := [v]) Tryz.func24 nm24 rfl rfl rfl ?_))
 refine Calls.mono (vForm_spec hX3.pins hc) ?_
 rintro _ w8 ⟨u5, ns6, G7, rfl, hr9, hg10, hl11, hx12⟩
 refine ⟨_, rfl, ?_⟩
 have hX13 := hX3.tr hx12
 refine q1 rfl rfl rfl (o_alloc [(.slice none 0 0)] zr28 rfl hX13.pins (fun b14 w15 hk16 hb17 hp18 hl19 => ?_))
 have hX20 := hX13.step hp18 hl19
 have hlo21 : w.heap.size ≤ b14 := by have := hX13.size; omega
 refine q0 rfl rfl rfl (o_stp (cs' := [u5]) (us := [u5]) (v := (.agg [u5].toArray)) sz28 rfl rfl rfl (ones1 hr9.one) hX20.pins hb17 (Nat.le_of_ble_eq_true rfl) rfl (fun w22 hb23 hp24 hg25 hz26 => ?_))
 have hX27 := hX20.write hp24 hg25 ((lo_box hlo21))
 obtain ⟨G28, hle29, hX30, hbp31, hf32⟩ := hb23.shut hX27 hlo21
 refine qe (s_then (s_seq (c_reg ?_)))
 refine qd rfl rfl rfl (r_assign (v := (.int .i64 (-1))) rfl) (qe (s_then (s_seq (s_seq (c_reg ?_)))))
 refine qd rfl rfl rfl (r_assign (v := (.int .i64 0)) rfl) (qe (s_then ?_))
 refine s_blk ?_
 have hgP := hg10
 have hloP := hgP.lo
 have hhiP := hl11
 refine s_loop (fun (k : Nat) (en : Nat → Value) (W : World) => ∃ (env1 : Nat → Value) (i : Nat) (GL1 : Pin), en = (upd (upd (upd env1 3 (.pointer (some ⟨b14, 0, none⟩))) 4 (.int .i64 (-1))) 5 (.int .i64 (i : Int))) ∧ k = ns6.length - i ∧ Ext noS G w GL1 W ∧ Pin.le G28 GL1 ∧ (i + 1 ≤ ns6.length)) _ ⟨_, 0, G28, (packS (x := 5) (packS (x := 4) (pack1 (x := 3) rfl) rfl) rfl), rfl, hX30, Pin.le_refl _, (by omega)⟩ ?_
 rintro k33 _ w34 ⟨env1, i, GL1, rfl, hk35, hX36, hlek33, hi⟩
 refine s_seq (s_seq (c_reg ?_))
 refine qd rfl rfl rfl (r_move (v := (.int .i64 (i : Int))) rfl) (qd rfl rfl rfl (r_add rfl rfl (by omega)) (qd rfl rfl rfl (r_fldp (k := 0) rfl Tryz.underlying28 rfl nz26 rfl) (qd rfl rfl rfl (r_ldp1 (u := u5) ag26 rfl ((Pins.of_le hX36.pins hlek33) _ _ _ (hbp31 0 _ rfl))) (qd rfl rfl rfl (run_len Tryz.underlying26 (v := u5) rfl hr9) (qd rfl rfl rfl (r_lss rfl rfl) (qe (s_then ?_)))))))
 refine c_ifd (p := ((i : Int) + 1 : Int) < (ns6.length : Int)) rfl rfl (fun h37 => ?_) (fun h37 => ?_)
 refine wp_skip (s_then (s_seq ?_))
 refine s_blk (s_seq (c_reg ?_))
 refine qd rfl rfl rfl (r_ldpA (cs := [u5]) ag28 sz28 rfl (fun j u hj => (Pins.of_le hX36.pins hlek33) _ _ _ (hbp31 _ _ (by simpa using hj)))) (qd rfl rfl rfl (r_move (v := (.int .i64 (i : Int))) rfl) ?_)
 have hpg44 := part_good hg10 (z := (i : Int)) (by omega)
 refine q1 rfl rfl rfl (o_call (vs := [(.agg [u5].toArray), (.int .i64 (i : Int))]) Tryz.func25 nm25 rfl rfl rfl ?_)
 refine Calls.mono (PartAt_spec (z := (i : Int)) hX36.pins (hr9.mono (Pin.le_trans hle29 hlek33)) hg10 (by omega)) ?_
 rintro _ w40 ⟨u38, G39, rfl, hr41, hx42⟩
 refine ⟨_, rfl, ?_⟩
 have hX45 := hX36.tr hx42
 have hm46 := hr41.max
 refine qd rfl rfl rfl (r_move (v := (.tuple #[(.agg [u38].toArray), (.bool true)])) rfl) (qd rfl rfl rfl (r_extract (v := (.agg [u38].toArray)) rfl rfl) (qd rfl rfl rfl (r_extract (v := (.bool true)) rfl rfl) (q1 rfl rfl rfl (o_alloc [(.slice none 0 0)] zr28 rfl hX45.pins (fun b47 w48 hk49 hb50 hp51 hl52 => ?_)))))
 have hX53 := hX45.step hp51 hl52
 have hlo54 : w.heap.size ≤ b47 := by have := hX45.size; omega
 refine q0 rfl rfl rfl (o_stp (cs' := [u38]) (us := [u38]) (v := (.agg [u38].toArray)) sz28 rfl rfl rfl (ones1 hr41.one) hX53.pins hb50 (Nat.le_of_ble_eq_true rfl) rfl (fun w55 hb56 hp57 hg58 hz59 => ?_))
 have hX60 := hX53.write hp57 hg58 ((lo_box hlo54))
 obtain ⟨G61, hle62, hX63, hbp64, hf65⟩ := hb56.shut hX60 hlo54
 refine qd rfl rfl rfl (r_assign (v := (.bool true)) rfl) (qe (s_then (s_seq (c_reg ?_))))
 refine qd rfl rfl rfl (r_ldpA (cs := [u5]) ag28 sz28 rfl (fun j u hj => (Pins.of_le hX63.pins (Pin.le_trans (Pin.le_trans hlek33 hx42.le) hle62)) _ _ _ (hbp31 _ _ (by simpa using hj)))) (qd rfl rfl rfl (r_move (v := (.int .i64 (i : Int))) rfl) (qd rfl rfl rfl (r_add rfl rfl (by omega)) ?_))
 have hpg72 := part_good hg10 (z := (i : Int) + 1) (by omega)
 refine q1 rfl rfl rfl (o_call (vs := [(.agg [u5].toArray), (.int .i64 ((i : Int) + 1))]) Tryz.func25 nm25 rfl rfl rfl ?_)
 refine Calls.mono (PartAt_spec (z := (i : Int) + 1) hX63.pins (hr9.mono (Pin.le_trans (Pin.le_trans (Pin.le_trans hle29 hlek33) hx42.le) hle62)) hg10 (by omega)) ?_
 rintro _ w68 ⟨u66, G67, rfl, hr69, hx70⟩
 refine ⟨_, rfl, ?_⟩
 have hX73 := hX63.tr hx70
 have hm74 := hr69.max
 refine qd rfl rfl rfl (r_move (v := (.tuple #[(.agg [u66].toArray), (.bool true)])) rfl) (qd rfl rfl rfl (r_extract (v := (.agg [u66].toArray)) rfl rfl) (qd rfl rfl rfl (r_extract (v := (.bool true)) rfl rfl) (q1 rfl rfl rfl (o_alloc [(.slice none 0 0)] zr28 rfl hX73.pins (fun b75 w76 hk77 hb78 hp79 hl80 => ?_)))))
 have hX81 := hX73.step hp79 hl80
 have hlo82 : w.heap.size ≤ b75 := by have := hX73.size; omega
 refine q0 rfl rfl rfl (o_stp (cs' := [u66]) (us := [u66]) (v := (.agg [u66].toArray)) sz28 rfl rfl rfl (ones1 hr69.one) hX81.pins hb78 (Nat.le_of_ble_eq_true rfl) rfl (fun w83 hb84 hp85 hg86 hz87 => ?_))
 have hX88 := hX81.write hp85 hg86 ((lo_box hlo82))
 obtain ⟨G89, hle90, hX91, hbp92, hf93⟩ := hb84.shut hX88 hlo82
 refine qd rfl rfl rfl (r_assign (v := (.bool true)) rfl) (qe (s_then (s_seq (c_reg ?_))))
 refine qd rfl rfl rfl (r_ldpA (cs := [u38]) ag28 sz28 rfl (fun j u hj => (Pins.of_le hX91.pins (Pin.le_trans hx70.le hle90)) _ _ _ (hbp64 _ _ (by simpa using hj)))) (qd rfl rfl rfl (r_ldpA (cs := [u66]) ag28 sz28 rfl (fun j u hj => hX91.pins _ _ _ (hbp92 _ _ (by simpa using hj)))) (q1 rfl rfl rfl (o_call (vs := [(.agg [u38].toArray), (.agg [u66].toArray)]) Tryz.func21 nm21 rfl rfl rfl ?_)))
 refine Calls.mono (iLessForm_spec hX91.pins (hr41.mono (Pin.le_trans (Pin.le_trans hle62 hx70.le) hle90)) (hr69.mono hle90)) ?_
 rintro _ w95 ⟨G94, rfl, hx96⟩
 refine ⟨_, rfl, ?_⟩
 have hX97 := hX91.tr hx96
 refine qd rfl rfl rfl (r_move (v := (.tuple #[(.bool (lsB (partS ns6 (i : Int)) (partS ns6 ((i : Int) + 1)))), (.bool (goodB (partS ns6 (i : Int)) && goodB (partS ns6 ((i : Int) + 1))))])) rfl) (qd rfl rfl rfl (r_extract (v := (.bool (lsB (partS ns6 (i : Int)) (partS ns6 ((i : Int) + 1))))) rfl rfl) (qd rfl rfl rfl (r_extract (v := (.bool (goodB (partS ns6 (i : Int)) && goodB (partS ns6 ((i : Int) + 1))))) rfl rfl) (qd rfl rfl rfl (r_assign (v := (.bool (lsB (partS ns6 (i : Int)) (partS ns6 ((i : Int) + 1))))) rfl) (qd rfl rfl rfl (r_assign (v := (.bool (goodB (partS ns6 (i : Int)) && goodB (partS ns6 ((i : Int) + 1))))) rfl) (qe (s_then (s_seq (c_reg ?_))))))))
 refine qd rfl rfl rfl (r_move (v := (.bool true)) rfl) (qd rfl rfl rfl (r_not rfl) (qd rfl rfl rfl (r_move (v := (.bool false)) rfl) (qdg rfl rfl rfl rfl rfl rfl (r_move (v := (.bool true)) rfl) (qdg rfl rfl rfl rfl rfl rfl (r_not rfl) (qd rfl rfl rfl (r_pickF (v := (.bool false)) rfl rfl) (qd rfl rfl rfl (r_move (v := (.bool false)) rfl) (qdg rfl rfl rfl rfl rfl rfl (r_move (v := (.bool (goodB (partS ns6 (i : Int)) && goodB (partS ns6 ((i : Int) + 1))))) rfl) (qdg rfl rfl rfl rfl rfl rfl (r_not rfl) (qd rfl rfl rfl (r_pickF (v := (.bool (!(goodB (partS ns6 (i : Int)) && goodB (partS ns6 ((i : Int) + 1)))))) rfl rfl) (qd rfl rfl rfl (r_move (v := (.bool (!(goodB (partS ns6 (i : Int)) && goodB (partS ns6 ((i : Int) + 1)))))) rfl) (qbn (t := 64) rfl (fun h98 => ?_) (fun h98 => ?_))))))))))))
 refine qdg rfl rfl rfl rfl rfl rfl (r_move (v := (.bool (lsB (partS ns6 (i : Int)) (partS ns6 ((i : Int) + 1))))) rfl) (qdg rfl rfl rfl rfl rfl rfl (r_not rfl) (qd rfl rfl rfl (r_pickF (v := (.bool (!(lsB (partS ns6 (i : Int)) (partS ns6 ((i : Int) + 1)))))) rfl rfl) (qe (s_then ?_))))
 refine c_ifn rfl rfl (fun h99 => ?_) (fun h99 => ?_)
 refine wp_skip (s_blkN (s_then (c_reg ?_)))
 refine qd rfl rfl rfl (r_move (v := (.int .i64 (i : Int))) rfl) (qd rfl rfl rfl (r_add rfl rfl (by omega)) (qd rfl rfl rfl (r_assign (v := (.int .i64 ((i : Int) + 1))) rfl) (qe (s_lopN (⟨_, ?_, _, rfl, _, i + 1, G94, (packS (x := 5) (packS (x := 4) (pack1 (x := 3) rfl) rfl) rfl), rfl, hX97, (Pin.le_trans (Pin.le_trans (Pin.le_trans (Pin.le_trans (Pin.le_trans hlek33 hx42.le) hle62) hx70.le) hle90) hx96.le), (by omega)⟩)))))
 omega
 refine s_seq (c_reg ?_)
 refine qd rfl rfl rfl (r_assign (v := (.bool false)) rfl) (qe (s_then ?_))
 refine wp_ret (s_ret (c_ret1 (v := (.bool false)) rfl rfl rfl ?_))
 exfalso
 have hpa := parts_ahead hgP (i := i) (j := i + 1) (by omega) (by omega)
 rw [show ((i + 1 : Nat) : Int) = (i : Int) + 1 by omega] at hpa
 rw [hpa] at h99
 cases h99
 refine qs rfl rfl rfl rfl rfl rfl (qs rfl rfl rfl rfl rfl rfl (qd rfl rfl rfl (r_pickT (v := (.bool true)) rfl rfl) (qe (s_then ?_))))
 refine c_ifT rfl rfl (s_seq (c_reg ?_))
 refine qd rfl rfl rfl (r_assign (v := (.bool false)) rfl) (qe (s_then ?_))
 refine wp_ret (s_ret (c_ret1 (v := (.bool false)) rfl rfl rfl ?_))
 exfalso
 rw [goodB_true.2 hpg44, goodB_true.2 hpg72] at h98
 cases h98
 refine wp_exit (s_thenE (s_lopE (s_blkE (s_then (s_seq (c_reg ?_))))))
 refine qd rfl rfl rfl (r_ldpA (cs := [u5]) ag28 sz28 rfl (fun j u hj => (Pins.of_le hX36.pins hlek33) _ _ _ (hbp31 _ _ (by simpa using hj)))) (q1 rfl rfl rfl (o_call (vs := [(.agg [u5].toArray)]) Tryz.func26 nm26 rfl rfl rfl ?_))
 refine Calls.mono (iOptionsOf_pspec hX36.pins (hr9.mono (Pin.le_trans hle29 hlek33)) hg10) ?_
 rintro _ w103 ⟨u100, v101, G102, rfl, hr104, hr105, hx106⟩
 refine ⟨_, rfl, ?_⟩
 have hX107 := hX36.tr hx106
 have hm108 := hr104.max
 have hol109 := opts_len ns6 (lastN ns6).l
 have hol110 : (lastN ns6).l.length ≤ 24 := optL_len (left := true) hgP
 have hm111 := hr105.max
 have hol112 := opts_len ns6 (lastN ns6).r
 have hol113 : (lastN ns6).r.length ≤ 24 := optL_len (left := false) hgP
 refine qd rfl rfl rfl (r_move (v := (.tuple #[u100, v101, (.bool true)])) rfl) (qd rfl rfl rfl (r_extract (v := u100) rfl rfl) (qd rfl rfl rfl (r_extract (v := v101) rfl rfl) (qd rfl rfl rfl (r_extract (v := (.bool true)) rfl rfl) (qd rfl rfl rfl (r_assign (v := u100) rfl) (qd rfl rfl rfl (r_assign (v := v101) rfl) (qd rfl rfl rfl (r_assign (v := (.bool true)) rfl) (qe (s_then (s_seq (c_reg ?_))))))))))
 refine q1 rfl rfl rfl (o_build0 (E := (eSl eNode)) (e := 28) Tryz.underlying24 sz28 hX107.pins (fun u114 w115 ho116 hp117 hl118 hk119 => ?_))
 have hX120 := hX107.step hp117 hl118
 have ho121 : Own (eSl eNode) 28 G102 w115 w.heap.size u114 ([]) := ho116.weaken hX107.size
 refine qd rfl rfl rfl (r_move (v := u100) rfl) (q1 rfl rfl rfl (o_append (E := (eSl eNode)) (v := u114) (u := u100) 24 Tryz.underlying24 ap28 (by decide) rfl rfl hX120.pins ho121 ((hr104.mono (Pin.le_refl _)).src hX120.pins (by decide)) (by first | omega | (rw [List.nil_append]; omega) | (rw [List.length_nil]; omega) | (rw [List.length_append]; omega) | (simp; done) | (simp; omega) | (simp only [List.length_cons, List.length_nil]; omega) | (simp only [List.length_append, List.length_cons, List.length_nil]; omega)) (by first | omega | (rw [List.nil_append]; omega) | (rw [List.length_nil]; omega) | (rw [List.length_append]; omega) | (simp; done) | (simp; omega) | (simp only [List.length_cons, List.length_nil]; omega) | (simp only [List.length_append, List.length_cons, List.length_nil]; omega)) (hX120.size) (fun u122 w123 ho124 hp125 hg126 hw127 => ?_)))
 have hX128 := hX120.write hp125 hg126 ((lo_own ho121))
 have hm129 : (([]) ++ (optsS ns6 (lastN ns6).l)).length = ([]).length + (optsS ns6 (lastN ns6).l).length := List.length_append
 refine qd rfl rfl rfl (r_move (v := v101) rfl) (q1 rfl rfl rfl (o_append (E := (eSl eNode)) (v := u122) (u := v101) 24 Tryz.underlying24 ap28 (by decide) rfl rfl hX128.pins ho124 ((hr105.mono (Pin.le_refl _)).src hX128.pins (by decide)) (by first | omega | (rw [List.nil_append]; omega) | (rw [List.length_nil]; omega) | (rw [List.length_append]; omega) | (simp; done) | (simp; omega) | (simp only [List.length_cons, List.length_nil]; omega) | (simp only [List.length_append, List.length_cons, List.length_nil]; omega)) (by first | omega | (rw [List.nil_append]; omega) | (rw [List.length_nil]; omega) | (rw [List.length_append]; omega) | (simp; done) | (simp; omega) | (simp only [List.length_cons, List.length_nil]; omega) | (simp only [List.length_append, List.length_cons, List.length_nil]; omega)) (hX128.size) (fun u130 w131 ho132 hp133 hg134 hw135 => ?_)))
 have hX136 := hX128.write hp133 hg134 ((lo_own ho124))
 have hm137 : ((([]) ++ (optsS ns6 (lastN ns6).l)) ++ (optsS ns6 (lastN ns6).r)).length = (([]) ++ (optsS ns6 (lastN ns6).l)).length + (optsS ns6 (lastN ns6).r).length := List.length_append
 refine qd rfl rfl rfl (r_assign (v := u130) rfl) (qe (s_then (s_seq (s_seq (c_reg ?_)))))
 refine qd rfl rfl rfl (r_assign (v := (.int .i64 0)) rfl) (qe (s_then ?_))
 refine s_blk ?_
 have hnn0 : ([] : List (List Nd)).length = 0 := rfl
 have hLR : ((lastN ns6).l ++ (lastN ns6).r).length = (lastN ns6).l.length + (lastN ns6).r.length := List.length_append
 refine s_loop (fun (k : Nat) (en : Nat → Value) (W : World) => ∃ (env1 : Nat → Value) (j : Nat) (mo : Int) (GL2 : Pin), en = (upd (upd (upd (upd (upd env1 3 (.pointer (some ⟨b14, 0, none⟩))) 4 (.int .i64 mo)) 14 (.bool true)) 15 u130) 16 (.int .i64 (j : Int))) ∧ k = ((([]) ++ (optsS ns6 (lastN ns6).l)) ++ (optsS ns6 (lastN ns6).r)).length - j ∧ Ext noS G w GL2 W ∧ Pin.le G102 GL2 ∧ (j ≤ ((([]) ++ (optsS ns6 (lastN ns6).l)) ++ (optsS ns6 (lastN ns6).r)).length) ∧ (mo + 1 = bornOf (births ns6) (((lastN ns6).l ++ (lastN ns6).r).take j) 0) ∧ (-1 ≤ mo ∧ mo ≤ 1000000) ∧ (Own (eSl eNode) 28 GL2 W w.heap.size u130 ((([]) ++ (optsS ns6 (lastN ns6).l)) ++ (optsS ns6 (lastN ns6).r)))) _ ⟨_, 0, (-1), G102, (packS (x := 16) (packS (x := 15) (packS (x := 14) (packS (x := 4) (pack1 (x := 3) rfl) rfl) rfl) rfl) rfl), rfl, hX136, Pin.le_refl _, Nat.zero_le _, rfl, ⟨by omega, by omega⟩, ho132⟩ ?_
 rintro k138 _ w139 ⟨env1, j, mo, GL2, rfl, hk140, hX141, hlek138, hj, hmo, hmb, hw142⟩
 refine s_seq (s_seq (c_reg ?_))
 refine qd rfl rfl rfl (r_move (v := (.int .i64 (j : Int))) rfl) (qd rfl rfl rfl (r_move (v := u130) rfl) (qd rfl rfl rfl (run_len Tryz.underlying24 (v := u130) rfl hw142.read) (qd rfl rfl rfl (r_lss rfl rfl) (qe (s_then ?_)))))
 refine c_ifd (p := ((j : Int) : Int) < (((([]) ++ (optsS ns6 (lastN ns6).l)) ++ (optsS ns6 (lastN ns6).r)).length : Int)) rfl rfl (fun h143 => ?_) (fun h143 => ?_)
 have hzi := opt_at hgP (i := j) (by omega)
 have hal := all_at (fs := ns6) (l := (lastN ns6).l) (r := (lastN ns6).r) (i := j) (by omega)
 obtain ⟨hbp1, hbp2⟩ := bn_part hgP hzi
 rw [← hal] at hbp1 hbp2
 have hble := births_le (good_form hgP).opts _ (show (((lastN ns6).l ++ (lastN ns6).r).getD j 0).toNat < ns6.length by omega)
 have hbn := born_next (bs := births ns6) (l := ((lastN ns6).l ++ (lastN ns6).r)) (b := 0) (j := j) (by omega)
 refine wp_skip (s_then (s_seq ?_))
 refine s_blk (s_seq (c_reg ?_))
 refine qd rfl rfl rfl (r_move (v := u130) rfl) (qd rfl rfl rfl (r_move (v := (.int .i64 (j : Int))) rfl) (qd rfl rfl rfl (run_idx Tryz.underlying24 sz28 (v := u130) rfl rfl hw142.read (by omega) (by omega)) ?_))
 obtain ⟨u144, hr145, hl146⟩ := nm_form (hw142.at (z := (j : Int)) (by omega) (by omega)) (j := j) rfl
 have hm147 := hr145.max
 refine qd rfl rfl rfl (hl146 ag28 sz28 rfl (Gadd.pins hX141.pins u130)) (q1 rfl rfl rfl (o_call (vs := [(.agg [u144].toArray)]) Tryz.func27 nm27 rfl rfl rfl ?_))
 refine Calls.mono (BornOf_spec hX141.pins hr145) ?_
 rintro _ w149 ⟨G148, rfl, hx150⟩
 refine ⟨_, rfl, ?_⟩
 have hX151 := hX141.tr hx150
 have ho152 := hw142.ext hx150
 refine qd rfl rfl rfl (r_move (v := (.tuple #[(.int .i64 (bnI (((([]) ++ (optsS ns6 (lastN ns6).l)) ++ (optsS ns6 (lastN ns6).r)).getD j []))), (.bool (goodB (((([]) ++ (optsS ns6 (lastN ns6).l)) ++ (optsS ns6 (lastN ns6).r)).getD j [])))])) rfl) (qd rfl rfl rfl (r_extract (v := (.int .i64 (bnI (((([]) ++ (optsS ns6 (lastN ns6).l)) ++ (optsS ns6 (lastN ns6).r)).getD j [])))) rfl rfl) (qd rfl rfl rfl (r_extract (v := (.bool (goodB (((([]) ++ (optsS ns6 (lastN ns6).l)) ++ (optsS ns6 (lastN ns6).r)).getD j [])))) rfl rfl) (qd rfl rfl rfl (r_assign (v := (.int .i64 (bnI (((([]) ++ (optsS ns6 (lastN ns6).l)) ++ (optsS ns6 (lastN ns6).r)).getD j [])))) rfl) (qd rfl rfl rfl (r_assign (v := (.bool (goodB (((([]) ++ (optsS ns6 (lastN ns6).l)) ++ (optsS ns6 (lastN ns6).r)).getD j [])))) rfl) (qe (s_then (s_seq (s_seq (c_reg ?_)))))))))
 refine qd rfl rfl rfl (r_move (v := (.bool (goodB (((([]) ++ (optsS ns6 (lastN ns6).l)) ++ (optsS ns6 (lastN ns6).r)).getD j [])))) rfl) (qd rfl rfl rfl (r_not rfl) (qe (s_then ?_)))
 refine c_ifn rfl rfl (fun h153 => ?_) (fun h153 => ?_)
 refine wp_skip (s_then (s_seq (c_reg ?_)))
 refine qd rfl rfl rfl (r_move (v := (.int .i64 (bnI (((([]) ++ (optsS ns6 (lastN ns6).l)) ++ (optsS ns6 (lastN ns6).r)).getD j [])))) rfl) (qd rfl rfl rfl (r_move (v := (.int .i64 mo)) rfl) (qd rfl rfl rfl (r_gtr rfl rfl) (qe (s_then ?_))))
 refine c_ifd (p := (mo : Int) < (bnI (((([]) ++ (optsS ns6 (lastN ns6).l)) ++ (optsS ns6 (lastN ns6).r)).getD j []))) rfl rfl (fun h154 => ?_) (fun h154 => ?_)
 refine c_reg (qd rfl rfl rfl (r_move (v := (.int .i64 (bnI (((([]) ++ (optsS ns6 (lastN ns6).l)) ++ (optsS ns6 (lastN ns6).r)).getD j [])))) rfl) (qd rfl rfl rfl (r_assign (v := (.int .i64 (bnI (((([]) ++ (optsS ns6 (lastN ns6).l)) ++ (optsS ns6 (lastN ns6).r)).getD j [])))) rfl) (qe (s_blkN (s_then (c_reg ?_))))))
 refine qd rfl rfl rfl (r_move (v := (.int .i64 (j : Int))) rfl) (qd rfl rfl rfl (r_add rfl rfl (by omega)) (qd rfl rfl rfl (r_assign (v := (.int .i64 ((j : Int) + 1))) rfl) (qe (s_lopN (⟨_, ?_, _, rfl, _, j + 1, bnI (((([]) ++ (optsS ns6 (lastN ns6).l)) ++ (optsS ns6 (lastN ns6).r)).getD j []), G148, (packS (x := 16) (packS (x := 15) (packS (x := 14) (packS (x := 4) (pack1 (x := 3) rfl) rfl) rfl) rfl) rfl), rfl, hX151, (Pin.le_trans hlek138 hx150.le), (by omega), (by rw [hbn]; omega), (by omega), ho152⟩)))))
 omega
 refine wp_skip (s_blkN (s_then (c_reg ?_)))
 refine qd rfl rfl rfl (r_move (v := (.int .i64 (j : Int))) rfl) (qd rfl rfl rfl (r_add rfl rfl (by omega)) (qd rfl rfl rfl (r_assign (v := (.int .i64 ((j : Int) + 1))) rfl) (qe (s_lopN (⟨_, ?_, _, rfl, _, j + 1, mo, G148, (packS (x := 16) (packS (x := 15) (packS (x := 14) (packS (x := 4) (pack1 (x := 3) rfl) rfl) rfl) rfl) rfl), rfl, hX151, (Pin.le_trans hlek138 hx150.le), (by omega), (by rw [hbn]; omega), (by omega), ho152⟩)))))
 omega
 refine s_seq (c_reg ?_)
 refine qd rfl rfl rfl (r_assign (v := (.bool false)) rfl) (qe (s_then ?_))
 refine wp_ret (s_ret (c_ret1 (v := (.bool false)) rfl rfl rfl ?_))
 exfalso
 rw [hbp2] at h153
 cases h153
 refine wp_exit (s_thenE (s_lopE (s_blkE (s_then (s_seq (c_reg ?_))))))
 refine qd rfl rfl rfl (r_ldpA (cs := [u5]) ag28 sz28 rfl (fun j u hj => (Pins.of_le hX141.pins (Pin.le_trans (Pin.le_trans hlek33 hx106.le) hlek138)) _ _ _ (hbp31 _ _ (by simpa using hj)))) (q1 rfl rfl rfl (o_call (vs := [(.agg [u5].toArray)]) Tryz.func27 nm27 rfl rfl rfl ?_))
 refine Calls.mono (BornOf_spec hX141.pins (hr9.mono (Pin.le_trans (Pin.le_trans (Pin.le_trans hle29 hlek33) hx106.le) hlek138))) ?_
 rintro _ w156 ⟨G155, rfl, hx157⟩
 refine ⟨_, rfl, ?_⟩
 have hX158 := hX141.tr hx157
 refine qd rfl rfl rfl (r_move (v := (.tuple #[(.int .i64 (bnI ns6)), (.bool (goodB ns6))])) rfl) (qd rfl rfl rfl (r_extract (v := (.int .i64 (bnI ns6))) rfl rfl) (qd rfl rfl rfl (r_extract (v := (.bool (goodB ns6))) rfl rfl) (qd rfl rfl rfl (r_assign (v := (.int .i64 (bnI ns6))) rfl) (qd rfl rfl rfl (r_assign (v := (.bool (goodB ns6))) rfl) (qe (s_then (s_seq (c_reg ?_))))))))
 refine qd rfl rfl rfl (r_ldpA (cs := [u5]) ag28 sz28 rfl (fun j u hj => (Pins.of_le hX158.pins (Pin.le_trans (Pin.le_trans (Pin.le_trans hlek33 hx106.le) hlek138) hx157.le)) _ _ _ (hbp31 _ _ (by simpa using hj)))) (qd rfl rfl rfl (r_fldp (k := 0) rfl Tryz.underlying28 rfl nz26 rfl) (qd rfl rfl rfl (r_ldp1 (u := u5) ag26 rfl ((Pins.of_le hX158.pins (Pin.le_trans (Pin.le_trans (Pin.le_trans hlek33 hx106.le) hlek138) hx157.le)) _ _ _ (hbp31 0 _ rfl))) (qd rfl rfl rfl (run_len Tryz.underlying26 (v := u5) rfl hr9) (qd rfl rfl rfl (r_sub rfl rfl (by omega)) ?_))))
 have hpg166 := part_good hg10 (z := (ns6.length : Int) - 1) (by omega)
 refine q1 rfl rfl rfl (o_call (vs := [(.agg [u5].toArray), (.int .i64 ((ns6.length : Int) - 1))]) Tryz.func25 nm25 rfl rfl rfl ?_)
 refine Calls.mono (PartAt_spec (z := (ns6.length : Int) - 1) hX158.pins (hr9.mono (Pin.le_trans (Pin.le_trans (Pin.le_trans (Pin.le_trans hle29 hlek33) hx106.le) hlek138) hx157.le)) hg10 (by omega)) ?_
 rintro _ w162 ⟨u160, G161, rfl, hr163, hx164⟩
 refine ⟨_, rfl, ?_⟩
 have hX167 := hX158.tr hx164
 have hm169 := hr163.max
 refine qd rfl rfl rfl (r_move (v := (.tuple #[(.agg [u160].toArray), (.bool true)])) rfl) (qd rfl rfl rfl (r_extract (v := (.agg [u160].toArray)) rfl rfl) (qd rfl rfl rfl (r_extract (v := (.bool true)) rfl rfl) (q1 rfl rfl rfl (o_alloc [(.slice none 0 0)] zr28 rfl hX167.pins (fun b170 w171 hk172 hb173 hp174 hl175 => ?_)))))
 have hX176 := hX167.step hp174 hl175
 have hlo179 : w.heap.size ≤ b170 := by have := hX167.size; omega
 refine q0 rfl rfl rfl (o_stp (cs' := [u160]) (us := [u160]) (v := (.agg [u160].toArray)) sz28 rfl rfl rfl (ones1 hr163.one) hX176.pins hb173 (Nat.le_of_ble_eq_true rfl) rfl (fun w180 hb181 hp182 hg183 hz184 => ?_))
 have hX185 := hX176.write hp182 hg183 ((lo_box hlo179))
 obtain ⟨G187, hle188, hX189, hbp190, hf191⟩ := hb181.shut hX185 hlo179
 refine qd rfl rfl rfl (r_assign (v := (.bool true)) rfl) (qe (s_then (s_seq (c_reg ?_))))
 refine qd rfl rfl rfl (r_move (v := (.bool true)) rfl) (qd rfl rfl rfl (r_move (v := (.bool true)) rfl) (qdg rfl rfl rfl rfl rfl rfl (r_move (v := (.bool (goodB ns6))) rfl) (qd rfl rfl rfl (r_pickT (v := (.bool (goodB ns6))) rfl rfl) (qd rfl rfl rfl (r_move (v := (.bool (goodB ns6))) rfl) (qb (t := 117) rfl (fun h193 => ?_) (fun h193 => ?_))))))
 refine qdg rfl rfl rfl rfl rfl rfl (r_move (v := (.int .i64 (bnI ns6))) rfl) (qdg rfl rfl rfl rfl rfl rfl (r_move (v := (.int .i64 mo)) rfl) (qdg rfl rfl rfl rfl rfl rfl (r_add rfl rfl (by omega)) (qdg rfl rfl rfl rfl rfl rfl (r_eql rfl rfl) (qd rfl rfl rfl (r_pickT (v := (.bool (decide ((bnI ns6 : Int) = (mo + 1))))) rfl rfl) (qd rfl rfl rfl (r_move (v := (.bool (decide ((bnI ns6 : Int) = (mo + 1))))) rfl) (qbd (p := (bnI ns6 : Int) = (mo + 1)) (t := 123) rfl (fun h194 => ?_) (fun h194 => ?_)))))))
 refine qdg rfl rfl rfl rfl rfl rfl (r_move (v := (.bool true)) rfl) (qd rfl rfl rfl (r_pickT (v := (.bool true)) rfl rfl) (qd rfl rfl rfl (r_move (v := (.bool true)) rfl) (qdg rfl rfl rfl rfl rfl rfl (r_ldpA (cs := [u160]) ag28 sz28 rfl (fun j u hj => hX189.pins _ _ _ (hbp190 _ _ (by simpa using hj)))) (qdg rfl rfl rfl rfl rfl rfl (r_ldpA (cs := [u5]) ag28 sz28 rfl (fun j u hj => (Pins.of_le hX189.pins (Pin.le_trans (Pin.le_trans (Pin.le_trans (Pin.le_trans (Pin.le_trans hlek33 hx106.le) hlek138) hx157.le) hx164.le) hle188)) _ _ _ (hbp31 _ _ (by simpa using hj)))) (q1g rfl rfl rfl rfl rfl rfl (o_call (vs := [(.agg [u160].toArray), (.agg [u5].toArray)]) Tryz.func15 nm15 rfl rfl rfl ?_))))))
 refine Calls.mono (vSame_spec hX189.pins (hr163.mono hle188) (hr9.mono (Pin.le_trans (Pin.le_trans (Pin.le_trans (Pin.le_trans (Pin.le_trans (Pin.le_trans hle29 hlek33) hx106.le) hlek138) hx157.le) hx164.le) hle188))) ?_
 rintro _ w196 ⟨G195, rfl, hx197⟩
 refine ⟨_, rfl, ?_⟩
 have hX198 := hX189.tr hx197
 refine qd rfl rfl rfl (r_pickT (v := (.bool (decide ((partS ns6 ((ns6.length : Int) - 1)) = ns6)))) rfl rfl) (qd rfl rfl rfl (r_assign (v := (.bool (decide ((partS ns6 ((ns6.length : Int) - 1)) = ns6)))) rfl) (qe (s_then ?_)))
 exact wp_ret (s_ret (c_ret1 (v := (.bool (decide ((partS ns6 ((ns6.length : Int) - 1)) = ns6)))) rfl rfl rfl (⟨_, congrArg (fun z => Ending.returned (Value.bool z)) (decide_eq_true (part_last hgP)), hX198⟩)))
 refine qs rfl rfl rfl rfl rfl rfl (qd rfl rfl rfl (r_pickF (v := (.bool false)) rfl rfl) (qd rfl rfl rfl (r_move (v := (.bool false)) rfl) (qs rfl rfl rfl rfl rfl rfl (qs rfl rfl rfl rfl rfl rfl (qs rfl rfl rfl rfl rfl rfl (qd rfl rfl rfl (r_pickF (v := (.bool false)) rfl rfl) (qd rfl rfl rfl (r_assign (v := (.bool false)) rfl) (qe (s_then ?_)))))))))
 refine wp_ret (s_ret (c_ret1 (v := (.bool false)) rfl rfl rfl ?_))
 exfalso
 have htb := top_born hgP
 rw [List.take_of_length_le (by omega)] at hmo
 omega
 refine qs rfl rfl rfl rfl rfl rfl (qs rfl rfl rfl rfl rfl rfl (qs rfl rfl rfl rfl rfl rfl (qs rfl rfl rfl rfl rfl rfl (qd rfl rfl rfl (r_pickF (v := (.bool false)) rfl rfl) (qd rfl rfl rfl (r_move (v := (.bool false)) rfl) (qs rfl rfl rfl rfl rfl rfl (qd rfl rfl rfl (r_pickF (v := (.bool false)) rfl rfl) (qd rfl rfl rfl (r_move (v := (.bool false)) rfl) (qs rfl rfl rfl rfl rfl rfl (qs rfl rfl rfl rfl rfl rfl (qs rfl rfl rfl rfl rfl rfl (qd rfl rfl rfl (r_pickF (v := (.bool false)) rfl rfl) (qd rfl rfl rfl (r_assign (v := (.bool false)) rfl) ?_)))))))))))))
 refine qe (s_then ?_)
 refine wp_ret (s_ret (c_ret1 (v := (.bool false)) rfl rfl rfl ?_))
 exfalso
 rw [goodB_true.2 hgP] at h193
 cases h193

end LPA
end Go.Proofs.YtkfgdhanaijddaaGreatDoor
