/- Texts of this claim in one file: NB1, NB2, NB3, NB4, NB5, SM1, NB6, Val, Star, Valp, VA2, SW1, NO1, LNU. -/
import Derived.Test.YtkfgdhanaijddaaGreatDoorNu6
import Derived.Test.YtkfgdhanaijddaaGreatDoorChecked
set_option maxRecDepth 20000
set_option maxHeartbeats 2000000
namespace Go.Proofs.YtkfgdhanaijddaaGreatDoor
namespace NB1
open Go.RowKit Go.GL Go.Proofs
open B1 C1 D1 E1 K1 PO1 PL1 PA1 SO1 OD1 FO1 NG1 NF1 NU1 NU2










theorem lowest_ok {w : World} {G : Pin} {t : Int} {p : Nat} (hP : Pins G w) (hb : -1000000000 ≤ t ∧ t ≤ 1000000000) (hp : p ≤ 64) (hg : GoodD (lowD p t).1 (((lowD p t).2 : Nat) : Int)) :
  Calls Tryz.prog 156 [(.int .i64 t), (.int .i64 (p : Int))].toArray w fun e w' => ∃ G', e = .returned (.tuple #[(.agg [.int .i64 (lowD p t).1, .int .i64 (((lowD p t).2 : Nat) : Int)].toArray), .bool true]) ∧ Ext noS G w G' w' := by
 refine (lowest_spec hP (by omega) hp).mono ?_
 rintro e w' ⟨G', rfl, hx⟩
 exact ⟨G', by rw [decP_true.2 hg]; rfl, hx⟩

def NumP (m p : Nat) (mm : PM) : Prop := ∀ {w : World} {G : Pin} {L R B : Value} {q : PSt} {t : Int} {dp : Nat} (_ : Pins G w) (_ : Pk 57 3 G w p L R B mm q) (_ : PoolOk q) (_ : NumOk dp t) (_ : q.ns.length + numT dp ≤ 1048575), dp < m →
  Calls Tryz.prog 129 [(.pointer (some ⟨p, 0, none⟩)), (.agg [.int .i64 t, .int .i64 (dp : Int)].toArray)].toArray w fun e w' => ∃ (z : Int) (L' R' B' : Value) (q' : PSt) (G' : Pin), e = .returned (.int .i64 z) ∧ Pk 57 3 G' w' p L' R' B' mm q' ∧ PoolOk q' ∧ PX q q' ∧ PLo w p L R B mm L' R' B' ∧ Ext (inP p L R B mm) G w G' w' ∧ PlaceOk q' z ∧ pd q' z = dyG dp t ∧ q'.ns.length ≤ q.ns.length + numT dp

theorem number_step {w : World} {G : Pin} {L R B : Value} {q : PSt} {t : Int} {dp p : Nat} {mm : PM} {m : Nat} (hP : Pins G w) (hpk : Pk 57 3 G w p L R B mm q) (hok : PoolOk q) (hn : NumOk dp t) (hl : q.ns.length + numT dp ≤ 1048575) (ih : NumP m p mm) (hm : dp < m + 1) :
  Calls Tryz.prog 129 [(.pointer (some ⟨p, 0, none⟩)), (.agg [(.int .i64 t), (.int .i64 (dp : Int))].toArray)].toArray w fun e w' => ∃ (z : Int) (L' R' B' : Value) (q' : PSt) (G' : Pin), e = .returned (.int .i64 z) ∧ Pk 57 3 G' w' p L' R' B' mm q' ∧ PoolOk q' ∧ PX q q' ∧ PLo w p L R B mm L' R' B' ∧ Ext (inP p L R B mm) G w G' w' ∧ PlaceOk q' z ∧ pd q' z = dyG dp t ∧ q'.ns.length ≤ q.ns.length + numT dp := by
 refine s_enter (n := 88) Tryz.func129 Tryz.ntmps129 rfl rfl ?_
 have hX0 : Ext (inP p L R B mm) G w G w := Ext.refl hP
 have hpin : PIn w (inP p L R B mm) p L R B mm := PIn.self
 have hml1 : (q.ns.map Nd.l).length = q.ns.length ∧ (q.ns.map Nd.r).length = q.ns.length := ⟨List.length_map .., List.length_map ..⟩
 have hml2 : q.bs.length = q.ns.length ∧ q.ns.length ≤ 1048576 := ⟨hok.ar.ok.len, hok.ar.ok.lim⟩
 have hnt0 := numT_min dp
 have htp0 := hn.top
 refine s_seq (c_reg ?_)
 refine q1 rfl rfl rfl (o_box [(.int .i64 t), (.int .i64 (dp : Int))] (v := (.agg [(.int .i64 t), (.int .i64 (dp : Int))].toArray)) rfl rfl hX0.pins (fun b3 w4 hk5 hb6 hp7 hl8 => ?_))
 have hX9 := hX0.step hp7 hl8
 have hpk10 := hpk.below hl8 hp7
 have ha15 := hpk.new (x := (some b3)) (fun k hk => by rw [(congrArg some hk5)] at hk; cases hk; exact Nat.le_refl _)
 have hlo16 : w.heap.size ≤ b3 := by have := hX0.size; omega
 obtain ⟨G17, hle18, hX19, hbp20, hf21⟩ := hb6.shut hX9 hlo16
 have hpk22 := hpk10.more hle18 hf21 ha15
 refine qd rfl rfl rfl (r_assign (v := (.int .i64 0)) rfl) (qe (s_then (s_seq ?_)))
 refine s_blk (s_seq (c_reg ?_))
 refine qd rfl rfl rfl (r_fldp (k := 1) rfl Tryz.underlying50 rfl nz3 rfl) (qd rfl rfl rfl (r_ldp1 (u := (.int .i64 (dp : Int))) ag3 rfl (hX19.pins _ _ _ (hbp20 1 _ rfl))) (qd rfl rfl rfl (r_eql rfl rfl) (qd rfl rfl rfl (r_move (v := (.bool (decide (((dp : Int) : Int) = 0)))) rfl) (qbd (p := ((dp : Int) : Int) = 0) (t := 15) rfl (fun h23 => ?_) (fun h23 => ?_)))))
 refine qdg rfl rfl rfl rfl rfl rfl (r_fldp (k := 0) rfl Tryz.underlying50 rfl nz3 rfl) (qdg rfl rfl rfl rfl rfl rfl (r_ldp1 (u := (.int .i64 t)) ag3 rfl (hX19.pins _ _ _ (hbp20 0 _ rfl))) (qdg rfl rfl rfl rfl rfl rfl (r_eql rfl rfl) (qd rfl rfl rfl (r_pickT (v := (.bool (decide ((t : Int) = 0)))) rfl rfl) (qd rfl rfl rfl (r_assign (v := (.bool (decide ((t : Int) = 0)))) rfl) (qe (s_then ?_))))))
 refine c_ifd (p := (t : Int) = 0) rfl rfl (fun h24 => ?_) (fun h24 => ?_)
 refine s_seq (c_reg ?_)
 refine qd rfl rfl rfl (r_move (v := (.pointer (some ⟨p, 0, none⟩))) rfl) (q1 rfl rfl rfl (o_call (vs := [(.pointer (some ⟨p, 0, none⟩)), (.slice none 0 0), (.slice none 0 0)]) Tryz.func102 nm102 rfl rfl rfl ?_))
 refine Calls.mono (node_spec hX19.pins hpk22 hok (nil_reads _ _) (nil_reads _ _) (by omega) ⟨by simp, by simp⟩ nil_at nil_at) ?_
 rintro _ w35 ⟨z25, L30, R31, B32, q33, G34, rfl, hpk36, hok37, hpx38, hlo39, hx40, hpl26, hpd27, hqn28, hcm29⟩
 refine ⟨_, rfl, ?_⟩
 have hX41 := hX19.trans hx40 hpin
 have hpin42 := PIn.call hpin hlo39 hX19.size
 have hql43 := hpx38.len
 have hml44 : (q33.ns.map Nd.l).length = q33.ns.length ∧ (q33.ns.map Nd.r).length = q33.ns.length := ⟨List.length_map .., List.length_map ..⟩
 have hml45 : q33.bs.length = q33.ns.length ∧ q33.ns.length ≤ 1048576 := ⟨hok37.ar.ok.len, hok37.ar.ok.lim⟩
 have hng46 := hpd27.trans (show _ = mkG [] [] from rfl)
 have hqn47 := hqn28
 refine qd rfl rfl rfl (r_assign (v := (.int .i64 z25)) rfl) (qe (s_then ?_))
 refine wp_ret (s_ret (c_ret1 (v := (.int .i64 z25)) rfl rfl rfl ?_))
 have hzz := hng46
 have hntm := numT_min dp
 exact ⟨_, L30, R31, B32, q33, G34, rfl, hpk36, hok37, hpx38, PIn.lo hpin42 rfl, hX41, hpl26, (hzz.trans (by rw [show dp = 0 by omega, show t = 0 by omega]; rfl)), (by omega)⟩
 refine s_seq (c_reg ?_)
 refine qd rfl rfl rfl (r_fldp (k := 1) rfl Tryz.underlying50 rfl nz3 rfl) (qd rfl rfl rfl (r_ldp1 (u := (.int .i64 (dp : Int))) ag3 rfl (hX19.pins _ _ _ (hbp20 1 _ rfl))) (qd rfl rfl rfl (r_eql rfl rfl) (qd rfl rfl rfl (r_move (v := (.bool (decide (((dp : Int) : Int) = 0)))) rfl) (qbd (p := ((dp : Int) : Int) = 0) (t := 26) rfl (fun _ => ?_) (fun h => absurd h23 h)))))
 refine qdg rfl rfl rfl rfl rfl rfl (r_fldp (k := 0) rfl Tryz.underlying50 rfl nz3 rfl) (qdg rfl rfl rfl rfl rfl rfl (r_ldp1 (u := (.int .i64 t)) ag3 rfl (hX19.pins _ _ _ (hbp20 0 _ rfl))) (qdg rfl rfl rfl rfl rfl rfl (r_gtr rfl rfl) (qd rfl rfl rfl (r_pickT (v := (.bool (decide ((0 : Int) < t)))) rfl rfl) (qd rfl rfl rfl (r_assign (v := (.bool (decide ((0 : Int) < t)))) rfl) (qe (s_then ?_))))))
 refine c_ifd (p := (0 : Int) < t) rfl rfl (fun h49 => ?_) (fun h49 => ?_)
 refine s_seq (c_reg ?_)
 refine qd rfl rfl rfl (r_move (v := (.pointer (some ⟨p, 0, none⟩))) rfl) (q1 rfl rfl rfl (o_call (vs := [(.pointer (some ⟨p, 0, none⟩)), (.slice none 0 0), (.slice none 0 0)]) Tryz.func102 nm102 rfl rfl rfl ?_))
 refine Calls.mono (node_spec hX19.pins hpk22 hok (nil_reads _ _) (nil_reads _ _) (by omega) ⟨by simp, by simp⟩ nil_at nil_at) ?_
 rintro _ w60 ⟨z50, L55, R56, B57, q58, G59, rfl, hpk61, hok62, hpx63, hlo64, hx65, hpl51, hpd52, hqn53, hcm54⟩
 refine ⟨_, rfl, ?_⟩
 have hX66 := hX19.trans hx65 hpin
 have hpin67 := PIn.call hpin hlo64 hX19.size
 have hql68 := hpx63.len
 have hml69 : (q58.ns.map Nd.l).length = q58.ns.length ∧ (q58.ns.map Nd.r).length = q58.ns.length := ⟨List.length_map .., List.length_map ..⟩
 have hml70 : q58.bs.length = q58.ns.length ∧ q58.ns.length ≤ 1048576 := ⟨hok62.ar.ok.len, hok62.ar.ok.lim⟩
 have hng71 := hpd52.trans (show _ = mkG [] [] from rfl)
 have hqn72 := hqn53
 refine qd rfl rfl rfl (r_assign (v := (.int .i64 z50)) rfl) (qe (s_then (s_seq (s_seq (c_reg ?_)))))
 refine qd rfl rfl rfl (r_fldp (k := 0) rfl Tryz.underlying50 rfl nz3 rfl) (qd rfl rfl rfl (r_ldp1 (u := (.int .i64 t)) ag3 rfl ((Pins.of_le hX66.pins hx65.le) _ _ _ (hbp20 0 _ rfl))) (qd rfl rfl rfl (r_move (v := (.int .i64 0)) rfl) (qe (s_then ?_))))
 refine s_blk ?_
 have hz077 := hng71
 have hz077p := hpl51
 have hdp0 : dp = 0 := by omega
 have hq0l : q58.ns.length ≤ q.ns.length + 1 := by omega
 have hlim0 := hn.lim
 rw [hdp0] at hlim0
 have hnt0 := numT_min dp
 refine s_loop (fun (k : Nat) (en : Nat → Value) (W : World) => ∃ (env1 : Nat → Value) (ka : Nat) (za : Int) (L73 : Value) (R74 : Value) (B75 : Value) (q76 : PSt) (GL1 : Pin), en = (upd (upd (upd (upd (upd (upd env1 0 (.pointer (some ⟨p, 0, none⟩))) 3 (.pointer (some ⟨b3, 0, none⟩))) 4 (.int .i64 0)) 5 (.int .i64 za)) 34 (.int .i64 t)) 35 (.int .i64 (ka : Int))) ∧ k = t.toNat - ka ∧ Ext (inP p L R B mm) G w GL1 W ∧ Pin.le G59 GL1 ∧ (ka ≤ t.toNat) ∧ (PlaceOk q76 za) ∧ (pd q76 za = intG (ka : Int)) ∧ (q76.ns.length ≤ q.ns.length + 1 + ka) ∧ (Pk 57 3 GL1 W p L73 R74 B75 mm q76) ∧ (PIn w ((inP p L R B mm)) p L73 R74 B75 mm) ∧ (PoolOk q76) ∧ (PX q58 q76)) _ ⟨_, 0, z50, L55, R56, B57, q58, G59, (packS (x := 35) (packS (x := 34) (packS (x := 5) (packS (x := 4) (packS (x := 3) (pack1 (x := 0) rfl) rfl) rfl) rfl) rfl) rfl), rfl, hX66, Pin.le_refl _, Nat.zero_le _, hz077p, (hz077.trans rfl), (by omega), hpk61, hpin67, hok62, (PX.refl _)⟩ ?_
 rintro k78 _ w79 ⟨env1, ka, za, L73, R74, B75, q76, GL1, rfl, hk80, hX81, hlek78, hkv, hzpl, hzpd, hnq, hpk82, hpin83, hok84, hpx85⟩
 have hql86 := hpx85.len
 have hml87 : (q76.ns.map Nd.l).length = q76.ns.length ∧ (q76.ns.map Nd.r).length = q76.ns.length := ⟨List.length_map .., List.length_map ..⟩
 have hml88 : q76.bs.length = q76.ns.length ∧ q76.ns.length ≤ 1048576 := ⟨hok84.ar.ok.len, hok84.ar.ok.lim⟩
 refine s_seq (c_reg ?_)
 refine qd rfl rfl rfl (r_lss rfl rfl) (qe (s_then (s_seq ?_)))
 refine c_ifd (p := ((ka : Int) : Int) < t) rfl rfl (fun h89 => ?_) (fun h89 => ?_)
 refine wp_skip (s_then (s_seq ?_))
 refine s_blk (c_reg (qd rfl rfl rfl (r_move (v := (.pointer (some ⟨p, 0, none⟩))) rfl) (qd rfl rfl rfl (r_move (v := (.int .i64 za)) rfl) (q1 rfl rfl rfl (o_buildF (E := eInt) (e := 3) [(.int .i64 za)] [za] Tryz.underlying57 sz3 zr3 (by exact reps1 (by rfl)) (ones1 (by rfl)) rfl rfl rfl rfl (by decide) hX81.pins (fun u90 w91 ho92 hp93 hl94 hk95 => ?_))))))
 have hX96 := hX81.step hp93 hl94
 have hpk97 := hpk82.below hl94 hp93
 have ha102 := hpk82.new (x := u90.ownBlock) (fun k hk => by rw [hk95] at hk; cases hk; exact Nat.le_refl _)
 have ho103 : Own eInt 3 GL1 w91 w.heap.size u90 ([za]) := ho92.weaken hX81.size
 obtain ⟨G104, hle107, hX106, hr105, hf108⟩ := ho103.sealed hX96
 have hpk109 := hpk97.moreO hle107 hf108 ha102
 have hkg110 := hzpd
 refine q1 rfl rfl rfl (o_call (vs := [(.pointer (some ⟨p, 0, none⟩)), u90, (.slice none 0 0)]) Tryz.func102 nm102 rfl rfl rfl ?_)
 refine Calls.mono (node_spec hX106.pins hpk109 hok84 hr105 (nil_reads _ _) (by omega) ⟨by simp, by simp⟩ (one_at hzpl) nil_at) ?_
 rintro _ w121 ⟨z111, L116, R117, B118, q119, G120, rfl, hpk122, hok123, hpx124, hlo125, hx126, hpl112, hpd113, hqn114, hcm115⟩
 refine ⟨_, rfl, ?_⟩
 have hX127 := hX106.trans hx126 hpin83
 have hpin128 := PIn.call hpin83 hlo125 hX106.size
 have hql129 := hpx124.len
 have hml130 : (q119.ns.map Nd.l).length = q119.ns.length ∧ (q119.ns.map Nd.r).length = q119.ns.length := ⟨List.length_map .., List.length_map ..⟩
 have hml131 : q119.bs.length = q119.ns.length ∧ q119.ns.length ≤ 1048576 := ⟨hok123.ar.ok.len, hok123.ar.ok.lim⟩
 have hng132 := hpd113.trans (show _ = mkG [pd q76 za] [] from rfl)
 rw [hkg110] at hng132
 have hqn133 := hqn114
 refine qd rfl rfl rfl (r_assign (v := (.int .i64 z111)) rfl) (qe (s_blkN (s_then (c_reg ?_))))
 refine qd rfl rfl rfl (r_add rfl rfl (by omega)) (qd rfl rfl rfl (r_move (v := (.int .i64 ((ka : Int) + 1))) rfl) (qe (s_lopN (⟨_, ?_, _, rfl, _, ka + 1, z111, L116, R117, B118, q119, G120, (packS (x := 35) (packS (x := 34) (packS (x := 5) (packS (x := 4) (packS (x := 3) (pack1 (x := 0) rfl) rfl) rfl) rfl) rfl) rfl), rfl, hX127, (Pin.le_trans (Pin.le_trans hlek78 hle107) hx126.le), (by omega), hpl112, (hng132.trans (int_next ka).symm), (by omega), hpk122, hpin128, hok123, (PX.trans hpx85 hpx124)⟩))))
 omega
 refine wp_exit (s_thenE (s_lopE (s_blkE (s_then (s_seq (c_reg ?_))))))
 refine qd rfl rfl rfl (r_move (v := (.int .i64 za)) rfl) (qd rfl rfl rfl (r_assign (v := (.int .i64 za)) rfl) (qe (s_then ?_)))
 refine wp_ret (s_ret (c_ret1 (v := (.int .i64 za)) rfl rfl rfl ?_))
 have hzz := hzpd
 have hntm := numT_min dp
 exact ⟨_, L73, R74, B75, q76, GL1, rfl, hpk82, hok84, (PX.trans hpx63 hpx85), PIn.lo hpin83 rfl, hX81, hzpl, (hzz.trans (by rw [hdp0, show (ka : Int) = t by omega]; rfl)), (by omega)⟩
 refine s_seq (c_reg ?_)
 refine qd rfl rfl rfl (r_fldp (k := 1) rfl Tryz.underlying50 rfl nz3 rfl) (qd rfl rfl rfl (r_ldp1 (u := (.int .i64 (dp : Int))) ag3 rfl (hX19.pins _ _ _ (hbp20 1 _ rfl))) (qd rfl rfl rfl (r_eql rfl rfl) (qd rfl rfl rfl (r_assign (v := (.bool (decide (((dp : Int) : Int) = 0)))) rfl) (qe (s_then ?_)))))
 refine c_ifd (p := ((dp : Int) : Int) = 0) rfl rfl (fun _ => ?_) (fun h => absurd h23 h)
 refine s_seq (c_reg ?_)
 refine qd rfl rfl rfl (r_move (v := (.pointer (some ⟨p, 0, none⟩))) rfl) (q1 rfl rfl rfl (o_call (vs := [(.pointer (some ⟨p, 0, none⟩)), (.slice none 0 0), (.slice none 0 0)]) Tryz.func102 nm102 rfl rfl rfl ?_))
 refine Calls.mono (node_spec hX19.pins hpk22 hok (nil_reads _ _) (nil_reads _ _) (by omega) ⟨by simp, by simp⟩ nil_at nil_at) ?_
 rintro _ w145 ⟨z135, L140, R141, B142, q143, G144, rfl, hpk146, hok147, hpx148, hlo149, hx150, hpl136, hpd137, hqn138, hcm139⟩
 refine ⟨_, rfl, ?_⟩
 have hX151 := hX19.trans hx150 hpin
 have hpin152 := PIn.call hpin hlo149 hX19.size
 have hql153 := hpx148.len
 have hml154 : (q143.ns.map Nd.l).length = q143.ns.length ∧ (q143.ns.map Nd.r).length = q143.ns.length := ⟨List.length_map .., List.length_map ..⟩
 have hml155 : q143.bs.length = q143.ns.length ∧ q143.ns.length ≤ 1048576 := ⟨hok147.ar.ok.len, hok147.ar.ok.lim⟩
 have hng156 := hpd137.trans (show _ = mkG [] [] from rfl)
 have hqn157 := hqn138
 refine qd rfl rfl rfl (r_assign (v := (.int .i64 z135)) rfl) (qe (s_then (s_seq (s_seq (c_reg ?_)))))
 refine qd rfl rfl rfl (r_fldp (k := 0) rfl Tryz.underlying50 rfl nz3 rfl) (qd rfl rfl rfl (r_ldp1 (u := (.int .i64 t)) ag3 rfl ((Pins.of_le hX151.pins hx150.le) _ _ _ (hbp20 0 _ rfl))) (qd rfl rfl rfl (r_neg rfl (by omega)) (qd rfl rfl rfl (r_move (v := (.int .i64 0)) rfl) (qe (s_then ?_)))))
 refine s_blk ?_
 have hz0162 := hng156
 have hz0162p := hpl136
 have hdp0 : dp = 0 := by omega
 have hq0l : q143.ns.length ≤ q.ns.length + 1 := by omega
 have hlim0 := hn.lim
 rw [hdp0] at hlim0
 have hnt0 := numT_min dp
 refine s_loop (fun (k : Nat) (en : Nat → Value) (W : World) => ∃ (env1 : Nat → Value) (kb : Nat) (zb : Int) (L158 : Value) (R159 : Value) (B160 : Value) (q161 : PSt) (GL2 : Pin), en = (upd (upd (upd (upd (upd (upd env1 0 (.pointer (some ⟨p, 0, none⟩))) 3 (.pointer (some ⟨b3, 0, none⟩))) 4 (.int .i64 0)) 6 (.int .i64 zb)) 51 (.int .i64 (-t))) 52 (.int .i64 (kb : Int))) ∧ k = (-t).toNat - kb ∧ Ext (inP p L R B mm) G w GL2 W ∧ Pin.le G144 GL2 ∧ (kb ≤ (-t).toNat) ∧ (PlaceOk q161 zb) ∧ (pd q161 zb = intG (-(kb : Int))) ∧ (q161.ns.length ≤ q.ns.length + 1 + kb) ∧ (Pk 57 3 GL2 W p L158 R159 B160 mm q161) ∧ (PIn w ((inP p L R B mm)) p L158 R159 B160 mm) ∧ (PoolOk q161) ∧ (PX q143 q161)) _ ⟨_, 0, z135, L140, R141, B142, q143, G144, (packS (x := 52) (packS (x := 51) (packS (x := 6) (packS (x := 4) (packS (x := 3) (pack1 (x := 0) rfl) rfl) rfl) rfl) rfl) rfl), rfl, hX151, Pin.le_refl _, Nat.zero_le _, hz0162p, (hz0162.trans rfl), (by omega), hpk146, hpin152, hok147, (PX.refl _)⟩ ?_
 rintro k163 _ w164 ⟨env1, kb, zb, L158, R159, B160, q161, GL2, rfl, hk165, hX166, hlek163, hkv, hzpl, hzpd, hnq, hpk167, hpin168, hok169, hpx170⟩
 have hql171 := hpx170.len
 have hml172 : (q161.ns.map Nd.l).length = q161.ns.length ∧ (q161.ns.map Nd.r).length = q161.ns.length := ⟨List.length_map .., List.length_map ..⟩
 have hml173 : q161.bs.length = q161.ns.length ∧ q161.ns.length ≤ 1048576 := ⟨hok169.ar.ok.len, hok169.ar.ok.lim⟩
 refine s_seq (c_reg ?_)
 refine qd rfl rfl rfl (r_lss rfl rfl) (qe (s_then (s_seq ?_)))
 refine c_ifd (p := ((kb : Int) : Int) < (-t)) rfl rfl (fun h174 => ?_) (fun h174 => ?_)
 refine wp_skip (s_then (s_seq ?_))
 refine s_blk (c_reg (qd rfl rfl rfl (r_move (v := (.pointer (some ⟨p, 0, none⟩))) rfl) (qd rfl rfl rfl (r_move (v := (.int .i64 zb)) rfl) (q1 rfl rfl rfl (o_buildF (E := eInt) (e := 3) [(.int .i64 zb)] [zb] Tryz.underlying57 sz3 zr3 (by exact reps1 (by rfl)) (ones1 (by rfl)) rfl rfl rfl rfl (by decide) hX166.pins (fun u175 w176 ho177 hp178 hl179 hk180 => ?_))))))
 have hX181 := hX166.step hp178 hl179
 have hpk182 := hpk167.below hl179 hp178
 have ha187 := hpk167.new (x := u175.ownBlock) (fun k hk => by rw [hk180] at hk; cases hk; exact Nat.le_refl _)
 have ho188 : Own eInt 3 GL2 w176 w.heap.size u175 ([zb]) := ho177.weaken hX166.size
 obtain ⟨G189, hle192, hX191, hr190, hf193⟩ := ho188.sealed hX181
 have hpk194 := hpk182.moreO hle192 hf193 ha187
 have hkg195 := hzpd
 refine q1 rfl rfl rfl (o_call (vs := [(.pointer (some ⟨p, 0, none⟩)), (.slice none 0 0), u175]) Tryz.func102 nm102 rfl rfl rfl ?_)
 refine Calls.mono (node_spec hX191.pins hpk194 hok169 (nil_reads _ _) hr190 (by omega) ⟨by simp, by simp⟩ nil_at (one_at hzpl)) ?_
 rintro _ w206 ⟨z196, L201, R202, B203, q204, G205, rfl, hpk207, hok208, hpx209, hlo210, hx211, hpl197, hpd198, hqn199, hcm200⟩
 refine ⟨_, rfl, ?_⟩
 have hX212 := hX191.trans hx211 hpin168
 have hpin213 := PIn.call hpin168 hlo210 hX191.size
 have hql214 := hpx209.len
 have hml215 : (q204.ns.map Nd.l).length = q204.ns.length ∧ (q204.ns.map Nd.r).length = q204.ns.length := ⟨List.length_map .., List.length_map ..⟩
 have hml216 : q204.bs.length = q204.ns.length ∧ q204.ns.length ≤ 1048576 := ⟨hok208.ar.ok.len, hok208.ar.ok.lim⟩
 have hng217 := hpd198.trans (show _ = mkG [] [pd q161 zb] from rfl)
 rw [hkg195] at hng217
 have hqn218 := hqn199
 refine qd rfl rfl rfl (r_assign (v := (.int .i64 z196)) rfl) (qe (s_blkN (s_then (c_reg ?_))))
 refine qd rfl rfl rfl (r_add rfl rfl (by omega)) (qd rfl rfl rfl (r_move (v := (.int .i64 ((kb : Int) + 1))) rfl) (qe (s_lopN (⟨_, ?_, _, rfl, _, kb + 1, z196, L201, R202, B203, q204, G205, (packS (x := 52) (packS (x := 51) (packS (x := 6) (packS (x := 4) (packS (x := 3) (pack1 (x := 0) rfl) rfl) rfl) rfl) rfl) rfl), rfl, hX212, (Pin.le_trans (Pin.le_trans hlek163 hle192) hx211.le), (by omega), hpl197, (hng217.trans (int_prev kb).symm), (by omega), hpk207, hpin213, hok208, (PX.trans hpx170 hpx209)⟩))))
 omega
 refine wp_exit (s_thenE (s_lopE (s_blkE (s_then (s_seq (c_reg ?_))))))
 refine qd rfl rfl rfl (r_move (v := (.int .i64 zb)) rfl) (qd rfl rfl rfl (r_assign (v := (.int .i64 zb)) rfl) (qe (s_then ?_)))
 refine wp_ret (s_ret (c_ret1 (v := (.int .i64 zb)) rfl rfl rfl ?_))
 have hzz := hzpd
 have hntm := numT_min dp
 exact ⟨_, L158, R159, B160, q161, GL2, rfl, hpk167, hok169, (PX.trans hpx148 hpx170), PIn.lo hpin168 rfl, hX166, hzpl, (hzz.trans (by rw [hdp0, show (-(kb : Int)) = t by omega]; rfl)), (by omega)⟩
 refine qs rfl rfl rfl rfl rfl rfl (qs rfl rfl rfl rfl rfl rfl (qs rfl rfl rfl rfl rfl rfl (qd rfl rfl rfl (r_pickF (v := (.bool false)) rfl rfl) (qd rfl rfl rfl (r_assign (v := (.bool false)) rfl) (qe (s_then ?_))))))
 refine c_ifF rfl rfl (s_seq (c_reg ?_))
 refine qd rfl rfl rfl (r_fldp (k := 1) rfl Tryz.underlying50 rfl nz3 rfl) (qd rfl rfl rfl (r_ldp1 (u := (.int .i64 (dp : Int))) ag3 rfl (hX19.pins _ _ _ (hbp20 1 _ rfl))) (qd rfl rfl rfl (r_eql rfl rfl) (qd rfl rfl rfl (r_move (v := (.bool (decide (((dp : Int) : Int) = 0)))) rfl) (qbd (p := ((dp : Int) : Int) = 0) (t := 26) rfl (fun h => absurd h h23) (fun _ => ?_)))))
 refine qs rfl rfl rfl rfl rfl rfl (qs rfl rfl rfl rfl rfl rfl (qs rfl rfl rfl rfl rfl rfl (qd rfl rfl rfl (r_pickF (v := (.bool false)) rfl rfl) (qd rfl rfl rfl (r_assign (v := (.bool false)) rfl) (qe (s_then ?_))))))
 refine c_ifF rfl rfl (s_seq (c_reg ?_))
 refine qd rfl rfl rfl (r_fldp (k := 1) rfl Tryz.underlying50 rfl nz3 rfl) (qd rfl rfl rfl (r_ldp1 (u := (.int .i64 (dp : Int))) ag3 rfl (hX19.pins _ _ _ (hbp20 1 _ rfl))) (qd rfl rfl rfl (r_eql rfl rfl) (qd rfl rfl rfl (r_assign (v := (.bool (decide (((dp : Int) : Int) = 0)))) rfl) (qe (s_then ?_)))))
 refine c_ifd (p := ((dp : Int) : Int) = 0) rfl rfl (fun h => absurd h h23) (fun _ => ?_)
 refine wp_skip (s_blkN (s_then (s_seq (c_reg ?_))))
 have hdp1 : 1 ≤ dp := by omega
 have hpw := hn.pow
 have htp := hn.top
 have hk1 := hn.kid hdp1 (s := t - 1) (Or.inl rfl)
 have hk2 := hn.kid hdp1 (s := t + 1) (Or.inr rfl)
 have hlg1 := hk1.1.good
 have hlg2 := hk2.1.good
 have hnt := numT_two hdp1 (hn.odd.resolve_left (by omega))
 have hdk := dy_kids hdp1 (hn.odd.resolve_left (by omega))
 refine qd rfl rfl rfl (r_fldp (k := 0) rfl Tryz.underlying50 rfl nz3 rfl) (qd rfl rfl rfl (r_ldp1 (u := (.int .i64 t)) ag3 rfl (hX19.pins _ _ _ (hbp20 0 _ rfl))) (qd rfl rfl rfl (r_sub rfl rfl (by omega)) (qd rfl rfl rfl (r_fldp (k := 1) rfl Tryz.underlying50 rfl nz3 rfl) (qd rfl rfl rfl (r_ldp1 (u := (.int .i64 (dp : Int))) ag3 rfl (hX19.pins _ _ _ (hbp20 1 _ rfl))) (q1 rfl rfl rfl (o_call (vs := [(.int .i64 (t - 1)), (.int .i64 (dp : Int))]) Tryz.func156 nm156 rfl rfl rfl ?_))))))
 refine Calls.mono (lowest_ok hX19.pins (by omega) (by omega) hlg1) ?_
 rintro _ w222 ⟨G221, rfl, hx223⟩
 refine ⟨_, rfl, ?_⟩
 have hX224 := hX19.tr hx223
 have hpk225 := hpk22.ext hx223
 refine qd rfl rfl rfl (r_move (v := (.tuple #[(.agg [(.int .i64 ((lowD dp (t - 1)).1)), (.int .i64 (((lowD dp (t - 1)).2 : Nat) : Int))].toArray), (.bool true)])) rfl) (qd rfl rfl rfl (r_extract (v := (.agg [(.int .i64 ((lowD dp (t - 1)).1)), (.int .i64 (((lowD dp (t - 1)).2 : Nat) : Int))].toArray)) rfl rfl) (qd rfl rfl rfl (r_extract (v := (.bool true)) rfl rfl) (q1 rfl rfl rfl (o_alloc [(.int .i64 0), (.int .i64 0)] zr50 rfl hX224.pins (fun b226 w227 hk228 hb229 hp230 hl231 => ?_)))))
 have hX232 := hX224.step hp230 hl231
 have hpk233 := hpk225.below hl231 hp230
 have ha238 := hpk225.new (x := (some b226)) (fun k hk => by rw [(congrArg some hk228)] at hk; cases hk; exact Nat.le_refl _)
 have hlo239 : w.heap.size ≤ b226 := by have := hX224.size; omega
 refine q0 rfl rfl rfl (o_stp (cs' := [(.int .i64 ((lowD dp (t - 1)).1)), (.int .i64 (((lowD dp (t - 1)).2 : Nat) : Int))]) (us := [(.int .i64 ((lowD dp (t - 1)).1)), (.int .i64 (((lowD dp (t - 1)).2 : Nat) : Int))]) (v := (.agg [(.int .i64 ((lowD dp (t - 1)).1)), (.int .i64 (((lowD dp (t - 1)).2 : Nat) : Int))].toArray)) sz50 rfl rfl rfl (ones2 (by rfl) (by rfl)) hX232.pins hb229 (Nat.le_of_ble_eq_true rfl) rfl (fun w240 hb241 hp242 hg243 hz244 => ?_))
 have hX245 := hX232.write hp242 hg243 ((lo_box hlo239))
 have hpk246 := hpk233.kept hg243 hp242 ha238
 obtain ⟨G247, hle248, hX249, hbp250, hf251⟩ := hb241.shut hX245 hlo239
 have hpk252 := hpk246.more hle248 hf251 ha238
 refine qd rfl rfl rfl (r_assign (v := (.bool true)) rfl) (qe (s_then (s_seq (c_reg ?_))))
 refine qd rfl rfl rfl (r_fldp (k := 0) rfl Tryz.underlying50 rfl nz3 rfl) (qd rfl rfl rfl (r_ldp1 (u := (.int .i64 t)) ag3 rfl ((Pins.of_le hX249.pins (Pin.le_trans hx223.le hle248)) _ _ _ (hbp20 0 _ rfl))) (qd rfl rfl rfl (r_add rfl rfl (by omega)) (qd rfl rfl rfl (r_fldp (k := 1) rfl Tryz.underlying50 rfl nz3 rfl) (qd rfl rfl rfl (r_ldp1 (u := (.int .i64 (dp : Int))) ag3 rfl ((Pins.of_le hX249.pins (Pin.le_trans hx223.le hle248)) _ _ _ (hbp20 1 _ rfl))) (q1 rfl rfl rfl (o_call (vs := [(.int .i64 (t + 1)), (.int .i64 (dp : Int))]) Tryz.func156 nm156 rfl rfl rfl ?_))))))
 refine Calls.mono (lowest_ok hX249.pins (by omega) (by omega) hlg2) ?_
 rintro _ w254 ⟨G253, rfl, hx255⟩
 refine ⟨_, rfl, ?_⟩
 have hX256 := hX249.tr hx255
 have hpk257 := hpk252.ext hx255
 refine qd rfl rfl rfl (r_move (v := (.tuple #[(.agg [(.int .i64 ((lowD dp (t + 1)).1)), (.int .i64 (((lowD dp (t + 1)).2 : Nat) : Int))].toArray), (.bool true)])) rfl) (qd rfl rfl rfl (r_extract (v := (.agg [(.int .i64 ((lowD dp (t + 1)).1)), (.int .i64 (((lowD dp (t + 1)).2 : Nat) : Int))].toArray)) rfl rfl) (qd rfl rfl rfl (r_extract (v := (.bool true)) rfl rfl) (q1 rfl rfl rfl (o_alloc [(.int .i64 0), (.int .i64 0)] zr50 rfl hX256.pins (fun b258 w259 hk260 hb261 hp262 hl263 => ?_)))))
 have hX264 := hX256.step hp262 hl263
 have hpk265 := hpk257.below hl263 hp262
 have ha270 := hpk257.new (x := (some b258)) (fun k hk => by rw [(congrArg some hk260)] at hk; cases hk; exact Nat.le_refl _)
 have hlo271 : w.heap.size ≤ b258 := by have := hX256.size; omega
 refine q0 rfl rfl rfl (o_stp (cs' := [(.int .i64 ((lowD dp (t + 1)).1)), (.int .i64 (((lowD dp (t + 1)).2 : Nat) : Int))]) (us := [(.int .i64 ((lowD dp (t + 1)).1)), (.int .i64 (((lowD dp (t + 1)).2 : Nat) : Int))]) (v := (.agg [(.int .i64 ((lowD dp (t + 1)).1)), (.int .i64 (((lowD dp (t + 1)).2 : Nat) : Int))].toArray)) sz50 rfl rfl rfl (ones2 (by rfl) (by rfl)) hX264.pins hb261 (Nat.le_of_ble_eq_true rfl) rfl (fun w272 hb273 hp274 hg275 hz276 => ?_))
 have hX277 := hX264.write hp274 hg275 ((lo_box hlo271))
 have hpk278 := hpk265.kept hg275 hp274 ha270
 obtain ⟨G279, hle280, hX281, hbp282, hf283⟩ := hb273.shut hX277 hlo271
 have hpk284 := hpk278.more hle280 hf283 ha270
 refine qd rfl rfl rfl (r_assign (v := (.bool true)) rfl) (qe (s_then (s_seq ?_)))
 refine c_draw (S := fun wz => Pins G279 wz) (last := 11) (by kernel_rfl) rfl ?_
 have hl285 : Below w272.heap.size w272 w272.drew := (Below.refl _ _).drew
 have hp286 := hX281.pins.below hl285
 have hX287 := hX281.step hp286 hl285
 have hpk288 := hpk284.below hl285 hp286
 refine dr_take (i := 0) rfl rfl rfl (want_none rfl _) (by kernel_rfl) (fun _ _ => r_move (v := (.pointer (some ⟨p, 0, none⟩))) rfl) hX287.pins (dr_take (i := 1) rfl rfl rfl (want_none rfl _) (by kernel_rfl) (fun _ _ => r_move (v := (.pointer (some ⟨p, 0, none⟩))) rfl) hX287.pins (dr_take (i := 2) rfl rfl rfl (want_none rfl _) (by kernel_rfl) (fun _ hS => r_ldpA (cs := [(.int .i64 ((lowD dp (t - 1)).1)), (.int .i64 (((lowD dp (t - 1)).2 : Nat) : Int))]) ag50 sz50 rfl (fun j u hj => (Pins.of_le hS (Pin.le_trans hx255.le hle280)) _ _ _ (hbp250 _ _ (by simpa using hj)))) hX287.pins (dr_take (i := 5) rfl rfl rfl (want_none rfl _) (by kernel_rfl) (fun _ _ => r_move (v := (.pointer (some ⟨p, 0, none⟩))) rfl) hX287.pins (dr_take (i := 6) rfl rfl rfl (want_none rfl _) (by kernel_rfl) (fun _ hS => r_ldpA (cs := [(.int .i64 ((lowD dp (t + 1)).1)), (.int .i64 (((lowD dp (t + 1)).2 : Nat) : Int))]) ag50 sz50 rfl (fun j u hj => hS _ _ _ (hbp282 _ _ (by simpa using hj)))) hX287.pins (dr_one (i := 3) (by kernel_rfl) (drOp1 (i := 3) rfl rfl rfl (want_none rfl _) (o_call (vs := [(.pointer (some ⟨p, 0, none⟩)), (.agg [(.int .i64 ((lowD dp (t - 1)).1)), (.int .i64 (((lowD dp (t - 1)).2 : Nat) : Int))].toArray)]) Tryz.func129 nm129 rfl rfl rfl ?_)))))))
 refine Calls.mono (ih hX287.pins hpk288 hok hk1.1 (by omega) (by omega)) ?_
 rintro _ w298 ⟨z289, L293, R294, B295, q296, G297, rfl, hpk299, hok300, hpx301, hlo302, hx303, hpl290, hpd291, hqn292⟩
 refine ⟨_, rfl, ?_⟩
 have hX304 := hX287.trans hx303 hpin
 have hpin305 := PIn.call hpin hlo302 hX287.size
 have hql306 := hpx301.len
 have hml307 : (q296.ns.map Nd.l).length = q296.ns.length ∧ (q296.ns.map Nd.r).length = q296.ns.length := ⟨List.length_map .., List.length_map ..⟩
 have hml308 : q296.bs.length = q296.ns.length ∧ q296.ns.length ≤ 1048576 := ⟨hok300.ar.ok.len, hok300.ar.ok.lim⟩
 refine ⟨fun _ => (Pins.of_le hX304.pins hx303.le), ?_⟩
 refine dr_two (i := 4) (j := 7) (by kernel_rfl) ?_ ?_
 refine (drOp1 (i := 4) rfl rfl rfl (want_none rfl _) (o_buildF (E := eInt) (e := 3) [(.int .i64 z289)] [z289] Tryz.underlying57 sz3 zr3 (by exact reps1 (by rfl)) (ones1 (by rfl)) rfl rfl rfl rfl (by decide) hX304.pins (fun u309 w310 ho311 hp312 hl313 hk314 => ?_)))
 have hX315 := hX304.step hp312 hl313
 have hpk316 := hpk299.below hl313 hp312
 have ha321 := hpk299.new (x := u309.ownBlock) (fun k hk => by rw [hk314] at hk; cases hk; exact Nat.le_refl _)
 have ho322 : Own eInt 3 G297 w310 w.heap.size u309 ([z289]) := ho311.weaken hX304.size
 refine ⟨fun _ => (Pins.of_le hX315.pins hx303.le), ?_⟩
 refine dr_one (i := 7) (by kernel_rfl) (drOp1 (i := 7) rfl rfl rfl (want_none rfl _) (o_call (vs := [(.pointer (some ⟨p, 0, none⟩)), (.agg [(.int .i64 ((lowD dp (t + 1)).1)), (.int .i64 (((lowD dp (t + 1)).2 : Nat) : Int))].toArray)]) Tryz.func129 nm129 rfl rfl rfl ?_))
 refine Calls.mono (ih hX315.pins hpk316 hok300 hk2.1 (by omega) (by omega)) ?_
 rintro _ w332 ⟨z323, L327, R328, B329, q330, G331, rfl, hpk333, hok334, hpx335, hlo336, hx337, hpl324, hpd325, hqn326⟩
 refine ⟨_, rfl, ?_⟩
 have hX338 := hX315.trans hx337 hpin305
 have ho339 := ho322.extS hx337 ha321
 have hnp340 := NP.call ha321 hlo336 (own_lt ho322)
 have hpin341 := PIn.call hpin305 hlo336 hX315.size
 have hql342 := hpx335.len
 have hml343 : (q330.ns.map Nd.l).length = q330.ns.length ∧ (q330.ns.map Nd.r).length = q330.ns.length := ⟨List.length_map .., List.length_map ..⟩
 have hml344 : q330.bs.length = q330.ns.length ∧ q330.ns.length ≤ 1048576 := ⟨hok334.ar.ok.len, hok334.ar.ok.lim⟩
 refine ⟨fun _ => (Pins.of_le hX338.pins (Pin.le_trans hx303.le hx337.le)), ?_⟩
 refine dr_one (i := 8) (by kernel_rfl) (drOp1 (i := 8) rfl rfl rfl (want_none rfl _) (o_buildF (E := eInt) (e := 3) [(.int .i64 z323)] [z323] Tryz.underlying57 sz3 zr3 (by exact reps1 (by rfl)) (ones1 (by rfl)) rfl rfl rfl rfl (by decide) hX338.pins (fun u345 w346 ho347 hp348 hl349 hk350 => ?_)))
 have hX351 := hX338.step hp348 hl349
 have ho352 := ho339.below hl349
 have hpk353 := hpk333.below hl349 hp348
 have ha354 : Apart u345.ownBlock u309.ownBlock := new_ne_own hk350 ho339.lt
 have ha359 := hpk333.new (x := u345.ownBlock) (fun k hk => by rw [hk350] at hk; cases hk; exact Nat.le_refl _)
 have ho360 : Own eInt 3 G331 w346 w.heap.size u345 ([z323]) := ho347.weaken hX338.size
 refine ⟨fun _ => (Pins.of_le hX351.pins (Pin.le_trans hx303.le hx337.le)), ?_⟩
 obtain ⟨G361, hle364, hX363, hr362, hf365⟩ := ho352.sealed hX351
 have ho366 := ho360.moreO hle364 hf365 ha354
 have hpk367 := hpk353.moreO hle364 hf365 hnp340
 obtain ⟨G368, hle371, hX370, hr369, hf372⟩ := ho366.sealed hX363
 have hpk373 := hpk367.moreO hle371 hf372 ha359
 have hkg374 := ((hpx335.pd hok300 hok334 hpl290).trans hpd291)
 have hkg375 := hpd325
 refine dr_one (i := 9) (by kernel_rfl) (drOp1 (i := 9) rfl rfl rfl (want_none rfl _) (o_call (vs := [(.pointer (some ⟨p, 0, none⟩)), u309, u345]) Tryz.func102 nm102 rfl rfl rfl ?_))
 refine Calls.mono (node_spec hX370.pins hpk373 hok334 (hr362.mono hle371) hr369 (by omega) ⟨by simp, by simp⟩ (one_at (hpx335.place hpl290)) (one_at hpl324)) ?_
 rintro _ w386 ⟨z376, L381, R382, B383, q384, G385, rfl, hpk387, hok388, hpx389, hlo390, hx391, hpl377, hpd378, hqn379, hcm380⟩
 refine ⟨_, rfl, ?_⟩
 have hX392 := hX370.trans hx391 hpin341
 have hpin393 := PIn.call hpin341 hlo390 hX370.size
 have hql394 := hpx389.len
 have hml395 : (q384.ns.map Nd.l).length = q384.ns.length ∧ (q384.ns.map Nd.r).length = q384.ns.length := ⟨List.length_map .., List.length_map ..⟩
 have hml396 : q384.bs.length = q384.ns.length ∧ q384.ns.length ≤ 1048576 := ⟨hok388.ar.ok.len, hok388.ar.ok.lim⟩
 have hng397 := hpd378.trans (show _ = mkG [pd q330 z289] [pd q330 z323] from rfl)
 rw [hkg374] at hng397
 rw [hkg375] at hng397
 have hqn398 := hqn379
 refine ⟨fun _ => (Pins.of_le hX392.pins (Pin.le_trans (Pin.le_trans (Pin.le_trans (Pin.le_trans hx303.le hx337.le) hle364) hle371) hx391.le)), ?_⟩
 refine dr_take (i := 10) rfl rfl rfl (want_none rfl _) (by kernel_rfl) (fun _ _ => r_assign (v := (.int .i64 z376)) rfl) (Pins.of_le hX392.pins (Pin.le_trans (Pin.le_trans (Pin.le_trans (Pin.le_trans hx303.le hx337.le) hle364) hle371) hx391.le)) (dr_end (by kernel_rfl) (s_then (wp_ret (s_ret (c_ret1 (v := (.int .i64 z376)) rfl rfl rfl ?_)))))
 have hzz := hng397
 have hntm := numT_min dp
 exact ⟨_, L381, R382, B383, q384, G385, rfl, hpk387, hok388, (PX.trans (PX.trans hpx301 hpx335) hpx389), PIn.lo hpin393 rfl, hX392, hpl377, (hzz.trans hdk.symm), (by omega)⟩
 refine (drOp1 (i := 7) rfl rfl rfl (want_none rfl _) (o_call (vs := [(.pointer (some ⟨p, 0, none⟩)), (.agg [(.int .i64 ((lowD dp (t + 1)).1)), (.int .i64 (((lowD dp (t + 1)).2 : Nat) : Int))].toArray)]) Tryz.func129 nm129 rfl rfl rfl ?_))
 refine Calls.mono (ih hX304.pins hpk299 hok300 hk2.1 (by omega) (by omega)) ?_
 rintro _ w408 ⟨z399, L403, R404, B405, q406, G407, rfl, hpk409, hok410, hpx411, hlo412, hx413, hpl400, hpd401, hqn402⟩
 refine ⟨_, rfl, ?_⟩
 have hX414 := hX304.trans hx413 hpin305
 have hpin415 := PIn.call hpin305 hlo412 hX304.size
 have hql416 := hpx411.len
 have hml417 : (q406.ns.map Nd.l).length = q406.ns.length ∧ (q406.ns.map Nd.r).length = q406.ns.length := ⟨List.length_map .., List.length_map ..⟩
 have hml418 : q406.bs.length = q406.ns.length ∧ q406.ns.length ≤ 1048576 := ⟨hok410.ar.ok.len, hok410.ar.ok.lim⟩
 refine ⟨fun _ => (Pins.of_le hX414.pins (Pin.le_trans hx303.le hx413.le)), ?_⟩
 refine dr_two (i := 4) (j := 8) (by kernel_rfl) ?_ ?_
 refine (drOp1 (i := 4) rfl rfl rfl (want_none rfl _) (o_buildF (E := eInt) (e := 3) [(.int .i64 z289)] [z289] Tryz.underlying57 sz3 zr3 (by exact reps1 (by rfl)) (ones1 (by rfl)) rfl rfl rfl rfl (by decide) hX414.pins (fun u419 w420 ho421 hp422 hl423 hk424 => ?_)))
 have hX425 := hX414.step hp422 hl423
 have hpk426 := hpk409.below hl423 hp422
 have ha431 := hpk409.new (x := u419.ownBlock) (fun k hk => by rw [hk424] at hk; cases hk; exact Nat.le_refl _)
 have ho432 : Own eInt 3 G407 w420 w.heap.size u419 ([z289]) := ho421.weaken hX414.size
 refine ⟨fun _ => (Pins.of_le hX425.pins (Pin.le_trans hx303.le hx413.le)), ?_⟩
 refine dr_one (i := 8) (by kernel_rfl) (drOp1 (i := 8) rfl rfl rfl (want_none rfl _) (o_buildF (E := eInt) (e := 3) [(.int .i64 z399)] [z399] Tryz.underlying57 sz3 zr3 (by exact reps1 (by rfl)) (ones1 (by rfl)) rfl rfl rfl rfl (by decide) hX425.pins (fun u433 w434 ho435 hp436 hl437 hk438 => ?_)))
 have hX439 := hX425.step hp436 hl437
 have ho440 := ho432.below hl437
 have hpk441 := hpk426.below hl437 hp436
 have ha445 : Apart u433.ownBlock u419.ownBlock := new_ne_own hk438 ho432.lt
 have ha447 := hpk426.new (x := u433.ownBlock) (fun k hk => by rw [hk438] at hk; cases hk; exact Nat.le_refl _)
 have ho448 : Own eInt 3 G407 w434 w.heap.size u433 ([z399]) := ho435.weaken hX425.size
 refine ⟨fun _ => (Pins.of_le hX439.pins (Pin.le_trans hx303.le hx413.le)), ?_⟩
 obtain ⟨G449, hle452, hX451, hr450, hf453⟩ := ho440.sealed hX439
 have ho454 := ho448.moreO hle452 hf453 ha445
 have hpk455 := hpk441.moreO hle452 hf453 ha431
 obtain ⟨G456, hle459, hX458, hr457, hf460⟩ := ho454.sealed hX451
 have hpk461 := hpk455.moreO hle459 hf460 ha447
 have hkg462 := ((hpx411.pd hok300 hok410 hpl290).trans hpd291)
 have hkg463 := hpd401
 refine dr_one (i := 9) (by kernel_rfl) (drOp1 (i := 9) rfl rfl rfl (want_none rfl _) (o_call (vs := [(.pointer (some ⟨p, 0, none⟩)), u419, u433]) Tryz.func102 nm102 rfl rfl rfl ?_))
 refine Calls.mono (node_spec hX458.pins hpk461 hok410 (hr450.mono hle459) hr457 (by omega) ⟨by simp, by simp⟩ (one_at (hpx411.place hpl290)) (one_at hpl400)) ?_
 rintro _ w474 ⟨z464, L469, R470, B471, q472, G473, rfl, hpk475, hok476, hpx477, hlo478, hx479, hpl465, hpd466, hqn467, hcm468⟩
 refine ⟨_, rfl, ?_⟩
 have hX480 := hX458.trans hx479 hpin415
 have hpin481 := PIn.call hpin415 hlo478 hX458.size
 have hql482 := hpx477.len
 have hml483 : (q472.ns.map Nd.l).length = q472.ns.length ∧ (q472.ns.map Nd.r).length = q472.ns.length := ⟨List.length_map .., List.length_map ..⟩
 have hml484 : q472.bs.length = q472.ns.length ∧ q472.ns.length ≤ 1048576 := ⟨hok476.ar.ok.len, hok476.ar.ok.lim⟩
 have hng485 := hpd466.trans (show _ = mkG [pd q406 z289] [pd q406 z399] from rfl)
 rw [hkg462] at hng485
 rw [hkg463] at hng485
 have hqn486 := hqn467
 refine ⟨fun _ => (Pins.of_le hX480.pins (Pin.le_trans (Pin.le_trans (Pin.le_trans (Pin.le_trans hx303.le hx413.le) hle452) hle459) hx479.le)), ?_⟩
 refine dr_take (i := 10) rfl rfl rfl (want_none rfl _) (by kernel_rfl) (fun _ _ => r_assign (v := (.int .i64 z464)) rfl) (Pins.of_le hX480.pins (Pin.le_trans (Pin.le_trans (Pin.le_trans (Pin.le_trans hx303.le hx413.le) hle452) hle459) hx479.le)) (dr_end (by kernel_rfl) (s_then (wp_ret (s_ret (c_ret1 (v := (.int .i64 z464)) rfl rfl rfl ?_)))))
 have hzz := hng485
 have hntm := numT_min dp
 exact ⟨_, L469, R470, B471, q472, G473, rfl, hpk475, hok476, (PX.trans (PX.trans hpx301 hpx411) hpx477), PIn.lo hpin481 rfl, hX480, hpl465, (hzz.trans hdk.symm), (by omega)⟩
 refine (drOp1 (i := 8) rfl rfl rfl (want_none rfl _) (o_buildF (E := eInt) (e := 3) [(.int .i64 z399)] [z399] Tryz.underlying57 sz3 zr3 (by exact reps1 (by rfl)) (ones1 (by rfl)) rfl rfl rfl rfl (by decide) hX414.pins (fun u487 w488 ho489 hp490 hl491 hk492 => ?_)))
 have hX493 := hX414.step hp490 hl491
 have hpk494 := hpk409.below hl491 hp490
 have ha499 := hpk409.new (x := u487.ownBlock) (fun k hk => by rw [hk492] at hk; cases hk; exact Nat.le_refl _)
 have ho500 : Own eInt 3 G407 w488 w.heap.size u487 ([z399]) := ho489.weaken hX414.size
 refine ⟨fun _ => (Pins.of_le hX493.pins (Pin.le_trans hx303.le hx413.le)), ?_⟩
 refine dr_one (i := 4) (by kernel_rfl) (drOp1 (i := 4) rfl rfl rfl (want_none rfl _) (o_buildF (E := eInt) (e := 3) [(.int .i64 z289)] [z289] Tryz.underlying57 sz3 zr3 (by exact reps1 (by rfl)) (ones1 (by rfl)) rfl rfl rfl rfl (by decide) hX493.pins (fun u501 w502 ho503 hp504 hl505 hk506 => ?_)))
 have hX507 := hX493.step hp504 hl505
 have ho508 := ho500.below hl505
 have hpk509 := hpk494.below hl505 hp504
 have ha513 : Apart u501.ownBlock u487.ownBlock := new_ne_own hk506 ho500.lt
 have ha515 := hpk494.new (x := u501.ownBlock) (fun k hk => by rw [hk506] at hk; cases hk; exact Nat.le_refl _)
 have ho516 : Own eInt 3 G407 w502 w.heap.size u501 ([z289]) := ho503.weaken hX493.size
 refine ⟨fun _ => (Pins.of_le hX507.pins (Pin.le_trans hx303.le hx413.le)), ?_⟩
 obtain ⟨G517, hle520, hX519, hr518, hf521⟩ := ho516.sealed hX507
 have ho522 := ho508.moreO hle520 hf521 ha513.symm
 have hpk523 := hpk509.moreO hle520 hf521 ha515
 obtain ⟨G524, hle527, hX526, hr525, hf528⟩ := ho522.sealed hX519
 have hpk529 := hpk523.moreO hle527 hf528 ha499
 have hkg530 := ((hpx411.pd hok300 hok410 hpl290).trans hpd291)
 have hkg531 := hpd401
 refine dr_one (i := 9) (by kernel_rfl) (drOp1 (i := 9) rfl rfl rfl (want_none rfl _) (o_call (vs := [(.pointer (some ⟨p, 0, none⟩)), u501, u487]) Tryz.func102 nm102 rfl rfl rfl ?_))
 refine Calls.mono (node_spec hX526.pins hpk529 hok410 (hr518.mono hle527) hr525 (by omega) ⟨by simp, by simp⟩ (one_at (hpx411.place hpl290)) (one_at hpl400)) ?_
 rintro _ w542 ⟨z532, L537, R538, B539, q540, G541, rfl, hpk543, hok544, hpx545, hlo546, hx547, hpl533, hpd534, hqn535, hcm536⟩
 refine ⟨_, rfl, ?_⟩
 have hX548 := hX526.trans hx547 hpin415
 have hpin549 := PIn.call hpin415 hlo546 hX526.size
 have hql550 := hpx545.len
 have hml551 : (q540.ns.map Nd.l).length = q540.ns.length ∧ (q540.ns.map Nd.r).length = q540.ns.length := ⟨List.length_map .., List.length_map ..⟩
 have hml552 : q540.bs.length = q540.ns.length ∧ q540.ns.length ≤ 1048576 := ⟨hok544.ar.ok.len, hok544.ar.ok.lim⟩
 have hng553 := hpd534.trans (show _ = mkG [pd q406 z289] [pd q406 z399] from rfl)
 rw [hkg530] at hng553
 rw [hkg531] at hng553
 have hqn554 := hqn535
 refine ⟨fun _ => (Pins.of_le hX548.pins (Pin.le_trans (Pin.le_trans (Pin.le_trans (Pin.le_trans hx303.le hx413.le) hle520) hle527) hx547.le)), ?_⟩
 refine dr_take (i := 10) rfl rfl rfl (want_none rfl _) (by kernel_rfl) (fun _ _ => r_assign (v := (.int .i64 z532)) rfl) (Pins.of_le hX548.pins (Pin.le_trans (Pin.le_trans (Pin.le_trans (Pin.le_trans hx303.le hx413.le) hle520) hle527) hx547.le)) (dr_end (by kernel_rfl) (s_then (wp_ret (s_ret (c_ret1 (v := (.int .i64 z532)) rfl rfl rfl ?_)))))
 have hzz := hng553
 have hntm := numT_min dp
 exact ⟨_, L537, R538, B539, q540, G541, rfl, hpk543, hok544, (PX.trans (PX.trans hpx301 hpx411) hpx545), PIn.lo hpin549 rfl, hX548, hpl533, (hzz.trans hdk.symm), (by omega)⟩

theorem num_all {p : Nat} {mm : PM} : ∀ m, NumP m p mm
 | 0 => fun _ _ _ _ _ h => absurd h (Nat.not_lt_zero _)
 | m + 1 => fun hP hpk hok hn hl hm => number_step hP hpk hok hn hl (num_all m) hm
theorem number_spec {w : World} {G : Pin} {L R B : Value} {q : PSt} {t : Int} {dp p : Nat} {mm : PM} (hP : Pins G w) (hpk : Pk 57 3 G w p L R B mm q) (hok : PoolOk q) (hn : NumOk dp t) (hl : q.ns.length + numT dp ≤ 1048575) :
  Calls Tryz.prog 129 [(.pointer (some ⟨p, 0, none⟩)), (.agg [.int .i64 t, .int .i64 (dp : Int)].toArray)].toArray w fun e w' => ∃ (z : Int) (L' R' B' : Value) (q' : PSt) (G' : Pin), e = .returned (.int .i64 z) ∧ Pk 57 3 G' w' p L' R' B' mm q' ∧ PoolOk q' ∧ PX q q' ∧ PLo w p L R B mm L' R' B' ∧ Ext (inP p L R B mm) G w G' w' ∧ PlaceOk q' z ∧ pd q' z = dyG dp t ∧ q'.ns.length ≤ q.ns.length + numT dp :=
 num_all _ hP hpk hok hn hl (Nat.lt_succ_self _)

end NB1
end Go.Proofs.YtkfgdhanaijddaaGreatDoor

set_option maxRecDepth 20000
set_option maxHeartbeats 2000000
namespace Go.Proofs.YtkfgdhanaijddaaGreatDoor
namespace NB2
open Go.RowKit Go.GL Go.Proofs
open B1 C1 D1 E1 K1 PO1 PL1 PA1 SO1 OD1 FO1 NG1 NF1 NU1 NU2 NB1









theorem number_zspec {w : World} {G : Pin} {L R B : Value} {q : PSt} {t z : Int} {p : Nat} {mm : PM} (hP : Pins G w) (hpk : Pk 57 3 G w p L R B mm q) (hok : PoolOk q) (hz : 0 ≤ z) (hn : NumOk z.toNat t) (hl : q.ns.length + numT z.toNat ≤ 1048575) :
  Calls Tryz.prog 129 [(.pointer (some ⟨p, 0, none⟩)), (.agg [.int .i64 t, .int .i64 z].toArray)].toArray w fun e w' => ∃ (y : Int) (L' R' B' : Value) (q' : PSt) (G' : Pin), e = .returned (.int .i64 y) ∧ Pk 57 3 G' w' p L' R' B' mm q' ∧ PoolOk q' ∧ PX q q' ∧ PLo w p L R B mm L' R' B' ∧ Ext (inP p L R B mm) G w G' w' ∧ PlaceOk q' y ∧ pd q' y = dyG z.toNat t ∧ q'.ns.length ≤ q.ns.length + numT z.toNat := by
 obtain ⟨dp, rfl⟩ : ∃ dp : Nat, z = (dp : Int) := ⟨z.toNat, by omega⟩
 simp only [Int.toNat_natCast] at hn hl ⊢
 exact number_spec hP hpk hok hn hl

theorem numbered_spec {w : World} {G : Pin} {L R B : Value} {q : PSt} {t z : Int} {p : Nat} {mm : PM} (hP : Pins G w) (hpk : Pk 57 3 G w p L R B mm q) (hok : PoolOk q) (hl : q.ns.length ≤ 700000) :
  Calls Tryz.prog 80 [(.pointer (some ⟨p, 0, none⟩)), (.agg [(.int .i64 t), (.int .i64 z)].toArray)].toArray w fun e w' => ∃ (y : Int) (L' R' B' : Value) (q' : PSt) (G' : Pin), e = .returned (.tuple #[.int .i64 y, .bool (nmB t z)]) ∧ Pk 57 3 G' w' p L' R' B' mm q' ∧ PoolOk q' ∧ PX q q' ∧ PLo w p L R B mm L' R' B' ∧ Ext (inP p L R B mm) G w G' w' ∧ (nmB t z = true → PlaceOk q' y ∧ pd q' y = dyG z.toNat t) ∧ q'.ns.length ≤ q.ns.length + 315247 := by
 refine s_enter (n := 32) Tryz.func80 Tryz.ntmps80 rfl rfl ?_
 have hX0 : Ext (inP p L R B mm) G w G w := Ext.refl hP
 have hpin : PIn w (inP p L R B mm) p L R B mm := PIn.self
 have hml1 : (q.ns.map Nd.l).length = q.ns.length ∧ (q.ns.map Nd.r).length = q.ns.length := ⟨List.length_map .., List.length_map ..⟩
 have hml2 : q.bs.length = q.ns.length ∧ q.ns.length ≤ 1048576 := ⟨hok.ar.ok.len, hok.ar.ok.lim⟩
 refine s_seq (c_reg ?_)
 refine q1 rfl rfl rfl (o_box [(.int .i64 t), (.int .i64 z)] (v := (.agg [(.int .i64 t), (.int .i64 z)].toArray)) rfl rfl hX0.pins (fun b3 w4 hk5 hb6 hp7 hl8 => ?_))
 have hX9 := hX0.step hp7 hl8
 have hpk10 := hpk.below hl8 hp7
 have ha15 := hpk.new (x := (some b3)) (fun k hk => by rw [(congrArg some hk5)] at hk; cases hk; exact Nat.le_refl _)
 have hlo16 : w.heap.size ≤ b3 := by have := hX0.size; omega
 obtain ⟨G17, hle18, hX19, hbp20, hf21⟩ := hb6.shut hX9 hlo16
 have hpk22 := hpk10.more hle18 hf21 ha15
 refine qd rfl rfl rfl (r_assign (v := (.int .i64 0)) rfl) (qd rfl rfl rfl (r_assign (v := (.bool false)) rfl) (qe (s_then (s_seq (s_seq (c_reg ?_))))))
 refine qd rfl rfl rfl (r_ldpA (cs := [(.int .i64 t), (.int .i64 z)]) ag50 sz50 rfl (fun j u hj => hX19.pins _ _ _ (hbp20 _ _ (by simpa using hj)))) (q1 rfl rfl rfl (o_call (vs := [(.agg [(.int .i64 t), (.int .i64 z)].toArray)]) Tryz.func84 nm84 rfl rfl rfl ?_))
 refine Calls.mono (goodDyadic_spec (t := t) (z := z) hX19.pins) ?_
 rintro _ w24 ⟨G23, rfl, hx25⟩
 refine ⟨_, rfl, ?_⟩
 have hX26 := hX19.tr hx25
 have hpk27 := hpk22.ext hx25
 refine qd rfl rfl rfl (r_not rfl) (qd rfl rfl rfl (r_move (v := (.bool (!(decP (GoodD t z))))) rfl) (qbn (t := 10) rfl (fun h28 => ?_) (fun h28 => ?_)))
 have hgd : GoodD t z := decP_true.1 h28
 have hgt := hgd.top
 have hgp := hgd.pow
 have hms := max_shrz (t := t) hgp
 refine qdg rfl rfl rfl rfl rfl rfl (r_fldp (k := 0) rfl Tryz.underlying50 rfl nz3 rfl) (qdg rfl rfl rfl rfl rfl rfl (r_ldp1 (u := (.int .i64 t)) ag3 rfl ((Pins.of_le hX26.pins hx25.le) _ _ _ (hbp20 0 _ rfl))) (qdg rfl rfl rfl rfl rfl rfl (r_fldp (k := 0) rfl Tryz.underlying50 rfl nz3 rfl) (qdg rfl rfl rfl rfl rfl rfl (r_ldp1 (u := (.int .i64 t)) ag3 rfl ((Pins.of_le hX26.pins hx25.le) _ _ _ (hbp20 0 _ rfl))) (qdg rfl rfl rfl rfl rfl rfl (r_neg rfl (by omega)) (qdg rfl rfl rfl rfl rfl rfl (r_max rfl rfl) (qdg rfl rfl rfl rfl rfl rfl (r_fldp (k := 1) rfl Tryz.underlying50 rfl nz3 rfl) (qdg rfl rfl rfl rfl rfl rfl (r_ldp1 (u := (.int .i64 z)) ag3 rfl ((Pins.of_le hX26.pins hx25.le) _ _ _ (hbp20 1 _ rfl))) (qdg rfl rfl rfl rfl rfl rfl (r_shrI rfl rfl (by omega)) (qdg rfl rfl rfl rfl rfl rfl (r_geq rfl rfl) (qd rfl rfl rfl (r_pickF (v := (.bool (decide ((120 : Int) ≤ (Int.fdiv (max t (-t)) (2 ^ (min (z : Int).toNat 64))))))) rfl rfl) (qe (s_then ?_))))))))))))
 refine c_ifd (p := (120 : Int) ≤ (Int.fdiv (max t (-t)) (2 ^ (min (z : Int).toNat 64)))) rfl rfl (fun h29 => ?_) (fun h29 => ?_)
 refine s_seq (c_reg ?_)
 refine qd rfl rfl rfl (r_assign (v := (.int .i64 0)) rfl) (qd rfl rfl rfl (r_assign (v := (.bool false)) rfl) (qe (s_then ?_)))
 refine wp_ret (s_ret (c_ret2 (v := (.int .i64 0)) (u := (.bool false)) rfl rfl rfl rfl rfl ?_))
 have hbl : ¬ t.natAbs / 2 ^ z.toNat < 120 := by have h9 := h29; rw [hms] at h9; omega
 obtain ⟨e1, e2⟩ := nmz_no (t := t) (z := z) (num_late (born_late hbl)).2
 exact ⟨_, L, R, B, q, G23, by rw [e1], hpk27, hok, (PX.refl _), PIn.lo hpin rfl, hX26, (fun h => by rw [e1] at h; cases h), (by omega)⟩
 refine wp_skip (s_then (s_seq (c_reg ?_)))
 have hbl : t.natAbs / 2 ^ z.toNat < 120 := by have h9 := h29; rw [hms] at h9; omega
 have hno := good_num hgd.nat hbl
 have hnmx := numT_max hno.pow
 refine qd rfl rfl rfl (r_move (v := (.pointer (some ⟨p, 0, none⟩))) rfl) (qd rfl rfl rfl (r_ldpA (cs := [(.int .i64 t), (.int .i64 z)]) ag50 sz50 rfl (fun j u hj => (Pins.of_le hX26.pins hx25.le) _ _ _ (hbp20 _ _ (by simpa using hj)))) (q1 rfl rfl rfl (o_call (vs := [(.pointer (some ⟨p, 0, none⟩)), (.agg [(.int .i64 t), (.int .i64 z)].toArray)]) Tryz.func129 nm129 rfl rfl rfl ?_)))
 refine Calls.mono (number_zspec hX26.pins hpk27 hok hgp.1 hno (by omega)) ?_
 rintro _ w39 ⟨z30, L34, R35, B36, q37, G38, rfl, hpk40, hok41, hpx42, hlo43, hx44, hpl31, hpd32, hqn33⟩
 refine ⟨_, rfl, ?_⟩
 have hX45 := hX26.trans hx44 hpin
 have hpin46 := PIn.call hpin hlo43 hX26.size
 have hql47 := hpx42.len
 have hml48 : (q37.ns.map Nd.l).length = q37.ns.length ∧ (q37.ns.map Nd.r).length = q37.ns.length := ⟨List.length_map .., List.length_map ..⟩
 have hml49 : q37.bs.length = q37.ns.length ∧ q37.ns.length ≤ 1048576 := ⟨hok41.ar.ok.len, hok41.ar.ok.lim⟩
 refine qd rfl rfl rfl (r_assign (v := (.int .i64 z30)) rfl) (qe (s_then (s_seq (c_reg ?_))))
 refine qd rfl rfl rfl (r_move (v := (.int .i64 z30)) rfl) (qd rfl rfl rfl (r_move (v := (.pointer (some ⟨p, 0, none⟩))) rfl) (qd rfl rfl rfl (r_move (v := (.int .i64 z30)) rfl) (q1 rfl rfl rfl (o_buildF (E := eInt) (e := 3) [(.int .i64 z30)] [z30] Tryz.underlying57 sz3 zr3 (by exact reps1 (by rfl)) (ones1 (by rfl)) rfl rfl rfl rfl (by decide) hX45.pins (fun u50 w51 ho52 hp53 hl54 hk55 => ?_)))))
 have hX56 := hX45.step hp53 hl54
 have hpk57 := hpk40.below hl54 hp53
 have ha62 := hpk40.new (x := u50.ownBlock) (fun k hk => by rw [hk55] at hk; cases hk; exact Nat.le_refl _)
 have ho63 : Own eInt 3 G38 w51 w.heap.size u50 ([z30]) := ho52.weaken hX45.size
 obtain ⟨G71, hle74, hX73, hr72, hf75⟩ := ho63.sealed hX56
 have hpk76 := hpk57.moreO hle74 hf75 ha62
 refine q1 rfl rfl rfl (o_call (vs := [(.pointer (some ⟨p, 0, none⟩)), u50]) Tryz.func101 nm101 rfl rfl rfl ?_)
 refine Calls.mono (parts_spec hX73.pins hpk76 hok41 hr72 (place_one hpl31) (by simp)) ?_
 rintro _ w67 ⟨u64, zs65, G66, rfl, ho68, hpt69, hx70⟩
 refine ⟨_, rfl, ?_⟩
 have hX77 := hX73.tr hx70
 have hpk78 := hpk76.ext hx70
 have ho80 : Own eInt 3 G66 w67 w.heap.size u64 zs65 := ho68.weaken hX73.size
 have hql81 := hpt69.len
 refine qd rfl rfl rfl (run_len Tryz.underlying57 (v := u64) rfl ho80.read) (qd rfl rfl rfl (r_leq rfl rfl) (qd rfl rfl rfl (r_assign (v := (.int .i64 z30)) rfl) (qd rfl rfl rfl (r_assign (v := (.bool (decide (((zs65.length : Int) : Int) ≤ 120)))) rfl) (qe (s_then ?_)))))
 refine wp_ret (s_ret (c_ret2 (v := (.int .i64 z30)) (u := (.bool (decide (((zs65.length : Int) : Int) ≤ 120)))) rfl rfl rfl rfl rfl ?_))
 have hnm := nm_parts hok41 hpl31 hpt69 hpd32 hgd
 exact ⟨_, L34, R35, B36, q37, G66, by rw [hnm], hpk78, hok41, hpx42, PIn.lo hpin46 rfl, hX77, (fun _ => ⟨hpl31, hpd32⟩), (by omega)⟩
 refine qs rfl rfl rfl rfl rfl rfl (qs rfl rfl rfl rfl rfl rfl (qs rfl rfl rfl rfl rfl rfl (qs rfl rfl rfl rfl rfl rfl (qs rfl rfl rfl rfl rfl rfl (qs rfl rfl rfl rfl rfl rfl (qs rfl rfl rfl rfl rfl rfl (qs rfl rfl rfl rfl rfl rfl (qs rfl rfl rfl rfl rfl rfl (qs rfl rfl rfl rfl rfl rfl (qd rfl rfl rfl (r_pickT (v := (.bool true)) rfl rfl) (qe (s_then ?_))))))))))))
 refine c_ifT rfl rfl (s_seq (c_reg ?_))
 refine qd rfl rfl rfl (r_assign (v := (.int .i64 0)) rfl) (qd rfl rfl rfl (r_assign (v := (.bool false)) rfl) (qe (s_then ?_)))
 refine wp_ret (s_ret (c_ret2 (v := (.int .i64 0)) (u := (.bool false)) rfl rfl rfl rfl rfl ?_))
 obtain ⟨e1, e2⟩ := nm_bad (t := t) (z := z) (decP_false.1 h28)
 exact ⟨_, L, R, B, q, G23, by rw [e1], hpk27, hok, (PX.refl _), PIn.lo hpin rfl, hX26, (fun h => by rw [e1] at h; cases h), (by omega)⟩

end NB2
end Go.Proofs.YtkfgdhanaijddaaGreatDoor

set_option maxRecDepth 20000
set_option maxHeartbeats 2000000
namespace Go.Proofs.YtkfgdhanaijddaaGreatDoor
namespace NB3
open Go.RowKit Go.GL Go.Proofs
open B1 C1 D1 E1 K1 PO1 PL1 PA1 SO1 OD1 FO1 NG1 NF1 NU1 NU2 NB1 NB2





theorem pl28 : (Tryz.prog.underlying 28).bind (placesD Tryz.prog) = some [(0, 1)] := by kernel_rfl



theorem iNumberForm_dspec {w : World} {G : Pin} {t z : Int} (hP : Pins G w) :
  Calls Tryz.prog 29 [(.agg [(.int .i64 t), (.int .i64 z)].toArray)].toArray w fun e w' => ∃ (u : Value) (G' : Pin), e = .returned (.tuple #[(.agg [u].toArray), .bool (nmB t z)]) ∧ DForm 68 3 G' w' w.heap.size w'.heap.size u (nmF t z) ∧ Ext noS G w G' w' := by
 refine s_enter (n := 22) Tryz.func29 Tryz.ntmps29 rfl rfl ?_
 have hX0 : Ext noS G w G w := Ext.refl hP
 refine s_seq (c_reg ?_)
 refine q1 rfl rfl rfl (o_box [(.int .i64 t), (.int .i64 z)] (v := (.agg [(.int .i64 t), (.int .i64 z)].toArray)) rfl rfl hX0.pins (fun b1 w2 hk3 hb4 hp5 hl6 => ?_))
 have hX7 := hX0.step hp5 hl6
 have hlo8 : w.heap.size ≤ b1 := by have := hX0.size; omega
 obtain ⟨G9, hle10, hX11, hbp12, hf13⟩ := hb4.shut hX7 hlo8
 refine q1 rfl rfl rfl (o_alloc [(.slice none 0 0)] zr28 rfl hX11.pins (fun b14 w15 hk16 hb17 hp18 hl19 => ?_))
 have hX20 := hX11.step hp18 hl19
 have hlo21 : w.heap.size ≤ b14 := by have := hX11.size; omega
 refine qd rfl rfl rfl (r_assign (v := (.bool false)) rfl) (qe (s_then (s_seq (c_reg ?_))))
 refine q1 rfl rfl rfl (o_call (vs := []) Tryz.func46 nm46 rfl rfl rfl ?_)
 refine Calls.mono (newPool_spec hX20.pins) ?_
 rintro _ w25 ⟨p22, mm23, G24, rfl, hpk26, hfr27, hx28⟩
 refine ⟨_, rfl, ?_⟩
 have hX32 := hX20.tr hx28
 have hb33 := hb17.ext hx28
 have hnp34 := np_fresh hfr27 (x := (some b14)) (box_lt hb17)
 have hpin35 : PIn w (noS) p22 (.slice none 0 0) (.slice none 0 0) (.slice none 0 0) mm23 := PIn.fresh hfr27 hX20.size
 obtain ⟨q29, hq30⟩ : ∃ q, q = (⟨[], [], [], [], [], [], []⟩ : PSt) := ⟨_, rfl⟩
 rw [← hq30] at hpk26
 have hok31 : PoolOk q29 := by rw [hq30]; exact PoolOk.empty
 have hq30l : q29.ns.length = 0 := by rw [hq30]; rfl
 obtain ⟨L36, R37, B38, eL36, eR37, eB38⟩ : ∃ (l r b : Value), l = .slice none 0 0 ∧ r = .slice none 0 0 ∧ b = .slice none 0 0 := ⟨_, _, _, rfl, rfl, rfl⟩
 have hpk262 : Pk 57 3 G24 w25 p22 L36 R37 B38 mm23 q29 := by rw [eL36, eR37, eB38]; exact hpk26
 have hpin352 : PIn w (noS) p22 L36 R37 B38 mm23 := by rw [eL36, eR37, eB38]; exact hpin35
 have hml39 : (q29.ns.map Nd.l).length = q29.ns.length ∧ (q29.ns.map Nd.r).length = q29.ns.length := ⟨List.length_map .., List.length_map ..⟩
 have hml40 : q29.bs.length = q29.ns.length ∧ q29.ns.length ≤ 1048576 := ⟨hok31.ar.ok.len, hok31.ar.ok.lim⟩
 have hnp34x : NP p22 L36 R37 B38 mm23 (some b14) := by rw [eL36, eR37, eB38]; exact hnp34
 refine qd rfl rfl rfl (r_assign (v := (.pointer (some ⟨p22, 0, none⟩))) rfl) (qe (s_then (s_seq (c_reg ?_))))
 refine qd rfl rfl rfl (r_move (v := (.pointer (some ⟨p22, 0, none⟩))) rfl) (qd rfl rfl rfl (r_ldpA (cs := [(.int .i64 t), (.int .i64 z)]) ag50 sz50 rfl (fun j u hj => (Pins.of_le hX32.pins hx28.le) _ _ _ (hbp12 _ _ (by simpa using hj)))) (q1 rfl rfl rfl (o_call (vs := [(.pointer (some ⟨p22, 0, none⟩)), (.agg [(.int .i64 t), (.int .i64 z)].toArray)]) Tryz.func80 nm80 rfl rfl rfl ?_)))
 refine Calls.mono (numbered_spec hX32.pins hpk262 hok31 (by omega)) ?_
 rintro _ w49 ⟨z41, L44, R45, B46, q47, G48, rfl, hpk50, hok51, hpx52, hlo53, hx54, hnd42, hqn43⟩
 refine ⟨_, rfl, ?_⟩
 have hX55 := hX32.trans hx54 hpin352
 have hb56 := hb33.extS hx54 (NP.notb hnp34x)
 have hpin58 := PIn.call hpin352 hlo53 hX32.size
 have hql59 := hpx52.len
 have hml60 : (q47.ns.map Nd.l).length = q47.ns.length ∧ (q47.ns.map Nd.r).length = q47.ns.length := ⟨List.length_map .., List.length_map ..⟩
 have hml61 : q47.bs.length = q47.ns.length ∧ q47.ns.length ≤ 1048576 := ⟨hok51.ar.ok.len, hok51.ar.ok.lim⟩
 refine qd rfl rfl rfl (r_move (v := (.tuple #[(.int .i64 z41), (.bool (nmB t z))])) rfl) (qd rfl rfl rfl (r_extract (v := (.int .i64 z41)) rfl rfl) (qd rfl rfl rfl (r_extract (v := (.bool (nmB t z))) rfl rfl) (qd rfl rfl rfl (r_assign (v := (.int .i64 z41)) rfl) (qd rfl rfl rfl (r_assign (v := (.bool (nmB t z))) rfl) (qe (s_then (s_seq (s_seq (c_reg ?_)))))))))
 refine qd rfl rfl rfl (r_move (v := (.bool (nmB t z))) rfl) (qd rfl rfl rfl (r_not rfl) (qe (s_then ?_)))
 refine c_ifn rfl rfl (fun h62 => ?_) (fun h62 => ?_)
 refine wp_skip (s_then (s_seq (c_reg ?_)))
 refine qd rfl rfl rfl (r_move (v := (.pointer (some ⟨p22, 0, none⟩))) rfl) (qd rfl rfl rfl (r_move (v := (.int .i64 z41)) rfl) ?_)
 have hpp := hnd42 h62
 refine q1 rfl rfl rfl (o_call (vs := [(.pointer (some ⟨p22, 0, none⟩)), (.int .i64 z41)]) Tryz.func47 nm47 rfl rfl rfl ?_)
 refine Calls.mono (form_spec hX55.pins hpk50 hok51 hpp.1) ?_
 rintro _ w65 ⟨u63, G64, rfl, hd66, hx67⟩
 refine ⟨_, rfl, ?_⟩
 have hX68 := hX55.tr hx67
 have hb69 := hb56.ext hx67
 have hone71 := hd66.one
 refine qd rfl rfl rfl (r_extract (v := (.agg [u63].toArray)) rfl rfl) (qd rfl rfl rfl (r_extract (v := (.bool (fitB (pd q47 z41)))) rfl rfl) (q0 rfl rfl rfl (o_stp (cs' := [u63]) (us := [u63]) (v := (.agg [u63].toArray)) sz28 rfl rfl rfl (ones1 hone71) hX68.pins hb69 (Nat.le_of_ble_eq_true rfl) rfl (fun w72 hb73 hp74 hg75 hz76 => ?_))))
 have hX77 := hX68.write hp74 hg75 ((lo_box hlo21))
 have hd78 := hd66.kept hg75 (Or.inr hb56.lt)
 have hs79 := Nat.le_trans (Nat.le_refl w65.heap.size) hg75.size
 refine qd rfl rfl rfl (r_assign (v := (.bool (fitB (pd q47 z41)))) rfl) (qe (s_then ?_))
 refine wp_ret (s_ret (c_retct (cs := [u63]) (v := (.bool (fitB (pd q47 z41)))) rfl rfl rfl rfl rfl ag28 sz28 (fun j u hj => by rw [Nat.zero_add]; exact hb73.cell hj) ?_))
 have hnm := nm_num h62
 have e1 : nmF t z = frmG (dyG z.toNat t) := by unfold nmF frmG; rw [if_pos h62, if_pos hnm.2.2]
 rw [e1, h62, ← hpp.2]
 exact ⟨_, _, by rw [hpp.2, hnm.2.2], (hd78.wide hX55.size hs79), hX77⟩
 refine s_seq (c_reg ?_)
 refine qd rfl rfl rfl (r_build [(.slice none 0 0)] [(.slice none 0 0)] [] Tryz.underlying28 zr28 rfl pl28 rfl (fun _ h => by cases h) rfl) (q0 rfl rfl rfl (o_stp (cs' := [(.slice none 0 0)]) (us := [(.slice none 0 0)]) (v := (.agg [(.slice none 0 0)].toArray)) sz28 rfl rfl rfl (ones1 (by rfl)) hX55.pins hb56 (Nat.le_of_ble_eq_true rfl) rfl (fun w81 hb82 hp83 hg84 hz85 => ?_)))
 have hX86 := hX55.write hp83 hg84 ((lo_box hlo21))
 refine qd rfl rfl rfl (r_assign (v := (.bool false)) rfl) (qe (s_then ?_))
 refine wp_ret (s_ret (c_retct (cs := [(.slice none 0 0)]) (v := (.bool false)) rfl rfl rfl rfl rfl ag28 sz28 (fun j u hj => by rw [Nat.zero_add]; exact hb82.cell hj) ?_))
 have e1 : nmF t z = [] := by unfold nmF; rw [h62]; rfl
 rw [e1, h62]
 exact ⟨_, _, rfl, DForm.nil, hX86⟩

end NB3
end Go.Proofs.YtkfgdhanaijddaaGreatDoor

set_option maxRecDepth 20000
set_option maxHeartbeats 2000000
namespace Go.Proofs.YtkfgdhanaijddaaGreatDoor
namespace NB4
open Go.RowKit Go.GL Go.Proofs
open B1 C1 D1 E1 K1 PO1 PL1 PA1 SO1 OD1 FO1 NG1 NF1 NU1 NU2 NU3







theorem pl50 : (Tryz.prog.underlying 50).bind (placesD Tryz.prog) = some [(0, 1), (1, 1)] := by kernel_rfl



theorem l2Scaled_spec {w : World} {G : Pin} {t z : Int} (hP : Pins G w) (ht : -10000000 ≤ t ∧ t ≤ 10000000) (hz : 0 ≤ z ∧ z ≤ 24) :
  Calls Tryz.prog 186 [(.agg [(.int .i64 t), (.int .i64 z)].toArray)].toArray w fun e w' => ∃ G', e = .returned (.int .i64 (scI 24 t z)) ∧ Ext noS G w G' w' := by
 refine s_enter (n := 10) Tryz.func186 Tryz.ntmps186 rfl rfl ?_
 have hX0 : Ext noS G w G w := Ext.refl hP
 have hsl := shl_lim (t := t) (k := (24 - z).toNat) ht (by omega)
 refine s_seq (c_reg ?_)
 refine q1 rfl rfl rfl (o_box [(.int .i64 t), (.int .i64 z)] (v := (.agg [(.int .i64 t), (.int .i64 z)].toArray)) rfl rfl hX0.pins (fun b1 w2 hk3 hb4 hp5 hl6 => ?_))
 have hX7 := hX0.step hp5 hl6
 have hlo8 : w.heap.size ≤ b1 := by have := hX0.size; omega
 obtain ⟨G9, hle10, hX11, hbp12, hf13⟩ := hb4.shut hX7 hlo8
 refine qd rfl rfl rfl (r_assign (v := (.int .i64 0)) rfl) (qe (s_then (s_seq (c_reg ?_))))
 refine qd rfl rfl rfl (r_fldp (k := 0) rfl Tryz.underlying50 rfl nz3 rfl) (qd rfl rfl rfl (r_ldp1 (u := (.int .i64 t)) ag3 rfl (hX11.pins _ _ _ (hbp12 0 _ rfl))) (qd rfl rfl rfl (r_fldp (k := 1) rfl Tryz.underlying50 rfl nz3 rfl) (qd rfl rfl rfl (r_ldp1 (u := (.int .i64 z)) ag3 rfl (hX11.pins _ _ _ (hbp12 1 _ rfl))) (qd rfl rfl rfl (r_sub rfl rfl (by omega)) (qd rfl rfl rfl (r_conv (j := 24 - z) Tryz.underlying3 Tryz.underlying147 rfl (wrapU (by omega))) (qd rfl rfl rfl (r_shlI rfl rfl (by omega) (by omega)) (qd rfl rfl rfl (r_assign (v := (.int .i64 (t * 2 ^ (24 - z : Int).toNat))) rfl) (qe (s_then ?_)))))))))
 exact wp_ret (s_ret (c_ret1 (v := (.int .i64 (t * 2 ^ (24 - z : Int).toNat))) rfl rfl rfl (⟨_, rfl, hX11⟩)))

theorem l2Neg_spec {w : World} {G : Pin} {t z : Int} (hP : Pins G w) (ht : -1000000000000 ≤ t ∧ t ≤ 1000000000000) :
  Calls Tryz.prog 159 [(.agg [(.int .i64 t), (.int .i64 z)].toArray)].toArray w fun e w' => ∃ G', e = .returned (.agg [.int .i64 (-t), .int .i64 z].toArray) ∧ Ext noS G w G' w' := by
 refine s_enter (n := 9) Tryz.func159 Tryz.ntmps159 rfl rfl ?_
 have hX0 : Ext noS G w G w := Ext.refl hP
 refine s_seq (c_reg ?_)
 refine q1 rfl rfl rfl (o_box [(.int .i64 t), (.int .i64 z)] (v := (.agg [(.int .i64 t), (.int .i64 z)].toArray)) rfl rfl hX0.pins (fun b1 w2 hk3 hb4 hp5 hl6 => ?_))
 have hX7 := hX0.step hp5 hl6
 have hlo8 : w.heap.size ≤ b1 := by have := hX0.size; omega
 obtain ⟨G9, hle10, hX11, hbp12, hf13⟩ := hb4.shut hX7 hlo8
 refine q1 rfl rfl rfl (o_alloc [(.int .i64 0), (.int .i64 0)] zr50 rfl hX11.pins (fun b14 w15 hk16 hb17 hp18 hl19 => ?_))
 have hX20 := hX11.step hp18 hl19
 have hlo21 : w.heap.size ≤ b14 := by have := hX11.size; omega
 refine qe (s_then (s_seq (c_reg ?_)))
 refine qd rfl rfl rfl (r_fldp (k := 0) rfl Tryz.underlying50 rfl nz3 rfl) (qd rfl rfl rfl (r_ldp1 (u := (.int .i64 t)) ag3 rfl (hX20.pins _ _ _ (hbp12 0 _ rfl))) (qd rfl rfl rfl (r_neg rfl (by omega)) (qd rfl rfl rfl (r_fldp (k := 1) rfl Tryz.underlying50 rfl nz3 rfl) (qd rfl rfl rfl (r_ldp1 (u := (.int .i64 z)) ag3 rfl (hX20.pins _ _ _ (hbp12 1 _ rfl))) (qd rfl rfl rfl (r_build [(.int .i64 0), (.int .i64 0)] [(.int .i64 (-t)), (.int .i64 z)] [(0, (.int .i64 (-t)), [(.int .i64 (-t))]), (1, (.int .i64 z), [(.int .i64 z)])] Tryz.underlying50 zr50 rfl pl50 rfl (List.forall_mem_cons.2 ⟨rfl, (List.forall_mem_cons.2 ⟨rfl, (fun _ h => by cases h)⟩)⟩) rfl) (q0 rfl rfl rfl (o_stp (cs' := [(.int .i64 (-t)), (.int .i64 z)]) (us := [(.int .i64 (-t)), (.int .i64 z)]) (v := (.agg [(.int .i64 (-t)), (.int .i64 z)].toArray)) sz50 rfl rfl rfl (ones2 (by rfl) (by rfl)) hX20.pins hb17 (Nat.le_of_ble_eq_true rfl) rfl (fun w22 hb23 hp24 hg25 hz26 => ?_))))))))
 have hX27 := hX20.write hp24 hg25 ((lo_box hlo21))
 refine qe (s_then ?_)
 exact wp_ret (s_ret (c_retc (cs := [(.int .i64 (-t)), (.int .i64 z)]) rfl rfl rfl ag50 sz50 (fun j u hj => by rw [Nat.zero_add]; exact hb23.cell hj) (⟨_, rfl, hX27⟩)))

theorem l2Add_spec {w : World} {G : Pin} {t z s y : Int} (hP : Pins G w) (ht : -10000000 ≤ t ∧ t ≤ 10000000) (hz : 0 ≤ z ∧ z ≤ 24) (hs : -10000000 ≤ s ∧ s ≤ 10000000) (hy : 0 ≤ y ∧ y ≤ 24) :
  Calls Tryz.prog 158 [(.agg [(.int .i64 t), (.int .i64 z)].toArray), (.agg [(.int .i64 s), (.int .i64 y)].toArray)].toArray w fun e w' => ∃ G', e = .returned (.agg [.int .i64 (lowD 24 (scI 24 t z + scI 24 s y)).1, .int .i64 (((lowD 24 (scI 24 t z + scI 24 s y)).2 : Nat) : Int)].toArray) ∧ Ext noS G w G' w' := by
 refine s_enter (n := 11) Tryz.func158 Tryz.ntmps158 rfl rfl ?_
 have hX0 : Ext noS G w G w := Ext.refl hP
 have hl1 := scI_lim (D := 24) (t := t) (z := z) ht (by omega)
 have hl2 := scI_lim (D := 24) (t := s) (z := y) hs (by omega)
 refine s_seq (c_reg ?_)
 refine q1 rfl rfl rfl (o_box [(.int .i64 t), (.int .i64 z)] (v := (.agg [(.int .i64 t), (.int .i64 z)].toArray)) rfl rfl hX0.pins (fun b1 w2 hk3 hb4 hp5 hl6 => ?_))
 have hX7 := hX0.step hp5 hl6
 have hlo8 : w.heap.size ≤ b1 := by have := hX0.size; omega
 obtain ⟨G9, hle10, hX11, hbp12, hf13⟩ := hb4.shut hX7 hlo8
 refine q1 rfl rfl rfl (o_box [(.int .i64 s), (.int .i64 y)] (v := (.agg [(.int .i64 s), (.int .i64 y)].toArray)) rfl rfl hX11.pins (fun b14 w15 hk16 hb17 hp18 hl19 => ?_))
 have hX20 := hX11.step hp18 hl19
 have hlo21 : w.heap.size ≤ b14 := by have := hX11.size; omega
 obtain ⟨G22, hle23, hX24, hbp25, hf26⟩ := hb17.shut hX20 hlo21
 refine q1 rfl rfl rfl (o_alloc [(.int .i64 0), (.int .i64 0)] zr50 rfl hX24.pins (fun b27 w28 hk29 hb30 hp31 hl32 => ?_))
 have hX33 := hX24.step hp31 hl32
 have hlo34 : w.heap.size ≤ b27 := by have := hX24.size; omega
 refine qe (s_then (s_seq ?_))
 refine c_draw (S := fun wz => Pins G22 wz) (last := 6) (by kernel_rfl) rfl ?_
 have hl35 : Below w28.heap.size w28 w28.drew := (Below.refl _ _).drew
 have hp36 := hX33.pins.below hl35
 have hX37 := hX33.step hp36 hl35
 have hb38 := hb30.below hl35
 refine dr_take (i := 0) rfl rfl rfl (want_none rfl _) (by kernel_rfl) (fun _ hS => r_ldpA (cs := [(.int .i64 t), (.int .i64 z)]) ag50 sz50 rfl (fun j u hj => (Pins.of_le hS hle23) _ _ _ (hbp12 _ _ (by simpa using hj)))) hX37.pins (dr_take (i := 2) rfl rfl rfl (want_none rfl _) (by kernel_rfl) (fun _ hS => r_ldpA (cs := [(.int .i64 s), (.int .i64 y)]) ag50 sz50 rfl (fun j u hj => hS _ _ _ (hbp25 _ _ (by simpa using hj)))) hX37.pins (dr_one (i := 1) (by kernel_rfl) (drOp1 (i := 1) rfl rfl rfl (want_none rfl _) (o_call (vs := [(.agg [(.int .i64 t), (.int .i64 z)].toArray)]) Tryz.func186 nm186 rfl rfl rfl ?_))))
 refine Calls.mono (l2Scaled_spec (t := t) (z := z) hX37.pins (by omega) (by omega)) ?_
 rintro _ w40 ⟨G39, rfl, hx41⟩
 refine ⟨_, rfl, ?_⟩
 have hX42 := hX37.tr hx41
 have hb43 := hb38.ext hx41
 refine ⟨fun _ => (Pins.of_le hX42.pins hx41.le), ?_⟩
 refine dr_one (i := 3) (by kernel_rfl) (drOp1 (i := 3) rfl rfl rfl (want_none rfl _) (o_call (vs := [(.agg [(.int .i64 s), (.int .i64 y)].toArray)]) Tryz.func186 nm186 rfl rfl rfl ?_))
 refine Calls.mono (l2Scaled_spec (t := s) (z := y) hX42.pins (by omega) (by omega)) ?_
 rintro _ w45 ⟨G44, rfl, hx46⟩
 refine ⟨_, rfl, ?_⟩
 have hX47 := hX42.tr hx46
 have hb48 := hb43.ext hx46
 refine ⟨fun _ => (Pins.of_le hX47.pins (Pin.le_trans hx41.le hx46.le)), ?_⟩
 refine dr_take (i := 4) rfl rfl rfl (want_none rfl _) (by kernel_rfl) (fun _ _ => r_add rfl rfl (by omega)) (Pins.of_le hX47.pins (Pin.le_trans hx41.le hx46.le)) (dr_one (i := 5) (by kernel_rfl) (drOp1 (i := 5) rfl rfl rfl (want_none rfl _) (o_call (vs := [(.int .i64 ((scI 24 t z) + (scI 24 s y))), (.int .i64 24)]) Tryz.func155 nm155 rfl rfl rfl ?_)))
 refine Calls.mono (l2Make_spec (p := 24) hX47.pins (by omega) (by omega)) ?_
 rintro _ w50 ⟨G49, rfl, hx51⟩
 refine ⟨_, rfl, ?_⟩
 have hX52 := hX47.tr hx51
 have hb53 := hb48.ext hx51
 refine ⟨fun _ => (Pins.of_le hX52.pins (Pin.le_trans (Pin.le_trans hx41.le hx46.le) hx51.le)), ?_⟩
 refine dr_one (i := 6) (by kernel_rfl) (drOp0 (i := 6) rfl rfl rfl (want_none rfl _) (o_stp (cs' := [(.int .i64 ((lowD 24 ((scI 24 t z) + (scI 24 s y))).1)), (.int .i64 (((lowD 24 ((scI 24 t z) + (scI 24 s y))).2 : Nat) : Int))]) (us := [(.int .i64 ((lowD 24 ((scI 24 t z) + (scI 24 s y))).1)), (.int .i64 (((lowD 24 ((scI 24 t z) + (scI 24 s y))).2 : Nat) : Int))]) (v := (.agg [(.int .i64 ((lowD 24 ((scI 24 t z) + (scI 24 s y))).1)), (.int .i64 (((lowD 24 ((scI 24 t z) + (scI 24 s y))).2 : Nat) : Int))].toArray)) sz50 rfl rfl rfl (ones2 (by rfl) (by rfl)) hX52.pins hb53 (Nat.le_of_ble_eq_true rfl) rfl (fun w54 hb55 hp56 hg57 hz58 => ?_)))
 have hX59 := hX52.write hp56 hg57 ((lo_box hlo34))
 refine ⟨fun h => absurd rfl h, ?_⟩
 exact dr_end (by kernel_rfl) (s_then (wp_ret (s_ret (c_retc (cs := [(.int .i64 ((lowD 24 ((scI 24 t z) + (scI 24 s y))).1)), (.int .i64 (((lowD 24 ((scI 24 t z) + (scI 24 s y))).2 : Nat) : Int))]) rfl rfl rfl ag50 sz50 (fun j u hj => by rw [Nat.zero_add]; exact hb55.cell hj) (⟨_, rfl, hX59⟩)))))

theorem l2AddS_spec {w : World} {G : Pin} {t u s : Int} {p : Nat} (hP : Pins G w) (hs : t + u = s) (ht : -10000000 ≤ t ∧ t ≤ 10000000) (hu : -10000000 ≤ u ∧ u ≤ 10000000) (hp : p ≤ 24) :
  Calls Tryz.prog 158 [(.agg [.int .i64 t, .int .i64 (p : Int)].toArray), (.agg [.int .i64 u, .int .i64 (p : Int)].toArray)].toArray w fun e w' => ∃ G', e = .returned (.agg [.int .i64 (lowD p s).1, .int .i64 (((lowD p s).2 : Nat) : Int)].toArray) ∧ Ext noS G w G' w' := by
 refine (l2Add_spec (t := t) (s := u) (z := (p : Int)) (y := (p : Int)) hP ht (by omega) hu (by omega)).mono ?_
 rintro e w' ⟨G', rfl, hx⟩
 exact ⟨G', by rw [low_add24 hp, hs], hx⟩

theorem l2Floor_spec {w : World} {G : Pin} {t z : Int} (hP : Pins G w) (ht : -10000000 ≤ t ∧ t ≤ 10000000) (hz : 0 ≤ z ∧ z ≤ 24) :
  Calls Tryz.prog 157 [(.agg [(.int .i64 t), (.int .i64 z)].toArray)].toArray w fun e w' => ∃ G', e = .returned (.int .i64 (Int.fdiv (scI 24 t z) (2 ^ (min (24 : Int).toNat 64)))) ∧ Ext noS G w G' w' := by
 refine s_enter (n := 6) Tryz.func157 Tryz.ntmps157 rfl rfl ?_
 have hX0 : Ext noS G w G w := Ext.refl hP
 refine s_seq (c_reg ?_)
 refine q1 rfl rfl rfl (o_box [(.int .i64 t), (.int .i64 z)] (v := (.agg [(.int .i64 t), (.int .i64 z)].toArray)) rfl rfl hX0.pins (fun b1 w2 hk3 hb4 hp5 hl6 => ?_))
 have hX7 := hX0.step hp5 hl6
 have hlo8 : w.heap.size ≤ b1 := by have := hX0.size; omega
 obtain ⟨G9, hle10, hX11, hbp12, hf13⟩ := hb4.shut hX7 hlo8
 refine qd rfl rfl rfl (r_assign (v := (.int .i64 0)) rfl) (qe (s_then (s_seq (c_reg ?_))))
 refine qd rfl rfl rfl (r_ldpA (cs := [(.int .i64 t), (.int .i64 z)]) ag50 sz50 rfl (fun j u hj => hX11.pins _ _ _ (hbp12 _ _ (by simpa using hj)))) (q1 rfl rfl rfl (o_call (vs := [(.agg [(.int .i64 t), (.int .i64 z)].toArray)]) Tryz.func186 nm186 rfl rfl rfl ?_))
 refine Calls.mono (l2Scaled_spec (t := t) (z := z) hX11.pins (by omega) (by omega)) ?_
 rintro _ w15 ⟨G14, rfl, hx16⟩
 refine ⟨_, rfl, ?_⟩
 have hX17 := hX11.tr hx16
 refine qd rfl rfl rfl (r_shrI rfl rfl (by omega)) (qd rfl rfl rfl (r_assign (v := (.int .i64 (Int.fdiv (scI 24 t z) (2 ^ (min (24 : Int).toNat 64))))) rfl) (qe (s_then ?_)))
 exact wp_ret (s_ret (c_ret1 (v := (.int .i64 (Int.fdiv (scI 24 t z) (2 ^ (min (24 : Int).toNat 64))))) rfl rfl rfl (⟨_, rfl, hX17⟩)))

theorem l2FloorP_spec {w : World} {G : Pin} {t : Int} {p : Nat} (hP : Pins G w) (ht : 0 ≤ t ∧ t ≤ 10000000) (hp : p ≤ 24) :
  Calls Tryz.prog 157 [(.agg [.int .i64 t, .int .i64 (p : Int)].toArray)].toArray w fun e w' => ∃ G', e = .returned (.int .i64 ((t.natAbs / 2 ^ p : Nat) : Int)) ∧ Ext noS G w G' w' := by
 refine (l2Floor_spec (t := t) (z := (p : Int)) hP (by omega) (by omega)).mono ?_
 rintro e w' ⟨G', rfl, hx⟩
 exact ⟨G', by rw [floor_nat ht.1 hp], hx⟩

theorem l2Born_spec {w : World} {G : Pin} {t : Int} {dp : Nat} (hP : Pins G w) (ht : -10000000 ≤ t ∧ t ≤ 10000000) (hd : dp ≤ 16) :
  Calls Tryz.prog 130 [(.agg [(.int .i64 t), (.int .i64 (dp : Int))].toArray)].toArray w fun e w' => ∃ G', e = .returned (.int .i64 ((bornD dp t : Nat) : Int)) ∧ Ext noS G w G' w' := by
 refine s_enter (n := 21) Tryz.func130 Tryz.ntmps130 rfl rfl ?_
 have hX0 : Ext noS G w G w := Ext.refl hP
 refine s_seq (c_reg ?_)
 refine q1 rfl rfl rfl (o_box [(.int .i64 t), (.int .i64 (dp : Int))] (v := (.agg [(.int .i64 t), (.int .i64 (dp : Int))].toArray)) rfl rfl hX0.pins (fun b1 w2 hk3 hb4 hp5 hl6 => ?_))
 have hX7 := hX0.step hp5 hl6
 have hlo8 : w.heap.size ≤ b1 := by have := hX0.size; omega
 refine qd rfl rfl rfl (r_assign (v := (.int .i64 0)) rfl) (qe (s_then (s_seq (s_seq (c_reg ?_)))))
 refine qd rfl rfl rfl (r_fldp (k := 0) rfl Tryz.underlying50 rfl nz3 rfl) (qd rfl rfl rfl (r_ldp1 (u := (.int .i64 t)) ag3 rfl (hb4.cell (o := 0) rfl)) (qd rfl rfl rfl (r_lss rfl rfl) (qe (s_then ?_))))
 refine c_ifd (p := (t : Int) < 0) rfl rfl (fun h9 => ?_) (fun h9 => ?_)
 refine c_reg (qd rfl rfl rfl (r_fldp (k := 0) rfl Tryz.underlying50 rfl nz3 rfl) (qd rfl rfl rfl (r_ldp1 (u := (.int .i64 t)) ag3 rfl (hb4.cell (o := 0) rfl)) (qd rfl rfl rfl (r_neg rfl (by omega)) (qd rfl rfl rfl (r_fldp (k := 0) rfl Tryz.underlying50 rfl nz3 rfl) (q0 rfl rfl rfl (o_stp (cs' := [(.int .i64 (-t)), (.int .i64 (dp : Int))]) (us := [(.int .i64 (-t))]) (v := (.int .i64 (-t))) sz3 rfl rfl rfl (ones1 (by rfl)) hX7.pins hb4 (Nat.le_of_ble_eq_true rfl) rfl (fun w10 hb11 hp12 hg13 hz14 => ?_)))))))
 have hX15 := hX7.write hp12 hg13 ((lo_box hlo8))
 refine qe (s_then (s_seq (s_seq (c_reg ?_))))
 refine qd rfl rfl rfl (r_fldp (k := 1) rfl Tryz.underlying50 rfl nz3 rfl) (qd rfl rfl rfl (r_ldp1 (u := (.int .i64 (dp : Int))) ag3 rfl (hb11.cell (o := 1) rfl)) (qd rfl rfl rfl (r_eql rfl rfl) (qe (s_then ?_))))
 refine c_ifd (p := ((dp : Int) : Int) = 0) rfl rfl (fun h16 => ?_) (fun h16 => ?_)
 refine s_seq (c_reg ?_)
 refine qd rfl rfl rfl (r_fldp (k := 0) rfl Tryz.underlying50 rfl nz3 rfl) (qd rfl rfl rfl (r_ldp1 (u := (.int .i64 (-t))) ag3 rfl (hb11.cell (o := 0) rfl)) (qd rfl rfl rfl (r_assign (v := (.int .i64 (-t))) rfl) (qe (s_then ?_))))
 exact wp_ret (s_ret (c_ret1 (v := (.int .i64 (-t))) rfl rfl rfl (⟨_, congrArg (fun z => Ending.returned (Value.int .i64 z)) (by first | (rw [show dp = 0 by omega]; show _ = ((t.natAbs : Nat) : Int); omega) | (rw [show bornD dp t = t.natAbs / 2 ^ dp + dp + 1 from if_neg (by omega)]; (try rw [Int.natAbs_neg]); omega)), hX15⟩)))
 refine wp_skip (s_then (s_seq ?_))
 refine c_draw (S := fun wz => BxR wz b1 [(.int .i64 (-t)), (.int .i64 (dp : Int))]) (last := 7) (by kernel_rfl) rfl ?_
 have hl17 : Below w10.heap.size w10 w10.drew := (Below.refl _ _).drew
 have hp18 := hX15.pins.below hl17
 have hX19 := hX15.step hp18 hl17
 have hb20 := hb11.below hl17
 refine dr_take (i := 0) rfl rfl rfl (want_none rfl _) (by kernel_rfl) (fun _ hS => r_ldpA (cs := [(.int .i64 (-t)), (.int .i64 (dp : Int))]) ag50 sz50 rfl (fun j u hj => hS _ _ (by simpa using hj))) hb20.reads (dr_take (i := 2) rfl rfl rfl (want_none rfl _) (by kernel_rfl) (fun _ _ => r_fldp (k := 1) rfl Tryz.underlying50 rfl nz3 rfl) hb20.reads (dr_take (i := 3) rfl rfl rfl (want_none rfl _) (by kernel_rfl) (fun _ hS => r_ldp1 (u := (.int .i64 (dp : Int))) ag3 rfl (hS 1 _ rfl)) hb20.reads ?_))
 have hfn24 : 0 ≤ (((-t).natAbs / 2 ^ dp : Nat) : Int) := Int.natCast_nonneg _
 have hfb25 := Nat.div_le_self (-t).natAbs (2 ^ dp)
 refine dr_one (i := 1) (by kernel_rfl) (drOp1 (i := 1) rfl rfl rfl (want_none rfl _) (o_call (vs := [(.agg [(.int .i64 (-t)), (.int .i64 (dp : Int))].toArray)]) Tryz.func157 nm157 rfl rfl rfl ?_))
 refine Calls.mono (l2FloorP_spec (t := -t) (p := dp) hX19.pins (by omega) (by omega)) ?_
 rintro _ w22 ⟨G21, rfl, hx23⟩
 refine ⟨_, rfl, ?_⟩
 have hX26 := hX19.tr hx23
 have hb27 := hb20.ext hx23
 refine ⟨fun _ => hb27.reads, ?_⟩
 exact dr_take (i := 4) rfl rfl rfl (want_none rfl _) (by kernel_rfl) (fun _ _ => r_add rfl rfl (by omega)) hb27.reads (dr_take (i := 5) rfl rfl rfl (want_none rfl _) (by kernel_rfl) (fun _ _ => r_add rfl rfl (by omega)) hb27.reads (dr_take (i := 6) rfl rfl rfl (want_none rfl _) (by kernel_rfl) (fun _ _ => r_assign (v := (.int .i64 (((((-t).natAbs / 2 ^ dp : Nat) : Int) + (dp : Int)) + 1))) rfl) hb27.reads (dr_end (by kernel_rfl) (s_then (wp_ret (s_ret (c_ret1 (v := (.int .i64 (((((-t).natAbs / 2 ^ dp : Nat) : Int) + (dp : Int)) + 1))) rfl rfl rfl (⟨_, congrArg (fun z => Ending.returned (Value.int .i64 z)) (by first | (rw [show dp = 0 by omega]; show _ = ((t.natAbs : Nat) : Int); omega) | (rw [show bornD dp t = t.natAbs / 2 ^ dp + dp + 1 from if_neg (by omega)]; (try rw [Int.natAbs_neg]); omega)), hX26⟩))))))))
 refine wp_skip (s_then (s_seq (s_seq (c_reg ?_))))
 refine qd rfl rfl rfl (r_fldp (k := 1) rfl Tryz.underlying50 rfl nz3 rfl) (qd rfl rfl rfl (r_ldp1 (u := (.int .i64 (dp : Int))) ag3 rfl (hb4.cell (o := 1) rfl)) (qd rfl rfl rfl (r_eql rfl rfl) (qe (s_then ?_))))
 refine c_ifd (p := ((dp : Int) : Int) = 0) rfl rfl (fun h28 => ?_) (fun h28 => ?_)
 refine s_seq (c_reg ?_)
 refine qd rfl rfl rfl (r_fldp (k := 0) rfl Tryz.underlying50 rfl nz3 rfl) (qd rfl rfl rfl (r_ldp1 (u := (.int .i64 t)) ag3 rfl (hb4.cell (o := 0) rfl)) (qd rfl rfl rfl (r_assign (v := (.int .i64 t)) rfl) (qe (s_then ?_))))
 exact wp_ret (s_ret (c_ret1 (v := (.int .i64 t)) rfl rfl rfl (⟨_, congrArg (fun z => Ending.returned (Value.int .i64 z)) (by first | (rw [show dp = 0 by omega]; show _ = ((t.natAbs : Nat) : Int); omega) | (rw [show bornD dp t = t.natAbs / 2 ^ dp + dp + 1 from if_neg (by omega)]; (try rw [Int.natAbs_neg]); omega)), hX7⟩)))
 refine wp_skip (s_then (s_seq ?_))
 refine c_draw (S := fun wz => BxR wz b1 [(.int .i64 t), (.int .i64 (dp : Int))]) (last := 7) (by kernel_rfl) rfl ?_
 have hl29 : Below w2.heap.size w2 w2.drew := (Below.refl _ _).drew
 have hp30 := hX7.pins.below hl29
 have hX31 := hX7.step hp30 hl29
 have hb32 := hb4.below hl29
 refine dr_take (i := 0) rfl rfl rfl (want_none rfl _) (by kernel_rfl) (fun _ hS => r_ldpA (cs := [(.int .i64 t), (.int .i64 (dp : Int))]) ag50 sz50 rfl (fun j u hj => hS _ _ (by simpa using hj))) hb32.reads (dr_take (i := 2) rfl rfl rfl (want_none rfl _) (by kernel_rfl) (fun _ _ => r_fldp (k := 1) rfl Tryz.underlying50 rfl nz3 rfl) hb32.reads (dr_take (i := 3) rfl rfl rfl (want_none rfl _) (by kernel_rfl) (fun _ hS => r_ldp1 (u := (.int .i64 (dp : Int))) ag3 rfl (hS 1 _ rfl)) hb32.reads ?_))
 have hfn36 : 0 ≤ ((t.natAbs / 2 ^ dp : Nat) : Int) := Int.natCast_nonneg _
 have hfb37 := Nat.div_le_self t.natAbs (2 ^ dp)
 refine dr_one (i := 1) (by kernel_rfl) (drOp1 (i := 1) rfl rfl rfl (want_none rfl _) (o_call (vs := [(.agg [(.int .i64 t), (.int .i64 (dp : Int))].toArray)]) Tryz.func157 nm157 rfl rfl rfl ?_))
 refine Calls.mono (l2FloorP_spec (t := t) (p := dp) hX31.pins (by omega) (by omega)) ?_
 rintro _ w34 ⟨G33, rfl, hx35⟩
 refine ⟨_, rfl, ?_⟩
 have hX38 := hX31.tr hx35
 have hb39 := hb32.ext hx35
 refine ⟨fun _ => hb39.reads, ?_⟩
 exact dr_take (i := 4) rfl rfl rfl (want_none rfl _) (by kernel_rfl) (fun _ _ => r_add rfl rfl (by omega)) hb39.reads (dr_take (i := 5) rfl rfl rfl (want_none rfl _) (by kernel_rfl) (fun _ _ => r_add rfl rfl (by omega)) hb39.reads (dr_take (i := 6) rfl rfl rfl (want_none rfl _) (by kernel_rfl) (fun _ _ => r_assign (v := (.int .i64 ((((t.natAbs / 2 ^ dp : Nat) : Int) + (dp : Int)) + 1))) rfl) hb39.reads (dr_end (by kernel_rfl) (s_then (wp_ret (s_ret (c_ret1 (v := (.int .i64 ((((t.natAbs / 2 ^ dp : Nat) : Int) + (dp : Int)) + 1))) rfl rfl rfl (⟨_, congrArg (fun z => Ending.returned (Value.int .i64 z)) (by first | (rw [show dp = 0 by omega]; show _ = ((t.natAbs : Nat) : Int); omega) | (rw [show bornD dp t = t.natAbs / 2 ^ dp + dp + 1 from if_neg (by omega)]; (try rw [Int.natAbs_neg]); omega)), hX38⟩))))))))

theorem l2Good_spec {w : World} {G : Pin} {t z : Int} (hP : Pins G w) :
  Calls Tryz.prog 81 [(.agg [(.int .i64 t), (.int .i64 z)].toArray)].toArray w fun e w' => ∃ G', e = .returned (.bool (decP (GoodD t z))) ∧ Ext noS G w G' w' := by
 refine s_enter (n := 22) Tryz.func81 Tryz.ntmps81 rfl rfl ?_
 have hX0 : Ext noS G w G w := Ext.refl hP
 refine s_seq (c_reg ?_)
 refine q1 rfl rfl rfl (o_box [(.int .i64 t), (.int .i64 z)] (v := (.agg [(.int .i64 t), (.int .i64 z)].toArray)) rfl rfl hX0.pins (fun b1 w2 hk3 hb4 hp5 hl6 => ?_))
 have hX7 := hX0.step hp5 hl6
 have hlo8 : w.heap.size ≤ b1 := by have := hX0.size; omega
 obtain ⟨G9, hle10, hX11, hbp12, hf13⟩ := hb4.shut hX7 hlo8
 refine qd rfl rfl rfl (r_assign (v := (.bool false)) rfl) (qe (s_then (s_seq (c_reg ?_))))
 refine qd rfl rfl rfl (r_fldp (k := 0) rfl Tryz.underlying50 rfl nz3 rfl) (qd rfl rfl rfl (r_ldp1 (u := (.int .i64 t)) ag3 rfl (hX11.pins _ _ _ (hbp12 0 _ rfl))) (q1 rfl rfl rfl (o_call (vs := [(.int .i64 t), (.int .i64 (-1000000)), (.int .i64 1000000)]) Tryz.func60 nm60 rfl rfl rfl ?_)))
 refine Calls.mono (l1In_spec hX11.pins) ?_
 rintro _ _ ⟨rfl, rfl⟩
 refine ⟨_, rfl, ?_⟩
 refine qd rfl rfl rfl (r_move (v := (.bool (decide (((-1000000) : Int) ≤ t ∧ (t : Int) ≤ 1000000)))) rfl) (qbd (p := (((-1000000) : Int) ≤ t ∧ (t : Int) ≤ 1000000)) (t := 6) rfl (fun h14 => ?_) (fun h14 => ?_))
 refine qdg rfl rfl rfl rfl rfl rfl (r_fldp (k := 1) rfl Tryz.underlying50 rfl nz3 rfl) (qdg rfl rfl rfl rfl rfl rfl (r_ldp1 (u := (.int .i64 z)) ag3 rfl (hX11.pins _ _ _ (hbp12 1 _ rfl))) (q1g rfl rfl rfl rfl rfl rfl (o_call (vs := [(.int .i64 z), (.int .i64 0), (.int .i64 16)]) Tryz.func60 nm60 rfl rfl rfl ?_)))
 refine Calls.mono (l1In_spec hX11.pins) ?_
 rintro _ _ ⟨rfl, rfl⟩
 refine ⟨_, rfl, ?_⟩
 refine qd rfl rfl rfl (r_pickT (v := (.bool (decide ((0 : Int) ≤ z ∧ (z : Int) ≤ 16)))) rfl rfl) (qd rfl rfl rfl (r_move (v := (.bool (decide ((0 : Int) ≤ z ∧ (z : Int) ≤ 16)))) rfl) (qbd (p := ((0 : Int) ≤ z ∧ (z : Int) ≤ 16)) (t := 11) rfl (fun h15 => ?_) (fun h15 => ?_)))
 refine qdg rfl rfl rfl rfl rfl rfl (r_fldp (k := 1) rfl Tryz.underlying50 rfl nz3 rfl) (qdg rfl rfl rfl rfl rfl rfl (r_ldp1 (u := (.int .i64 z)) ag3 rfl (hX11.pins _ _ _ (hbp12 1 _ rfl))) (qdg rfl rfl rfl rfl rfl rfl (r_eql rfl rfl) (qdg rfl rfl rfl rfl rfl rfl (r_move (v := (.bool (decide ((z : Int) = 0)))) rfl) (qbd (p := (z : Int) = 0) (t := 15) rfl (fun h16 => ?_) (fun h16 => ?_)))))
 refine qs rfl rfl rfl rfl rfl rfl (qs rfl rfl rfl rfl rfl rfl (qs rfl rfl rfl rfl rfl rfl (qs rfl rfl rfl rfl rfl rfl (qdg rfl rfl rfl rfl rfl rfl (r_pickT (v := (.bool true)) rfl rfl) (qd rfl rfl rfl (r_pickT (v := (.bool true)) rfl rfl) (qd rfl rfl rfl (r_assign (v := (.bool true)) rfl) (qe (s_then ?_))))))))
 exact wp_ret (s_ret (c_ret1 (v := (.bool true)) rfl rfl rfl (⟨_, congrArg (fun z => Ending.returned (Value.bool z)) (decP_true.2 ⟨by omega, by omega, by omega⟩).symm, hX11⟩)))
 refine qdg rfl rfl rfl rfl rfl rfl (r_fldp (k := 0) rfl Tryz.underlying50 rfl nz3 rfl) (qdg rfl rfl rfl rfl rfl rfl (r_ldp1 (u := (.int .i64 t)) ag3 rfl (hX11.pins _ _ _ (hbp12 0 _ rfl))) (qdg rfl rfl rfl rfl rfl rfl (r_rem2 rfl rfl) (qdg rfl rfl rfl rfl rfl rfl (r_neq rfl rfl) (qdg rfl rfl rfl rfl rfl rfl (r_pickF (v := (.bool (decide ((t.tmod 2 : Int) ≠ 0)))) rfl rfl) (qd rfl rfl rfl (r_pickT (v := (.bool (decide ((t.tmod 2 : Int) ≠ 0)))) rfl rfl) (qd rfl rfl rfl (r_assign (v := (.bool (decide ((t.tmod 2 : Int) ≠ 0)))) rfl) (qe (s_then ?_))))))))
 exact wp_ret (s_ret (c_ret1 (v := (.bool (decide ((t.tmod 2 : Int) ≠ 0)))) rfl rfl rfl (⟨_, congrArg (fun z => Ending.returned (Value.bool z)) (decP_dec.symm.trans (decP_iff ⟨fun h => ⟨by omega, by omega, by omega⟩, fun g => by have h1 := g.top; have h2 := g.pow; have h3 := g.odd; omega⟩)), hX11⟩)))
 refine qs rfl rfl rfl rfl rfl rfl (qs rfl rfl rfl rfl rfl rfl (qs rfl rfl rfl rfl rfl rfl (qs rfl rfl rfl rfl rfl rfl (qsu rfl rfl rfl rfl rfl (qsu rfl rfl rfl rfl rfl (qsu rfl rfl rfl rfl rfl (qsu rfl rfl rfl rfl rfl (qs rfl rfl rfl rfl rfl rfl (qd rfl rfl rfl (r_pickF (v := (.bool false)) rfl rfl) (qd rfl rfl rfl (r_assign (v := (.bool false)) rfl) (qe (s_then ?_))))))))))))
 exact wp_ret (s_ret (c_ret1 (v := (.bool false)) rfl rfl rfl (⟨_, congrArg (fun z => Ending.returned (Value.bool z)) (decP_false.2 (fun g => by have h1 := g.top; have h2 := g.pow; have h3 := g.odd; omega)).symm, hX11⟩)))
 refine qs rfl rfl rfl rfl rfl rfl (qs rfl rfl rfl rfl rfl rfl (qs rfl rfl rfl rfl rfl rfl (qd rfl rfl rfl (r_pickF (v := (.bool false)) rfl rfl) (qd rfl rfl rfl (r_move (v := (.bool false)) rfl) (qs rfl rfl rfl rfl rfl rfl (qs rfl rfl rfl rfl rfl rfl (qs rfl rfl rfl rfl rfl rfl (qs rfl rfl rfl rfl rfl rfl (qsu rfl rfl rfl rfl rfl (qsu rfl rfl rfl rfl rfl (qsu rfl rfl rfl rfl rfl (qsu rfl rfl rfl rfl rfl (qs rfl rfl rfl rfl rfl rfl (qd rfl rfl rfl (r_pickF (v := (.bool false)) rfl rfl) (qd rfl rfl rfl (r_assign (v := (.bool false)) rfl) (qe (s_then ?_)))))))))))))))))
 exact wp_ret (s_ret (c_ret1 (v := (.bool false)) rfl rfl rfl (⟨_, congrArg (fun z => Ending.returned (Value.bool z)) (decP_false.2 (fun g => by have h1 := g.top; have h2 := g.pow; have h3 := g.odd; omega)).symm, hX11⟩)))

end NB4
end Go.Proofs.YtkfgdhanaijddaaGreatDoor

set_option maxRecDepth 20000
set_option maxHeartbeats 2000000
namespace Go.Proofs.YtkfgdhanaijddaaGreatDoor
namespace NB5
open Go.RowKit Go.GL Go.Proofs
open B1 C1 D1 E1 K1 PO1 PL1 PA1 SO1 OD1 FO1 NG1 NF1 NU1 NU2 NU3 NB4







theorem pl50 : (Tryz.prog.underlying 50).bind (placesD Tryz.prog) = some [(0, 1), (1, 1)] := by kernel_rfl




def PutP (m : Nat) : Prop := ∀ {w : World} {G : Pin} {b : Nat} {bu bv : Value} {ns : List Nd} {bs : List Int} {t : Int} {dp : Nat} (_ : Pins G w) (_ : Bk 68 3 G w b bu bv ns bs) (_ : PoolOk (bkq ns bs)) (_ : NumOk dp t) (_ : ns.length + cntD dp t ≤ 1048575), muD dp t < m → Calls Tryz.prog 131 [(.pointer (some ⟨b, 0, none⟩)), (.agg [.int .i64 t, .int .i64 (dp : Int)].toArray)].toArray w fun e w' => ∃ (z : Int) (u' v' : Value) (ns' : List Nd) (bs' : List Int) (G' : Pin), e = .returned (.int .i64 z) ∧ Bk 68 3 G' w' b u' v' ns' bs' ∧ Ext (inS b bu bv) G w G' w' ∧ Lo w (inS b bu bv) u'.ownBlock ∧ Lo w (inS b bu bv) v'.ownBlock ∧ PoolOk (bkq ns' bs') ∧ PX (bkq ns bs) (bkq ns' bs') ∧ PlaceOk (bkq ns' bs') z ∧ pd (bkq ns' bs') z = dyG dp t ∧ ns'.length ≤ ns.length + cntD dp t

theorem l7Put_step {w : World} {G : Pin} {b : Nat} {bu bv : Value} {ns : List Nd} {bs : List Int} {t : Int} {dp : Nat} (hP : Pins G w) (hB : Bk 68 3 G w b bu bv ns bs) (hokp : PoolOk (bkq ns bs)) (hn : NumOk dp t) (hl : ns.length + cntD dp t ≤ 1048575) {m : Nat} (ih : PutP m) (hm : muD dp t < m + 1) :
  Calls Tryz.prog 131 [(.pointer (some ⟨b, 0, none⟩)), (.agg [(.int .i64 t), (.int .i64 (dp : Int))].toArray)].toArray w fun e w' => ∃ (z : Int) (u' v' : Value) (ns' : List Nd) (bs' : List Int) (G' : Pin), e = .returned (.int .i64 z) ∧ Bk 68 3 G' w' b u' v' ns' bs' ∧ Ext (inS b bu bv) G w G' w' ∧ Lo w (inS b bu bv) u'.ownBlock ∧ Lo w (inS b bu bv) v'.ownBlock ∧ PoolOk (bkq ns' bs') ∧ PX (bkq ns bs) (bkq ns' bs') ∧ PlaceOk (bkq ns' bs') z ∧ pd (bkq ns' bs') z = dyG dp t ∧ ns'.length ≤ ns.length + cntD dp t := by
 refine s_enter (n := 59) Tryz.func131 Tryz.ntmps131 rfl rfl ?_
 have hX0 : Ext (inS b bu bv) G w G w := Ext.refl hP
 have hok := hokp.ar.ok
 have htp := hn.top
 have hpw := hn.pow
 have hod := hn.odd
 have hbx := hB.bx
 have hou := hB.ou
 have hov := hB.ov
 have habu := hB.abu
 have habv := hB.abv
 have hauv := hB.auv
 have hlob : Lo w (inS b bu bv) (some b) := lo_b
 have hlou : Lo w (inS b bu bv) bu.ownBlock := lo_u
 have hlov : Lo w (inS b bu bv) bv.ownBlock := lo_v
 have hlen := hok.len
 have hlim := hok.lim
 refine s_seq (c_reg ?_)
 refine q1 rfl rfl rfl (o_box [(.int .i64 t), (.int .i64 (dp : Int))] (v := (.agg [(.int .i64 t), (.int .i64 (dp : Int))].toArray)) rfl rfl hX0.pins (fun b1 w2 hk3 hb4 hp5 hl6 => ?_))
 have hX7 := hX0.step hp5 hl6
 have ho8 := hou.below hl6
 have ho9 := hov.below hl6
 have hb10 := hbx.below hl6
 have ha11 : Apart (some b1) bu.ownBlock := new_ne_own (congrArg some hk3) hou.lt
 have ha12 : Apart (some b1) bv.ownBlock := new_ne_own (congrArg some hk3) hov.lt
 have ha13 : Apart (some b1) (some b) := new_ne_box (congrArg some hk3) hbx.lt
 have hlo14 : w.heap.size ≤ b1 := by have := hX0.size; omega
 obtain ⟨G15, hle16, hX17, hbp18, hf19⟩ := hb4.shut hX7 hlo14
 have ho20 := ho8.moreA hle16 hf19 ha11.symm
 have ho21 := ho9.moreA hle16 hf19 ha12.symm
 have hb22 := hb10.moreA hf19 ha13.symm
 refine qd rfl rfl rfl (r_assign (v := (.int .i64 0)) rfl) (qe (s_then (s_seq (c_reg ?_))))
 refine qd rfl rfl rfl (r_fldp (k := 1) rfl Tryz.underlying50 rfl nz3 rfl) (qd rfl rfl rfl (r_ldp1 (u := (.int .i64 (dp : Int))) ag3 rfl (hX17.pins _ _ _ (hbp18 1 _ rfl))) (qd rfl rfl rfl (r_build [(.int .i64 0), (.int .i64 0)] [(.int .i64 1), (.int .i64 (dp : Int))] [(0, (.int .i64 1), [(.int .i64 1)]), (1, (.int .i64 (dp : Int)), [(.int .i64 (dp : Int))])] Tryz.underlying50 zr50 rfl pl50 rfl (List.forall_mem_cons.2 ⟨rfl, (List.forall_mem_cons.2 ⟨rfl, (fun _ h => by cases h)⟩)⟩) rfl) (q1 rfl rfl rfl (o_alloc [(.int .i64 0), (.int .i64 0)] zr50 rfl hX17.pins (fun b23 w24 hk25 hb26 hp27 hl28 => ?_)))))
 have hX29 := hX17.step hp27 hl28
 have ho30 := ho20.below hl28
 have ho31 := ho21.below hl28
 have hb32 := hb22.below hl28
 have ha33 : Apart (some b23) bu.ownBlock := new_ne_own (congrArg some hk25) ho20.lt
 have ha34 : Apart (some b23) bv.ownBlock := new_ne_own (congrArg some hk25) ho21.lt
 have ha35 : Apart (some b23) (some b) := new_ne_box (congrArg some hk25) hb22.lt
 have hlo36 : w.heap.size ≤ b23 := by have := hX17.size; omega
 refine q0 rfl rfl rfl (o_stp (cs' := [(.int .i64 1), (.int .i64 (dp : Int))]) (us := [(.int .i64 1), (.int .i64 (dp : Int))]) (v := (.agg [(.int .i64 1), (.int .i64 (dp : Int))].toArray)) sz50 rfl rfl rfl (ones2 (by rfl) (by rfl)) hX29.pins hb26 (Nat.le_of_ble_eq_true rfl) rfl (fun w37 hb38 hp39 hg40 hz41 => ?_))
 have hX42 := hX29.write hp39 hg40 ((lo_box hlo36))
 have ho43 := ho30.keptA hg40 ha33.symm
 have ho44 := ho31.keptA hg40 ha34.symm
 have hb45 := hb32.keptA hg40 ha35.symm
 obtain ⟨G46, hle47, hX48, hbp49, hf50⟩ := hb38.shut hX42 hlo36
 have ho51 := ho43.moreA hle47 hf50 ha33.symm
 have ho52 := ho44.moreA hle47 hf50 ha34.symm
 have hb53 := hb45.moreA hf50 ha35.symm
 refine qe (s_then (s_seq ?_))
 refine s_blk (s_seq (c_reg ?_))
 refine qd rfl rfl rfl (r_fldp (k := 0) rfl Tryz.underlying50 rfl nz3 rfl) (qd rfl rfl rfl (r_ldp1 (u := (.int .i64 t)) ag3 rfl ((Pins.of_le hX48.pins hle47) _ _ _ (hbp18 0 _ rfl))) (qd rfl rfl rfl (r_eql rfl rfl) (qd rfl rfl rfl (r_assign (v := (.bool (decide ((t : Int) = 0)))) rfl) (qe (s_then ?_)))))
 refine c_ifd (p := (t : Int) = 0) rfl rfl (fun h54 => ?_) (fun h54 => ?_)
 refine s_seq (c_reg ?_)
 refine qd rfl rfl rfl (r_move (v := (.pointer (some ⟨b, 0, none⟩))) rfl) ?_
 have hpt := bk_put (xs := []) (ys := []) hokp (by omega) ⟨by simp, by simp⟩ (fun z hz => absurd hz (by simp)) (fun z hz => absurd hz (by simp))
 have hng55 := hpt.pd.trans (show _ = mkG [] [] from rfl)
 refine q1 rfl rfl rfl (o_call (vs := [(.pointer (some ⟨b, 0, none⟩)), (.slice none 0 0), (.slice none 0 0)]) Tryz.func124 nm124 rfl rfl rfl ?_)
 refine Calls.mono (put_spec hX48.pins ⟨hb53, ho51, ho52, habu, habv, hauv⟩ hokp.ar.ok (nil_reads _ _) (nil_reads _ _) ⟨by simp, by simp⟩ (fun i hi => absurd hi (Nat.not_lt_zero i)) (fun i hi => absurd hi (Nat.not_lt_zero i))) ?_
 rintro _ w59 ⟨u56, v57, G58, rfl, hbk60, hx61, hlu62, hlv63⟩
 refine ⟨_, rfl, ?_⟩
 have hin66 : ∀ i, inS b bu bv i → w.heap.size ≤ i ∨ (inS b bu bv) i := inS_lo hlob hlou hlov
 have hX67 := hX48.trans hx61 hin66
 have hb68 := hbk60.bx
 have ho69 := hbk60.ou
 have ho70 := hbk60.ov
 have ha71 := hbk60.abu
 have ha72 := hbk60.abv
 have ha73 := hbk60.auv
 have hlo74 := lo_call hlu62 hin66 hX48.size
 have hlo75 := lo_call hlv63 hin66 hX48.size
 refine qd rfl rfl rfl (r_assign (v := (.int .i64 (putK ns bs ([]) ([])))) rfl) (qe (s_then ?_))
 refine wp_ret (s_ret (c_ret1 (v := (.int .i64 (putK ns bs ([]) ([])))) rfl rfl rfl ?_))
 have hcp := cnt_pos dp t
 exact ⟨_, u56, v57, _, _, _, rfl, ⟨hb68, ho69, ho70, ha71, ha72, ha73⟩, hX67, hlo74, hlo75, hpt.ok, hpt.px, hpt.pl, (hng55.trans (dy_zero (by have := hn.odd; omega) (by omega)).symm), (by have := hpt.len; omega)⟩
 refine s_seq (c_reg ?_)
 refine qd rfl rfl rfl (r_fldp (k := 1) rfl Tryz.underlying50 rfl nz3 rfl) (qd rfl rfl rfl (r_ldp1 (u := (.int .i64 (dp : Int))) ag3 rfl ((Pins.of_le hX48.pins hle47) _ _ _ (hbp18 1 _ rfl))) (qd rfl rfl rfl (r_gtr rfl rfl) (qd rfl rfl rfl (r_assign (v := (.bool (decide ((0 : Int) < (dp : Int))))) rfl) (qe (s_then ?_)))))
 refine c_ifd (p := (0 : Int) < (dp : Int)) rfl rfl (fun h76 => ?_) (fun h76 => ?_)
 refine s_seq ?_
 have hdp1 : 1 ≤ dp := by omega
 have hk1 := (hn.kid hdp1 (s := t - 1) (Or.inl rfl))
 have hk2 := (hn.kid hdp1 (s := t + 1) (Or.inr rfl))
 have hm1 := mu_kid hn hdp1 (s := t - 1) (Or.inl rfl)
 have hm2 := mu_kid hn hdp1 (s := t + 1) (Or.inr rfl)
 have hct := cnt_two hn hdp1
 have hdk := dy_kids hdp1 (hn.odd.resolve_left (by omega))
 refine c_draw (S := fun wz => Pins G46 wz) (last := 7) (by kernel_rfl) rfl ?_
 have hl77 : Below w37.heap.size w37 w37.drew := (Below.refl _ _).drew
 have hp78 := hX48.pins.below hl77
 have hX79 := hX48.step hp78 hl77
 have ho80 := ho51.below hl77
 have ho81 := ho52.below hl77
 have hb82 := hb53.below hl77
 refine dr_take (i := 0) rfl rfl rfl (want_none rfl _) (by kernel_rfl) (fun _ _ => r_move (v := (.pointer (some ⟨b, 0, none⟩))) rfl) hX79.pins (dr_take (i := 1) rfl rfl rfl (want_none rfl _) (by kernel_rfl) (fun _ hS => r_ldpA (cs := [(.int .i64 t), (.int .i64 (dp : Int))]) ag50 sz50 rfl (fun j u hj => (Pins.of_le hS hle47) _ _ _ (hbp18 _ _ (by simpa using hj)))) hX79.pins (dr_take (i := 2) rfl rfl rfl (want_none rfl _) (by kernel_rfl) (fun _ hS => r_ldpA (cs := [(.int .i64 1), (.int .i64 (dp : Int))]) ag50 sz50 rfl (fun j u hj => hS _ _ _ (hbp49 _ _ (by simpa using hj)))) hX79.pins (dr_one (i := 3) (by kernel_rfl) (drOp1 (i := 3) rfl rfl rfl (want_none rfl _) (o_call (vs := [(.agg [(.int .i64 1), (.int .i64 (dp : Int))].toArray)]) Tryz.func159 nm159 rfl rfl rfl ?_)))))
 refine Calls.mono (l2Neg_spec (t := 1) (z := (dp : Int)) hX79.pins (by omega)) ?_
 rintro _ w84 ⟨G83, rfl, hx85⟩
 refine ⟨_, rfl, ?_⟩
 have hX86 := hX79.tr hx85
 have ho87 := ho80.ext hx85
 have ho88 := ho81.ext hx85
 have hb89 := hb82.ext hx85
 refine ⟨fun _ => (Pins.of_le hX86.pins hx85.le), ?_⟩
 refine dr_one (i := 4) (by kernel_rfl) (drOp1 (i := 4) rfl rfl rfl (want_none rfl _) (o_call (vs := [(.agg [(.int .i64 t), (.int .i64 (dp : Int))].toArray), (.agg [(.int .i64 (-1)), (.int .i64 (dp : Int))].toArray)]) Tryz.func158 nm158 rfl rfl rfl ?_))
 refine Calls.mono (l2AddS_spec (t := t) (u := -1) (s := t - 1) (p := dp) hX86.pins (by omega) (by omega) (by omega) (by omega)) ?_
 rintro _ w91 ⟨G90, rfl, hx92⟩
 refine ⟨_, rfl, ?_⟩
 have hX93 := hX86.tr hx92
 have ho94 := ho87.ext hx92
 have ho95 := ho88.ext hx92
 have hb96 := hb89.ext hx92
 refine ⟨fun _ => (Pins.of_le hX93.pins (Pin.le_trans hx85.le hx92.le)), ?_⟩
 refine dr_one (i := 5) (by kernel_rfl) (drOp1 (i := 5) rfl rfl rfl (want_none rfl _) (o_call (vs := [(.pointer (some ⟨b, 0, none⟩)), (.agg [(.int .i64 ((lowD dp (t - 1)).1)), (.int .i64 (((lowD dp (t - 1)).2 : Nat) : Int))].toArray)]) Tryz.func131 nm131 rfl rfl rfl ?_))
 refine Calls.mono (ih hX93.pins ⟨hb96, ho94, ho95, habu, habv, hauv⟩ hokp hk1.1 (by omega) (by omega)) ?_
 rintro _ w108 ⟨z97, u105, v106, ns98, bs99, G107, rfl, hbk109, hx110, hlu111, hlv112, hok100, hpx101, hpl102, hpd103, hcl104⟩
 refine ⟨_, rfl, ?_⟩
 have hin115 : ∀ i, inS b bu bv i → w.heap.size ≤ i ∨ (inS b bu bv) i := inS_lo hlob hlou hlov
 have hX116 := hX93.trans hx110 hin115
 have hb117 := hbk109.bx
 have ho118 := hbk109.ou
 have ho119 := hbk109.ov
 have ha120 := hbk109.abu
 have ha121 := hbk109.abv
 have ha122 := hbk109.auv
 have hlo123 := lo_call hlu111 hin115 hX93.size
 have hlo124 := lo_call hlv112 hin115 hX93.size
 have hpx125 := hpx101
 refine ⟨fun _ => (Pins.of_le hX116.pins (Pin.le_trans (Pin.le_trans hx85.le hx92.le) hx110.le)), ?_⟩
 refine dr_take (i := 6) rfl rfl rfl (want_none rfl _) (by kernel_rfl) (fun _ _ => r_assign (v := (.int .i64 z97)) rfl) (Pins.of_le hX116.pins (Pin.le_trans (Pin.le_trans hx85.le hx92.le) hx110.le)) (dr_end (by kernel_rfl) (s_then (s_seq (c_reg ?_))))
 refine qd rfl rfl rfl (r_move (v := (.pointer (some ⟨b, 0, none⟩))) rfl) (qd rfl rfl rfl (r_ldpA (cs := [(.int .i64 t), (.int .i64 (dp : Int))]) ag50 sz50 rfl (fun j u hj => (Pins.of_le hX116.pins (Pin.le_trans (Pin.le_trans (Pin.le_trans hle47 hx85.le) hx92.le) hx110.le)) _ _ _ (hbp18 _ _ (by simpa using hj)))) (qd rfl rfl rfl (r_ldpA (cs := [(.int .i64 1), (.int .i64 (dp : Int))]) ag50 sz50 rfl (fun j u hj => (Pins.of_le hX116.pins (Pin.le_trans (Pin.le_trans hx85.le hx92.le) hx110.le)) _ _ _ (hbp49 _ _ (by simpa using hj)))) (q1 rfl rfl rfl (o_call (vs := [(.agg [(.int .i64 t), (.int .i64 (dp : Int))].toArray), (.agg [(.int .i64 1), (.int .i64 (dp : Int))].toArray)]) Tryz.func158 nm158 rfl rfl rfl ?_))))
 refine Calls.mono (l2AddS_spec (t := t) (u := 1) (s := t + 1) (p := dp) hX116.pins (by omega) (by omega) (by omega) (by omega)) ?_
 rintro _ w127 ⟨G126, rfl, hx128⟩
 refine ⟨_, rfl, ?_⟩
 have hX129 := hX116.tr hx128
 have ho130 := ho118.ext hx128
 have ho131 := ho119.ext hx128
 have hb132 := hb117.ext hx128
 refine q1 rfl rfl rfl (o_call (vs := [(.pointer (some ⟨b, 0, none⟩)), (.agg [(.int .i64 ((lowD dp (t + 1)).1)), (.int .i64 (((lowD dp (t + 1)).2 : Nat) : Int))].toArray)]) Tryz.func131 nm131 rfl rfl rfl ?_)
 refine Calls.mono (ih hX129.pins ⟨hb132, ho130, ho131, ha120, ha121, ha122⟩ hok100 hk2.1 (by omega) (by omega)) ?_
 rintro _ w144 ⟨z133, u141, v142, ns134, bs135, G143, rfl, hbk145, hx146, hlu147, hlv148, hok136, hpx137, hpl138, hpd139, hcl140⟩
 refine ⟨_, rfl, ?_⟩
 have hin151 : ∀ i, inS b u105 v106 i → w.heap.size ≤ i ∨ (inS b bu bv) i := inS_lo hlob hlo123 hlo124
 have hX152 := hX129.trans hx146 hin151
 have hb153 := hbk145.bx
 have ho154 := hbk145.ou
 have ho155 := hbk145.ov
 have ha156 := hbk145.abu
 have ha157 := hbk145.abv
 have ha158 := hbk145.auv
 have hlo159 := lo_call hlu147 hin151 hX129.size
 have hlo160 := lo_call hlv148 hin151 hX129.size
 have hpx161 := PX.trans hpx125 hpx137
 refine qd rfl rfl rfl (r_assign (v := (.int .i64 z133)) rfl) (qe (s_then (s_seq (c_reg ?_))))
 refine qd rfl rfl rfl (r_move (v := (.pointer (some ⟨b, 0, none⟩))) rfl) (qd rfl rfl rfl (r_move (v := (.int .i64 z97)) rfl) (q1 rfl rfl rfl (o_buildF (E := eInt) (e := 3) [(.int .i64 z97)] [z97] Tryz.underlying57 sz3 zr3 (by exact reps1 (by rfl)) (ones1 (by rfl)) rfl rfl rfl rfl (by decide) hX152.pins (fun u162 w163 ho164 hp165 hl166 hk167 => ?_))))
 have hX168 := hX152.step hp165 hl166
 have ho169 := ho154.below hl166
 have ho170 := ho155.below hl166
 have hb171 := hb153.below hl166
 have ha172 : Apart u162.ownBlock u141.ownBlock := new_ne_own hk167 ho154.lt
 have ha173 : Apart u162.ownBlock v142.ownBlock := new_ne_own hk167 ho155.lt
 have ha174 : Apart u162.ownBlock (some b) := new_ne_box hk167 hb153.lt
 have ho175 : Own eInt 3 G143 w163 w.heap.size u162 ([z97]) := ho164.weaken hX152.size
 refine qd rfl rfl rfl (r_move (v := (.int .i64 z133)) rfl) (q1 rfl rfl rfl (o_buildF (E := eInt) (e := 3) [(.int .i64 z133)] [z133] Tryz.underlying57 sz3 zr3 (by exact reps1 (by rfl)) (ones1 (by rfl)) rfl rfl rfl rfl (by decide) hX168.pins (fun u176 w177 ho178 hp179 hl180 hk181 => ?_)))
 have hX182 := hX168.step hp179 hl180
 have ho183 := ho169.below hl180
 have ho184 := ho170.below hl180
 have ho185 := ho175.below hl180
 have hb186 := hb171.below hl180
 have ha187 : Apart u176.ownBlock u141.ownBlock := new_ne_own hk181 ho169.lt
 have ha188 : Apart u176.ownBlock v142.ownBlock := new_ne_own hk181 ho170.lt
 have ha189 : Apart u176.ownBlock u162.ownBlock := new_ne_own hk181 ho175.lt
 have ha190 : Apart u176.ownBlock (some b) := new_ne_box hk181 hb171.lt
 have ho191 : Own eInt 3 G143 w177 w.heap.size u176 ([z133]) := ho178.weaken hX168.size
 obtain ⟨G192, hle195, hX194, hr193, hf196⟩ := ho185.sealed hX182
 have ho197 := ho183.moreO hle195 hf196 ha172.symm
 have ho198 := ho184.moreO hle195 hf196 ha173.symm
 have ho199 := ho191.moreO hle195 hf196 ha189
 have hb200 := hb186.moreO hf196 ha174.symm
 obtain ⟨G201, hle204, hX203, hr202, hf205⟩ := ho199.sealed hX194
 have ho206 := ho197.moreO hle204 hf205 ha187.symm
 have ho207 := ho198.moreO hle204 hf205 ha188.symm
 have hb208 := hb200.moreO hf205 ha190.symm
 have hpt := bk_put (xs := [z97]) (ys := [z133]) hok136 (by omega) ⟨by simp, by simp⟩ (fun z hz => by rw [List.mem_singleton.1 hz]; exact (hpx137.place hpl102)) (fun z hz => by rw [List.mem_singleton.1 hz]; exact hpl138)
 have hng209 := hpt.pd.trans (show _ = mkG [pd (bkq ns134 bs135) z97] [pd (bkq ns134 bs135) z133] from rfl)
 rw [((hpx137.pd hok100 hok136 hpl102).trans hpd103)] at hng209
 rw [hpd139] at hng209
 refine q1 rfl rfl rfl (o_call (vs := [(.pointer (some ⟨b, 0, none⟩)), u162, u176]) Tryz.func124 nm124 rfl rfl rfl ?_)
 refine Calls.mono (put_spec hX203.pins ⟨hb208, ho206, ho207, ha156, ha157, ha158⟩ hok136.ar.ok (hr193.mono hle204) hr202 ⟨by simp, by simp⟩ (one_at (hpx137.place hpl102)) (one_at hpl138)) ?_
 rintro _ w213 ⟨u210, v211, G212, rfl, hbk214, hx215, hlu216, hlv217⟩
 refine ⟨_, rfl, ?_⟩
 have hin220 : ∀ i, inS b u141 v142 i → w.heap.size ≤ i ∨ (inS b bu bv) i := inS_lo hlob hlo159 hlo160
 have hX221 := hX203.trans hx215 hin220
 have hb222 := hbk214.bx
 have ho223 := hbk214.ou
 have ho224 := hbk214.ov
 have ha225 := hbk214.abu
 have ha226 := hbk214.abv
 have ha227 := hbk214.auv
 have hlo228 := lo_call hlu216 hin220 hX203.size
 have hlo229 := lo_call hlv217 hin220 hX203.size
 refine qd rfl rfl rfl (r_assign (v := (.int .i64 (putK ns134 bs135 ([z97]) ([z133])))) rfl) (qe (s_then ?_))
 refine wp_ret (s_ret (c_ret1 (v := (.int .i64 (putK ns134 bs135 ([z97]) ([z133])))) rfl rfl rfl ?_))
 have hcp := cnt_pos dp t
 exact ⟨_, u210, v211, _, _, _, rfl, ⟨hb222, ho223, ho224, ha225, ha226, ha227⟩, hX221, hlo228, hlo229, hpt.ok, (PX.trans hpx161 hpt.px), hpt.pl, (hng209.trans hdk.symm), (by have := hpt.len; omega)⟩
 refine s_seq (c_reg ?_)
 refine qd rfl rfl rfl (r_fldp (k := 0) rfl Tryz.underlying50 rfl nz3 rfl) (qd rfl rfl rfl (r_ldp1 (u := (.int .i64 t)) ag3 rfl ((Pins.of_le hX48.pins hle47) _ _ _ (hbp18 0 _ rfl))) (qd rfl rfl rfl (r_gtr rfl rfl) (qd rfl rfl rfl (r_assign (v := (.bool (decide ((0 : Int) < t)))) rfl) (qe (s_then ?_)))))
 refine c_ifd (p := (0 : Int) < t) rfl rfl (fun h230 => ?_) (fun h230 => ?_)
 refine s_seq ?_
 have hd0 : dp = 0 := by omega
 have hk1 := hn.kid0 hd0 (s := t - 1) (by omega)
 have hm1 := hk1.2.1
 have hm2 := hk1.2.2.1
 refine c_draw (S := fun wz => Pins G46 wz) (last := 10) (by kernel_rfl) rfl ?_
 have hl231 : Below w37.heap.size w37 w37.drew := (Below.refl _ _).drew
 have hp232 := hX48.pins.below hl231
 have hX233 := hX48.step hp232 hl231
 have ho234 := ho51.below hl231
 have ho235 := ho52.below hl231
 have hb236 := hb53.below hl231
 refine dr_take (i := 0) rfl rfl rfl (want_none rfl _) (by kernel_rfl) (fun _ _ => r_move (v := (.pointer (some ⟨b, 0, none⟩))) rfl) hX233.pins (dr_take (i := 1) rfl rfl rfl (want_none rfl _) (by kernel_rfl) (fun _ _ => r_move (v := (.pointer (some ⟨b, 0, none⟩))) rfl) hX233.pins (dr_take (i := 2) rfl rfl rfl (want_none rfl _) (by kernel_rfl) (fun _ hS => r_ldpA (cs := [(.int .i64 t), (.int .i64 (dp : Int))]) ag50 sz50 rfl (fun j u hj => (Pins.of_le hS hle47) _ _ _ (hbp18 _ _ (by simpa using hj)))) hX233.pins (dr_take (i := 3) rfl rfl rfl (want_none rfl _) (by kernel_rfl) (fun _ hS => r_ldpA (cs := [(.int .i64 1), (.int .i64 (dp : Int))]) ag50 sz50 rfl (fun j u hj => hS _ _ _ (hbp49 _ _ (by simpa using hj)))) hX233.pins (dr_one (i := 4) (by kernel_rfl) (drOp1 (i := 4) rfl rfl rfl (want_none rfl _) (o_call (vs := [(.agg [(.int .i64 1), (.int .i64 (dp : Int))].toArray)]) Tryz.func159 nm159 rfl rfl rfl ?_))))))
 refine Calls.mono (l2Neg_spec (t := 1) (z := (dp : Int)) hX233.pins (by omega)) ?_
 rintro _ w238 ⟨G237, rfl, hx239⟩
 refine ⟨_, rfl, ?_⟩
 have hX240 := hX233.tr hx239
 have ho241 := ho234.ext hx239
 have ho242 := ho235.ext hx239
 have hb243 := hb236.ext hx239
 refine ⟨fun _ => (Pins.of_le hX240.pins hx239.le), ?_⟩
 refine dr_one (i := 5) (by kernel_rfl) (drOp1 (i := 5) rfl rfl rfl (want_none rfl _) (o_call (vs := [(.agg [(.int .i64 t), (.int .i64 (dp : Int))].toArray), (.agg [(.int .i64 (-1)), (.int .i64 (dp : Int))].toArray)]) Tryz.func158 nm158 rfl rfl rfl ?_))
 refine Calls.mono (l2AddS_spec (t := t) (u := -1) (s := t - 1) (p := dp) hX240.pins (by omega) (by omega) (by omega) (by omega)) ?_
 rintro _ w245 ⟨G244, rfl, hx246⟩
 refine ⟨_, rfl, ?_⟩
 have hX247 := hX240.tr hx246
 have ho248 := ho241.ext hx246
 have ho249 := ho242.ext hx246
 have hb250 := hb243.ext hx246
 refine ⟨fun _ => (Pins.of_le hX247.pins (Pin.le_trans hx239.le hx246.le)), ?_⟩
 refine dr_one (i := 6) (by kernel_rfl) (drOp1 (i := 6) rfl rfl rfl (want_none rfl _) (o_call (vs := [(.pointer (some ⟨b, 0, none⟩)), (.agg [(.int .i64 ((lowD dp (t - 1)).1)), (.int .i64 (((lowD dp (t - 1)).2 : Nat) : Int))].toArray)]) Tryz.func131 nm131 rfl rfl rfl ?_))
 refine Calls.mono (ih hX247.pins ⟨hb250, ho248, ho249, habu, habv, hauv⟩ hokp hk1.1 (by omega) (by omega)) ?_
 rintro _ w262 ⟨z251, u259, v260, ns252, bs253, G261, rfl, hbk263, hx264, hlu265, hlv266, hok254, hpx255, hpl256, hpd257, hcl258⟩
 refine ⟨_, rfl, ?_⟩
 have hin269 : ∀ i, inS b bu bv i → w.heap.size ≤ i ∨ (inS b bu bv) i := inS_lo hlob hlou hlov
 have hX270 := hX247.trans hx264 hin269
 have hb271 := hbk263.bx
 have ho272 := hbk263.ou
 have ho273 := hbk263.ov
 have ha274 := hbk263.abu
 have ha275 := hbk263.abv
 have ha276 := hbk263.auv
 have hlo277 := lo_call hlu265 hin269 hX247.size
 have hlo278 := lo_call hlv266 hin269 hX247.size
 have hpx279 := hpx255
 refine ⟨fun _ => (Pins.of_le hX270.pins (Pin.le_trans (Pin.le_trans hx239.le hx246.le) hx264.le)), ?_⟩
 refine dr_one (i := 7) (by kernel_rfl) (drOp1 (i := 7) rfl rfl rfl (want_none rfl _) (o_buildF (E := eInt) (e := 3) [(.int .i64 z251)] [z251] Tryz.underlying57 sz3 zr3 (by exact reps1 (by rfl)) (ones1 (by rfl)) rfl rfl rfl rfl (by decide) hX270.pins (fun u280 w281 ho282 hp283 hl284 hk285 => ?_)))
 have hX286 := hX270.step hp283 hl284
 have ho287 := ho272.below hl284
 have ho288 := ho273.below hl284
 have hb289 := hb271.below hl284
 have ha290 : Apart u280.ownBlock u259.ownBlock := new_ne_own hk285 ho272.lt
 have ha291 : Apart u280.ownBlock v260.ownBlock := new_ne_own hk285 ho273.lt
 have ha292 : Apart u280.ownBlock (some b) := new_ne_box hk285 hb271.lt
 have ho293 : Own eInt 3 G261 w281 w.heap.size u280 ([z251]) := ho282.weaken hX270.size
 refine ⟨fun _ => (Pins.of_le hX286.pins (Pin.le_trans (Pin.le_trans hx239.le hx246.le) hx264.le)), ?_⟩
 obtain ⟨G294, hle297, hX296, hr295, hf298⟩ := ho293.sealed hX286
 have ho299 := ho287.moreO hle297 hf298 ha290.symm
 have ho300 := ho288.moreO hle297 hf298 ha291.symm
 have hb301 := hb289.moreO hf298 ha292.symm
 have hpt := bk_put (xs := [z251]) (ys := []) hok254 (by omega) ⟨by simp, by simp⟩ (fun z hz => by rw [List.mem_singleton.1 hz]; exact hpl256) (fun z hz => absurd hz (by simp))
 have hng302 := hpt.pd.trans (show _ = mkG [pd (bkq ns252 bs253) z251] [] from rfl)
 rw [hpd257] at hng302
 refine dr_one (i := 8) (by kernel_rfl) (drOp1 (i := 8) rfl rfl rfl (want_none rfl _) (o_call (vs := [(.pointer (some ⟨b, 0, none⟩)), u280, (.slice none 0 0)]) Tryz.func124 nm124 rfl rfl rfl ?_))
 refine Calls.mono (put_spec hX296.pins ⟨hb301, ho299, ho300, ha274, ha275, ha276⟩ hok254.ar.ok hr295 (nil_reads _ _) ⟨by simp, by simp⟩ (one_at hpl256) (fun i hi => absurd hi (Nat.not_lt_zero i))) ?_
 rintro _ w306 ⟨u303, v304, G305, rfl, hbk307, hx308, hlu309, hlv310⟩
 refine ⟨_, rfl, ?_⟩
 have hin313 : ∀ i, inS b u259 v260 i → w.heap.size ≤ i ∨ (inS b bu bv) i := inS_lo hlob hlo277 hlo278
 have hX314 := hX296.trans hx308 hin313
 have hb315 := hbk307.bx
 have ho316 := hbk307.ou
 have ho317 := hbk307.ov
 have ha318 := hbk307.abu
 have ha319 := hbk307.abv
 have ha320 := hbk307.auv
 have hlo321 := lo_call hlu309 hin313 hX296.size
 have hlo322 := lo_call hlv310 hin313 hX296.size
 refine ⟨fun _ => (Pins.of_le hX314.pins (Pin.le_trans (Pin.le_trans (Pin.le_trans (Pin.le_trans hx239.le hx246.le) hx264.le) hle297) hx308.le)), ?_⟩
 refine dr_take (i := 9) rfl rfl rfl (want_none rfl _) (by kernel_rfl) (fun _ _ => r_assign (v := (.int .i64 (putK ns252 bs253 ([z251]) ([])))) rfl) (Pins.of_le hX314.pins (Pin.le_trans (Pin.le_trans (Pin.le_trans (Pin.le_trans hx239.le hx246.le) hx264.le) hle297) hx308.le)) (dr_end (by kernel_rfl) (s_then (wp_ret (s_ret (c_ret1 (v := (.int .i64 (putK ns252 bs253 ([z251]) ([])))) rfl rfl rfl ?_)))))
 have hcp := cnt_pos dp t
 exact ⟨_, u303, v304, _, _, _, rfl, ⟨hb315, ho316, ho317, ha318, ha319, ha320⟩, hX314, hlo321, hlo322, hpt.ok, (PX.trans hpx279 hpt.px), hpt.pl, (hng302.trans (by first | rw [hk1.2.2.2]; exact (dy_pos hd0 (by omega)).symm | rw [hk2.2.2.2]; exact (dy_neg hd0 (by omega)).symm)), (by have := hpt.len; omega)⟩
 refine wp_skip (s_blkN (s_then (s_seq (c_reg ?_))))
 have hd0 : dp = 0 := by omega
 have hk2 := hn.kid0 hd0 (s := t + 1) (by omega)
 have hm1 := hk2.2.1
 have hm2 := hk2.2.2.1
 refine qd rfl rfl rfl (r_move (v := (.pointer (some ⟨b, 0, none⟩))) rfl) (qd rfl rfl rfl (r_move (v := (.pointer (some ⟨b, 0, none⟩))) rfl) (qd rfl rfl rfl (r_ldpA (cs := [(.int .i64 t), (.int .i64 (dp : Int))]) ag50 sz50 rfl (fun j u hj => (Pins.of_le hX48.pins hle47) _ _ _ (hbp18 _ _ (by simpa using hj)))) (qd rfl rfl rfl (r_ldpA (cs := [(.int .i64 1), (.int .i64 (dp : Int))]) ag50 sz50 rfl (fun j u hj => hX48.pins _ _ _ (hbp49 _ _ (by simpa using hj)))) (q1 rfl rfl rfl (o_call (vs := [(.agg [(.int .i64 t), (.int .i64 (dp : Int))].toArray), (.agg [(.int .i64 1), (.int .i64 (dp : Int))].toArray)]) Tryz.func158 nm158 rfl rfl rfl ?_)))))
 refine Calls.mono (l2AddS_spec (t := t) (u := 1) (s := t + 1) (p := dp) hX48.pins (by omega) (by omega) (by omega) (by omega)) ?_
 rintro _ w324 ⟨G323, rfl, hx325⟩
 refine ⟨_, rfl, ?_⟩
 have hX326 := hX48.tr hx325
 have ho327 := ho51.ext hx325
 have ho328 := ho52.ext hx325
 have hb329 := hb53.ext hx325
 refine q1 rfl rfl rfl (o_call (vs := [(.pointer (some ⟨b, 0, none⟩)), (.agg [(.int .i64 ((lowD dp (t + 1)).1)), (.int .i64 (((lowD dp (t + 1)).2 : Nat) : Int))].toArray)]) Tryz.func131 nm131 rfl rfl rfl ?_)
 refine Calls.mono (ih hX326.pins ⟨hb329, ho327, ho328, habu, habv, hauv⟩ hokp hk2.1 (by omega) (by omega)) ?_
 rintro _ w341 ⟨z330, u338, v339, ns331, bs332, G340, rfl, hbk342, hx343, hlu344, hlv345, hok333, hpx334, hpl335, hpd336, hcl337⟩
 refine ⟨_, rfl, ?_⟩
 have hin348 : ∀ i, inS b bu bv i → w.heap.size ≤ i ∨ (inS b bu bv) i := inS_lo hlob hlou hlov
 have hX349 := hX326.trans hx343 hin348
 have hb350 := hbk342.bx
 have ho351 := hbk342.ou
 have ho352 := hbk342.ov
 have ha353 := hbk342.abu
 have ha354 := hbk342.abv
 have ha355 := hbk342.auv
 have hlo356 := lo_call hlu344 hin348 hX326.size
 have hlo357 := lo_call hlv345 hin348 hX326.size
 have hpx358 := hpx334
 refine q1 rfl rfl rfl (o_buildF (E := eInt) (e := 3) [(.int .i64 z330)] [z330] Tryz.underlying57 sz3 zr3 (by exact reps1 (by rfl)) (ones1 (by rfl)) rfl rfl rfl rfl (by decide) hX349.pins (fun u359 w360 ho361 hp362 hl363 hk364 => ?_))
 have hX365 := hX349.step hp362 hl363
 have ho366 := ho351.below hl363
 have ho367 := ho352.below hl363
 have hb368 := hb350.below hl363
 have ha369 : Apart u359.ownBlock u338.ownBlock := new_ne_own hk364 ho351.lt
 have ha370 : Apart u359.ownBlock v339.ownBlock := new_ne_own hk364 ho352.lt
 have ha371 : Apart u359.ownBlock (some b) := new_ne_box hk364 hb350.lt
 have ho372 : Own eInt 3 G340 w360 w.heap.size u359 ([z330]) := ho361.weaken hX349.size
 obtain ⟨G373, hle376, hX375, hr374, hf377⟩ := ho372.sealed hX365
 have ho378 := ho366.moreO hle376 hf377 ha369.symm
 have ho379 := ho367.moreO hle376 hf377 ha370.symm
 have hb380 := hb368.moreO hf377 ha371.symm
 have hpt := bk_put (xs := []) (ys := [z330]) hok333 (by omega) ⟨by simp, by simp⟩ (fun z hz => absurd hz (by simp)) (fun z hz => by rw [List.mem_singleton.1 hz]; exact hpl335)
 have hng381 := hpt.pd.trans (show _ = mkG [] [pd (bkq ns331 bs332) z330] from rfl)
 rw [hpd336] at hng381
 refine q1 rfl rfl rfl (o_call (vs := [(.pointer (some ⟨b, 0, none⟩)), (.slice none 0 0), u359]) Tryz.func124 nm124 rfl rfl rfl ?_)
 refine Calls.mono (put_spec hX375.pins ⟨hb380, ho378, ho379, ha353, ha354, ha355⟩ hok333.ar.ok (nil_reads _ _) hr374 ⟨by simp, by simp⟩ (fun i hi => absurd hi (Nat.not_lt_zero i)) (one_at hpl335)) ?_
 rintro _ w385 ⟨u382, v383, G384, rfl, hbk386, hx387, hlu388, hlv389⟩
 refine ⟨_, rfl, ?_⟩
 have hin392 : ∀ i, inS b u338 v339 i → w.heap.size ≤ i ∨ (inS b bu bv) i := inS_lo hlob hlo356 hlo357
 have hX393 := hX375.trans hx387 hin392
 have hb394 := hbk386.bx
 have ho395 := hbk386.ou
 have ho396 := hbk386.ov
 have ha397 := hbk386.abu
 have ha398 := hbk386.abv
 have ha399 := hbk386.auv
 have hlo400 := lo_call hlu388 hin392 hX375.size
 have hlo401 := lo_call hlv389 hin392 hX375.size
 refine qd rfl rfl rfl (r_assign (v := (.int .i64 (putK ns331 bs332 ([]) ([z330])))) rfl) (qe (s_then ?_))
 refine wp_ret (s_ret (c_ret1 (v := (.int .i64 (putK ns331 bs332 ([]) ([z330])))) rfl rfl rfl ?_))
 have hcp := cnt_pos dp t
 exact ⟨_, u382, v383, _, _, _, rfl, ⟨hb394, ho395, ho396, ha397, ha398, ha399⟩, hX393, hlo400, hlo401, hpt.ok, (PX.trans hpx358 hpt.px), hpt.pl, (hng381.trans (by first | rw [hk1.2.2.2]; exact (dy_pos hd0 (by omega)).symm | rw [hk2.2.2.2]; exact (dy_neg hd0 (by omega)).symm)), (by have := hpt.len; omega)⟩

theorem put_all : ∀ m, PutP m
 | 0 => fun _ _ _ _ _ h => absurd h (Nat.not_lt_zero _)
 | m + 1 => fun hP hB hok hn hl hm => l7Put_step hP hB hok hn hl (put_all m) hm
theorem l7Put_spec {w : World} {G : Pin} {b : Nat} {bu bv : Value} {ns : List Nd} {bs : List Int} {t : Int} {dp : Nat} (hP : Pins G w) (hB : Bk 68 3 G w b bu bv ns bs) (hokp : PoolOk (bkq ns bs)) (hn : NumOk dp t) (hl : ns.length + cntD dp t ≤ 1048575) :
  Calls Tryz.prog 131 [(.pointer (some ⟨b, 0, none⟩)), (.agg [.int .i64 t, .int .i64 (dp : Int)].toArray)].toArray w fun e w' => ∃ (z : Int) (u' v' : Value) (ns' : List Nd) (bs' : List Int) (G' : Pin), e = .returned (.int .i64 z) ∧ Bk 68 3 G' w' b u' v' ns' bs' ∧ Ext (inS b bu bv) G w G' w' ∧ Lo w (inS b bu bv) u'.ownBlock ∧ Lo w (inS b bu bv) v'.ownBlock ∧ PoolOk (bkq ns' bs') ∧ PX (bkq ns bs) (bkq ns' bs') ∧ PlaceOk (bkq ns' bs') z ∧ pd (bkq ns' bs') z = dyG dp t ∧ ns'.length ≤ ns.length + cntD dp t :=
 put_all _ hP hB hokp hn hl (Nat.lt_succ_self _)

end NB5
end Go.Proofs.YtkfgdhanaijddaaGreatDoor

set_option maxRecDepth 20000
set_option maxHeartbeats 2000000
namespace Go.Proofs.YtkfgdhanaijddaaGreatDoor
namespace SM1
open Go.RowKit Go.GL Go.Proofs
open B1 C1 D1 E1 K1 PO1 PL1 PA1 SO1 OD1 FO1 NG1 NF1


theorem pl28 : (Tryz.prog.underlying 28).bind (placesD Tryz.prog) = some [(0, 1)] := by kernel_rfl


theorem l3If_spec {w : World} {G : Pin} {v : Value} {fs : List Nd} (hP : Pins G w) (hv : RSl eNode G v fs) :
  Calls Tryz.prog 82 [(.agg [v].toArray)].toArray w fun e w' => ∃ (u : Value) (G' : Pin), e = .returned (.tuple #[(.agg [u].toArray), .bool (decP (FitsP fs))]) ∧ RSl eNode G' u (ifF fs) ∧ Ext noS G w G' w' := by
 refine s_enter (n := 9) Tryz.func82 Tryz.ntmps82 rfl rfl ?_
 have hX0 : Ext noS G w G w := Ext.refl hP
 refine s_seq (c_reg ?_)
 refine q1 rfl rfl rfl (o_box [v] (v := (.agg [v].toArray)) rfl rfl hX0.pins (fun b1 w2 hk3 hb4 hp5 hl6 => ?_))
 have hX7 := hX0.step hp5 hl6
 have hlo8 : w.heap.size ≤ b1 := by have := hX0.size; omega
 obtain ⟨G9, hle10, hX11, hbp12, hf13⟩ := hb4.shut hX7 hlo8
 refine q1 rfl rfl rfl (o_alloc [(.slice none 0 0)] zr28 rfl hX11.pins (fun b14 w15 hk16 hb17 hp18 hl19 => ?_))
 have hX20 := hX11.step hp18 hl19
 have hlo21 : w.heap.size ≤ b14 := by have := hX11.size; omega
 refine qd rfl rfl rfl (r_assign (v := (.bool false)) rfl) (qe (s_then (s_seq (s_seq (c_reg ?_)))))
 refine qd rfl rfl rfl (r_ldpA (cs := [v]) ag28 sz28 rfl (fun j u hj => hX20.pins _ _ _ (hbp12 _ _ (by simpa using hj)))) (q1 rfl rfl rfl (o_call (vs := [(.agg [v].toArray)]) Tryz.func113 nm113 rfl rfl rfl ?_))
 refine Calls.mono (l3Fits_spec hX20.pins (hv.mono hle10)) ?_
 rintro _ w23 ⟨G22, rfl, hx24⟩
 refine ⟨_, rfl, ?_⟩
 have hX25 := hX20.tr hx24
 have hb26 := hb17.ext hx24
 refine qd rfl rfl rfl (r_not rfl) (qe (s_then ?_))
 refine c_ifn rfl rfl (fun h27 => ?_) (fun h27 => ?_)
 refine wp_skip (s_then (s_seq (c_reg ?_)))
 refine qd rfl rfl rfl (r_ldpA (cs := [v]) ag28 sz28 rfl (fun j u hj => (Pins.of_le hX25.pins hx24.le) _ _ _ (hbp12 _ _ (by simpa using hj)))) (q0 rfl rfl rfl (o_stp (cs' := [v]) (us := [v]) (v := (.agg [v].toArray)) sz28 rfl rfl rfl (ones1 hv.one) hX25.pins hb26 (Nat.le_of_ble_eq_true rfl) rfl (fun w28 hb29 hp30 hg31 hz32 => ?_)))
 have hX33 := hX25.write hp30 hg31 ((lo_box hlo21))
 refine qd rfl rfl rfl (r_assign (v := (.bool true)) rfl) (qe (s_then ?_))
 exact wp_ret (s_ret (c_retct (cs := [v]) (v := (.bool true)) rfl rfl rfl rfl rfl ag28 sz28 (fun j u hj => by rw [Nat.zero_add]; exact hb29.cell hj) (⟨_, _, congrArg (fun z => Ending.returned (Value.tuple #[(.agg [v].toArray), Value.bool z])) (h27).symm, (by unfold ifF; rw [h27]; exact (hv.mono (Pin.le_trans hle10 hx24.le))), hX33⟩)))
 refine s_seq (c_reg ?_)
 refine qd rfl rfl rfl (r_build [(.slice none 0 0)] [(.slice none 0 0)] [] Tryz.underlying28 zr28 rfl pl28 rfl (fun _ h => by cases h) rfl) (q0 rfl rfl rfl (o_stp (cs' := [(.slice none 0 0)]) (us := [(.slice none 0 0)]) (v := (.agg [(.slice none 0 0)].toArray)) sz28 rfl rfl rfl (ones1 (by rfl)) hX25.pins hb26 (Nat.le_of_ble_eq_true rfl) rfl (fun w34 hb35 hp36 hg37 hz38 => ?_)))
 have hX39 := hX25.write hp36 hg37 ((lo_box hlo21))
 refine qd rfl rfl rfl (r_assign (v := (.bool false)) rfl) (qe (s_then ?_))
 exact wp_ret (s_ret (c_retct (cs := [(.slice none 0 0)]) (v := (.bool false)) rfl rfl rfl rfl rfl ag28 sz28 (fun j u hj => by rw [Nat.zero_add]; exact hb35.cell hj) (⟨_, _, congrArg (fun z => Ending.returned (Value.tuple #[(.agg [(.slice none 0 0)].toArray), Value.bool z])) (h27).symm, (by unfold ifF; rw [h27]; exact nil_reads _ _), hX39⟩)))

end SM1
end Go.Proofs.YtkfgdhanaijddaaGreatDoor

set_option maxRecDepth 20000
set_option maxHeartbeats 2000000
namespace Go.Proofs.YtkfgdhanaijddaaGreatDoor
namespace NB6
open Go.RowKit Go.GL Go.Proofs
open B1 C1 D1 E1 K1 PO1 PL1 PA1 SO1 OD1 FO1 NG1 NF1 SM1 NU1 NU2 NU3 NB4 NB5








theorem pl133 : (Tryz.prog.underlying 133).bind (placesD Tryz.prog) = some [(0, 1), (1, 1)] := by kernel_rfl
theorem pl28 : (Tryz.prog.underlying 28).bind (placesD Tryz.prog) = some [(0, 1)] := by kernel_rfl




theorem l7FormN_spec {w : World} {G : Pin} {t : Int} {dp : Nat} (hP : Pins G w) (hg : GoodD t (dp : Int)) :
  Calls Tryz.prog 83 [(.agg [(.int .i64 t), (.int .i64 (dp : Int))].toArray)].toArray w fun e w' => ∃ (u : Value) (G' : Pin), e = .returned (.agg [u].toArray) ∧ RSl eNode G' u (l7F dp t) ∧ Ext noS G w G' w' := by
 refine s_enter (n := 15) Tryz.func83 Tryz.ntmps83 rfl rfl ?_
 have hX0 : Ext noS G w G w := Ext.refl hP
 have htp := hg.top
 have hpw := hg.pow
 refine s_seq (c_reg ?_)
 refine q1 rfl rfl rfl (o_box [(.int .i64 t), (.int .i64 (dp : Int))] (v := (.agg [(.int .i64 t), (.int .i64 (dp : Int))].toArray)) rfl rfl hX0.pins (fun b1 w2 hk3 hb4 hp5 hl6 => ?_))
 have hX7 := hX0.step hp5 hl6
 have hlo8 : w.heap.size ≤ b1 := by have := hX0.size; omega
 obtain ⟨G9, hle10, hX11, hbp12, hf13⟩ := hb4.shut hX7 hlo8
 refine q1 rfl rfl rfl (o_alloc [(.slice none 0 0)] zr28 rfl hX11.pins (fun b14 w15 hk16 hb17 hp18 hl19 => ?_))
 have hX20 := hX11.step hp18 hl19
 have hlo21 : w.heap.size ≤ b14 := by have := hX11.size; omega
 refine qe (s_then (s_seq (s_seq (c_reg ?_))))
 refine qd rfl rfl rfl (r_ldpA (cs := [(.int .i64 t), (.int .i64 (dp : Int))]) ag50 sz50 rfl (fun j u hj => hX20.pins _ _ _ (hbp12 _ _ (by simpa using hj)))) (q1 rfl rfl rfl (o_call (vs := [(.agg [(.int .i64 t), (.int .i64 (dp : Int))].toArray)]) Tryz.func130 nm130 rfl rfl rfl ?_))
 refine Calls.mono (l2Born_spec (t := t) (dp := dp) hX20.pins (by omega) (by omega)) ?_
 rintro _ w23 ⟨G22, rfl, hx24⟩
 refine ⟨_, rfl, ?_⟩
 have hX25 := hX20.tr hx24
 have hb26 := hb17.ext hx24
 refine qd rfl rfl rfl (r_geq rfl rfl) (qe (s_then ?_))
 refine c_ifd (p := (120 : Int) ≤ ((bornD dp t : Nat) : Int)) rfl rfl (fun h27 => ?_) (fun h27 => ?_)
 refine s_seq (c_reg ?_)
 refine qd rfl rfl rfl (r_build [(.slice none 0 0)] [(.slice none 0 0)] [] Tryz.underlying28 zr28 rfl pl28 rfl (fun _ h => by cases h) rfl) (q0 rfl rfl rfl (o_stp (cs' := [(.slice none 0 0)]) (us := [(.slice none 0 0)]) (v := (.agg [(.slice none 0 0)].toArray)) sz28 rfl rfl rfl (ones1 (by rfl)) hX25.pins hb26 (Nat.le_of_ble_eq_true rfl) rfl (fun w28 hb29 hp30 hg31 hz32 => ?_)))
 have hX33 := hX25.write hp30 hg31 ((lo_box hlo21))
 refine qe (s_then ?_)
 exact wp_ret (s_ret (c_retc (cs := [(.slice none 0 0)]) rfl rfl rfl ag28 sz28 (fun j u hj => by rw [Nat.zero_add]; exact hb29.cell hj) (⟨_, _, rfl, (by rw [l7_late (by omega)]; exact (nil_reads _ _)), hX33⟩)))
 refine wp_skip (s_then (s_seq (c_reg ?_)))
 refine qd rfl rfl rfl (r_build [(.slice none 0 0), (.slice none 0 0)] [(.slice none 0 0), (.slice none 0 0)] [] Tryz.underlying133 zr133 rfl pl133 rfl (fun _ h => by cases h) rfl) (q1 rfl rfl rfl (o_box [(.slice none 0 0), (.slice none 0 0)] (v := (.agg [(.slice none 0 0), (.slice none 0 0)].toArray)) rfl rfl hX25.pins (fun b34 w35 hk36 hb37 hp38 hl39 => ?_)))
 have hX40 := hX25.step hp38 hl39
 have hb41 := hb26.below hl39
 have ha42 : Apart (some b34) (some b14) := new_ne_box (congrArg some hk36) hb26.lt
 have hlo43 : w.heap.size ≤ b34 := by have := hX25.size; omega
 refine qd rfl rfl rfl (r_assign (v := (.pointer (some ⟨b34, 0, none⟩))) rfl) (qe (s_then (s_seq (c_reg ?_))))
 have hbn : bornD dp t < 120 := by omega
 have hno := born_num hg hbn
 have hcn := cnt_num hno
 have hcm := numT_max hno.pow
 have hbe : PoolOk (bkq [] []) := bkq_ok Ar.empty
 refine qd rfl rfl rfl (r_move (v := (.pointer (some ⟨b34, 0, none⟩))) rfl) (qd rfl rfl rfl (r_move (v := (.pointer (some ⟨b34, 0, none⟩))) rfl) (qd rfl rfl rfl (r_ldpA (cs := [(.int .i64 t), (.int .i64 (dp : Int))]) ag50 sz50 rfl (fun j u hj => (Pins.of_le hX40.pins hx24.le) _ _ _ (hbp12 _ _ (by simpa using hj)))) (q1 rfl rfl rfl (o_call (vs := [(.pointer (some ⟨b34, 0, none⟩)), (.agg [(.int .i64 t), (.int .i64 (dp : Int))].toArray)]) Tryz.func131 nm131 rfl rfl rfl ?_))))
 refine Calls.mono (l7Put_spec hX40.pins ⟨hb37, (Own.nil _ _ _ _ _), (Own.nil _ _ _ _ _), apart_none.symm, apart_none.symm, apart_none⟩ hbe hno (by simp; omega)) ?_
 rintro _ w55 ⟨z44, u52, v53, ns45, bs46, G54, rfl, hbk56, hx57, hlu58, hlv59, hok47, hpx48, hpl49, hpd50, hcl51⟩
 refine ⟨_, rfl, ?_⟩
 have hin62 : ∀ i, inS b34 (.slice none 0 0) (.slice none 0 0) i → w.heap.size ≤ i ∨ noS i := inS_lo (lo_box hlo43) (lo_none _ _) (lo_none _ _)
 have hX63 := hX40.trans hx57 hin62
 have hn64 := notS (u := (.slice none 0 0)) (v := (.slice none 0 0)) ha42.symm apart_none.symm apart_none.symm
 have ho65 := hb41.extS hx57 (notSb hn64)
 have hb68 := hbk56.bx
 have ho69 := hbk56.ou
 have ho70 := hbk56.ov
 have ha71 := hbk56.abu
 have ha72 := hbk56.abv
 have ha73 := hbk56.auv
 have hlo74 := lo_call hlu58 hin62 hX40.size
 have hlo75 := lo_call hlv59 hin62 hX40.size
 have hpx76 := hpx48
 refine q1 rfl rfl rfl (o_call (vs := [(.pointer (some ⟨b34, 0, none⟩)), (.int .i64 z44)]) Tryz.func115 nm115 rfl rfl rfl ?_)
 refine Calls.mono (form_spec hX63.pins ⟨hb68, ho69, ho70, ha71, ha72, ha73⟩ hok47.ar.ok hpl49) ?_
 rintro _ w79 ⟨u77, G78, rfl, hr80, hx81⟩
 refine ⟨_, rfl, ?_⟩
 have hX82 := hX63.tr hx81
 have hb85 := ho65.ext hx81
 refine q0 rfl rfl rfl (o_stp (cs' := [u77]) (us := [u77]) (v := (.agg [u77].toArray)) sz28 rfl rfl rfl (ones1 hr80.one) hX82.pins hb85 (Nat.le_of_ble_eq_true rfl) rfl (fun w87 hb88 hp89 hg90 hz91 => ?_))
 have hX92 := hX82.write hp89 hg90 ((lo_box hlo21))
 refine qe (s_then ?_)
 exact wp_ret (s_ret (c_retc (cs := [u77]) rfl rfl rfl ag28 sz28 (fun j u hj => by rw [Nat.zero_add]; exact hb88.cell hj) (⟨_, _, rfl, (by rw [l7_early hbn, ← hpd50, ← book_form hok47 hpl49]; exact hr80), hX92⟩)))

theorem l7Form_spec {w : World} {G : Pin} {t z : Int} (hP : Pins G w) (hg : GoodD t z) :
  Calls Tryz.prog 83 [(.agg [.int .i64 t, .int .i64 z].toArray)].toArray w fun e w' => ∃ (u : Value) (G' : Pin), e = .returned (.agg [u].toArray) ∧ RSl eNode G' u (l7F z.toNat t) ∧ Ext noS G w G' w' := by
 obtain ⟨dp, rfl⟩ : ∃ dp : Nat, z = (dp : Int) := ⟨z.toNat, by have := hg.pow; omega⟩
 simp only [Int.toNat_natCast]
 exact l7FormN_spec hP hg

theorem sNumberForm_spec {w : World} {G : Pin} {t z : Int} (hP : Pins G w) :
  Calls Tryz.prog 30 [(.agg [(.int .i64 t), (.int .i64 z)].toArray)].toArray w fun e w' => ∃ (u : Value) (G' : Pin), e = .returned (.tuple #[(.agg [u].toArray), .bool (nmB t z)]) ∧ RSl eNode G' u (nmF t z) ∧ Ext noS G w G' w' := by
 refine s_enter (n := 13) Tryz.func30 Tryz.ntmps30 rfl rfl ?_
 have hX0 : Ext noS G w G w := Ext.refl hP
 refine s_seq (c_reg ?_)
 refine q1 rfl rfl rfl (o_box [(.int .i64 t), (.int .i64 z)] (v := (.agg [(.int .i64 t), (.int .i64 z)].toArray)) rfl rfl hX0.pins (fun b1 w2 hk3 hb4 hp5 hl6 => ?_))
 have hX7 := hX0.step hp5 hl6
 have hlo8 : w.heap.size ≤ b1 := by have := hX0.size; omega
 obtain ⟨G9, hle10, hX11, hbp12, hf13⟩ := hb4.shut hX7 hlo8
 refine q1 rfl rfl rfl (o_alloc [(.slice none 0 0)] zr28 rfl hX11.pins (fun b14 w15 hk16 hb17 hp18 hl19 => ?_))
 have hX20 := hX11.step hp18 hl19
 have hlo21 : w.heap.size ≤ b14 := by have := hX11.size; omega
 refine qd rfl rfl rfl (r_assign (v := (.bool false)) rfl) (qe (s_then (s_seq (s_seq (c_reg ?_)))))
 refine qd rfl rfl rfl (r_ldpA (cs := [(.int .i64 t), (.int .i64 z)]) ag50 sz50 rfl (fun j u hj => hX20.pins _ _ _ (hbp12 _ _ (by simpa using hj)))) (q1 rfl rfl rfl (o_call (vs := [(.agg [(.int .i64 t), (.int .i64 z)].toArray)]) Tryz.func81 nm81 rfl rfl rfl ?_))
 refine Calls.mono (l2Good_spec (t := t) (z := z) hX20.pins) ?_
 rintro _ w23 ⟨G22, rfl, hx24⟩
 refine ⟨_, rfl, ?_⟩
 have hX25 := hX20.tr hx24
 have hb26 := hb17.ext hx24
 refine qd rfl rfl rfl (r_not rfl) (qe (s_then ?_))
 refine c_ifn rfl rfl (fun h27 => ?_) (fun h27 => ?_)
 refine wp_skip (s_then (s_seq (c_reg ?_)))
 have hgd := decP_true.1 h27
 refine qd rfl rfl rfl (r_ldpA (cs := [(.int .i64 t), (.int .i64 z)]) ag50 sz50 rfl (fun j u hj => (Pins.of_le hX25.pins hx24.le) _ _ _ (hbp12 _ _ (by simpa using hj)))) (q1 rfl rfl rfl (o_call (vs := [(.agg [(.int .i64 t), (.int .i64 z)].toArray)]) Tryz.func83 nm83 rfl rfl rfl ?_))
 refine Calls.mono (l7Form_spec (t := t) (z := z) hX25.pins hgd) ?_
 rintro _ w30 ⟨u28, G29, rfl, hr31, hx32⟩
 refine ⟨_, rfl, ?_⟩
 have hX33 := hX25.tr hx32
 have hb34 := hb26.ext hx32
 refine q1 rfl rfl rfl (o_call (vs := [(.agg [u28].toArray)]) Tryz.func82 nm82 rfl rfl rfl ?_)
 refine Calls.mono (l3If_spec hX33.pins hr31) ?_
 rintro _ w37 ⟨u35, G36, rfl, hr38, hx39⟩
 refine ⟨_, rfl, ?_⟩
 have hX40 := hX33.tr hx39
 have hb41 := hb34.ext hx39
 refine qd rfl rfl rfl (r_extract (v := (.agg [u35].toArray)) rfl rfl) (qd rfl rfl rfl (r_extract (v := (.bool (decP (FitsP (l7F (z).toNat t))))) rfl rfl) (q0 rfl rfl rfl (o_stp (cs' := [u35]) (us := [u35]) (v := (.agg [u35].toArray)) sz28 rfl rfl rfl (ones1 hr38.one) hX40.pins hb41 (Nat.le_of_ble_eq_true rfl) rfl (fun w42 hb43 hp44 hg45 hz46 => ?_))))
 have hX47 := hX40.write hp44 hg45 ((lo_box hlo21))
 refine qd rfl rfl rfl (r_assign (v := (.bool (decP (FitsP (l7F (z).toNat t))))) rfl) (qe (s_then ?_))
 refine wp_ret (s_ret (c_retct (cs := [u35]) (v := (.bool (decP (FitsP (l7F (z).toNat t))))) rfl rfl rfl rfl rfl ag28 sz28 (fun j u hj => by rw [Nat.zero_add]; exact hb43.cell hj) ?_))
 obtain ⟨e1, e2⟩ := nm_l7 hgd
 rw [e1, e2]
 exact ⟨_, _, rfl, hr38, hX47⟩
 refine s_seq (c_reg ?_)
 refine qd rfl rfl rfl (r_build [(.slice none 0 0)] [(.slice none 0 0)] [] Tryz.underlying28 zr28 rfl pl28 rfl (fun _ h => by cases h) rfl) (q0 rfl rfl rfl (o_stp (cs' := [(.slice none 0 0)]) (us := [(.slice none 0 0)]) (v := (.agg [(.slice none 0 0)].toArray)) sz28 rfl rfl rfl (ones1 (by rfl)) hX25.pins hb26 (Nat.le_of_ble_eq_true rfl) rfl (fun w48 hb49 hp50 hg51 hz52 => ?_)))
 have hX53 := hX25.write hp50 hg51 ((lo_box hlo21))
 refine qd rfl rfl rfl (r_assign (v := (.bool false)) rfl) (qe (s_then ?_))
 refine wp_ret (s_ret (c_retct (cs := [(.slice none 0 0)]) (v := (.bool false)) rfl rfl rfl rfl rfl ag28 sz28 (fun j u hj => by rw [Nat.zero_add]; exact hb49.cell hj) ?_))
 obtain ⟨e1, e2⟩ := nm_bad (decP_false.1 h27)
 rw [e1, e2]
 exact ⟨_, _, rfl, (nil_reads _ _), hX53⟩

end NB6
end Go.Proofs.YtkfgdhanaijddaaGreatDoor

namespace Go.GL
open Go Go.RowKit
end Go.GL

namespace Go.GL
open Go Go.RowKit

end Go.GL

namespace Go.GL
open Go Go.RowKit

section
variable {q : PSt} {a : Int}
end
end Go.GL

set_option maxRecDepth 20000
set_option maxHeartbeats 2000000
namespace Go.Proofs.YtkfgdhanaijddaaGreatDoor
namespace VA2
open Go.RowKit Go.GL Go.Proofs
open B1 C1 D1 E1 K1 PO1 PL1 NU1 NU2


theorem scaled_spec {w : World} {G : Pin} {t z : Int} (hP : Pins G w) (ht : -10000000 ≤ t ∧ t ≤ 10000000) (hz : 0 ≤ z ∧ z ≤ 16) :
  Calls Tryz.prog 86 [(.agg [(.int .i64 t), (.int .i64 z)].toArray)].toArray w fun e w' => ∃ G', e = .returned (.int .i64 (scI 16 t z)) ∧ Ext noS G w G' w' := by
 refine s_enter (n := 9) Tryz.func86 Tryz.ntmps86 rfl rfl ?_
 have hX0 : Ext noS G w G w := Ext.refl hP
 have hsl := shl_lim (t := t) (k := (16 - z).toNat) ht (by omega)
 refine s_seq (c_reg ?_)
 refine q1 rfl rfl rfl (o_box [(.int .i64 t), (.int .i64 z)] (v := (.agg [(.int .i64 t), (.int .i64 z)].toArray)) rfl rfl hX0.pins (fun b1 w2 hk3 hb4 hp5 hl6 => ?_))
 have hX7 := hX0.step hp5 hl6
 have hlo8 : w.heap.size ≤ b1 := by have := hX0.size; omega
 obtain ⟨G9, hle10, hX11, hbp12, hf13⟩ := hb4.shut hX7 hlo8
 refine qd rfl rfl rfl (r_assign (v := (.int .i64 0)) rfl) (qe (s_then (s_seq (c_reg ?_))))
 refine qd rfl rfl rfl (r_fldp (k := 0) rfl Tryz.underlying50 rfl nz3 rfl) (qd rfl rfl rfl (r_ldp1 (u := (.int .i64 t)) ag3 rfl (hX11.pins _ _ _ (hbp12 0 _ rfl))) (qd rfl rfl rfl (r_fldp (k := 1) rfl Tryz.underlying50 rfl nz3 rfl) (qd rfl rfl rfl (r_ldp1 (u := (.int .i64 z)) ag3 rfl (hX11.pins _ _ _ (hbp12 1 _ rfl))) (qd rfl rfl rfl (r_sub rfl rfl (by omega)) (qd rfl rfl rfl (r_shlI rfl rfl (by omega) (by omega)) (qd rfl rfl rfl (r_assign (v := (.int .i64 (t * 2 ^ (16 - z : Int).toNat))) rfl) (qe (s_then ?_))))))))
 exact wp_ret (s_ret (c_ret1 (v := (.int .i64 (t * 2 ^ (16 - z : Int).toNat))) rfl rfl rfl (⟨_, rfl, hX11⟩)))

end VA2
end Go.Proofs.YtkfgdhanaijddaaGreatDoor

set_option maxRecDepth 20000
set_option maxHeartbeats 2000000
namespace Go.Proofs.YtkfgdhanaijddaaGreatDoor
namespace SW1
open Go.RowKit Go.GL Go.Proofs
open B1 C1 D1 E1 K1 PO1 PL1 NU1 NU2 VA2





theorem compareDyadic_spec {w : World} {G : Pin} {t z s y : Int} (hP : Pins G w) :
  Calls Tryz.prog 31 [(.agg [(.int .i64 t), (.int .i64 z)].toArray), (.agg [(.int .i64 s), (.int .i64 y)].toArray)].toArray w fun e w' => ∃ G', e = .returned (.tuple #[.int .i64 (cdI t z s y), .bool (cdB t z s y)]) ∧ Ext noS G w G' w' := by
 refine s_enter (n := 19) Tryz.func31 Tryz.ntmps31 rfl rfl ?_
 have hX0 : Ext noS G w G w := Ext.refl hP
 refine s_seq (c_reg ?_)
 refine q1 rfl rfl rfl (o_box [(.int .i64 t), (.int .i64 z)] (v := (.agg [(.int .i64 t), (.int .i64 z)].toArray)) rfl rfl hX0.pins (fun b1 w2 hk3 hb4 hp5 hl6 => ?_))
 have hX7 := hX0.step hp5 hl6
 have hlo8 : w.heap.size ≤ b1 := by have := hX0.size; omega
 obtain ⟨G9, hle10, hX11, hbp12, hf13⟩ := hb4.shut hX7 hlo8
 refine q1 rfl rfl rfl (o_box [(.int .i64 s), (.int .i64 y)] (v := (.agg [(.int .i64 s), (.int .i64 y)].toArray)) rfl rfl hX11.pins (fun b14 w15 hk16 hb17 hp18 hl19 => ?_))
 have hX20 := hX11.step hp18 hl19
 have hlo21 : w.heap.size ≤ b14 := by have := hX11.size; omega
 obtain ⟨G22, hle23, hX24, hbp25, hf26⟩ := hb17.shut hX20 hlo21
 refine qd rfl rfl rfl (r_assign (v := (.int .i64 0)) rfl) (qd rfl rfl rfl (r_assign (v := (.bool false)) rfl) (qe (s_then (s_seq (s_seq (c_reg ?_))))))
 refine qd rfl rfl rfl (r_ldpA (cs := [(.int .i64 t), (.int .i64 z)]) ag50 sz50 rfl (fun j u hj => (Pins.of_le hX24.pins hle23) _ _ _ (hbp12 _ _ (by simpa using hj)))) (q1 rfl rfl rfl (o_call (vs := [(.agg [(.int .i64 t), (.int .i64 z)].toArray)]) Tryz.func84 nm84 rfl rfl rfl ?_))
 refine Calls.mono (goodDyadic_spec (t := t) (z := z) hX24.pins) ?_
 rintro _ w28 ⟨G27, rfl, hx29⟩
 refine ⟨_, rfl, ?_⟩
 have hX30 := hX24.tr hx29
 refine qd rfl rfl rfl (r_not rfl) (qd rfl rfl rfl (r_move (v := (.bool (!(decP (GoodD t z))))) rfl) (qbn (t := 9) rfl (fun h31 => ?_) (fun h31 => ?_)))
 refine qdg rfl rfl rfl rfl rfl rfl (r_ldpA (cs := [(.int .i64 s), (.int .i64 y)]) ag50 sz50 rfl (fun j u hj => (Pins.of_le hX30.pins hx29.le) _ _ _ (hbp25 _ _ (by simpa using hj)))) (q1g rfl rfl rfl rfl rfl rfl (o_call (vs := [(.agg [(.int .i64 s), (.int .i64 y)].toArray)]) Tryz.func84 nm84 rfl rfl rfl ?_))
 refine Calls.mono (goodDyadic_spec (t := s) (z := y) hX30.pins) ?_
 rintro _ w33 ⟨G32, rfl, hx34⟩
 refine ⟨_, rfl, ?_⟩
 have hX35 := hX30.tr hx34
 refine qdg rfl rfl rfl rfl rfl rfl (r_not rfl) (qd rfl rfl rfl (r_pickF (v := (.bool (!(decP (GoodD s y))))) rfl rfl) (qe (s_then ?_)))
 refine c_ifn rfl rfl (fun h36 => ?_) (fun h36 => ?_)
 refine wp_skip (s_then (s_seq ?_))
 have hg1 : GoodD t z := decP_true.1 h31
 have hg2 : GoodD s y := decP_true.1 h36
 have h1t := hg1.top
 have h1p := hg1.pow
 have h2t := hg2.top
 have h2p := hg2.pow
 refine c_draw (S := fun wz => Pins G32 wz) (last := 7) (by kernel_rfl) rfl ?_
 have hl37 : Below w33.heap.size w33 w33.drew := (Below.refl _ _).drew
 have hp38 := hX35.pins.below hl37
 have hX39 := hX35.step hp38 hl37
 refine dr_take (i := 0) rfl rfl rfl (want_none rfl _) (by kernel_rfl) (fun _ hS => r_ldpA (cs := [(.int .i64 t), (.int .i64 z)]) ag50 sz50 rfl (fun j u hj => (Pins.of_le hS (Pin.le_trans (Pin.le_trans hle23 hx29.le) hx34.le)) _ _ _ (hbp12 _ _ (by simpa using hj)))) hX39.pins (dr_take (i := 2) rfl rfl rfl (want_none rfl _) (by kernel_rfl) (fun _ hS => r_ldpA (cs := [(.int .i64 s), (.int .i64 y)]) ag50 sz50 rfl (fun j u hj => (Pins.of_le hS (Pin.le_trans hx29.le hx34.le)) _ _ _ (hbp25 _ _ (by simpa using hj)))) hX39.pins (dr_one (i := 1) (by kernel_rfl) (drOp1 (i := 1) rfl rfl rfl (want_none rfl _) (o_call (vs := [(.agg [(.int .i64 t), (.int .i64 z)].toArray)]) Tryz.func86 nm86 rfl rfl rfl ?_))))
 refine Calls.mono (scaled_spec (t := t) (z := z) hX39.pins (by omega) (by omega)) ?_
 rintro _ w41 ⟨G40, rfl, hx42⟩
 refine ⟨_, rfl, ?_⟩
 have hX43 := hX39.tr hx42
 refine ⟨fun _ => (Pins.of_le hX43.pins hx42.le), ?_⟩
 refine dr_one (i := 3) (by kernel_rfl) (drOp1 (i := 3) rfl rfl rfl (want_none rfl _) (o_call (vs := [(.agg [(.int .i64 s), (.int .i64 y)].toArray)]) Tryz.func86 nm86 rfl rfl rfl ?_))
 refine Calls.mono (scaled_spec (t := s) (z := y) hX43.pins (by omega) (by omega)) ?_
 rintro _ w45 ⟨G44, rfl, hx46⟩
 refine ⟨_, rfl, ?_⟩
 have hX47 := hX43.tr hx46
 refine ⟨fun _ => (Pins.of_le hX47.pins (Pin.le_trans hx42.le hx46.le)), ?_⟩
 refine dr_one (i := 4) (by kernel_rfl) (drOp1 (i := 4) rfl rfl rfl (want_none rfl _) (o_call (vs := [(.int .i64 (scI 16 t z)), (.int .i64 (scI 16 s y))]) Tryz.func85 nm85 rfl rfl rfl ?_))
 refine Calls.mono (cmpCompare_spec hX47.pins) ?_
 rintro _ _ ⟨rfl, rfl⟩
 refine ⟨_, rfl, ?_⟩
 refine ⟨fun _ => (Pins.of_le hX47.pins (Pin.le_trans hx42.le hx46.le)), ?_⟩
 refine dr_take (i := 5) rfl rfl rfl (want_none rfl _) (by kernel_rfl) (fun _ _ => r_assign (v := (.int .i64 (cmpI (scI 16 t z) (scI 16 s y)))) rfl) (Pins.of_le hX47.pins (Pin.le_trans hx42.le hx46.le)) (dr_take (i := 6) rfl rfl rfl (want_none rfl _) (by kernel_rfl) (fun _ _ => r_assign (v := (.bool true)) rfl) (Pins.of_le hX47.pins (Pin.le_trans hx42.le hx46.le)) (dr_end (by kernel_rfl) (s_then (wp_ret (s_ret (c_ret2 (v := (.int .i64 (cmpI (scI 16 t z) (scI 16 s y)))) (u := (.bool true)) rfl rfl rfl rfl rfl ?_))))))
 obtain ⟨e1, e2⟩ := cd_yes hg1 hg2
 rw [e1, e2]
 exact ⟨_, rfl, hX47⟩
 refine s_seq (c_reg ?_)
 refine qd rfl rfl rfl (r_assign (v := (.int .i64 0)) rfl) (qd rfl rfl rfl (r_assign (v := (.bool false)) rfl) (qe (s_then ?_)))
 refine wp_ret (s_ret (c_ret2 (v := (.int .i64 0)) (u := (.bool false)) rfl rfl rfl rfl rfl ?_))
 obtain ⟨e1, e2⟩ := cd_no (t := t) (z := z) (s := s) (y := y) (fun g => decP_false.1 h36 g.2)
 rw [e1, e2]
 exact ⟨_, rfl, hX35⟩
 refine qs rfl rfl rfl rfl rfl rfl (qs rfl rfl rfl rfl rfl rfl (qs rfl rfl rfl rfl rfl rfl (qd rfl rfl rfl (r_pickT (v := (.bool true)) rfl rfl) (qe (s_then ?_)))))
 refine c_ifT rfl rfl (s_seq (c_reg ?_))
 refine qd rfl rfl rfl (r_assign (v := (.int .i64 0)) rfl) (qd rfl rfl rfl (r_assign (v := (.bool false)) rfl) (qe (s_then ?_)))
 refine wp_ret (s_ret (c_ret2 (v := (.int .i64 0)) (u := (.bool false)) rfl rfl rfl rfl rfl ?_))
 obtain ⟨e1, e2⟩ := cd_no (t := t) (z := z) (s := s) (y := y) (fun g => decP_false.1 h31 g.1)
 rw [e1, e2]
 exact ⟨_, rfl, hX30⟩

end SW1
end Go.Proofs.YtkfgdhanaijddaaGreatDoor

set_option maxRecDepth 20000
set_option maxHeartbeats 2000000
namespace Go.Proofs.YtkfgdhanaijddaaGreatDoor
namespace NO1
open Go.RowKit Go.GL Go.Proofs
open B1 C1 D1 E1 K1 PO1 PL1 PA1 SO1 OD1 FO1 NG1 NF1 PF1 SF1 MK1 DR1 DR2 DV1 DV2 NU1 NU2 NU3 NB1 NB2 NB3 NB4 NB5 NB6 VA2 SW1











theorem pl50 : (Tryz.prog.underlying 50).bind (placesD Tryz.prog) = some [(0, 1), (1, 1)] := by kernel_rfl
theorem pl63 : (Tryz.prog.underlying 63).bind (placesD Tryz.prog) = some [(0, 1), (1, 1), (2, 1)] := by kernel_rfl







theorem dyadic_spec {w : World} {G : Pin} {c : Nat} {cv : Value} {code : List UInt8} {a s : Int} (hP : Pins G w) (hB : Bx G w c [cv, .int .i64 a, .int .u64 s]) (hc : RSl eByte G cv code) (ha : 0 ≤ a ∧ a + 6 ≤ 1000000) (hs : 0 ≤ s ∧ s < 18446744073709551616) :
  Calls Tryz.prog 154 [(.pointer (some ⟨c, 0, none⟩))].toArray w fun e w' => ∃ (t z : Int) (a' s' : Int) (G' : Pin), e = .returned (.agg [.int .i64 t, .int .i64 z].toArray) ∧ Bx G' w' c [cv, .int .i64 a', .int .u64 s'] ∧ (a ≤ a' ∧ a' ≤ a + 6) ∧ (0 ≤ s' ∧ s' < 18446744073709551616) ∧ Ext (inO (some c)) G w G' w' := by
 refine s_enter (n := 12) Tryz.func154 Tryz.ntmps154 rfl rfl ?_
 have hX0 : Ext (inO (some c)) G w G w := Ext.refl hP
 have hm := hc.max
 refine s_seq (c_reg ?_)
 refine q1 rfl rfl rfl (o_alloc [(.int .i64 0), (.int .i64 0)] zr50 rfl hX0.pins (fun b1 w2 hk3 hb4 hp5 hl6 => ?_))
 have hX7 := hX0.step hp5 hl6
 have hb8 := hB.below hl6
 have ha9 : Apart (some b1) (some c) := new_ne_box (congrArg some hk3) hB.lt
 have hlo10 : w.heap.size ≤ b1 := by have := hX0.size; omega
 refine qe (s_then (s_seq (c_reg ?_)))
 refine qd rfl rfl rfl (r_move (v := (.pointer (some ⟨c, 0, none⟩))) rfl) (q1 rfl rfl rfl (o_call (vs := [(.pointer (some ⟨c, 0, none⟩)), (.int .i64 41)]) Tryz.func41 nm41 rfl rfl rfl ?_))
 refine Calls.mono (pick_spec hX7.pins hb8 hc (by omega) (by omega) (n := 41) (by omega)) ?_
 rintro _ w15 ⟨z11, a13, s14, rfl, hz12, hb16, hda17, hds18, hx19⟩
 refine ⟨_, rfl, ?_⟩
 have hX20 := hX7.trans hx19 (fun i hi => lo_self i hi)
 have hb21 := hb4.extS hx19 (notOb ha9)
 refine qd rfl rfl rfl (r_sub rfl rfl (by omega)) (qd rfl rfl rfl (r_assign (v := (.int .i64 (z11 - 20))) rfl) (qe (s_then (s_seq (c_reg ?_)))))
 refine qd rfl rfl rfl (r_move (v := (.int .i64 (z11 - 20))) rfl) (qd rfl rfl rfl (r_move (v := (.pointer (some ⟨c, 0, none⟩))) rfl) (q1 rfl rfl rfl (o_buildF (E := eInt) (e := 3) [(.int .i64 0), (.int .i64 0), (.int .i64 1), (.int .i64 2), (.int .i64 3), (.int .i64 5)] [0, 0, 1, 2, 3, 5] Tryz.underlying57 sz3 zr3 (repsC (by rfl) (repsC (by rfl) (repsC (by rfl) (repsC (by rfl) (repsC (by rfl) (repsC (by rfl) repsN)))))) (onesC (by rfl) (onesC (by rfl) (onesC (by rfl) (onesC (by rfl) (onesC (by rfl) (onesC (by rfl) onesN)))))) rfl rfl rfl rfl (by decide) hX20.pins (fun u22 w23 ho24 hp25 hl26 hk27 => ?_))))
 have hX28 := hX20.step hp25 hl26
 have hb29 := hb16.below hl26
 have hb30 := hb21.below hl26
 have ha31 : Apart u22.ownBlock (some c) := new_ne_box hk27 hb16.lt
 have ha32 : Apart u22.ownBlock (some b1) := new_ne_box hk27 hb21.lt
 have ho33 : Own eInt 3 G w23 w.heap.size u22 ([0, 0, 1, 2, 3, 5]) := ho24.weaken hX20.size
 obtain ⟨G34, hle37, hX36, hr35, hf38⟩ := ho33.sealed hX28
 have hb39 := hb29.moreO hf38 ha31.symm
 have hb40 := hb30.moreO hf38 ha32.symm
 refine q1 rfl rfl rfl (o_call (vs := [(.pointer (some ⟨c, 0, none⟩)), u22]) Tryz.func100 nm100 rfl rfl rfl ?_)
 refine Calls.mono (among_spec hX36.pins hb39 (hc.mono hle37) (by omega) (by omega) hr35 (by simp)) ?_
 rintro _ w45 ⟨z41, a43, s44, rfl, hz42, hb46, hda47, hds48, hx49⟩
 refine ⟨_, rfl, ?_⟩
 have hX50 := hX36.trans hx49 (fun i hi => lo_self i hi)
 have hb51 := hb40.extS hx49 (notOb ha9)
 simp only [List.mem_cons, List.not_mem_nil, or_false] at hz42
 obtain ⟨pw52, hpw53⟩ : ∃ n : Nat, (z41) = (n : Int) := ⟨(z41).toNat, by omega⟩
 have hpl54 : pw52 ≤ 64 := by omega
 refine q1 rfl rfl rfl (o_call (vs := [(.int .i64 (z11 - 20)), (.int .i64 z41)]) Tryz.func155 nm155 rfl rfl rfl ?_)
 refine Calls.mono (by rw [hpw53]; exact l2Make_spec (p := pw52) hX50.pins (by omega) (by omega)) ?_
 rintro _ w56 ⟨G55, rfl, hx57⟩
 refine ⟨_, rfl, ?_⟩
 have hX58 := hX50.tr hx57
 have hb59 := hb46.ext hx57
 have hb60 := hb51.ext hx57
 refine q0 rfl rfl rfl (o_stp (cs' := [(.int .i64 ((lowD pw52 (z11 - 20)).1)), (.int .i64 (((lowD pw52 (z11 - 20)).2 : Nat) : Int))]) (us := [(.int .i64 ((lowD pw52 (z11 - 20)).1)), (.int .i64 (((lowD pw52 (z11 - 20)).2 : Nat) : Int))]) (v := (.agg [(.int .i64 ((lowD pw52 (z11 - 20)).1)), (.int .i64 (((lowD pw52 (z11 - 20)).2 : Nat) : Int))].toArray)) sz50 rfl rfl rfl (ones2 (by rfl) (by rfl)) hX58.pins hb60 (Nat.le_of_ble_eq_true rfl) rfl (fun w61 hb62 hp63 hg64 hz65 => ?_))
 have hX66 := hX58.write hp63 hg64 ((lo_box hlo10))
 have hb67 := hb59.keptA hg64 ha9.symm
 refine qe (s_then ?_)
 exact wp_ret (s_ret (c_retc (cs := [(.int .i64 ((lowD pw52 (z11 - 20)).1)), (.int .i64 (((lowD pw52 (z11 - 20)).2 : Nat) : Int))]) rfl rfl rfl ag50 sz50 (fun j u hj => by rw [Nat.zero_add]; exact hb62.cell hj) (⟨_, _, _, _, _, rfl, hb67, (by omega), (by omega), hX66⟩)))

theorem anyDyadic_spec {w : World} {G : Pin} {c : Nat} {cv : Value} {code : List UInt8} {a s : Int} (hP : Pins G w) (hB : Bx G w c [cv, .int .i64 a, .int .u64 s]) (hc : RSl eByte G cv code) (ha : 0 ≤ a ∧ a + 16 ≤ 1000000) (hs : 0 ≤ s ∧ s < 18446744073709551616) :
  Calls Tryz.prog 128 [(.pointer (some ⟨c, 0, none⟩))].toArray w fun e w' => ∃ (t z : Int) (a' s' : Int) (G' : Pin), e = .returned (.agg [.int .i64 t, .int .i64 z].toArray) ∧ Bx G' w' c [cv, .int .i64 a', .int .u64 s'] ∧ (a ≤ a' ∧ a' ≤ a + 16) ∧ (0 ≤ s' ∧ s' < 18446744073709551616) ∧ Ext (inO (some c)) G w G' w' := by
 refine s_enter (n := 40) Tryz.func128 Tryz.ntmps128 rfl rfl ?_
 have hX0 : Ext (inO (some c)) G w G w := Ext.refl hP
 have hm := hc.max
 refine s_seq (c_reg ?_)
 refine q1 rfl rfl rfl (o_alloc [(.int .i64 0), (.int .i64 0)] zr50 rfl hX0.pins (fun b1 w2 hk3 hb4 hp5 hl6 => ?_))
 have hX7 := hX0.step hp5 hl6
 have hb8 := hB.below hl6
 have ha9 : Apart (some b1) (some c) := new_ne_box (congrArg some hk3) hB.lt
 have hlo10 : w.heap.size ≤ b1 := by have := hX0.size; omega
 refine qe (s_then (s_seq (c_reg ?_)))
 refine qd rfl rfl rfl (r_move (v := (.pointer (some ⟨c, 0, none⟩))) rfl) (q1 rfl rfl rfl (o_call (vs := [(.pointer (some ⟨c, 0, none⟩))]) Tryz.func154 nm154 rfl rfl rfl ?_))
 refine Calls.mono (dyadic_spec hX7.pins hb8 hc (by omega) (by omega)) ?_
 rintro _ w16 ⟨t11, z12, a13, s14, G15, rfl, hb17, hda18, hds19, hx20⟩
 refine ⟨_, rfl, ?_⟩
 have hX21 := hX7.trans hx20 (fun i hi => lo_self i hi)
 have hb22 := hb4.extS hx20 (notOb ha9)
 refine q1 rfl rfl rfl (o_alloc [(.int .i64 0), (.int .i64 0)] zr50 rfl hX21.pins (fun b23 w24 hk25 hb26 hp27 hl28 => ?_))
 have hX29 := hX21.step hp27 hl28
 have hb30 := hb17.below hl28
 have hb31 := hb22.below hl28
 have ha32 : Apart (some b23) (some c) := new_ne_box (congrArg some hk25) hb17.lt
 have ha33 : Apart (some b23) (some b1) := new_ne_box (congrArg some hk25) hb22.lt
 have hlo34 : w.heap.size ≤ b23 := by have := hX21.size; omega
 refine q0 rfl rfl rfl (o_stp (cs' := [(.int .i64 t11), (.int .i64 z12)]) (us := [(.int .i64 t11), (.int .i64 z12)]) (v := (.agg [(.int .i64 t11), (.int .i64 z12)].toArray)) sz50 rfl rfl rfl (ones2 (by rfl) (by rfl)) hX29.pins hb26 (Nat.le_of_ble_eq_true rfl) rfl (fun w35 hb36 hp37 hg38 hz39 => ?_))
 have hX40 := hX29.write hp37 hg38 ((lo_box hlo34))
 have hb41 := hb30.keptA hg38 ha32.symm
 have hb42 := hb31.keptA hg38 ha33.symm
 refine qe (s_then (s_seq (s_seq (c_reg ?_))))
 refine qd rfl rfl rfl (r_move (v := (.pointer (some ⟨c, 0, none⟩))) rfl) (q1 rfl rfl rfl (o_call (vs := [(.pointer (some ⟨c, 0, none⟩)), (.int .i64 20)]) Tryz.func41 nm41 rfl rfl rfl ?_))
 refine Calls.mono (pick_spec hX40.pins hb41 (hc.mono hx20.le) (by omega) (by omega) (n := 20) (by omega)) ?_
 rintro _ w47 ⟨z43, a45, s46, rfl, hz44, hb48, hda49, hds50, hx51⟩
 refine ⟨_, rfl, ?_⟩
 have hX52 := hX40.trans hx51 (fun i hi => lo_self i hi)
 have hb53 := hb42.extS hx51 (notOb ha9)
 have hb54 := hb36.extS hx51 (notOb ha32)
 refine qe (s_then ?_)
 refine s_blk (s_seq (c_reg ?_))
 refine qd rfl rfl rfl (r_eql rfl rfl) (qd rfl rfl rfl (r_assign (v := (.bool (decide ((z43 : Int) = 0)))) rfl) (qe (s_then ?_)))
 refine c_ifd (p := (z43 : Int) = 0) rfl rfl (fun h55 => ?_) (fun h55 => ?_)
 refine c_reg (qd rfl rfl rfl (r_move (v := (.pointer (some ⟨c, 0, none⟩))) rfl) (q1 rfl rfl rfl (o_buildF (E := eInt) (e := 3) [(.int .i64 1000000), (.int .i64 (-1000000)), (.int .i64 1000001), (.int .i64 (-1000001)), (.int .i64 999999)] [1000000, (-1000000), 1000001, (-1000001), 999999] Tryz.underlying57 sz3 zr3 (repsC (by rfl) (repsC (by rfl) (repsC (by rfl) (repsC (by rfl) (repsC (by rfl) repsN))))) (onesC (by rfl) (onesC (by rfl) (onesC (by rfl) (onesC (by rfl) (onesC (by rfl) onesN))))) rfl rfl rfl rfl (by decide) hX52.pins (fun u56 w57 ho58 hp59 hl60 hk61 => ?_))))
 have hX62 := hX52.step hp59 hl60
 have hb63 := hb48.below hl60
 have hb64 := hb53.below hl60
 have hb65 := hb54.below hl60
 have ha66 : Apart u56.ownBlock (some c) := new_ne_box hk61 hb48.lt
 have ha67 : Apart u56.ownBlock (some b1) := new_ne_box hk61 hb53.lt
 have ha68 : Apart u56.ownBlock (some b23) := new_ne_box hk61 hb54.lt
 have ho69 : Own eInt 3 G15 w57 w.heap.size u56 ([1000000, (-1000000), 1000001, (-1000001), 999999]) := ho58.weaken hX52.size
 obtain ⟨G70, hle73, hX72, hr71, hf74⟩ := ho69.sealed hX62
 have hb75 := hb63.moreO hf74 ha66.symm
 have hb76 := hb64.moreO hf74 ha67.symm
 have hb77 := hb65.moreO hf74 ha68.symm
 refine q1 rfl rfl rfl (o_call (vs := [(.pointer (some ⟨c, 0, none⟩)), u56]) Tryz.func100 nm100 rfl rfl rfl ?_)
 refine Calls.mono (among_spec hX72.pins hb75 (hc.mono (Pin.le_trans hx20.le hle73)) (by omega) (by omega) hr71 (by simp)) ?_
 rintro _ w82 ⟨z78, a80, s81, rfl, hz79, hb83, hda84, hds85, hx86⟩
 refine ⟨_, rfl, ?_⟩
 have hX87 := hX72.trans hx86 (fun i hi => lo_self i hi)
 have hb88 := hb76.extS hx86 (notOb ha9)
 have hb89 := hb77.extS hx86 (notOb ha32)
 simp only [List.mem_cons, List.not_mem_nil, or_false] at hz79
 refine qd rfl rfl rfl (r_fldp (k := 0) rfl Tryz.underlying50 rfl nz3 rfl) (q0 rfl rfl rfl (o_stp (cs' := [(.int .i64 z78), (.int .i64 z12)]) (us := [(.int .i64 z78)]) (v := (.int .i64 z78)) sz3 rfl rfl rfl (ones1 (by rfl)) hX87.pins hb89 (Nat.le_of_ble_eq_true rfl) rfl (fun w90 hb91 hp92 hg93 hz94 => ?_)))
 have hX95 := hX87.write hp92 hg93 ((lo_box hlo34))
 have hb96 := hb83.keptA hg93 ha32.symm
 have hb97 := hb88.keptA hg93 ha33.symm
 refine qe (s_blkN (s_then (s_seq (c_reg ?_))))
 refine qd rfl rfl rfl (r_ldpA (cs := [(.int .i64 z78), (.int .i64 z12)]) ag50 sz50 rfl (fun j u hj => hb91.cell (by simpa using hj))) (q0 rfl rfl rfl (o_stp (cs' := [(.int .i64 z78), (.int .i64 z12)]) (us := [(.int .i64 z78), (.int .i64 z12)]) (v := (.agg [(.int .i64 z78), (.int .i64 z12)].toArray)) sz50 rfl rfl rfl (ones2 (by rfl) (by rfl)) hX95.pins hb97 (Nat.le_of_ble_eq_true rfl) rfl (fun w98 hb99 hp100 hg101 hz102 => ?_)))
 have hX103 := hX95.write hp100 hg101 ((lo_box hlo10))
 have hb104 := hb96.keptA hg101 ha9.symm
 refine qe (s_then ?_)
 exact wp_ret (s_ret (c_retc (cs := [(.int .i64 z78), (.int .i64 z12)]) rfl rfl rfl ag50 sz50 (fun j u hj => by rw [Nat.zero_add]; exact hb99.cell hj) (⟨_, _, _, _, _, rfl, hb104, (by omega), (by omega), hX103⟩)))
 refine s_seq (c_reg ?_)
 refine qd rfl rfl rfl (r_eql rfl rfl) (qd rfl rfl rfl (r_assign (v := (.bool (decide ((z43 : Int) = 1)))) rfl) (qe (s_then ?_)))
 refine c_ifd (p := (z43 : Int) = 1) rfl rfl (fun h106 => ?_) (fun h106 => ?_)
 refine c_reg (qd rfl rfl rfl (r_move (v := (.pointer (some ⟨c, 0, none⟩))) rfl) (q1 rfl rfl rfl (o_buildF (E := eInt) (e := 3) [(.int .i64 (-1)), (.int .i64 16), (.int .i64 17)] [(-1), 16, 17] Tryz.underlying57 sz3 zr3 (by exact reps3 (by rfl) (by rfl) (by rfl)) (ones3 (by rfl) (by rfl) (by rfl)) rfl rfl rfl rfl (by decide) hX52.pins (fun u107 w108 ho109 hp110 hl111 hk112 => ?_))))
 have hX113 := hX52.step hp110 hl111
 have hb114 := hb48.below hl111
 have hb115 := hb53.below hl111
 have hb116 := hb54.below hl111
 have ha117 : Apart u107.ownBlock (some c) := new_ne_box hk112 hb48.lt
 have ha118 : Apart u107.ownBlock (some b1) := new_ne_box hk112 hb53.lt
 have ha119 : Apart u107.ownBlock (some b23) := new_ne_box hk112 hb54.lt
 have ho120 : Own eInt 3 G15 w108 w.heap.size u107 ([(-1), 16, 17]) := ho109.weaken hX52.size
 obtain ⟨G121, hle124, hX123, hr122, hf125⟩ := ho120.sealed hX113
 have hb126 := hb114.moreO hf125 ha117.symm
 have hb127 := hb115.moreO hf125 ha118.symm
 have hb128 := hb116.moreO hf125 ha119.symm
 refine q1 rfl rfl rfl (o_call (vs := [(.pointer (some ⟨c, 0, none⟩)), u107]) Tryz.func100 nm100 rfl rfl rfl ?_)
 refine Calls.mono (among_spec hX123.pins hb126 (hc.mono (Pin.le_trans hx20.le hle124)) (by omega) (by omega) hr122 (by simp)) ?_
 rintro _ w133 ⟨z129, a131, s132, rfl, hz130, hb134, hda135, hds136, hx137⟩
 refine ⟨_, rfl, ?_⟩
 have hX138 := hX123.trans hx137 (fun i hi => lo_self i hi)
 have hb139 := hb127.extS hx137 (notOb ha9)
 have hb140 := hb128.extS hx137 (notOb ha32)
 simp only [List.mem_cons, List.not_mem_nil, or_false] at hz130
 refine qd rfl rfl rfl (r_fldp (k := 1) rfl Tryz.underlying50 rfl nz3 rfl) (q0 rfl rfl rfl (o_stp (cs' := [(.int .i64 t11), (.int .i64 z129)]) (us := [(.int .i64 z129)]) (v := (.int .i64 z129)) sz3 rfl rfl rfl (ones1 (by rfl)) hX138.pins hb140 (Nat.le_of_ble_eq_true rfl) rfl (fun w141 hb142 hp143 hg144 hz145 => ?_)))
 have hX146 := hX138.write hp143 hg144 ((lo_box hlo34))
 have hb147 := hb134.keptA hg144 ha32.symm
 have hb148 := hb139.keptA hg144 ha33.symm
 refine qe (s_blkN (s_then (s_seq (c_reg ?_))))
 refine qd rfl rfl rfl (r_ldpA (cs := [(.int .i64 t11), (.int .i64 z129)]) ag50 sz50 rfl (fun j u hj => hb142.cell (by simpa using hj))) (q0 rfl rfl rfl (o_stp (cs' := [(.int .i64 t11), (.int .i64 z129)]) (us := [(.int .i64 t11), (.int .i64 z129)]) (v := (.agg [(.int .i64 t11), (.int .i64 z129)].toArray)) sz50 rfl rfl rfl (ones2 (by rfl) (by rfl)) hX146.pins hb148 (Nat.le_of_ble_eq_true rfl) rfl (fun w149 hb150 hp151 hg152 hz153 => ?_)))
 have hX154 := hX146.write hp151 hg152 ((lo_box hlo10))
 have hb155 := hb147.keptA hg152 ha9.symm
 refine qe (s_then ?_)
 exact wp_ret (s_ret (c_retc (cs := [(.int .i64 t11), (.int .i64 z129)]) rfl rfl rfl ag50 sz50 (fun j u hj => by rw [Nat.zero_add]; exact hb150.cell hj) (⟨_, _, _, _, _, rfl, hb155, (by omega), (by omega), hX154⟩)))
 refine s_seq (c_reg ?_)
 refine qd rfl rfl rfl (r_eql rfl rfl) (qd rfl rfl rfl (r_assign (v := (.bool (decide ((z43 : Int) = 2)))) rfl) (qe (s_then ?_)))
 refine c_ifd (p := (z43 : Int) = 2) rfl rfl (fun h157 => ?_) (fun h157 => ?_)
 refine c_reg (qd rfl rfl rfl (r_move (v := (.pointer (some ⟨c, 0, none⟩))) rfl) (q1 rfl rfl rfl (o_call (vs := [(.pointer (some ⟨c, 0, none⟩)), (.int .i64 4)]) Tryz.func41 nm41 rfl rfl rfl ?_)))
 refine Calls.mono (pick_spec hX52.pins hb48 (hc.mono hx20.le) (by omega) (by omega) (n := 4) (by omega)) ?_
 rintro _ w162 ⟨z158, a160, s161, rfl, hz159, hb163, hda164, hds165, hx166⟩
 refine ⟨_, rfl, ?_⟩
 have hX167 := hX52.trans hx166 (fun i hi => lo_self i hi)
 have hb168 := hb53.extS hx166 (notOb ha9)
 have hb169 := hb54.extS hx166 (notOb ha32)
 refine qd rfl rfl rfl (r_mul rfl rfl (by omega)) (qd rfl rfl rfl (r_move (v := (.pointer (some ⟨c, 0, none⟩))) rfl) (q1 rfl rfl rfl (o_call (vs := [(.pointer (some ⟨c, 0, none⟩)), (.int .i64 3)]) Tryz.func41 nm41 rfl rfl rfl ?_)))
 refine Calls.mono (pick_spec hX167.pins hb163 (hc.mono hx20.le) (by omega) (by omega) (n := 3) (by omega)) ?_
 rintro _ w174 ⟨z170, a172, s173, rfl, hz171, hb175, hda176, hds177, hx178⟩
 refine ⟨_, rfl, ?_⟩
 have hX179 := hX167.trans hx178 (fun i hi => lo_self i hi)
 have hb180 := hb168.extS hx178 (notOb ha9)
 have hb181 := hb169.extS hx178 (notOb ha32)
 refine qd rfl rfl rfl (r_add rfl rfl (by omega)) (qd rfl rfl rfl (r_build [(.int .i64 0), (.int .i64 0)] [(.int .i64 (2 * z158)), (.int .i64 (1 + z170))] [(0, (.int .i64 (2 * z158)), [(.int .i64 (2 * z158))]), (1, (.int .i64 (1 + z170)), [(.int .i64 (1 + z170))])] Tryz.underlying50 zr50 rfl pl50 rfl (List.forall_mem_cons.2 ⟨rfl, (List.forall_mem_cons.2 ⟨rfl, (fun _ h => by cases h)⟩)⟩) rfl) (q0 rfl rfl rfl (o_stp (cs' := [(.int .i64 (2 * z158)), (.int .i64 (1 + z170))]) (us := [(.int .i64 (2 * z158)), (.int .i64 (1 + z170))]) (v := (.agg [(.int .i64 (2 * z158)), (.int .i64 (1 + z170))].toArray)) sz50 rfl rfl rfl (ones2 (by rfl) (by rfl)) hX179.pins hb181 (Nat.le_of_ble_eq_true rfl) rfl (fun w182 hb183 hp184 hg185 hz186 => ?_))))
 have hX187 := hX179.write hp184 hg185 ((lo_box hlo34))
 have hb188 := hb175.keptA hg185 ha32.symm
 have hb189 := hb180.keptA hg185 ha33.symm
 refine qe (s_blkN (s_then (s_seq (c_reg ?_))))
 refine qd rfl rfl rfl (r_ldpA (cs := [(.int .i64 (2 * z158)), (.int .i64 (1 + z170))]) ag50 sz50 rfl (fun j u hj => hb183.cell (by simpa using hj))) (q0 rfl rfl rfl (o_stp (cs' := [(.int .i64 (2 * z158)), (.int .i64 (1 + z170))]) (us := [(.int .i64 (2 * z158)), (.int .i64 (1 + z170))]) (v := (.agg [(.int .i64 (2 * z158)), (.int .i64 (1 + z170))].toArray)) sz50 rfl rfl rfl (ones2 (by rfl) (by rfl)) hX187.pins hb189 (Nat.le_of_ble_eq_true rfl) rfl (fun w190 hb191 hp192 hg193 hz194 => ?_)))
 have hX195 := hX187.write hp192 hg193 ((lo_box hlo10))
 have hb196 := hb188.keptA hg193 ha9.symm
 refine qe (s_then ?_)
 exact wp_ret (s_ret (c_retc (cs := [(.int .i64 (2 * z158)), (.int .i64 (1 + z170))]) rfl rfl rfl ag50 sz50 (fun j u hj => by rw [Nat.zero_add]; exact hb191.cell hj) (⟨_, _, _, _, _, rfl, hb196, (by omega), (by omega), hX195⟩)))
 refine s_seq (c_reg ?_)
 refine qd rfl rfl rfl (r_eql rfl rfl) (qd rfl rfl rfl (r_assign (v := (.bool (decide ((z43 : Int) = 3)))) rfl) (qe (s_then ?_)))
 refine c_ifd (p := (z43 : Int) = 3) rfl rfl (fun h198 => ?_) (fun h198 => ?_)
 refine c_reg (qd rfl rfl rfl (r_move (v := (.pointer (some ⟨c, 0, none⟩))) rfl) (q1 rfl rfl rfl (o_call (vs := [(.pointer (some ⟨c, 0, none⟩)), (.int .i64 400)]) Tryz.func41 nm41 rfl rfl rfl ?_)))
 refine Calls.mono (pick_spec hX52.pins hb48 (hc.mono hx20.le) (by omega) (by omega) (n := 400) (by omega)) ?_
 rintro _ w203 ⟨z199, a201, s202, rfl, hz200, hb204, hda205, hds206, hx207⟩
 refine ⟨_, rfl, ?_⟩
 have hX208 := hX52.trans hx207 (fun i hi => lo_self i hi)
 have hb209 := hb53.extS hx207 (notOb ha9)
 have hb210 := hb54.extS hx207 (notOb ha32)
 refine qd rfl rfl rfl (r_mul rfl rfl (by omega)) (qd rfl rfl rfl (r_add rfl rfl (by omega)) (qd rfl rfl rfl (r_move (v := (.pointer (some ⟨c, 0, none⟩))) rfl) (q1 rfl rfl rfl (o_buildF (E := eInt) (e := 3) [(.int .i64 14), (.int .i64 15), (.int .i64 16)] [14, 15, 16] Tryz.underlying57 sz3 zr3 (by exact reps3 (by rfl) (by rfl) (by rfl)) (ones3 (by rfl) (by rfl) (by rfl)) rfl rfl rfl rfl (by decide) hX208.pins (fun u211 w212 ho213 hp214 hl215 hk216 => ?_)))))
 have hX217 := hX208.step hp214 hl215
 have hb218 := hb204.below hl215
 have hb219 := hb209.below hl215
 have hb220 := hb210.below hl215
 have ha221 : Apart u211.ownBlock (some c) := new_ne_box hk216 hb204.lt
 have ha222 : Apart u211.ownBlock (some b1) := new_ne_box hk216 hb209.lt
 have ha223 : Apart u211.ownBlock (some b23) := new_ne_box hk216 hb210.lt
 have ho224 : Own eInt 3 G15 w212 w.heap.size u211 ([14, 15, 16]) := ho213.weaken hX208.size
 obtain ⟨G225, hle228, hX227, hr226, hf229⟩ := ho224.sealed hX217
 have hb230 := hb218.moreO hf229 ha221.symm
 have hb231 := hb219.moreO hf229 ha222.symm
 have hb232 := hb220.moreO hf229 ha223.symm
 refine q1 rfl rfl rfl (o_call (vs := [(.pointer (some ⟨c, 0, none⟩)), u211]) Tryz.func100 nm100 rfl rfl rfl ?_)
 refine Calls.mono (among_spec hX227.pins hb230 (hc.mono (Pin.le_trans hx20.le hle228)) (by omega) (by omega) hr226 (by simp)) ?_
 rintro _ w237 ⟨z233, a235, s236, rfl, hz234, hb238, hda239, hds240, hx241⟩
 refine ⟨_, rfl, ?_⟩
 have hX242 := hX227.trans hx241 (fun i hi => lo_self i hi)
 have hb243 := hb231.extS hx241 (notOb ha9)
 have hb244 := hb232.extS hx241 (notOb ha32)
 simp only [List.mem_cons, List.not_mem_nil, or_false] at hz234
 obtain ⟨pw245, hpw246⟩ : ∃ n : Nat, (z233) = (n : Int) := ⟨(z233).toNat, by omega⟩
 have hpl247 : pw245 ≤ 64 := by omega
 refine q1 rfl rfl rfl (o_call (vs := [(.int .i64 ((z199 * 2) + 1)), (.int .i64 z233)]) Tryz.func155 nm155 rfl rfl rfl ?_)
 refine Calls.mono (by rw [hpw246]; exact l2Make_spec (p := pw245) hX242.pins (by omega) (by omega)) ?_
 rintro _ w249 ⟨G248, rfl, hx250⟩
 refine ⟨_, rfl, ?_⟩
 have hX251 := hX242.tr hx250
 have hb252 := hb238.ext hx250
 have hb253 := hb243.ext hx250
 have hb254 := hb244.ext hx250
 refine q0 rfl rfl rfl (o_stp (cs' := [(.int .i64 ((lowD pw245 ((z199 * 2) + 1)).1)), (.int .i64 (((lowD pw245 ((z199 * 2) + 1)).2 : Nat) : Int))]) (us := [(.int .i64 ((lowD pw245 ((z199 * 2) + 1)).1)), (.int .i64 (((lowD pw245 ((z199 * 2) + 1)).2 : Nat) : Int))]) (v := (.agg [(.int .i64 ((lowD pw245 ((z199 * 2) + 1)).1)), (.int .i64 (((lowD pw245 ((z199 * 2) + 1)).2 : Nat) : Int))].toArray)) sz50 rfl rfl rfl (ones2 (by rfl) (by rfl)) hX251.pins hb254 (Nat.le_of_ble_eq_true rfl) rfl (fun w255 hb256 hp257 hg258 hz259 => ?_))
 have hX260 := hX251.write hp257 hg258 ((lo_box hlo34))
 have hb261 := hb252.keptA hg258 ha32.symm
 have hb262 := hb253.keptA hg258 ha33.symm
 refine qe (s_blkN (s_then (s_seq (c_reg ?_))))
 refine qd rfl rfl rfl (r_ldpA (cs := [(.int .i64 ((lowD pw245 ((z199 * 2) + 1)).1)), (.int .i64 (((lowD pw245 ((z199 * 2) + 1)).2 : Nat) : Int))]) ag50 sz50 rfl (fun j u hj => hb256.cell (by simpa using hj))) (q0 rfl rfl rfl (o_stp (cs' := [(.int .i64 ((lowD pw245 ((z199 * 2) + 1)).1)), (.int .i64 (((lowD pw245 ((z199 * 2) + 1)).2 : Nat) : Int))]) (us := [(.int .i64 ((lowD pw245 ((z199 * 2) + 1)).1)), (.int .i64 (((lowD pw245 ((z199 * 2) + 1)).2 : Nat) : Int))]) (v := (.agg [(.int .i64 ((lowD pw245 ((z199 * 2) + 1)).1)), (.int .i64 (((lowD pw245 ((z199 * 2) + 1)).2 : Nat) : Int))].toArray)) sz50 rfl rfl rfl (ones2 (by rfl) (by rfl)) hX260.pins hb262 (Nat.le_of_ble_eq_true rfl) rfl (fun w263 hb264 hp265 hg266 hz267 => ?_)))
 have hX268 := hX260.write hp265 hg266 ((lo_box hlo10))
 have hb269 := hb261.keptA hg266 ha9.symm
 refine qe (s_then ?_)
 exact wp_ret (s_ret (c_retc (cs := [(.int .i64 ((lowD pw245 ((z199 * 2) + 1)).1)), (.int .i64 (((lowD pw245 ((z199 * 2) + 1)).2 : Nat) : Int))]) rfl rfl rfl ag50 sz50 (fun j u hj => by rw [Nat.zero_add]; exact hb264.cell hj) (⟨_, _, _, _, _, rfl, hb269, (by omega), (by omega), hX268⟩)))
 refine wp_skip (s_blkN (s_then (s_seq (c_reg ?_))))
 refine qd rfl rfl rfl (r_ldpA (cs := [(.int .i64 t11), (.int .i64 z12)]) ag50 sz50 rfl (fun j u hj => hb54.cell (by simpa using hj))) (q0 rfl rfl rfl (o_stp (cs' := [(.int .i64 t11), (.int .i64 z12)]) (us := [(.int .i64 t11), (.int .i64 z12)]) (v := (.agg [(.int .i64 t11), (.int .i64 z12)].toArray)) sz50 rfl rfl rfl (ones2 (by rfl) (by rfl)) hX52.pins hb53 (Nat.le_of_ble_eq_true rfl) rfl (fun w271 hb272 hp273 hg274 hz275 => ?_)))
 have hX276 := hX52.write hp273 hg274 ((lo_box hlo10))
 have hb277 := hb48.keptA hg274 ha9.symm
 refine qe (s_then ?_)
 exact wp_ret (s_ret (c_retc (cs := [(.int .i64 t11), (.int .i64 z12)]) rfl rfl rfl ag50 sz50 (fun j u hj => by rw [Nat.zero_add]; exact hb272.cell hj) (⟨_, _, _, _, _, rfl, hb277, (by omega), (by omega), hX276⟩)))

theorem drDrawAddDyadic_spec {w : World} {G : Pin} {v : Value} {code : List UInt8} (hP : Pins G w) (hc : RSl eByte G v code) :
  Calls Tryz.prog 79 [v].toArray w fun e w' => ∃ (t z s y : Int) (G' : Pin), e = .returned (.tuple #[(.agg [.int .i64 t, .int .i64 z].toArray), (.agg [.int .i64 s, .int .i64 y].toArray)]) ∧ Ext noS G w G' w' := by
 refine s_enter (n := 14) Tryz.func79 Tryz.ntmps79 rfl rfl ?_
 have hX0 : Ext noS G w G w := Ext.refl hP
 have hm := hc.max
 refine s_seq (c_reg ?_)
 refine q1 rfl rfl rfl (o_alloc [(.int .i64 0), (.int .i64 0)] zr50 rfl hX0.pins (fun b1 w2 hk3 hb4 hp5 hl6 => ?_))
 have hX7 := hX0.step hp5 hl6
 have hlo8 : w.heap.size ≤ b1 := by have := hX0.size; omega
 refine q1 rfl rfl rfl (o_alloc [(.int .i64 0), (.int .i64 0)] zr50 rfl hX7.pins (fun b9 w10 hk11 hb12 hp13 hl14 => ?_))
 have hX15 := hX7.step hp13 hl14
 have hb16 := hb4.below hl14
 have ha17 : Apart (some b9) (some b1) := new_ne_box (congrArg some hk11) hb4.lt
 have hlo18 : w.heap.size ≤ b9 := by have := hX7.size; omega
 refine qe (s_then (s_seq (c_reg ?_)))
 refine qd rfl rfl rfl (r_move (v := v) rfl) (qd rfl rfl rfl (r_build [(.slice none 0 0), (.int .i64 0), (.int .u64 0)] [v, (.int .i64 0), (.int .u64 0)] [(0, v, [v])] Tryz.underlying63 zr63 rfl pl63 rfl (List.forall_mem_cons.2 ⟨(cells_one hc.one), (fun _ h => by cases h)⟩) rfl) (q1 rfl rfl rfl (o_box [v, (.int .i64 0), (.int .u64 0)] (v := (.agg [v, (.int .i64 0), (.int .u64 0)].toArray)) rfl rfl hX15.pins (fun b19 w20 hk21 hb22 hp23 hl24 => ?_))))
 have hX25 := hX15.step hp23 hl24
 have hb26 := hb16.below hl24
 have hb27 := hb12.below hl24
 have ha28 : Apart (some b19) (some b1) := new_ne_box (congrArg some hk21) hb16.lt
 have ha29 : Apart (some b19) (some b9) := new_ne_box (congrArg some hk21) hb12.lt
 have hlo30 : w.heap.size ≤ b19 := by have := hX15.size; omega
 refine qd rfl rfl rfl (r_assign (v := (.pointer (some ⟨b19, 0, none⟩))) rfl) (qe (s_then (s_seq (c_reg ?_))))
 refine qd rfl rfl rfl (r_move (v := (.pointer (some ⟨b19, 0, none⟩))) rfl) (q1 rfl rfl rfl (o_call (vs := [(.pointer (some ⟨b19, 0, none⟩))]) Tryz.func128 nm128 rfl rfl rfl ?_))
 refine Calls.mono (anyDyadic_spec hX25.pins hb22 hc (by omega) (by omega)) ?_
 rintro _ w36 ⟨t31, z32, a33, s34, G35, rfl, hb37, hda38, hds39, hx40⟩
 refine ⟨_, rfl, ?_⟩
 have hX41 := hX25.trans hx40 (fun i hi => (lo_box hlo30) i hi)
 have hb42 := hb26.extS hx40 (notOb ha28.symm)
 have hb43 := hb27.extS hx40 (notOb ha29.symm)
 refine q1 rfl rfl rfl (o_alloc [(.int .i64 0), (.int .i64 0)] zr50 rfl hX41.pins (fun b44 w45 hk46 hb47 hp48 hl49 => ?_))
 have hX50 := hX41.step hp48 hl49
 have hb51 := hb42.below hl49
 have hb52 := hb43.below hl49
 have hb53 := hb37.below hl49
 have ha54 : Apart (some b44) (some b1) := new_ne_box (congrArg some hk46) hb42.lt
 have ha55 : Apart (some b44) (some b9) := new_ne_box (congrArg some hk46) hb43.lt
 have ha56 : Apart (some b44) (some b19) := new_ne_box (congrArg some hk46) hb37.lt
 have hlo57 : w.heap.size ≤ b44 := by have := hX41.size; omega
 refine q0 rfl rfl rfl (o_stp (cs' := [(.int .i64 t31), (.int .i64 z32)]) (us := [(.int .i64 t31), (.int .i64 z32)]) (v := (.agg [(.int .i64 t31), (.int .i64 z32)].toArray)) sz50 rfl rfl rfl (ones2 (by rfl) (by rfl)) hX50.pins hb47 (Nat.le_of_ble_eq_true rfl) rfl (fun w58 hb59 hp60 hg61 hz62 => ?_))
 have hX63 := hX50.write hp60 hg61 ((lo_box hlo57))
 have hb64 := hb51.keptA hg61 ha54.symm
 have hb65 := hb52.keptA hg61 ha55.symm
 have hb66 := hb53.keptA hg61 ha56.symm
 refine qe (s_then (s_seq ?_))
 refine c_draw (S := fun wz => BxR wz b44 [(.int .i64 t31), (.int .i64 z32)]) (last := 4) (by kernel_rfl) rfl ?_
 have hl67 : Below w58.heap.size w58 w58.drew := (Below.refl _ _).drew
 have hp68 := hX63.pins.below hl67
 have hX69 := hX63.step hp68 hl67
 have hb70 := hb64.below hl67
 have hb71 := hb65.below hl67
 have hb72 := hb66.below hl67
 have hb73 := hb59.below hl67
 refine dr_take (i := 0) rfl rfl rfl (want_none rfl _) (by kernel_rfl) (fun _ hS => r_ldpA (cs := [(.int .i64 t31), (.int .i64 z32)]) ag50 sz50 rfl (fun j u hj => hS _ _ (by simpa using hj))) hb73.reads (dr_take (i := 1) rfl rfl rfl (want_none rfl _) (by kernel_rfl) (fun _ _ => r_move (v := (.pointer (some ⟨b19, 0, none⟩))) rfl) hb73.reads (dr_one (i := 2) (by kernel_rfl) (drOp1 (i := 2) rfl rfl rfl (want_none rfl _) (o_call (vs := [(.pointer (some ⟨b19, 0, none⟩))]) Tryz.func128 nm128 rfl rfl rfl ?_))))
 refine Calls.mono (anyDyadic_spec hX69.pins hb72 (hc.mono hx40.le) (by omega) (by omega)) ?_
 rintro _ w79 ⟨t74, z75, a76, s77, G78, rfl, hb80, hda81, hds82, hx83⟩
 refine ⟨_, rfl, ?_⟩
 have hX84 := hX69.trans hx83 (fun i hi => (lo_box hlo30) i hi)
 have hb85 := hb70.extS hx83 (notOb ha28.symm)
 have hb86 := hb71.extS hx83 (notOb ha29.symm)
 have hb87 := hb73.extS hx83 (notOb ha56)
 refine ⟨fun _ => hb87.reads, ?_⟩
 refine dr_one (i := 3) (by kernel_rfl) (drOp0 (i := 3) rfl rfl rfl (want_none rfl _) (o_stp (cs' := [(.int .i64 t31), (.int .i64 z32)]) (us := [(.int .i64 t31), (.int .i64 z32)]) (v := (.agg [(.int .i64 t31), (.int .i64 z32)].toArray)) sz50 rfl rfl rfl (ones2 (by rfl) (by rfl)) hX84.pins hb85 (Nat.le_of_ble_eq_true rfl) rfl (fun w88 hb89 hp90 hg91 hz92 => ?_)))
 have hX93 := hX84.write hp90 hg91 ((lo_box hlo8))
 have hb94 := hb86.keptA hg91 ha17
 have hb96 := hb87.keptA hg91 ha54
 refine ⟨fun _ => hb96.reads, ?_⟩
 refine dr_one (i := 4) (by kernel_rfl) (drOp0 (i := 4) rfl rfl rfl (want_none rfl _) (o_stp (cs' := [(.int .i64 t74), (.int .i64 z75)]) (us := [(.int .i64 t74), (.int .i64 z75)]) (v := (.agg [(.int .i64 t74), (.int .i64 z75)].toArray)) sz50 rfl rfl rfl (ones2 (by rfl) (by rfl)) hX93.pins hb94 (Nat.le_of_ble_eq_true rfl) rfl (fun w97 hb98 hp99 hg100 hz101 => ?_)))
 have hX102 := hX93.write hp99 hg100 ((lo_box hlo18))
 have hb103 := hb89.keptA hg100 ha17.symm
 refine ⟨fun h => absurd rfl h, ?_⟩
 exact dr_end (by kernel_rfl) (s_then (wp_ret (s_ret (c_retcc (cs := [(.int .i64 t31), (.int .i64 z32)]) (ds := [(.int .i64 t74), (.int .i64 z75)]) rfl rfl rfl rfl rfl ag50 sz50 rfl (fun j u hj => by rw [Nat.zero_add]; exact hb103.cell hj) (fun j u hj => by rw [Nat.zero_add]; exact hb98.cell hj) (⟨_, _, _, _, _, rfl, hX102⟩)))))

theorem drDrawCompareDyadic_spec {w : World} {G : Pin} {v : Value} {code : List UInt8} (hP : Pins G w) (hc : RSl eByte G v code) :
  Calls Tryz.prog 28 [v].toArray w fun e w' => ∃ (t z s y : Int) (G' : Pin), e = .returned (.tuple #[(.agg [.int .i64 t, .int .i64 z].toArray), (.agg [.int .i64 s, .int .i64 y].toArray)]) ∧ Ext noS G w G' w' := by
 refine s_enter (n := 8) Tryz.func28 Tryz.ntmps28 rfl rfl ?_
 have hX0 : Ext noS G w G w := Ext.refl hP
 have hm := hc.max
 refine s_seq (c_reg ?_)
 refine q1 rfl rfl rfl (o_alloc [(.int .i64 0), (.int .i64 0)] zr50 rfl hX0.pins (fun b1 w2 hk3 hb4 hp5 hl6 => ?_))
 have hX7 := hX0.step hp5 hl6
 have hlo8 : w.heap.size ≤ b1 := by have := hX0.size; omega
 refine q1 rfl rfl rfl (o_alloc [(.int .i64 0), (.int .i64 0)] zr50 rfl hX7.pins (fun b9 w10 hk11 hb12 hp13 hl14 => ?_))
 have hX15 := hX7.step hp13 hl14
 have hb16 := hb4.below hl14
 have ha17 : Apart (some b9) (some b1) := new_ne_box (congrArg some hk11) hb4.lt
 have hlo18 : w.heap.size ≤ b9 := by have := hX7.size; omega
 refine qe (s_then (s_seq (c_reg ?_)))
 refine qd rfl rfl rfl (r_move (v := v) rfl) (q1 rfl rfl rfl (o_call (vs := [v]) Tryz.func79 nm79 rfl rfl rfl ?_))
 refine Calls.mono (drDrawAddDyadic_spec hX15.pins hc) ?_
 rintro _ w24 ⟨t19, z20, s21, y22, G23, rfl, hx25⟩
 refine ⟨_, rfl, ?_⟩
 have hX26 := hX15.tr hx25
 have hb27 := hb16.ext hx25
 have hb28 := hb12.ext hx25
 refine qd rfl rfl rfl (r_extract (v := (.agg [(.int .i64 t19), (.int .i64 z20)].toArray)) rfl rfl) (qd rfl rfl rfl (r_extract (v := (.agg [(.int .i64 s21), (.int .i64 y22)].toArray)) rfl rfl) (q0 rfl rfl rfl (o_stp (cs' := [(.int .i64 t19), (.int .i64 z20)]) (us := [(.int .i64 t19), (.int .i64 z20)]) (v := (.agg [(.int .i64 t19), (.int .i64 z20)].toArray)) sz50 rfl rfl rfl (ones2 (by rfl) (by rfl)) hX26.pins hb27 (Nat.le_of_ble_eq_true rfl) rfl (fun w29 hb30 hp31 hg32 hz33 => ?_))))
 have hX34 := hX26.write hp31 hg32 ((lo_box hlo8))
 have hb35 := hb28.keptA hg32 ha17
 refine q0 rfl rfl rfl (o_stp (cs' := [(.int .i64 s21), (.int .i64 y22)]) (us := [(.int .i64 s21), (.int .i64 y22)]) (v := (.agg [(.int .i64 s21), (.int .i64 y22)].toArray)) sz50 rfl rfl rfl (ones2 (by rfl) (by rfl)) hX34.pins hb35 (Nat.le_of_ble_eq_true rfl) rfl (fun w36 hb37 hp38 hg39 hz40 => ?_))
 have hX41 := hX34.write hp38 hg39 ((lo_box hlo18))
 have hb42 := hb30.keptA hg39 ha17.symm
 refine qe (s_then ?_)
 exact wp_ret (s_ret (c_retcc (cs := [(.int .i64 t19), (.int .i64 z20)]) (ds := [(.int .i64 s21), (.int .i64 y22)]) rfl rfl rfl rfl rfl ag50 sz50 rfl (fun j u hj => by rw [Nat.zero_add]; exact hb42.cell hj) (fun j u hj => by rw [Nat.zero_add]; exact hb37.cell hj) (⟨_, _, _, _, _, rfl, hX41⟩)))

theorem iNumberForm_spec {w : World} {G : Pin} {t z : Int} (hP : Pins G w) :
  Calls Tryz.prog 29 [(.agg [.int .i64 t, .int .i64 z].toArray)].toArray w fun e w' => ∃ (u : Value) (G' : Pin), e = .returned (.tuple #[(.agg [u].toArray), .bool (nmB t z)]) ∧ RSl eNode G' u (nmF t z) ∧ Ext noS G w G' w' := by
 refine (iNumberForm_dspec hP).mono ?_
 rintro e w' ⟨u, G', rfl, hd, hx⟩
 obtain ⟨G2, hr, hx2⟩ := d_prom hd hx
 exact ⟨u, G2, rfl, hr, hx2⟩

theorem CompareNumber_spec {w : World} {G : Pin} {v : Value} {fs : List Nd} {t z : Int} (hP : Pins G w) (hv : RSl eNode G v fs) :
  Calls Tryz.prog 33 [(.agg [v].toArray), (.agg [(.int .i64 t), (.int .i64 z)].toArray)].toArray w fun e w' => ∃ G', e = .returned (.tuple #[.int .i64 (cnI fs t z), .bool (cnB fs t z)]) ∧ Ext noS G w G' w' := by
 refine s_enter (n := 20) Tryz.func33 Tryz.ntmps33 rfl rfl ?_
 have hX0 : Ext noS G w G w := Ext.refl hP
 refine s_seq (c_reg ?_)
 refine q1 rfl rfl rfl (o_box [v] (v := (.agg [v].toArray)) rfl rfl hX0.pins (fun b1 w2 hk3 hb4 hp5 hl6 => ?_))
 have hX7 := hX0.step hp5 hl6
 have hlo8 : w.heap.size ≤ b1 := by have := hX0.size; omega
 obtain ⟨G9, hle10, hX11, hbp12, hf13⟩ := hb4.shut hX7 hlo8
 refine q1 rfl rfl rfl (o_box [(.int .i64 t), (.int .i64 z)] (v := (.agg [(.int .i64 t), (.int .i64 z)].toArray)) rfl rfl hX11.pins (fun b14 w15 hk16 hb17 hp18 hl19 => ?_))
 have hX20 := hX11.step hp18 hl19
 have hlo21 : w.heap.size ≤ b14 := by have := hX11.size; omega
 obtain ⟨G22, hle23, hX24, hbp25, hf26⟩ := hb17.shut hX20 hlo21
 refine qd rfl rfl rfl (r_assign (v := (.int .i64 0)) rfl) (qd rfl rfl rfl (r_assign (v := (.bool false)) rfl) (qe (s_then (s_seq (c_reg ?_)))))
 refine qd rfl rfl rfl (r_ldpA (cs := [(.int .i64 t), (.int .i64 z)]) ag50 sz50 rfl (fun j u hj => hX24.pins _ _ _ (hbp25 _ _ (by simpa using hj)))) (q1 rfl rfl rfl (o_call (vs := [(.agg [(.int .i64 t), (.int .i64 z)].toArray)]) Tryz.func29 nm29 rfl rfl rfl ?_))
 refine Calls.mono (iNumberForm_spec (t := t) (z := z) hX24.pins) ?_
 rintro _ w29 ⟨u27, G28, rfl, hr30, hx31⟩
 refine ⟨_, rfl, ?_⟩
 have hX32 := hX24.tr hx31
 have hm33 := hr30.max
 refine qd rfl rfl rfl (r_move (v := (.tuple #[(.agg [u27].toArray), (.bool (nmB t z))])) rfl) (qd rfl rfl rfl (r_extract (v := (.agg [u27].toArray)) rfl rfl) (qd rfl rfl rfl (r_extract (v := (.bool (nmB t z))) rfl rfl) (q1 rfl rfl rfl (o_alloc [(.slice none 0 0)] zr28 rfl hX32.pins (fun b34 w35 hk36 hb37 hp38 hl39 => ?_)))))
 have hX40 := hX32.step hp38 hl39
 have hlo41 : w.heap.size ≤ b34 := by have := hX32.size; omega
 refine q0 rfl rfl rfl (o_stp (cs' := [u27]) (us := [u27]) (v := (.agg [u27].toArray)) sz28 rfl rfl rfl (ones1 hr30.one) hX40.pins hb37 (Nat.le_of_ble_eq_true rfl) rfl (fun w42 hb43 hp44 hg45 hz46 => ?_))
 have hX47 := hX40.write hp44 hg45 ((lo_box hlo41))
 obtain ⟨G48, hle49, hX50, hbp51, hf52⟩ := hb43.shut hX47 hlo41
 refine qd rfl rfl rfl (r_assign (v := (.bool (nmB t z))) rfl) (qe (s_then (s_seq (s_seq (c_reg ?_)))))
 refine qd rfl rfl rfl (r_move (v := (.bool (nmB t z))) rfl) (qd rfl rfl rfl (r_not rfl) (qe (s_then ?_)))
 refine c_ifn rfl rfl (fun h53 => ?_) (fun h53 => ?_)
 refine wp_skip (s_then (s_seq (c_reg ?_)))
 refine qd rfl rfl rfl (r_ldpA (cs := [v]) ag28 sz28 rfl (fun j u hj => (Pins.of_le hX50.pins (Pin.le_trans (Pin.le_trans hle23 hx31.le) hle49)) _ _ _ (hbp12 _ _ (by simpa using hj)))) (qd rfl rfl rfl (r_ldpA (cs := [u27]) ag28 sz28 rfl (fun j u hj => hX50.pins _ _ _ (hbp51 _ _ (by simpa using hj)))) (q1 rfl rfl rfl (o_call (vs := [(.agg [v].toArray), (.agg [u27].toArray)]) Tryz.func32 nm32 rfl rfl rfl ?_)))
 refine Calls.mono (iCompareForms_spec hX50.pins (hv.mono (Pin.le_trans (Pin.le_trans (Pin.le_trans hle10 hle23) hx31.le) hle49)) (hr30.mono hle49)) ?_
 rintro _ w55 ⟨G54, rfl, hx56⟩
 refine ⟨_, rfl, ?_⟩
 have hX57 := hX50.tr hx56
 refine qd rfl rfl rfl (r_extract (v := (.int .i64 (cfI fs (nmF t z)))) rfl rfl) (qd rfl rfl rfl (r_extract (v := (.bool (goodB fs && goodB (nmF t z)))) rfl rfl) (qd rfl rfl rfl (r_assign (v := (.int .i64 (cfI fs (nmF t z)))) rfl) (qd rfl rfl rfl (r_assign (v := (.bool (goodB fs && goodB (nmF t z)))) rfl) (qe (s_then ?_)))))
 refine wp_ret (s_ret (c_ret2 (v := (.int .i64 (cfI fs (nmF t z)))) (u := (.bool (goodB fs && goodB (nmF t z)))) rfl rfl rfl rfl rfl ?_))
 obtain ⟨e1, e2⟩ := cn_yes (fs := fs) h53
 rw [e1, e2]
 exact ⟨_, rfl, hX57⟩
 refine s_seq (c_reg ?_)
 refine qd rfl rfl rfl (r_assign (v := (.int .i64 0)) rfl) (qd rfl rfl rfl (r_assign (v := (.bool false)) rfl) (qe (s_then ?_)))
 refine wp_ret (s_ret (c_ret2 (v := (.int .i64 0)) (u := (.bool false)) rfl rfl rfl rfl rfl ?_))
 obtain ⟨e1, e2⟩ := cn_no (fs := fs) h53
 rw [e1, e2]
 exact ⟨_, rfl, hX50⟩

end NO1
end Go.Proofs.YtkfgdhanaijddaaGreatDoor

set_option maxRecDepth 20000
set_option maxHeartbeats 2000000
namespace Go.Proofs.YtkfgdhanaijddaaGreatDoor
namespace LNU
open Go.RowKit Go.GL Go.Proofs
open B1 C1 D1 E1 K1 PO1 PL1 PA1 SO1 OD1 FO1 NG1 NF1 PF1 SF1 MK1 DR1 DR2 DV1 DV2 NU1 NU2 NU3 NB1 NB2 NB3 NB4 NB5 NB6 VA2 SW1 SM1 NO1


















theorem law {w : World} {G : Pin} {v : Value} {code : List UInt8} (hP : Pins G w) (hc : RSl eByte G v code) :
  Calls Tryz.prog 7 [v].toArray w fun e w' => ∃ G', e = .returned (.bool true) ∧ Ext noS G w G' w' := by
 refine s_enter (n := 118) Tryz.func7 Tryz.ntmps7 rfl rfl ?_
 have hX0 : Ext noS G w G w := Ext.refl hP
 have hm := hc.max
 refine s_seq (c_reg ?_)
 refine qd rfl rfl rfl (r_assign (v := (.bool false)) rfl) (qe (s_then (s_seq (s_seq (c_reg ?_)))))
 refine qd rfl rfl rfl (r_move (v := v) rfl) (q1 rfl rfl rfl (o_call (vs := [v]) Tryz.func10 nm10 rfl rfl rfl ?_))
 refine Calls.mono (vBig_spec hX0.pins hc) ?_
 rintro _ w1 ⟨rfl, hx2⟩
 refine ⟨_, rfl, ?_⟩
 have hX3 := hX0.step hx2.pins hx2.below
 refine qe (s_then ?_)
 refine c_ifd (p := ((65536 : Int) < (code.length : Int))) rfl rfl (fun h4 => ?_) (fun h4 => ?_)
 refine s_seq (c_reg ?_)
 refine qd rfl rfl rfl (r_assign (v := (.bool true)) rfl) (qe (s_then ?_))
 exact wp_ret (s_ret (c_ret1 (v := (.bool true)) rfl rfl rfl (⟨_, rfl, hX3⟩)))
 refine wp_skip (s_then (s_seq (c_reg ?_)))
 refine qd rfl rfl rfl (r_move (v := v) rfl) (q1 rfl rfl rfl (o_call (vs := [v]) Tryz.func28 nm28 rfl rfl rfl ?_))
 refine Calls.mono (drDrawCompareDyadic_spec hX3.pins hc) ?_
 rintro _ w10 ⟨t5, z6, s7, y8, G9, rfl, hx11⟩
 refine ⟨_, rfl, ?_⟩
 have hX12 := hX3.tr hx11
 refine qd rfl rfl rfl (r_move (v := (.tuple #[(.agg [(.int .i64 t5), (.int .i64 z6)].toArray), (.agg [(.int .i64 s7), (.int .i64 y8)].toArray)])) rfl) (qd rfl rfl rfl (r_extract (v := (.agg [(.int .i64 t5), (.int .i64 z6)].toArray)) rfl rfl) (qd rfl rfl rfl (r_extract (v := (.agg [(.int .i64 s7), (.int .i64 y8)].toArray)) rfl rfl) (q1 rfl rfl rfl (o_alloc [(.int .i64 0), (.int .i64 0)] zr50 rfl hX12.pins (fun b13 w14 hk15 hb16 hp17 hl18 => ?_)))))
 have hX19 := hX12.step hp17 hl18
 have hlo20 : w.heap.size ≤ b13 := by have := hX12.size; omega
 refine q1 rfl rfl rfl (o_alloc [(.int .i64 0), (.int .i64 0)] zr50 rfl hX19.pins (fun b21 w22 hk23 hb24 hp25 hl26 => ?_))
 have hX27 := hX19.step hp25 hl26
 have hb28 := hb16.below hl26
 have ha29 : Apart (some b21) (some b13) := new_ne_box (congrArg some hk23) hb16.lt
 have hlo30 : w.heap.size ≤ b21 := by have := hX19.size; omega
 refine q0 rfl rfl rfl (o_stp (cs' := [(.int .i64 t5), (.int .i64 z6)]) (us := [(.int .i64 t5), (.int .i64 z6)]) (v := (.agg [(.int .i64 t5), (.int .i64 z6)].toArray)) sz50 rfl rfl rfl (ones2 (by rfl) (by rfl)) hX27.pins hb28 (Nat.le_of_ble_eq_true rfl) rfl (fun w31 hb32 hp33 hg34 hz35 => ?_))
 have hX36 := hX27.write hp33 hg34 ((lo_box hlo20))
 have hb37 := hb24.keptA hg34 ha29
 obtain ⟨G38, hle39, hX40, hbp41, hf42⟩ := hb32.shut hX36 hlo20
 have hb43 := hb37.moreA hf42 ha29
 refine q0 rfl rfl rfl (o_stp (cs' := [(.int .i64 s7), (.int .i64 y8)]) (us := [(.int .i64 s7), (.int .i64 y8)]) (v := (.agg [(.int .i64 s7), (.int .i64 y8)].toArray)) sz50 rfl rfl rfl (ones2 (by rfl) (by rfl)) hX40.pins hb43 (Nat.le_of_ble_eq_true rfl) rfl (fun w44 hb45 hp46 hg47 hz48 => ?_))
 have hX49 := hX40.write hp46 hg47 ((lo_box hlo30))
 obtain ⟨G50, hle51, hX52, hbp53, hf54⟩ := hb45.shut hX49 hlo30
 refine qe (s_then (s_seq (c_reg ?_)))
 refine qd rfl rfl rfl (r_ldpA (cs := [(.int .i64 t5), (.int .i64 z6)]) ag50 sz50 rfl (fun j u hj => (Pins.of_le hX52.pins hle51) _ _ _ (hbp41 _ _ (by simpa using hj)))) (q1 rfl rfl rfl (o_call (vs := [(.agg [(.int .i64 t5), (.int .i64 z6)].toArray)]) Tryz.func29 nm29 rfl rfl rfl ?_))
 refine Calls.mono (iNumberForm_spec (t := t5) (z := z6) hX52.pins) ?_
 rintro _ w57 ⟨u55, G56, rfl, hr58, hx59⟩
 refine ⟨_, rfl, ?_⟩
 have hX60 := hX52.tr hx59
 have hm61 := hr58.max
 refine qd rfl rfl rfl (r_move (v := (.tuple #[(.agg [u55].toArray), (.bool (nmB t5 z6))])) rfl) (qd rfl rfl rfl (r_extract (v := (.agg [u55].toArray)) rfl rfl) (qd rfl rfl rfl (r_extract (v := (.bool (nmB t5 z6))) rfl rfl) (q1 rfl rfl rfl (o_alloc [(.slice none 0 0)] zr28 rfl hX60.pins (fun b62 w63 hk64 hb65 hp66 hl67 => ?_)))))
 have hX68 := hX60.step hp66 hl67
 have hlo69 : w.heap.size ≤ b62 := by have := hX60.size; omega
 refine q0 rfl rfl rfl (o_stp (cs' := [u55]) (us := [u55]) (v := (.agg [u55].toArray)) sz28 rfl rfl rfl (ones1 hr58.one) hX68.pins hb65 (Nat.le_of_ble_eq_true rfl) rfl (fun w70 hb71 hp72 hg73 hz74 => ?_))
 have hX75 := hX68.write hp72 hg73 ((lo_box hlo69))
 obtain ⟨G76, hle77, hX78, hbp79, hf80⟩ := hb71.shut hX75 hlo69
 refine qd rfl rfl rfl (r_assign (v := (.bool (nmB t5 z6))) rfl) (qe (s_then (s_seq (c_reg ?_))))
 refine qd rfl rfl rfl (r_ldpA (cs := [(.int .i64 s7), (.int .i64 y8)]) ag50 sz50 rfl (fun j u hj => (Pins.of_le hX78.pins (Pin.le_trans hx59.le hle77)) _ _ _ (hbp53 _ _ (by simpa using hj)))) (q1 rfl rfl rfl (o_call (vs := [(.agg [(.int .i64 s7), (.int .i64 y8)].toArray)]) Tryz.func29 nm29 rfl rfl rfl ?_))
 refine Calls.mono (iNumberForm_spec (t := s7) (z := y8) hX78.pins) ?_
 rintro _ w83 ⟨u81, G82, rfl, hr84, hx85⟩
 refine ⟨_, rfl, ?_⟩
 have hX86 := hX78.tr hx85
 have hm87 := hr84.max
 refine qd rfl rfl rfl (r_move (v := (.tuple #[(.agg [u81].toArray), (.bool (nmB s7 y8))])) rfl) (qd rfl rfl rfl (r_extract (v := (.agg [u81].toArray)) rfl rfl) (qd rfl rfl rfl (r_extract (v := (.bool (nmB s7 y8))) rfl rfl) (q1 rfl rfl rfl (o_alloc [(.slice none 0 0)] zr28 rfl hX86.pins (fun b88 w89 hk90 hb91 hp92 hl93 => ?_)))))
 have hX94 := hX86.step hp92 hl93
 have hlo95 : w.heap.size ≤ b88 := by have := hX86.size; omega
 refine q0 rfl rfl rfl (o_stp (cs' := [u81]) (us := [u81]) (v := (.agg [u81].toArray)) sz28 rfl rfl rfl (ones1 hr84.one) hX94.pins hb91 (Nat.le_of_ble_eq_true rfl) rfl (fun w96 hb97 hp98 hg99 hz100 => ?_))
 have hX101 := hX94.write hp98 hg99 ((lo_box hlo95))
 obtain ⟨G102, hle103, hX104, hbp105, hf106⟩ := hb97.shut hX101 hlo95
 refine qd rfl rfl rfl (r_assign (v := (.bool (nmB s7 y8))) rfl) (qe (s_then (s_seq (c_reg ?_))))
 refine qd rfl rfl rfl (r_ldpA (cs := [(.int .i64 t5), (.int .i64 z6)]) ag50 sz50 rfl (fun j u hj => (Pins.of_le hX104.pins (Pin.le_trans (Pin.le_trans (Pin.le_trans (Pin.le_trans hle51 hx59.le) hle77) hx85.le) hle103)) _ _ _ (hbp41 _ _ (by simpa using hj)))) (q1 rfl rfl rfl (o_call (vs := [(.agg [(.int .i64 t5), (.int .i64 z6)].toArray)]) Tryz.func30 nm30 rfl rfl rfl ?_))
 refine Calls.mono (sNumberForm_spec (t := t5) (z := z6) hX104.pins) ?_
 rintro _ w109 ⟨u107, G108, rfl, hr110, hx111⟩
 refine ⟨_, rfl, ?_⟩
 have hX112 := hX104.tr hx111
 have hm113 := hr110.max
 refine qd rfl rfl rfl (r_move (v := (.tuple #[(.agg [u107].toArray), (.bool (nmB t5 z6))])) rfl) (qd rfl rfl rfl (r_extract (v := (.agg [u107].toArray)) rfl rfl) (qd rfl rfl rfl (r_extract (v := (.bool (nmB t5 z6))) rfl rfl) (q1 rfl rfl rfl (o_alloc [(.slice none 0 0)] zr28 rfl hX112.pins (fun b114 w115 hk116 hb117 hp118 hl119 => ?_)))))
 have hX120 := hX112.step hp118 hl119
 have hlo121 : w.heap.size ≤ b114 := by have := hX112.size; omega
 refine q0 rfl rfl rfl (o_stp (cs' := [u107]) (us := [u107]) (v := (.agg [u107].toArray)) sz28 rfl rfl rfl (ones1 hr110.one) hX120.pins hb117 (Nat.le_of_ble_eq_true rfl) rfl (fun w122 hb123 hp124 hg125 hz126 => ?_))
 have hX127 := hX120.write hp124 hg125 ((lo_box hlo121))
 obtain ⟨G128, hle129, hX130, hbp131, hf132⟩ := hb123.shut hX127 hlo121
 refine qd rfl rfl rfl (r_assign (v := (.bool (nmB t5 z6))) rfl) (qe (s_then (s_seq (c_reg ?_))))
 refine qd rfl rfl rfl (r_ldpA (cs := [(.int .i64 s7), (.int .i64 y8)]) ag50 sz50 rfl (fun j u hj => (Pins.of_le hX130.pins (Pin.le_trans (Pin.le_trans (Pin.le_trans (Pin.le_trans (Pin.le_trans hx59.le hle77) hx85.le) hle103) hx111.le) hle129)) _ _ _ (hbp53 _ _ (by simpa using hj)))) (q1 rfl rfl rfl (o_call (vs := [(.agg [(.int .i64 s7), (.int .i64 y8)].toArray)]) Tryz.func30 nm30 rfl rfl rfl ?_))
 refine Calls.mono (sNumberForm_spec (t := s7) (z := y8) hX130.pins) ?_
 rintro _ w135 ⟨u133, G134, rfl, hr136, hx137⟩
 refine ⟨_, rfl, ?_⟩
 have hX138 := hX130.tr hx137
 have hm139 := hr136.max
 refine qd rfl rfl rfl (r_move (v := (.tuple #[(.agg [u133].toArray), (.bool (nmB s7 y8))])) rfl) (qd rfl rfl rfl (r_extract (v := (.agg [u133].toArray)) rfl rfl) (qd rfl rfl rfl (r_extract (v := (.bool (nmB s7 y8))) rfl rfl) (q1 rfl rfl rfl (o_alloc [(.slice none 0 0)] zr28 rfl hX138.pins (fun b140 w141 hk142 hb143 hp144 hl145 => ?_)))))
 have hX146 := hX138.step hp144 hl145
 have hlo147 : w.heap.size ≤ b140 := by have := hX138.size; omega
 refine q0 rfl rfl rfl (o_stp (cs' := [u133]) (us := [u133]) (v := (.agg [u133].toArray)) sz28 rfl rfl rfl (ones1 hr136.one) hX146.pins hb143 (Nat.le_of_ble_eq_true rfl) rfl (fun w148 hb149 hp150 hg151 hz152 => ?_))
 have hX153 := hX146.write hp150 hg151 ((lo_box hlo147))
 obtain ⟨G154, hle155, hX156, hbp157, hf158⟩ := hb149.shut hX153 hlo147
 refine qd rfl rfl rfl (r_assign (v := (.bool (nmB s7 y8))) rfl) (qe (s_then (s_seq (s_seq (c_reg ?_)))))
 refine qd rfl rfl rfl (r_move (v := (.bool (nmB t5 z6))) rfl) (qd rfl rfl rfl (r_move (v := (.bool (nmB t5 z6))) rfl) (qd rfl rfl rfl (r_neqB_same Tryz.underlying4 rfl rfl) (qd rfl rfl rfl (r_move (v := (.bool false)) rfl) (qdg rfl rfl rfl rfl rfl rfl (r_move (v := (.bool (nmB s7 y8))) rfl) (qdg rfl rfl rfl rfl rfl rfl (r_move (v := (.bool (nmB s7 y8))) rfl) (qdg rfl rfl rfl rfl rfl rfl (r_neqB_same Tryz.underlying4 rfl rfl) (qd rfl rfl rfl (r_pickF (v := (.bool false)) rfl rfl) (qe (s_then ?_)))))))))
 refine c_ifF rfl rfl (wp_skip (s_then (s_seq (s_seq (c_reg ?_)))))
 refine qd rfl rfl rfl (r_move (v := (.bool (nmB t5 z6))) rfl) (qd rfl rfl rfl (r_not rfl) (qd rfl rfl rfl (r_move (v := (.bool (!(nmB t5 z6)))) rfl) (qbn (t := 57) rfl (fun h159 => ?_) (fun h159 => ?_))))
 refine qdg rfl rfl rfl rfl rfl rfl (r_move (v := (.bool (nmB s7 y8))) rfl) (qdg rfl rfl rfl rfl rfl rfl (r_not rfl) (qd rfl rfl rfl (r_pickF (v := (.bool (!(nmB s7 y8)))) rfl rfl) (qd rfl rfl rfl (r_move (v := (.bool (!(nmB s7 y8)))) rfl) (qbn (t := 61) rfl (fun h160 => ?_) (fun h160 => ?_)))))
 refine qdg rfl rfl rfl rfl rfl rfl (r_fldp (k := 0) rfl Tryz.underlying28 rfl nz26 rfl) (qdg rfl rfl rfl rfl rfl rfl (r_ldp1 (u := u55) ag26 rfl ((Pins.of_le hX156.pins (Pin.le_trans (Pin.le_trans (Pin.le_trans (Pin.le_trans (Pin.le_trans hx85.le hle103) hx111.le) hle129) hx137.le) hle155)) _ _ _ (hbp79 0 _ rfl))) (qdg rfl rfl rfl rfl rfl rfl (run_len Tryz.underlying26 (v := u55) rfl hr58) (qdg rfl rfl rfl rfl rfl rfl (r_gtr rfl rfl) (qd rfl rfl rfl (r_pickF (v := (.bool (decide ((40 : Int) < ((nmF t5 z6).length : Int))))) rfl rfl) (qd rfl rfl rfl (r_move (v := (.bool (decide ((40 : Int) < ((nmF t5 z6).length : Int))))) rfl) (qbd (p := (40 : Int) < ((nmF t5 z6).length : Int)) (t := 67) rfl (fun h161 => ?_) (fun h161 => ?_)))))))
 refine qs rfl rfl rfl rfl rfl rfl (qs rfl rfl rfl rfl rfl rfl (qs rfl rfl rfl rfl rfl rfl (qs rfl rfl rfl rfl rfl rfl (qd rfl rfl rfl (r_pickT (v := (.bool true)) rfl rfl) (qe (s_then ?_))))))
 refine c_ifT rfl rfl (s_seq (c_reg ?_))
 refine qd rfl rfl rfl (r_assign (v := (.bool true)) rfl) (qe (s_then ?_))
 exact wp_ret (s_ret (c_ret1 (v := (.bool true)) rfl rfl rfl (⟨_, rfl, hX156⟩)))
 refine qdg rfl rfl rfl rfl rfl rfl (r_fldp (k := 0) rfl Tryz.underlying28 rfl nz26 rfl) (qdg rfl rfl rfl rfl rfl rfl (r_ldp1 (u := u81) ag26 rfl ((Pins.of_le hX156.pins (Pin.le_trans (Pin.le_trans (Pin.le_trans hx111.le hle129) hx137.le) hle155)) _ _ _ (hbp105 0 _ rfl))) (qdg rfl rfl rfl rfl rfl rfl (run_len Tryz.underlying26 (v := u81) rfl hr84) (qdg rfl rfl rfl rfl rfl rfl (r_gtr rfl rfl) (qd rfl rfl rfl (r_pickF (v := (.bool (decide ((40 : Int) < ((nmF s7 y8).length : Int))))) rfl rfl) (qe (s_then ?_))))))
 refine c_ifd (p := (40 : Int) < ((nmF s7 y8).length : Int)) rfl rfl (fun h162 => ?_) (fun h162 => ?_)
 refine s_seq (c_reg ?_)
 refine qd rfl rfl rfl (r_assign (v := (.bool true)) rfl) (qe (s_then ?_))
 exact wp_ret (s_ret (c_ret1 (v := (.bool true)) rfl rfl rfl (⟨_, rfl, hX156⟩)))
 refine wp_skip (s_then (s_seq (c_reg ?_)))
 refine qd rfl rfl rfl (r_ldpA (cs := [(.int .i64 t5), (.int .i64 z6)]) ag50 sz50 rfl (fun j u hj => (Pins.of_le hX156.pins (Pin.le_trans (Pin.le_trans (Pin.le_trans (Pin.le_trans (Pin.le_trans (Pin.le_trans (Pin.le_trans (Pin.le_trans hle51 hx59.le) hle77) hx85.le) hle103) hx111.le) hle129) hx137.le) hle155)) _ _ _ (hbp41 _ _ (by simpa using hj)))) (qd rfl rfl rfl (r_ldpA (cs := [(.int .i64 s7), (.int .i64 y8)]) ag50 sz50 rfl (fun j u hj => (Pins.of_le hX156.pins (Pin.le_trans (Pin.le_trans (Pin.le_trans (Pin.le_trans (Pin.le_trans (Pin.le_trans (Pin.le_trans hx59.le hle77) hx85.le) hle103) hx111.le) hle129) hx137.le) hle155)) _ _ _ (hbp53 _ _ (by simpa using hj)))) (q1 rfl rfl rfl (o_call (vs := [(.agg [(.int .i64 t5), (.int .i64 z6)].toArray), (.agg [(.int .i64 s7), (.int .i64 y8)].toArray)]) Tryz.func31 nm31 rfl rfl rfl ?_)))
 refine Calls.mono (compareDyadic_spec (t := t5) (z := z6) (s := s7) (y := y8) hX156.pins) ?_
 rintro _ w164 ⟨G163, rfl, hx165⟩
 refine ⟨_, rfl, ?_⟩
 have hX166 := hX156.tr hx165
 refine qd rfl rfl rfl (r_move (v := (.tuple #[(.int .i64 (cdI t5 z6 s7 y8)), (.bool (cdB t5 z6 s7 y8))])) rfl) (qd rfl rfl rfl (r_extract (v := (.int .i64 (cdI t5 z6 s7 y8))) rfl rfl) (qd rfl rfl rfl (r_extract (v := (.bool (cdB t5 z6 s7 y8))) rfl rfl) (qd rfl rfl rfl (r_assign (v := (.int .i64 (cdI t5 z6 s7 y8))) rfl) (qd rfl rfl rfl (r_assign (v := (.bool (cdB t5 z6 s7 y8))) rfl) (qe (s_then (s_seq (c_reg ?_))))))))
 refine qd rfl rfl rfl (r_ldpA (cs := [u55]) ag28 sz28 rfl (fun j u hj => (Pins.of_le hX166.pins (Pin.le_trans (Pin.le_trans (Pin.le_trans (Pin.le_trans (Pin.le_trans (Pin.le_trans hx85.le hle103) hx111.le) hle129) hx137.le) hle155) hx165.le)) _ _ _ (hbp79 _ _ (by simpa using hj)))) (qd rfl rfl rfl (r_ldpA (cs := [u81]) ag28 sz28 rfl (fun j u hj => (Pins.of_le hX166.pins (Pin.le_trans (Pin.le_trans (Pin.le_trans (Pin.le_trans hx111.le hle129) hx137.le) hle155) hx165.le)) _ _ _ (hbp105 _ _ (by simpa using hj)))) (q1 rfl rfl rfl (o_call (vs := [(.agg [u55].toArray), (.agg [u81].toArray)]) Tryz.func32 nm32 rfl rfl rfl ?_)))
 refine Calls.mono (iCompareForms_spec hX166.pins (hr58.mono (Pin.le_trans (Pin.le_trans (Pin.le_trans (Pin.le_trans (Pin.le_trans (Pin.le_trans (Pin.le_trans hle77 hx85.le) hle103) hx111.le) hle129) hx137.le) hle155) hx165.le)) (hr84.mono (Pin.le_trans (Pin.le_trans (Pin.le_trans (Pin.le_trans (Pin.le_trans hle103 hx111.le) hle129) hx137.le) hle155) hx165.le))) ?_
 rintro _ w168 ⟨G167, rfl, hx169⟩
 refine ⟨_, rfl, ?_⟩
 have hX170 := hX166.tr hx169
 refine qd rfl rfl rfl (r_move (v := (.tuple #[(.int .i64 (cfI (nmF t5 z6) (nmF s7 y8))), (.bool (goodB (nmF t5 z6) && goodB (nmF s7 y8)))])) rfl) (qd rfl rfl rfl (r_extract (v := (.int .i64 (cfI (nmF t5 z6) (nmF s7 y8)))) rfl rfl) (qd rfl rfl rfl (r_extract (v := (.bool (goodB (nmF t5 z6) && goodB (nmF s7 y8)))) rfl rfl) (qd rfl rfl rfl (r_assign (v := (.int .i64 (cfI (nmF t5 z6) (nmF s7 y8)))) rfl) (qd rfl rfl rfl (r_assign (v := (.bool (goodB (nmF t5 z6) && goodB (nmF s7 y8)))) rfl) (qe (s_then (s_seq (c_reg ?_))))))))
 refine qd rfl rfl rfl (r_ldpA (cs := [u55]) ag28 sz28 rfl (fun j u hj => (Pins.of_le hX170.pins (Pin.le_trans (Pin.le_trans (Pin.le_trans (Pin.le_trans (Pin.le_trans (Pin.le_trans (Pin.le_trans hx85.le hle103) hx111.le) hle129) hx137.le) hle155) hx165.le) hx169.le)) _ _ _ (hbp79 _ _ (by simpa using hj)))) (qd rfl rfl rfl (r_ldpA (cs := [(.int .i64 s7), (.int .i64 y8)]) ag50 sz50 rfl (fun j u hj => (Pins.of_le hX170.pins (Pin.le_trans (Pin.le_trans (Pin.le_trans (Pin.le_trans (Pin.le_trans (Pin.le_trans (Pin.le_trans (Pin.le_trans (Pin.le_trans hx59.le hle77) hx85.le) hle103) hx111.le) hle129) hx137.le) hle155) hx165.le) hx169.le)) _ _ _ (hbp53 _ _ (by simpa using hj)))) (q1 rfl rfl rfl (o_call (vs := [(.agg [u55].toArray), (.agg [(.int .i64 s7), (.int .i64 y8)].toArray)]) Tryz.func33 nm33 rfl rfl rfl ?_)))
 refine Calls.mono (CompareNumber_spec (t := s7) (z := y8) hX170.pins (hr58.mono (Pin.le_trans (Pin.le_trans (Pin.le_trans (Pin.le_trans (Pin.le_trans (Pin.le_trans (Pin.le_trans (Pin.le_trans hle77 hx85.le) hle103) hx111.le) hle129) hx137.le) hle155) hx165.le) hx169.le))) ?_
 rintro _ w172 ⟨G171, rfl, hx173⟩
 refine ⟨_, rfl, ?_⟩
 have hX174 := hX170.tr hx173
 refine qd rfl rfl rfl (r_move (v := (.tuple #[(.int .i64 (cnI (nmF t5 z6) s7 y8)), (.bool (cnB (nmF t5 z6) s7 y8))])) rfl) (qd rfl rfl rfl (r_extract (v := (.int .i64 (cnI (nmF t5 z6) s7 y8))) rfl rfl) (qd rfl rfl rfl (r_extract (v := (.bool (cnB (nmF t5 z6) s7 y8))) rfl rfl) (qd rfl rfl rfl (r_assign (v := (.int .i64 (cnI (nmF t5 z6) s7 y8))) rfl) (qd rfl rfl rfl (r_assign (v := (.bool (cnB (nmF t5 z6) s7 y8))) rfl) (qe (s_then (s_seq (c_reg ?_))))))))
 refine q1 rfl rfl rfl (o_buildF (E := eInt) (e := 3) [(.int .i64 2), (.int .i64 4), (.int .i64 1)] [2, 4, 1] Tryz.underlying57 sz3 zr3 (by exact reps3 (by rfl) (by rfl) (by rfl)) (ones3 (by rfl) (by rfl) (by rfl)) rfl rfl rfl rfl (by decide) hX174.pins (fun u175 w176 ho177 hp178 hl179 hk180 => ?_))
 have hX181 := hX174.step hp178 hl179
 have ho182 : Own eInt 3 G171 w176 w.heap.size u175 ([2, 4, 1]) := ho177.weaken hX174.size
 refine qd rfl rfl rfl (r_assign (v := u175) rfl) (qe (s_then (s_seq (c_reg ?_))))
 refine qd rfl rfl rfl (r_move (v := (.bool (goodB (nmF t5 z6) && goodB (nmF s7 y8)))) rfl) (qd rfl rfl rfl (r_move (v := (.bool (goodB (nmF t5 z6) && goodB (nmF s7 y8)))) rfl) (qb (t := 93) rfl (fun h183 => ?_) (fun h183 => ?_)))
 refine qdg rfl rfl rfl rfl rfl rfl (r_move (v := (.bool (cnB (nmF t5 z6) s7 y8))) rfl) (qd rfl rfl rfl (r_pickT (v := (.bool (cnB (nmF t5 z6) s7 y8))) rfl rfl) (qd rfl rfl rfl (r_move (v := (.bool (cnB (nmF t5 z6) s7 y8))) rfl) (qb (t := 96) rfl (fun h184 => ?_) (fun h184 => ?_))))
 refine qdg rfl rfl rfl rfl rfl rfl (r_move (v := (.int .i64 (cdI t5 z6 s7 y8))) rfl) (qdg rfl rfl rfl rfl rfl rfl (r_geq rfl rfl) (qd rfl rfl rfl (r_pickT (v := (.bool (decide (((-1) : Int) ≤ (cdI t5 z6 s7 y8))))) rfl rfl) (qd rfl rfl rfl (r_move (v := (.bool (decide (((-1) : Int) ≤ (cdI t5 z6 s7 y8))))) rfl) (qbd (p := ((-1) : Int) ≤ (cdI t5 z6 s7 y8)) (t := 100) rfl (fun h185 => ?_) (fun h185 => ?_)))))
 refine qdg rfl rfl rfl rfl rfl rfl (r_move (v := (.int .i64 (cdI t5 z6 s7 y8))) rfl) (qdg rfl rfl rfl rfl rfl rfl (r_leq rfl rfl) (qd rfl rfl rfl (r_pickT (v := (.bool (decide ((cdI t5 z6 s7 y8 : Int) ≤ 1)))) rfl rfl) (qd rfl rfl rfl (r_move (v := (.bool (decide ((cdI t5 z6 s7 y8 : Int) ≤ 1)))) rfl) (qbd (p := (cdI t5 z6 s7 y8 : Int) ≤ 1) (t := 104) rfl (fun h186 => ?_) (fun h186 => ?_)))))
 refine qdg rfl rfl rfl rfl rfl rfl (r_move (v := (.int .i64 (cfI (nmF t5 z6) (nmF s7 y8)))) rfl) (qdg rfl rfl rfl rfl rfl rfl (r_move (v := u175) rfl) (qdg rfl rfl rfl rfl rfl rfl (r_move (v := (.int .i64 (cdI t5 z6 s7 y8))) rfl) (qdg rfl rfl rfl rfl rfl rfl (r_add rfl rfl (by omega)) ?_)))
 have h3l187 : ([2, 4, 1] : List Int).length = 3 := rfl
 refine qdg rfl rfl rfl rfl rfl rfl (run_idx Tryz.underlying57 sz3 (v := u175) rfl rfl ho182.read (by omega) (by omega)) (qdg rfl rfl rfl rfl rfl rfl (run_load_int (r := ([2, 4, 1]).getD ((cdI t5 z6 s7 y8) + 1).toNat 0) rfl ag3 (z := ((cdI t5 z6 s7 y8) + 1)) rfl ho182.read (Gadd.pins hX181.pins u175) (by omega) (by omega)) (qdg rfl rfl rfl rfl rfl rfl (r_eql rfl rfl) (qd rfl rfl rfl (r_pickT (v := (.bool (decide ((cfI (nmF t5 z6) (nmF s7 y8) : Int) = (([2, 4, 1]).getD ((cdI t5 z6 s7 y8) + 1).toNat 0))))) rfl rfl) (qd rfl rfl rfl (r_move (v := (.bool (decide ((cfI (nmF t5 z6) (nmF s7 y8) : Int) = (([2, 4, 1]).getD ((cdI t5 z6 s7 y8) + 1).toNat 0))))) rfl) (qbd (p := (cfI (nmF t5 z6) (nmF s7 y8) : Int) = (([2, 4, 1]).getD ((cdI t5 z6 s7 y8) + 1).toNat 0)) (t := 113) rfl (fun h188 => ?_) (fun h188 => ?_))))))
 refine qdg rfl rfl rfl rfl rfl rfl (r_move (v := (.int .i64 (cnI (nmF t5 z6) s7 y8))) rfl) (qdg rfl rfl rfl rfl rfl rfl (r_move (v := (.int .i64 (cfI (nmF t5 z6) (nmF s7 y8)))) rfl) (qdg rfl rfl rfl rfl rfl rfl (r_eql rfl rfl) (qd rfl rfl rfl (r_pickT (v := (.bool (decide ((cnI (nmF t5 z6) s7 y8 : Int) = (cfI (nmF t5 z6) (nmF s7 y8)))))) rfl rfl) (qd rfl rfl rfl (r_assign (v := (.bool (decide ((cnI (nmF t5 z6) s7 y8 : Int) = (cfI (nmF t5 z6) (nmF s7 y8)))))) rfl) (qe (s_then ?_))))))
 refine wp_ret (s_ret (c_ret1 (v := (.bool (decide ((cnI (nmF t5 z6) s7 y8 : Int) = (cfI (nmF t5 z6) (nmF s7 y8)))))) rfl rfl rfl ?_))
 obtain ⟨k1, k2⟩ := no_law h159 h160
 obtain ⟨k3, k4⟩ := cn_yes (fs := nmF t5 z6) h160
 have k5 : (decide ((cnI (nmF t5 z6) s7 y8 : Int) = (cfI (nmF t5 z6) (nmF s7 y8)))) = true := by
  revert h183 h184 h185 h186 h188
  try rw [k4]
  try rw [k3]
  try rw [k1]
  rcases k2 with ⟨q1, q2⟩ | ⟨q1, q2⟩ | ⟨q1, q2⟩ <;> (try rw [q1]) <;> (try rw [q2]) <;> simp
 exact ⟨_, congrArg (fun z => Ending.returned (Value.bool z)) k5, hX181⟩
 refine qs rfl rfl rfl rfl rfl rfl (qs rfl rfl rfl rfl rfl rfl (qs rfl rfl rfl rfl rfl rfl (qd rfl rfl rfl (r_pickF (v := (.bool false)) rfl rfl) (qd rfl rfl rfl (r_assign (v := (.bool false)) rfl) (qe (s_then ?_))))))
 refine wp_ret (s_ret (c_ret1 (v := (.bool false)) rfl rfl rfl ?_))
 obtain ⟨k1, k2⟩ := no_law h159 h160
 obtain ⟨k3, k4⟩ := cn_yes (fs := nmF t5 z6) h160
 have k5 : (false) = true := by
  revert h183 h184 h185 h186 h188
  try rw [k4]
  try rw [k3]
  try rw [k1]
  rcases k2 with ⟨q1, q2⟩ | ⟨q1, q2⟩ | ⟨q1, q2⟩ <;> (try rw [q1]) <;> (try rw [q2]) <;> simp
 exact ⟨_, congrArg (fun z => Ending.returned (Value.bool z)) k5, hX181⟩
 refine qs rfl rfl rfl rfl rfl rfl (qs rfl rfl rfl rfl rfl rfl (qs rfl rfl rfl rfl rfl rfl (qs rfl rfl rfl rfl rfl rfl ?_)))
 have h3l189 : ([2, 4, 1] : List Int).length = 3 := rfl
 refine qs rfl rfl rfl rfl rfl rfl (qs rfl rfl rfl rfl rfl rfl (qs rfl rfl rfl rfl rfl rfl (qd rfl rfl rfl (r_pickF (v := (.bool false)) rfl rfl) (qd rfl rfl rfl (r_move (v := (.bool false)) rfl) (qs rfl rfl rfl rfl rfl rfl (qs rfl rfl rfl rfl rfl rfl (qs rfl rfl rfl rfl rfl rfl (qd rfl rfl rfl (r_pickF (v := (.bool false)) rfl rfl) (qd rfl rfl rfl (r_assign (v := (.bool false)) rfl) (qe (s_then ?_)))))))))))
 refine wp_ret (s_ret (c_ret1 (v := (.bool false)) rfl rfl rfl ?_))
 obtain ⟨k1, k2⟩ := no_law h159 h160
 obtain ⟨k3, k4⟩ := cn_yes (fs := nmF t5 z6) h160
 have k5 : (false) = true := by
  revert h183 h184 h185 h186
  try rw [k4]
  try rw [k3]
  try rw [k1]
  rcases k2 with ⟨q1, q2⟩ | ⟨q1, q2⟩ | ⟨q1, q2⟩ <;> (try rw [q1]) <;> (try rw [q2]) <;> simp
 exact ⟨_, congrArg (fun z => Ending.returned (Value.bool z)) k5, hX181⟩
 refine qs rfl rfl rfl rfl rfl rfl (qs rfl rfl rfl rfl rfl rfl (qd rfl rfl rfl (r_pickF (v := (.bool false)) rfl rfl) (qd rfl rfl rfl (r_move (v := (.bool false)) rfl) (qs rfl rfl rfl rfl rfl rfl (qs rfl rfl rfl rfl rfl rfl (qs rfl rfl rfl rfl rfl rfl (qs rfl rfl rfl rfl rfl rfl ?_)))))))
 have h3l190 : ([2, 4, 1] : List Int).length = 3 := rfl
 refine qs rfl rfl rfl rfl rfl rfl (qs rfl rfl rfl rfl rfl rfl (qs rfl rfl rfl rfl rfl rfl (qd rfl rfl rfl (r_pickF (v := (.bool false)) rfl rfl) (qd rfl rfl rfl (r_move (v := (.bool false)) rfl) (qs rfl rfl rfl rfl rfl rfl (qs rfl rfl rfl rfl rfl rfl (qs rfl rfl rfl rfl rfl rfl (qd rfl rfl rfl (r_pickF (v := (.bool false)) rfl rfl) (qd rfl rfl rfl (r_assign (v := (.bool false)) rfl) (qe (s_then ?_)))))))))))
 refine wp_ret (s_ret (c_ret1 (v := (.bool false)) rfl rfl rfl ?_))
 obtain ⟨k1, k2⟩ := no_law h159 h160
 obtain ⟨k3, k4⟩ := cn_yes (fs := nmF t5 z6) h160
 have k5 : (false) = true := by
  revert h183 h184 h185
  try rw [k4]
  try rw [k3]
  try rw [k1]
  rcases k2 with ⟨q1, q2⟩ | ⟨q1, q2⟩ | ⟨q1, q2⟩ <;> (try rw [q1]) <;> (try rw [q2]) <;> simp
 exact ⟨_, congrArg (fun z => Ending.returned (Value.bool z)) k5, hX181⟩
 refine qs rfl rfl rfl rfl rfl rfl (qs rfl rfl rfl rfl rfl rfl (qd rfl rfl rfl (r_pickF (v := (.bool false)) rfl rfl) (qd rfl rfl rfl (r_move (v := (.bool false)) rfl) (qs rfl rfl rfl rfl rfl rfl (qs rfl rfl rfl rfl rfl rfl (qd rfl rfl rfl (r_pickF (v := (.bool false)) rfl rfl) (qd rfl rfl rfl (r_move (v := (.bool false)) rfl) (qs rfl rfl rfl rfl rfl rfl (qs rfl rfl rfl rfl rfl rfl (qs rfl rfl rfl rfl rfl rfl (qs rfl rfl rfl rfl rfl rfl ?_)))))))))))
 have h3l191 : ([2, 4, 1] : List Int).length = 3 := rfl
 refine qs rfl rfl rfl rfl rfl rfl (qs rfl rfl rfl rfl rfl rfl (qs rfl rfl rfl rfl rfl rfl (qd rfl rfl rfl (r_pickF (v := (.bool false)) rfl rfl) (qd rfl rfl rfl (r_move (v := (.bool false)) rfl) (qs rfl rfl rfl rfl rfl rfl (qs rfl rfl rfl rfl rfl rfl (qs rfl rfl rfl rfl rfl rfl (qd rfl rfl rfl (r_pickF (v := (.bool false)) rfl rfl) (qd rfl rfl rfl (r_assign (v := (.bool false)) rfl) (qe (s_then ?_)))))))))))
 refine wp_ret (s_ret (c_ret1 (v := (.bool false)) rfl rfl rfl ?_))
 obtain ⟨k1, k2⟩ := no_law h159 h160
 obtain ⟨k3, k4⟩ := cn_yes (fs := nmF t5 z6) h160
 have k5 : (false) = true := by
  revert h183 h184
  try rw [k4]
  try rw [k3]
  try rw [k1]
  rcases k2 with ⟨q1, q2⟩ | ⟨q1, q2⟩ | ⟨q1, q2⟩ <;> (try rw [q1]) <;> (try rw [q2]) <;> simp
 exact ⟨_, congrArg (fun z => Ending.returned (Value.bool z)) k5, hX181⟩
 refine qs rfl rfl rfl rfl rfl rfl (qd rfl rfl rfl (r_pickF (v := (.bool false)) rfl rfl) (qd rfl rfl rfl (r_move (v := (.bool false)) rfl) (qs rfl rfl rfl rfl rfl rfl (qs rfl rfl rfl rfl rfl rfl (qd rfl rfl rfl (r_pickF (v := (.bool false)) rfl rfl) (qd rfl rfl rfl (r_move (v := (.bool false)) rfl) (qs rfl rfl rfl rfl rfl rfl (qs rfl rfl rfl rfl rfl rfl (qd rfl rfl rfl (r_pickF (v := (.bool false)) rfl rfl) (qd rfl rfl rfl (r_move (v := (.bool false)) rfl) (qs rfl rfl rfl rfl rfl rfl (qs rfl rfl rfl rfl rfl rfl (qs rfl rfl rfl rfl rfl rfl (qs rfl rfl rfl rfl rfl rfl ?_))))))))))))))
 have h3l192 : ([2, 4, 1] : List Int).length = 3 := rfl
 refine qs rfl rfl rfl rfl rfl rfl (qs rfl rfl rfl rfl rfl rfl (qs rfl rfl rfl rfl rfl rfl (qd rfl rfl rfl (r_pickF (v := (.bool false)) rfl rfl) (qd rfl rfl rfl (r_move (v := (.bool false)) rfl) (qs rfl rfl rfl rfl rfl rfl (qs rfl rfl rfl rfl rfl rfl (qs rfl rfl rfl rfl rfl rfl (qd rfl rfl rfl (r_pickF (v := (.bool false)) rfl rfl) (qd rfl rfl rfl (r_assign (v := (.bool false)) rfl) (qe (s_then ?_)))))))))))
 refine wp_ret (s_ret (c_ret1 (v := (.bool false)) rfl rfl rfl ?_))
 obtain ⟨k1, k2⟩ := no_law h159 h160
 obtain ⟨k3, k4⟩ := cn_yes (fs := nmF t5 z6) h160
 have k5 : (false) = true := by
  revert h183
  try rw [k4]
  try rw [k3]
  try rw [k1]
  rcases k2 with ⟨q1, q2⟩ | ⟨q1, q2⟩ | ⟨q1, q2⟩ <;> (try rw [q1]) <;> (try rw [q2]) <;> simp
 exact ⟨_, congrArg (fun z => Ending.returned (Value.bool z)) k5, hX181⟩
 refine qs rfl rfl rfl rfl rfl rfl (qs rfl rfl rfl rfl rfl rfl (qs rfl rfl rfl rfl rfl rfl (qs rfl rfl rfl rfl rfl rfl (qd rfl rfl rfl (r_pickT (v := (.bool true)) rfl rfl) (qd rfl rfl rfl (r_move (v := (.bool true)) rfl) (qs rfl rfl rfl rfl rfl rfl (qs rfl rfl rfl rfl rfl rfl (qs rfl rfl rfl rfl rfl rfl (qs rfl rfl rfl rfl rfl rfl (qd rfl rfl rfl (r_pickT (v := (.bool true)) rfl rfl) (qe (s_then ?_))))))))))))
 refine c_ifT rfl rfl (s_seq (c_reg ?_))
 refine qd rfl rfl rfl (r_assign (v := (.bool true)) rfl) (qe (s_then ?_))
 exact wp_ret (s_ret (c_ret1 (v := (.bool true)) rfl rfl rfl (⟨_, rfl, hX156⟩)))
 refine qs rfl rfl rfl rfl rfl rfl (qs rfl rfl rfl rfl rfl rfl (qd rfl rfl rfl (r_pickT (v := (.bool true)) rfl rfl) (qd rfl rfl rfl (r_move (v := (.bool true)) rfl) (qs rfl rfl rfl rfl rfl rfl (qs rfl rfl rfl rfl rfl rfl (qs rfl rfl rfl rfl rfl rfl (qs rfl rfl rfl rfl rfl rfl (qd rfl rfl rfl (r_pickT (v := (.bool true)) rfl rfl) (qd rfl rfl rfl (r_move (v := (.bool true)) rfl) (qs rfl rfl rfl rfl rfl rfl (qs rfl rfl rfl rfl rfl rfl (qs rfl rfl rfl rfl rfl rfl (qs rfl rfl rfl rfl rfl rfl (qd rfl rfl rfl (r_pickT (v := (.bool true)) rfl rfl) (qe (s_then ?_))))))))))))))))
 refine c_ifT rfl rfl (s_seq (c_reg ?_))
 refine qd rfl rfl rfl (r_assign (v := (.bool true)) rfl) (qe (s_then ?_))
 exact wp_ret (s_ret (c_ret1 (v := (.bool true)) rfl rfl rfl (⟨_, rfl, hX156⟩)))

end LNU
end Go.Proofs.YtkfgdhanaijddaaGreatDoor
