/- Texts of this claim in one file: AR7, AR8, LLF. -/
import Derived.Test.YtdongckiecjbaaaLf6
import Derived.Test.YtdongckiecjbaaaChecked
set_option maxRecDepth 20000
set_option maxHeartbeats 2000000
namespace Go.Proofs.Ytdongckiecjbaaa
namespace AR7
open Go.RowKit Go.GL Go.Proofs
open B1 C1 D1 E1

















theorem pl30 : (Try.prog.underlying 30).bind (placesD Try.prog) = some [(0, 1), (1, 1)] := by kernel_rfl









theorem sGoodForm_spec {w : World} {G : Pin} {v : Value} {ns : List Nd} (hP : Pins G w) (hv : RSl eNode G v ns) :
  Calls Try.prog 17 [(.agg [v].toArray)].toArray w fun e w' => ∃ G', e = .returned (.bool (decP (GoodS ns))) ∧ Ext noS G w G' w' := by
 refine s_enter (n := 5) Try.func17 Try.ntmps17 rfl rfl ?_
 have hX0 : Ext noS G w G w := Ext.refl hP
 refine s_seq (c_reg ?_)
 refine q1 rfl rfl rfl (o_box [v] (v := (.agg [v].toArray)) rfl rfl hX0.pins (fun b1 w2 hk3 hb4 hp5 hl6 => ?_))
 have hX7 := hX0.step hp5 hl6
 have hlo8 : w.heap.size ≤ b1 := by have := hX0.size; omega
 obtain ⟨G9, hle10, hX11, hbp12, hf13⟩ := hb4.shut hX7 hlo8
 refine qd rfl rfl rfl (r_assign (v := (.bool false)) rfl) (qe (s_then (s_seq (c_reg ?_))))
 refine qd rfl rfl rfl (r_ldpA (cs := [v]) ag26 sz26 rfl (fun j u hj => hX11.pins _ _ _ (hbp12 _ _ (by simpa using hj)))) (q1 rfl rfl rfl (o_call (vs := [(.agg [v].toArray)]) Try.func36 nm36 rfl rfl rfl ?_))
 refine Calls.mono (l3Good_spec hX11.pins (hv.mono hle10)) ?_
 rintro _ w15 ⟨G14, rfl, hx16⟩
 refine ⟨_, rfl, ?_⟩
 have hX17 := hX11.tr hx16
 refine qd rfl rfl rfl (r_assign (v := (.bool (decP (GoodS ns)))) rfl) (qe (s_then ?_))
 exact wp_ret (s_ret (c_ret1 (v := (.bool (decP (GoodS ns)))) rfl rfl rfl (⟨_, rfl, hX17⟩)))

theorem clone_spec {w : World} {G : Pin} {v : Value} {xs : List Int} (hP : Pins G w) (hv : RSl eInt G v xs) (hs : xs.length ≤ 1048576) :
  Calls Try.prog 16 [v].toArray w fun e w' => ∃ (u : Value) (G' : Pin), e = .returned u ∧ Own eInt 3 G' w' w.heap.size u xs ∧ Ext noS G w G' w' := by
 refine s_enter (n := 8) Try.func16 Try.ntmps16 rfl rfl ?_
 have hX0 : Ext noS G w G w := Ext.refl hP
 refine s_seq (c_reg ?_)
 refine qd rfl rfl rfl (r_assign (v := (.slice none 0 0)) rfl) (qe (s_then (s_seq (s_seq (c_reg ?_)))))
 refine qd rfl rfl rfl (r_move (v := v) rfl) (qd rfl rfl rfl (r_eqlNil Try.underlying46 hv rfl rfl) (qe (s_then ?_)))
 refine c_if rfl rfl (fun h1 => ?_) (fun h1 => ?_)
 refine s_seq (c_reg ?_)
 refine qd rfl rfl rfl (r_assign (v := (.slice none 0 0)) rfl) (qe (s_then ?_))
 refine wp_ret (s_ret (c_ret1 (v := (.slice none 0 0)) rfl rfl rfl ?_))
 have hx0 := nil_of hv h1
 subst hx0
 exact ⟨_, _, rfl, Own.nil _ _ _ _ _, hX0⟩
 refine wp_skip (s_then (s_seq (c_reg ?_)))
 refine q1 rfl rfl rfl (o_build0 (E := eInt) (e := 3) Try.underlying46 sz3 hX0.pins (fun u2 w3 ho4 hp5 hl6 hk7 => ?_))
 have hX8 := hX0.step hp5 hl6
 have ho9 : Own eInt 3 G w3 w.heap.size u2 ([]) := ho4.weaken hX0.size
 refine qd rfl rfl rfl (r_move (v := v) rfl) (q1 rfl rfl rfl (o_append (E := eInt) (v := u2) (u := v) 8 Try.underlying46 ap3 (by decide) rfl rfl hX8.pins ho9 ((hv.mono (Pin.le_refl _)).src hX8.pins (by decide)) (by first | omega | (rw [List.nil_append]; omega) | (rw [List.length_nil]; omega) | (rw [List.length_append]; omega) | (simp; done) | (simp; omega) | (simp only [List.length_cons, List.length_nil]; omega) | (simp only [List.length_append, List.length_cons, List.length_nil]; omega)) (by first | omega | (rw [List.nil_append]; omega) | (rw [List.length_nil]; omega) | (rw [List.length_append]; omega) | (simp; done) | (simp; omega) | (simp only [List.length_cons, List.length_nil]; omega) | (simp only [List.length_append, List.length_cons, List.length_nil]; omega)) (hX8.size) (fun u10 w11 ho12 hp13 hg14 hw15 => ?_)))
 have hX16 := hX8.write hp13 hg14 ((lo_own ho9))
 have hm17 : (([]) ++ xs).length = ([]).length + xs.length := List.length_append
 refine qd rfl rfl rfl (r_assign (v := u10) rfl) (qe (s_then ?_))
 exact wp_ret (s_ret (c_ret1 (v := u10) rfl rfl rfl (⟨_, _, rfl, ho12, hX16⟩)))

theorem sLoopOf_spec {w : World} {G : Pin} {v : Value} {ns : List Nd} (hP : Pins G w) (hv : RSl eNode G v ns) :
  Calls Try.prog 7 [(.agg [v].toArray)].toArray w fun e w' => ∃ (u v : Value) (G' : Pin), e = .returned (.tuple #[.agg [u, v].toArray, .bool (lpOk ns)]) ∧ RSl (eSl eInt) G' u (lpL ns) ∧ RSl (eSl eInt) G' v (lpR ns) ∧ Ext noS G w G' w' := by
 refine s_enter (n := 51) Try.func7 Try.ntmps7 rfl rfl ?_
 have hX0 : Ext noS G w G w := Ext.refl hP
 refine s_seq (c_reg ?_)
 refine q1 rfl rfl rfl (o_box [v] (v := (.agg [v].toArray)) rfl rfl hX0.pins (fun b1 w2 hk3 hb4 hp5 hl6 => ?_))
 have hX7 := hX0.step hp5 hl6
 have hlo8 : w.heap.size ≤ b1 := by have := hX0.size; omega
 obtain ⟨G9, hle10, hX11, hbp12, hf13⟩ := hb4.shut hX7 hlo8
 refine q1 rfl rfl rfl (o_alloc [(.slice none 0 0), (.slice none 0 0)] zr30 rfl hX11.pins (fun b14 w15 hk16 hb17 hp18 hl19 => ?_))
 have hX20 := hX11.step hp18 hl19
 have hlo21 : w.heap.size ≤ b14 := by have := hX11.size; omega
 refine qd rfl rfl rfl (r_assign (v := (.bool false)) rfl) (qe (s_then (s_seq (s_seq (c_reg ?_)))))
 refine qd rfl rfl rfl (r_ldpA (cs := [v]) ag26 sz26 rfl (fun j u hj => hX20.pins _ _ _ (hbp12 _ _ (by simpa using hj)))) (q1 rfl rfl rfl (o_call (vs := [(.agg [v].toArray)]) Try.func17 nm17 rfl rfl rfl ?_))
 refine Calls.mono (sGoodForm_spec hX20.pins (hv.mono hle10)) ?_
 rintro _ w23 ⟨G22, rfl, hx24⟩
 refine ⟨_, rfl, ?_⟩
 have hX25 := hX20.tr hx24
 have hb26 := hb17.ext hx24
 refine qd rfl rfl rfl (r_not rfl) (qd rfl rfl rfl (r_move (v := (.bool (!(decP (GoodS ns))))) rfl) (qbn (t := 9) rfl (fun h27 => ?_) (fun h27 => ?_)))
 refine qdg rfl rfl rfl rfl rfl rfl (r_fldp (k := 0) rfl Try.underlying26 rfl nz24 rfl) (qdg rfl rfl rfl rfl rfl rfl (r_ldp1 (u := v) ag24 rfl ((Pins.of_le hX25.pins hx24.le) _ _ _ (hbp12 0 _ rfl))) (qdg rfl rfl rfl rfl rfl rfl (run_len Try.underlying24 (v := v) rfl hv) (qdg rfl rfl rfl rfl rfl rfl (r_gtr rfl rfl) (qd rfl rfl rfl (r_pickF (v := (.bool (decide ((36 : Int) < (ns.length : Int))))) rfl rfl) (qe (s_then ?_))))))
 refine c_ifd (p := (36 : Int) < (ns.length : Int)) rfl rfl (fun h28 => ?_) (fun h28 => ?_)
 refine s_seq (c_reg ?_)
 refine qd rfl rfl rfl (r_build [(.slice none 0 0), (.slice none 0 0)] [(.slice none 0 0), (.slice none 0 0)] [] Try.underlying30 zr30 rfl pl30 rfl (fun _ h => by cases h) rfl) (q0 rfl rfl rfl (o_stp (cs' := [(.slice none 0 0), (.slice none 0 0)]) (us := [(.slice none 0 0), (.slice none 0 0)]) (v := (.agg [(.slice none 0 0), (.slice none 0 0)].toArray)) sz30 rfl rfl rfl (ones2 (by rfl) (by rfl)) hX25.pins hb26 (Nat.le_of_ble_eq_true rfl) rfl (fun w29 hb30 hp31 hg32 hz33 => ?_)))
 have hX34 := hX25.write hp31 hg32 ((lo_box hlo21))
 refine qd rfl rfl rfl (r_assign (v := (.bool false)) rfl) (qe (s_then ?_))
 refine wp_ret (s_ret (c_retct (cs := [(.slice none 0 0), (.slice none 0 0)]) (v := (.bool false)) rfl rfl rfl rfl rfl ag30 sz30 (fun j u hj => by rw [Nat.zero_add]; exact hb30.cell hj) ?_))
 obtain ⟨e1, e2, e3⟩ := lp_no (ns := ns) (Or.inr h28)
 rw [e1, e2, e3]
 exact ⟨_, _, _, rfl, nil_reads _ _, nil_reads _ _, hX34⟩
 refine wp_skip (s_then (s_seq (c_reg ?_)))
 refine qd rfl rfl rfl (r_build [(.slice none 0 0), (.slice none 0 0)] [(.slice none 0 0), (.slice none 0 0)] [] Try.underlying30 zr30 rfl pl30 rfl (fun _ h => by cases h) rfl) ?_
 have hsm := good_small (goodB_true.1 ((good_eq ns).symm.trans h27))
 have hln := hsm.len
 refine q1 rfl rfl rfl (o_alloc [(.slice none 0 0), (.slice none 0 0)] zr30 rfl hX25.pins (fun b35 w36 hk37 hb38 hp39 hl40 => ?_))
 have hX41 := hX25.step hp39 hl40
 have hb42 := hb26.below hl40
 have ha43 : Apart (some b35) (some b14) := new_ne_box (congrArg some hk37) hb26.lt
 have hlo44 : w.heap.size ≤ b35 := by have := hX25.size; omega
 refine q0 rfl rfl rfl (o_stp (cs' := [(.slice none 0 0), (.slice none 0 0)]) (us := [(.slice none 0 0), (.slice none 0 0)]) (v := (.agg [(.slice none 0 0), (.slice none 0 0)].toArray)) sz30 rfl rfl rfl (ones2 (by rfl) (by rfl)) hX41.pins hb38 (Nat.le_of_ble_eq_true rfl) rfl (fun w45 hb46 hp47 hg48 hz49 => ?_))
 have hX50 := hX41.write hp47 hg48 ((lo_box hlo44))
 have hb51 := hb42.keptA hg48 ha43.symm
 refine qe (s_then (s_seq (s_seq (c_reg ?_))))
 refine qd rfl rfl rfl (r_assign (v := (.int .i64 0)) rfl) (qe (s_then ?_))
 refine s_blk (s_loop (fun (k : Nat) (en : Nat → Value) (W : World) => ∃ (env1 : Nat → Value) (j : Nat) (lu : Value) (rv : Value) (ls : List (List Int)) (rs : List (List Int)) (GL1 : Pin), en = (upd (upd (upd (upd (upd env1 1 (.pointer (some ⟨b1, 0, none⟩))) 2 (.pointer (some ⟨b14, 0, none⟩))) 3 (.bool false)) 4 (.pointer (some ⟨b35, 0, none⟩))) 5 (.int .i64 (j : Int))) ∧ k = ns.length - j ∧ Ext noS G w GL1 W ∧ Pin.le G22 GL1 ∧ (j ≤ ns.length) ∧ (ls = (ns.take j).map Nd.l) ∧ (rs = (ns.take j).map Nd.r) ∧ (ls.length = j) ∧ (rs.length = j) ∧ (Own (eSl eInt) 46 GL1 W w.heap.size lu (ls)) ∧ (Own (eSl eInt) 46 GL1 W w.heap.size rv (rs)) ∧ (Bx GL1 W b14 [(.slice none 0 0), (.slice none 0 0)]) ∧ (Bx GL1 W b35 [lu, rv]) ∧ (Apart lu.ownBlock rv.ownBlock) ∧ (Apart lu.ownBlock (some b14)) ∧ (Apart lu.ownBlock (some b35)) ∧ (Apart rv.ownBlock (some b14)) ∧ (Apart rv.ownBlock (some b35))) _ ⟨_, 0, (.slice none 0 0), (.slice none 0 0), [], [], G22, (packS (x := 5) (packS (x := 4) (packS (x := 3) (packS (x := 2) (pack1 (x := 1) rfl) rfl) rfl) rfl) rfl), rfl, hX50, Pin.le_refl _, Nat.zero_le _, rfl, rfl, rfl, rfl, (Own.nil _ _ _ _ _), (Own.nil _ _ _ _ _), hb51, hb46, apart_none, apart_none, apart_none, apart_none, apart_none⟩ ?_)
 rintro k52 _ w53 ⟨env1, j, lu, rv, ls, rs, GL1, rfl, hk54, hX55, hlek52, hj, hls, hrs, hll, hrl, hw56, hw57, hw58, hw59, ha60, ha61, ha62, ha63, ha64⟩
 refine s_seq (s_seq (c_reg ?_))
 refine qd rfl rfl rfl (r_move (v := (.int .i64 (j : Int))) rfl) (qd rfl rfl rfl (r_fldp (k := 0) rfl Try.underlying26 rfl nz24 rfl) (qd rfl rfl rfl (r_ldp1 (u := v) ag24 rfl ((Pins.of_le hX55.pins (Pin.le_trans hx24.le hlek52)) _ _ _ (hbp12 0 _ rfl))) (qd rfl rfl rfl (run_len Try.underlying24 (v := v) rfl hv) (qd rfl rfl rfl (r_lss rfl rfl) (qe (s_then ?_))))))
 refine c_ifd (p := ((j : Int) : Int) < (ns.length : Int)) rfl rfl (fun h65 => ?_) (fun h65 => ?_)
 have hso := hsm.opts j (by omega)
 refine wp_skip (s_then (s_seq ?_))
 refine s_blk (s_seq (c_draw (S := fun wz => BxR wz b35 [lu, rv] ∧ Pins GL1 wz) (last := 13) (by kernel_rfl) rfl ?_))
 have hl66 : Below w53.heap.size w53 w53.drew := (Below.refl _ _).drew
 have hp67 := hX55.pins.below hl66
 have hX68 := hX55.step hp67 hl66
 have ho69 := hw56.below hl66
 have ho70 := hw57.below hl66
 have hb71 := hw58.below hl66
 have hb72 := hw59.below hl66
 refine dr_take (i := 0) rfl rfl rfl (want_none rfl _) (by kernel_rfl) (fun _ _ => r_fldp (k := 0) rfl Try.underlying30 rfl nz28 rfl) ⟨hb72.reads, hX68.pins⟩ (dr_take (i := 1) rfl rfl rfl (want_none rfl _) (by kernel_rfl) (fun _ hS => r_ldp1 (u := lu) ag28 rfl (hS.1 0 _ rfl)) ⟨hb72.reads, hX68.pins⟩ (dr_take (i := 3) rfl rfl rfl (want_none rfl _) (by kernel_rfl) (fun _ _ => r_fldp (k := 0) rfl Try.underlying26 rfl nz24 rfl) ⟨hb72.reads, hX68.pins⟩ (dr_take (i := 4) rfl rfl rfl (want_none rfl _) (by kernel_rfl) (fun _ hS => r_ldp1 (u := v) ag24 rfl ((Pins.of_le hS.2 (Pin.le_trans hx24.le hlek52)) _ _ _ (hbp12 0 _ rfl))) ⟨hb72.reads, hX68.pins⟩ (dr_take (i := 5) rfl rfl rfl (want_none rfl _) (by kernel_rfl) (fun _ _ => r_move (v := (.int .i64 (j : Int))) rfl) ⟨hb72.reads, hX68.pins⟩ (dr_take (i := 6) rfl rfl rfl (want_none rfl _) (by kernel_rfl) (fun _ _ => run_idx Try.underlying24 sz48 (v := v) rfl rfl hv (by omega) (by omega)) ⟨hb72.reads, hX68.pins⟩ (dr_take (i := 7) rfl rfl rfl (want_none rfl _) (by kernel_rfl) (fun _ _ => run_fld (off := 0) Try.underlying48 rfl rfl nz46 (z := (j : Int)) (k := 0) rfl hv (by omega) (by omega)) ⟨hb72.reads, hX68.pins⟩ ?_))))))
 obtain ⟨u73, hr74, hl75⟩ := nm_nl (hv.at (z := (j : Int)) (by omega) (by omega)) (j := j) rfl
 have hm76 := hr74.max
 refine dr_take (i := 8) rfl rfl rfl (want_none rfl _) (by kernel_rfl) (fun _ hS => hl75 ag46 rfl (Pins.of_le hS.2 (Pin.le_trans (Pin.le_trans hle10 hx24.le) hlek52))) ⟨hb72.reads, hX68.pins⟩ (dr_one (i := 2) (by kernel_rfl) (drOp1 (i := 2) rfl rfl rfl (want_none rfl _) (o_build0 (E := eInt) (e := 3) Try.underlying46 sz3 hX68.pins (fun u77 w78 ho79 hp80 hl81 hk82 => ?_))))
 have hX83 := hX68.step hp80 hl81
 have ho84 := ho69.below hl81
 have ho85 := ho70.below hl81
 have hb86 := hb71.below hl81
 have hb87 := hb72.below hl81
 have ha88 : Apart u77.ownBlock lu.ownBlock := new_ne_own hk82 ho69.lt
 have ha89 : Apart u77.ownBlock rv.ownBlock := new_ne_own hk82 ho70.lt
 have ha90 : Apart u77.ownBlock (some b14) := new_ne_box hk82 hb71.lt
 have ha91 : Apart u77.ownBlock (some b35) := new_ne_box hk82 hb72.lt
 have ho92 : Own eInt 3 GL1 w78 w.heap.size u77 ([]) := ho79.weaken hX68.size
 refine ⟨fun _ => ⟨hb87.reads, hX83.pins⟩, ?_⟩
 refine dr_one (i := 9) (by kernel_rfl) (drOp1 (i := 9) rfl rfl rfl (want_none rfl _) (o_append (E := eInt) (v := u77) (u := u73) 8 Try.underlying46 ap3 (by decide) rfl rfl hX83.pins ho92 ((hr74.mono (Pin.le_trans (Pin.le_trans hle10 hx24.le) hlek52)).src hX83.pins (by decide)) (by first | omega | (rw [List.nil_append]; omega) | (rw [List.length_nil]; omega) | (rw [List.length_append]; omega) | (simp; done) | (simp; omega) | (simp only [List.length_cons, List.length_nil]; omega) | (simp only [List.length_append, List.length_cons, List.length_nil]; omega)) (by first | omega | (rw [List.nil_append]; omega) | (rw [List.length_nil]; omega) | (rw [List.length_append]; omega) | (simp; done) | (simp; omega) | (simp only [List.length_cons, List.length_nil]; omega) | (simp only [List.length_append, List.length_cons, List.length_nil]; omega)) (hX83.size) (fun u93 w94 ho95 hp96 hg97 hw98 => ?_)))
 have hX99 := hX83.write hp96 hg97 ((lo_own ho92))
 have ho100 := ho84.keptA hg97 ha88.symm
 have ho101 := ho85.keptA hg97 ha89.symm
 have hb102 := hb86.keptA hg97 ha90.symm
 have hb103 := hb87.keptA hg97 ha91.symm
 have ha104 : Apart lu.ownBlock u93.ownBlock := app_ne_own ha88.symm hw98 ho84.lt
 have ha105 : Apart rv.ownBlock u93.ownBlock := app_ne_own ha89.symm hw98 ho85.lt
 have ha106 : Apart (some b14) u93.ownBlock := app_ne_box ha90.symm hw98 hb86.lt
 have ha107 : Apart (some b35) u93.ownBlock := app_ne_box ha91.symm hw98 hb87.lt
 have hm108 : (([]) ++ ((ns.getD j default).l)).length = ([]).length + ((ns.getD j default).l).length := List.length_append
 refine ⟨fun _ => ⟨hb103.reads, hX99.pins⟩, ?_⟩
 obtain ⟨G109, hle112, hX111, hr110, hf113⟩ := ho95.sealed hX99
 have ho114 := ho100.moreO hle112 hf113 ha104
 have ho115 := ho101.moreO hle112 hf113 ha105
 have hb116 := hb102.moreO hf113 ha106
 have hb117 := hb103.moreO hf113 ha107
 refine dr_one (i := 10) (by kernel_rfl) (drOp1 (i := 10) rfl rfl rfl (want_none rfl _) (o_buildF (E := (eSl eInt)) (e := 46) [u93] [([]) ++ ((ns.getD j default).l)] Try.underlying28 sz46 zr46 (by exact reps1 (⟨_, rfl, hr110⟩)) (ones1 hr110.one) rfl rfl rfl rfl (by decide) hX111.pins (fun u118 w119 ho120 hp121 hl122 hk123 => ?_)))
 have hX124 := hX111.step hp121 hl122
 have ho125 := ho114.below hl122
 have ho126 := ho115.below hl122
 have hb127 := hb116.below hl122
 have hb128 := hb117.below hl122
 have ho133 : Own (eSl eInt) 46 G109 w119 w.heap.size u118 ([([]) ++ ((ns.getD j default).l)]) := ho120.weaken hX111.size
 refine ⟨fun _ => ⟨hb128.reads, (Pins.of_le hX124.pins hle112)⟩, ?_⟩
 refine dr_one (i := 11) (by kernel_rfl) (drOp1 (i := 11) rfl rfl rfl (want_none rfl _) (o_append (E := (eSl eInt)) (v := lu) (u := u118) 24 Try.underlying28 ap46 (by decide) rfl rfl hX124.pins ho125 ho133.src (by first | omega | (rw [List.nil_append]; omega) | (rw [List.length_nil]; omega) | (rw [List.length_append]; omega) | (simp; done) | (simp; omega) | (simp only [List.length_cons, List.length_nil]; omega) | (simp only [List.length_append, List.length_cons, List.length_nil]; omega)) (by first | omega | (rw [List.nil_append]; omega) | (rw [List.length_nil]; omega) | (rw [List.length_append]; omega) | (simp; done) | (simp; omega) | (simp only [List.length_cons, List.length_nil]; omega) | (simp only [List.length_append, List.length_cons, List.length_nil]; omega)) (hX124.size) (fun u134 w135 ho136 hp137 hg138 hw139 => ?_)))
 have hX140 := hX124.write hp137 hg138 ((lo_own ho125))
 have ho141 := ho126.keptA hg138 ha60.symm
 have hb143 := hb127.keptA hg138 ha61.symm
 have hb144 := hb128.keptA hg138 ha62.symm
 have ha145 : Apart rv.ownBlock u134.ownBlock := app_ne_own ha60.symm hw139 ho126.lt
 have ha147 : Apart (some b14) u134.ownBlock := app_ne_box ha61.symm hw139 hb127.lt
 have ha148 : Apart (some b35) u134.ownBlock := app_ne_box ha62.symm hw139 hb128.lt
 have hm149 : (ls ++ ([([]) ++ ((ns.getD j default).l)])).length = ls.length + 1 := List.length_append
 refine ⟨fun _ => ⟨hb144.reads, (Pins.of_le hX140.pins hle112)⟩, ?_⟩
 refine dr_take (i := 12) rfl rfl rfl (want_none rfl _) (by kernel_rfl) (fun _ _ => r_fldp (k := 0) rfl Try.underlying30 rfl nz28 rfl) ⟨hb144.reads, (Pins.of_le hX140.pins hle112)⟩ (dr_one (i := 13) (by kernel_rfl) (drOp0 (i := 13) rfl rfl rfl (want_none rfl _) (o_stp (cs' := [u134, rv]) (us := [u134]) (v := u134) sz28 rfl rfl (cells1 ho136.one) (ones1 ho136.one) hX140.pins hb144 (Nat.le_of_ble_eq_true rfl) rfl (fun w150 hb151 hp152 hg153 hz154 => ?_))))
 have hX155 := hX140.write hp152 hg153 ((lo_box hlo44))
 have ho156 := ho141.keptA hg153 ha64
 have ho157 := ho136.keptA hg153 ha148.symm
 have hb158 := hb143.keptA hg153 ha43.symm
 refine ⟨fun h => absurd rfl h, ?_⟩
 refine dr_end (by kernel_rfl) (s_then (c_draw (S := fun wz => BxR wz b35 [u134, rv] ∧ Pins G109 wz) (last := 13) (by kernel_rfl) rfl ?_))
 have hl159 : Below w150.heap.size w150 w150.drew := (Below.refl _ _).drew
 have hp160 := hX155.pins.below hl159
 have hX161 := hX155.step hp160 hl159
 have ho162 := ho156.below hl159
 have ho163 := ho157.below hl159
 have hb164 := hb158.below hl159
 have hb165 := hb151.below hl159
 refine dr_take (i := 0) rfl rfl rfl (want_none rfl _) (by kernel_rfl) (fun _ _ => r_fldp (k := 1) rfl Try.underlying30 rfl nz28 rfl) ⟨hb165.reads, hX161.pins⟩ (dr_take (i := 1) rfl rfl rfl (want_none rfl _) (by kernel_rfl) (fun _ hS => r_ldp1 (u := rv) ag28 rfl (hS.1 1 _ rfl)) ⟨hb165.reads, hX161.pins⟩ (dr_take (i := 3) rfl rfl rfl (want_none rfl _) (by kernel_rfl) (fun _ _ => r_fldp (k := 0) rfl Try.underlying26 rfl nz24 rfl) ⟨hb165.reads, hX161.pins⟩ (dr_take (i := 4) rfl rfl rfl (want_none rfl _) (by kernel_rfl) (fun _ hS => r_ldp1 (u := v) ag24 rfl ((Pins.of_le hS.2 (Pin.le_trans (Pin.le_trans hx24.le hlek52) hle112)) _ _ _ (hbp12 0 _ rfl))) ⟨hb165.reads, hX161.pins⟩ (dr_take (i := 5) rfl rfl rfl (want_none rfl _) (by kernel_rfl) (fun _ _ => r_move (v := (.int .i64 (j : Int))) rfl) ⟨hb165.reads, hX161.pins⟩ (dr_take (i := 6) rfl rfl rfl (want_none rfl _) (by kernel_rfl) (fun _ _ => run_idx Try.underlying24 sz48 (v := v) rfl rfl hv (by omega) (by omega)) ⟨hb165.reads, hX161.pins⟩ (dr_take (i := 7) rfl rfl rfl (want_none rfl _) (by kernel_rfl) (fun _ _ => run_fld (off := 1) Try.underlying48 rfl rfl nz46 (z := (j : Int)) (k := 0) rfl hv (by omega) (by omega)) ⟨hb165.reads, hX161.pins⟩ ?_))))))
 obtain ⟨u166, hr167, hl168⟩ := nm_nr (hv.at (z := (j : Int)) (by omega) (by omega)) (j := j) rfl
 have hm169 := hr167.max
 refine dr_take (i := 8) rfl rfl rfl (want_none rfl _) (by kernel_rfl) (fun _ hS => hl168 ag46 rfl (Pins.of_le hS.2 (Pin.le_trans (Pin.le_trans (Pin.le_trans hle10 hx24.le) hlek52) hle112))) ⟨hb165.reads, hX161.pins⟩ (dr_one (i := 2) (by kernel_rfl) (drOp1 (i := 2) rfl rfl rfl (want_none rfl _) (o_build0 (E := eInt) (e := 3) Try.underlying46 sz3 hX161.pins (fun u170 w171 ho172 hp173 hl174 hk175 => ?_))))
 have hX176 := hX161.step hp173 hl174
 have ho177 := ho162.below hl174
 have ho178 := ho163.below hl174
 have hb179 := hb164.below hl174
 have hb180 := hb165.below hl174
 have ha181 : Apart u170.ownBlock rv.ownBlock := new_ne_own hk175 ho162.lt
 have ha182 : Apart u170.ownBlock u134.ownBlock := new_ne_own hk175 ho163.lt
 have ha183 : Apart u170.ownBlock (some b14) := new_ne_box hk175 hb164.lt
 have ha184 : Apart u170.ownBlock (some b35) := new_ne_box hk175 hb165.lt
 have ho185 : Own eInt 3 G109 w171 w.heap.size u170 ([]) := ho172.weaken hX161.size
 refine ⟨fun _ => ⟨hb180.reads, hX176.pins⟩, ?_⟩
 refine dr_one (i := 9) (by kernel_rfl) (drOp1 (i := 9) rfl rfl rfl (want_none rfl _) (o_append (E := eInt) (v := u170) (u := u166) 8 Try.underlying46 ap3 (by decide) rfl rfl hX176.pins ho185 ((hr167.mono (Pin.le_trans (Pin.le_trans (Pin.le_trans hle10 hx24.le) hlek52) hle112)).src hX176.pins (by decide)) (by first | omega | (rw [List.nil_append]; omega) | (rw [List.length_nil]; omega) | (rw [List.length_append]; omega) | (simp; done) | (simp; omega) | (simp only [List.length_cons, List.length_nil]; omega) | (simp only [List.length_append, List.length_cons, List.length_nil]; omega)) (by first | omega | (rw [List.nil_append]; omega) | (rw [List.length_nil]; omega) | (rw [List.length_append]; omega) | (simp; done) | (simp; omega) | (simp only [List.length_cons, List.length_nil]; omega) | (simp only [List.length_append, List.length_cons, List.length_nil]; omega)) (hX176.size) (fun u186 w187 ho188 hp189 hg190 hw191 => ?_)))
 have hX192 := hX176.write hp189 hg190 ((lo_own ho185))
 have ho193 := ho177.keptA hg190 ha181.symm
 have ho194 := ho178.keptA hg190 ha182.symm
 have hb195 := hb179.keptA hg190 ha183.symm
 have hb196 := hb180.keptA hg190 ha184.symm
 have ha197 : Apart rv.ownBlock u186.ownBlock := app_ne_own ha181.symm hw191 ho177.lt
 have ha198 : Apart u134.ownBlock u186.ownBlock := app_ne_own ha182.symm hw191 ho178.lt
 have ha199 : Apart (some b14) u186.ownBlock := app_ne_box ha183.symm hw191 hb179.lt
 have ha200 : Apart (some b35) u186.ownBlock := app_ne_box ha184.symm hw191 hb180.lt
 have hm201 : (([]) ++ ((ns.getD j default).r)).length = ([]).length + ((ns.getD j default).r).length := List.length_append
 refine ⟨fun _ => ⟨hb196.reads, hX192.pins⟩, ?_⟩
 obtain ⟨G202, hle205, hX204, hr203, hf206⟩ := ho188.sealed hX192
 have ho207 := ho193.moreO hle205 hf206 ha197
 have ho208 := ho194.moreO hle205 hf206 ha198
 have hb209 := hb195.moreO hf206 ha199
 have hb210 := hb196.moreO hf206 ha200
 refine dr_one (i := 10) (by kernel_rfl) (drOp1 (i := 10) rfl rfl rfl (want_none rfl _) (o_buildF (E := (eSl eInt)) (e := 46) [u186] [([]) ++ ((ns.getD j default).r)] Try.underlying28 sz46 zr46 (by exact reps1 (⟨_, rfl, hr203⟩)) (ones1 hr203.one) rfl rfl rfl rfl (by decide) hX204.pins (fun u211 w212 ho213 hp214 hl215 hk216 => ?_)))
 have hX217 := hX204.step hp214 hl215
 have ho218 := ho207.below hl215
 have ho219 := ho208.below hl215
 have hb220 := hb209.below hl215
 have hb221 := hb210.below hl215
 have ho226 : Own (eSl eInt) 46 G202 w212 w.heap.size u211 ([([]) ++ ((ns.getD j default).r)]) := ho213.weaken hX204.size
 refine ⟨fun _ => ⟨hb221.reads, (Pins.of_le hX217.pins hle205)⟩, ?_⟩
 refine dr_one (i := 11) (by kernel_rfl) (drOp1 (i := 11) rfl rfl rfl (want_none rfl _) (o_append (E := (eSl eInt)) (v := rv) (u := u211) 24 Try.underlying28 ap46 (by decide) rfl rfl hX217.pins ho218 ho226.src (by first | omega | (rw [List.nil_append]; omega) | (rw [List.length_nil]; omega) | (rw [List.length_append]; omega) | (simp; done) | (simp; omega) | (simp only [List.length_cons, List.length_nil]; omega) | (simp only [List.length_append, List.length_cons, List.length_nil]; omega)) (by first | omega | (rw [List.nil_append]; omega) | (rw [List.length_nil]; omega) | (rw [List.length_append]; omega) | (simp; done) | (simp; omega) | (simp only [List.length_cons, List.length_nil]; omega) | (simp only [List.length_append, List.length_cons, List.length_nil]; omega)) (hX217.size) (fun u227 w228 ho229 hp230 hg231 hw232 => ?_)))
 have hX233 := hX217.write hp230 hg231 ((lo_own ho218))
 have ho234 := ho219.keptA hg231 ha145.symm
 have hb236 := hb220.keptA hg231 ha63.symm
 have hb237 := hb221.keptA hg231 ha64.symm
 have ha238 : Apart u134.ownBlock u227.ownBlock := app_ne_own ha145.symm hw232 ho219.lt
 have ha240 : Apart (some b14) u227.ownBlock := app_ne_box ha63.symm hw232 hb220.lt
 have ha241 : Apart (some b35) u227.ownBlock := app_ne_box ha64.symm hw232 hb221.lt
 have hm242 : (rs ++ ([([]) ++ ((ns.getD j default).r)])).length = rs.length + 1 := List.length_append
 refine ⟨fun _ => ⟨hb237.reads, (Pins.of_le hX233.pins hle205)⟩, ?_⟩
 refine dr_take (i := 12) rfl rfl rfl (want_none rfl _) (by kernel_rfl) (fun _ _ => r_fldp (k := 1) rfl Try.underlying30 rfl nz28 rfl) ⟨hb237.reads, (Pins.of_le hX233.pins hle205)⟩ (dr_one (i := 13) (by kernel_rfl) (drOp0 (i := 13) rfl rfl rfl (want_none rfl _) (o_stp (cs' := [u134, u227]) (us := [u227]) (v := u227) sz28 rfl rfl (cells1 ho229.one) (ones1 ho229.one) hX233.pins hb237 (Nat.le_of_ble_eq_true rfl) rfl (fun w243 hb244 hp245 hg246 hz247 => ?_))))
 have hX248 := hX233.write hp245 hg246 ((lo_box hlo44))
 have ho249 := ho234.keptA hg246 ha148.symm
 have ho250 := ho229.keptA hg246 ha241.symm
 have hb251 := hb236.keptA hg246 ha43.symm
 refine ⟨fun h => absurd rfl h, ?_⟩
 refine dr_end (by kernel_rfl) (s_blkN (s_then (c_reg ?_)))
 refine qd rfl rfl rfl (r_move (v := (.int .i64 (j : Int))) rfl) (qd rfl rfl rfl (r_add rfl rfl (by omega)) (qd rfl rfl rfl (r_assign (v := (.int .i64 ((j : Int) + 1))) rfl) (qe (s_lopN (⟨_, ?_, _, rfl, _, j + 1, u134, u227, ls ++ [[] ++ (ns.getD j default).l], rs ++ [[] ++ (ns.getD j default).r], G202, (packS (x := 5) (packS (x := 4) (packS (x := 3) (packS (x := 2) (pack1 (x := 1) rfl) rfl) rfl) rfl) rfl), rfl, hX248, (Pin.le_trans (Pin.le_trans hlek52 hle112) hle205), (by omega), (by rw [hls]; exact map_next (f := Nd.l) default (by omega)), (by rw [hrs]; exact map_next (f := Nd.r) default (by omega)), (by simp; omega), (by simp; omega), ho249, ho250, hb251, hb244, ha238, ha147.symm, ha148.symm, ha240.symm, ha241.symm⟩)))))
 omega
 refine wp_exit (s_thenE (s_lopE (s_blkE (s_then (s_seq (c_reg ?_))))))
 refine qd rfl rfl rfl (r_ldpA (cs := [lu, rv]) ag30 sz30 rfl (fun j u hj => hw59.cell (by simpa using hj))) (q0 rfl rfl rfl (o_stp (cs' := [lu, rv]) (us := [lu, rv]) (v := (.agg [lu, rv].toArray)) sz30 rfl rfl rfl (ones2 hw56.one hw57.one) hX55.pins hw58 (Nat.le_of_ble_eq_true rfl) rfl (fun w252 hb253 hp254 hg255 hz256 => ?_)))
 have hX257 := hX55.write hp254 hg255 ((lo_box hlo21))
 have ho258 := hw56.keptA hg255 ha61
 have ho259 := hw57.keptA hg255 ha63
 refine qd rfl rfl rfl (r_assign (v := (.bool true)) rfl) (qe (s_then ?_))
 refine wp_ret (s_ret (c_retct (cs := [lu, rv]) (v := (.bool true)) rfl rfl rfl rfl rfl ag30 sz30 (fun j u hj => by rw [Nat.zero_add]; exact hb253.cell hj) ?_))
 obtain ⟨G261, hle264, hX263, hr262, hf265⟩ := ho258.sealed hX257
 have ho266 := ho259.moreO hle264 hf265 ha60.symm
 obtain ⟨G269, hle272, hX271, hr270, hf273⟩ := ho266.sealed hX263
 obtain ⟨e1, e2, e3⟩ := lp_yes (ns := ns) ((good_eq ns).symm.trans h27) h28
 rw [e1, e2, e3]
 rw [take_all (by omega)] at hls hrs
 rw [← hls, ← hrs]
 exact ⟨_, _, _, rfl, (hr262.mono hle272), hr270, hX271⟩
 refine qs rfl rfl rfl rfl rfl rfl (qs rfl rfl rfl rfl rfl rfl (qs rfl rfl rfl rfl rfl rfl (qs rfl rfl rfl rfl rfl rfl (qd rfl rfl rfl (r_pickT (v := (.bool true)) rfl rfl) (qe (s_then ?_))))))
 refine c_ifT rfl rfl (s_seq (c_reg ?_))
 refine qd rfl rfl rfl (r_build [(.slice none 0 0), (.slice none 0 0)] [(.slice none 0 0), (.slice none 0 0)] [] Try.underlying30 zr30 rfl pl30 rfl (fun _ h => by cases h) rfl) (q0 rfl rfl rfl (o_stp (cs' := [(.slice none 0 0), (.slice none 0 0)]) (us := [(.slice none 0 0), (.slice none 0 0)]) (v := (.agg [(.slice none 0 0), (.slice none 0 0)].toArray)) sz30 rfl rfl rfl (ones2 (by rfl) (by rfl)) hX25.pins hb26 (Nat.le_of_ble_eq_true rfl) rfl (fun w276 hb277 hp278 hg279 hz280 => ?_)))
 have hX281 := hX25.write hp278 hg279 ((lo_box hlo21))
 refine qd rfl rfl rfl (r_assign (v := (.bool false)) rfl) (qe (s_then ?_))
 refine wp_ret (s_ret (c_retct (cs := [(.slice none 0 0), (.slice none 0 0)]) (v := (.bool false)) rfl rfl rfl rfl rfl ag30 sz30 (fun j u hj => by rw [Nat.zero_add]; exact hb277.cell hj) ?_))
 obtain ⟨e1, e2, e3⟩ := lp_no (ns := ns) (Or.inl ((good_eq ns).symm.trans h27))
 rw [e1, e2, e3]
 exact ⟨_, _, _, rfl, nil_reads _ _, nil_reads _ _, hX281⟩

theorem iLoopOf_dspec {w : World} {G : Pin} {v : Value} {ns : List Nd} (hP : Pins G w) (hv : RSl eNode G v ns) :
  Calls Try.prog 6 [(.agg [v].toArray)].toArray w fun e w' => ∃ (u v : Value) (G' : Pin), e = .returned (.tuple #[.agg [u, v].toArray, .bool (lpOk ns)]) ∧ DLoop 46 3 G' w' w.heap.size w'.heap.size u v (lpL ns) (lpR ns) ∧ Ext noS G w G' w' := by
 refine s_enter (n := 43) Try.func6 Try.ntmps6 rfl rfl ?_
 have hX0 : Ext noS G w G w := Ext.refl hP
 have hlv0 : Lvs 3 G w w.heap.size w.heap.size [] := Lvs.nil
 refine s_seq (c_reg ?_)
 refine q1 rfl rfl rfl (o_box [v] (v := (.agg [v].toArray)) rfl rfl hX0.pins (fun b1 w2 hk3 hb4 hp5 hl6 => ?_))
 have hX7 := hX0.step hp5 hl6
 have hlv8 := (hlv0.below hl6).top
 have ha9 : ApL [] (some b1) := ApL.fresh hlv0 (fun k hk => by rw [(congrArg some hk3)] at hk; cases hk; exact Nat.le_refl _)
 have hlo10 : w.heap.size ≤ b1 := by have := hX0.size; omega
 obtain ⟨G11, hle12, hX13, hbp14, hf15⟩ := hb4.shut hX7 hlo10
 have hlv16 := hlv8.more hle12 hf15 ha9
 refine q1 rfl rfl rfl (o_alloc [(.slice none 0 0), (.slice none 0 0)] zr30 rfl hX13.pins (fun b17 w18 hk19 hb20 hp21 hl22 => ?_))
 have hX23 := hX13.step hp21 hl22
 have hlv24 := (hlv16.below hl22).top
 have ha25 : ApL [] (some b17) := ApL.fresh hlv16 (fun k hk => by rw [(congrArg some hk19)] at hk; cases hk; exact Nat.le_refl _)
 have hlo26 : w.heap.size ≤ b17 := by have := hX13.size; omega
 refine qd rfl rfl rfl (r_assign (v := (.bool false)) rfl) (qe (s_then (s_seq (s_seq (c_reg ?_)))))
 refine qd rfl rfl rfl (r_ldpA (cs := [v]) ag26 sz26 rfl (fun j u hj => hX23.pins _ _ _ (hbp14 _ _ (by simpa using hj)))) (q1 rfl rfl rfl (o_call (vs := [(.agg [v].toArray)]) Try.func15 nm15 rfl rfl rfl ?_))
 refine Calls.mono (goodForm_spec hX23.pins (hv.mono hle12)) ?_
 rintro _ w28 ⟨G27, rfl, hx29⟩
 refine ⟨_, rfl, ?_⟩
 have hX30 := hX23.tr hx29
 have hb31 := hb20.ext hx29
 have hlv32 := (hlv24.ext hx29).top
 refine qd rfl rfl rfl (r_not rfl) (qd rfl rfl rfl (r_move (v := (.bool (!(goodB ns)))) rfl) (qbn (t := 10) rfl (fun h33 => ?_) (fun h33 => ?_)))
 refine qdg rfl rfl rfl rfl rfl rfl (r_fldp (k := 0) rfl Try.underlying26 rfl nz24 rfl) (qdg rfl rfl rfl rfl rfl rfl (r_ldp1 (u := v) ag24 rfl ((Pins.of_le hX30.pins hx29.le) _ _ _ (hbp14 0 _ rfl))) (qdg rfl rfl rfl rfl rfl rfl (run_len Try.underlying24 (v := v) rfl hv) (qdg rfl rfl rfl rfl rfl rfl (r_gtr rfl rfl) (qd rfl rfl rfl (r_pickF (v := (.bool (decide ((36 : Int) < (ns.length : Int))))) rfl rfl) (qe (s_then ?_))))))
 refine c_ifd (p := (36 : Int) < (ns.length : Int)) rfl rfl (fun h34 => ?_) (fun h34 => ?_)
 refine s_seq (c_reg ?_)
 refine qd rfl rfl rfl (r_build [(.slice none 0 0), (.slice none 0 0)] [(.slice none 0 0), (.slice none 0 0)] [] Try.underlying30 zr30 rfl pl30 rfl (fun _ h => by cases h) rfl) (q0 rfl rfl rfl (o_stp (cs' := [(.slice none 0 0), (.slice none 0 0)]) (us := [(.slice none 0 0), (.slice none 0 0)]) (v := (.agg [(.slice none 0 0), (.slice none 0 0)].toArray)) sz30 rfl rfl rfl (ones2 (by rfl) (by rfl)) hX30.pins hb31 (Nat.le_of_ble_eq_true rfl) rfl (fun w35 hb36 hp37 hg38 hz39 => ?_)))
 have hX40 := hX30.write hp37 hg38 ((lo_box hlo26))
 refine qd rfl rfl rfl (r_assign (v := (.bool false)) rfl) (qe (s_then ?_))
 refine wp_ret (s_ret (c_retct (cs := [(.slice none 0 0), (.slice none 0 0)]) (v := (.bool false)) rfl rfl rfl rfl rfl ag30 sz30 (fun j u hj => by rw [Nat.zero_add]; exact hb36.cell hj) ?_))
 obtain ⟨e1, e2, e3⟩ := lp_no (ns := ns) (Or.inr h34)
 rw [e1, e2, e3]
 exact ⟨_, _, _, rfl, ⟨[], [], rfl, rfl, Own.nil _ _ _ _ _, Own.nil _ _ _ _ _, fun k hk => (by cases hk), fun k hk => (by cases hk), Lvs.nil, ApL.nil, ApL.nil, apart_none⟩, hX40⟩
 refine wp_skip (s_then (s_seq (c_reg ?_)))
 refine qd rfl rfl rfl (r_build [(.slice none 0 0), (.slice none 0 0)] [(.slice none 0 0), (.slice none 0 0)] [] Try.underlying30 zr30 rfl pl30 rfl (fun _ h => by cases h) rfl) ?_
 have hsm := good_small (goodB_true.1 h33)
 have hln := hsm.len
 refine q1 rfl rfl rfl (o_alloc [(.slice none 0 0), (.slice none 0 0)] zr30 rfl hX30.pins (fun b42 w43 hk44 hb45 hp46 hl47 => ?_))
 have hX48 := hX30.step hp46 hl47
 have hb49 := hb31.below hl47
 have hlv50 := (hlv32.below hl47).top
 have ha51 : Apart (some b42) (some b17) := new_ne_box (congrArg some hk44) hb31.lt
 have ha52 : ApL [] (some b42) := ApL.fresh hlv32 (fun k hk => by rw [(congrArg some hk44)] at hk; cases hk; exact Nat.le_refl _)
 have hlo53 : w.heap.size ≤ b42 := by have := hX30.size; omega
 refine q0 rfl rfl rfl (o_stp (cs' := [(.slice none 0 0), (.slice none 0 0)]) (us := [(.slice none 0 0), (.slice none 0 0)]) (v := (.agg [(.slice none 0 0), (.slice none 0 0)].toArray)) sz30 rfl rfl rfl (ones2 (by rfl) (by rfl)) hX48.pins hb45 (Nat.le_of_ble_eq_true rfl) rfl (fun w54 hb55 hp56 hg57 hz58 => ?_))
 have hX59 := hX48.write hp56 hg57 ((lo_box hlo53))
 have hb60 := hb49.keptA hg57 ha51.symm
 have hlv61 := (hlv50.kept hg57 ha52).top
 refine qe (s_then (s_seq (s_seq (c_reg ?_))))
 refine qd rfl rfl rfl (r_fldp (k := 0) rfl Try.underlying26 rfl nz24 rfl) (qd rfl rfl rfl (r_ldp1 (u := v) ag24 rfl ((Pins.of_le hX59.pins hx29.le) _ _ _ (hbp14 0 _ rfl))) (qd rfl rfl rfl (run_len Try.underlying24 (v := v) rfl hv) (qd rfl rfl rfl (r_move (v := (.int .i64 0)) rfl) (qe (s_then ?_)))))
 refine s_blk (s_loop (fun (k : Nat) (en : Nat → Value) (W : World) => ∃ (env1 : Nat → Value) (j : Nat) (lu : Value) (rv : Value) (us : List Value) (vs : List Value) (LV : List Leaf) (GL1 : Pin), en = (upd (upd (upd (upd (upd (upd env1 2 (.pointer (some ⟨b17, 0, none⟩))) 3 (.bool false)) 4 (.pointer (some ⟨b42, 0, none⟩))) 19 v) 20 (.int .i64 (ns.length : Int))) 21 (.int .i64 (j : Int))) ∧ k = ns.length - j ∧ Ext noS G w GL1 W ∧ Pin.le G27 GL1 ∧ (j ≤ ns.length) ∧ (LV = lvN (us.zip vs) (ns.take j)) ∧ (us.length = j) ∧ (vs.length = j) ∧ (Own eVal 46 GL1 W w.heap.size lu (us)) ∧ (Own eVal 46 GL1 W w.heap.size rv (vs)) ∧ (Bx GL1 W b17 [(.slice none 0 0), (.slice none 0 0)]) ∧ (Bx GL1 W b42 [lu, rv]) ∧ (Apart lu.ownBlock rv.ownBlock) ∧ (Apart lu.ownBlock (some b17)) ∧ (Apart lu.ownBlock (some b42)) ∧ (Apart rv.ownBlock (some b17)) ∧ (Apart rv.ownBlock (some b42)) ∧ (Lvs 3 GL1 W w.heap.size W.heap.size LV) ∧ (ApL LV lu.ownBlock) ∧ (ApL LV rv.ownBlock) ∧ (ApL LV (some b17)) ∧ (ApL LV (some b42))) _ ⟨_, 0, (.slice none 0 0), (.slice none 0 0), [], [], [], G27, (packS (x := 21) (packS (x := 20) (packS (x := 19) (packS (x := 4) (packS (x := 3) (pack1 (x := 2) rfl) rfl) rfl) rfl) rfl) rfl), rfl, hX59, Pin.le_refl _, Nat.zero_le _, rfl, rfl, rfl, (Own.nil _ _ _ _ _), (Own.nil _ _ _ _ _), hb60, hb55, apart_none, apart_none, apart_none, apart_none, apart_none, hlv61, (fun _ _ => apart_none.symm), (fun _ _ => apart_none.symm), ha25, ha52⟩ ?_)
 rintro k62 _ w63 ⟨env1, j, lu, rv, us, vs, LV, GL1, rfl, hk64, hX65, hlek62, hj, hLV, hul, hvl, hw66, hw67, hw68, hw69, ha70, ha71, ha72, ha73, ha74, hlv75, ha76, ha77, ha78, ha79⟩
 refine s_seq (c_reg ?_)
 refine qd rfl rfl rfl (r_lss rfl rfl) (qe (s_then (s_seq ?_)))
 refine c_ifd (p := ((j : Int) : Int) < (ns.length : Int)) rfl rfl (fun h80 => ?_) (fun h80 => ?_)
 have hso := hsm.opts j (by omega)
 refine wp_skip (s_then (s_seq ?_))
 refine s_blk (s_seq (c_reg ?_))
 refine qd rfl rfl rfl (run_idx Try.underlying24 sz48 (v := v) rfl rfl hv (by omega) (by omega)) ?_
 obtain ⟨u81, u82, hr83, hr84, hl85⟩ := nm_node (hv.at (z := (j : Int)) (by omega) (by omega)) (j := j) rfl
 have hm86 := hr83.max
 have hm87 := hr84.max
 refine qd rfl rfl rfl (hl85 ag48 sz48 rfl (Pins.of_le hX65.pins (Pin.le_trans (Pin.le_trans hle12 hx29.le) hlek62))) (q1 rfl rfl rfl (o_alloc [(.slice none 0 0), (.slice none 0 0)] zr48 rfl hX65.pins (fun b88 w89 hk90 hb91 hp92 hl93 => ?_)))
 have hX94 := hX65.step hp92 hl93
 have ho95 := hw66.below hl93
 have ho96 := hw67.below hl93
 have hb97 := hw68.below hl93
 have hb98 := hw69.below hl93
 have hlv99 := (hlv75.below hl93).top
 have ha100 : Apart (some b88) lu.ownBlock := new_ne_own (congrArg some hk90) hw66.lt
 have ha101 : Apart (some b88) rv.ownBlock := new_ne_own (congrArg some hk90) hw67.lt
 have ha102 : Apart (some b88) (some b17) := new_ne_box (congrArg some hk90) hw68.lt
 have ha103 : Apart (some b88) (some b42) := new_ne_box (congrArg some hk90) hw69.lt
 have ha104 : ApL LV (some b88) := ApL.fresh hlv75 (fun k hk => by rw [(congrArg some hk90)] at hk; cases hk; exact Nat.le_refl _)
 have hlo105 : w.heap.size ≤ b88 := by have := hX65.size; omega
 refine q0 rfl rfl rfl (o_stp (cs' := [u81, u82]) (us := [u81, u82]) (v := (.agg [u81, u82].toArray)) sz48 rfl rfl rfl (ones2 hr83.one hr84.one) hX94.pins hb91 (Nat.le_of_ble_eq_true rfl) rfl (fun w106 hb107 hp108 hg109 hz110 => ?_))
 have hX111 := hX94.write hp108 hg109 ((lo_box hlo105))
 have ho112 := ho95.keptA hg109 ha100.symm
 have ho113 := ho96.keptA hg109 ha101.symm
 have hb114 := hb97.keptA hg109 ha102.symm
 have hb115 := hb98.keptA hg109 ha103.symm
 have hlv116 := (hlv99.kept hg109 ha104).top
 obtain ⟨G117, hle118, hX119, hbp120, hf121⟩ := hb107.shut hX111 hlo105
 have ho122 := ho112.moreA hle118 hf121 ha100.symm
 have ho123 := ho113.moreA hle118 hf121 ha101.symm
 have hb124 := hb114.moreA hf121 ha102.symm
 have hb125 := hb115.moreA hf121 ha103.symm
 have hlv126 := hlv116.more hle118 hf121 ha104
 refine qe (s_then (s_seq ?_))
 refine c_draw (S := fun wz => BxR wz b42 [lu, rv] ∧ Pins G117 wz) (last := 8) (by kernel_rfl) rfl ?_
 have hl127 : Below w106.heap.size w106 w106.drew := (Below.refl _ _).drew
 have hp128 := hX119.pins.below hl127
 have hX129 := hX119.step hp128 hl127
 have ho130 := ho122.below hl127
 have ho131 := ho123.below hl127
 have hb132 := hb124.below hl127
 have hb133 := hb125.below hl127
 have hlv134 := (hlv126.below hl127).top
 refine dr_take (i := 0) rfl rfl rfl (want_none rfl _) (by kernel_rfl) (fun _ _ => r_fldp (k := 0) rfl Try.underlying30 rfl nz28 rfl) ⟨hb133.reads, hX129.pins⟩ (dr_take (i := 1) rfl rfl rfl (want_none rfl _) (by kernel_rfl) (fun _ hS => r_ldp1 (u := lu) ag28 rfl (hS.1 0 _ rfl)) ⟨hb133.reads, hX129.pins⟩ (dr_take (i := 2) rfl rfl rfl (want_none rfl _) (by kernel_rfl) (fun _ _ => r_fldp (k := 0) rfl Try.underlying48 rfl nz46 rfl) ⟨hb133.reads, hX129.pins⟩ (dr_take (i := 3) rfl rfl rfl (want_none rfl _) (by kernel_rfl) (fun _ hS => r_ldp1 (u := u81) ag46 rfl (hS.2 _ _ _ (hbp120 0 _ rfl))) ⟨hb133.reads, hX129.pins⟩ (dr_one (i := 4) (by kernel_rfl) (drOp1 (i := 4) rfl rfl rfl (want_none rfl _) (o_call (vs := [u81]) Try.func16 nm16 rfl rfl rfl ?_))))))
 refine Calls.mono (clone_spec hX129.pins (hr83.mono (Pin.le_trans (Pin.le_trans (Pin.le_trans hle12 hx29.le) hlek62) hle118)) (by omega)) ?_
 rintro _ w137 ⟨u135, G136, rfl, ho138, hx139⟩
 refine ⟨_, rfl, ?_⟩
 have hX140 := hX129.tr hx139
 have ho141 := ho130.ext hx139
 have ho142 := ho131.ext hx139
 have hb143 := hb132.ext hx139
 have hb144 := hb133.ext hx139
 have hlv145 := (hlv134.ext hx139).top
 have ha146 : Apart u135.ownBlock lu.ownBlock := made_ne_own ho138.lt ho130.lt
 have ha147 : Apart u135.ownBlock rv.ownBlock := made_ne_own ho138.lt ho131.lt
 have ha148 : Apart u135.ownBlock (some b17) := made_ne_box ho138.lt hb132.lt
 have ha149 : Apart u135.ownBlock (some b42) := made_ne_box ho138.lt hb133.lt
 have ha150 : ApL LV u135.ownBlock := ApL.fresh hlv134 (fun k hk => (ho138.lt k hk).1)
 have ho151 : Own eInt 3 G136 w137 w.heap.size u135 ((ns.getD j default).l) := ho138.weaken hX129.size
 refine ⟨fun _ => ⟨hb144.reads, (Pins.of_le hX140.pins hx139.le)⟩, ?_⟩
 refine dr_one (i := 5) (by kernel_rfl) (drOp1 (i := 5) rfl rfl rfl (want_none rfl _) (o_buildF (E := eVal) (e := 46) [u135] [u135] Try.underlying28 sz46 zr46 (by exact reps1 (⟨rfl, ho151.one⟩)) (ones1 ho151.one) rfl rfl rfl rfl (by decide) hX140.pins (fun u152 w153 ho154 hp155 hl156 hk157 => ?_)))
 have hX158 := hX140.step hp155 hl156
 have ho159 := ho141.below hl156
 have ho160 := ho142.below hl156
 have ho161 := ho151.below hl156
 have hb162 := hb143.below hl156
 have hb163 := hb144.below hl156
 have hlv164 := (hlv145.below hl156).top
 have ho171 : Own eVal 46 G136 w153 w.heap.size u152 ([u135]) := ho154.weaken hX140.size
 refine ⟨fun _ => ⟨hb163.reads, (Pins.of_le hX158.pins hx139.le)⟩, ?_⟩
 refine dr_one (i := 6) (by kernel_rfl) (drOp1 (i := 6) rfl rfl rfl (want_none rfl _) (o_append (E := eVal) (v := lu) (u := u152) 24 Try.underlying28 ap46 (by decide) rfl rfl hX158.pins ho159 ho171.src (by first | omega | (rw [List.nil_append]; omega) | (rw [List.length_nil]; omega) | (rw [List.length_append]; omega) | (simp; done) | (simp; omega) | (simp only [List.length_cons, List.length_nil]; omega) | (simp only [List.length_append, List.length_cons, List.length_nil]; omega)) (by first | omega | (rw [List.nil_append]; omega) | (rw [List.length_nil]; omega) | (rw [List.length_append]; omega) | (simp; done) | (simp; omega) | (simp only [List.length_cons, List.length_nil]; omega) | (simp only [List.length_append, List.length_cons, List.length_nil]; omega)) (hX158.size) (fun u172 w173 ho174 hp175 hg176 hw177 => ?_)))
 have hX178 := hX158.write hp175 hg176 ((lo_own ho159))
 have ho179 := ho160.keptA hg176 ha70.symm
 have ho180 := ho161.keptA hg176 ha146
 have hb182 := hb162.keptA hg176 ha71.symm
 have hb183 := hb163.keptA hg176 ha72.symm
 have hlv184 := (hlv164.kept hg176 ha76).top
 have ha185 : Apart rv.ownBlock u172.ownBlock := app_ne_own ha70.symm hw177 ho160.lt
 have ha186 : Apart u135.ownBlock u172.ownBlock := app_ne_own ha146 hw177 ho161.lt
 have ha188 : Apart (some b17) u172.ownBlock := app_ne_box ha71.symm hw177 hb162.lt
 have ha189 : Apart (some b42) u172.ownBlock := app_ne_box ha72.symm hw177 hb163.lt
 have ha190 : ApL LV u172.ownBlock := ApL.app hlv164 ha76 hw177
 have hm191 : (us ++ ([u135])).length = us.length + 1 := List.length_append
 refine ⟨fun _ => ⟨hb183.reads, (Pins.of_le hX178.pins hx139.le)⟩, ?_⟩
 refine dr_take (i := 7) rfl rfl rfl (want_none rfl _) (by kernel_rfl) (fun _ _ => r_fldp (k := 0) rfl Try.underlying30 rfl nz28 rfl) ⟨hb183.reads, (Pins.of_le hX178.pins hx139.le)⟩ (dr_one (i := 8) (by kernel_rfl) (drOp0 (i := 8) rfl rfl rfl (want_none rfl _) (o_stp (cs' := [u172, rv]) (us := [u172]) (v := u172) sz28 rfl rfl (cells1 ho174.one) (ones1 ho174.one) hX178.pins hb183 (Nat.le_of_ble_eq_true rfl) rfl (fun w192 hb193 hp194 hg195 hz196 => ?_))))
 have hX197 := hX178.write hp194 hg195 ((lo_box hlo53))
 have ho198 := ho179.keptA hg195 ha74
 have ho199 := ho180.keptA hg195 ha149
 have ho200 := ho174.keptA hg195 ha189.symm
 have hb201 := hb182.keptA hg195 ha51.symm
 have hlv202 := (hlv184.kept hg195 ha79).top
 refine ⟨fun h => absurd rfl h, ?_⟩
 refine dr_end (by kernel_rfl) (s_then (c_draw (S := fun wz => BxR wz b42 [u172, rv] ∧ Pins G136 wz) (last := 8) (by kernel_rfl) rfl ?_))
 have hl203 : Below w192.heap.size w192 w192.drew := (Below.refl _ _).drew
 have hp204 := hX197.pins.below hl203
 have hX205 := hX197.step hp204 hl203
 have ho206 := ho198.below hl203
 have ho207 := ho199.below hl203
 have ho208 := ho200.below hl203
 have hb209 := hb201.below hl203
 have hb210 := hb193.below hl203
 have hlv211 := (hlv202.below hl203).top
 refine dr_take (i := 0) rfl rfl rfl (want_none rfl _) (by kernel_rfl) (fun _ _ => r_fldp (k := 1) rfl Try.underlying30 rfl nz28 rfl) ⟨hb210.reads, hX205.pins⟩ (dr_take (i := 1) rfl rfl rfl (want_none rfl _) (by kernel_rfl) (fun _ hS => r_ldp1 (u := rv) ag28 rfl (hS.1 1 _ rfl)) ⟨hb210.reads, hX205.pins⟩ (dr_take (i := 2) rfl rfl rfl (want_none rfl _) (by kernel_rfl) (fun _ _ => r_fldp (k := 1) rfl Try.underlying48 rfl nz46 rfl) ⟨hb210.reads, hX205.pins⟩ (dr_take (i := 3) rfl rfl rfl (want_none rfl _) (by kernel_rfl) (fun _ hS => r_ldp1 (u := u82) ag46 rfl ((Pins.of_le hS.2 hx139.le) _ _ _ (hbp120 1 _ rfl))) ⟨hb210.reads, hX205.pins⟩ (dr_one (i := 4) (by kernel_rfl) (drOp1 (i := 4) rfl rfl rfl (want_none rfl _) (o_call (vs := [u82]) Try.func16 nm16 rfl rfl rfl ?_))))))
 refine Calls.mono (clone_spec hX205.pins (hr84.mono (Pin.le_trans (Pin.le_trans (Pin.le_trans (Pin.le_trans hle12 hx29.le) hlek62) hle118) hx139.le)) (by omega)) ?_
 rintro _ w214 ⟨u212, G213, rfl, ho215, hx216⟩
 refine ⟨_, rfl, ?_⟩
 have hX217 := hX205.tr hx216
 have ho218 := ho206.ext hx216
 have ho219 := ho207.ext hx216
 have ho220 := ho208.ext hx216
 have hb221 := hb209.ext hx216
 have hb222 := hb210.ext hx216
 have hlv223 := (hlv211.ext hx216).top
 have ha224 : Apart u212.ownBlock rv.ownBlock := made_ne_own ho215.lt ho206.lt
 have ha225 : Apart u212.ownBlock u135.ownBlock := made_ne_own ho215.lt ho207.lt
 have ha226 : Apart u212.ownBlock u172.ownBlock := made_ne_own ho215.lt ho208.lt
 have ha227 : Apart u212.ownBlock (some b17) := made_ne_box ho215.lt hb209.lt
 have ha228 : Apart u212.ownBlock (some b42) := made_ne_box ho215.lt hb210.lt
 have ha229 : ApL LV u212.ownBlock := ApL.fresh hlv211 (fun k hk => (ho215.lt k hk).1)
 have ho230 : Own eInt 3 G213 w214 w.heap.size u212 ((ns.getD j default).r) := ho215.weaken hX205.size
 refine ⟨fun _ => ⟨hb222.reads, (Pins.of_le hX217.pins hx216.le)⟩, ?_⟩
 refine dr_one (i := 5) (by kernel_rfl) (drOp1 (i := 5) rfl rfl rfl (want_none rfl _) (o_buildF (E := eVal) (e := 46) [u212] [u212] Try.underlying28 sz46 zr46 (by exact reps1 (⟨rfl, ho230.one⟩)) (ones1 ho230.one) rfl rfl rfl rfl (by decide) hX217.pins (fun u231 w232 ho233 hp234 hl235 hk236 => ?_)))
 have hX237 := hX217.step hp234 hl235
 have ho238 := ho218.below hl235
 have ho239 := ho219.below hl235
 have ho240 := ho220.below hl235
 have ho241 := ho230.below hl235
 have hb242 := hb221.below hl235
 have hb243 := hb222.below hl235
 have hlv244 := (hlv223.below hl235).top
 have ho252 : Own eVal 46 G213 w232 w.heap.size u231 ([u212]) := ho233.weaken hX217.size
 refine ⟨fun _ => ⟨hb243.reads, (Pins.of_le hX237.pins hx216.le)⟩, ?_⟩
 refine dr_one (i := 6) (by kernel_rfl) (drOp1 (i := 6) rfl rfl rfl (want_none rfl _) (o_append (E := eVal) (v := rv) (u := u231) 24 Try.underlying28 ap46 (by decide) rfl rfl hX237.pins ho238 ho252.src (by first | omega | (rw [List.nil_append]; omega) | (rw [List.length_nil]; omega) | (rw [List.length_append]; omega) | (simp; done) | (simp; omega) | (simp only [List.length_cons, List.length_nil]; omega) | (simp only [List.length_append, List.length_cons, List.length_nil]; omega)) (by first | omega | (rw [List.nil_append]; omega) | (rw [List.length_nil]; omega) | (rw [List.length_append]; omega) | (simp; done) | (simp; omega) | (simp only [List.length_cons, List.length_nil]; omega) | (simp only [List.length_append, List.length_cons, List.length_nil]; omega)) (hX237.size) (fun u253 w254 ho255 hp256 hg257 hw258 => ?_)))
 have hX259 := hX237.write hp256 hg257 ((lo_own ho238))
 have ho260 := ho239.keptA hg257 ha147
 have ho261 := ho240.keptA hg257 ha185.symm
 have ho262 := ho241.keptA hg257 ha224
 have hb264 := hb242.keptA hg257 ha73.symm
 have hb265 := hb243.keptA hg257 ha74.symm
 have hlv266 := (hlv244.kept hg257 ha77).top
 have ha267 : Apart u135.ownBlock u253.ownBlock := app_ne_own ha147 hw258 ho239.lt
 have ha268 : Apart u172.ownBlock u253.ownBlock := app_ne_own ha185.symm hw258 ho240.lt
 have ha269 : Apart u212.ownBlock u253.ownBlock := app_ne_own ha224 hw258 ho241.lt
 have ha271 : Apart (some b17) u253.ownBlock := app_ne_box ha73.symm hw258 hb242.lt
 have ha272 : Apart (some b42) u253.ownBlock := app_ne_box ha74.symm hw258 hb243.lt
 have ha273 : ApL LV u253.ownBlock := ApL.app hlv244 ha77 hw258
 have hm274 : (vs ++ ([u212])).length = vs.length + 1 := List.length_append
 refine ⟨fun _ => ⟨hb265.reads, (Pins.of_le hX259.pins hx216.le)⟩, ?_⟩
 refine dr_take (i := 7) rfl rfl rfl (want_none rfl _) (by kernel_rfl) (fun _ _ => r_fldp (k := 1) rfl Try.underlying30 rfl nz28 rfl) ⟨hb265.reads, (Pins.of_le hX259.pins hx216.le)⟩ (dr_one (i := 8) (by kernel_rfl) (drOp0 (i := 8) rfl rfl rfl (want_none rfl _) (o_stp (cs' := [u172, u253]) (us := [u253]) (v := u253) sz28 rfl rfl (cells1 ho255.one) (ones1 ho255.one) hX259.pins hb265 (Nat.le_of_ble_eq_true rfl) rfl (fun w275 hb276 hp277 hg278 hz279 => ?_))))
 have hX280 := hX259.write hp277 hg278 ((lo_box hlo53))
 have ho281 := ho260.keptA hg278 ha149
 have ho282 := ho261.keptA hg278 ha189.symm
 have ho283 := ho262.keptA hg278 ha228
 have ho284 := ho255.keptA hg278 ha272.symm
 have hb285 := hb264.keptA hg278 ha51.symm
 have hlv286 := (hlv266.kept hg278 ha79).top
 refine ⟨fun h => absurd rfl h, ?_⟩
 refine dr_end (by kernel_rfl) (s_blkN (s_then (c_reg ?_)))
 refine qd rfl rfl rfl (r_add rfl rfl (by omega)) (qd rfl rfl rfl (r_move (v := (.int .i64 ((j : Int) + 1))) rfl) (qe (s_lopN ?_)))
 have hlv287 := hlv286.add ho281 ha150
 have ha288 : ApL (LV ++ [(u135, (ns.getD j default).l)]) u172.ownBlock := ha190.add ha186
 have ha289 : ApL (LV ++ [(u135, (ns.getD j default).l)]) u212.ownBlock := ha229.add ha225.symm
 have ha290 : ApL (LV ++ [(u135, (ns.getD j default).l)]) u253.ownBlock := ha273.add ha267
 have ha291 : ApL (LV ++ [(u135, (ns.getD j default).l)]) (some b17) := ha78.add ha148
 have ha292 : ApL (LV ++ [(u135, (ns.getD j default).l)]) (some b42) := ha79.add ha149
 have hlv293 := hlv287.add ho283 ha289
 have ha294 : ApL ((LV ++ [(u135, (ns.getD j default).l)]) ++ [(u212, (ns.getD j default).r)]) u172.ownBlock := ha288.add ha226
 have ha295 : ApL ((LV ++ [(u135, (ns.getD j default).l)]) ++ [(u212, (ns.getD j default).r)]) u253.ownBlock := ha290.add ha269
 have ha296 : ApL ((LV ++ [(u135, (ns.getD j default).l)]) ++ [(u212, (ns.getD j default).r)]) (some b17) := ha291.add ha227
 have ha297 : ApL ((LV ++ [(u135, (ns.getD j default).l)]) ++ [(u212, (ns.getD j default).r)]) (some b42) := ha292.add ha228
 refine ⟨_, ?_, _, rfl, _, j + 1, u172, u253, us ++ [u135], vs ++ [u212], LV ++ [(u135, (ns.getD j default).l)] ++ [(u212, (ns.getD j default).r)], G213, (packS (x := 21) (packS (x := 20) (packS (x := 19) (packS (x := 4) (packS (x := 3) (pack1 (x := 2) rfl) rfl) rfl) rfl) rfl) rfl), rfl, hX280, (Pin.le_trans (Pin.le_trans (Pin.le_trans hlek62 hle118) hx139.le) hx216.le), (by omega), (lvN_zip hLV (by omega) hul hvl), (by simp; omega), (by simp; omega), ho282, ho284, hb285, hb276, ha268, ha188.symm, ha189.symm, ha271.symm, ha272.symm, hlv293, ha294, ha295, ha296, ha297⟩
 omega
 refine wp_exit (s_thenE (s_lopE (s_blkE (s_then (s_seq (c_reg ?_))))))
 refine qd rfl rfl rfl (r_ldpA (cs := [lu, rv]) ag30 sz30 rfl (fun j u hj => hw69.cell (by simpa using hj))) (q0 rfl rfl rfl (o_stp (cs' := [lu, rv]) (us := [lu, rv]) (v := (.agg [lu, rv].toArray)) sz30 rfl rfl rfl (ones2 hw66.one hw67.one) hX65.pins hw68 (Nat.le_of_ble_eq_true rfl) rfl (fun w298 hb299 hp300 hg301 hz302 => ?_)))
 have hX303 := hX65.write hp300 hg301 ((lo_box hlo26))
 have ho304 := hw66.keptA hg301 ha71
 have ho305 := hw67.keptA hg301 ha73
 have hlv307 := (hlv75.kept hg301 ha78).top
 refine qd rfl rfl rfl (r_assign (v := (.bool true)) rfl) (qe (s_then ?_))
 refine wp_ret (s_ret (c_retct (cs := [lu, rv]) (v := (.bool true)) rfl rfl rfl rfl rfl ag30 sz30 (fun j u hj => by rw [Nat.zero_add]; exact hb299.cell hj) ?_))
 have hjn : j = ns.length := by omega
 subst hjn
 have hpm := lvN_perm hul hvl
 rw [List.take_length] at hLV
 rw [← hLV] at hpm
 obtain ⟨e1, e2, e3⟩ := lp_yes (ns := ns) h33 h34
 rw [e1, e2, e3]
 exact ⟨_, _, _, rfl, ⟨us, vs, by simp [hul], by simp [hvl], ho304, ho305, fun k hk => (ho304.lt k hk).2, fun k hk => (ho305.lt k hk).2, hlv307.perm hpm, ha76.perm hpm, ha77.perm hpm, ha70⟩, hX303⟩
 refine qs rfl rfl rfl rfl rfl rfl (qs rfl rfl rfl rfl rfl rfl (qs rfl rfl rfl rfl rfl rfl (qs rfl rfl rfl rfl rfl rfl (qd rfl rfl rfl (r_pickT (v := (.bool true)) rfl rfl) (qe (s_then ?_))))))
 refine c_ifT rfl rfl (s_seq (c_reg ?_))
 refine qd rfl rfl rfl (r_build [(.slice none 0 0), (.slice none 0 0)] [(.slice none 0 0), (.slice none 0 0)] [] Try.underlying30 zr30 rfl pl30 rfl (fun _ h => by cases h) rfl) (q0 rfl rfl rfl (o_stp (cs' := [(.slice none 0 0), (.slice none 0 0)]) (us := [(.slice none 0 0), (.slice none 0 0)]) (v := (.agg [(.slice none 0 0), (.slice none 0 0)].toArray)) sz30 rfl rfl rfl (ones2 (by rfl) (by rfl)) hX30.pins hb31 (Nat.le_of_ble_eq_true rfl) rfl (fun w308 hb309 hp310 hg311 hz312 => ?_)))
 have hX313 := hX30.write hp310 hg311 ((lo_box hlo26))
 refine qd rfl rfl rfl (r_assign (v := (.bool false)) rfl) (qe (s_then ?_))
 refine wp_ret (s_ret (c_retct (cs := [(.slice none 0 0), (.slice none 0 0)]) (v := (.bool false)) rfl rfl rfl rfl rfl ag30 sz30 (fun j u hj => by rw [Nat.zero_add]; exact hb309.cell hj) ?_))
 obtain ⟨e1, e2, e3⟩ := lp_no (ns := ns) (Or.inl h33)
 rw [e1, e2, e3]
 exact ⟨_, _, _, rfl, ⟨[], [], rfl, rfl, Own.nil _ _ _ _ _, Own.nil _ _ _ _ _, fun k hk => (by cases hk), fun k hk => (by cases hk), Lvs.nil, ApL.nil, ApL.nil, apart_none⟩, hX313⟩

theorem iLoopOf_spec {w : World} {G : Pin} {v : Value} {ns : List Nd} (hP : Pins G w) (hv : RSl eNode G v ns) :
  Calls Try.prog 6 [(.agg [v].toArray)].toArray w fun e w' => ∃ (u v : Value) (G' : Pin), e = .returned (.tuple #[.agg [u, v].toArray, .bool (lpOk ns)]) ∧ RSl (eSl eInt) G' u (lpL ns) ∧ RSl (eSl eInt) G' v (lpR ns) ∧ Ext noS G w G' w' := by
 refine (iLoopOf_dspec hP hv).mono ?_
 rintro e w' ⟨u, v, G', rfl, hd, hx⟩
 obtain ⟨G'', h1, h2, h3⟩ := hd.give hx
 exact ⟨u, v, G'', rfl, h1, h2, h3⟩

theorem rInts_spec {w : World} {G : Pin} {u v : Value} {xs ys : List Int} (hP : Pins G w) (hu : RSl eInt G u xs) (hv : RSl eInt G v ys) :
  Calls Try.prog 18 [u, v].toArray w fun e w' => e = .returned (.bool (decide (xs = ys))) ∧ Ext noS G w G w' := by
 refine s_enter (n := 26) Try.func18 Try.ntmps18 rfl rfl ?_
 have hX0 : Ext noS G w G w := Ext.refl hP
 have hm := hu.max
 refine s_seq (c_reg ?_)
 refine qd rfl rfl rfl (r_assign (v := (.bool false)) rfl) (qe (s_then (s_seq (s_seq (c_reg ?_)))))
 refine qd rfl rfl rfl (r_move (v := u) rfl) (qd rfl rfl rfl (run_len Try.underlying46 (v := u) rfl hu) (qd rfl rfl rfl (r_move (v := v) rfl) (qd rfl rfl rfl (run_len Try.underlying46 (v := v) rfl hv) (qd rfl rfl rfl (r_neq rfl rfl) (qe (s_then ?_))))))
 refine c_ifd (p := ((xs.length : Int) : Int) ≠ (ys.length : Int)) rfl rfl (fun h1 => ?_) (fun h1 => ?_)
 refine s_seq (c_reg ?_)
 refine qd rfl rfl rfl (r_assign (v := (.bool false)) rfl) (qe (s_then ?_))
 exact wp_ret (s_ret (c_ret1 (v := (.bool false)) rfl rfl rfl (⟨congrArg (fun z => Ending.returned (Value.bool z)) (decide_eq_false (fun e => h1 (by rw [e]))).symm, hX0⟩)))
 refine wp_skip (s_then (s_seq (s_seq (c_reg ?_))))
 refine qd rfl rfl rfl (r_assign (v := (.int .i64 0)) rfl) (qe (s_then ?_))
 refine s_blk (s_loop (fun (k : Nat) (en : Nat → Value) (W : World) => ∃ (env1 : Nat → Value) (j : Nat), en = (upd (upd (upd env1 0 u) 1 v) 5 (.int .i64 (j : Int))) ∧ k = xs.length - j ∧ Ext noS G w G W ∧ (j ≤ xs.length) ∧ (xs.length = ys.length) ∧ (∀ i, i < j → xs.getD i 0 = ys.getD i 0)) _ ⟨_, 0, (packS (x := 5) (packS (x := 1) (pack1 (x := 0) rfl) rfl) rfl), rfl, hX0, Nat.zero_le _, (by omega), (fun i hi => absurd hi (Nat.not_lt_zero i))⟩ ?_)
 rintro k2 _ w3 ⟨env1, j, rfl, hk4, hX5, hj, heq, hp⟩
 refine s_seq (s_seq (c_reg ?_))
 refine qd rfl rfl rfl (r_move (v := (.int .i64 (j : Int))) rfl) (qd rfl rfl rfl (r_move (v := u) rfl) (qd rfl rfl rfl (run_len Try.underlying46 (v := u) rfl hu) (qd rfl rfl rfl (r_lss rfl rfl) (qe (s_then ?_)))))
 refine c_ifd (p := ((j : Int) : Int) < (xs.length : Int)) rfl rfl (fun h6 => ?_) (fun h6 => ?_)
 refine wp_skip (s_then (s_seq ?_))
 refine s_blk (s_seq (c_draw (S := fun wz => Pins G wz) (last := 9) (by kernel_rfl) rfl ?_))
 have hl7 : Below w3.heap.size w3 w3.drew := (Below.refl _ _).drew
 have hp8 := hX5.pins.below hl7
 have hX9 := hX5.step hp8 hl7
 refine dr_take (i := 0) rfl rfl rfl (want_none rfl _) (by kernel_rfl) (fun _ _ => r_move (v := u) rfl) hX9.pins (dr_take (i := 1) rfl rfl rfl (want_none rfl _) (by kernel_rfl) (fun _ _ => r_move (v := (.int .i64 (j : Int))) rfl) hX9.pins (dr_take (i := 2) rfl rfl rfl (want_none rfl _) (by kernel_rfl) (fun _ _ => run_idx Try.underlying46 sz3 (v := u) rfl rfl hu (by omega) (by omega)) hX9.pins (dr_take (i := 3) rfl rfl rfl (want_none rfl _) (by kernel_rfl) (fun _ hS => run_load_int (r := xs.getD j 0) rfl ag3 (z := (j : Int)) rfl hu hS (by omega) (by omega)) hX9.pins (dr_take (i := 4) rfl rfl rfl (want_none rfl _) (by kernel_rfl) (fun _ _ => r_move (v := v) rfl) hX9.pins (dr_take (i := 5) rfl rfl rfl (want_none rfl _) (by kernel_rfl) (fun _ _ => r_move (v := (.int .i64 (j : Int))) rfl) hX9.pins (dr_take (i := 6) rfl rfl rfl (want_none rfl _) (by kernel_rfl) (fun _ _ => run_idx Try.underlying46 sz3 (v := v) rfl rfl hv (by omega) (by omega)) hX9.pins (dr_take (i := 7) rfl rfl rfl (want_none rfl _) (by kernel_rfl) (fun _ hS => run_load_int (r := ys.getD j 0) rfl ag3 (z := (j : Int)) rfl hv hS (by omega) (by omega)) hX9.pins (dr_take (i := 8) rfl rfl rfl (want_none rfl _) (by kernel_rfl) (fun _ _ => r_neq rfl rfl) hX9.pins (dr_end (by kernel_rfl) (s_then (c_ifd (p := (xs.getD j 0 : Int) ≠ (ys.getD j 0)) rfl rfl (fun h10 => ?_) (fun h10 => ?_))))))))))))
 refine s_seq (c_reg ?_)
 refine qd rfl rfl rfl (r_assign (v := (.bool false)) rfl) (qe (s_then ?_))
 exact wp_ret (s_ret (c_ret1 (v := (.bool false)) rfl rfl rfl (⟨congrArg (fun z => Ending.returned (Value.bool z)) (decide_eq_false (fun e => h10 (by rw [e]))).symm, hX9⟩)))
 refine wp_skip (s_blkN (s_then (c_reg ?_)))
 refine qd rfl rfl rfl (r_move (v := (.int .i64 (j : Int))) rfl) (qd rfl rfl rfl (r_add rfl rfl (by omega)) (qd rfl rfl rfl (r_assign (v := (.int .i64 ((j : Int) + 1))) rfl) (qe (s_lopN (⟨_, ?_, _, rfl, _, j + 1, (packS (x := 5) (packS (x := 1) (pack1 (x := 0) rfl) rfl) rfl), rfl, hX9, (by omega), heq, (eqstep hp h10)⟩)))))
 omega
 refine wp_exit (s_thenE (s_lopE (s_blkE (s_then (s_seq (c_reg ?_))))))
 refine qd rfl rfl rfl (r_assign (v := (.bool true)) rfl) (qe (s_then ?_))
 exact wp_ret (s_ret (c_ret1 (v := (.bool true)) rfl rfl rfl (⟨congrArg (fun z => Ending.returned (Value.bool z)) (decide_eq_true (eqdone heq (by omega) hp)).symm, hX5⟩)))

theorem rLists_spec {w : World} {G : Pin} {u v : Value} {xs ys : List (List Int)} (hP : Pins G w) (hu : RSl (eSl eInt) G u xs) (hv : RSl (eSl eInt) G v ys) :
  Calls Try.prog 8 [u, v].toArray w fun e w' => ∃ G', e = .returned (.bool (decide (xs = ys))) ∧ Ext noS G w G' w' := by
 refine s_enter (n := 27) Try.func8 Try.ntmps8 rfl rfl ?_
 have hX0 : Ext noS G w G w := Ext.refl hP
 have hm := hu.max
 refine s_seq (c_reg ?_)
 refine qd rfl rfl rfl (r_assign (v := (.bool false)) rfl) (qe (s_then (s_seq (s_seq (c_reg ?_)))))
 refine qd rfl rfl rfl (r_move (v := u) rfl) (qd rfl rfl rfl (run_len Try.underlying28 (v := u) rfl hu) (qd rfl rfl rfl (r_move (v := v) rfl) (qd rfl rfl rfl (run_len Try.underlying28 (v := v) rfl hv) (qd rfl rfl rfl (r_neq rfl rfl) (qe (s_then ?_))))))
 refine c_ifd (p := ((xs.length : Int) : Int) ≠ (ys.length : Int)) rfl rfl (fun h1 => ?_) (fun h1 => ?_)
 refine s_seq (c_reg ?_)
 refine qd rfl rfl rfl (r_assign (v := (.bool false)) rfl) (qe (s_then ?_))
 exact wp_ret (s_ret (c_ret1 (v := (.bool false)) rfl rfl rfl (⟨_, congrArg (fun z => Ending.returned (Value.bool z)) (decide_eq_false (fun e => h1 (by rw [e]))).symm, hX0⟩)))
 refine wp_skip (s_then (s_seq (s_seq (c_reg ?_))))
 refine qd rfl rfl rfl (r_assign (v := (.int .i64 0)) rfl) (qe (s_then ?_))
 refine s_blk (s_loop (fun (k : Nat) (en : Nat → Value) (W : World) => ∃ (env1 : Nat → Value) (j : Nat) (GL1 : Pin), en = (upd (upd (upd env1 0 u) 1 v) 5 (.int .i64 (j : Int))) ∧ k = xs.length - j ∧ Ext noS G w GL1 W ∧ Pin.le G GL1 ∧ (j ≤ xs.length) ∧ (xs.length = ys.length) ∧ (∀ i, i < j → xs.getD i [] = ys.getD i [])) _ ⟨_, 0, G, (packS (x := 5) (packS (x := 1) (pack1 (x := 0) rfl) rfl) rfl), rfl, hX0, Pin.le_refl _, Nat.zero_le _, (by omega), (fun i hi => absurd hi (Nat.not_lt_zero i))⟩ ?_)
 rintro k2 _ w3 ⟨env1, j, GL1, rfl, hk4, hX5, hlek2, hj, heq, hp⟩
 refine s_seq (s_seq (c_reg ?_))
 refine qd rfl rfl rfl (r_move (v := (.int .i64 (j : Int))) rfl) (qd rfl rfl rfl (r_move (v := u) rfl) (qd rfl rfl rfl (run_len Try.underlying28 (v := u) rfl hu) (qd rfl rfl rfl (r_lss rfl rfl) (qe (s_then ?_)))))
 refine c_ifd (p := ((j : Int) : Int) < (xs.length : Int)) rfl rfl (fun h6 => ?_) (fun h6 => ?_)
 refine wp_skip (s_then (s_seq ?_))
 refine s_blk (s_seq (c_draw (S := fun wz => Pins GL1 wz) (last := 10) (by kernel_rfl) rfl ?_))
 have hl7 : Below w3.heap.size w3 w3.drew := (Below.refl _ _).drew
 have hp8 := hX5.pins.below hl7
 have hX9 := hX5.step hp8 hl7
 refine dr_take (i := 0) rfl rfl rfl (want_none rfl _) (by kernel_rfl) (fun _ _ => r_move (v := u) rfl) hX9.pins (dr_take (i := 1) rfl rfl rfl (want_none rfl _) (by kernel_rfl) (fun _ _ => r_move (v := (.int .i64 (j : Int))) rfl) hX9.pins (dr_take (i := 2) rfl rfl rfl (want_none rfl _) (by kernel_rfl) (fun _ _ => run_idx Try.underlying28 sz46 (v := u) rfl rfl hu (by omega) (by omega)) hX9.pins ?_))
 obtain ⟨u10, hr11, hl12⟩ := nm_sl (hu.at (z := (j : Int)) (by omega) (by omega)) (j := j) rfl
 have hm13 := hr11.max
 refine dr_take (i := 3) rfl rfl rfl (want_none rfl _) (by kernel_rfl) (fun _ hS => hl12 ag46 rfl (Pins.of_le hS hlek2)) hX9.pins (dr_take (i := 4) rfl rfl rfl (want_none rfl _) (by kernel_rfl) (fun _ _ => r_move (v := v) rfl) hX9.pins (dr_take (i := 5) rfl rfl rfl (want_none rfl _) (by kernel_rfl) (fun _ _ => r_move (v := (.int .i64 (j : Int))) rfl) hX9.pins (dr_take (i := 6) rfl rfl rfl (want_none rfl _) (by kernel_rfl) (fun _ _ => run_idx Try.underlying28 sz46 (v := v) rfl rfl hv (by omega) (by omega)) hX9.pins ?_)))
 obtain ⟨u14, hr15, hl16⟩ := nm_sl (hv.at (z := (j : Int)) (by omega) (by omega)) (j := j) rfl
 have hm17 := hr15.max
 refine dr_take (i := 7) rfl rfl rfl (want_none rfl _) (by kernel_rfl) (fun _ hS => hl16 ag46 rfl (Pins.of_le hS hlek2)) hX9.pins (dr_one (i := 8) (by kernel_rfl) (drOp1 (i := 8) rfl rfl rfl (want_none rfl _) (o_call (vs := [u10, u14]) Try.func18 nm18 rfl rfl rfl ?_)))
 refine Calls.mono (rInts_spec hX9.pins (hr11.mono hlek2) (hr15.mono hlek2)) ?_
 rintro _ w18 ⟨rfl, hx19⟩
 refine ⟨_, rfl, ?_⟩
 have hX20 := hX9.step hx19.pins hx19.below
 refine ⟨fun _ => hX20.pins, ?_⟩
 refine dr_take (i := 9) rfl rfl rfl (want_none rfl _) (by kernel_rfl) (fun _ _ => r_not rfl) hX20.pins (dr_end (by kernel_rfl) (s_then (c_ifn rfl rfl (fun h21 => ?_) (fun h21 => ?_))))
 replace h21 := of_decide_eq_true h21
 refine wp_skip (s_blkN (s_then (c_reg ?_)))
 refine qd rfl rfl rfl (r_move (v := (.int .i64 (j : Int))) rfl) (qd rfl rfl rfl (r_add rfl rfl (by omega)) (qd rfl rfl rfl (r_assign (v := (.int .i64 ((j : Int) + 1))) rfl) (qe (s_lopN (⟨_, ?_, _, rfl, _, j + 1, GL1, (packS (x := 5) (packS (x := 1) (pack1 (x := 0) rfl) rfl) rfl), rfl, hX20, hlek2, (by omega), heq, (eqstepG hp h21)⟩)))))
 omega
 replace h21 := of_decide_eq_false h21
 refine s_seq (c_reg ?_)
 refine qd rfl rfl rfl (r_assign (v := (.bool false)) rfl) (qe (s_then ?_))
 exact wp_ret (s_ret (c_ret1 (v := (.bool false)) rfl rfl rfl (⟨_, congrArg (fun z => Ending.returned (Value.bool z)) (decide_eq_false (fun e => h21 (by rw [e]))).symm, hX20⟩)))
 refine wp_exit (s_thenE (s_lopE (s_blkE (s_then (s_seq (c_reg ?_))))))
 refine qd rfl rfl rfl (r_assign (v := (.bool true)) rfl) (qe (s_then ?_))
 exact wp_ret (s_ret (c_ret1 (v := (.bool true)) rfl rfl rfl (⟨_, congrArg (fun z => Ending.returned (Value.bool z)) (decide_eq_true (eqdoneG heq (by omega) hp)).symm, hX5⟩)))

theorem rBig_spec {w : World} {G : Pin} {v : Value} {code : List UInt8} (hP : Pins G w) (hc : RSl eByte G v code) :
  Calls Try.prog 4 [v].toArray w fun e w' => e = .returned (.bool (decide ((65536 : Int) < (code.length : Int)))) ∧ Ext noS G w G w' := by
 refine s_enter (n := 6) Try.func4 Try.ntmps4 rfl rfl ?_
 have hX0 : Ext noS G w G w := Ext.refl hP
 have hm := hc.max
 refine s_seq (c_reg ?_)
 refine qd rfl rfl rfl (r_assign (v := (.bool false)) rfl) (qe (s_then (s_seq (c_reg ?_))))
 refine qd rfl rfl rfl (r_move (v := v) rfl) (qd rfl rfl rfl (run_len Try.underlying22 (v := v) rfl hc) (qd rfl rfl rfl (r_gtr rfl rfl) (qd rfl rfl rfl (r_assign (v := (.bool (decide ((65536 : Int) < (code.length : Int))))) rfl) (qe (s_then ?_)))))
 exact wp_ret (s_ret (c_ret1 (v := (.bool (decide ((65536 : Int) < (code.length : Int))))) rfl rfl rfl (⟨rfl, hX0⟩)))

end AR7
end Go.Proofs.Ytdongckiecjbaaa

set_option maxRecDepth 20000
set_option maxHeartbeats 2000000
namespace Go.Proofs.Ytdongckiecjbaaa
namespace AR8
open Go.RowKit Go.GL Go.Proofs
open B1 C1 D1 E1 MK1 DR1 DR2 DV1




theorem pl42 : (Try.prog.underlying 42).bind (placesD Try.prog) = some [(0, 1), (1, 1), (2, 1)] := by kernel_rfl



theorem drLoopOf_spec {w : World} {G : Pin} {v : Value} {code : List UInt8} (hP : Pins G w) (hc : RSl eByte G v code) :
  Calls Try.prog 5 [v].toArray w fun e w' => ∃ (u0 : Value) (ns0 : List Nd) (G' : Pin), e = .returned (.agg [u0].toArray) ∧ RSl eNode G' u0 ns0 ∧ Ext noS G w G' w' := by
 refine s_enter (n := 13) Try.func5 Try.ntmps5 rfl rfl ?_
 have hX0 : Ext noS G w G w := Ext.refl hP
 have hm := hc.max
 refine s_seq (c_reg ?_)
 refine q1 rfl rfl rfl (o_alloc [(.slice none 0 0)] zr26 rfl hX0.pins (fun b1 w2 hk3 hb4 hp5 hl6 => ?_))
 have hX7 := hX0.step hp5 hl6
 have hlo8 : w.heap.size ≤ b1 := by have := hX0.size; omega
 refine qe (s_then (s_seq (c_reg ?_)))
 refine qd rfl rfl rfl (r_move (v := v) rfl) (qd rfl rfl rfl (r_build [(.slice none 0 0), (.int .i64 0), (.int .u64 0)] [v, (.int .i64 0), (.int .u64 0)] [(0, v, [v])] Try.underlying42 zr42 rfl pl42 rfl (List.forall_mem_cons.2 ⟨(cells_one hc.one), (fun _ h => by cases h)⟩) rfl) (q1 rfl rfl rfl (o_box [v, (.int .i64 0), (.int .u64 0)] (v := (.agg [v, (.int .i64 0), (.int .u64 0)].toArray)) rfl rfl hX7.pins (fun b9 w10 hk11 hb12 hp13 hl14 => ?_))))
 have hX15 := hX7.step hp13 hl14
 have hb16 := hb4.below hl14
 have ha17 : Apart (some b9) (some b1) := new_ne_box (congrArg some hk11) hb4.lt
 have hlo18 : w.heap.size ≤ b9 := by have := hX7.size; omega
 refine qd rfl rfl rfl (r_assign (v := (.pointer (some ⟨b9, 0, none⟩))) rfl) (qe (s_then (s_seq (s_seq (c_reg ?_)))))
 refine qd rfl rfl rfl (r_move (v := (.pointer (some ⟨b9, 0, none⟩))) rfl) (q1 rfl rfl rfl (o_call (vs := [(.pointer (some ⟨b9, 0, none⟩)), (.int .i64 4)]) Try.func12 nm12 rfl rfl rfl ?_))
 refine Calls.mono (one_spec hX15.pins hb12 hc (by omega) (by omega) (n := 4) (by omega)) ?_
 rintro _ w22 ⟨z19, a20, s21, rfl, hb23, hda24, hds25, hx26⟩
 refine ⟨_, rfl, ?_⟩
 have hX27 := hX15.trans hx26 (fun i hi => (lo_box hlo18) i hi)
 have hb28 := hb16.extS hx26 (notOb ha17.symm)
 refine qe (s_then ?_)
 refine c_if rfl rfl (fun h29 => ?_) (fun h29 => ?_)
 refine s_seq (c_reg ?_)
 refine qd rfl rfl rfl (r_move (v := (.pointer (some ⟨b9, 0, none⟩))) rfl) (q1 rfl rfl rfl (o_call (vs := [(.pointer (some ⟨b9, 0, none⟩)), (.int .i64 3)]) Try.func13 nm13 rfl rfl rfl ?_))
 refine Calls.mono (anyForm_spec (n := 3) hX27.pins hb23 hc (by omega) (by omega) (by omega)) ?_
 rintro _ w35 ⟨u30, ns31, a32, s33, G34, rfl, hr36, hb37, hda38, hds39, hx40⟩
 refine ⟨_, rfl, ?_⟩
 have hX41 := hX27.trans hx40 (fun i hi => (lo_box hlo18) i hi)
 have hb42 := hb28.extS hx40 (notOb ha17.symm)
 have hm43 := hr36.max
 refine q0 rfl rfl rfl (o_stp (cs' := [u30]) (us := [u30]) (v := (.agg [u30].toArray)) sz26 rfl rfl rfl (ones1 hr36.one) hX41.pins hb42 (Nat.le_of_ble_eq_true rfl) rfl (fun w44 hb45 hp46 hg47 hz48 => ?_))
 have hX49 := hX41.write hp46 hg47 ((lo_box hlo8))
 refine qe (s_then ?_)
 exact wp_ret (s_ret (c_retc (cs := [u30]) rfl rfl rfl ag26 sz26 (fun j u hj => by rw [Nat.zero_add]; exact hb45.cell hj) (⟨_, _, _, rfl, hr36, hX49⟩)))
 refine wp_skip (s_then (s_seq (c_reg ?_)))
 refine qd rfl rfl rfl (r_move (v := (.pointer (some ⟨b9, 0, none⟩))) rfl) (q1 rfl rfl rfl (o_call (vs := [(.pointer (some ⟨b9, 0, none⟩)), (.int .i64 3)]) Try.func14 nm14 rfl rfl rfl ?_))
 refine Calls.mono (dform_spec (n := 3) hX27.pins hb23 hc (by omega) (by omega) (by omega)) ?_
 rintro _ w56 ⟨u51, g52, a53, s54, G55, rfl, ho57, hif58, hfl59, hb60, hda61, hds62, hx63⟩
 refine ⟨_, rfl, ?_⟩
 have hX64 := hX27.trans hx63 (fun i hi => (lo_box hlo18) i hi)
 have hb65 := hb28.extS hx63 (notOb ha17.symm)
 have ha66 : Apart u51.ownBlock (some b1) := made_ne_box ho57.lt hb28.lt
 have ho68 : Own eNode 48 G55 w56 w.heap.size u51 (formG g52) := ho57.weaken hX27.size
 have hfo69 := hif58.1.lo
 refine q0 rfl rfl rfl (o_stp (cs' := [u51]) (us := [u51]) (v := (.agg [u51].toArray)) sz26 rfl rfl rfl (ones1 ho68.one) hX64.pins hb65 (Nat.le_of_ble_eq_true rfl) rfl (fun w70 hb71 hp72 hg73 hz74 => ?_))
 have hX75 := hX64.write hp72 hg73 ((lo_box hlo8))
 have ho76 := ho68.keptA hg73 ha66
 refine qe (s_then ?_)
 refine wp_ret (s_ret (c_retc (cs := [u51]) rfl rfl rfl ag26 sz26 (fun j u hj => by rw [Nat.zero_add]; exact hb71.cell hj) ?_))
 obtain ⟨G78, hle81, hX80, hr79, hf82⟩ := ho76.sealed hX75
 exact ⟨_, _, _, rfl, hr79, hX80⟩

end AR8
end Go.Proofs.Ytdongckiecjbaaa

set_option maxRecDepth 20000
set_option maxHeartbeats 2000000
namespace Go.Proofs.Ytdongckiecjbaaa
namespace LLF
open Go.RowKit Go.GL Go.Proofs
open B1 C1 D1 E1 MK1 DR1 DR2 DV1 WN1 WN3 AR4 AR6 AR7 AR8


















theorem law {w : World} {G : Pin} {v : Value} {code : List UInt8} (hP : Pins G w) (hc : RSl eByte G v code) :
  Calls Try.prog 3 [v].toArray w fun e w' => ∃ G', e = .returned (.bool true) ∧ Ext noS G w G' w' := by
 refine s_enter (n := 112) Try.func3 Try.ntmps3 rfl rfl ?_
 have hX0 : Ext noS G w G w := Ext.refl hP
 have hm := hc.max
 refine s_seq (c_reg ?_)
 refine qd rfl rfl rfl (r_assign (v := (.bool false)) rfl) (qe (s_then (s_seq (s_seq (c_reg ?_)))))
 refine qd rfl rfl rfl (r_move (v := v) rfl) (q1 rfl rfl rfl (o_call (vs := [v]) Try.func4 nm4 rfl rfl rfl ?_))
 refine Calls.mono (rBig_spec hX0.pins hc) ?_
 rintro _ w1 ⟨rfl, hx2⟩
 refine ⟨_, rfl, ?_⟩
 have hX3 := hX0.step hx2.pins hx2.below
 refine qe (s_then ?_)
 refine c_ifd (p := ((65536 : Int) < (code.length : Int))) rfl rfl (fun h4 => ?_) (fun h4 => ?_)
 refine s_seq (c_reg ?_)
 refine qd rfl rfl rfl (r_assign (v := (.bool true)) rfl) (qe (s_then ?_))
 exact wp_ret (s_ret (c_ret1 (v := (.bool true)) rfl rfl rfl (⟨_, rfl, hX3⟩)))
 refine wp_skip (s_then (s_seq (c_reg ?_)))
 refine qd rfl rfl rfl (r_move (v := v) rfl) (q1 rfl rfl rfl (o_call (vs := [v]) Try.func5 nm5 rfl rfl rfl ?_))
 refine Calls.mono (drLoopOf_spec hX3.pins hc) ?_
 rintro _ w6 ⟨u8, ns9, G5, rfl, hr10, hx7⟩
 refine ⟨_, rfl, ?_⟩
 have hX11 := hX3.tr hx7
 have hm12 := hr10.max
 refine q1 rfl rfl rfl (o_alloc [(.slice none 0 0)] zr26 rfl hX11.pins (fun b13 w14 hk15 hb16 hp17 hl18 => ?_))
 have hX19 := hX11.step hp17 hl18
 have hlo20 : w.heap.size ≤ b13 := by have := hX11.size; omega
 refine q0 rfl rfl rfl (o_stp (cs' := [u8]) (us := [u8]) (v := (.agg [u8].toArray)) sz26 rfl rfl rfl (ones1 hr10.one) hX19.pins hb16 (Nat.le_of_ble_eq_true rfl) rfl (fun w21 hb22 hp23 hg24 hz25 => ?_))
 have hX26 := hX19.write hp23 hg24 ((lo_box hlo20))
 obtain ⟨G27, hle28, hX29, hbp30, hf31⟩ := hb22.shut hX26 hlo20
 refine qe (s_then (s_seq (c_reg ?_)))
 refine qd rfl rfl rfl (r_ldpA (cs := [u8]) ag26 sz26 rfl (fun j u hj => hX29.pins _ _ _ (hbp30 _ _ (by simpa using hj)))) (q1 rfl rfl rfl (o_call (vs := [(.agg [u8].toArray)]) Try.func6 nm6 rfl rfl rfl ?_))
 refine Calls.mono (iLoopOf_spec hX29.pins (hr10.mono hle28)) ?_
 rintro _ w35 ⟨u32, v33, G34, rfl, hr36, hr37, hx38⟩
 refine ⟨_, rfl, ?_⟩
 have hX39 := hX29.tr hx38
 refine qd rfl rfl rfl (r_move (v := (.tuple #[(.agg [u32, v33].toArray), (.bool (lpOk ns9))])) rfl) (qd rfl rfl rfl (r_extract (v := (.agg [u32, v33].toArray)) rfl rfl) (qd rfl rfl rfl (r_extract (v := (.bool (lpOk ns9))) rfl rfl) (q1 rfl rfl rfl (o_alloc [(.slice none 0 0), (.slice none 0 0)] zr30 rfl hX39.pins (fun b40 w41 hk42 hb43 hp44 hl45 => ?_)))))
 have hX46 := hX39.step hp44 hl45
 have hlo47 : w.heap.size ≤ b40 := by have := hX39.size; omega
 refine q0 rfl rfl rfl (o_stp (cs' := [u32, v33]) (us := [u32, v33]) (v := (.agg [u32, v33].toArray)) sz30 rfl rfl rfl (ones2 hr36.one hr37.one) hX46.pins hb43 (Nat.le_of_ble_eq_true rfl) rfl (fun w48 hb49 hp50 hg51 hz52 => ?_))
 have hX53 := hX46.write hp50 hg51 ((lo_box hlo47))
 obtain ⟨G54, hle55, hX56, hbp57, hf58⟩ := hb49.shut hX53 hlo47
 refine qd rfl rfl rfl (r_assign (v := (.bool (lpOk ns9))) rfl) (qe (s_then (s_seq (c_reg ?_))))
 refine qd rfl rfl rfl (r_ldpA (cs := [u8]) ag26 sz26 rfl (fun j u hj => (Pins.of_le hX56.pins (Pin.le_trans hx38.le hle55)) _ _ _ (hbp30 _ _ (by simpa using hj)))) (q1 rfl rfl rfl (o_call (vs := [(.agg [u8].toArray)]) Try.func7 nm7 rfl rfl rfl ?_))
 refine Calls.mono (sLoopOf_spec hX56.pins (hr10.mono (Pin.le_trans (Pin.le_trans hle28 hx38.le) hle55))) ?_
 rintro _ w62 ⟨u59, v60, G61, rfl, hr63, hr64, hx65⟩
 refine ⟨_, rfl, ?_⟩
 have hX66 := hX56.tr hx65
 refine qd rfl rfl rfl (r_move (v := (.tuple #[(.agg [u59, v60].toArray), (.bool (lpOk ns9))])) rfl) (qd rfl rfl rfl (r_extract (v := (.agg [u59, v60].toArray)) rfl rfl) (qd rfl rfl rfl (r_extract (v := (.bool (lpOk ns9))) rfl rfl) (q1 rfl rfl rfl (o_alloc [(.slice none 0 0), (.slice none 0 0)] zr30 rfl hX66.pins (fun b67 w68 hk69 hb70 hp71 hl72 => ?_)))))
 have hX73 := hX66.step hp71 hl72
 have hlo74 : w.heap.size ≤ b67 := by have := hX66.size; omega
 refine q0 rfl rfl rfl (o_stp (cs' := [u59, v60]) (us := [u59, v60]) (v := (.agg [u59, v60].toArray)) sz30 rfl rfl rfl (ones2 hr63.one hr64.one) hX73.pins hb70 (Nat.le_of_ble_eq_true rfl) rfl (fun w75 hb76 hp77 hg78 hz79 => ?_))
 have hX80 := hX73.write hp77 hg78 ((lo_box hlo74))
 obtain ⟨G81, hle82, hX83, hbp84, hf85⟩ := hb76.shut hX80 hlo74
 refine qd rfl rfl rfl (r_assign (v := (.bool (lpOk ns9))) rfl) (qe (s_then (s_seq (s_seq (c_reg ?_)))))
 refine qd rfl rfl rfl (r_move (v := (.bool (lpOk ns9))) rfl) (qd rfl rfl rfl (r_move (v := (.bool (lpOk ns9))) rfl) (qd rfl rfl rfl (r_neqB_same Try.underlying4 rfl rfl) (qd rfl rfl rfl (r_move (v := (.bool false)) rfl) (qdg rfl rfl rfl rfl rfl rfl (r_fldp (k := 0) rfl Try.underlying30 rfl nz28 rfl) (qdg rfl rfl rfl rfl rfl rfl (r_ldp1 (u := u32) ag28 rfl ((Pins.of_le hX83.pins (Pin.le_trans hx65.le hle82)) _ _ _ (hbp57 0 _ rfl))) (qdg rfl rfl rfl rfl rfl rfl (r_fldp (k := 0) rfl Try.underlying30 rfl nz28 rfl) (qdg rfl rfl rfl rfl rfl rfl (r_ldp1 (u := u59) ag28 rfl (hX83.pins _ _ _ (hbp84 0 _ rfl))) (q1g rfl rfl rfl rfl rfl rfl (o_call (vs := [u32, u59]) Try.func8 nm8 rfl rfl rfl ?_)))))))))
 refine Calls.mono (rLists_spec hX83.pins (hr36.mono (Pin.le_trans (Pin.le_trans hle55 hx65.le) hle82)) (hr63.mono hle82)) ?_
 rintro _ w87 ⟨G86, rfl, hx88⟩
 refine ⟨_, rfl, ?_⟩
 have hX89 := hX83.tr hx88
 refine qdg rfl rfl rfl rfl rfl rfl (r_not rfl) (qd rfl rfl rfl (r_pickF (v := (.bool (!(decide ((lpL ns9) = (lpL ns9)))))) rfl rfl) (qd rfl rfl rfl (r_move (v := (.bool (!(decide ((lpL ns9) = (lpL ns9)))))) rfl) (qbn (t := 42) rfl (fun _ => ?_) (fun h => absurd rfl (of_decide_eq_false h)))))
 refine qdg rfl rfl rfl rfl rfl rfl (r_fldp (k := 1) rfl Try.underlying30 rfl nz28 rfl) (qdg rfl rfl rfl rfl rfl rfl (r_ldp1 (u := v33) ag28 rfl ((Pins.of_le hX89.pins (Pin.le_trans (Pin.le_trans hx65.le hle82) hx88.le)) _ _ _ (hbp57 1 _ rfl))) (qdg rfl rfl rfl rfl rfl rfl (r_fldp (k := 1) rfl Try.underlying30 rfl nz28 rfl) (qdg rfl rfl rfl rfl rfl rfl (r_ldp1 (u := v60) ag28 rfl ((Pins.of_le hX89.pins hx88.le) _ _ _ (hbp84 1 _ rfl))) (q1g rfl rfl rfl rfl rfl rfl (o_call (vs := [v33, v60]) Try.func8 nm8 rfl rfl rfl ?_)))))
 refine Calls.mono (rLists_spec hX89.pins (hr37.mono (Pin.le_trans (Pin.le_trans (Pin.le_trans hle55 hx65.le) hle82) hx88.le)) (hr64.mono (Pin.le_trans hle82 hx88.le))) ?_
 rintro _ w92 ⟨G91, rfl, hx93⟩
 refine ⟨_, rfl, ?_⟩
 have hX94 := hX89.tr hx93
 refine qdg rfl rfl rfl rfl rfl rfl (r_not rfl) (qd rfl rfl rfl (r_pickF (v := (.bool (!(decide ((lpR ns9) = (lpR ns9)))))) rfl rfl) (qe (s_then ?_)))
 refine c_ifn rfl rfl (fun _ => ?_) (fun h => absurd rfl (of_decide_eq_false h))
 refine wp_skip (s_then (s_seq (s_seq (c_reg ?_))))
 refine qd rfl rfl rfl (r_move (v := (.bool (lpOk ns9))) rfl) (qd rfl rfl rfl (r_not rfl) (qe (s_then ?_)))
 refine c_ifn rfl rfl (fun h96 => ?_) (fun h96 => ?_)
 refine wp_skip (s_then (s_seq (c_reg ?_)))
 have hlp : lpOk ns9 = true := by simpa using h96
 obtain ⟨hgp, hl36⟩ := lp_good hlp
 have hyes := lp_yes (goodB_true.2 hgp) (by omega)
 have hg := loop_lg hgp hl36
 obtain ⟨hL, hR⟩ := loop_ac hgp.optsOk
 have hgl := hgp.lo
 have hml : (ns9.map Nd.l).length = ns9.length := List.length_map ..
 have hout := lp_out hgp (z := (ns9.length : Int) - 1) rfl
 have hgb := goodB_true.2 hgp
 have hr97 : RSl (eSl eInt) G34 u32 (ns9.map Nd.l) := by rw [← hyes.2.1]; exact hr36
 have hr98 : RSl (eSl eInt) G34 v33 (ns9.map Nd.r) := by rw [← hyes.2.2]; exact hr37
 refine qd rfl rfl rfl (r_fldp (k := 0) rfl Try.underlying26 rfl nz24 rfl) (qd rfl rfl rfl (r_ldp1 (u := u8) ag24 rfl ((Pins.of_le hX94.pins (Pin.le_trans (Pin.le_trans (Pin.le_trans (Pin.le_trans (Pin.le_trans hx38.le hle55) hx65.le) hle82) hx88.le) hx93.le)) _ _ _ (hbp30 0 _ rfl))) (qd rfl rfl rfl (run_len Try.underlying24 (v := u8) rfl hr10) (qd rfl rfl rfl (r_sub rfl rfl (by omega)) (qd rfl rfl rfl (r_assign (v := (.int .i64 ((ns9.length : Int) - 1))) rfl) (qe (s_then (s_seq (c_reg ?_))))))))
 refine qd rfl rfl rfl (r_ldpA (cs := [u32, v33]) ag30 sz30 rfl (fun j u hj => (Pins.of_le hX94.pins (Pin.le_trans (Pin.le_trans (Pin.le_trans hx65.le hle82) hx88.le) hx93.le)) _ _ _ (hbp57 _ _ (by simpa using hj)))) (qd rfl rfl rfl (r_move (v := (.int .i64 ((ns9.length : Int) - 1))) rfl) (q1 rfl rfl rfl (o_call (vs := [(.agg [u32, v33].toArray), (.int .i64 ((ns9.length : Int) - 1)), (.bool true)]) Try.func9 nm9 rfl rfl rfl ?_)))
 refine Calls.mono (LoopOutcome_spec hX94.pins (hr97.mono (Pin.le_trans (Pin.le_trans (Pin.le_trans (Pin.le_trans hle55 hx65.le) hle82) hx88.le) hx93.le)) (hr98.mono (Pin.le_trans (Pin.le_trans (Pin.le_trans (Pin.le_trans hle55 hx65.le) hle82) hx88.le) hx93.le)) hg hL hR (by omega)) ?_
 rintro _ w100 ⟨G99, rfl, hx101⟩
 refine ⟨_, rfl, ?_⟩
 have hX102 := hX94.tr hx101
 refine qd rfl rfl rfl (r_move (v := (.tuple #[(.int .i64 (wnA (arN (ns9.map Nd.l) (ns9.map Nd.r)) (stZ ((ns9.length : Int) - 1) true).toNat)), (.bool true)])) rfl) (qd rfl rfl rfl (r_extract (v := (.int .i64 (wnA (arN (ns9.map Nd.l) (ns9.map Nd.r)) (stZ ((ns9.length : Int) - 1) true).toNat))) rfl rfl) (qd rfl rfl rfl (r_extract (v := (.bool true)) rfl rfl) (qd rfl rfl rfl (r_assign (v := (.int .i64 (wnA (arN (ns9.map Nd.l) (ns9.map Nd.r)) (stZ ((ns9.length : Int) - 1) true).toNat))) rfl) (qd rfl rfl rfl (r_assign (v := (.bool true)) rfl) (qe (s_then (s_seq (c_reg ?_))))))))
 refine qd rfl rfl rfl (r_ldpA (cs := [u32, v33]) ag30 sz30 rfl (fun j u hj => (Pins.of_le hX102.pins (Pin.le_trans (Pin.le_trans (Pin.le_trans (Pin.le_trans hx65.le hle82) hx88.le) hx93.le) hx101.le)) _ _ _ (hbp57 _ _ (by simpa using hj)))) (qd rfl rfl rfl (r_move (v := (.int .i64 ((ns9.length : Int) - 1))) rfl) (q1 rfl rfl rfl (o_call (vs := [(.agg [u32, v33].toArray), (.int .i64 ((ns9.length : Int) - 1)), (.bool false)]) Try.func9 nm9 rfl rfl rfl ?_)))
 refine Calls.mono (LoopOutcome_spec hX102.pins (hr97.mono (Pin.le_trans (Pin.le_trans (Pin.le_trans (Pin.le_trans (Pin.le_trans hle55 hx65.le) hle82) hx88.le) hx93.le) hx101.le)) (hr98.mono (Pin.le_trans (Pin.le_trans (Pin.le_trans (Pin.le_trans (Pin.le_trans hle55 hx65.le) hle82) hx88.le) hx93.le) hx101.le)) hg hL hR (by omega)) ?_
 rintro _ w104 ⟨G103, rfl, hx105⟩
 refine ⟨_, rfl, ?_⟩
 have hX106 := hX102.tr hx105
 refine qd rfl rfl rfl (r_move (v := (.tuple #[(.int .i64 (wnA (arN (ns9.map Nd.l) (ns9.map Nd.r)) (stZ ((ns9.length : Int) - 1) false).toNat)), (.bool true)])) rfl) (qd rfl rfl rfl (r_extract (v := (.int .i64 (wnA (arN (ns9.map Nd.l) (ns9.map Nd.r)) (stZ ((ns9.length : Int) - 1) false).toNat))) rfl rfl) (qd rfl rfl rfl (r_extract (v := (.bool true)) rfl rfl) (qd rfl rfl rfl (r_assign (v := (.int .i64 (wnA (arN (ns9.map Nd.l) (ns9.map Nd.r)) (stZ ((ns9.length : Int) - 1) false).toNat))) rfl) (qd rfl rfl rfl (r_assign (v := (.bool true)) rfl) (qe (s_then (s_seq (c_reg ?_))))))))
 refine qd rfl rfl rfl (r_ldpA (cs := [u8]) ag26 sz26 rfl (fun j u hj => (Pins.of_le hX106.pins (Pin.le_trans (Pin.le_trans (Pin.le_trans (Pin.le_trans (Pin.le_trans (Pin.le_trans (Pin.le_trans hx38.le hle55) hx65.le) hle82) hx88.le) hx93.le) hx101.le) hx105.le)) _ _ _ (hbp30 _ _ (by simpa using hj)))) (q1 rfl rfl rfl (o_call (vs := [(.agg [u8].toArray), (.bool true)]) Try.func10 nm10 rfl rfl rfl ?_))
 refine Calls.mono (iWinsMoving_spec hX106.pins (hr10.mono (Pin.le_trans (Pin.le_trans (Pin.le_trans (Pin.le_trans (Pin.le_trans (Pin.le_trans (Pin.le_trans (Pin.le_trans hle28 hx38.le) hle55) hx65.le) hle82) hx88.le) hx93.le) hx101.le) hx105.le))) ?_
 rintro _ w108 ⟨G107, rfl, hx109⟩
 refine ⟨_, rfl, ?_⟩
 have hX110 := hX106.tr hx109
 refine qd rfl rfl rfl (r_move (v := (.tuple #[(.bool (wmB ns9 true)), (.bool (goodB ns9))])) rfl) (qd rfl rfl rfl (r_extract (v := (.bool (wmB ns9 true))) rfl rfl) (qd rfl rfl rfl (r_extract (v := (.bool (goodB ns9))) rfl rfl) (qd rfl rfl rfl (r_assign (v := (.bool (wmB ns9 true))) rfl) (qd rfl rfl rfl (r_assign (v := (.bool (goodB ns9))) rfl) (qe (s_then (s_seq (c_reg ?_))))))))
 refine qd rfl rfl rfl (r_ldpA (cs := [u8]) ag26 sz26 rfl (fun j u hj => (Pins.of_le hX110.pins (Pin.le_trans (Pin.le_trans (Pin.le_trans (Pin.le_trans (Pin.le_trans (Pin.le_trans (Pin.le_trans (Pin.le_trans hx38.le hle55) hx65.le) hle82) hx88.le) hx93.le) hx101.le) hx105.le) hx109.le)) _ _ _ (hbp30 _ _ (by simpa using hj)))) (q1 rfl rfl rfl (o_call (vs := [(.agg [u8].toArray), (.bool false)]) Try.func10 nm10 rfl rfl rfl ?_))
 refine Calls.mono (iWinsMoving_spec hX110.pins (hr10.mono (Pin.le_trans (Pin.le_trans (Pin.le_trans (Pin.le_trans (Pin.le_trans (Pin.le_trans (Pin.le_trans (Pin.le_trans (Pin.le_trans hle28 hx38.le) hle55) hx65.le) hle82) hx88.le) hx93.le) hx101.le) hx105.le) hx109.le))) ?_
 rintro _ w112 ⟨G111, rfl, hx113⟩
 refine ⟨_, rfl, ?_⟩
 have hX114 := hX110.tr hx113
 refine qd rfl rfl rfl (r_move (v := (.tuple #[(.bool (wmB ns9 false)), (.bool (goodB ns9))])) rfl) (qd rfl rfl rfl (r_extract (v := (.bool (wmB ns9 false))) rfl rfl) (qd rfl rfl rfl (r_extract (v := (.bool (goodB ns9))) rfl rfl) (qd rfl rfl rfl (r_assign (v := (.bool (wmB ns9 false))) rfl) (qd rfl rfl rfl (r_assign (v := (.bool (goodB ns9))) rfl) (qe (s_then (s_seq (c_reg ?_))))))))
 refine qd rfl rfl rfl (r_move (v := (.bool true)) rfl) (qd rfl rfl rfl (r_move (v := (.bool true)) rfl) (qdg rfl rfl rfl rfl rfl rfl (r_move (v := (.bool true)) rfl) (qd rfl rfl rfl (r_pickT (v := (.bool true)) rfl rfl) (qd rfl rfl rfl (r_move (v := (.bool true)) rfl) (qdg rfl rfl rfl rfl rfl rfl (r_move (v := (.bool (goodB ns9))) rfl) (qd rfl rfl rfl (r_pickT (v := (.bool (goodB ns9))) rfl rfl) (qd rfl rfl rfl (r_move (v := (.bool (goodB ns9))) rfl) (qb (t := 85) rfl (fun h115 => ?_) (fun h115 => ?_)))))))))
 refine qdg rfl rfl rfl rfl rfl rfl (r_move (v := (.bool (goodB ns9))) rfl) (qd rfl rfl rfl (r_pickT (v := (.bool (goodB ns9))) rfl rfl) (qd rfl rfl rfl (r_move (v := (.bool (goodB ns9))) rfl) (qb (t := 88) rfl (fun h116 => ?_) (fun h116 => ?_))))
 refine qdg rfl rfl rfl rfl rfl rfl (r_move (v := (.int .i64 (wnA (arN (ns9.map Nd.l) (ns9.map Nd.r)) (stZ ((ns9.length : Int) - 1) true).toNat))) rfl) (qdg rfl rfl rfl rfl rfl rfl (r_neq rfl rfl) (qd rfl rfl rfl (r_pickT (v := (.bool (decide ((wnA (arN (ns9.map Nd.l) (ns9.map Nd.r)) (stZ ((ns9.length : Int) - 1) true).toNat : Int) ≠ 0)))) rfl rfl) (qd rfl rfl rfl (r_move (v := (.bool (decide ((wnA (arN (ns9.map Nd.l) (ns9.map Nd.r)) (stZ ((ns9.length : Int) - 1) true).toNat : Int) ≠ 0)))) rfl) (qbd (p := (wnA (arN (ns9.map Nd.l) (ns9.map Nd.r)) (stZ ((ns9.length : Int) - 1) true).toNat : Int) ≠ 0) (t := 92) rfl (fun h117 => ?_) (fun h117 => ?_)))))
 refine qdg rfl rfl rfl rfl rfl rfl (r_move (v := (.int .i64 (wnA (arN (ns9.map Nd.l) (ns9.map Nd.r)) (stZ ((ns9.length : Int) - 1) false).toNat))) rfl) (qdg rfl rfl rfl rfl rfl rfl (r_neq rfl rfl) (qd rfl rfl rfl (r_pickT (v := (.bool (decide ((wnA (arN (ns9.map Nd.l) (ns9.map Nd.r)) (stZ ((ns9.length : Int) - 1) false).toNat : Int) ≠ 0)))) rfl rfl) (qd rfl rfl rfl (r_move (v := (.bool (decide ((wnA (arN (ns9.map Nd.l) (ns9.map Nd.r)) (stZ ((ns9.length : Int) - 1) false).toNat : Int) ≠ 0)))) rfl) (qbd (p := (wnA (arN (ns9.map Nd.l) (ns9.map Nd.r)) (stZ ((ns9.length : Int) - 1) false).toNat : Int) ≠ 0) (t := 96) rfl (fun h118 => ?_) (fun h118 => ?_)))))
 refine qdg rfl rfl rfl rfl rfl rfl (r_move (v := (.int .i64 (wnA (arN (ns9.map Nd.l) (ns9.map Nd.r)) (stZ ((ns9.length : Int) - 1) true).toNat))) rfl) (qdg rfl rfl rfl rfl rfl rfl (r_eql rfl rfl) (qdg rfl rfl rfl rfl rfl rfl (r_move (v := (.bool (wmB ns9 true))) rfl) (qdg rfl rfl rfl rfl rfl rfl (r_eqlB Try.underlying4 rfl rfl) (qd rfl rfl rfl (r_pickT (v := (.bool ((decide ((wnA (arN (ns9.map Nd.l) (ns9.map Nd.r)) (stZ ((ns9.length : Int) - 1) true).toNat : Int) = 1)) == (wmB ns9 true)))) rfl rfl) (qd rfl rfl rfl (r_move (v := (.bool ((decide ((wnA (arN (ns9.map Nd.l) (ns9.map Nd.r)) (stZ ((ns9.length : Int) - 1) true).toNat : Int) = 1)) == (wmB ns9 true)))) rfl) (qb (t := 102) rfl (fun h119 => ?_) (fun h119 => ?_)))))))
 refine qdg rfl rfl rfl rfl rfl rfl (r_move (v := (.int .i64 (wnA (arN (ns9.map Nd.l) (ns9.map Nd.r)) (stZ ((ns9.length : Int) - 1) false).toNat))) rfl) (qdg rfl rfl rfl rfl rfl rfl (r_eql rfl rfl) (qdg rfl rfl rfl rfl rfl rfl (r_move (v := (.bool (wmB ns9 false))) rfl) (qdg rfl rfl rfl rfl rfl rfl (r_eqlB Try.underlying4 rfl rfl) (qd rfl rfl rfl (r_pickT (v := (.bool ((decide ((wnA (arN (ns9.map Nd.l) (ns9.map Nd.r)) (stZ ((ns9.length : Int) - 1) false).toNat : Int) = 2)) == (wmB ns9 false)))) rfl rfl) (qd rfl rfl rfl (r_move (v := (.bool ((decide ((wnA (arN (ns9.map Nd.l) (ns9.map Nd.r)) (stZ ((ns9.length : Int) - 1) false).toNat : Int) = 2)) == (wmB ns9 false)))) rfl) (qb (t := 108) rfl (fun h120 => ?_) (fun h120 => ?_)))))))
 refine qdg rfl rfl rfl rfl rfl rfl (r_ldpA (cs := [u32, v33]) ag30 sz30 rfl (fun j u hj => (Pins.of_le hX114.pins (Pin.le_trans (Pin.le_trans (Pin.le_trans (Pin.le_trans (Pin.le_trans (Pin.le_trans (Pin.le_trans hx65.le hle82) hx88.le) hx93.le) hx101.le) hx105.le) hx109.le) hx113.le)) _ _ _ (hbp57 _ _ (by simpa using hj)))) (q1g rfl rfl rfl rfl rfl rfl (o_call (vs := [(.agg [u32, v33].toArray)]) Try.func11 nm11 rfl rfl rfl ?_))
 refine Calls.mono (IsStopper_spec hX114.pins (hr97.mono (Pin.le_trans (Pin.le_trans (Pin.le_trans (Pin.le_trans (Pin.le_trans (Pin.le_trans (Pin.le_trans (Pin.le_trans hle55 hx65.le) hle82) hx88.le) hx93.le) hx101.le) hx105.le) hx109.le) hx113.le)) (hr98.mono (Pin.le_trans (Pin.le_trans (Pin.le_trans (Pin.le_trans (Pin.le_trans (Pin.le_trans (Pin.le_trans (Pin.le_trans hle55 hx65.le) hle82) hx88.le) hx93.le) hx101.le) hx105.le) hx109.le) hx113.le)) hg hL hR) ?_
 rintro _ w122 ⟨G121, rfl, hx123⟩
 refine ⟨_, rfl, ?_⟩
 have hX124 := hX114.tr hx123
 refine qd rfl rfl rfl (r_pickT (v := (.bool true)) rfl rfl) (qd rfl rfl rfl (r_assign (v := (.bool true)) rfl) (qe (s_then ?_)))
 exact wp_ret (s_ret (c_ret1 (v := (.bool true)) rfl rfl rfl (⟨_, rfl, hX124⟩)))
 refine qs rfl rfl rfl rfl rfl rfl (qs rfl rfl rfl rfl rfl rfl (qd rfl rfl rfl (r_pickF (v := (.bool false)) rfl rfl) (qd rfl rfl rfl (r_assign (v := (.bool false)) rfl) (qe (s_then ?_)))))
 exact wp_ret (s_ret (c_ret1 (v := (.bool false)) rfl rfl rfl ((beq_no hout.2.2 h120).elim)))
 refine qs rfl rfl rfl rfl rfl rfl (qs rfl rfl rfl rfl rfl rfl (qs rfl rfl rfl rfl rfl rfl (qs rfl rfl rfl rfl rfl rfl (qd rfl rfl rfl (r_pickF (v := (.bool false)) rfl rfl) (qd rfl rfl rfl (r_move (v := (.bool false)) rfl) (qs rfl rfl rfl rfl rfl rfl (qs rfl rfl rfl rfl rfl rfl (qd rfl rfl rfl (r_pickF (v := (.bool false)) rfl rfl) (qd rfl rfl rfl (r_assign (v := (.bool false)) rfl) (qe (s_then ?_)))))))))))
 exact wp_ret (s_ret (c_ret1 (v := (.bool false)) rfl rfl rfl ((beq_no hout.2.1 h119).elim)))
 refine qs rfl rfl rfl rfl rfl rfl (qs rfl rfl rfl rfl rfl rfl (qs rfl rfl rfl rfl rfl rfl (qs rfl rfl rfl rfl rfl rfl (qd rfl rfl rfl (r_pickF (v := (.bool false)) rfl rfl) (qd rfl rfl rfl (r_move (v := (.bool false)) rfl) (qs rfl rfl rfl rfl rfl rfl (qs rfl rfl rfl rfl rfl rfl (qs rfl rfl rfl rfl rfl rfl (qs rfl rfl rfl rfl rfl rfl (qd rfl rfl rfl (r_pickF (v := (.bool false)) rfl rfl) (qd rfl rfl rfl (r_move (v := (.bool false)) rfl) (qs rfl rfl rfl rfl rfl rfl (qs rfl rfl rfl rfl rfl rfl (qd rfl rfl rfl (r_pickF (v := (.bool false)) rfl rfl) (qd rfl rfl rfl (r_assign (v := (.bool false)) rfl) (qe (s_then ?_)))))))))))))))))
 exact wp_ret (s_ret (c_ret1 (v := (.bool false)) rfl rfl rfl (absurd hout.1.2 h118)))
 refine qs rfl rfl rfl rfl rfl rfl (qs rfl rfl rfl rfl rfl rfl (qd rfl rfl rfl (r_pickF (v := (.bool false)) rfl rfl) (qd rfl rfl rfl (r_move (v := (.bool false)) rfl) (qs rfl rfl rfl rfl rfl rfl (qs rfl rfl rfl rfl rfl rfl (qs rfl rfl rfl rfl rfl rfl (qs rfl rfl rfl rfl rfl rfl (qd rfl rfl rfl (r_pickF (v := (.bool false)) rfl rfl) (qd rfl rfl rfl (r_move (v := (.bool false)) rfl) (qs rfl rfl rfl rfl rfl rfl (qs rfl rfl rfl rfl rfl rfl (qs rfl rfl rfl rfl rfl rfl (qs rfl rfl rfl rfl rfl rfl (qd rfl rfl rfl (r_pickF (v := (.bool false)) rfl rfl) (qd rfl rfl rfl (r_move (v := (.bool false)) rfl) (qs rfl rfl rfl rfl rfl rfl (qs rfl rfl rfl rfl rfl rfl (qd rfl rfl rfl (r_pickF (v := (.bool false)) rfl rfl) (qd rfl rfl rfl (r_assign (v := (.bool false)) rfl) (qe (s_then ?_)))))))))))))))))))))
 exact wp_ret (s_ret (c_ret1 (v := (.bool false)) rfl rfl rfl (absurd hout.1.1 h117)))
 refine qs rfl rfl rfl rfl rfl rfl (qs rfl rfl rfl rfl rfl rfl (qd rfl rfl rfl (r_pickF (v := (.bool false)) rfl rfl) (qd rfl rfl rfl (r_move (v := (.bool false)) rfl) (qs rfl rfl rfl rfl rfl rfl (qs rfl rfl rfl rfl rfl rfl (qd rfl rfl rfl (r_pickF (v := (.bool false)) rfl rfl) (qd rfl rfl rfl (r_move (v := (.bool false)) rfl) (qs rfl rfl rfl rfl rfl rfl (qs rfl rfl rfl rfl rfl rfl (qs rfl rfl rfl rfl rfl rfl (qs rfl rfl rfl rfl rfl rfl (qd rfl rfl rfl (r_pickF (v := (.bool false)) rfl rfl) (qd rfl rfl rfl (r_move (v := (.bool false)) rfl) (qs rfl rfl rfl rfl rfl rfl (qs rfl rfl rfl rfl rfl rfl (qs rfl rfl rfl rfl rfl rfl (qs rfl rfl rfl rfl rfl rfl (qd rfl rfl rfl (r_pickF (v := (.bool false)) rfl rfl) (qd rfl rfl rfl (r_move (v := (.bool false)) rfl) (qs rfl rfl rfl rfl rfl rfl (qs rfl rfl rfl rfl rfl rfl (qd rfl rfl rfl (r_pickF (v := (.bool false)) rfl rfl) (qd rfl rfl rfl (r_assign (v := (.bool false)) rfl) (qe (s_then ?_)))))))))))))))))))))))))
 refine wp_ret (s_ret (c_ret1 (v := (.bool false)) rfl rfl rfl ?_))
 rw [hgb] at h116; cases h116
 refine qs rfl rfl rfl rfl rfl rfl (qd rfl rfl rfl (r_pickF (v := (.bool false)) rfl rfl) (qd rfl rfl rfl (r_move (v := (.bool false)) rfl) (qs rfl rfl rfl rfl rfl rfl (qs rfl rfl rfl rfl rfl rfl (qd rfl rfl rfl (r_pickF (v := (.bool false)) rfl rfl) (qd rfl rfl rfl (r_move (v := (.bool false)) rfl) (qs rfl rfl rfl rfl rfl rfl (qs rfl rfl rfl rfl rfl rfl (qd rfl rfl rfl (r_pickF (v := (.bool false)) rfl rfl) (qd rfl rfl rfl (r_move (v := (.bool false)) rfl) (qs rfl rfl rfl rfl rfl rfl (qs rfl rfl rfl rfl rfl rfl (qs rfl rfl rfl rfl rfl rfl (qs rfl rfl rfl rfl rfl rfl (qd rfl rfl rfl (r_pickF (v := (.bool false)) rfl rfl) (qd rfl rfl rfl (r_move (v := (.bool false)) rfl) (qs rfl rfl rfl rfl rfl rfl (qs rfl rfl rfl rfl rfl rfl (qs rfl rfl rfl rfl rfl rfl (qs rfl rfl rfl rfl rfl rfl (qd rfl rfl rfl (r_pickF (v := (.bool false)) rfl rfl) (qd rfl rfl rfl (r_move (v := (.bool false)) rfl) (qs rfl rfl rfl rfl rfl rfl (qs rfl rfl rfl rfl rfl rfl (qd rfl rfl rfl (r_pickF (v := (.bool false)) rfl rfl) (qd rfl rfl rfl (r_assign (v := (.bool false)) rfl) (qe (s_then ?_))))))))))))))))))))))))))))
 refine wp_ret (s_ret (c_ret1 (v := (.bool false)) rfl rfl rfl ?_))
 rw [hgb] at h115; cases h115
 refine s_seq (c_reg ?_)
 refine qd rfl rfl rfl (r_assign (v := (.bool true)) rfl) (qe (s_then ?_))
 exact wp_ret (s_ret (c_ret1 (v := (.bool true)) rfl rfl rfl (⟨_, rfl, hX94⟩)))

end LLF
end Go.Proofs.Ytdongckiecjbaaa
