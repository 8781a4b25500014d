/- Texts of this claim in one file: PF5, PF6, LP1, LPF. -/
import Derived.Test.YtdleojbknkbpiaaPf6
import Derived.Test.YtdleojbknkbpiaaChecked
set_option maxRecDepth 20000
set_option maxHeartbeats 2000000
namespace Go.Proofs.Ytdleojbknkbpiaa
namespace PF5
open Go.RowKit Go.GL Go.Proofs
open B1 Q1







theorem mk3 : (Try.prog.info? 3).map (fun i => (i.size, i.bytes, i.zero)) = some (1, 8, some (.int .i64 0)) := by kernel_rfl
theorem mk4 : (Try.prog.info? 4).map (fun i => (i.size, i.bytes, i.zero)) = some (1, 1, some (.bool false)) := by kernel_rfl




theorem pl28 : (Try.prog.underlying 28).bind (placesD Try.prog) = some [(0, 1)] := by kernel_rfl
theorem pl49 : (Try.prog.underlying 49).bind (placesD Try.prog) = some [(0, 1), (1, 1), (2, 1), (3, 1)] := by kernel_rfl







theorem pruned_dspec {w : World} {G : Pin} {p : Value} {L : List Cl} (hP : Pins G w) (hp : RSl eClaim G p L) (hL : LOk L) :
  Calls Try.prog 21 [p].toArray w fun e w' => ∃ (u : Value) (G' : Pin), e = .returned (.tuple #[.agg [u].toArray, .bool (prnB L)]) ∧ DPrf 49 3 G' w' w.heap.size w'.heap.size u (prnL L) ∧ Ext noS G w G' w' := by
 refine s_enter (n := 107) Try.func21 Try.ntmps21 rfl rfl ?_
 have hX0 : Ext noS G w G w := Ext.refl hP
 have hlv0 : Lvs 3 G w w.heap.size w.heap.size [] := Lvs.nil
 have hLp := hL.pos
 have hLh := hL.hi
 have hrl : (List.replicate L.length false).length = L.length := by simp
 refine s_seq (c_reg ?_)
 refine q1 rfl rfl rfl (o_alloc [(.slice none 0 0)] zr28 rfl hX0.pins (fun b1 w2 hk3 hb4 hp5 hl6 => ?_))
 have hX7 := hX0.step hp5 hl6
 have hlv8 := (hlv0.below hl6).top
 have ha9 : ApL [] (some b1) := ApL.fresh hlv0 (fun k hk => by rw [(congrArg some hk3)] at hk; cases hk; exact Nat.le_refl _)
 have hlo10 : w.heap.size ≤ b1 := by have := hX0.size; omega
 refine qd rfl rfl rfl (r_assign (v := (.bool false)) rfl) (qe (s_then (s_seq (c_reg ?_))))
 refine qd rfl rfl rfl (r_move (v := p) rfl) (qd rfl rfl rfl (run_len Try.underlying26 (v := p) rfl hp) (q1 rfl rfl rfl (o_make (E := eBool) false 1 (.bool false) Try.underlying71 mk4 (fun _ => rfl) rfl rfl hX7.pins (by omega) (by omega) (by omega) (fun u11 w12 ho13 hp14 hl15 hk16 => ?_))))
 have hX17 := hX7.step hp14 hl15
 have hb18 := hb4.below hl15
 have hlv19 := (hlv8.below hl15).top
 have ha20 : Apart u11.ownBlock (some b1) := new_ne_box hk16 hb4.lt
 have ha21 : ApL [] u11.ownBlock := ApL.fresh hlv8 (fun k hk => by rw [hk16] at hk; cases hk; exact Nat.le_refl _)
 have ho22 : Own eBool 4 G w12 w.heap.size u11 (List.replicate L.length false) := ho13.weaken hX7.size
 have hm23 : (List.replicate L.length false).length = L.length := List.length_replicate ..
 refine qd rfl rfl rfl (r_assign (v := u11) rfl) (qe (s_then (s_seq (c_reg ?_))))
 refine qd rfl rfl rfl (r_move (v := u11) rfl) (qd rfl rfl rfl (r_move (v := p) rfl) (qd rfl rfl rfl (run_len Try.underlying26 (v := p) rfl hp) (qd rfl rfl rfl (r_sub rfl rfl (by omega)) (qd rfl rfl rfl (run_idx Try.underlying71 sz4 (v := u11) rfl rfl ho22.read (by omega) (by omega)) (q0 rfl rfl rfl (o_set (E := eBool) (v := u11) (u := (.bool true)) (z := ((L.length : Int) - 1)) (true) sz4 rfl rfl rfl rfl hX17.pins ho22 (by omega) (by omega) (fun w24 ho25 hp26 hg27 hz28 => ?_)))))))
 have hX29 := hX17.write hp26 hg27 ((lo_own ho22))
 have hb30 := hb18.keptA hg27 ha20.symm
 have hlv31 := (hlv19.kept hg27 ha21).top
 refine qe (s_then (s_seq (s_seq (c_reg ?_))))
 refine qd rfl rfl rfl (r_move (v := p) rfl) (qd rfl rfl rfl (run_len Try.underlying26 (v := p) rfl hp) (qd rfl rfl rfl (r_sub rfl rfl (by omega)) (qd rfl rfl rfl (r_assign (v := (.int .i64 ((L.length : Int) - 1))) rfl) (qe (s_then ?_)))))
 refine s_blk (s_loop (fun (k : Nat) (en : Nat → Value) (W : World) => ∃ (env1 : Nat → Value) (z : Int) (nd : List Bool), en = (upd (upd (upd (upd (upd env1 0 p) 2 (.pointer (some ⟨b1, 0, none⟩))) 3 (.bool false)) 4 u11) 5 (.int .i64 z)) ∧ k = (z + 1).toNat ∧ Ext noS G w G W ∧ (-1 ≤ z ∧ z ≤ (L.length : Int) - 1) ∧ (nd.length = L.length) ∧ (nd = needZ L z) ∧ (Own eBool 4 G W w.heap.size u11 (nd)) ∧ (Bx G W b1 [(.slice none 0 0)]) ∧ (Lvs 3 G W w.heap.size W.heap.size []) ∧ (ApL [] u11.ownBlock) ∧ (ApL [] (some b1))) _ ⟨_, ((L.length : Int) - 1), (List.replicate L.length false).set ((L.length : Int) - 1).toNat true, (packS (x := 5) (packS (x := 4) (packS (x := 3) (packS (x := 2) (pack1 (x := 0) rfl) rfl) rfl) rfl) rfl), rfl, hX29, (by omega), (by simp), (needZ_start L).symm, ho25, hb30, hlv31, ha21, ha9⟩ ?_)
 rintro k32 _ w33 ⟨env1, z, nd, rfl, hk34, hX35, hz, hndl, hnd, hw36, hw37, hlv38, ha39, ha40⟩
 refine s_seq (s_seq (c_reg ?_))
 refine qd rfl rfl rfl (r_move (v := (.int .i64 z)) rfl) (qd rfl rfl rfl (r_geq rfl rfl) (qe (s_then ?_)))
 refine c_ifd (p := (0 : Int) ≤ z) rfl rfl (fun h41 => ?_) (fun h41 => ?_)
 have hlz := hL.ln z.toNat (by omega)
 refine wp_skip (s_then (s_seq ?_))
 refine s_blk (s_seq (c_reg ?_))
 refine qd rfl rfl rfl (r_move (v := u11) rfl) (qd rfl rfl rfl (r_move (v := (.int .i64 z)) rfl) (qd rfl rfl rfl (run_idx Try.underlying71 sz4 (v := u11) rfl rfl hw36.read (by omega) (by omega)) (qd rfl rfl rfl (run_load_bool (r := nd.getD (z).toNat false) rfl ag4 (z := z) rfl hw36.read (Gadd.pins hX35.pins u11) (by omega) (by omega)) (qe (s_then ?_)))))
 refine c_if rfl rfl (fun h42 => ?_) (fun h42 => ?_)
 refine s_seq (s_seq (c_reg ?_))
 refine qd rfl rfl rfl (r_move (v := p) rfl) (qd rfl rfl rfl (r_move (v := (.int .i64 z)) rfl) (qd rfl rfl rfl (run_idx Try.underlying26 sz49 (v := p) rfl rfl hp (by omega) (by omega)) (qd rfl rfl rfl (run_fld (off := 2) Try.underlying49 rfl rfl nz47 (z := z) (k := 0) rfl hp (by omega) (by omega)) ?_)))
 obtain ⟨cs43, hrep44, hagg45, hcell46⟩ := nm_el (j := (z).toNat) default (hp.at (z := z) (by omega) (by omega)) rfl
 obtain ⟨u47, u49, rfl, hr48, hr50⟩ := hrep44
 have hm51 := hr48.max
 have hm52 := hr50.max
 refine qd rfl rfl rfl (hcell46 2 _ rfl ag47 rfl hX35.pins) (qd rfl rfl rfl (run_len Try.underlying47 (v := u47) rfl hr48) (qd rfl rfl rfl (r_move (v := (.int .i64 0)) rfl) (qe (s_then ?_))))
 refine s_blk (s_loop (fun (k : Nat) (en : Nat → Value) (W : World) => ∃ (env1 : Nat → Value) (q1 : Nat) (nd2 : List Bool), en = (upd (upd (upd (upd (upd (upd (upd (upd env1 0 p) 2 (.pointer (some ⟨b1, 0, none⟩))) 3 (.bool false)) 4 u11) 5 (.int .i64 z)) 37 u47) 38 (.int .i64 (((L.getD (z).toNat default).r).length : Int))) 39 (.int .i64 (q1 : Int))) ∧ k = (L.getD z.toNat default).r.length - q1 ∧ Ext noS G w G W ∧ (q1 ≤ (L.getD z.toNat default).r.length) ∧ (nd2.length = L.length) ∧ (nd2 = needAll nd ((L.getD z.toNat default).r.take q1)) ∧ (Own eBool 4 G W w.heap.size u11 (nd2)) ∧ (Bx G W b1 [(.slice none 0 0)]) ∧ (Lvs 3 G W w.heap.size W.heap.size []) ∧ (ApL [] u11.ownBlock) ∧ (ApL [] (some b1))) _ ⟨_, 0, nd, (packS (x := 39) (packS (x := 38) (packS (x := 37) (packS (x := 5) (packS (x := 4) (packS (x := 3) (packS (x := 2) (pack1 (x := 0) rfl) rfl) rfl) rfl) rfl) rfl) rfl) rfl), rfl, hX35, Nat.zero_le _, hndl, rfl, hw36, hw37, hlv38, ha39, ha40⟩ ?_)
 rintro k53 _ w54 ⟨env1, q1, nd2, rfl, hk55, hX56, hq1, hl2, hr1, hw57, hw58, hlv59, ha60, ha61⟩
 refine s_seq (c_reg ?_)
 refine qd rfl rfl rfl (r_lss rfl rfl) (qe (s_then (s_seq ?_)))
 refine c_ifd (p := ((q1 : Int) : Int) < (((L.getD (z).toNat default).r).length : Int)) rfl rfl (fun h62 => ?_) (fun h62 => ?_)
 have hwz1 := hL.r (j := z.toNat) (q := q1) (by omega) (by omega)
 refine wp_skip (s_then (s_seq ?_))
 refine s_blk (s_seq (c_reg ?_))
 refine qd rfl rfl rfl (run_idx Try.underlying47 sz3 (v := u47) rfl rfl hr48 (by omega) (by omega)) (qd rfl rfl rfl (run_load_int (r := ((L.getD (z).toNat default).r).getD q1 0) rfl ag3 (z := (q1 : Int)) rfl hr48 hX56.pins (by omega) (by omega)) (qd rfl rfl rfl (r_assign (v := (.int .i64 (((L.getD (z).toNat default).r).getD q1 0))) rfl) (qe (s_then (c_reg ?_)))))
 refine qd rfl rfl rfl (r_move (v := u11) rfl) (qd rfl rfl rfl (r_move (v := (.int .i64 (((L.getD (z).toNat default).r).getD q1 0))) rfl) (qd rfl rfl rfl (run_idx Try.underlying71 sz4 (v := u11) rfl rfl hw57.read (by omega) (by omega)) (q0 rfl rfl rfl (o_set (E := eBool) (v := u11) (u := (.bool true)) (z := (((L.getD (z).toNat default).r).getD q1 0)) (true) sz4 rfl rfl rfl rfl hX56.pins hw57 (by omega) (by omega) (fun w63 ho64 hp65 hg66 hz67 => ?_)))))
 have hX68 := hX56.write hp65 hg66 ((lo_own hw57))
 have hb69 := hw58.keptA hg66 ha20.symm
 have hlv70 := (hlv59.kept hg66 ha60).top
 refine qe (s_blkN (s_then (c_reg ?_)))
 refine qd rfl rfl rfl (r_add rfl rfl (by omega)) (qd rfl rfl rfl (r_move (v := (.int .i64 ((q1 : Int) + 1))) rfl) (qe (s_lopN (⟨_, ?_, _, rfl, _, q1 + 1, nd2.set ((L.getD z.toNat default).r.getD q1 0).toNat true, (packS (x := 39) (packS (x := 38) (packS (x := 37) (packS (x := 5) (packS (x := 4) (packS (x := 3) (packS (x := 2) (pack1 (x := 0) rfl) rfl) rfl) rfl) rfl) rfl) rfl) rfl), rfl, hX68, (by omega), ((List.length_set ..).trans hl2), (by rw [hr1]; exact needAll_next (by omega)), ho64, hb69, hlv70, ha60, ha61⟩))))
 omega
 refine wp_exit (s_thenE (s_lopE (s_blkE (s_then (s_seq (c_reg ?_))))))
 refine qd rfl rfl rfl (r_move (v := p) rfl) (qd rfl rfl rfl (r_move (v := (.int .i64 z)) rfl) (qd rfl rfl rfl (run_idx Try.underlying26 sz49 (v := p) rfl rfl hp (by omega) (by omega)) (qd rfl rfl rfl (run_fld (off := 3) Try.underlying49 rfl rfl nz47 (z := z) (k := 0) rfl hp (by omega) (by omega)) ?_)))
 obtain ⟨cs71, hrep72, hagg73, hcell74⟩ := nm_el (j := (z).toNat) default (hp.at (z := z) (by omega) (by omega)) rfl
 obtain ⟨u75, u77, rfl, hr76, hr78⟩ := hrep72
 have hm79 := hr76.max
 have hm80 := hr78.max
 refine qd rfl rfl rfl (hcell74 3 _ rfl ag47 rfl hX56.pins) (qd rfl rfl rfl (run_len Try.underlying47 (v := u77) rfl hr78) (qd rfl rfl rfl (r_move (v := (.int .i64 0)) rfl) (qe (s_then ?_))))
 refine s_blk (s_loop (fun (k : Nat) (en : Nat → Value) (W : World) => ∃ (env1 : Nat → Value) (q2 : Nat) (nd3 : List Bool), en = (upd (upd (upd (upd (upd (upd (upd (upd env1 0 p) 2 (.pointer (some ⟨b1, 0, none⟩))) 3 (.bool false)) 4 u11) 5 (.int .i64 z)) 51 u77) 52 (.int .i64 (((L.getD (z).toNat default).l).length : Int))) 53 (.int .i64 (q2 : Int))) ∧ k = (L.getD z.toNat default).l.length - q2 ∧ Ext noS G w G W ∧ (q2 ≤ (L.getD z.toNat default).l.length) ∧ (nd3.length = L.length) ∧ (nd3 = needAll nd2 ((L.getD z.toNat default).l.take q2)) ∧ (Own eBool 4 G W w.heap.size u11 (nd3)) ∧ (Bx G W b1 [(.slice none 0 0)]) ∧ (Lvs 3 G W w.heap.size W.heap.size []) ∧ (ApL [] u11.ownBlock) ∧ (ApL [] (some b1))) _ ⟨_, 0, nd2, (packS (x := 53) (packS (x := 52) (packS (x := 51) (packS (x := 5) (packS (x := 4) (packS (x := 3) (packS (x := 2) (pack1 (x := 0) rfl) rfl) rfl) rfl) rfl) rfl) rfl) rfl), rfl, hX56, Nat.zero_le _, hl2, rfl, hw57, hw58, hlv59, ha60, ha61⟩ ?_)
 rintro k81 _ w82 ⟨env1, q2, nd3, rfl, hk83, hX84, hq2, hl3, hr2, hw85, hw86, hlv87, ha88, ha89⟩
 refine s_seq (c_reg ?_)
 refine qd rfl rfl rfl (r_lss rfl rfl) (qe (s_then (s_seq ?_)))
 refine c_ifd (p := ((q2 : Int) : Int) < (((L.getD (z).toNat default).l).length : Int)) rfl rfl (fun h90 => ?_) (fun h90 => ?_)
 have hwz2 := hL.l (j := z.toNat) (q := q2) (by omega) (by omega)
 refine wp_skip (s_then (s_seq ?_))
 refine s_blk (s_seq (c_reg ?_))
 refine qd rfl rfl rfl (run_idx Try.underlying47 sz3 (v := u77) rfl rfl hr78 (by omega) (by omega)) (qd rfl rfl rfl (run_load_int (r := ((L.getD (z).toNat default).l).getD q2 0) rfl ag3 (z := (q2 : Int)) rfl hr78 hX84.pins (by omega) (by omega)) (qd rfl rfl rfl (r_assign (v := (.int .i64 (((L.getD (z).toNat default).l).getD q2 0))) rfl) (qe (s_then (c_reg ?_)))))
 refine qd rfl rfl rfl (r_move (v := u11) rfl) (qd rfl rfl rfl (r_move (v := (.int .i64 (((L.getD (z).toNat default).l).getD q2 0))) rfl) (qd rfl rfl rfl (run_idx Try.underlying71 sz4 (v := u11) rfl rfl hw85.read (by omega) (by omega)) (q0 rfl rfl rfl (o_set (E := eBool) (v := u11) (u := (.bool true)) (z := (((L.getD (z).toNat default).l).getD q2 0)) (true) sz4 rfl rfl rfl rfl hX84.pins hw85 (by omega) (by omega) (fun w91 ho92 hp93 hg94 hz95 => ?_)))))
 have hX96 := hX84.write hp93 hg94 ((lo_own hw85))
 have hb97 := hw86.keptA hg94 ha20.symm
 have hlv98 := (hlv87.kept hg94 ha88).top
 refine qe (s_blkN (s_then (c_reg ?_)))
 refine qd rfl rfl rfl (r_add rfl rfl (by omega)) (qd rfl rfl rfl (r_move (v := (.int .i64 ((q2 : Int) + 1))) rfl) (qe (s_lopN (⟨_, ?_, _, rfl, _, q2 + 1, nd3.set ((L.getD z.toNat default).l.getD q2 0).toNat true, (packS (x := 53) (packS (x := 52) (packS (x := 51) (packS (x := 5) (packS (x := 4) (packS (x := 3) (packS (x := 2) (pack1 (x := 0) rfl) rfl) rfl) rfl) rfl) rfl) rfl) rfl), rfl, hX96, (by omega), ((List.length_set ..).trans hl3), (by rw [hr2]; exact needAll_next (by omega)), ho92, hb97, hlv98, ha88, ha89⟩))))
 omega
 refine wp_exit (s_thenE (s_lopE (s_blkE (s_blkN (s_then (c_reg ?_))))))
 refine qd rfl rfl rfl (r_move (v := (.int .i64 z)) rfl) (qd rfl rfl rfl (r_sub rfl rfl (by omega)) (qd rfl rfl rfl (r_assign (v := (.int .i64 (z - 1))) rfl) (qe (s_lopN (⟨_, ?_, _, rfl, _, z - 1, nd3, (packS (x := 5) (packS (x := 4) (packS (x := 3) (packS (x := 2) (pack1 (x := 0) rfl) rfl) rfl) rfl) rfl), rfl, hX84, (by omega), hl3, (by rw [needZ_step (by omega) (by omega), ← hnd, need_yes h42, hr2, needAll_all (by omega), hr1, needAll_all (by omega)]), hw85, hw86, hlv87, ha88, ha89⟩)))))
 omega
 refine wp_skip (s_blkN (s_then (c_reg ?_)))
 refine qd rfl rfl rfl (r_move (v := (.int .i64 z)) rfl) (qd rfl rfl rfl (r_sub rfl rfl (by omega)) (qd rfl rfl rfl (r_assign (v := (.int .i64 (z - 1))) rfl) (qe (s_lopN (⟨_, ?_, _, rfl, _, z - 1, nd, (packS (x := 5) (packS (x := 4) (packS (x := 3) (packS (x := 2) (pack1 (x := 0) rfl) rfl) rfl) rfl) rfl), rfl, hX35, (by omega), hndl, (by rw [needZ_step (by omega) (by omega), ← hnd, need_no h42]), hw36, hw37, hlv38, ha39, ha40⟩)))))
 omega
 refine wp_exit (s_thenE (s_lopE (s_blkE (s_then (s_seq (c_reg ?_))))))
 refine qd rfl rfl rfl (r_move (v := p) rfl) (qd rfl rfl rfl (run_len Try.underlying26 (v := p) rfl hp) (q1 rfl rfl rfl (o_make (E := eInt) 0 8 (.int .i64 0) Try.underlying47 mk3 (fun _ => rfl) rfl rfl hX35.pins (by omega) (by omega) (by omega) (fun u99 w100 ho101 hp102 hl103 hk104 => ?_))))
 have hX105 := hX35.step hp102 hl103
 have ho106 := hw36.below hl103
 have hb107 := hw37.below hl103
 have hlv108 := (hlv38.below hl103).top
 have ha109 : Apart u99.ownBlock u11.ownBlock := new_ne_own hk104 hw36.lt
 have ha110 : Apart u99.ownBlock (some b1) := new_ne_box hk104 hw37.lt
 have ha111 : ApL [] u99.ownBlock := ApL.fresh hlv38 (fun k hk => by rw [hk104] at hk; cases hk; exact Nat.le_refl _)
 have ho112 : Own eInt 3 G w100 w.heap.size u99 (List.replicate L.length 0) := ho101.weaken hX35.size
 have hm113 : (List.replicate L.length 0).length = L.length := List.length_replicate ..
 refine qd rfl rfl rfl (r_assign (v := u99) rfl) (qe (s_then (s_seq (c_reg ?_))))
 refine qd rfl rfl rfl (r_build [(.slice none 0 0)] [(.slice none 0 0)] [] Try.underlying28 zr28 rfl pl28 rfl (fun _ h => by cases h) rfl) (q1 rfl rfl rfl (o_alloc [(.slice none 0 0)] zr28 rfl hX105.pins (fun b114 w115 hk116 hb117 hp118 hl119 => ?_)))
 have hX120 := hX105.step hp118 hl119
 have ho121 := ho106.below hl119
 have ho122 := ho112.below hl119
 have hb123 := hb107.below hl119
 have hlv124 := (hlv108.below hl119).top
 have ha125 : Apart (some b114) u11.ownBlock := new_ne_own (congrArg some hk116) ho106.lt
 have ha126 : Apart (some b114) u99.ownBlock := new_ne_own (congrArg some hk116) ho112.lt
 have ha127 : Apart (some b114) (some b1) := new_ne_box (congrArg some hk116) hb107.lt
 have ha128 : ApL [] (some b114) := ApL.fresh hlv108 (fun k hk => by rw [(congrArg some hk116)] at hk; cases hk; exact Nat.le_refl _)
 have hlo129 : w.heap.size ≤ b114 := by have := hX105.size; omega
 refine q0 rfl rfl rfl (o_stp (cs' := [(.slice none 0 0)]) (us := [(.slice none 0 0)]) (v := (.agg [(.slice none 0 0)].toArray)) sz28 rfl rfl rfl (ones1 (by rfl)) hX120.pins hb117 (Nat.le_of_ble_eq_true rfl) rfl (fun w130 hb131 hp132 hg133 hz134 => ?_))
 have hX135 := hX120.write hp132 hg133 ((lo_box hlo129))
 have ho136 := ho121.keptA hg133 ha125.symm
 have ho137 := ho122.keptA hg133 ha126.symm
 have hb138 := hb123.keptA hg133 ha127.symm
 have hlv139 := (hlv124.kept hg133 ha128).top
 refine qe (s_then (s_seq (s_seq (c_reg ?_))))
 refine qd rfl rfl rfl (r_move (v := p) rfl) (qd rfl rfl rfl (run_len Try.underlying26 (v := p) rfl hp) (qd rfl rfl rfl (r_move (v := (.int .i64 0)) rfl) (qe (s_then ?_))))
 refine s_blk (s_loop (fun (k : Nat) (en : Nat → Value) (W : World) => ∃ (env1 : Nat → Value) (kc : Nat) (nms : List Int) (nv : Value) (ps : List C4) (os : List Cl) (LV : List Leaf) (GL4 : Pin), en = (upd (upd (upd (upd (upd (upd (upd (upd env1 2 (.pointer (some ⟨b1, 0, none⟩))) 3 (.bool false)) 4 u11) 10 u99) 11 (.pointer (some ⟨b114, 0, none⟩))) 65 p) 66 (.int .i64 (L.length : Int))) 67 (.int .i64 (kc : Int))) ∧ k = L.length - kc ∧ Ext noS G w GL4 W ∧ Pin.le G GL4 ∧ (kc ≤ L.length) ∧ (nms.length = L.length) ∧ (cutN L nd kc = (nms, os)) ∧ (ps.length = os.length) ∧ (ps.map ab4 = os.map prC) ∧ (LV = lvC ps os) ∧ (Own eInt 3 GL4 W w.heap.size u99 (nms)) ∧ (Own eCl4 49 GL4 W w.heap.size nv (ps)) ∧ (Own eBool 4 GL4 W w.heap.size u11 (nd)) ∧ (Bx GL4 W b1 [(.slice none 0 0)]) ∧ (Bx GL4 W b114 [nv]) ∧ (Apart u99.ownBlock nv.ownBlock) ∧ (Apart nv.ownBlock u11.ownBlock) ∧ (Apart nv.ownBlock (some b1)) ∧ (Apart nv.ownBlock (some b114)) ∧ (Lvs 3 GL4 W w.heap.size W.heap.size LV) ∧ (ApL LV u99.ownBlock) ∧ (ApL LV nv.ownBlock) ∧ (ApL LV u11.ownBlock) ∧ (ApL LV (some b1)) ∧ (ApL LV (some b114))) _ ⟨_, 0, List.replicate L.length 0, (.slice none 0 0), [], [], [], G, (packS (x := 67) (packS (x := 66) (packS (x := 65) (packS (x := 11) (packS (x := 10) (packS (x := 4) (packS (x := 3) (pack1 (x := 2) rfl) rfl) rfl) rfl) rfl) rfl) rfl) rfl), rfl, hX135, Pin.le_refl _, Nat.zero_le _, (by simp), rfl, rfl, rfl, rfl, ho137, (Own.nil _ _ _ _ _), ho136, hb138, hb131, apart_none.symm, apart_none, apart_none, apart_none, hlv139, ha111, (fun _ _ => apart_none.symm), ha39, ha40, ha128⟩ ?_)
 rintro k140 _ w141 ⟨env1, kc, nms, nv, ps, os, LV, GL4, rfl, hk142, hX143, hlek140, hk, hat, hc, hpl, hab, hLV, hw144, hw145, hw146, hw147, hw148, ha149, ha150, ha151, ha152, hlv153, ha154, ha155, ha156, ha157, ha158⟩
 have hcl := (cut_length L nd kc).2
 rw [hc] at hcl
 have hcl2 : os.length ≤ kc := hcl
 refine s_seq (c_reg ?_)
 refine qd rfl rfl rfl (r_lss rfl rfl) (qe (s_then (s_seq ?_)))
 refine c_ifd (p := ((kc : Int) : Int) < (L.length : Int)) rfl rfl (fun h159 => ?_) (fun h159 => ?_)
 have hlk := hL.ln kc (by omega)
 refine wp_skip (s_then (s_seq ?_))
 refine s_blk (s_seq (c_reg ?_))
 refine qd rfl rfl rfl (r_move (v := (.int .i64 (kc : Int))) rfl) (qd rfl rfl rfl (run_idx Try.underlying26 sz49 (v := p) rfl rfl hp (by omega) (by omega)) ?_)
 obtain ⟨cs160, hrep161, hagg162, hcell163⟩ := nm_el (j := kc) default (hp.at (z := (kc : Int)) (by omega) (by omega)) rfl
 obtain ⟨u164, u166, rfl, hr165, hr167⟩ := hrep161
 have hm168 := hr165.max
 have hm169 := hr167.max
 refine qd rfl rfl rfl (hagg162 ag49 sz49 rfl (Pins.of_le hX143.pins hlek140)) (q1 rfl rfl rfl (o_alloc [(.int .i64 0), (.int .i64 0), (.slice none 0 0), (.slice none 0 0)] zr49 rfl hX143.pins (fun b170 w171 hk172 hb173 hp174 hl175 => ?_)))
 have hX176 := hX143.step hp174 hl175
 have ho177 := hw144.below hl175
 have ho178 := hw145.below hl175
 have ho179 := hw146.below hl175
 have hb180 := hw147.below hl175
 have hb181 := hw148.below hl175
 have hlv182 := (hlv153.below hl175).top
 have ha183 : Apart (some b170) u99.ownBlock := new_ne_own (congrArg some hk172) hw144.lt
 have ha184 : Apart (some b170) nv.ownBlock := new_ne_own (congrArg some hk172) hw145.lt
 have ha185 : Apart (some b170) u11.ownBlock := new_ne_own (congrArg some hk172) hw146.lt
 have ha186 : Apart (some b170) (some b1) := new_ne_box (congrArg some hk172) hw147.lt
 have ha187 : Apart (some b170) (some b114) := new_ne_box (congrArg some hk172) hw148.lt
 have ha188 : ApL LV (some b170) := ApL.fresh hlv153 (fun k hk => by rw [(congrArg some hk172)] at hk; cases hk; exact Nat.le_refl _)
 have hlo189 : w.heap.size ≤ b170 := by have := hX143.size; omega
 refine qd rfl rfl rfl (r_assign (v := (.int .i64 (kc : Int))) rfl) (q0 rfl rfl rfl (o_stp (cs' := [(.int .i64 ((L.getD kc default).a)), (.int .i64 ((L.getD kc default).b)), u164, u166]) (us := [(.int .i64 ((L.getD kc default).a)), (.int .i64 ((L.getD kc default).b)), u164, u166]) (v := (.agg [(.int .i64 ((L.getD kc default).a)), (.int .i64 ((L.getD kc default).b)), u164, u166].toArray)) sz49 rfl rfl rfl (ones4 (by rfl) (by rfl) hr165.one hr167.one) hX176.pins hb173 (Nat.le_of_ble_eq_true rfl) rfl (fun w190 hb191 hp192 hg193 hz194 => ?_)))
 have hX195 := hX176.write hp192 hg193 ((lo_box hlo189))
 have ho196 := ho177.keptA hg193 ha183.symm
 have ho197 := ho178.keptA hg193 ha184.symm
 have ho198 := ho179.keptA hg193 ha185.symm
 have hb199 := hb180.keptA hg193 ha186.symm
 have hb200 := hb181.keptA hg193 ha187.symm
 have hlv201 := (hlv182.kept hg193 ha188).top
 obtain ⟨G202, hle203, hX204, hbp205, hf206⟩ := hb191.shut hX195 hlo189
 have ho207 := ho196.moreA hle203 hf206 ha183.symm
 have ho208 := ho197.moreA hle203 hf206 ha184.symm
 have ho209 := ho198.moreA hle203 hf206 ha185.symm
 have hb210 := hb199.moreA hf206 ha186.symm
 have hb211 := hb200.moreA hf206 ha187.symm
 have hlv212 := hlv201.more hle203 hf206 ha188
 refine qe (s_then (s_seq (c_reg ?_)))
 refine qd rfl rfl rfl (r_move (v := u11) rfl) (qd rfl rfl rfl (r_move (v := (.int .i64 (kc : Int))) rfl) (qd rfl rfl rfl (run_idx Try.underlying71 sz4 (v := u11) rfl rfl ho209.read (by omega) (by omega)) (qd rfl rfl rfl (run_load_bool (r := nd.getD kc false) rfl ag4 (z := (kc : Int)) rfl ho209.read (Gadd.pins hX204.pins u11) (by omega) (by omega)) (qe (s_then ?_)))))
 refine c_if rfl rfl (fun h213 => ?_) (fun h213 => ?_)
 refine s_seq (c_reg ?_)
 refine qd rfl rfl rfl (r_move (v := u99) rfl) (qd rfl rfl rfl (r_move (v := (.int .i64 (kc : Int))) rfl) (qd rfl rfl rfl (r_fldp (k := 0) rfl Try.underlying28 rfl nz26 rfl) (qd rfl rfl rfl (r_ldp1 (u := nv) ag26 rfl (hb211.cell (o := 0) rfl)) (qd rfl rfl rfl (run_len Try.underlying26 (v := nv) rfl ho208.read) (qd rfl rfl rfl (run_idx Try.underlying47 sz3 (v := u99) rfl rfl ho207.read (by omega) (by omega)) (q0 rfl rfl rfl (o_set (E := eInt) (v := u99) (u := (.int .i64 (ps.length : Int))) (z := (kc : Int)) ((ps.length : Int)) sz3 rfl rfl rfl rfl hX204.pins ho207 (by omega) (by omega) (fun w214 ho215 hp216 hg217 hz218 => ?_))))))))
 have hX219 := hX204.write hp216 hg217 ((lo_own ho207))
 have ho220 := ho208.keptA hg217 ha149.symm
 have ho221 := ho209.keptA hg217 ha109.symm
 have hb222 := hb210.keptA hg217 ha110.symm
 have hb223 := hb211.keptA hg217 ha126
 have hlv224 := (hlv212.kept hg217 ha154).top
 refine qe (s_then ?_)
 refine c_draw (S := fun wz => BxR wz b114 [nv] ∧ Pins G202 wz) (last := 18) (by kernel_rfl) rfl ?_
 have hl225 : Below w214.heap.size w214 w214.drew := (Below.refl _ _).drew
 have hp226 := hX219.pins.below hl225
 have hX227 := hX219.step hp226 hl225
 have ho228 := ho215.below hl225
 have ho229 := ho220.below hl225
 have ho230 := ho221.below hl225
 have hb231 := hb222.below hl225
 have hb232 := hb223.below hl225
 have hlv233 := (hlv224.below hl225).top
 refine dr_take (i := 0) rfl rfl rfl (want_none rfl _) (by kernel_rfl) (fun _ _ => r_fldp (k := 0) rfl Try.underlying28 rfl nz26 rfl) ⟨hb232.reads, hX227.pins⟩ (dr_take (i := 1) rfl rfl rfl (want_none rfl _) (by kernel_rfl) (fun _ hS => r_ldp1 (u := nv) ag26 rfl (hS.1 0 _ rfl)) ⟨hb232.reads, hX227.pins⟩ (dr_take (i := 2) rfl rfl rfl (want_none rfl _) (by kernel_rfl) (fun _ _ => r_fldp (k := 0) rfl Try.underlying49 rfl nz3 rfl) ⟨hb232.reads, hX227.pins⟩ (dr_take (i := 3) rfl rfl rfl (want_none rfl _) (by kernel_rfl) (fun _ hS => r_ldp1 (u := (.int .i64 ((L.getD kc default).a))) ag3 rfl (hS.2 _ _ _ (hbp205 0 _ rfl))) ⟨hb232.reads, hX227.pins⟩ (dr_take (i := 4) rfl rfl rfl (want_none rfl _) (by kernel_rfl) (fun _ _ => r_fldp (k := 1) rfl Try.underlying49 rfl nz3 rfl) ⟨hb232.reads, hX227.pins⟩ (dr_take (i := 5) rfl rfl rfl (want_none rfl _) (by kernel_rfl) (fun _ hS => r_ldp1 (u := (.int .i64 ((L.getD kc default).b))) ag3 rfl (hS.2 _ _ _ (hbp205 1 _ rfl))) ⟨hb232.reads, hX227.pins⟩ (dr_take (i := 6) rfl rfl rfl (want_none rfl _) (by kernel_rfl) (fun _ _ => r_fldp (k := 2) rfl Try.underlying49 rfl nz47 rfl) ⟨hb232.reads, hX227.pins⟩ (dr_take (i := 7) rfl rfl rfl (want_none rfl _) (by kernel_rfl) (fun _ hS => r_ldp1 (u := u164) ag47 rfl (hS.2 _ _ _ (hbp205 2 _ rfl))) ⟨hb232.reads, hX227.pins⟩ (dr_take (i := 8) rfl rfl rfl (want_none rfl _) (by kernel_rfl) (fun _ _ => r_move (v := u99) rfl) ⟨hb232.reads, hX227.pins⟩ (dr_take (i := 10) rfl rfl rfl (want_none rfl _) (by kernel_rfl) (fun _ _ => r_fldp (k := 3) rfl Try.underlying49 rfl nz47 rfl) ⟨hb232.reads, hX227.pins⟩ (dr_take (i := 11) rfl rfl rfl (want_none rfl _) (by kernel_rfl) (fun _ hS => r_ldp1 (u := u166) ag47 rfl (hS.2 _ _ _ (hbp205 3 _ rfl))) ⟨hb232.reads, hX227.pins⟩ (dr_take (i := 12) rfl rfl rfl (want_none rfl _) (by kernel_rfl) (fun _ _ => r_move (v := u99) rfl) ⟨hb232.reads, hX227.pins⟩ (dr_one (i := 9) (by kernel_rfl) (drOp1 (i := 9) rfl rfl rfl (want_none rfl _) (o_call (vs := [u164, u99]) Try.func49 nm49 rfl rfl rfl ?_))))))))))))))
 refine Calls.mono (renamed_spec (Gadd.pins hX227.pins u99) ((hr165.mono (Pin.le_trans hlek140 hle203)).mono (Gadd.le _ _ _)) ho228.read (by omega) (fun i hi => by have h := hL.r (j := kc) (by omega) hi; rw [List.length_set]; omega)) ?_
 rintro _ w236 ⟨u234, G235, rfl, ho237, hx238⟩
 refine ⟨_, rfl, ?_⟩
 have hx239 := deep_back hX227.pins hx238
 have ho240 := ho237.anti flat_int (Pin.le_trans (Gadd.le G202 w214.drew u99) hx238.le)
 have hX241 := hX227.step hx239.pins hx239.below
 have ho242 := ho228.below hx239.below
 have ho243 := ho229.below hx239.below
 have ho244 := ho230.below hx239.below
 have hb245 := hb231.below hx239.below
 have hb246 := hb232.below hx239.below
 have hlv247 := (hlv233.below hx239.below).top
 have ha248 : Apart u234.ownBlock u99.ownBlock := made_ne_own ho240.lt ho228.lt
 have ha249 : Apart u234.ownBlock nv.ownBlock := made_ne_own ho240.lt ho229.lt
 have ha250 : Apart u234.ownBlock u11.ownBlock := made_ne_own ho240.lt ho230.lt
 have ha251 : Apart u234.ownBlock (some b1) := made_ne_box ho240.lt hb231.lt
 have ha252 : Apart u234.ownBlock (some b114) := made_ne_box ho240.lt hb232.lt
 have ha253 : ApL LV u234.ownBlock := ApL.fresh hlv233 (fun k hk => (ho240.lt k hk).1)
 have ho254 : Own eInt 3 G202 w236 w.heap.size u234 (atL ((nms).set kc (ps.length : Int)) ((L.getD kc default).r)) := ho240.weaken hX227.size
 have hm255 : (atL ((nms).set kc (ps.length : Int)) ((L.getD kc default).r)).length = ((L.getD kc default).r).length := at_length
 refine ⟨fun _ => ⟨hb246.reads, hX241.pins⟩, ?_⟩
 refine dr_one (i := 13) (by kernel_rfl) (drOp1 (i := 13) rfl rfl rfl (want_none rfl _) (o_call (vs := [u166, u99]) Try.func49 nm49 rfl rfl rfl ?_))
 refine Calls.mono (renamed_spec (Gadd.pins hX241.pins u99) ((hr167.mono (Pin.le_trans hlek140 hle203)).mono (Gadd.le _ _ _)) ho242.read (by omega) (fun i hi => by have h := hL.l (j := kc) (by omega) hi; rw [List.length_set]; omega)) ?_
 rintro _ w258 ⟨u256, G257, rfl, ho259, hx260⟩
 refine ⟨_, rfl, ?_⟩
 have hx261 := deep_back hX241.pins hx260
 have ho262 := ho259.anti flat_int (Pin.le_trans (Gadd.le G202 w236 u99) hx260.le)
 have hX263 := hX241.step hx261.pins hx261.below
 have ho264 := ho242.below hx261.below
 have ho265 := ho243.below hx261.below
 have ho266 := ho244.below hx261.below
 have ho267 := ho254.below hx261.below
 have hb268 := hb245.below hx261.below
 have hb269 := hb246.below hx261.below
 have hlv270 := (hlv247.below hx261.below).top
 have ha271 : Apart u256.ownBlock u99.ownBlock := made_ne_own ho262.lt ho242.lt
 have ha272 : Apart u256.ownBlock nv.ownBlock := made_ne_own ho262.lt ho243.lt
 have ha273 : Apart u256.ownBlock u11.ownBlock := made_ne_own ho262.lt ho244.lt
 have ha274 : Apart u256.ownBlock u234.ownBlock := made_ne_own ho262.lt ho254.lt
 have ha275 : Apart u256.ownBlock (some b1) := made_ne_box ho262.lt hb245.lt
 have ha276 : Apart u256.ownBlock (some b114) := made_ne_box ho262.lt hb246.lt
 have ha277 : ApL LV u256.ownBlock := ApL.fresh hlv247 (fun k hk => (ho262.lt k hk).1)
 have ho278 : Own eInt 3 G202 w258 w.heap.size u256 (atL ((nms).set kc (ps.length : Int)) ((L.getD kc default).l)) := ho262.weaken hX241.size
 have hm279 : (atL ((nms).set kc (ps.length : Int)) ((L.getD kc default).l)).length = ((L.getD kc default).l).length := at_length
 refine ⟨fun _ => ⟨hb269.reads, hX263.pins⟩, ?_⟩
 refine dr_take (i := 14) rfl rfl rfl (want_none rfl _) (by kernel_rfl) (fun _ _ => r_build [(.int .i64 0), (.int .i64 0), (.slice none 0 0), (.slice none 0 0)] [(.int .i64 ((L.getD kc default).a)), (.int .i64 ((L.getD kc default).b)), u234, u256] [(0, (.int .i64 ((L.getD kc default).a)), [(.int .i64 ((L.getD kc default).a))]), (1, (.int .i64 ((L.getD kc default).b)), [(.int .i64 ((L.getD kc default).b))]), (2, u234, [u234]), (3, u256, [u256])] Try.underlying49 zr49 rfl pl49 rfl (List.forall_mem_cons.2 ⟨rfl, (List.forall_mem_cons.2 ⟨rfl, (List.forall_mem_cons.2 ⟨(cells_one ho267.one), (List.forall_mem_cons.2 ⟨(cells_one ho278.one), (fun _ h => by cases h)⟩)⟩)⟩)⟩) rfl) ⟨hb269.reads, hX263.pins⟩ (dr_one (i := 15) (by kernel_rfl) (drOp1 (i := 15) rfl rfl rfl (want_none rfl _) (o_build1 (E := eCl4) (e := 49) [(.int .i64 ((L.getD kc default).a)), (.int .i64 ((L.getD kc default).b)), u234, u256] (((L.getD kc default).a, (L.getD kc default).b, u234, u256) : C4) Try.underlying26 sz49 zr49 ⟨rfl, ho267.one, ho278.one⟩ rfl (by decide) hX263.pins (fun u280 w281 ho282 hp283 hl284 hk285 => ?_))))
 have hX286 := hX263.step hp283 hl284
 have ho287 := ho264.below hl284
 have ho288 := ho265.below hl284
 have ho289 := ho266.below hl284
 have ho290 := ho267.below hl284
 have ho291 := ho278.below hl284
 have hb292 := hb268.below hl284
 have hb293 := hb269.below hl284
 have hlv294 := (hlv270.below hl284).top
 have ho303 : Own eCl4 49 G202 w281 w.heap.size u280 ([(((L.getD kc default).a, (L.getD kc default).b, u234, u256) : C4)]) := ho282.weaken hX263.size
 refine ⟨fun _ => ⟨hb293.reads, hX286.pins⟩, ?_⟩
 refine dr_one (i := 16) (by kernel_rfl) (drOp1 (i := 16) rfl rfl rfl (want_none rfl _) (o_append (E := eCl4) (v := nv) (u := u280) 64 Try.underlying26 ap49 (by decide) rfl rfl hX286.pins ho288 ho303.src (by first | omega | (rw [List.nil_append]; omega) | (rw [List.length_nil]; omega) | (rw [List.length_append]; omega) | (simp; done) | (simp; omega) | (simp only [List.length_append, List.length_cons, List.length_nil]; omega)) (by first | omega | (rw [List.nil_append]; omega) | (rw [List.length_nil]; omega) | (rw [List.length_append]; omega) | (simp; done) | (simp; omega) | (simp only [List.length_append, List.length_cons, List.length_nil]; omega)) (hX286.size) (fun u304 w305 ho306 hp307 hg308 hw309 => ?_)))
 have hX310 := hX286.write hp307 hg308 ((lo_own ho288))
 have ho311 := ho287.keptA hg308 ha149
 have ho312 := ho289.keptA hg308 ha150.symm
 have ho313 := ho290.keptA hg308 ha249
 have ho314 := ho291.keptA hg308 ha272
 have hb316 := hb292.keptA hg308 ha151.symm
 have hb317 := hb293.keptA hg308 ha152.symm
 have hlv318 := (hlv294.kept hg308 ha155).top
 have ha319 : Apart u99.ownBlock u304.ownBlock := app_ne_own ha149 hw309 ho287.lt
 have ha320 : Apart u11.ownBlock u304.ownBlock := app_ne_own ha150.symm hw309 ho289.lt
 have ha321 : Apart u234.ownBlock u304.ownBlock := app_ne_own ha249 hw309 ho290.lt
 have ha322 : Apart u256.ownBlock u304.ownBlock := app_ne_own ha272 hw309 ho291.lt
 have ha324 : Apart (some b1) u304.ownBlock := app_ne_box ha151.symm hw309 hb292.lt
 have ha325 : Apart (some b114) u304.ownBlock := app_ne_box ha152.symm hw309 hb293.lt
 have ha326 : ApL LV u304.ownBlock := ApL.app hlv294 ha155 hw309
 have hm327 : (ps ++ ([(((L.getD kc default).a, (L.getD kc default).b, u234, u256) : C4)])).length = ps.length + 1 := List.length_append
 refine ⟨fun _ => ⟨hb317.reads, hX310.pins⟩, ?_⟩
 refine dr_take (i := 17) rfl rfl rfl (want_none rfl _) (by kernel_rfl) (fun _ _ => r_fldp (k := 0) rfl Try.underlying28 rfl nz26 rfl) ⟨hb317.reads, hX310.pins⟩ (dr_one (i := 18) (by kernel_rfl) (drOp0 (i := 18) rfl rfl rfl (want_none rfl _) (o_stp (cs' := [u304]) (us := [u304]) (v := u304) sz26 rfl rfl (cells1 ho306.one) (ones1 ho306.one) hX310.pins hb317 (Nat.le_of_ble_eq_true rfl) rfl (fun w328 hb329 hp330 hg331 hz332 => ?_))))
 have hX333 := hX310.write hp330 hg331 ((lo_box hlo129))
 have ho334 := ho311.keptA hg331 ha126.symm
 have ho335 := ho312.keptA hg331 ha125.symm
 have ho336 := ho313.keptA hg331 ha252
 have ho337 := ho314.keptA hg331 ha276
 have ho338 := ho306.keptA hg331 ha325.symm
 have hb339 := hb316.keptA hg331 ha127.symm
 have hlv340 := (hlv318.kept hg331 ha158).top
 refine ⟨fun h => absurd rfl h, ?_⟩
 refine dr_end (by kernel_rfl) (s_blkN (s_then (c_reg ?_)))
 refine qd rfl rfl rfl (r_add rfl rfl (by omega)) (qd rfl rfl rfl (r_move (v := (.int .i64 ((kc : Int) + 1))) rfl) (qe (s_lopN ?_)))
 have hlv341 := hlv340.add ho336 ha253
 have ha342 : ApL (LV ++ [(u234, atL ((nms).set kc (ps.length : Int)) ((L.getD kc default).r))]) u99.ownBlock := ha154.add ha248
 have ha343 : ApL (LV ++ [(u234, atL ((nms).set kc (ps.length : Int)) ((L.getD kc default).r))]) u11.ownBlock := ha156.add ha250
 have ha344 : ApL (LV ++ [(u234, atL ((nms).set kc (ps.length : Int)) ((L.getD kc default).r))]) u256.ownBlock := ha277.add ha274.symm
 have ha345 : ApL (LV ++ [(u234, atL ((nms).set kc (ps.length : Int)) ((L.getD kc default).r))]) u304.ownBlock := ha326.add ha321
 have ha346 : ApL (LV ++ [(u234, atL ((nms).set kc (ps.length : Int)) ((L.getD kc default).r))]) (some b1) := ha157.add ha251
 have ha347 : ApL (LV ++ [(u234, atL ((nms).set kc (ps.length : Int)) ((L.getD kc default).r))]) (some b114) := ha158.add ha252
 have hlv348 := hlv341.add ho337 ha344
 have ha349 : ApL ((LV ++ [(u234, atL ((nms).set kc (ps.length : Int)) ((L.getD kc default).r))]) ++ [(u256, atL ((nms).set kc (ps.length : Int)) ((L.getD kc default).l))]) u99.ownBlock := ha342.add ha271
 have ha350 : ApL ((LV ++ [(u234, atL ((nms).set kc (ps.length : Int)) ((L.getD kc default).r))]) ++ [(u256, atL ((nms).set kc (ps.length : Int)) ((L.getD kc default).l))]) u11.ownBlock := ha343.add ha273
 have ha351 : ApL ((LV ++ [(u234, atL ((nms).set kc (ps.length : Int)) ((L.getD kc default).r))]) ++ [(u256, atL ((nms).set kc (ps.length : Int)) ((L.getD kc default).l))]) u304.ownBlock := ha345.add ha322
 have ha352 : ApL ((LV ++ [(u234, atL ((nms).set kc (ps.length : Int)) ((L.getD kc default).r))]) ++ [(u256, atL ((nms).set kc (ps.length : Int)) ((L.getD kc default).l))]) (some b1) := ha346.add ha275
 have ha353 : ApL ((LV ++ [(u234, atL ((nms).set kc (ps.length : Int)) ((L.getD kc default).r))]) ++ [(u256, atL ((nms).set kc (ps.length : Int)) ((L.getD kc default).l))]) (some b114) := ha347.add ha276
 refine ⟨_, ?_, _, rfl, _, kc + 1, (nms).set kc (ps.length : Int), u304, ps ++ ([(((L.getD kc default).a, (L.getD kc default).b, u234, u256) : C4)]), os ++ [(⟨(L.getD kc default).a, (L.getD kc default).b, atL ((nms).set kc (ps.length : Int)) ((L.getD kc default).r), atL ((nms).set kc (ps.length : Int)) ((L.getD kc default).l)⟩ : Cl)], (LV ++ [(u234, atL ((nms).set kc (ps.length : Int)) ((L.getD kc default).r))]) ++ [(u256, atL ((nms).set kc (ps.length : Int)) ((L.getD kc default).l))], G202, (packS (x := 67) (packS (x := 66) (packS (x := 65) (packS (x := 11) (packS (x := 10) (packS (x := 4) (packS (x := 3) (pack1 (x := 2) rfl) rfl) rfl) rfl) rfl) rfl) rfl) rfl), rfl, hX333, (Pin.le_trans hlek140 hle203), (by omega), ((List.length_set ..).trans hat), ((cut_yes hc h213).trans (by rw [hpl])), (by simp [hpl]), (ab_snoc (c := (⟨(L.getD kc default).a, (L.getD kc default).b, atL ((nms).set kc (ps.length : Int)) ((L.getD kc default).r), atL ((nms).set kc (ps.length : Int)) ((L.getD kc default).l)⟩ : Cl)) hab rfl), (lvC_snoc (c := (⟨(L.getD kc default).a, (L.getD kc default).b, atL ((nms).set kc (ps.length : Int)) ((L.getD kc default).r), atL ((nms).set kc (ps.length : Int)) ((L.getD kc default).l)⟩ : Cl)) hLV hpl), ho334, ho338, ho335, hb339, hb329, ha319, ha320.symm, ha324.symm, ha325.symm, hlv348, ha349, ha351, ha350, ha352, ha353⟩
 omega
 refine wp_skip (s_blkN (s_then (c_reg ?_)))
 refine qd rfl rfl rfl (r_add rfl rfl (by omega)) (qd rfl rfl rfl (r_move (v := (.int .i64 ((kc : Int) + 1))) rfl) (qe (s_lopN (⟨_, ?_, _, rfl, _, kc + 1, nms, nv, ps, os, LV, G202, (packS (x := 67) (packS (x := 66) (packS (x := 65) (packS (x := 11) (packS (x := 10) (packS (x := 4) (packS (x := 3) (pack1 (x := 2) rfl) rfl) rfl) rfl) rfl) rfl) rfl) rfl), rfl, hX204, (Pin.le_trans hlek140 hle203), (by omega), hat, (cut_no hc h213), hpl, hab, hLV, ho207, ho208, ho209, hb210, hb211, ha149, ha150, ha151, ha152, hlv212, ha154, ha155, ha156, ha157, ha158⟩))))
 omega
 refine wp_exit (s_thenE (s_lopE (s_blkE (s_then (s_seq (s_seq (c_reg ?_)))))))
 refine qd rfl rfl rfl (r_fldp (k := 0) rfl Try.underlying28 rfl nz26 rfl) (qd rfl rfl rfl (r_ldp1 (u := nv) ag26 rfl (hw148.cell (o := 0) rfl)) (qd rfl rfl rfl (run_len Try.underlying26 (v := nv) rfl hw145.read) (qd rfl rfl rfl (r_gtr rfl rfl) (qe (s_then ?_)))))
 refine c_ifd (p := (200 : Int) < (ps.length : Int)) rfl rfl (fun h354 => ?_) (fun h354 => ?_)
 refine s_seq (c_reg ?_)
 refine qd rfl rfl rfl (r_build [(.slice none 0 0)] [(.slice none 0 0)] [] Try.underlying28 zr28 rfl pl28 rfl (fun _ h => by cases h) rfl) (q0 rfl rfl rfl (o_stp (cs' := [(.slice none 0 0)]) (us := [(.slice none 0 0)]) (v := (.agg [(.slice none 0 0)].toArray)) sz28 rfl rfl rfl (ones1 (by rfl)) hX143.pins hw147 (Nat.le_of_ble_eq_true rfl) rfl (fun w355 hb356 hp357 hg358 hz359 => ?_)))
 have hX360 := hX143.write hp357 hg358 ((lo_box hlo10))
 refine qd rfl rfl rfl (r_assign (v := (.bool false)) rfl) (qe (s_then ?_))
 refine wp_ret (s_ret (c_retct (cs := [(.slice none 0 0)]) (v := (.bool false)) rfl rfl rfl rfl rfl ag28 sz28 (fun j u hj => by rw [Nat.zero_add]; exact hb356.cell hj) ?_))
 have hkn : kc = L.length := by omega
 rw [hkn, hnd, needZ_end (show z = -1 by omega)] at hc
 have hcut : cutL L = os := by unfold cutL; rw [hc]
 have hpb : prnB L = false := by unfold prnB; rw [hcut]; exact decide_eq_false (by omega)
 have hpq : prnL L = [] := by unfold prnL; rw [hpb]; rfl
 rw [hpb, hpq]
 exact ⟨_, _, rfl, DPrf.nil, hX360⟩
 refine wp_skip (s_then (s_seq (c_reg ?_)))
 refine qd rfl rfl rfl (r_ldpA (cs := [nv]) ag28 sz28 rfl (fun j u hj => hw148.cell (by simpa using hj))) (q0 rfl rfl rfl (o_stp (cs' := [nv]) (us := [nv]) (v := (.agg [nv].toArray)) sz28 rfl rfl rfl (ones1 hw145.one) hX143.pins hw147 (Nat.le_of_ble_eq_true rfl) rfl (fun w366 hb367 hp368 hg369 hz370 => ?_)))
 have hX371 := hX143.write hp368 hg369 ((lo_box hlo10))
 have ho373 := hw145.keptA hg369 ha151
 have hlv376 := (hlv153.kept hg369 ha157).top
 refine qd rfl rfl rfl (r_assign (v := (.bool true)) rfl) (qe (s_then ?_))
 refine wp_ret (s_ret (c_retct (cs := [nv]) (v := (.bool true)) rfl rfl rfl rfl rfl ag28 sz28 (fun j u hj => by rw [Nat.zero_add]; exact hb367.cell hj) ?_))
 have hkn : kc = L.length := by omega
 rw [hkn, hnd, needZ_end (show z = -1 by omega)] at hc
 have hcut : cutL L = os := by unfold cutL; rw [hc]
 have hap := ha155
 have hlv := hlv376
 rw [hLV] at hap hlv
 have hpb : prnB L = true := by unfold prnB; rw [hcut]; exact decide_eq_true (by omega)
 have hpq : prnL L = os := by unfold prnL; rw [hpb, hcut]; rfl
 rw [hpb, hpq]
 exact ⟨_, _, rfl, ⟨ps, hpl, hab, ho373, fun k hk => (ho373.lt k hk).2, hlv, hap⟩, hX371⟩

end PF5
end Go.Proofs.Ytdleojbknkbpiaa

set_option maxRecDepth 20000
set_option maxHeartbeats 2000000
namespace Go.Proofs.Ytdleojbknkbpiaa
namespace PF6
open Go.RowKit Go.GL Go.Proofs
open B1 P1 PF1 PF5









theorem pl28 : (Try.prog.underlying 28).bind (placesD Try.prog) = some [(0, 1)] := by kernel_rfl







theorem iProofFor_dspec {w : World} {G : Pin} {u v : Value} {ns bs : List Nd} (hP : Pins G w) (hu : RSl eNode G u ns) (hv : RSl eNode G v bs) :
  Calls Try.prog 7 [(.agg [u].toArray), (.agg [v].toArray)].toArray w fun e w' => ∃ (u : Value) (G' : Pin), e = .returned (.tuple #[.agg [u].toArray, .bool (prfB ns bs)]) ∧ DPrf 49 3 G' w' w.heap.size w'.heap.size u (prfL ns bs) ∧ Ext noS G w G' w' := by
 refine s_enter (n := 68) Try.func7 Try.ntmps7 rfl rfl ?_
 have hX0 : Ext noS G w G w := Ext.refl hP
 have hmu := hu.max
 have hmv := hv.max
 refine s_seq (c_reg ?_)
 refine q1 rfl rfl rfl (o_box [u] (v := (.agg [u].toArray)) rfl rfl hX0.pins (fun b1 w2 hk3 hb4 hp5 hl6 => ?_))
 have hX7 := hX0.step hp5 hl6
 have hlo8 : w.heap.size ≤ b1 := by have := hX0.size; omega
 obtain ⟨G9, hle10, hX11, hbp12, hf13⟩ := hb4.shut hX7 hlo8
 refine q1 rfl rfl rfl (o_box [v] (v := (.agg [v].toArray)) rfl rfl hX11.pins (fun b14 w15 hk16 hb17 hp18 hl19 => ?_))
 have hX20 := hX11.step hp18 hl19
 have hlo21 : w.heap.size ≤ b14 := by have := hX11.size; omega
 obtain ⟨G22, hle23, hX24, hbp25, hf26⟩ := hb17.shut hX20 hlo21
 refine q1 rfl rfl rfl (o_alloc [(.slice none 0 0)] zr28 rfl hX24.pins (fun b27 w28 hk29 hb30 hp31 hl32 => ?_))
 have hX33 := hX24.step hp31 hl32
 have hlo34 : w.heap.size ≤ b27 := by have := hX24.size; omega
 refine qd rfl rfl rfl (r_assign (v := (.bool false)) rfl) (qe (s_then (s_seq (s_seq (c_reg ?_)))))
 refine qd rfl rfl rfl (r_ldpA (cs := [u]) ag33 sz33 rfl (fun j u hj => (Pins.of_le hX33.pins hle23) _ _ _ (hbp12 _ _ (by simpa using hj)))) (q1 rfl rfl rfl (o_call (vs := [(.agg [u].toArray)]) Try.func19 nm19 rfl rfl rfl ?_))
 refine Calls.mono (goodForm_spec hX33.pins (hu.mono (Pin.le_trans hle10 hle23))) ?_
 rintro _ w36 ⟨G35, rfl, hx37⟩
 refine ⟨_, rfl, ?_⟩
 have hX38 := hX33.tr hx37
 have hb39 := hb30.ext hx37
 refine qd rfl rfl rfl (r_not rfl) (qd rfl rfl rfl (r_move (v := (.bool (!(goodB ns)))) rfl) (qbn (t := 16) rfl (fun h40 => ?_) (fun h40 => ?_)))
 refine qdg rfl rfl rfl rfl rfl rfl (r_ldpA (cs := [v]) ag33 sz33 rfl (fun j u hj => (Pins.of_le hX38.pins hx37.le) _ _ _ (hbp25 _ _ (by simpa using hj)))) (q1g rfl rfl rfl rfl rfl rfl (o_call (vs := [(.agg [v].toArray)]) Try.func19 nm19 rfl rfl rfl ?_))
 refine Calls.mono (goodForm_spec hX38.pins (hv.mono (Pin.le_trans (Pin.le_trans hle10 hle23) hx37.le))) ?_
 rintro _ w42 ⟨G41, rfl, hx43⟩
 refine ⟨_, rfl, ?_⟩
 have hX44 := hX38.tr hx43
 have hb45 := hb39.ext hx43
 refine qdg rfl rfl rfl rfl rfl rfl (r_not rfl) (qd rfl rfl rfl (r_pickF (v := (.bool (!(goodB bs)))) rfl rfl) (qe (s_then ?_)))
 refine c_ifn rfl rfl (fun h46 => ?_) (fun h46 => ?_)
 refine wp_skip (s_then (s_seq (c_reg ?_)))
 have hga : GoodP ns := goodB_true.1 h40
 have hgb : GoodP bs := goodB_true.1 h46
 have hla := hga.lo
 have hlb := hgb.lo
 have hha := hga.hi
 have hhb := hgb.hi
 refine q1 rfl rfl rfl (o_makeMap encP2 (fun v : Int => Value.int .i64 v) hX44.pins (fun m47 w48 hk49 hm50 hp51 hl52 => ?_))
 have hX53 := hX44.step hp51 hl52
 have hb54 := hb45.below hl52
 have hlo55 : w.heap.size ≤ m47 := by have := hX44.size; omega
 refine qd rfl rfl rfl (r_assign (v := (.map (some m47))) rfl) (qe (s_then (s_seq (c_reg ?_))))
 refine q1 rfl rfl rfl (o_build0 (E := eClaim) (e := 49) Try.underlying26 sz49 hX53.pins (fun u56 w57 ho58 hp59 hl60 hk61 => ?_))
 have hX62 := hX53.step hp59 hl60
 have hb63 := hb54.below hl60
 have hm64 := hm50.below hl60
 have ha65 : Apart u56.ownBlock (some b27) := new_ne_box hk61 hb54.lt
 have ho66 : Own eClaim 49 G41 w57 w.heap.size u56 ([]) := ho58.weaken hX53.size
 refine qd rfl rfl rfl (r_assign (v := u56) rfl) (qe (s_then (s_seq (c_reg ?_))))
 refine qd rfl rfl rfl (r_assign (v := (.bool false)) rfl) (qe (s_then (s_seq (s_seq (c_reg ?_)))))
 refine qd rfl rfl rfl (r_fldp (k := 0) rfl Try.underlying33 rfl nz31 rfl) (qd rfl rfl rfl (r_ldp1 (u := u) ag31 rfl ((Pins.of_le hX62.pins (Pin.le_trans (Pin.le_trans hle23 hx37.le) hx43.le)) _ _ _ (hbp12 0 _ rfl))) (qd rfl rfl rfl (run_len Try.underlying31 (v := u) rfl hu) (qd rfl rfl rfl (r_move (v := (.int .i64 0)) rfl) (qe (s_then ?_)))))
 refine s_blk (s_loop (fun (k : Nat) (en : Nat → Value) (W : World) => ∃ (env1 : Nat → Value) (i : Nat) (M1 : List ((Int × Int) × Int)) (av : Value) (os : List Cl) (pv : Bool) (GL1 : Pin), en = (upd (upd (upd (upd (upd (upd (upd (upd (upd env1 2 (.pointer (some ⟨b1, 0, none⟩))) 3 (.pointer (some ⟨b14, 0, none⟩))) 4 (.pointer (some ⟨b27, 0, none⟩))) 5 (.bool false)) 6 (.map (some m47))) 7 av) 8 (.bool pv)) 26 (.int .i64 (ns.length : Int))) 27 (.int .i64 (i : Int))) ∧ k = ns.length - i ∧ Ext noS G w GL1 W ∧ Pin.le G41 GL1 ∧ (i ≤ ns.length) ∧ (os = rowL ns bs i) ∧ (MapOk os M1) ∧ (1 ≤ i → pv = trC ns bs (i - 1) (bs.length - 1)) ∧ (Own eClaim 49 GL1 W w.heap.size av (os)) ∧ (Bx GL1 W b27 [(.slice none 0 0)]) ∧ (Apart av.ownBlock (some b27)) ∧ (Mp encP2 (fun v : Int => Value.int .i64 v) W m47 (M1))) _ ⟨_, 0, [], u56, [], false, G41, (packS (x := 27) (packS (x := 26) (packS (x := 8) (packS (x := 7) (packS (x := 6) (packS (x := 5) (packS (x := 4) (packS (x := 3) (pack1 (x := 2) rfl) rfl) rfl) rfl) rfl) rfl) rfl) rfl) rfl), rfl, hX62, Pin.le_refl _, Nat.zero_le _, rfl, MapOk.nil, (fun h => absurd h (by omega)), ho66, hb63, ha65, hm64⟩ ?_)
 rintro k67 _ w68 ⟨env1, i, M1, av, os, pv, GL1, rfl, hk69, hX70, hlek67, hi, hos, hM1, hpv, hw71, hw72, ha73, hm74⟩
 refine s_seq (c_reg ?_)
 refine qd rfl rfl rfl (r_lss rfl rfl) (qe (s_then (s_seq ?_)))
 refine c_ifd (p := ((i : Int) : Int) < (ns.length : Int)) rfl rfl (fun h75 => ?_) (fun h75 => ?_)
 refine wp_skip (s_then (s_seq ?_))
 refine s_blk (s_seq (c_reg ?_))
 refine qd rfl rfl rfl (r_move (v := (.int .i64 (i : Int))) rfl) (qd rfl rfl rfl (r_assign (v := (.int .i64 (i : Int))) rfl) (qe (s_then (s_seq (c_reg ?_)))))
 refine qd rfl rfl rfl (r_fldp (k := 0) rfl Try.underlying33 rfl nz31 rfl) (qd rfl rfl rfl (r_ldp1 (u := v) ag31 rfl ((Pins.of_le hX70.pins (Pin.le_trans (Pin.le_trans hx37.le hx43.le) hlek67)) _ _ _ (hbp25 0 _ rfl))) (qd rfl rfl rfl (run_len Try.underlying31 (v := v) rfl hv) (qd rfl rfl rfl (r_move (v := (.int .i64 0)) rfl) (qe (s_then ?_)))))
 refine s_blk (s_loop (fun (k : Nat) (en : Nat → Value) (W : World) => ∃ (env1 : Nat → Value) (j : Nat) (M2 : List ((Int × Int) × Int)) (av2 : Value) (os2 : List Cl) (pv2 : Bool) (GL2 : Pin), en = (upd (upd (upd (upd (upd (upd (upd (upd (upd (upd (upd (upd env1 2 (.pointer (some ⟨b1, 0, none⟩))) 3 (.pointer (some ⟨b14, 0, none⟩))) 4 (.pointer (some ⟨b27, 0, none⟩))) 5 (.bool false)) 6 (.map (some m47))) 7 av2) 8 (.bool pv2)) 9 (.int .i64 (i : Int))) 26 (.int .i64 (ns.length : Int))) 27 (.int .i64 (i : Int))) 32 (.int .i64 (bs.length : Int))) 33 (.int .i64 (j : Int))) ∧ k = bs.length - j ∧ Ext noS G w GL2 W ∧ Pin.le GL1 GL2 ∧ (j ≤ bs.length) ∧ (os2 = colL ns bs (rowL ns bs i) i j) ∧ (MapOk os2 M2) ∧ (1 ≤ j → pv2 = trC ns bs i (j - 1)) ∧ (Own eClaim 49 GL2 W w.heap.size av2 (os2)) ∧ (Bx GL2 W b27 [(.slice none 0 0)]) ∧ (Apart av2.ownBlock (some b27)) ∧ (Mp encP2 (fun v : Int => Value.int .i64 v) W m47 (M2))) _ ⟨_, 0, M1, av, os, pv, GL1, (packS (x := 33) (packS (x := 32) (packS (x := 27) (packS (x := 26) (packS (x := 9) (packS (x := 8) (packS (x := 7) (packS (x := 6) (packS (x := 5) (packS (x := 4) (packS (x := 3) (pack1 (x := 2) rfl) rfl) rfl) rfl) rfl) rfl) rfl) rfl) rfl) rfl) rfl) rfl), rfl, hX70, Pin.le_refl _, Nat.zero_le _, hos, hM1, (fun h => absurd h (by omega)), hw71, hw72, ha73, hm74⟩ ?_)
 rintro k76 _ w77 ⟨env1, j, M2, av2, os2, pv2, GL2, rfl, hk78, hX79, hlek76, hj, hos2, hM2, hpv2, hw80, hw81, ha82, hm83⟩
 refine s_seq (c_reg ?_)
 refine qd rfl rfl rfl (r_lss rfl rfl) (qe (s_then (s_seq ?_)))
 refine c_ifd (p := ((j : Int) : Int) < (bs.length : Int)) rfl rfl (fun h84 => ?_) (fun h84 => ?_)
 have hT := trueAt hga.optsOk hgb.optsOk (x := i) (k := j) (by omega) (by omega)
 have hcb := col_bound hga.hi hgb.hi (x := i) (k := j) (by omega) (by omega)
 rw [← hos2] at hT hcb
 refine wp_skip (s_then (s_seq ?_))
 refine s_blk (s_seq (c_reg ?_))
 refine qd rfl rfl rfl (r_move (v := (.int .i64 (j : Int))) rfl) (qd rfl rfl rfl (r_assign (v := (.int .i64 (j : Int))) rfl) (qe (s_then (s_seq (c_reg ?_)))))
 refine qd rfl rfl rfl (r_move (v := (.map (some m47))) rfl) (qd rfl rfl rfl (r_fldp (k := 0) rfl Try.underlying33 rfl nz31 rfl) (qd rfl rfl rfl (r_ldp1 (u := u) ag31 rfl ((Pins.of_le hX79.pins (Pin.le_trans (Pin.le_trans (Pin.le_trans (Pin.le_trans hle23 hx37.le) hx43.le) hlek67) hlek76)) _ _ _ (hbp12 0 _ rfl))) (qd rfl rfl rfl (r_fldp (k := 0) rfl Try.underlying33 rfl nz31 rfl) (qd rfl rfl rfl (r_ldp1 (u := v) ag31 rfl ((Pins.of_le hX79.pins (Pin.le_trans (Pin.le_trans (Pin.le_trans hx37.le hx43.le) hlek67) hlek76)) _ _ _ (hbp25 0 _ rfl))) (qd rfl rfl rfl (r_move (v := (.int .i64 (i : Int))) rfl) (qd rfl rfl rfl (r_move (v := (.int .i64 (j : Int))) rfl) (q1 rfl rfl rfl (o_call (vs := [(.map (some m47)), u, v, (.int .i64 (i : Int)), (.int .i64 (j : Int))]) Try.func20 nm20 rfl rfl rfl ?_))))))))
 refine Calls.mono (justified_spec hX79.pins hm83 hM2 (hu.mono (Pin.le_trans (Pin.le_trans (Pin.le_trans (Pin.le_trans (Pin.le_trans hle10 hle23) hx37.le) hx43.le) hlek67) hlek76)) (hv.mono (Pin.le_trans (Pin.le_trans (Pin.le_trans (Pin.le_trans (Pin.le_trans hle10 hle23) hx37.le) hx43.le) hlek67) hlek76)) hga hgb (by omega) (by omega)) ?_
 rintro _ w88 ⟨r85, l86, G87, rfl, hr89, hr90, hx91⟩
 refine ⟨_, rfl, ?_⟩
 have hX92 := hX79.tr hx91
 have ho93 := hw80.ext hx91
 have hb94 := hw81.ext hx91
 have hm95 := hm83.below hx91.below
 refine qd rfl rfl rfl (r_move (v := (.tuple #[(.agg [(.int .i64 ((jstC ns bs os2 i j).a)), (.int .i64 ((jstC ns bs os2 i j).b)), r85, l86].toArray), (.bool (jstB ns bs os2 i j))])) rfl) (qd rfl rfl rfl (r_extract (v := (.agg [(.int .i64 ((jstC ns bs os2 i j).a)), (.int .i64 ((jstC ns bs os2 i j).b)), r85, l86].toArray)) rfl rfl) (qd rfl rfl rfl (r_extract (v := (.bool (jstB ns bs os2 i j))) rfl rfl) (q1 rfl rfl rfl (o_alloc [(.int .i64 0), (.int .i64 0), (.slice none 0 0), (.slice none 0 0)] zr49 rfl hX92.pins (fun b96 w97 hk98 hb99 hp100 hl101 => ?_)))))
 have hX102 := hX92.step hp100 hl101
 have ho103 := ho93.below hl101
 have hb104 := hb94.below hl101
 have hm105 := hm95.below hl101
 have ha106 : Apart (some b96) av2.ownBlock := new_ne_own (congrArg some hk98) ho93.lt
 have ha107 : Apart (some b96) (some b27) := new_ne_box (congrArg some hk98) hb94.lt
 have hlo108 : w.heap.size ≤ b96 := by have := hX92.size; omega
 refine q0 rfl rfl rfl (o_stp (cs' := [(.int .i64 ((jstC ns bs os2 i j).a)), (.int .i64 ((jstC ns bs os2 i j).b)), r85, l86]) (us := [(.int .i64 ((jstC ns bs os2 i j).a)), (.int .i64 ((jstC ns bs os2 i j).b)), r85, l86]) (v := (.agg [(.int .i64 ((jstC ns bs os2 i j).a)), (.int .i64 ((jstC ns bs os2 i j).b)), r85, l86].toArray)) sz49 rfl rfl rfl (ones4 (by rfl) (by rfl) hr89.one hr90.one) hX102.pins hb99 (Nat.le_of_ble_eq_true rfl) rfl (fun w109 hb110 hp111 hg112 hz113 => ?_))
 have hX114 := hX102.write hp111 hg112 ((lo_box hlo108))
 have ho115 := ho103.keptA hg112 ha106.symm
 have hb116 := hb104.keptA hg112 ha107.symm
 have hm117 := hm105.kept hg112 (map_ne_box hm105 hb99)
 obtain ⟨G118, hle119, hX120, hbp121, hf122⟩ := hb110.shut hX114 hlo108
 have ho123 := ho115.moreA hle119 hf122 ha106.symm
 have hb124 := hb116.moreA hf122 ha107.symm
 refine qd rfl rfl rfl (r_assign (v := (.bool (jstB ns bs os2 i j))) rfl) (qe (s_then (s_seq (s_seq (c_reg ?_)))))
 refine qd rfl rfl rfl (r_move (v := (.bool (jstB ns bs os2 i j))) rfl) (qe (s_then ?_))
 refine c_if rfl rfl (fun h125 => ?_) (fun h125 => ?_)
 refine s_seq (c_reg ?_)
 refine qd rfl rfl rfl (r_move (v := (.map (some m47))) rfl) (qd rfl rfl rfl (r_move (v := (.int .i64 (i : Int))) rfl) (qd rfl rfl rfl (r_move (v := (.int .i64 (j : Int))) rfl) (qd rfl rfl rfl (r_buildA (m := 1) [(.int .i64 0), (.int .i64 0)] [(.int .i64 (i : Int)), (.int .i64 (j : Int))] [(0, (.int .i64 (i : Int)), [(.int .i64 (i : Int))]), (1, (.int .i64 (j : Int)), [(.int .i64 (j : Int))])] Try.underlying52 zr52 rfl sz3 rfl (List.forall_mem_cons.2 ⟨rfl, (List.forall_mem_cons.2 ⟨rfl, (fun _ h => by cases h)⟩)⟩) rfl) (qd rfl rfl rfl (r_move (v := av2) rfl) (qd rfl rfl rfl (run_len Try.underlying26 (v := av2) rfl ho123.read) (q0 rfl rfl rfl (o_mapUpdate (val := (fun v : Int => Value.int .i64 v)) (k := (((i : Int), (j : Int)) : Int × Int)) (v := (os2.length : Int)) (key_pair Try.underlying52 Try.underlying3 sz3) Try.underlying46 rfl rfl rfl hX120.pins hm117 (fun w126 hm127 hp128 hg129 hz130 => ?_))))))))
 have hX131 := hX120.write hp128 hg129 ((lo_box hlo55))
 have ho132 := ho123.keptA hg129 (map_ne_own hm117 ho123).symm
 have hb133 := hb124.keptA hg129 (map_ne_box hm117 hb124).symm
 refine qe (s_then (c_reg ?_))
 refine qd rfl rfl rfl (r_move (v := av2) rfl) (qd rfl rfl rfl (r_ldpA (cs := [(.int .i64 ((jstC ns bs os2 i j).a)), (.int .i64 ((jstC ns bs os2 i j).b)), r85, l86]) ag49 sz49 rfl (fun j u hj => hX131.pins _ _ _ (hbp121 _ _ (by simpa using hj)))) (q1 rfl rfl rfl (o_build1 (E := eClaim) (e := 49) [(.int .i64 ((jstC ns bs os2 i j).a)), (.int .i64 ((jstC ns bs os2 i j).b)), r85, l86] (⟨(jstC ns bs os2 i j).a, (jstC ns bs os2 i j).b, (jstC ns bs os2 i j).r, (jstC ns bs os2 i j).l⟩ : Cl) Try.underlying26 sz49 zr49 ⟨_, _, rfl, (hr89.mono hle119), (hr90.mono hle119)⟩ rfl (by decide) hX131.pins (fun u134 w135 ho136 hp137 hl138 hk139 => ?_))))
 have hX140 := hX131.step hp137 hl138
 have ho141 := ho132.below hl138
 have hb142 := hb133.below hl138
 have hm143 := hm127.below hl138
 have ho146 : Own eClaim 49 G118 w135 w.heap.size u134 ([(⟨(jstC ns bs os2 i j).a, (jstC ns bs os2 i j).b, (jstC ns bs os2 i j).r, (jstC ns bs os2 i j).l⟩ : Cl)]) := ho136.weaken hX131.size
 refine q1 rfl rfl rfl (o_append (E := eClaim) (v := av2) (u := u134) 64 Try.underlying26 ap49 (by decide) rfl rfl hX140.pins ho141 ho146.src (by first | omega | (rw [List.nil_append]; omega) | (rw [List.length_nil]; omega) | (rw [List.length_append]; omega) | (simp; done) | (simp; omega) | (simp only [List.length_append, List.length_cons, List.length_nil]; omega)) (by first | omega | (rw [List.nil_append]; omega) | (rw [List.length_nil]; omega) | (rw [List.length_append]; omega) | (simp; done) | (simp; omega) | (simp only [List.length_append, List.length_cons, List.length_nil]; omega)) (hX140.size) (fun u147 w148 ho149 hp150 hg151 hw152 => ?_))
 have hX153 := hX140.write hp150 hg151 ((lo_own ho141))
 have hb155 := hb142.keptA hg151 ha82.symm
 have hm156 := hm143.kept hg151 (map_ne_own hm143 ho141)
 have ha158 : Apart (some b27) u147.ownBlock := app_ne_box ha82.symm hw152 hb142.lt
 have hm159 : (os2 ++ ([(⟨(jstC ns bs os2 i j).a, (jstC ns bs os2 i j).b, (jstC ns bs os2 i j).r, (jstC ns bs os2 i j).l⟩ : Cl)])).length = os2.length + 1 := List.length_append
 refine qd rfl rfl rfl (r_assign (v := u147) rfl) (qe (s_then (c_reg ?_)))
 refine qd rfl rfl rfl (r_move (v := (.bool (jstB ns bs os2 i j))) rfl) (qd rfl rfl rfl (r_assign (v := (.bool (jstB ns bs os2 i j))) rfl) (qe (s_blkN (s_then (c_reg ?_)))))
 refine qd rfl rfl rfl (r_add rfl rfl (by omega)) (qd rfl rfl rfl (r_move (v := (.int .i64 ((j : Int) + 1))) rfl) (qe (s_lopN ?_)))
 have hyy := hT.yes hga.optsOk hgb.optsOk (by omega) (by omega) hM2 h125
 refine ⟨_, ?_, _, rfl, _, j + 1, putE M2 (((i : Int), (j : Int)) : Int × Int) (os2.length : Int), u147, os2 ++ ([(⟨(jstC ns bs os2 i j).a, (jstC ns bs os2 i j).b, (jstC ns bs os2 i j).r, (jstC ns bs os2 i j).l⟩ : Cl)]), jstB ns bs os2 i j, G118, (packS (x := 33) (packS (x := 32) (packS (x := 27) (packS (x := 26) (packS (x := 9) (packS (x := 8) (packS (x := 7) (packS (x := 6) (packS (x := 5) (packS (x := 4) (packS (x := 3) (pack1 (x := 2) rfl) rfl) rfl) rfl) rfl) rfl) rfl) rfl) rfl) rfl) rfl) rfl), rfl, hX153, (Pin.le_trans (Pin.le_trans hlek76 hx91.le) hle119), (by omega), (hyy.2.1.trans (by rw [hos2]; rfl)), hyy.1, (fun _ => by rw [Nat.add_sub_cancel]; exact h125.trans hyy.2.2.symm), ho149, hb155, ha158.symm, hm156⟩
 omega
 refine wp_skip (s_then (c_reg ?_))
 refine qd rfl rfl rfl (r_move (v := (.bool (jstB ns bs os2 i j))) rfl) (qd rfl rfl rfl (r_assign (v := (.bool (jstB ns bs os2 i j))) rfl) (qe (s_blkN (s_then (c_reg ?_)))))
 refine qd rfl rfl rfl (r_add rfl rfl (by omega)) (qd rfl rfl rfl (r_move (v := (.int .i64 ((j : Int) + 1))) rfl) (qe (s_lopN ?_)))
 have hnn := hT.stepN hga.optsOk hgb.optsOk (by omega) (by omega) h125
 refine ⟨_, ?_, _, rfl, _, j + 1, M2, av2, os2, jstB ns bs os2 i j, G118, (packS (x := 33) (packS (x := 32) (packS (x := 27) (packS (x := 26) (packS (x := 9) (packS (x := 8) (packS (x := 7) (packS (x := 6) (packS (x := 5) (packS (x := 4) (packS (x := 3) (pack1 (x := 2) rfl) rfl) rfl) rfl) rfl) rfl) rfl) rfl) rfl) rfl) rfl) rfl), rfl, hX120, (Pin.le_trans (Pin.le_trans hlek76 hx91.le) hle119), (by omega), (hnn.1.trans (by rw [hos2]; rfl)), hM2, (fun _ => by rw [Nat.add_sub_cancel]; exact h125.trans hnn.2.symm), ho123, hb124, ha82, hm117⟩
 omega
 refine wp_exit (s_thenE (s_lopE (s_blkE (s_blkN (s_then (c_reg ?_))))))
 refine qd rfl rfl rfl (r_add rfl rfl (by omega)) (qd rfl rfl rfl (r_move (v := (.int .i64 ((i : Int) + 1))) rfl) (qe (s_lopN ?_)))
 have hjn : j = bs.length := by omega
 rw [hjn] at hos2 hpv2
 refine ⟨_, ?_, _, rfl, _, i + 1, M2, av2, os2, pv2, GL2, (packS (x := 27) (packS (x := 26) (packS (x := 8) (packS (x := 7) (packS (x := 6) (packS (x := 5) (packS (x := 4) (packS (x := 3) (pack1 (x := 2) rfl) rfl) rfl) rfl) rfl) rfl) rfl) rfl) rfl), rfl, hX79, (Pin.le_trans hlek67 hlek76), (by omega), hos2, hM2, (fun _ => by rw [Nat.add_sub_cancel]; exact hpv2 hlb), hw80, hw81, ha82, hm83⟩
 omega
 refine wp_exit (s_thenE (s_lopE (s_blkE (s_then (s_seq (s_seq (c_reg ?_)))))))
 have hin : i = ns.length := by omega
 rw [hin] at hos hpv
 have hpv9 := hpv hla
 refine qd rfl rfl rfl (r_move (v := (.bool pv)) rfl) (qd rfl rfl rfl (r_not rfl) (qe (s_then ?_)))
 refine c_ifn rfl rfl (fun h160 => ?_) (fun h160 => ?_)
 refine wp_skip (s_then (s_seq (c_reg ?_)))
 have hge : geG (gOf ns) (gOf bs) := decP_true.1 (hpv9.symm.trans h160)
 have hLok : LOk os := by rw [hos]; exact full_ok hga hgb hge
 refine qd rfl rfl rfl (r_move (v := av) rfl) ?_
 obtain ⟨G166, hle169, hX168, hr167, hf170⟩ := hw71.sealed hX70
 have hb171 := hw72.moreO hf170 ha73.symm
 refine q1 rfl rfl rfl (o_call (vs := [av]) Try.func21 nm21 rfl rfl rfl ?_)
 refine Calls.mono (pruned_dspec hX168.pins hr167 hLok) ?_
 rintro _ w163 ⟨u161, G162, rfl, hd164, hx165⟩
 refine ⟨_, rfl, ?_⟩
 have hX172 := hX168.tr hx165
 have hb173 := hb171.ext hx165
 have hone175 := hd164.one
 refine qd rfl rfl rfl (r_extract (v := (.agg [u161].toArray)) rfl rfl) (qd rfl rfl rfl (r_extract (v := (.bool (prnB os))) rfl rfl) (q0 rfl rfl rfl (o_stp (cs' := [u161]) (us := [u161]) (v := (.agg [u161].toArray)) sz28 rfl rfl rfl (ones1 hone175) hX172.pins hb173 (Nat.le_of_ble_eq_true rfl) rfl (fun w176 hb177 hp178 hg179 hz180 => ?_))))
 have hX181 := hX172.write hp178 hg179 ((lo_box hlo34))
 have hd182 := hd164.kept hg179 (Or.inr hb171.lt)
 have hs183 := Nat.le_trans (Nat.le_refl w163.heap.size) hg179.size
 refine qd rfl rfl rfl (r_assign (v := (.bool (prnB os))) rfl) (qe (s_then ?_))
 refine wp_ret (s_ret (c_retct (cs := [u161]) (v := (.bool (prnB os))) rfl rfl rfl rfl rfl ag28 sz28 (fun j u hj => by rw [Nat.zero_add]; exact hb177.cell hj) ?_))
 obtain ⟨e1, e2⟩ := prf_prn hga hgb hge
 rw [show fullL ns bs = os from hos.symm] at e1 e2
 rw [e1, e2]
 exact ⟨_, _, rfl, (hd182.wide hX168.size hs183), hX181⟩
 refine s_seq (c_reg ?_)
 refine qd rfl rfl rfl (r_build [(.slice none 0 0)] [(.slice none 0 0)] [] Try.underlying28 zr28 rfl pl28 rfl (fun _ h => by cases h) rfl) (q0 rfl rfl rfl (o_stp (cs' := [(.slice none 0 0)]) (us := [(.slice none 0 0)]) (v := (.agg [(.slice none 0 0)].toArray)) sz28 rfl rfl rfl (ones1 (by rfl)) hX70.pins hw72 (Nat.le_of_ble_eq_true rfl) rfl (fun w185 hb186 hp187 hg188 hz189 => ?_)))
 have hX190 := hX70.write hp187 hg188 ((lo_box hlo34))
 refine qd rfl rfl rfl (r_assign (v := (.bool false)) rfl) (qe (s_then ?_))
 refine wp_ret (s_ret (c_retct (cs := [(.slice none 0 0)]) (v := (.bool false)) rfl rfl rfl rfl rfl ag28 sz28 (fun j u hj => by rw [Nat.zero_add]; exact hb186.cell hj) ?_))
 obtain ⟨e1, e2⟩ := @prf_no ns bs (fun g => decP_false.1 (hpv9.symm.trans h160) g.ge)
 rw [e1, e2]
 exact ⟨_, _, rfl, DPrf.nil, hX190⟩
 refine s_seq (c_reg ?_)
 refine qd rfl rfl rfl (r_build [(.slice none 0 0)] [(.slice none 0 0)] [] Try.underlying28 zr28 rfl pl28 rfl (fun _ h => by cases h) rfl) (q0 rfl rfl rfl (o_stp (cs' := [(.slice none 0 0)]) (us := [(.slice none 0 0)]) (v := (.agg [(.slice none 0 0)].toArray)) sz28 rfl rfl rfl (ones1 (by rfl)) hX44.pins hb45 (Nat.le_of_ble_eq_true rfl) rfl (fun w193 hb194 hp195 hg196 hz197 => ?_)))
 have hX198 := hX44.write hp195 hg196 ((lo_box hlo34))
 refine qd rfl rfl rfl (r_assign (v := (.bool false)) rfl) (qe (s_then ?_))
 refine wp_ret (s_ret (c_retct (cs := [(.slice none 0 0)]) (v := (.bool false)) rfl rfl rfl rfl rfl ag28 sz28 (fun j u hj => by rw [Nat.zero_add]; exact hb194.cell hj) ?_))
 obtain ⟨e1, e2⟩ := @prf_no ns bs (fun g => goodB_false.1 h46 g.gb)
 rw [e1, e2]
 exact ⟨_, _, rfl, DPrf.nil, hX198⟩
 refine qs rfl rfl rfl rfl rfl rfl (qs rfl rfl rfl rfl rfl rfl (qs rfl rfl rfl rfl rfl rfl (qd rfl rfl rfl (r_pickT (v := (.bool true)) rfl rfl) (qe (s_then ?_)))))
 refine c_ifT rfl rfl (s_seq (c_reg ?_))
 refine qd rfl rfl rfl (r_build [(.slice none 0 0)] [(.slice none 0 0)] [] Try.underlying28 zr28 rfl pl28 rfl (fun _ h => by cases h) rfl) (q0 rfl rfl rfl (o_stp (cs' := [(.slice none 0 0)]) (us := [(.slice none 0 0)]) (v := (.agg [(.slice none 0 0)].toArray)) sz28 rfl rfl rfl (ones1 (by rfl)) hX38.pins hb39 (Nat.le_of_ble_eq_true rfl) rfl (fun w199 hb200 hp201 hg202 hz203 => ?_)))
 have hX204 := hX38.write hp201 hg202 ((lo_box hlo34))
 refine qd rfl rfl rfl (r_assign (v := (.bool false)) rfl) (qe (s_then ?_))
 refine wp_ret (s_ret (c_retct (cs := [(.slice none 0 0)]) (v := (.bool false)) rfl rfl rfl rfl rfl ag28 sz28 (fun j u hj => by rw [Nat.zero_add]; exact hb200.cell hj) ?_))
 obtain ⟨e1, e2⟩ := @prf_no ns bs (fun g => goodB_false.1 h40 g.ga)
 rw [e1, e2]
 exact ⟨_, _, rfl, DPrf.nil, hX204⟩

end PF6
end Go.Proofs.Ytdleojbknkbpiaa

set_option maxRecDepth 20000
set_option maxHeartbeats 2000000
namespace Go.Proofs.Ytdleojbknkbpiaa
namespace LP1
open Go.RowKit Go.GL Go.Proofs
open B1 G1












theorem markClaimX_spec {w : World} {G : Pin} {v : Value} {ps : List C4} {cs : List Cl} {kz : Int} {lo hi : Nat} (hP : Pins G w) (ho : Own eCl4 49 G w 0 v ps) (hpl : ps.length = cs.length) (hav : ∀ u ∈ leafV (ps.map vv4), Apart u.ownBlock v.ownBlock) (hF : Lvs 3 G w lo hi (lvC ps cs)) (hsm : SmC cs) (hk : 0 ≤ kz ∧ kz ≤ 1099511627776) :
  Calls Try.prog 25 [v, (.int .i64 kz)].toArray w fun e w' => e = .returned (.int .i64 (kz + totC cs)) ∧ (∃ ys : List C4, ys.length = cs.length ∧ ys.map vv4 = ps.map vv4 ∧ ys.map ab4 = (markC kz cs).map prC ∧ Own eCl4 49 G w' 0 v ys) ∧ Lvs 3 G w' lo hi (lvC ps (markC kz cs)) ∧ Ext (inV (v :: leafV (ps.map vv4))) G w G w' := by
 refine s_enter (n := 41) Try.func25 Try.ntmps25 rfl rfl ?_
 have hX0 : Ext (inV (v :: leafV (ps.map vv4))) G w G w := Ext.refl hP
 have hlo0 : Lo w (inV (v :: leafV (ps.map vv4))) v.ownBlock := fun k hk => Or.inr ⟨v, List.mem_cons_self, hk⟩
 have hln := hsm.len
 refine s_seq (c_reg ?_)
 refine qd rfl rfl rfl (r_assign (v := (.int .i64 0)) rfl) (qe (s_then (s_seq (s_seq (c_reg ?_)))))
 refine qd rfl rfl rfl (r_assign (v := (.int .i64 0)) rfl) (qe (s_then ?_))
 refine s_blk (s_loop (fun (k : Nat) (en : Nat → Value) (W : World) => ∃ (env1 : Nat → Value) (j : Nat) (q : Int) (A : List Leaf) (ys : List C4), en = (upd (upd (upd (upd env1 0 v) 1 (.int .i64 q)) 4 (.int .i64 0)) 5 (.int .i64 (j : Int))) ∧ k = cs.length - j ∧ Ext (inV (v :: leafV (ps.map vv4))) G w G W ∧ (j ≤ cs.length) ∧ (0 ≤ q ∧ q ≤ kz + 50 * (j : Int)) ∧ (kz + totC cs = q + totC (cs.drop j)) ∧ (MkC ps cs kz j q ys A) ∧ (Lvs 3 G W lo hi (A ++ lvN ((ps.map vv4).drop j) ((cs.drop j).map ndC))) ∧ (Own eCl4 49 G W 0 v (ys))) _ ⟨_, 0, kz, [], ps, (packS (x := 5) (packS (x := 4) (packS (x := 1) (pack1 (x := 0) rfl) rfl) rfl) rfl), rfl, hX0, Nat.zero_le _, (by omega), rfl, (MkC.start hpl), hF, ho⟩ ?_)
 rintro k1 _ w2 ⟨env1, j, q, A, ys, rfl, hk3, hX4, hj, hq, hqt, hM, hF1, hw5⟩
 have hyl := hM.len
 refine s_seq (s_seq (c_reg ?_))
 refine qd rfl rfl rfl (r_move (v := (.int .i64 (j : Int))) rfl) (qd rfl rfl rfl (r_move (v := v) rfl) (qd rfl rfl rfl (run_len Try.underlying26 (v := v) rfl hw5.read) (qd rfl rfl rfl (r_lss rfl rfl) (qe (s_then ?_)))))
 refine c_ifd (p := ((j : Int) : Int) < (ys.length : Int)) rfl rfl (fun h6 => ?_) (fun h6 => ?_)
 have hso := hsm.ln j (by omega)
 have hapl := hM.apl hpl hav
 refine wp_skip (s_then (s_seq ?_))
 refine s_blk (s_seq (c_reg ?_))
 refine qd rfl rfl rfl (r_move (v := v) rfl) (qd rfl rfl rfl (r_move (v := (.int .i64 (j : Int))) rfl) (qd rfl rfl rfl (r_move (v := (.int .i64 q)) rfl) (qd rfl rfl rfl (run_idx Try.underlying26 sz49 (v := v) rfl rfl hw5.read (by omega) (by omega)) (qd rfl rfl rfl (run_fld (off := 0) Try.underlying49 rfl rfl nz3 (z := (j : Int)) (k := 0) rfl hw5.read (by omega) (by omega)) (q0 rfl rfl rfl (o_setC (v := v) (z := (j : Int)) (q := q) 0 (by decide) sz3 rfl rfl hX4.pins hw5 (by omega) (by omega) (fun w7 ho8 hp9 hg10 hz11 => ?_)))))))
 have hX12 := hX4.write hp9 hg10 (hlo0)
 have hm13 : (ys.set j (new4 0 q (ys.getD j default))).length = ys.length := List.length_set ..
 have ho14 : Own eCl4 49 G w7 0 v (ys.set j (new4 0 q (ys.getD j default))) := ho8
 have hF15 := hF1.kept hg10 hapl
 refine qe (s_then (s_seq (c_reg ?_)))
 refine qd rfl rfl rfl (r_move (v := (.int .i64 q)) rfl) (qd rfl rfl rfl (r_add rfl rfl (by omega)) (qd rfl rfl rfl (r_assign (v := (.int .i64 (q + 1))) rfl) (qe (s_then (s_seq (c_reg ?_))))))
 refine qd rfl rfl rfl (r_move (v := v) rfl) (qd rfl rfl rfl (r_move (v := (.int .i64 (j : Int))) rfl) (qd rfl rfl rfl (r_move (v := (.int .i64 (q + 1))) rfl) (qd rfl rfl rfl (run_idx Try.underlying26 sz49 (v := v) rfl rfl ho14.read (by omega) (by omega)) (qd rfl rfl rfl (run_fld (off := 1) Try.underlying49 rfl rfl nz3 (z := (j : Int)) (k := 0) rfl ho14.read (by omega) (by omega)) (q0 rfl rfl rfl (o_setC (v := v) (z := (j : Int)) (q := (q + 1)) 1 (by decide) sz3 rfl rfl hX12.pins ho14 (by omega) (by omega) (fun w16 ho17 hp18 hg19 hz20 => ?_)))))))
 have hX21 := hX12.write hp18 hg19 (hlo0)
 have hm22 : ((ys.set j (new4 0 q (ys.getD j default))).set j (new4 1 (q + 1) ((ys.set j (new4 0 q (ys.getD j default))).getD j default))).length = (ys.set j (new4 0 q (ys.getD j default))).length := List.length_set ..
 have ho23 : Own eCl4 49 G w16 0 v ((ys.set j (new4 0 q (ys.getD j default))).set j (new4 1 (q + 1) ((ys.set j (new4 0 q (ys.getD j default))).getD j default))) := ho17
 have hF24 := hF15.kept hg19 hapl
 refine qe (s_then (s_seq (c_reg ?_)))
 refine qd rfl rfl rfl (r_move (v := (.int .i64 (q + 1))) rfl) (qd rfl rfl rfl (r_add rfl rfl (by omega)) (qd rfl rfl rfl (r_assign (v := (.int .i64 ((q + 1) + 1))) rfl) (qe (s_then (s_seq (c_reg ?_))))))
 refine qd rfl rfl rfl (r_move (v := v) rfl) (qd rfl rfl rfl (r_move (v := (.int .i64 (j : Int))) rfl) (qd rfl rfl rfl (run_idx Try.underlying26 sz49 (v := v) rfl rfl ho23.read (by omega) (by omega)) (qd rfl rfl rfl (run_fld (off := 2) Try.underlying49 rfl rfl nz47 (z := (j : Int)) (k := 0) rfl ho23.read (by omega) (by omega)) ?_)))
 obtain ⟨cs25, hrep26, hagg27, hcell28⟩ := nm_el (j := j) default (ho23.at (z := (j : Int)) (by omega) (by omega)) rfl
 obtain ⟨rfl, hone31⟩ := hrep26
 obtain ⟨u29, hu30⟩ : ∃ u, u = (((ys.set j (new4 0 q (ys.getD j default))).set j (new4 1 (q + 1) ((ys.set j (new4 0 q (ys.getD j default))).getD j default))).getD j default).2.2.1 := ⟨_, rfl⟩
 refine qd rfl rfl rfl (hcell28 2 u29 (by rw [hu30]; rfl) ag47 rfl (Gadd.pins hX21.pins v)) (qd rfl rfl rfl (r_move (v := (.int .i64 ((q + 1) + 1))) rfl) ?_)
 have hv38 : u29 = (ps.getD j default).2.2.1 := hu30.trans (congrArg Prod.fst (vv_at (set_vv.trans (set_vv.trans hM.vv)) j))
 have hmem35 : u29 ∈ leafV (ps.map vv4) := by rw [hv38]; exact (vv_mem (by omega)).1
 have hL36 : Lvs 3 G w16 lo hi (A ++ (u29, (cs.getD j default).r) :: (((ps.getD j default).2.2.2, (cs.getD j default).l) :: lvN ((ps.map vv4).drop (j + 1)) ((cs.drop (j + 1)).map ndC))) := by rw [hv38, ← lvC_next (by omega) (by omega)]; exact hF24
 refine q1 rfl rfl rfl (o_call (vs := [u29, (.int .i64 ((q + 1) + 1))]) Try.func52 nm52 rfl rfl rfl ?_)
 refine Calls.mono (markIntS_spec hX21.pins ((hL36.own _ (List.mem_append_right _ List.mem_cons_self)).weaken (Nat.zero_le _)) (by omega) (Nat.le_trans hso.1 (by decide))) ?_
 rintro _ w32 ⟨rfl, ho33, hx34⟩
 refine ⟨_, rfl, ?_⟩
 have hg39 := mark_grown hx34
 have hX40 := hX21.write hx34.pins hg39 (fun k hk => Or.inr ⟨_, List.mem_cons_of_mem _ hmem35, hk⟩)
 have ho41 := ho23.keptA hg39 (hav _ hmem35).symm
 have hL37 := Lvs.step hL36 (ho33.up (fun k hk => ((hL36.own _ (List.mem_append_right _ List.mem_cons_self)).lt k hk).1)) hg39
 refine qd rfl rfl rfl (r_assign (v := (.int .i64 (((q + 1) + 1) + ((cs.getD j default).r.length : Int)))) rfl) (qe (s_then (c_reg ?_)))
 refine qd rfl rfl rfl (r_move (v := v) rfl) (qd rfl rfl rfl (r_move (v := (.int .i64 (j : Int))) rfl) (qd rfl rfl rfl (run_idx Try.underlying26 sz49 (v := v) rfl rfl ho41.read (by omega) (by omega)) (qd rfl rfl rfl (run_fld (off := 3) Try.underlying49 rfl rfl nz47 (z := (j : Int)) (k := 0) rfl ho41.read (by omega) (by omega)) ?_)))
 obtain ⟨cs42, hrep43, hagg44, hcell45⟩ := nm_el (j := j) default (ho41.at (z := (j : Int)) (by omega) (by omega)) rfl
 obtain ⟨rfl, hone48⟩ := hrep43
 obtain ⟨u46, hu47⟩ : ∃ u, u = (((ys.set j (new4 0 q (ys.getD j default))).set j (new4 1 (q + 1) ((ys.set j (new4 0 q (ys.getD j default))).getD j default))).getD j default).2.2.2 := ⟨_, rfl⟩
 refine qd rfl rfl rfl (hcell45 3 u46 (by rw [hu47]; rfl) ag47 rfl (Gadd.pins hX40.pins v)) (qd rfl rfl rfl (r_move (v := (.int .i64 (((q + 1) + 1) + ((cs.getD j default).r.length : Int)))) rfl) ?_)
 have hv55 : u46 = (ps.getD j default).2.2.2 := hu47.trans (congrArg Prod.snd (vv_at (set_vv.trans (set_vv.trans hM.vv)) j))
 have hmem52 : u46 ∈ leafV (ps.map vv4) := by rw [hv55]; exact (vv_mem (by omega)).2
 have hL53 : Lvs 3 G w32 lo hi ((A ++ [(u29, upL ((q + 1) + 1) (cs.getD j default).r.length)]) ++ (u46, (cs.getD j default).l) :: lvN ((ps.map vv4).drop (j + 1)) ((cs.drop (j + 1)).map ndC)) := by rw [hv55, List.append_assoc]; exact hL37
 refine q1 rfl rfl rfl (o_call (vs := [u46, (.int .i64 (((q + 1) + 1) + ((cs.getD j default).r.length : Int)))]) Try.func52 nm52 rfl rfl rfl ?_)
 refine Calls.mono (markIntS_spec hX40.pins ((hL53.own _ (List.mem_append_right _ List.mem_cons_self)).weaken (Nat.zero_le _)) (by omega) (Nat.le_trans hso.2 (by decide))) ?_
 rintro _ w49 ⟨rfl, ho50, hx51⟩
 refine ⟨_, rfl, ?_⟩
 have hg56 := mark_grown hx51
 have hX57 := hX40.write hx51.pins hg56 (fun k hk => Or.inr ⟨_, List.mem_cons_of_mem _ hmem52, hk⟩)
 have ho58 := ho41.keptA hg56 (hav _ hmem52).symm
 have hL54 := Lvs.step hL53 (ho50.up (fun k hk => ((hL53.own _ (List.mem_append_right _ List.mem_cons_self)).lt k hk).1)) hg56
 refine qd rfl rfl rfl (r_assign (v := (.int .i64 ((((q + 1) + 1) + ((cs.getD j default).r.length : Int)) + ((cs.getD j default).l.length : Int)))) rfl) (qe (s_blkN (s_then (c_reg ?_))))
 refine qd rfl rfl rfl (r_move (v := (.int .i64 (j : Int))) rfl) (qd rfl rfl rfl (r_add rfl rfl (by omega)) (qd rfl rfl rfl (r_assign (v := (.int .i64 ((j : Int) + 1))) rfl) (qe (s_lopN ?_))))
 have hMn := hM.next hpl (by omega) rfl hv38 hv55
 refine ⟨_, ?_, _, rfl, _, j + 1, (((q + 1) + 1) + ((cs.getD j default).r.length : Int)) + ((cs.getD j default).l.length : Int), A ++ [(u29, upL ((q + 1) + 1) (cs.getD j default).r.length)] ++ [(u46, upL (((q + 1) + 1) + ((cs.getD j default).r.length : Int)) (cs.getD j default).l.length)], (ys.set j (new4 0 q (ys.getD j default))).set j (new4 1 (q + 1) ((ys.set j (new4 0 q (ys.getD j default))).getD j default)), (packS (x := 5) (packS (x := 4) (packS (x := 1) (pack1 (x := 0) rfl) rfl) rfl) rfl), rfl, hX57, (by omega), (by omega), (hqt.trans (by rw [totC_next (by omega)]; omega)), hMn, (by rw [List.append_assoc]; exact hL54), ho58⟩
 omega
 refine wp_exit (s_thenE (s_lopE (s_blkE (s_then (s_seq (c_reg ?_))))))
 refine qd rfl rfl rfl (r_move (v := (.int .i64 q)) rfl) (qd rfl rfl rfl (r_assign (v := (.int .i64 q)) rfl) (qe (s_then ?_)))
 refine wp_ret (s_ret (c_ret1 (v := (.int .i64 q)) rfl rfl rfl ?_))
 have hjn : j = cs.length := by omega
 rw [lvC_end (by omega), List.append_nil] at hF1
 obtain ⟨hab, hlv⟩ := hM.done hjn
 have hlv2 : lvC ps (markC kz cs) = A := by rw [← hlv]; unfold lvC; rw [hM.vv]
 exact ⟨congrArg (fun z => Ending.returned (Value.int .i64 z)) (by rw [hqt, totC_end (by omega)]; omega), ⟨ys, hM.len, hM.vv, hab, hw5⟩, (by rw [hlv2]; exact hF1), hX4⟩

theorem markProofX_spec {w : World} {G : Pin} {v : Value} {cs : List Cl} {kz : Int} {lo hi : Nat} (hP : Pins G w) (hd : DPrf 49 3 G w lo hi v cs) (hsz : hi ≤ w.heap.size) (hsm : SmC cs) (hk : 0 ≤ kz ∧ kz ≤ 1099511627776) :
  Calls Try.prog 11 [(.agg [v].toArray), (.int .i64 kz)].toArray w fun e w' => e = .returned (.int .i64 (kz + totC cs)) ∧ DPrf 49 3 G w' lo hi v (markC kz cs) ∧ Ext (inR lo hi) G w G w' := by
 refine s_enter (n := 10) Try.func11 Try.ntmps11 rfl rfl ?_
 have hX0 : Ext (inR lo hi) G w G w := Ext.refl hP
 refine s_seq (c_reg ?_)
 refine q1 rfl rfl rfl (o_box [v] (v := (.agg [v].toArray)) rfl rfl hX0.pins (fun b1 w2 hk3 hb4 hp5 hl6 => ?_))
 have hX7 := hX0.step hp5 hl6
 have hd8 := hd.below hl6
 have hs9 := Nat.le_trans hsz hl6.size
 have ha10 : hi ≤ b1 ∨ b1 < lo := Or.inl (by have e := Option.some.inj (congrArg some hk3); have := hsz; omega)
 have hlo11 : w.heap.size ≤ b1 := by have := hX0.size; omega
 obtain ⟨G12, hle13, hX14, hbp15, hf16⟩ := hb4.shut hX7 hlo11
 have hd17 := hd8.more hle13 hf16 ha10
 refine qd rfl rfl rfl (r_assign (v := (.int .i64 0)) rfl) (qe (s_then (s_seq (c_reg ?_))))
 refine qd rfl rfl rfl (r_fldp (k := 0) rfl Try.underlying28 rfl nz26 rfl) (qd rfl rfl rfl (r_ldp1 (u := v) ag26 rfl (hX14.pins _ _ _ (hbp15 0 _ rfl))) (qd rfl rfl rfl (r_move (v := (.int .i64 kz)) rfl) ?_))
 obtain ⟨ps18, ho19, hpl20, hav21, hL22, hin23, hst24⟩ := hd17.mark
 refine q1 rfl rfl rfl (o_call (vs := [v, (.int .i64 kz)]) Try.func25 nm25 rfl rfl rfl ?_)
 refine Calls.mono (markClaimX_spec hX14.pins ho19 hpl20 hav21 hL22 hsm hk) ?_
 rintro _ w25 ⟨rfl, ⟨ys30, hy31, hy32, hy33, hy34⟩, hL26, hx27⟩
 refine ⟨_, rfl, ?_⟩
 have hX28 := hX14.trans hx27 (fun i hi => Or.inr (hin23 i hi))
 have hd29 := hst24 (markC_length _ _) hy31 hy32 hy33 hy34 hL26
 refine qd rfl rfl rfl (r_assign (v := (.int .i64 (kz + totC cs))) rfl) (qe (s_then (s_seq (c_reg ?_))))
 refine qd rfl rfl rfl (r_move (v := (.int .i64 (kz + totC cs))) rfl) (qd rfl rfl rfl (r_assign (v := (.int .i64 (kz + totC cs))) rfl) (qe (s_then ?_)))
 exact wp_ret (s_ret (c_ret1 (v := (.int .i64 (kz + totC cs))) rfl rfl rfl (⟨rfl, hd29.anti hle13, hX28.shrink⟩)))

theorem heldClaimS_spec {w : World} {G : Pin} {v : Value} {cs : List Cl} {kz : Int} (hP : Pins G w) (hv : RSl eClaim G v (markC kz cs)) (hsm : SmC cs) (hk : 0 ≤ kz ∧ kz ≤ 1099511627776) :
  Calls Try.prog 26 [v, (.int .i64 kz)].toArray w fun e w' => e = .returned (.int .i64 (kz + totC cs)) ∧ w' = w := by
 refine s_enter (n := 49) Try.func26 Try.ntmps26 rfl rfl ?_
 have hX0 : Ext noS G w G w := Ext.refl hP
 have hul := markC_length kz cs
 have hln := hsm.len
 refine s_seq (c_reg ?_)
 refine qd rfl rfl rfl (r_assign (v := (.int .i64 0)) rfl) (qe (s_then (s_seq (s_seq (c_reg ?_)))))
 refine qd rfl rfl rfl (r_assign (v := (.int .i64 0)) rfl) (qe (s_then ?_))
 refine s_blk (s_loop (fun (k : Nat) (en : Nat → Value) (W : World) => ∃ (env1 : Nat → Value) (j : Nat) (q : Int), en = (upd (upd (upd env1 0 v) 1 (.int .i64 q)) 5 (.int .i64 (j : Int))) ∧ k = cs.length - j ∧ Ext noS G w G W ∧ (j ≤ cs.length) ∧ (W = w) ∧ (0 ≤ q ∧ q ≤ kz + 50 * (j : Int)) ∧ (kz + totC cs = q + totC (cs.drop j)) ∧ (markC kz cs).drop j = markC q (cs.drop j)) _ ⟨_, 0, kz, (packS (x := 5) (packS (x := 1) (pack1 (x := 0) rfl) rfl) rfl), rfl, hX0, Nat.zero_le _, rfl, (by omega), rfl, rfl⟩ ?_)
 rintro k1 _ w2 ⟨env1, j, q, rfl, hk3, hX4, hj, hw, hq, hqt, hA⟩
 subst hw
 refine s_seq (s_seq (c_reg ?_))
 refine qd rfl rfl rfl (r_move (v := (.int .i64 (j : Int))) rfl) (qd rfl rfl rfl (r_move (v := v) rfl) (qd rfl rfl rfl (run_len Try.underlying26 (v := v) rfl hv) (qd rfl rfl rfl (r_lss rfl rfl) (qe (s_then ?_)))))
 refine c_ifd (p := ((j : Int) : Int) < ((markC kz cs).length : Int)) rfl rfl (fun h5 => ?_) (fun h5 => ?_)
 have hso := hsm.ln j (by omega)
 have hAj := markC_at (show j < cs.length by omega) hA
 have hA1 := hAj.1
 have hA2 := hAj.2.1
 refine wp_skip (s_then (s_seq ?_))
 refine s_blk (s_seq (s_seq (c_reg ?_)))
 refine qd rfl rfl rfl (r_move (v := v) rfl) (qd rfl rfl rfl (r_move (v := (.int .i64 (j : Int))) rfl) (qd rfl rfl rfl (run_idx Try.underlying26 sz49 (v := v) rfl rfl hv (by omega) (by omega)) (qd rfl rfl rfl (run_fld (off := 0) Try.underlying49 rfl rfl nz3 (z := (j : Int)) (k := 0) rfl hv (by omega) (by omega)) ?_)))
 obtain ⟨cs6, hrep7, hagg8, hcell9⟩ := nm_el (j := j) default (hv.at (z := (j : Int)) (by omega) (by omega)) rfl
 obtain ⟨u10, u12, rfl, hr11, hr13⟩ := hrep7
 have hm14 := hr11.max
 have hm15 := hr13.max
 refine qd rfl rfl rfl (hcell9 0 _ rfl ag3 rfl hX4.pins) (qd rfl rfl rfl (r_move (v := (.int .i64 q)) rfl) (qd rfl rfl rfl (r_neq rfl rfl) (qe (s_then ?_))))
 refine c_ifd (p := (((markC kz cs).getD j default).a : Int) ≠ q) rfl rfl (fun h16 => ?_) (fun h16 => ?_)
 refine s_seq (c_reg ?_)
 refine qd rfl rfl rfl (r_assign (v := (.int .i64 (-1))) rfl) (qe (s_then ?_))
 refine wp_ret (s_ret (c_ret1 (v := (.int .i64 (-1))) rfl rfl rfl ?_))
 exfalso; omega
 refine wp_skip (s_then (s_seq (c_reg ?_)))
 refine qd rfl rfl rfl (r_move (v := (.int .i64 q)) rfl) (qd rfl rfl rfl (r_add rfl rfl (by omega)) (qd rfl rfl rfl (r_assign (v := (.int .i64 (q + 1))) rfl) (qe (s_then (s_seq (s_seq (c_reg ?_)))))))
 refine qd rfl rfl rfl (r_move (v := v) rfl) (qd rfl rfl rfl (r_move (v := (.int .i64 (j : Int))) rfl) (qd rfl rfl rfl (run_idx Try.underlying26 sz49 (v := v) rfl rfl hv (by omega) (by omega)) (qd rfl rfl rfl (run_fld (off := 1) Try.underlying49 rfl rfl nz3 (z := (j : Int)) (k := 0) rfl hv (by omega) (by omega)) ?_)))
 obtain ⟨cs17, hrep18, hagg19, hcell20⟩ := nm_el (j := j) default (hv.at (z := (j : Int)) (by omega) (by omega)) rfl
 obtain ⟨u21, u23, rfl, hr22, hr24⟩ := hrep18
 have hm25 := hr22.max
 have hm26 := hr24.max
 refine qd rfl rfl rfl (hcell20 1 _ rfl ag3 rfl hX4.pins) (qd rfl rfl rfl (r_move (v := (.int .i64 (q + 1))) rfl) (qd rfl rfl rfl (r_neq rfl rfl) (qe (s_then ?_))))
 refine c_ifd (p := (((markC kz cs).getD j default).b : Int) ≠ (q + 1)) rfl rfl (fun h27 => ?_) (fun h27 => ?_)
 refine s_seq (c_reg ?_)
 refine qd rfl rfl rfl (r_assign (v := (.int .i64 (-1))) rfl) (qe (s_then ?_))
 refine wp_ret (s_ret (c_ret1 (v := (.int .i64 (-1))) rfl rfl rfl ?_))
 exfalso; omega
 refine wp_skip (s_then (s_seq (c_reg ?_)))
 refine qd rfl rfl rfl (r_move (v := (.int .i64 (q + 1))) rfl) (qd rfl rfl rfl (r_add rfl rfl (by omega)) (qd rfl rfl rfl (r_assign (v := (.int .i64 ((q + 1) + 1))) rfl) (qe (s_then (s_seq (c_reg ?_))))))
 refine qd rfl rfl rfl (r_move (v := v) rfl) (qd rfl rfl rfl (r_move (v := (.int .i64 (j : Int))) rfl) (qd rfl rfl rfl (run_idx Try.underlying26 sz49 (v := v) rfl rfl hv (by omega) (by omega)) (qd rfl rfl rfl (run_fld (off := 2) Try.underlying49 rfl rfl nz47 (z := (j : Int)) (k := 0) rfl hv (by omega) (by omega)) ?_)))
 obtain ⟨cs28, hrep29, hagg30, hcell31⟩ := nm_el (j := j) default (hv.at (z := (j : Int)) (by omega) (by omega)) rfl
 obtain ⟨u32, u34, rfl, hr33, hr35⟩ := hrep29
 have hm36 := hr33.max
 have hm37 := hr35.max
 refine qd rfl rfl rfl (hcell31 2 _ rfl ag47 rfl hX4.pins) (qd rfl rfl rfl (r_move (v := (.int .i64 ((q + 1) + 1))) rfl) (q1 rfl rfl rfl (o_call (vs := [u32, (.int .i64 ((q + 1) + 1))]) Try.func53 nm53 rfl rfl rfl ?_)))
 refine Calls.mono (heldIntS_spec (n := (cs.getD j default).r.length) hX4.pins (by rw [← hAj.2.2.1]; exact hr33) (by omega) (Nat.le_trans hso.1 (by decide))) ?_
 rintro _ _ ⟨rfl, rfl⟩
 refine ⟨_, rfl, ?_⟩
 refine qd rfl rfl rfl (r_assign (v := (.int .i64 (((q + 1) + 1) + (((cs.getD j default).r.length : Int) : Int)))) rfl) (qe (s_then (s_seq (s_seq (c_reg ?_)))))
 refine qd rfl rfl rfl (r_move (v := (.int .i64 (((q + 1) + 1) + (((cs.getD j default).r.length : Int) : Int)))) rfl) (qd rfl rfl rfl (r_lss rfl rfl) (qe (s_then ?_)))
 refine c_ifd (p := (((q + 1) + 1) + (((cs.getD j default).r.length : Int) : Int) : Int) < 0) rfl rfl (fun h38 => ?_) (fun h38 => ?_)
 refine s_seq (c_reg ?_)
 refine qd rfl rfl rfl (r_assign (v := (.int .i64 (-1))) rfl) (qe (s_then ?_))
 refine wp_ret (s_ret (c_ret1 (v := (.int .i64 (-1))) rfl rfl rfl ?_))
 exfalso; omega
 refine wp_skip (s_then (s_seq (c_reg ?_)))
 refine qd rfl rfl rfl (r_move (v := v) rfl) (qd rfl rfl rfl (r_move (v := (.int .i64 (j : Int))) rfl) (qd rfl rfl rfl (run_idx Try.underlying26 sz49 (v := v) rfl rfl hv (by omega) (by omega)) (qd rfl rfl rfl (run_fld (off := 3) Try.underlying49 rfl rfl nz47 (z := (j : Int)) (k := 0) rfl hv (by omega) (by omega)) ?_)))
 obtain ⟨cs39, hrep40, hagg41, hcell42⟩ := nm_el (j := j) default (hv.at (z := (j : Int)) (by omega) (by omega)) rfl
 obtain ⟨u43, u45, rfl, hr44, hr46⟩ := hrep40
 have hm47 := hr44.max
 have hm48 := hr46.max
 refine qd rfl rfl rfl (hcell42 3 _ rfl ag47 rfl hX4.pins) (qd rfl rfl rfl (r_move (v := (.int .i64 (((q + 1) + 1) + (((cs.getD j default).r.length : Int) : Int)))) rfl) (q1 rfl rfl rfl (o_call (vs := [u45, (.int .i64 (((q + 1) + 1) + (((cs.getD j default).r.length : Int) : Int)))]) Try.func53 nm53 rfl rfl rfl ?_)))
 refine Calls.mono (heldIntS_spec (n := (cs.getD j default).l.length) hX4.pins (by rw [← hAj.2.2.2.1]; exact hr46) (by omega) (Nat.le_trans hso.2 (by decide))) ?_
 rintro _ _ ⟨rfl, rfl⟩
 refine ⟨_, rfl, ?_⟩
 refine qd rfl rfl rfl (r_assign (v := (.int .i64 ((((q + 1) + 1) + (((cs.getD j default).r.length : Int) : Int)) + (((cs.getD j default).l.length : Int) : Int)))) rfl) (qe (s_then (s_seq (c_reg ?_))))
 refine qd rfl rfl rfl (r_move (v := (.int .i64 ((((q + 1) + 1) + (((cs.getD j default).r.length : Int) : Int)) + (((cs.getD j default).l.length : Int) : Int)))) rfl) (qd rfl rfl rfl (r_lss rfl rfl) (qe (s_then ?_)))
 refine c_ifd (p := ((((q + 1) + 1) + (((cs.getD j default).r.length : Int) : Int)) + (((cs.getD j default).l.length : Int) : Int) : Int) < 0) rfl rfl (fun h49 => ?_) (fun h49 => ?_)
 refine s_seq (c_reg ?_)
 refine qd rfl rfl rfl (r_assign (v := (.int .i64 (-1))) rfl) (qe (s_then ?_))
 refine wp_ret (s_ret (c_ret1 (v := (.int .i64 (-1))) rfl rfl rfl ?_))
 exfalso; omega
 refine wp_skip (s_blkN (s_then (c_reg ?_)))
 refine qd rfl rfl rfl (r_move (v := (.int .i64 (j : Int))) rfl) (qd rfl rfl rfl (r_add rfl rfl (by omega)) (qd rfl rfl rfl (r_assign (v := (.int .i64 ((j : Int) + 1))) rfl) (qe (s_lopN (⟨_, ?_, _, rfl, _, j + 1, (((q + 1) + 1) + (((cs.getD j default).r.length : Int) : Int)) + (((cs.getD j default).l.length : Int) : Int), (packS (x := 5) (packS (x := 1) (pack1 (x := 0) rfl) rfl) rfl), rfl, hX4, (by omega), rfl, (by omega), (hqt.trans (by rw [totC_next (by omega)]; omega)), hAj.2.2.2.2⟩)))))
 omega
 refine wp_exit (s_thenE (s_lopE (s_blkE (s_then (s_seq (c_reg ?_))))))
 refine qd rfl rfl rfl (r_move (v := (.int .i64 q)) rfl) (qd rfl rfl rfl (r_assign (v := (.int .i64 q)) rfl) (qe (s_then ?_)))
 exact wp_ret (s_ret (c_ret1 (v := (.int .i64 q)) rfl rfl rfl (⟨congrArg (fun z => Ending.returned (Value.int .i64 z)) (by rw [hqt, totC_end (by omega)]; omega), rfl⟩)))

theorem heldProofX_spec {w : World} {G : Pin} {v : Value} {cs : List Cl} {kz : Int} (hP : Pins G w) (hv : RSl eClaim G v (markC kz cs)) (hsm : SmC cs) (hk : 0 ≤ kz ∧ kz ≤ 1099511627776) :
  Calls Try.prog 12 [(.agg [v].toArray), (.int .i64 kz)].toArray w fun e w' => ∃ G', e = .returned (.int .i64 (kz + totC cs)) ∧ Ext noS G w G' w' := by
 refine s_enter (n := 12) Try.func12 Try.ntmps12 rfl rfl ?_
 have hX0 : Ext noS G w G w := Ext.refl hP
 have htn := totC_nonneg cs
 refine s_seq (c_reg ?_)
 refine q1 rfl rfl rfl (o_box [v] (v := (.agg [v].toArray)) rfl rfl hX0.pins (fun b1 w2 hk3 hb4 hp5 hl6 => ?_))
 have hX7 := hX0.step hp5 hl6
 have hlo8 : w.heap.size ≤ b1 := by have := hX0.size; omega
 obtain ⟨G9, hle10, hX11, hbp12, hf13⟩ := hb4.shut hX7 hlo8
 refine qd rfl rfl rfl (r_assign (v := (.int .i64 0)) rfl) (qe (s_then (s_seq (c_reg ?_))))
 refine qd rfl rfl rfl (r_fldp (k := 0) rfl Try.underlying28 rfl nz26 rfl) (qd rfl rfl rfl (r_ldp1 (u := v) ag26 rfl (hX11.pins _ _ _ (hbp12 0 _ rfl))) (qd rfl rfl rfl (r_move (v := (.int .i64 kz)) rfl) (q1 rfl rfl rfl (o_call (vs := [v, (.int .i64 kz)]) Try.func26 nm26 rfl rfl rfl ?_))))
 refine Calls.mono (heldClaimS_spec hX11.pins (hv.mono hle10) hsm hk) ?_
 rintro _ _ ⟨rfl, rfl⟩
 refine ⟨_, rfl, ?_⟩
 refine qd rfl rfl rfl (r_assign (v := (.int .i64 (kz + totC cs))) rfl) (qe (s_then (s_seq (s_seq (c_reg ?_)))))
 refine qd rfl rfl rfl (r_move (v := (.int .i64 (kz + totC cs))) rfl) (qd rfl rfl rfl (r_lss rfl rfl) (qe (s_then ?_)))
 refine c_ifd (p := (kz + totC cs : Int) < 0) rfl rfl (fun h14 => ?_) (fun h14 => ?_)
 refine s_seq (c_reg ?_)
 refine qd rfl rfl rfl (r_assign (v := (.int .i64 (-1))) rfl) (qe (s_then ?_))
 exact wp_ret (s_ret (c_ret1 (v := (.int .i64 (-1))) rfl rfl rfl (absurd h14 (by omega))))
 refine wp_skip (s_then (s_seq (c_reg ?_)))
 refine qd rfl rfl rfl (r_move (v := (.int .i64 (kz + totC cs))) rfl) (qd rfl rfl rfl (r_assign (v := (.int .i64 (kz + totC cs))) rfl) (qe (s_then ?_)))
 exact wp_ret (s_ret (c_ret1 (v := (.int .i64 (kz + totC cs))) rfl rfl rfl (⟨_, rfl, hX11⟩)))

end LP1
end Go.Proofs.Ytdleojbknkbpiaa

set_option maxRecDepth 20000
set_option maxHeartbeats 2000000
namespace Go.Proofs.Ytdleojbknkbpiaa
namespace LPF
open Go.RowKit Go.GL Go.Proofs
open B1 C1 D1 E1 L1 G1 P1 PF1 PF2 PF3 PF4 PF5 PF6 LP1




































theorem szFormT_spec {w : World} {G : Pin} {v : Value} {ns : List Nd} {left : Int} (hP : Pins G w) (hv : RSl eNode G v ns) (hl : 0 ≤ left ∧ left ≤ 1048576) :
  Calls Try.prog 4 [(.agg [v].toArray), (.int .i64 left)].toArray w fun e w' => ∃ z G', e = .returned (.int .i64 z) ∧ (z < 0 ∨ 0 ≤ z ∧ z + totN ns ≤ left ∧ Small ns) ∧ Ext noS G w G' w' := by
 refine s_enter (n := 12) Try.func4 Try.ntmps4 rfl rfl ?_
 have hX0 : Ext noS G w G w := Ext.refl hP
 refine s_seq (c_reg ?_)
 refine q1 rfl rfl rfl (o_box [v] (v := (.agg [v].toArray)) rfl rfl hX0.pins (fun b1 w2 hk3 hb4 hp5 hl6 => ?_))
 have hX7 := hX0.step hp5 hl6
 have hlo8 : w.heap.size ≤ b1 := by have := hX0.size; omega
 obtain ⟨G9, hle10, hX11, hbp12, hf13⟩ := hb4.shut hX7 hlo8
 refine qd rfl rfl rfl (r_assign (v := (.int .i64 0)) rfl) (qe (s_then (s_seq (c_reg ?_))))
 refine qd rfl rfl rfl (r_fldp (k := 0) rfl Try.underlying24 rfl nz22 rfl) (qd rfl rfl rfl (r_ldp1 (u := v) ag22 rfl (hX11.pins _ _ _ (hbp12 0 _ rfl))) (qd rfl rfl rfl (r_move (v := (.int .i64 left)) rfl) (q1 rfl rfl rfl (o_call (vs := [v, (.int .i64 left)]) Try.func13 nm13 rfl rfl rfl ?_))))
 refine Calls.mono (szNodeS_spec hX11.pins (hv.mono hle10) (by omega)) ?_
 rintro _ w15 ⟨G14, rfl, hx16⟩
 refine ⟨_, rfl, ?_⟩
 have hX17 := hX11.tr hx16
 refine qd rfl rfl rfl (r_assign (v := (.int .i64 (szNds ns left))) rfl) (qe (s_then (s_seq (s_seq (c_reg ?_)))))
 refine qd rfl rfl rfl (r_move (v := (.int .i64 (szNds ns left))) rfl) (qd rfl rfl rfl (r_lss rfl rfl) (qe (s_then ?_)))
 refine c_ifd (p := (szNds ns left : Int) < 0) rfl rfl (fun h18 => ?_) (fun h18 => ?_)
 refine s_seq (c_reg ?_)
 refine qd rfl rfl rfl (r_assign (v := (.int .i64 (-1))) rfl) (qe (s_then ?_))
 exact wp_ret (s_ret (c_ret1 (v := (.int .i64 (-1))) rfl rfl rfl (⟨_, _, rfl, Or.inl (by omega), hX17⟩)))
 refine wp_skip (s_then (s_seq (c_reg ?_)))
 refine qd rfl rfl rfl (r_move (v := (.int .i64 (szNds ns left))) rfl) (qd rfl rfl rfl (r_assign (v := (.int .i64 (szNds ns left))) rfl) (qe (s_then ?_)))
 refine wp_ret (s_ret (c_ret1 (v := (.int .i64 (szNds ns left))) rfl rfl rfl ?_))
 have hzl := szNds_le h18
 have hzt := szNds_tot h18
 exact ⟨_, _, rfl, Or.inr ⟨by omega, by omega, small_le h18 hl.2⟩, hX17⟩

theorem markNodeX_spec {w : World} {G : Pin} {v : Value} {ps : List (Value × Value)} {ns : List Nd} {kz : Int} {lo hi : Nat} (hP : Pins G w) (ho : Own eVal2 62 G w 0 v ps) (hpl : ps.length = ns.length) (hav : ∀ u ∈ leafV ps, Apart u.ownBlock v.ownBlock) (hF : Lvs 3 G w lo hi (lvN ps ns)) (hsm : Small ns) (hk : 0 ≤ kz ∧ kz ≤ 1099511627776) :
  Calls Try.prog 24 [v, (.int .i64 kz)].toArray w fun e w' => e = .returned (.int .i64 (kz + totN ns)) ∧ Lvs 3 G w' lo hi (lvN ps (markN kz ns)) ∧ Ext (inV (leafV ps)) G w G w' := by
 refine s_enter (n := 27) Try.func24 Try.ntmps24 rfl rfl ?_
 have hX0 : Ext (inV (leafV ps)) G w G w := Ext.refl hP
 have hln := hsm.len
 refine s_seq (c_reg ?_)
 refine qd rfl rfl rfl (r_assign (v := (.int .i64 0)) rfl) (qe (s_then (s_seq (s_seq (c_reg ?_)))))
 refine qd rfl rfl rfl (r_assign (v := (.int .i64 0)) rfl) (qe (s_then ?_))
 refine s_blk (s_loop (fun (k : Nat) (en : Nat → Value) (W : World) => ∃ (env1 : Nat → Value) (j : Nat) (q : Int) (A : List Leaf), en = (upd (upd (upd (upd env1 0 v) 1 (.int .i64 q)) 4 (.int .i64 0)) 5 (.int .i64 (j : Int))) ∧ k = ps.length - j ∧ Ext (inV (leafV ps)) G w G W ∧ (j ≤ ps.length) ∧ (0 ≤ q ∧ q ≤ kz + 2097152 * (j : Int)) ∧ (kz + totN ns = q + totN (ns.drop j)) ∧ (lvN ps (markN kz ns) = A ++ lvN (ps.drop j) (markN q (ns.drop j))) ∧ (Lvs 3 G W lo hi (A ++ lvN (ps.drop j) (ns.drop j))) ∧ (Own eVal2 62 G W 0 v (ps))) _ ⟨_, 0, kz, [], (packS (x := 5) (packS (x := 4) (packS (x := 1) (pack1 (x := 0) rfl) rfl) rfl) rfl), rfl, hX0, Nat.zero_le _, (by omega), rfl, rfl, hF, ho⟩ ?_)
 rintro k1 _ w2 ⟨env1, j, q, A, rfl, hk3, hX4, hj, hq, hqt, hA, hF1, hw5⟩
 refine s_seq (s_seq (c_reg ?_))
 refine qd rfl rfl rfl (r_move (v := (.int .i64 (j : Int))) rfl) (qd rfl rfl rfl (r_move (v := v) rfl) (qd rfl rfl rfl (run_len Try.underlying31 (v := v) rfl hw5.read) (qd rfl rfl rfl (r_lss rfl rfl) (qe (s_then ?_)))))
 refine c_ifd (p := ((j : Int) : Int) < (ps.length : Int)) rfl rfl (fun h6 => ?_) (fun h6 => ?_)
 have hso := hsm.opts j (by omega)
 refine wp_skip (s_then (s_seq ?_))
 refine s_blk (s_seq (c_reg ?_))
 refine qd rfl rfl rfl (r_move (v := v) rfl) (qd rfl rfl rfl (r_move (v := (.int .i64 (j : Int))) rfl) (qd rfl rfl rfl (run_idx Try.underlying31 sz62 (v := v) rfl rfl hw5.read (by omega) (by omega)) (qd rfl rfl rfl (run_fld (off := 0) Try.underlying62 rfl rfl nz47 (z := (j : Int)) (k := 0) rfl hw5.read (by omega) (by omega)) ?_)))
 obtain ⟨cs7, hrep8, hagg9, hcell10⟩ := nm_el (j := j) default (hw5.at (z := (j : Int)) (by omega) (by omega)) rfl
 obtain ⟨rfl, hone13⟩ := hrep8
 obtain ⟨u11, hu12⟩ : ∃ u, u = (ps.getD j default).1 := ⟨_, rfl⟩
 refine qd rfl rfl rfl (hcell10 0 u11 (by rw [hu12]; rfl) ag47 rfl (Gadd.pins hX4.pins v)) (qd rfl rfl rfl (r_move (v := (.int .i64 q)) rfl) ?_)
 have hmem17 : u11 ∈ leafV ps := by rw [hu12]; exact (leafV_mem (by omega)).1
 have hL18 : Lvs 3 G w2 lo hi (A ++ (u11, (ns.getD j default).l) :: (((ps.getD j default).2, (ns.getD j default).r) :: lvN (ps.drop (j + 1)) (ns.drop (j + 1)))) := by rw [hu12, ← lvN_next (by omega) (by omega)]; exact hF1
 refine q1 rfl rfl rfl (o_call (vs := [u11, (.int .i64 q)]) Try.func52 nm52 rfl rfl rfl ?_)
 refine Calls.mono (markIntS_spec hX4.pins ((hL18.own _ (List.mem_append_right _ List.mem_cons_self)).weaken (Nat.zero_le _)) (by omega) (hso.1)) ?_
 rintro _ w14 ⟨rfl, ho15, hx16⟩
 refine ⟨_, rfl, ?_⟩
 have hg20 := mark_grown hx16
 have hX21 := hX4.write hx16.pins hg20 (fun k hk => Or.inr ⟨_, hmem17, hk⟩)
 have ho22 := hw5.keptA hg20 (hav _ hmem17).symm
 have hL19 := Lvs.step hL18 (ho15.up (fun k hk => ((hL18.own _ (List.mem_append_right _ List.mem_cons_self)).lt k hk).1)) hg20
 refine qd rfl rfl rfl (r_assign (v := (.int .i64 (q + ((ns.getD j default).l.length : Int)))) rfl) (qe (s_then (c_reg ?_)))
 refine qd rfl rfl rfl (r_move (v := v) rfl) (qd rfl rfl rfl (r_move (v := (.int .i64 (j : Int))) rfl) (qd rfl rfl rfl (run_idx Try.underlying31 sz62 (v := v) rfl rfl ho22.read (by omega) (by omega)) (qd rfl rfl rfl (run_fld (off := 1) Try.underlying62 rfl rfl nz47 (z := (j : Int)) (k := 0) rfl ho22.read (by omega) (by omega)) ?_)))
 obtain ⟨cs23, hrep24, hagg25, hcell26⟩ := nm_el (j := j) default (ho22.at (z := (j : Int)) (by omega) (by omega)) rfl
 obtain ⟨rfl, hone29⟩ := hrep24
 obtain ⟨u27, hu28⟩ : ∃ u, u = (ps.getD j default).2 := ⟨_, rfl⟩
 refine qd rfl rfl rfl (hcell26 1 u27 (by rw [hu28]; rfl) ag47 rfl (Gadd.pins hX21.pins v)) (qd rfl rfl rfl (r_move (v := (.int .i64 (q + ((ns.getD j default).l.length : Int)))) rfl) ?_)
 have hmem33 : u27 ∈ leafV ps := by rw [hu28]; exact (leafV_mem (by omega)).2
 have hL34 : Lvs 3 G w14 lo hi ((A ++ [(u11, upL (q) (ns.getD j default).l.length)]) ++ (u27, (ns.getD j default).r) :: lvN (ps.drop (j + 1)) (ns.drop (j + 1))) := by rw [hu28, List.append_assoc]; exact hL19
 refine q1 rfl rfl rfl (o_call (vs := [u27, (.int .i64 (q + ((ns.getD j default).l.length : Int)))]) Try.func52 nm52 rfl rfl rfl ?_)
 refine Calls.mono (markIntS_spec hX21.pins ((hL34.own _ (List.mem_append_right _ List.mem_cons_self)).weaken (Nat.zero_le _)) (by omega) (hso.2)) ?_
 rintro _ w30 ⟨rfl, ho31, hx32⟩
 refine ⟨_, rfl, ?_⟩
 have hg36 := mark_grown hx32
 have hX37 := hX21.write hx32.pins hg36 (fun k hk => Or.inr ⟨_, hmem33, hk⟩)
 have ho38 := ho22.keptA hg36 (hav _ hmem33).symm
 have hL35 := Lvs.step hL34 (ho31.up (fun k hk => ((hL34.own _ (List.mem_append_right _ List.mem_cons_self)).lt k hk).1)) hg36
 refine qd rfl rfl rfl (r_assign (v := (.int .i64 ((q + ((ns.getD j default).l.length : Int)) + ((ns.getD j default).r.length : Int)))) rfl) (qe (s_blkN (s_then (c_reg ?_))))
 refine qd rfl rfl rfl (r_move (v := (.int .i64 (j : Int))) rfl) (qd rfl rfl rfl (r_add rfl rfl (by omega)) (qd rfl rfl rfl (r_assign (v := (.int .i64 ((j : Int) + 1))) rfl) (qe (s_lopN (⟨_, ?_, _, rfl, _, j + 1, (q + ((ns.getD j default).l.length : Int)) + ((ns.getD j default).r.length : Int), A ++ [(u11, upL (q) (ns.getD j default).l.length)] ++ [(u27, upL (q + ((ns.getD j default).l.length : Int)) (ns.getD j default).r.length)], (packS (x := 5) (packS (x := 4) (packS (x := 1) (pack1 (x := 0) rfl) rfl) rfl) rfl), rfl, hX37, (by omega), (by omega), (hqt.trans (by rw [totN_next (by omega)]; omega)), (hA.trans (by rw [lvN_markN (by omega) (by omega), List.append_assoc, List.append_assoc, ← hu12, ← hu28]; rfl)), (by rw [List.append_assoc]; exact hL35), ho38⟩)))))
 omega
 refine wp_exit (s_thenE (s_lopE (s_blkE (s_then (s_seq (c_reg ?_))))))
 refine qd rfl rfl rfl (r_move (v := (.int .i64 q)) rfl) (qd rfl rfl rfl (r_assign (v := (.int .i64 q)) rfl) (qe (s_then ?_)))
 refine wp_ret (s_ret (c_ret1 (v := (.int .i64 q)) rfl rfl rfl ?_))
 rw [lvN_end (by omega), List.append_nil] at hA
 rw [lvN_end (by omega), List.append_nil] at hF1
 exact ⟨congrArg (fun z => Ending.returned (Value.int .i64 z)) (by rw [hqt, totN_end (by omega)]; omega), (by rw [hA]; exact hF1), hX4⟩

theorem markFormX_spec {w : World} {G : Pin} {v : Value} {ns : List Nd} {kz : Int} {lo hi : Nat} (hP : Pins G w) (hd : DForm 62 3 G w lo hi v ns) (hsz : hi ≤ w.heap.size) (hsm : Small ns) (hk : 0 ≤ kz ∧ kz ≤ 1099511627776) :
  Calls Try.prog 10 [(.agg [v].toArray), (.int .i64 kz)].toArray w fun e w' => e = .returned (.int .i64 (kz + totN ns)) ∧ DForm 62 3 G w' lo hi v (markN kz ns) ∧ Ext (inR lo hi) G w G w' := by
 refine s_enter (n := 10) Try.func10 Try.ntmps10 rfl rfl ?_
 have hX0 : Ext (inR lo hi) G w G w := Ext.refl hP
 refine s_seq (c_reg ?_)
 refine q1 rfl rfl rfl (o_box [v] (v := (.agg [v].toArray)) rfl rfl hX0.pins (fun b1 w2 hk3 hb4 hp5 hl6 => ?_))
 have hX7 := hX0.step hp5 hl6
 have hd8 := hd.below hl6
 have hs9 := Nat.le_trans hsz hl6.size
 have ha10 : hi ≤ b1 ∨ b1 < lo := Or.inl (by have e := Option.some.inj (congrArg some hk3); have := hsz; omega)
 have hlo11 : w.heap.size ≤ b1 := by have := hX0.size; omega
 obtain ⟨G12, hle13, hX14, hbp15, hf16⟩ := hb4.shut hX7 hlo11
 have hd17 := hd8.more hle13 hf16 ha10
 refine qd rfl rfl rfl (r_assign (v := (.int .i64 0)) rfl) (qe (s_then (s_seq (c_reg ?_))))
 refine qd rfl rfl rfl (r_fldp (k := 0) rfl Try.underlying33 rfl nz31 rfl) (qd rfl rfl rfl (r_ldp1 (u := v) ag31 rfl (hX14.pins _ _ _ (hbp15 0 _ rfl))) (qd rfl rfl rfl (r_move (v := (.int .i64 kz)) rfl) ?_))
 obtain ⟨ps18, ho19, hpl20, hav21, hL22, hin23, hst24⟩ := hd17.mark
 refine q1 rfl rfl rfl (o_call (vs := [v, (.int .i64 kz)]) Try.func24 nm24 rfl rfl rfl ?_)
 refine Calls.mono (markNodeX_spec hX14.pins ho19 hpl20 hav21 hL22 hsm hk) ?_
 rintro _ w25 ⟨rfl, hL26, hx27⟩
 refine ⟨_, rfl, ?_⟩
 have hX28 := hX14.trans hx27 (fun i hi => Or.inr (hin23 i hi))
 have hd29 := hst24 (markN_length _ _) hL26 hx27
 refine qd rfl rfl rfl (r_assign (v := (.int .i64 (kz + totN ns))) rfl) (qe (s_then (s_seq (c_reg ?_))))
 refine qd rfl rfl rfl (r_move (v := (.int .i64 (kz + totN ns))) rfl) (qd rfl rfl rfl (r_assign (v := (.int .i64 (kz + totN ns))) rfl) (qe (s_then ?_)))
 exact wp_ret (s_ret (c_ret1 (v := (.int .i64 (kz + totN ns))) rfl rfl rfl (⟨rfl, hd29.anti hle13, hX28.shrink⟩)))

theorem eqForm_same {w : World} {G : Pin} {u v : Value} {xs : List Nd} (hP : Pins G w) (hu : RSl eNode G u xs) (hv : RSl eNode G v xs) :
  Calls Try.prog 9 [(.agg [u].toArray), (.agg [v].toArray)].toArray w fun e w' => ∃ G', e = .returned (.bool true) ∧ Ext noS G w G' w' := by
 refine (eqForm_spec hP hu hv).mono ?_
 rintro e w' ⟨G', rfl, hx⟩
 exact ⟨G', by simp, hx⟩

theorem eqClaim_spec {w : World} {G : Pin} {u v x y : Value} {c d : Cl} (hP : Pins G w) (hu : RSl eInt G u c.r) (hv : RSl eInt G v c.l) (hx : RSl eInt G x d.r) (hy : RSl eInt G y d.l) :
  Calls Try.prog 50 [(.agg [(.int .i64 c.a), (.int .i64 c.b), u, v].toArray), (.agg [(.int .i64 d.a), (.int .i64 d.b), x, y].toArray)].toArray w fun e w' => ∃ G', e = .returned (.bool (decide (c = d))) ∧ Ext noS G w G' w' := by
 refine s_enter (n := 27) Try.func50 Try.ntmps50 rfl rfl ?_
 have hX0 : Ext noS G w G w := Ext.refl hP
 refine s_seq (c_reg ?_)
 refine q1 rfl rfl rfl (o_box [(.int .i64 c.a), (.int .i64 c.b), u, v] (v := (.agg [(.int .i64 c.a), (.int .i64 c.b), u, v].toArray)) rfl rfl hX0.pins (fun b1 w2 hk3 hb4 hp5 hl6 => ?_))
 have hX7 := hX0.step hp5 hl6
 have hlo8 : w.heap.size ≤ b1 := by have := hX0.size; omega
 obtain ⟨G9, hle10, hX11, hbp12, hf13⟩ := hb4.shut hX7 hlo8
 refine q1 rfl rfl rfl (o_box [(.int .i64 d.a), (.int .i64 d.b), x, y] (v := (.agg [(.int .i64 d.a), (.int .i64 d.b), x, y].toArray)) rfl rfl hX11.pins (fun b14 w15 hk16 hb17 hp18 hl19 => ?_))
 have hX20 := hX11.step hp18 hl19
 have hlo21 : w.heap.size ≤ b14 := by have := hX11.size; omega
 obtain ⟨G22, hle23, hX24, hbp25, hf26⟩ := hb17.shut hX20 hlo21
 refine qd rfl rfl rfl (r_assign (v := (.bool false)) rfl) (qe (s_then (s_seq (s_seq (c_reg ?_)))))
 refine qd rfl rfl rfl (r_fldp (k := 0) rfl Try.underlying49 rfl nz3 rfl) (qd rfl rfl rfl (r_ldp1 (u := (.int .i64 c.a)) ag3 rfl ((Pins.of_le hX24.pins hle23) _ _ _ (hbp12 0 _ rfl))) (qd rfl rfl rfl (r_fldp (k := 0) rfl Try.underlying49 rfl nz3 rfl) (qd rfl rfl rfl (r_ldp1 (u := (.int .i64 d.a)) ag3 rfl (hX24.pins _ _ _ (hbp25 0 _ rfl))) (qd rfl rfl rfl (r_neq rfl rfl) (qe (s_then ?_))))))
 refine c_ifd (p := (c.a : Int) ≠ d.a) rfl rfl (fun h27 => ?_) (fun h27 => ?_)
 refine s_seq (c_reg ?_)
 refine qd rfl rfl rfl (r_assign (v := (.bool false)) rfl) (qe (s_then ?_))
 exact wp_ret (s_ret (c_ret1 (v := (.bool false)) rfl rfl rfl (⟨_, congrArg (fun z => Ending.returned (Value.bool z)) (decide_eq_false (fun e => h27 (by rw [e]))).symm, hX24⟩)))
 refine wp_skip (s_then (s_seq (s_seq (c_reg ?_))))
 refine qd rfl rfl rfl (r_fldp (k := 1) rfl Try.underlying49 rfl nz3 rfl) (qd rfl rfl rfl (r_ldp1 (u := (.int .i64 c.b)) ag3 rfl ((Pins.of_le hX24.pins hle23) _ _ _ (hbp12 1 _ rfl))) (qd rfl rfl rfl (r_fldp (k := 1) rfl Try.underlying49 rfl nz3 rfl) (qd rfl rfl rfl (r_ldp1 (u := (.int .i64 d.b)) ag3 rfl (hX24.pins _ _ _ (hbp25 1 _ rfl))) (qd rfl rfl rfl (r_neq rfl rfl) (qe (s_then ?_))))))
 refine c_ifd (p := (c.b : Int) ≠ d.b) rfl rfl (fun h28 => ?_) (fun h28 => ?_)
 refine s_seq (c_reg ?_)
 refine qd rfl rfl rfl (r_assign (v := (.bool false)) rfl) (qe (s_then ?_))
 exact wp_ret (s_ret (c_ret1 (v := (.bool false)) rfl rfl rfl (⟨_, congrArg (fun z => Ending.returned (Value.bool z)) (decide_eq_false (fun e => h28 (by rw [e]))).symm, hX24⟩)))
 refine wp_skip (s_then (s_seq (s_seq (c_reg ?_))))
 refine qd rfl rfl rfl (r_fldp (k := 2) rfl Try.underlying49 rfl nz47 rfl) (qd rfl rfl rfl (r_ldp1 (u := u) ag47 rfl ((Pins.of_le hX24.pins hle23) _ _ _ (hbp12 2 _ rfl))) (qd rfl rfl rfl (r_fldp (k := 2) rfl Try.underlying49 rfl nz47 rfl) (qd rfl rfl rfl (r_ldp1 (u := x) ag47 rfl (hX24.pins _ _ _ (hbp25 2 _ rfl))) (q1 rfl rfl rfl (o_call (vs := [u, x]) Try.func67 nm67 rfl rfl rfl ?_)))))
 refine Calls.mono (eqIntS_spec hX24.pins (hu.mono (Pin.le_trans hle10 hle23)) (hx.mono (Pin.le_trans hle10 hle23))) ?_
 rintro _ w29 ⟨rfl, hx30⟩
 refine ⟨_, rfl, ?_⟩
 have hX31 := hX24.step hx30.pins hx30.below
 refine qd rfl rfl rfl (r_not rfl) (qe (s_then ?_))
 refine c_ifn rfl rfl (fun h32 => ?_) (fun h32 => ?_)
 replace h32 := of_decide_eq_true h32
 refine wp_skip (s_then (s_seq (s_seq (c_reg ?_))))
 refine qd rfl rfl rfl (r_fldp (k := 3) rfl Try.underlying49 rfl nz47 rfl) (qd rfl rfl rfl (r_ldp1 (u := v) ag47 rfl ((Pins.of_le hX31.pins hle23) _ _ _ (hbp12 3 _ rfl))) (qd rfl rfl rfl (r_fldp (k := 3) rfl Try.underlying49 rfl nz47 rfl) (qd rfl rfl rfl (r_ldp1 (u := y) ag47 rfl (hX31.pins _ _ _ (hbp25 3 _ rfl))) (q1 rfl rfl rfl (o_call (vs := [v, y]) Try.func67 nm67 rfl rfl rfl ?_)))))
 refine Calls.mono (eqIntS_spec hX31.pins (hv.mono (Pin.le_trans hle10 hle23)) (hy.mono (Pin.le_trans hle10 hle23))) ?_
 rintro _ w33 ⟨rfl, hx34⟩
 refine ⟨_, rfl, ?_⟩
 have hX35 := hX31.step hx34.pins hx34.below
 refine qd rfl rfl rfl (r_not rfl) (qe (s_then ?_))
 refine c_ifn rfl rfl (fun h36 => ?_) (fun h36 => ?_)
 replace h36 := of_decide_eq_true h36
 refine wp_skip (s_then (s_seq (c_reg ?_)))
 refine qd rfl rfl rfl (r_assign (v := (.bool true)) rfl) (qe (s_then ?_))
 exact wp_ret (s_ret (c_ret1 (v := (.bool true)) rfl rfl rfl (⟨_, congrArg (fun z => Ending.returned (Value.bool z)) (decide_eq_true (cl_ext (by first | exact h27 | exact Decidable.not_not.1 h27) (by first | exact h28 | exact Decidable.not_not.1 h28) (by first | exact h32 | exact Decidable.not_not.1 h32) (by first | exact h36 | exact Decidable.not_not.1 h36))).symm, hX35⟩)))
 replace h36 := of_decide_eq_false h36
 refine s_seq (c_reg ?_)
 refine qd rfl rfl rfl (r_assign (v := (.bool false)) rfl) (qe (s_then ?_))
 exact wp_ret (s_ret (c_ret1 (v := (.bool false)) rfl rfl rfl (⟨_, congrArg (fun z => Ending.returned (Value.bool z)) (decide_eq_false (fun e => h36 (by rw [e]))).symm, hX35⟩)))
 replace h32 := of_decide_eq_false h32
 refine s_seq (c_reg ?_)
 refine qd rfl rfl rfl (r_assign (v := (.bool false)) rfl) (qe (s_then ?_))
 exact wp_ret (s_ret (c_ret1 (v := (.bool false)) rfl rfl rfl (⟨_, congrArg (fun z => Ending.returned (Value.bool z)) (decide_eq_false (fun e => h32 (by rw [e]))).symm, hX31⟩)))

theorem eqClaimS_spec {w : World} {G : Pin} {u v : Value} {xs ys : List Cl} (hP : Pins G w) (hu : RSl eClaim G u xs) (hv : RSl eClaim G v ys) :
  Calls Try.prog 22 [u, v].toArray w fun e w' => ∃ G', e = .returned (.bool (decide (xs = ys))) ∧ Ext noS G w G' w' := by
 refine s_enter (n := 27) Try.func22 Try.ntmps22 rfl rfl ?_
 have hX0 : Ext noS G w G w := Ext.refl hP
 have hm := hu.max
 refine s_seq (c_reg ?_)
 refine qd rfl rfl rfl (r_assign (v := (.bool false)) rfl) (qe (s_then (s_seq (s_seq (c_reg ?_)))))
 refine qd rfl rfl rfl (r_move (v := u) rfl) (qd rfl rfl rfl (run_len Try.underlying26 (v := u) rfl hu) (qd rfl rfl rfl (r_move (v := v) rfl) (qd rfl rfl rfl (run_len Try.underlying26 (v := v) rfl hv) (qd rfl rfl rfl (r_neq rfl rfl) (qe (s_then ?_))))))
 refine c_ifd (p := ((xs.length : Int) : Int) ≠ (ys.length : Int)) rfl rfl (fun h1 => ?_) (fun h1 => ?_)
 refine s_seq (c_reg ?_)
 refine qd rfl rfl rfl (r_assign (v := (.bool false)) rfl) (qe (s_then ?_))
 exact wp_ret (s_ret (c_ret1 (v := (.bool false)) rfl rfl rfl (⟨_, congrArg (fun z => Ending.returned (Value.bool z)) (decide_eq_false (fun e => h1 (by rw [e]))).symm, hX0⟩)))
 refine wp_skip (s_then (s_seq (s_seq (c_reg ?_))))
 refine qd rfl rfl rfl (r_assign (v := (.int .i64 0)) rfl) (qe (s_then ?_))
 refine s_blk (s_loop (fun (k : Nat) (en : Nat → Value) (W : World) => ∃ (env1 : Nat → Value) (j : Nat) (GL1 : Pin), en = (upd (upd (upd env1 0 u) 1 v) 5 (.int .i64 (j : Int))) ∧ k = xs.length - j ∧ Ext noS G w GL1 W ∧ Pin.le G GL1 ∧ (j ≤ xs.length) ∧ (xs.length = ys.length) ∧ (∀ i, i < j → xs.getD i default = ys.getD i default)) _ ⟨_, 0, G, (packS (x := 5) (packS (x := 1) (pack1 (x := 0) rfl) rfl) rfl), rfl, hX0, Pin.le_refl _, Nat.zero_le _, (by omega), (fun i hi => absurd hi (Nat.not_lt_zero i))⟩ ?_)
 rintro k2 _ w3 ⟨env1, j, GL1, rfl, hk4, hX5, hlek2, hj, heq, hp⟩
 refine s_seq (s_seq (c_reg ?_))
 refine qd rfl rfl rfl (r_move (v := (.int .i64 (j : Int))) rfl) (qd rfl rfl rfl (r_move (v := u) rfl) (qd rfl rfl rfl (run_len Try.underlying26 (v := u) rfl hu) (qd rfl rfl rfl (r_lss rfl rfl) (qe (s_then ?_)))))
 refine c_ifd (p := ((j : Int) : Int) < (xs.length : Int)) rfl rfl (fun h6 => ?_) (fun h6 => ?_)
 refine wp_skip (s_then (s_seq ?_))
 refine s_blk (s_seq (c_draw (S := fun wz => Pins GL1 wz) (last := 10) (by kernel_rfl) rfl ?_))
 have hl7 : Below w3.heap.size w3 w3.drew := (Below.refl _ _).drew
 have hp8 := hX5.pins.below hl7
 have hX9 := hX5.step hp8 hl7
 refine dr_take (i := 0) rfl rfl rfl (want_none rfl _) (by kernel_rfl) (fun _ _ => r_move (v := u) rfl) hX9.pins (dr_take (i := 1) rfl rfl rfl (want_none rfl _) (by kernel_rfl) (fun _ _ => r_move (v := (.int .i64 (j : Int))) rfl) hX9.pins (dr_take (i := 2) rfl rfl rfl (want_none rfl _) (by kernel_rfl) (fun _ _ => run_idx Try.underlying26 sz49 (v := u) rfl rfl hu (by omega) (by omega)) hX9.pins ?_))
 obtain ⟨cs10, hrep11, hagg12, hcell13⟩ := nm_el (j := j) default (hu.at (z := (j : Int)) (by omega) (by omega)) rfl
 obtain ⟨u14, u16, rfl, hr15, hr17⟩ := hrep11
 have hm18 := hr15.max
 have hm19 := hr17.max
 refine dr_take (i := 3) rfl rfl rfl (want_none rfl _) (by kernel_rfl) (fun _ hS => hagg12 ag49 sz49 rfl (Pins.of_le hS hlek2)) hX9.pins (dr_take (i := 4) rfl rfl rfl (want_none rfl _) (by kernel_rfl) (fun _ _ => r_move (v := v) rfl) hX9.pins (dr_take (i := 5) rfl rfl rfl (want_none rfl _) (by kernel_rfl) (fun _ _ => r_move (v := (.int .i64 (j : Int))) rfl) hX9.pins (dr_take (i := 6) rfl rfl rfl (want_none rfl _) (by kernel_rfl) (fun _ _ => run_idx Try.underlying26 sz49 (v := v) rfl rfl hv (by omega) (by omega)) hX9.pins ?_)))
 obtain ⟨cs20, hrep21, hagg22, hcell23⟩ := nm_el (j := j) default (hv.at (z := (j : Int)) (by omega) (by omega)) rfl
 obtain ⟨u24, u26, rfl, hr25, hr27⟩ := hrep21
 have hm28 := hr25.max
 have hm29 := hr27.max
 refine dr_take (i := 7) rfl rfl rfl (want_none rfl _) (by kernel_rfl) (fun _ hS => hagg22 ag49 sz49 rfl (Pins.of_le hS hlek2)) hX9.pins (dr_one (i := 8) (by kernel_rfl) (drOp1 (i := 8) rfl rfl rfl (want_none rfl _) (o_call (vs := [(.agg [(.int .i64 ((xs.getD j default).a)), (.int .i64 ((xs.getD j default).b)), u14, u16].toArray), (.agg [(.int .i64 ((ys.getD j default).a)), (.int .i64 ((ys.getD j default).b)), u24, u26].toArray)]) Try.func50 nm50 rfl rfl rfl ?_)))
 refine Calls.mono (eqClaim_spec (c := (xs.getD j default)) (d := (ys.getD j default)) hX9.pins (hr15.mono hlek2) (hr17.mono hlek2) (hr25.mono hlek2) (hr27.mono hlek2)) ?_
 rintro _ w31 ⟨G30, rfl, hx32⟩
 refine ⟨_, rfl, ?_⟩
 have hX33 := hX9.tr hx32
 refine ⟨fun _ => (Pins.of_le hX33.pins hx32.le), ?_⟩
 refine dr_take (i := 9) rfl rfl rfl (want_none rfl _) (by kernel_rfl) (fun _ _ => r_not rfl) (Pins.of_le hX33.pins hx32.le) (dr_end (by kernel_rfl) (s_then (c_ifn rfl rfl (fun h34 => ?_) (fun h34 => ?_))))
 replace h34 := of_decide_eq_true h34
 refine wp_skip (s_blkN (s_then (c_reg ?_)))
 refine qd rfl rfl rfl (r_move (v := (.int .i64 (j : Int))) rfl) (qd rfl rfl rfl (r_add rfl rfl (by omega)) (qd rfl rfl rfl (r_assign (v := (.int .i64 ((j : Int) + 1))) rfl) (qe (s_lopN (⟨_, ?_, _, rfl, _, j + 1, G30, (packS (x := 5) (packS (x := 1) (pack1 (x := 0) rfl) rfl) rfl), rfl, hX33, (Pin.le_trans hlek2 hx32.le), (by omega), heq, (eqstepG hp h34)⟩)))))
 omega
 replace h34 := of_decide_eq_false h34
 refine s_seq (c_reg ?_)
 refine qd rfl rfl rfl (r_assign (v := (.bool false)) rfl) (qe (s_then ?_))
 exact wp_ret (s_ret (c_ret1 (v := (.bool false)) rfl rfl rfl (⟨_, congrArg (fun z => Ending.returned (Value.bool z)) (decide_eq_false (fun e => h34 (by rw [e]))).symm, hX33⟩)))
 refine wp_exit (s_thenE (s_lopE (s_blkE (s_then (s_seq (c_reg ?_))))))
 refine qd rfl rfl rfl (r_assign (v := (.bool true)) rfl) (qe (s_then ?_))
 exact wp_ret (s_ret (c_ret1 (v := (.bool true)) rfl rfl rfl (⟨_, congrArg (fun z => Ending.returned (Value.bool z)) (decide_eq_true (eqdoneG heq (by omega) hp)).symm, hX5⟩)))

theorem eqProof_spec {w : World} {G : Pin} {u v : Value} {xs ys : List Cl} (hP : Pins G w) (hu : RSl eClaim G u xs) (hv : RSl eClaim G v ys) :
  Calls Try.prog 8 [(.agg [u].toArray), (.agg [v].toArray)].toArray w fun e w' => ∃ G', e = .returned (.bool (decide (xs = ys))) ∧ Ext noS G w G' w' := by
 refine s_enter (n := 11) Try.func8 Try.ntmps8 rfl rfl ?_
 have hX0 : Ext noS G w G w := Ext.refl hP
 refine s_seq (c_reg ?_)
 refine q1 rfl rfl rfl (o_box [u] (v := (.agg [u].toArray)) rfl rfl hX0.pins (fun b1 w2 hk3 hb4 hp5 hl6 => ?_))
 have hX7 := hX0.step hp5 hl6
 have hlo8 : w.heap.size ≤ b1 := by have := hX0.size; omega
 obtain ⟨G9, hle10, hX11, hbp12, hf13⟩ := hb4.shut hX7 hlo8
 refine q1 rfl rfl rfl (o_box [v] (v := (.agg [v].toArray)) rfl rfl hX11.pins (fun b14 w15 hk16 hb17 hp18 hl19 => ?_))
 have hX20 := hX11.step hp18 hl19
 have hlo21 : w.heap.size ≤ b14 := by have := hX11.size; omega
 obtain ⟨G22, hle23, hX24, hbp25, hf26⟩ := hb17.shut hX20 hlo21
 refine qd rfl rfl rfl (r_assign (v := (.bool false)) rfl) (qe (s_then (s_seq (s_seq (c_reg ?_)))))
 refine qd rfl rfl rfl (r_fldp (k := 0) rfl Try.underlying28 rfl nz26 rfl) (qd rfl rfl rfl (r_ldp1 (u := u) ag26 rfl ((Pins.of_le hX24.pins hle23) _ _ _ (hbp12 0 _ rfl))) (qd rfl rfl rfl (r_fldp (k := 0) rfl Try.underlying28 rfl nz26 rfl) (qd rfl rfl rfl (r_ldp1 (u := v) ag26 rfl (hX24.pins _ _ _ (hbp25 0 _ rfl))) (q1 rfl rfl rfl (o_call (vs := [u, v]) Try.func22 nm22 rfl rfl rfl ?_)))))
 refine Calls.mono (eqClaimS_spec hX24.pins (hu.mono (Pin.le_trans hle10 hle23)) (hv.mono (Pin.le_trans hle10 hle23))) ?_
 rintro _ w28 ⟨G27, rfl, hx29⟩
 refine ⟨_, rfl, ?_⟩
 have hX30 := hX24.tr hx29
 refine qd rfl rfl rfl (r_not rfl) (qe (s_then ?_))
 refine c_ifn rfl rfl (fun h31 => ?_) (fun h31 => ?_)
 replace h31 := of_decide_eq_true h31
 refine wp_skip (s_then (s_seq (c_reg ?_)))
 refine qd rfl rfl rfl (r_assign (v := (.bool true)) rfl) (qe (s_then ?_))
 exact wp_ret (s_ret (c_ret1 (v := (.bool true)) rfl rfl rfl (⟨_, congrArg (fun z => Ending.returned (Value.bool z)) (decide_eq_true h31).symm, hX30⟩)))
 replace h31 := of_decide_eq_false h31
 refine s_seq (c_reg ?_)
 refine qd rfl rfl rfl (r_assign (v := (.bool false)) rfl) (qe (s_then ?_))
 exact wp_ret (s_ret (c_ret1 (v := (.bool false)) rfl rfl rfl (⟨_, congrArg (fun z => Ending.returned (Value.bool z)) (decide_eq_false h31).symm, hX30⟩)))

theorem eqProof_same {w : World} {G : Pin} {u v : Value} {xs : List Cl} (hP : Pins G w) (hu : RSl eClaim G u xs) (hv : RSl eClaim G v xs) :
  Calls Try.prog 8 [(.agg [u].toArray), (.agg [v].toArray)].toArray w fun e w' => ∃ G', e = .returned (.bool true) ∧ Ext noS G w G' w' := by
 refine (eqProof_spec hP hu hv).mono ?_
 rintro e w' ⟨G', rfl, hx⟩
 exact ⟨G', by simp, hx⟩
theorem iProofFor_spec {w : World} {G : Pin} {u v : Value} {ns bs : List Nd} (hP : Pins G w) (hu : RSl eNode G u ns) (hv : RSl eNode G v bs) :
  Calls Try.prog 7 [(.agg [u].toArray), (.agg [v].toArray)].toArray w fun e w' => ∃ (u : Value) (G' : Pin), e = .returned (.tuple #[.agg [u].toArray, .bool (prfB ns bs)]) ∧ RSl eClaim G' u (prfL ns bs) ∧ Ext noS G w G' w' := by
 refine (iProofFor_dspec hP hu hv).mono ?_
 rintro e w' ⟨u, G', rfl, hd, hx⟩
 obtain ⟨G'', h1, h2⟩ := hd.give hx
 exact ⟨u, G'', rfl, h1, h2⟩

theorem law {w : World} {G : Pin} {u v : Value} {ns ms : List Nd} (hP : Pins G w) (hu : RSl eNode G u ns) (hv : RSl eNode G v ms) :
  Calls Try.prog 3 [(.agg [u].toArray), (.agg [v].toArray)].toArray w fun e w' => ∃ G', e = .returned (.bool true) ∧ Ext noS G w G' w' := by
 refine s_enter (n := 119) Try.func3 Try.ntmps3 rfl rfl ?_
 have hX0 : Ext noS G w G w := Ext.refl hP
 have htzns := totN_nonneg ns
 have htzms := totN_nonneg ms
 refine s_seq (c_reg ?_)
 refine q1 rfl rfl rfl (o_box [u] (v := (.agg [u].toArray)) rfl rfl hX0.pins (fun b1 w2 hk3 hb4 hp5 hl6 => ?_))
 have hX7 := hX0.step hp5 hl6
 have hlo8 : w.heap.size ≤ b1 := by have := hX0.size; omega
 obtain ⟨G9, hle10, hX11, hbp12, hf13⟩ := hb4.shut hX7 hlo8
 refine q1 rfl rfl rfl (o_box [v] (v := (.agg [v].toArray)) rfl rfl hX11.pins (fun b14 w15 hk16 hb17 hp18 hl19 => ?_))
 have hX20 := hX11.step hp18 hl19
 have hlo21 : w.heap.size ≤ b14 := by have := hX11.size; omega
 obtain ⟨G22, hle23, hX24, hbp25, hf26⟩ := hb17.shut hX20 hlo21
 refine qd rfl rfl rfl (r_assign (v := (.bool false)) rfl) (qe (s_then (s_seq (c_reg ?_))))
 refine qd rfl rfl rfl (r_assign (v := (.int .i64 1048576)) rfl) (qe (s_then (s_seq (c_reg ?_))))
 refine qd rfl rfl rfl (r_ldpA (cs := [u]) ag24 sz24 rfl (fun j u hj => (Pins.of_le hX24.pins hle23) _ _ _ (hbp12 _ _ (by simpa using hj)))) (qd rfl rfl rfl (r_move (v := (.int .i64 1048576)) rfl) (q1 rfl rfl rfl (o_call (vs := [(.agg [u].toArray), (.int .i64 1048576)]) Try.func4 nm4 rfl rfl rfl ?_)))
 refine Calls.mono (szFormT_spec hX24.pins (hu.mono (Pin.le_trans hle10 hle23)) (by omega)) ?_
 rintro _ w29 ⟨z27, G28, rfl, hz30, hx31⟩
 refine ⟨_, rfl, ?_⟩
 have hX32 := hX24.tr hx31
 refine qd rfl rfl rfl (r_assign (v := (.int .i64 z27)) rfl) (qe (s_then (s_seq (s_seq (c_reg ?_)))))
 refine qd rfl rfl rfl (r_move (v := (.int .i64 z27)) rfl) (qd rfl rfl rfl (r_lss rfl rfl) (qe (s_then ?_)))
 refine c_ifd (p := (z27 : Int) < 0) rfl rfl (fun h33 => ?_) (fun h33 => ?_)
 refine s_seq (c_reg ?_)
 refine qd rfl rfl rfl (r_assign (v := (.bool true)) rfl) (qe (s_then ?_))
 exact wp_ret (s_ret (c_ret1 (v := (.bool true)) rfl rfl rfl (⟨_, rfl, hX32⟩)))
 refine wp_skip (s_then (s_seq (c_reg ?_)))
 refine qd rfl rfl rfl (r_ldpA (cs := [v]) ag24 sz24 rfl (fun j u hj => (Pins.of_le hX32.pins hx31.le) _ _ _ (hbp25 _ _ (by simpa using hj)))) (qd rfl rfl rfl (r_move (v := (.int .i64 z27)) rfl) (q1 rfl rfl rfl (o_call (vs := [(.agg [v].toArray), (.int .i64 z27)]) Try.func4 nm4 rfl rfl rfl ?_)))
 refine Calls.mono (szFormT_spec hX32.pins (hv.mono (Pin.le_trans (Pin.le_trans hle10 hle23) hx31.le)) (by omega)) ?_
 rintro _ w36 ⟨z34, G35, rfl, hz37, hx38⟩
 refine ⟨_, rfl, ?_⟩
 have hX39 := hX32.tr hx38
 refine qd rfl rfl rfl (r_assign (v := (.int .i64 z34)) rfl) (qe (s_then (s_seq (s_seq (c_reg ?_)))))
 refine qd rfl rfl rfl (r_move (v := (.int .i64 z34)) rfl) (qd rfl rfl rfl (r_lss rfl rfl) (qe (s_then ?_)))
 refine c_ifd (p := (z34 : Int) < 0) rfl rfl (fun h40 => ?_) (fun h40 => ?_)
 refine s_seq (c_reg ?_)
 refine qd rfl rfl rfl (r_assign (v := (.bool true)) rfl) (qe (s_then ?_))
 exact wp_ret (s_ret (c_ret1 (v := (.bool true)) rfl rfl rfl (⟨_, rfl, hX39⟩)))
 refine wp_skip (s_then (s_seq ?_))
 have hsnx : Small ns ∧ totN ns ≤ 1048576 ∧ 0 ≤ totN ns := ⟨by rcases hz30 with h | h <;> first | omega | exact h.2.2, by rcases hz30 with h | h <;> omega, totN_nonneg _⟩
 have hsn := hsnx.1
 have htxns := hsnx.2
 have hsmx : Small ms ∧ totN ms ≤ 1048576 ∧ 0 ≤ totN ms := ⟨by rcases hz37 with h | h <;> first | omega | exact h.2.2, by rcases hz37 with h | h <;> omega, totN_nonneg _⟩
 have hsm := hsmx.1
 have htxms := hsmx.2
 have htf := totC_nonneg (prfL ns ms)
 refine c_cut (fun (en : Nat → Value) (W : World) => ∃ (env1 : Nat → Value) (c41 : Nat) (c42 : Value) (G43 : Pin), en = (upd (upd (upd (upd (upd env1 2 (.pointer (some ⟨b1, 0, none⟩))) 3 (.pointer (some ⟨b14, 0, none⟩))) 4 (.bool false)) 6 (.pointer (some ⟨c41, 0, none⟩))) 7 (.bool (prfB ns ms))) ∧ Ext noS G w G43 W ∧ Pin.le G35 G43 ∧ (RSl eClaim G43 c42 (prfL ns ms)) ∧ (BxP G43 c41 [c42])) ?_ ?_
 ·rintro _ w44 ⟨env1, c41, c42, G43, rfl, hX47, hle48, hr45, hb46⟩
  refine s_then (s_seq (c_reg ?_))
  refine qd rfl rfl rfl (r_ldpA (cs := [u]) ag24 sz24 rfl (fun j u hj => (Pins.of_le hX47.pins (Pin.le_trans (Pin.le_trans (Pin.le_trans hle23 hx31.le) hx38.le) hle48)) _ _ _ (hbp12 _ _ (by simpa using hj)))) (q1 rfl rfl rfl (o_call (vs := [(.agg [u].toArray)]) Try.func6 nm6 rfl rfl rfl ?_))
  refine Calls.mono (toForm_dspec hX47.pins (hu.mono (Pin.le_trans (Pin.le_trans (Pin.le_trans (Pin.le_trans hle10 hle23) hx31.le) hx38.le) hle48)) hsn) ?_
  rintro _ w51 ⟨u49, G50, rfl, hd52, hx53⟩
  refine ⟨_, rfl, ?_⟩
  have hX54 := hX47.tr hx53
  have hone55 := hd52.one
  refine q1 rfl rfl rfl (o_alloc [(.slice none 0 0)] zr33 rfl hX54.pins (fun b56 w57 hk58 hb59 hp60 hl61 => ?_))
  have hX62 := hX54.step hp60 hl61
  have hd63 := hd52.below hl61
  have hs64 := Nat.le_trans (Nat.le_refl w51.heap.size) hl61.size
  have ha65 : w51.heap.size ≤ b56 ∨ b56 < w44.heap.size := Or.inl (by have e := Option.some.inj (congrArg some hk58); have := (Nat.le_refl w51.heap.size); omega)
  have hlo66 : w.heap.size ≤ b56 := by have := hX54.size; omega
  refine q0 rfl rfl rfl (o_stp (cs' := [u49]) (us := [u49]) (v := (.agg [u49].toArray)) sz33 rfl rfl rfl (ones1 hone55) hX62.pins hb59 (Nat.le_of_ble_eq_true rfl) rfl (fun w67 hb68 hp69 hg70 hz71 => ?_))
  have hX72 := hX62.write hp69 hg70 ((lo_box hlo66))
  have hd73 := hd63.kept hg70 ha65
  have hs74 := Nat.le_trans hs64 hg70.size
  obtain ⟨G75, hle76, hX77, hbp78, hf79⟩ := hb68.shut hX72 hlo66
  have hd80 := hd73.more hle76 hf79 ha65
  refine qe (s_then (s_seq (c_reg ?_)))
  refine qd rfl rfl rfl (r_ldpA (cs := [v]) ag24 sz24 rfl (fun j u hj => (Pins.of_le hX77.pins (Pin.le_trans (Pin.le_trans (Pin.le_trans (Pin.le_trans hx31.le hx38.le) hle48) hx53.le) hle76)) _ _ _ (hbp25 _ _ (by simpa using hj)))) ?_
  have hgx4 := hs74
  refine q1 rfl rfl rfl (o_call (vs := [(.agg [v].toArray)]) Try.func6 nm6 rfl rfl rfl ?_)
  refine Calls.mono (toForm_dspec hX77.pins (hv.mono (Pin.le_trans (Pin.le_trans (Pin.le_trans (Pin.le_trans (Pin.le_trans (Pin.le_trans hle10 hle23) hx31.le) hx38.le) hle48) hx53.le) hle76)) hsm) ?_
  rintro _ w83 ⟨u81, G82, rfl, hd84, hx85⟩
  refine ⟨_, rfl, ?_⟩
  have hX86 := hX77.tr hx85
  have hd87 := hd80.ext hx85
  have hs88 := Nat.le_trans hs74 hx85.size
  have hone89 := hd84.one
  refine q1 rfl rfl rfl (o_alloc [(.slice none 0 0)] zr33 rfl hX86.pins (fun b90 w91 hk92 hb93 hp94 hl95 => ?_))
  have hX96 := hX86.step hp94 hl95
  have hd97 := hd87.below hl95
  have hs98 := Nat.le_trans hs88 hl95.size
  have hd99 := hd84.below hl95
  have hs100 := Nat.le_trans (Nat.le_refl w83.heap.size) hl95.size
  have ha101 : w51.heap.size ≤ b90 ∨ b90 < w44.heap.size := Or.inl (by have e := Option.some.inj (congrArg some hk92); have := hs88; omega)
  have ha102 : w83.heap.size ≤ b90 ∨ b90 < w67.heap.size := Or.inl (by have e := Option.some.inj (congrArg some hk92); have := (Nat.le_refl w83.heap.size); omega)
  have hlo103 : w.heap.size ≤ b90 := by have := hX86.size; omega
  refine q0 rfl rfl rfl (o_stp (cs' := [u81]) (us := [u81]) (v := (.agg [u81].toArray)) sz33 rfl rfl rfl (ones1 hone89) hX96.pins hb93 (Nat.le_of_ble_eq_true rfl) rfl (fun w104 hb105 hp106 hg107 hz108 => ?_))
  have hX109 := hX96.write hp106 hg107 ((lo_box hlo103))
  have hd110 := hd97.kept hg107 ha101
  have hs111 := Nat.le_trans hs98 hg107.size
  have hd112 := hd99.kept hg107 ha102
  have hs113 := Nat.le_trans hs100 hg107.size
  obtain ⟨G114, hle115, hX116, hbp117, hf118⟩ := hb105.shut hX109 hlo103
  have hd119 := hd110.more hle115 hf118 ha101
  have hd120 := hd112.more hle115 hf118 ha102
  refine qe (s_then (s_seq (c_reg ?_)))
  refine qd rfl rfl rfl (r_ldpA (cs := [u49]) ag33 sz33 rfl (fun j u hj => (Pins.of_le hX116.pins (Pin.le_trans hx85.le hle115)) _ _ _ (hbp78 _ _ (by simpa using hj)))) (qd rfl rfl rfl (r_ldpA (cs := [u81]) ag33 sz33 rfl (fun j u hj => hX116.pins _ _ _ (hbp117 _ _ (by simpa using hj)))) ?_)
  obtain ⟨G121, hle122, hp123, hr124, hf125⟩ := hd119.read hX116.pins
  obtain ⟨G126, hle127, hp128, hr129, hf130⟩ := hd120.read hX116.pins
  obtain ⟨G131, hc132, hc133, hc134, hc135, hc136⟩ := join_pins hle122 hp123 hp128 hf125 hf130
  refine q1 rfl rfl rfl (o_call (vs := [(.agg [u49].toArray), (.agg [u81].toArray)]) Try.func7 nm7 rfl rfl rfl ?_)
  refine Calls.mono (iProofFor_dspec hc135 (hr124.mono hc133) (hr129.mono hc134)) ?_
  rintro _ w139 ⟨u137, G138, rfl, hd140, hx141⟩
  refine ⟨_, rfl, ?_⟩
  have hgxu49 := hs111
  have hgxu81 := hs113
  have hx142 := deep_back hX116.pins hx141
  have hX143 := hX116.step hx142.pins hx142.below
  have hd144 := hd119.below hx142.below
  have hs145 := Nat.le_trans hs111 hx142.below.size
  have hd146 := hd120.below hx142.below
  have hs147 := Nat.le_trans hs113 hx142.below.size
  have hd148 := hd140.anti (Pin.le_trans hc132 hx141.le)
  have hone149 := hd148.one
  refine qd rfl rfl rfl (r_move (v := (.tuple #[(.agg [u137].toArray), (.bool (prfB ns ms))])) rfl) (qd rfl rfl rfl (r_extract (v := (.agg [u137].toArray)) rfl rfl) (qd rfl rfl rfl (r_extract (v := (.bool (prfB ns ms))) rfl rfl) (q1 rfl rfl rfl (o_alloc [(.slice none 0 0)] zr28 rfl hX143.pins (fun b150 w151 hk152 hb153 hp154 hl155 => ?_)))))
  have hX156 := hX143.step hp154 hl155
  have hd157 := hd144.below hl155
  have hs158 := Nat.le_trans hs145 hl155.size
  have hd159 := hd146.below hl155
  have hs160 := Nat.le_trans hs147 hl155.size
  have hd161 := hd148.below hl155
  have hs162 := Nat.le_trans (Nat.le_refl w139.heap.size) hl155.size
  have ha163 : w51.heap.size ≤ b150 ∨ b150 < w44.heap.size := Or.inl (by have e := Option.some.inj (congrArg some hk152); have := hs145; omega)
  have ha164 : w83.heap.size ≤ b150 ∨ b150 < w67.heap.size := Or.inl (by have e := Option.some.inj (congrArg some hk152); have := hs147; omega)
  have ha165 : w139.heap.size ≤ b150 ∨ b150 < w104.heap.size := Or.inl (by have e := Option.some.inj (congrArg some hk152); have := (Nat.le_refl w139.heap.size); omega)
  have hlo166 : w.heap.size ≤ b150 := by have := hX143.size; omega
  refine q0 rfl rfl rfl (o_stp (cs' := [u137]) (us := [u137]) (v := (.agg [u137].toArray)) sz28 rfl rfl rfl (ones1 hone149) hX156.pins hb153 (Nat.le_of_ble_eq_true rfl) rfl (fun w167 hb168 hp169 hg170 hz171 => ?_))
  have hX172 := hX156.write hp169 hg170 ((lo_box hlo166))
  have hd173 := hd157.kept hg170 ha163
  have hs174 := Nat.le_trans hs158 hg170.size
  have hd175 := hd159.kept hg170 ha164
  have hs176 := Nat.le_trans hs160 hg170.size
  have hd177 := hd161.kept hg170 ha165
  have hs178 := Nat.le_trans hs162 hg170.size
  obtain ⟨G179, hle180, hX181, hbp182, hf183⟩ := hb168.shut hX172 hlo166
  have hd184 := hd173.more hle180 hf183 ha163
  have hd185 := hd175.more hle180 hf183 ha164
  have hd186 := hd177.more hle180 hf183 ha165
  refine qd rfl rfl rfl (r_assign (v := (.bool (prfB ns ms))) rfl) (qe (s_then (s_seq (s_seq (c_reg ?_)))))
  refine qd rfl rfl rfl (r_ldpA (cs := [u137]) ag28 sz28 rfl (fun j u hj => hX181.pins _ _ _ (hbp182 _ _ (by simpa using hj)))) (qd rfl rfl rfl (r_ldpA (cs := [c42]) ag28 sz28 rfl (fun j u hj => (Pins.of_le hX181.pins (Pin.le_trans (Pin.le_trans (Pin.le_trans (Pin.le_trans hx53.le hle76) hx85.le) hle115) hle180)) _ _ _ (hb46 _ _ (by simpa using hj)))) ?_)
  obtain ⟨G190, hle191, hp192, hr193, _⟩ := hd186.read hX181.pins
  refine q1 rfl rfl rfl (o_call (vs := [(.agg [u137].toArray), (.agg [c42].toArray)]) Try.func8 nm8 rfl rfl rfl ?_)
  refine Calls.mono (eqProof_same hp192 hr193 ((hr45.mono (Pin.le_trans (Pin.le_trans (Pin.le_trans (Pin.le_trans hx53.le hle76) hx85.le) hle115) hle180)).mono hle191)) ?_
  rintro _ w188 ⟨G187, rfl, hx189⟩
  refine ⟨_, rfl, ?_⟩
  have hx194 := deep_back hX181.pins hx189
  have hX195 := hX181.step hx194.pins hx194.below
  have hd196 := hd184.below hx194.below
  have hs197 := Nat.le_trans hs174 hx194.below.size
  have hd198 := hd185.below hx194.below
  have hs199 := Nat.le_trans hs176 hx194.below.size
  have hd200 := hd186.below hx194.below
  have hs201 := Nat.le_trans hs178 hx194.below.size
  refine qd rfl rfl rfl (r_not rfl) (qd rfl rfl rfl (r_move (v := (.bool false)) rfl) (qdg rfl rfl rfl rfl rfl rfl (r_move (v := (.bool (prfB ns ms))) rfl) (qdg rfl rfl rfl rfl rfl rfl (r_move (v := (.bool (prfB ns ms))) rfl) (qdg rfl rfl rfl rfl rfl rfl (r_neqB_same Try.underlying4 rfl rfl) (qd rfl rfl rfl (r_pickF (v := (.bool false)) rfl rfl) (qe (s_then ?_)))))))
  refine c_ifF rfl rfl (wp_skip (s_then (s_seq (s_seq ?_))))
  refine c_draw (S := fun wz => Pins G179 wz) (last := 5) (by kernel_rfl) rfl ?_
  have hl202 : Below w188.heap.size w188 w188.drew := (Below.refl _ _).drew
  have hp203 := hX195.pins.below hl202
  have hX204 := hX195.step hp203 hl202
  have hd205 := hd196.below hl202
  have hs206 := Nat.le_trans hs197 hl202.size
  have hd207 := hd198.below hl202
  have hs208 := Nat.le_trans hs199 hl202.size
  have hd209 := hd200.below hl202
  have hs210 := Nat.le_trans hs201 hl202.size
  refine dr_take (i := 0) rfl rfl rfl (want_none rfl _) (by kernel_rfl) (fun _ hS => r_ldpA (cs := [u49]) ag33 sz33 rfl (fun j u hj => (Pins.of_le hS (Pin.le_trans (Pin.le_trans hx85.le hle115) hle180)) _ _ _ (hbp78 _ _ (by simpa using hj)))) hX204.pins (dr_take (i := 1) rfl rfl rfl (want_none rfl _) (by kernel_rfl) (fun _ hS => r_ldpA (cs := [u]) ag24 sz24 rfl (fun j u hj => (Pins.of_le hS (Pin.le_trans (Pin.le_trans (Pin.le_trans (Pin.le_trans (Pin.le_trans (Pin.le_trans (Pin.le_trans (Pin.le_trans hle23 hx31.le) hx38.le) hle48) hx53.le) hle76) hx85.le) hle115) hle180)) _ _ _ (hbp12 _ _ (by simpa using hj)))) hX204.pins (dr_one (i := 2) (by kernel_rfl) (drOp1 (i := 2) rfl rfl rfl (want_none rfl _) (o_call (vs := [(.agg [u].toArray)]) Try.func6 nm6 rfl rfl rfl ?_))))
  refine Calls.mono (toForm_spec hX204.pins (hu.mono (Pin.le_trans (Pin.le_trans (Pin.le_trans (Pin.le_trans (Pin.le_trans (Pin.le_trans (Pin.le_trans (Pin.le_trans (Pin.le_trans hle10 hle23) hx31.le) hx38.le) hle48) hx53.le) hle76) hx85.le) hle115) hle180)) hsn) ?_
  rintro _ w213 ⟨u211, G212, rfl, hr214, hx215⟩
  refine ⟨_, rfl, ?_⟩
  have hX216 := hX204.tr hx215
  have hd217 := hd205.ext hx215
  have hs218 := Nat.le_trans hs206 hx215.size
  have hd219 := hd207.ext hx215
  have hs220 := Nat.le_trans hs208 hx215.size
  have hd221 := hd209.ext hx215
  have hs222 := Nat.le_trans hs210 hx215.size
  refine ⟨fun _ => (Pins.of_le hX216.pins hx215.le), ?_⟩
  obtain ⟨G226, hle227, hp228, hr229, _⟩ := hd217.read hX216.pins
  refine dr_one (i := 3) (by kernel_rfl) (drOp1 (i := 3) rfl rfl rfl (want_none rfl _) (o_call (vs := [(.agg [u49].toArray), (.agg [u211].toArray)]) Try.func9 nm9 rfl rfl rfl ?_))
  refine Calls.mono (eqForm_same hp228 hr229 (hr214.mono hle227)) ?_
  rintro _ w224 ⟨G223, rfl, hx225⟩
  refine ⟨_, rfl, ?_⟩
  have hx230 := deep_back hX216.pins hx225
  have hX231 := hX216.step hx230.pins hx230.below
  have hd232 := hd217.below hx230.below
  have hs233 := Nat.le_trans hs218 hx230.below.size
  have hd234 := hd219.below hx230.below
  have hs235 := Nat.le_trans hs220 hx230.below.size
  have hd236 := hd221.below hx230.below
  have hs237 := Nat.le_trans hs222 hx230.below.size
  refine ⟨fun _ => (Pins.of_le hX231.pins hx215.le), ?_⟩
  refine dr_take (i := 4) rfl rfl rfl (want_none rfl _) (by kernel_rfl) (fun _ _ => r_not rfl) (Pins.of_le hX231.pins hx215.le) (dr_end (by kernel_rfl) (s_then (c_ifF rfl rfl (wp_skip (s_then (s_seq (s_seq ?_)))))))
  refine c_draw (S := fun wz => Pins G212 wz) (last := 5) (by kernel_rfl) rfl ?_
  have hl238 : Below w224.heap.size w224 w224.drew := (Below.refl _ _).drew
  have hp239 := hX231.pins.below hl238
  have hX240 := hX231.step hp239 hl238
  have hd241 := hd232.below hl238
  have hs242 := Nat.le_trans hs233 hl238.size
  have hd243 := hd234.below hl238
  have hs244 := Nat.le_trans hs235 hl238.size
  have hd245 := hd236.below hl238
  have hs246 := Nat.le_trans hs237 hl238.size
  refine dr_take (i := 0) rfl rfl rfl (want_none rfl _) (by kernel_rfl) (fun _ hS => r_ldpA (cs := [u81]) ag33 sz33 rfl (fun j u hj => (Pins.of_le hS (Pin.le_trans hle180 hx215.le)) _ _ _ (hbp117 _ _ (by simpa using hj)))) hX240.pins (dr_take (i := 1) rfl rfl rfl (want_none rfl _) (by kernel_rfl) (fun _ hS => r_ldpA (cs := [v]) ag24 sz24 rfl (fun j u hj => (Pins.of_le hS (Pin.le_trans (Pin.le_trans (Pin.le_trans (Pin.le_trans (Pin.le_trans (Pin.le_trans (Pin.le_trans (Pin.le_trans hx31.le hx38.le) hle48) hx53.le) hle76) hx85.le) hle115) hle180) hx215.le)) _ _ _ (hbp25 _ _ (by simpa using hj)))) hX240.pins (dr_one (i := 2) (by kernel_rfl) (drOp1 (i := 2) rfl rfl rfl (want_none rfl _) (o_call (vs := [(.agg [v].toArray)]) Try.func6 nm6 rfl rfl rfl ?_))))
  refine Calls.mono (toForm_spec hX240.pins (hv.mono (Pin.le_trans (Pin.le_trans (Pin.le_trans (Pin.le_trans (Pin.le_trans (Pin.le_trans (Pin.le_trans (Pin.le_trans (Pin.le_trans (Pin.le_trans hle10 hle23) hx31.le) hx38.le) hle48) hx53.le) hle76) hx85.le) hle115) hle180) hx215.le)) hsm) ?_
  rintro _ w249 ⟨u247, G248, rfl, hr250, hx251⟩
  refine ⟨_, rfl, ?_⟩
  have hX252 := hX240.tr hx251
  have hd253 := hd241.ext hx251
  have hs254 := Nat.le_trans hs242 hx251.size
  have hd255 := hd243.ext hx251
  have hs256 := Nat.le_trans hs244 hx251.size
  have hd257 := hd245.ext hx251
  have hs258 := Nat.le_trans hs246 hx251.size
  refine ⟨fun _ => (Pins.of_le hX252.pins hx251.le), ?_⟩
  obtain ⟨G262, hle263, hp264, hr265, _⟩ := hd255.read hX252.pins
  refine dr_one (i := 3) (by kernel_rfl) (drOp1 (i := 3) rfl rfl rfl (want_none rfl _) (o_call (vs := [(.agg [u81].toArray), (.agg [u247].toArray)]) Try.func9 nm9 rfl rfl rfl ?_))
  refine Calls.mono (eqForm_same hp264 hr265 (hr250.mono hle263)) ?_
  rintro _ w260 ⟨G259, rfl, hx261⟩
  refine ⟨_, rfl, ?_⟩
  have hx266 := deep_back hX252.pins hx261
  have hX267 := hX252.step hx266.pins hx266.below
  have hd268 := hd253.below hx266.below
  have hs269 := Nat.le_trans hs254 hx266.below.size
  have hd270 := hd255.below hx266.below
  have hs271 := Nat.le_trans hs256 hx266.below.size
  have hd272 := hd257.below hx266.below
  have hs273 := Nat.le_trans hs258 hx266.below.size
  refine ⟨fun _ => (Pins.of_le hX267.pins hx251.le), ?_⟩
  refine dr_take (i := 4) rfl rfl rfl (want_none rfl _) (by kernel_rfl) (fun _ _ => r_not rfl) (Pins.of_le hX267.pins hx251.le) (dr_end (by kernel_rfl) (s_then (c_ifF rfl rfl (wp_skip (s_then (s_seq (c_reg ?_)))))))
  refine qd rfl rfl rfl (r_assign (v := (.int .i64 1)) rfl) (qe (s_then (s_seq (c_reg ?_))))
  refine qd rfl rfl rfl (r_ldpA (cs := [u49]) ag33 sz33 rfl (fun j u hj => (Pins.of_le hX267.pins (Pin.le_trans (Pin.le_trans (Pin.le_trans (Pin.le_trans hx85.le hle115) hle180) hx215.le) hx251.le)) _ _ _ (hbp78 _ _ (by simpa using hj)))) (qd rfl rfl rfl (r_move (v := (.int .i64 1)) rfl) (q1 rfl rfl rfl (o_call (vs := [(.agg [u49].toArray), (.int .i64 1)]) Try.func10 nm10 rfl rfl rfl ?_)))
  refine Calls.mono (markFormX_spec (kz := 1) hX267.pins hd268 hs269 hsn (by omega)) ?_
  rintro _ w274 ⟨rfl, hd275, hx276⟩
  refine ⟨_, rfl, ?_⟩
  have hX277 := hX267.trans hx276 (fun i hi => Or.inl (Nat.le_trans hX47.size hi.1))
  have hd278 := hd270.extS hx276 (fun k h1 h2 h3 => by have := h3.1; have := h3.2; omega)
  have hs279 := Nat.le_trans hs271 hx276.size
  have hd280 := hd272.extS hx276 (fun k h1 h2 h3 => by have := h3.1; have := h3.2; omega)
  have hs281 := Nat.le_trans hs273 hx276.size
  refine qd rfl rfl rfl (r_assign (v := (.int .i64 (1 + totN ns))) rfl) (qe (s_then (s_seq (c_reg ?_))))
  refine qd rfl rfl rfl (r_ldpA (cs := [u81]) ag33 sz33 rfl (fun j u hj => (Pins.of_le hX277.pins (Pin.le_trans (Pin.le_trans hle180 hx215.le) hx251.le)) _ _ _ (hbp117 _ _ (by simpa using hj)))) (qd rfl rfl rfl (r_move (v := (.int .i64 (1 + totN ns))) rfl) (q1 rfl rfl rfl (o_call (vs := [(.agg [u81].toArray), (.int .i64 (1 + totN ns))]) Try.func10 nm10 rfl rfl rfl ?_)))
  refine Calls.mono (markFormX_spec (kz := 1 + totN ns) hX277.pins hd278 hs279 hsm (by omega)) ?_
  rintro _ w282 ⟨rfl, hd283, hx284⟩
  refine ⟨_, rfl, ?_⟩
  have hX285 := hX277.trans hx284 (fun i hi => Or.inl (Nat.le_trans hX77.size hi.1))
  have hd286 := hd280.extS hx284 (fun k h1 h2 h3 => by have := h3.1; have := h3.2; omega)
  have hs287 := Nat.le_trans hs281 hx284.size
  refine qd rfl rfl rfl (r_assign (v := (.int .i64 ((1 + totN ns) + totN ms))) rfl) (qe (s_then (s_seq (s_seq (c_reg ?_)))))
  refine qd rfl rfl rfl (r_move (v := (.int .i64 ((1 + totN ns) + totN ms))) rfl) (qd rfl rfl rfl (r_lss rfl rfl) (qd rfl rfl rfl (r_move (v := (.bool (decide (((1 + totN ns) + totN ms : Int) < 0)))) rfl) (qbd (p := ((1 + totN ns) + totN ms : Int) < 0) (t := 72) rfl (fun h288 => ?_) (fun h288 => ?_))))
  refine qs rfl rfl rfl rfl rfl rfl (qs rfl rfl rfl rfl rfl rfl (qs rfl rfl rfl rfl rfl rfl (qs rfl rfl rfl rfl rfl rfl (qd rfl rfl rfl (r_pickT (v := (.bool true)) rfl rfl) (qd rfl rfl rfl (r_move (v := (.bool true)) rfl) (qs rfl rfl rfl rfl rfl rfl (qs rfl rfl rfl rfl rfl rfl (qs rfl rfl rfl rfl rfl rfl (qd rfl rfl rfl (r_pickT (v := (.bool true)) rfl rfl) (qe (s_then ?_)))))))))))
  refine c_ifT rfl rfl (s_seq (c_reg ?_))
  refine qd rfl rfl rfl (r_assign (v := (.bool false)) rfl) (qe (s_then ?_))
  refine wp_ret (s_ret (c_ret1 (v := (.bool false)) rfl rfl rfl ?_))
  exfalso; omega
  refine qdg rfl rfl rfl rfl rfl rfl (r_ldpA (cs := [u137]) ag28 sz28 rfl (fun j u hj => (Pins.of_le hX285.pins (Pin.le_trans hx215.le hx251.le)) _ _ _ (hbp182 _ _ (by simpa using hj)))) (qdg rfl rfl rfl rfl rfl rfl (r_ldpA (cs := [c42]) ag28 sz28 rfl (fun j u hj => (Pins.of_le hX285.pins (Pin.le_trans (Pin.le_trans (Pin.le_trans (Pin.le_trans (Pin.le_trans (Pin.le_trans hx53.le hle76) hx85.le) hle115) hle180) hx215.le) hx251.le)) _ _ _ (hb46 _ _ (by simpa using hj)))) ?_)
  obtain ⟨G292, hle293, hp294, hr295, _⟩ := hd286.read hX285.pins
  refine q1g rfl rfl rfl rfl rfl rfl (o_call (vs := [(.agg [u137].toArray), (.agg [c42].toArray)]) Try.func8 nm8 rfl rfl rfl ?_)
  refine Calls.mono (eqProof_same hp294 hr295 ((hr45.mono (Pin.le_trans (Pin.le_trans (Pin.le_trans (Pin.le_trans (Pin.le_trans (Pin.le_trans hx53.le hle76) hx85.le) hle115) hle180) hx215.le) hx251.le)).mono hle293)) ?_
  rintro _ w290 ⟨G289, rfl, hx291⟩
  refine ⟨_, rfl, ?_⟩
  have hx296 := deep_back hX285.pins hx291
  have hX297 := hX285.step hx296.pins hx296.below
  have hd298 := hd286.below hx296.below
  have hs299 := Nat.le_trans hs287 hx296.below.size
  refine qdg rfl rfl rfl rfl rfl rfl (r_not rfl) (qd rfl rfl rfl (r_pickF (v := (.bool false)) rfl rfl) (qd rfl rfl rfl (r_move (v := (.bool false)) rfl) (qdg rfl rfl rfl rfl rfl rfl (r_move (v := (.bool (prfB ns ms))) rfl) (qdg rfl rfl rfl rfl rfl rfl (r_move (v := (.bool (prfB ns ms))) rfl) (qdg rfl rfl rfl rfl rfl rfl (r_neqB_same Try.underlying4 rfl rfl) (qd rfl rfl rfl (r_pickF (v := (.bool false)) rfl rfl) (qe (s_then ?_))))))))
  refine c_ifF rfl rfl (wp_skip (s_then (s_seq (c_reg ?_))))
  refine qd rfl rfl rfl (r_assign (v := (.int .i64 1)) rfl) (qe (s_then (s_seq (c_reg ?_))))
  refine qd rfl rfl rfl (r_ldpA (cs := [u137]) ag28 sz28 rfl (fun j u hj => (Pins.of_le hX297.pins (Pin.le_trans hx215.le hx251.le)) _ _ _ (hbp182 _ _ (by simpa using hj)))) (qd rfl rfl rfl (r_move (v := (.int .i64 1)) rfl) (q1 rfl rfl rfl (o_call (vs := [(.agg [u137].toArray), (.int .i64 1)]) Try.func11 nm11 rfl rfl rfl ?_)))
  refine Calls.mono (markProofX_spec (kz := 1) hX297.pins hd298 hs299 (prf_small _ _) (by omega)) ?_
  rintro _ w300 ⟨rfl, hd301, hx302⟩
  refine ⟨_, rfl, ?_⟩
  have hX303 := hX297.trans hx302 (fun i hi => Or.inl (Nat.le_trans hX116.size hi.1))
  obtain ⟨G304, hle305, hp306, hr307, hf308⟩ := hd301.read hX303.pins
  have hX309 := hX303.promise hle305 hp306 hf308 hX116.size
  refine qd rfl rfl rfl (r_assign (v := (.int .i64 (1 + totC (prfL ns ms)))) rfl) (qe (s_then (s_seq (c_reg ?_))))
  refine qd rfl rfl rfl (r_assign (v := (.int .i64 1)) rfl) (qe (s_then (s_seq (c_reg ?_))))
  refine qd rfl rfl rfl (r_ldpA (cs := [u137]) ag28 sz28 rfl (fun j u hj => (Pins.of_le hX309.pins (Pin.le_trans (Pin.le_trans hx215.le hx251.le) hle305)) _ _ _ (hbp182 _ _ (by simpa using hj)))) (qd rfl rfl rfl (r_move (v := (.int .i64 1)) rfl) (q1 rfl rfl rfl (o_call (vs := [(.agg [u137].toArray), (.int .i64 1)]) Try.func12 nm12 rfl rfl rfl ?_)))
  refine Calls.mono (heldProofX_spec (kz := 1) (cs := prfL ns ms) hX309.pins hr307 (prf_small _ _) (by omega)) ?_
  rintro _ w311 ⟨G310, rfl, hx312⟩
  refine ⟨_, rfl, ?_⟩
  have hX313 := hX309.tr hx312
  refine qd rfl rfl rfl (r_assign (v := (.int .i64 (1 + totC (prfL ns ms)))) rfl) (qe (s_then (s_seq (s_seq (c_reg ?_)))))
  refine qd rfl rfl rfl (r_move (v := (.int .i64 (1 + totC (prfL ns ms)))) rfl) (qd rfl rfl rfl (r_lss rfl rfl) (qe (s_then ?_)))
  refine c_ifd (p := (1 + totC (prfL ns ms) : Int) < 0) rfl rfl (fun h314 => ?_) (fun h314 => ?_)
  refine s_seq (c_reg ?_)
  refine qd rfl rfl rfl (r_assign (v := (.bool false)) rfl) (qe (s_then ?_))
  refine wp_ret (s_ret (c_ret1 (v := (.bool false)) rfl rfl rfl ?_))
  exfalso; omega
  refine wp_skip (s_then (s_seq (s_seq (c_reg ?_))))
  refine qd rfl rfl rfl (r_move (v := (.int .i64 (1 + totC (prfL ns ms)))) rfl) (qd rfl rfl rfl (r_move (v := (.int .i64 (1 + totC (prfL ns ms)))) rfl) (qd rfl rfl rfl (r_neq rfl rfl) (qe (s_then ?_))))
  refine c_ifd (p := (1 + totC (prfL ns ms) : Int) ≠ (1 + totC (prfL ns ms))) rfl rfl (fun h315 => ?_) (fun h315 => ?_)
  refine s_seq (c_reg ?_)
  refine qd rfl rfl rfl (r_assign (v := (.bool false)) rfl) (qe (s_then ?_))
  refine wp_ret (s_ret (c_ret1 (v := (.bool false)) rfl rfl rfl ?_))
  exfalso; omega
  refine wp_skip (s_then (s_seq ?_))
  refine c_cut (fun (en : Nat → Value) (W : World) => ∃ (env1 : Nat → Value) (c316 : Nat) (c317 : Value) (G318 : Pin), en = (upd (upd (upd (upd (upd (upd (upd env1 4 (.bool false)) 6 (.pointer (some ⟨c41, 0, none⟩))) 7 (.bool (prfB ns ms))) 10 (.pointer (some ⟨b150, 0, none⟩))) 13 (.int .i64 (1 + totC (prfL ns ms)))) 15 (.pointer (some ⟨c316, 0, none⟩))) 16 (.bool (prfB ns ms))) ∧ Ext noS G w G318 W ∧ Pin.le G310 G318 ∧ (RSl eClaim G318 c317 (prfL ns ms)) ∧ (BxP G318 c316 [c317])) ?_ ?_
  ·rintro _ w319 ⟨env1, c316, c317, G318, rfl, hX322, hle323, hr320, hb321⟩
   refine s_then (s_seq (s_seq (c_reg ?_)))
   refine qd rfl rfl rfl (r_ldpA (cs := [c317]) ag28 sz28 rfl (fun j u hj => hX322.pins _ _ _ (hb321 _ _ (by simpa using hj)))) (qd rfl rfl rfl (r_ldpA (cs := [c42]) ag28 sz28 rfl (fun j u hj => (Pins.of_le hX322.pins (Pin.le_trans (Pin.le_trans (Pin.le_trans (Pin.le_trans (Pin.le_trans (Pin.le_trans (Pin.le_trans (Pin.le_trans (Pin.le_trans hx53.le hle76) hx85.le) hle115) hle180) hx215.le) hx251.le) hle305) hx312.le) hle323)) _ _ _ (hb46 _ _ (by simpa using hj)))) (q1 rfl rfl rfl (o_call (vs := [(.agg [c317].toArray), (.agg [c42].toArray)]) Try.func8 nm8 rfl rfl rfl ?_)))
   refine Calls.mono (eqProof_same hX322.pins hr320 (hr45.mono (Pin.le_trans (Pin.le_trans (Pin.le_trans (Pin.le_trans (Pin.le_trans (Pin.le_trans (Pin.le_trans (Pin.le_trans (Pin.le_trans hx53.le hle76) hx85.le) hle115) hle180) hx215.le) hx251.le) hle305) hx312.le) hle323))) ?_
   rintro _ w325 ⟨G324, rfl, hx326⟩
   refine ⟨_, rfl, ?_⟩
   have hX327 := hX322.tr hx326
   refine qd rfl rfl rfl (r_not rfl) (qd rfl rfl rfl (r_move (v := (.bool false)) rfl) (qdg rfl rfl rfl rfl rfl rfl (r_move (v := (.bool (prfB ns ms))) rfl) (qdg rfl rfl rfl rfl rfl rfl (r_move (v := (.bool (prfB ns ms))) rfl) (qdg rfl rfl rfl rfl rfl rfl (r_neqB_same Try.underlying4 rfl rfl) (qd rfl rfl rfl (r_pickF (v := (.bool false)) rfl rfl) (qe (s_then ?_)))))))
   refine c_ifF rfl rfl (wp_skip (s_then (s_seq (c_reg ?_))))
   refine qd rfl rfl rfl (r_assign (v := (.int .i64 1)) rfl) (qe (s_then (s_seq (c_reg ?_))))
   refine qd rfl rfl rfl (r_ldpA (cs := [u137]) ag28 sz28 rfl (fun j u hj => (Pins.of_le hX327.pins (Pin.le_trans (Pin.le_trans (Pin.le_trans (Pin.le_trans (Pin.le_trans hx215.le hx251.le) hle305) hx312.le) hle323) hx326.le)) _ _ _ (hbp182 _ _ (by simpa using hj)))) (qd rfl rfl rfl (r_move (v := (.int .i64 1)) rfl) (q1 rfl rfl rfl (o_call (vs := [(.agg [u137].toArray), (.int .i64 1)]) Try.func12 nm12 rfl rfl rfl ?_)))
   refine Calls.mono (heldProofX_spec (kz := 1) (cs := prfL ns ms) hX327.pins (hr307.mono (Pin.le_trans (Pin.le_trans hx312.le hle323) hx326.le)) (prf_small _ _) (by omega)) ?_
   rintro _ w329 ⟨G328, rfl, hx330⟩
   refine ⟨_, rfl, ?_⟩
   have hX331 := hX327.tr hx330
   refine qd rfl rfl rfl (r_assign (v := (.int .i64 (1 + totC (prfL ns ms)))) rfl) (qe (s_then (s_seq (s_seq (c_reg ?_)))))
   refine qd rfl rfl rfl (r_move (v := (.int .i64 (1 + totC (prfL ns ms)))) rfl) (qd rfl rfl rfl (r_lss rfl rfl) (qe (s_then ?_)))
   refine c_ifd (p := (1 + totC (prfL ns ms) : Int) < 0) rfl rfl (fun h => absurd h h314) (fun _ => ?_)
   refine wp_skip (s_then (s_seq (s_seq (c_reg ?_))))
   refine qd rfl rfl rfl (r_move (v := (.int .i64 (1 + totC (prfL ns ms)))) rfl) (qd rfl rfl rfl (r_move (v := (.int .i64 (1 + totC (prfL ns ms)))) rfl) (qd rfl rfl rfl (r_neq rfl rfl) (qe (s_then ?_))))
   refine c_ifd (p := (1 + totC (prfL ns ms) : Int) ≠ (1 + totC (prfL ns ms))) rfl rfl (fun h => absurd h h315) (fun _ => ?_)
   refine wp_skip (s_then (s_seq (c_reg ?_)))
   refine qd rfl rfl rfl (r_assign (v := (.bool true)) rfl) (qe (s_then ?_))
   exact wp_ret (s_ret (c_ret1 (v := (.bool true)) rfl rfl rfl (⟨_, rfl, hX331⟩)))
  refine c_draw (S := fun wz => Pins G310 wz) (last := 11) (by kernel_rfl) rfl ?_
  have hl334 : Below w311.heap.size w311 w311.drew := (Below.refl _ _).drew
  have hp335 := hX313.pins.below hl334
  have hX336 := hX313.step hp335 hl334
  refine dr_take (i := 0) rfl rfl rfl (want_none rfl _) (by kernel_rfl) (fun _ hS => r_ldpA (cs := [u]) ag24 sz24 rfl (fun j u hj => (Pins.of_le hS (Pin.le_trans (Pin.le_trans (Pin.le_trans (Pin.le_trans (Pin.le_trans (Pin.le_trans (Pin.le_trans (Pin.le_trans (Pin.le_trans (Pin.le_trans (Pin.le_trans (Pin.le_trans hle23 hx31.le) hx38.le) hle48) hx53.le) hle76) hx85.le) hle115) hle180) hx215.le) hx251.le) hle305) hx312.le)) _ _ _ (hbp12 _ _ (by simpa using hj)))) hX336.pins (dr_take (i := 2) rfl rfl rfl (want_none rfl _) (by kernel_rfl) (fun _ hS => r_ldpA (cs := [v]) ag24 sz24 rfl (fun j u hj => (Pins.of_le hS (Pin.le_trans (Pin.le_trans (Pin.le_trans (Pin.le_trans (Pin.le_trans (Pin.le_trans (Pin.le_trans (Pin.le_trans (Pin.le_trans (Pin.le_trans (Pin.le_trans hx31.le hx38.le) hle48) hx53.le) hle76) hx85.le) hle115) hle180) hx215.le) hx251.le) hle305) hx312.le)) _ _ _ (hbp25 _ _ (by simpa using hj)))) hX336.pins (dr_two (i := 1) (j := 8) (by kernel_rfl) ?_ ?_))
  refine (drOp1 (i := 1) rfl rfl rfl (want_none rfl _) (o_call (vs := [(.agg [u].toArray)]) Try.func6 nm6 rfl rfl rfl ?_))
  refine Calls.mono (toForm_spec hX336.pins (hu.mono (Pin.le_trans (Pin.le_trans (Pin.le_trans (Pin.le_trans (Pin.le_trans (Pin.le_trans (Pin.le_trans (Pin.le_trans (Pin.le_trans (Pin.le_trans (Pin.le_trans (Pin.le_trans (Pin.le_trans hle10 hle23) hx31.le) hx38.le) hle48) hx53.le) hle76) hx85.le) hle115) hle180) hx215.le) hx251.le) hle305) hx312.le)) hsn) ?_
  rintro _ w339 ⟨u337, G338, rfl, hr340, hx341⟩
  refine ⟨_, rfl, ?_⟩
  have hX342 := hX336.tr hx341
  refine ⟨fun _ => (Pins.of_le hX342.pins hx341.le), ?_⟩
  refine dr_two (i := 3) (j := 8) (by kernel_rfl) ?_ ?_
  refine (drOp1 (i := 3) rfl rfl rfl (want_none rfl _) (o_call (vs := [(.agg [v].toArray)]) Try.func6 nm6 rfl rfl rfl ?_))
  refine Calls.mono (toForm_spec hX342.pins (hv.mono (Pin.le_trans (Pin.le_trans (Pin.le_trans (Pin.le_trans (Pin.le_trans (Pin.le_trans (Pin.le_trans (Pin.le_trans (Pin.le_trans (Pin.le_trans (Pin.le_trans (Pin.le_trans (Pin.le_trans (Pin.le_trans hle10 hle23) hx31.le) hx38.le) hle48) hx53.le) hle76) hx85.le) hle115) hle180) hx215.le) hx251.le) hle305) hx312.le) hx341.le)) hsm) ?_
  rintro _ w345 ⟨u343, G344, rfl, hr346, hx347⟩
  refine ⟨_, rfl, ?_⟩
  have hX348 := hX342.tr hx347
  refine ⟨fun _ => (Pins.of_le hX348.pins (Pin.le_trans hx341.le hx347.le)), ?_⟩
  refine dr_two (i := 4) (j := 8) (by kernel_rfl) ?_ ?_
  refine (drOp1 (i := 4) rfl rfl rfl (want_none rfl _) (o_call (vs := [(.agg [u337].toArray), (.agg [u343].toArray)]) Try.func7 nm7 rfl rfl rfl ?_))
  refine Calls.mono (iProofFor_spec hX348.pins (hr340.mono hx347.le) hr346) ?_
  rintro _ w351 ⟨r349, G350, rfl, hr352, hx353⟩
  refine ⟨_, rfl, ?_⟩
  have hX354 := hX348.tr hx353
  refine ⟨fun _ => (Pins.of_le hX354.pins (Pin.le_trans (Pin.le_trans hx341.le hx347.le) hx353.le)), ?_⟩
  refine dr_take (i := 5) rfl rfl rfl (want_none rfl _) (by kernel_rfl) (fun _ _ => r_move (v := (.tuple #[(.agg [r349].toArray), (.bool (prfB ns ms))])) rfl) (Pins.of_le hX354.pins (Pin.le_trans (Pin.le_trans hx341.le hx347.le) hx353.le)) (dr_take (i := 6) rfl rfl rfl (want_none rfl _) (by kernel_rfl) (fun _ _ => r_extract (v := (.agg [r349].toArray)) rfl rfl) (Pins.of_le hX354.pins (Pin.le_trans (Pin.le_trans hx341.le hx347.le) hx353.le)) (dr_take (i := 7) rfl rfl rfl (want_none rfl _) (by kernel_rfl) (fun _ _ => r_extract (v := (.bool (prfB ns ms))) rfl rfl) (Pins.of_le hX354.pins (Pin.le_trans (Pin.le_trans hx341.le hx347.le) hx353.le)) (dr_one (i := 8) (by kernel_rfl) (drOp1 (i := 8) rfl rfl rfl (want_none rfl _) (o_alloc [(.slice none 0 0)] zr28 rfl hX354.pins (fun b355 w356 hk357 hb358 hp359 hl360 => ?_))))))
  have hX361 := hX354.step hp359 hl360
  have hlo362 : w.heap.size ≤ b355 := by have := hX354.size; omega
  refine ⟨fun _ => (Pins.of_le hX361.pins (Pin.le_trans (Pin.le_trans hx341.le hx347.le) hx353.le)), ?_⟩
  refine dr_one (i := 9) (by kernel_rfl) (drOp0 (i := 9) rfl rfl rfl (want_none rfl _) (o_stp (cs' := [r349]) (us := [r349]) (v := (.agg [r349].toArray)) sz28 rfl rfl rfl (ones1 hr352.one) hX361.pins hb358 (Nat.le_of_ble_eq_true rfl) rfl (fun w363 hb364 hp365 hg366 hz367 => ?_)))
  have hX368 := hX361.write hp365 hg366 ((lo_box hlo362))
  obtain ⟨G369, hle370, hX371, hbp372, hf373⟩ := hb364.shut hX368 hlo362
  refine ⟨fun _ => (Pins.of_le hX371.pins (Pin.le_trans (Pin.le_trans (Pin.le_trans hx341.le hx347.le) hx353.le) hle370)), ?_⟩
  exact dr_take (i := 10) rfl rfl rfl (want_none rfl _) (by kernel_rfl) (fun _ _ => r_assign (v := (.bool (prfB ns ms))) rfl) (Pins.of_le hX371.pins (Pin.le_trans (Pin.le_trans (Pin.le_trans hx341.le hx347.le) hx353.le) hle370)) (dr_end (by kernel_rfl) (cut_in ⟨_, b355, r349, G369, (packS (x := 16) (packS (x := 15) (packS (x := 13) (packS (x := 10) (packS (x := 7) (packS (x := 6) (pack1 (x := 4) rfl) rfl) rfl) rfl) rfl) rfl) rfl), hX371, (Pin.le_trans (Pin.le_trans (Pin.le_trans hx341.le hx347.le) hx353.le) hle370), (hr352.mono hle370), (hbp372.mono (Pin.le_refl _))⟩))
  refine (drOp1 (i := 8) rfl rfl rfl (want_none rfl _) (o_alloc [(.slice none 0 0)] zr28 rfl hX348.pins (fun b374 w375 hk376 hb377 hp378 hl379 => ?_)))
  have hX380 := hX348.step hp378 hl379
  have hlo381 : w.heap.size ≤ b374 := by have := hX348.size; omega
  refine ⟨fun _ => (Pins.of_le hX380.pins (Pin.le_trans hx341.le hx347.le)), ?_⟩
  refine dr_one (i := 4) (by kernel_rfl) (drOp1 (i := 4) rfl rfl rfl (want_none rfl _) (o_call (vs := [(.agg [u337].toArray), (.agg [u343].toArray)]) Try.func7 nm7 rfl rfl rfl ?_))
  refine Calls.mono (iProofFor_spec hX380.pins (hr340.mono hx347.le) hr346) ?_
  rintro _ w384 ⟨r382, G383, rfl, hr385, hx386⟩
  refine ⟨_, rfl, ?_⟩
  have hX387 := hX380.tr hx386
  have hb388 := hb377.ext hx386
  refine ⟨fun _ => (Pins.of_le hX387.pins (Pin.le_trans (Pin.le_trans hx341.le hx347.le) hx386.le)), ?_⟩
  refine dr_take (i := 5) rfl rfl rfl (want_none rfl _) (by kernel_rfl) (fun _ _ => r_move (v := (.tuple #[(.agg [r382].toArray), (.bool (prfB ns ms))])) rfl) (Pins.of_le hX387.pins (Pin.le_trans (Pin.le_trans hx341.le hx347.le) hx386.le)) (dr_take (i := 6) rfl rfl rfl (want_none rfl _) (by kernel_rfl) (fun _ _ => r_extract (v := (.agg [r382].toArray)) rfl rfl) (Pins.of_le hX387.pins (Pin.le_trans (Pin.le_trans hx341.le hx347.le) hx386.le)) (dr_take (i := 7) rfl rfl rfl (want_none rfl _) (by kernel_rfl) (fun _ _ => r_extract (v := (.bool (prfB ns ms))) rfl rfl) (Pins.of_le hX387.pins (Pin.le_trans (Pin.le_trans hx341.le hx347.le) hx386.le)) (dr_one (i := 9) (by kernel_rfl) (drOp0 (i := 9) rfl rfl rfl (want_none rfl _) (o_stp (cs' := [r382]) (us := [r382]) (v := (.agg [r382].toArray)) sz28 rfl rfl rfl (ones1 hr385.one) hX387.pins hb388 (Nat.le_of_ble_eq_true rfl) rfl (fun w389 hb390 hp391 hg392 hz393 => ?_))))))
  have hX394 := hX387.write hp391 hg392 ((lo_box hlo381))
  obtain ⟨G395, hle396, hX397, hbp398, hf399⟩ := hb390.shut hX394 hlo381
  refine ⟨fun _ => (Pins.of_le hX397.pins (Pin.le_trans (Pin.le_trans (Pin.le_trans hx341.le hx347.le) hx386.le) hle396)), ?_⟩
  exact dr_take (i := 10) rfl rfl rfl (want_none rfl _) (by kernel_rfl) (fun _ _ => r_assign (v := (.bool (prfB ns ms))) rfl) (Pins.of_le hX397.pins (Pin.le_trans (Pin.le_trans (Pin.le_trans hx341.le hx347.le) hx386.le) hle396)) (dr_end (by kernel_rfl) (cut_in ⟨_, b374, r382, G395, (packS (x := 16) (packS (x := 15) (packS (x := 13) (packS (x := 10) (packS (x := 7) (packS (x := 6) (pack1 (x := 4) rfl) rfl) rfl) rfl) rfl) rfl) rfl), hX397, (Pin.le_trans (Pin.le_trans (Pin.le_trans hx341.le hx347.le) hx386.le) hle396), (hr385.mono hle396), (hbp398.mono (Pin.le_refl _))⟩))
  refine (drOp1 (i := 8) rfl rfl rfl (want_none rfl _) (o_alloc [(.slice none 0 0)] zr28 rfl hX342.pins (fun b400 w401 hk402 hb403 hp404 hl405 => ?_)))
  have hX406 := hX342.step hp404 hl405
  have hlo407 : w.heap.size ≤ b400 := by have := hX342.size; omega
  refine ⟨fun _ => (Pins.of_le hX406.pins hx341.le), ?_⟩
  refine dr_one (i := 3) (by kernel_rfl) (drOp1 (i := 3) rfl rfl rfl (want_none rfl _) (o_call (vs := [(.agg [v].toArray)]) Try.func6 nm6 rfl rfl rfl ?_))
  refine Calls.mono (toForm_spec hX406.pins (hv.mono (Pin.le_trans (Pin.le_trans (Pin.le_trans (Pin.le_trans (Pin.le_trans (Pin.le_trans (Pin.le_trans (Pin.le_trans (Pin.le_trans (Pin.le_trans (Pin.le_trans (Pin.le_trans (Pin.le_trans (Pin.le_trans hle10 hle23) hx31.le) hx38.le) hle48) hx53.le) hle76) hx85.le) hle115) hle180) hx215.le) hx251.le) hle305) hx312.le) hx341.le)) hsm) ?_
  rintro _ w410 ⟨u408, G409, rfl, hr411, hx412⟩
  refine ⟨_, rfl, ?_⟩
  have hX413 := hX406.tr hx412
  have hb414 := hb403.ext hx412
  refine ⟨fun _ => (Pins.of_le hX413.pins (Pin.le_trans hx341.le hx412.le)), ?_⟩
  refine dr_one (i := 4) (by kernel_rfl) (drOp1 (i := 4) rfl rfl rfl (want_none rfl _) (o_call (vs := [(.agg [u337].toArray), (.agg [u408].toArray)]) Try.func7 nm7 rfl rfl rfl ?_))
  refine Calls.mono (iProofFor_spec hX413.pins (hr340.mono hx412.le) hr411) ?_
  rintro _ w417 ⟨r415, G416, rfl, hr418, hx419⟩
  refine ⟨_, rfl, ?_⟩
  have hX420 := hX413.tr hx419
  have hb421 := hb414.ext hx419
  refine ⟨fun _ => (Pins.of_le hX420.pins (Pin.le_trans (Pin.le_trans hx341.le hx412.le) hx419.le)), ?_⟩
  refine dr_take (i := 5) rfl rfl rfl (want_none rfl _) (by kernel_rfl) (fun _ _ => r_move (v := (.tuple #[(.agg [r415].toArray), (.bool (prfB ns ms))])) rfl) (Pins.of_le hX420.pins (Pin.le_trans (Pin.le_trans hx341.le hx412.le) hx419.le)) (dr_take (i := 6) rfl rfl rfl (want_none rfl _) (by kernel_rfl) (fun _ _ => r_extract (v := (.agg [r415].toArray)) rfl rfl) (Pins.of_le hX420.pins (Pin.le_trans (Pin.le_trans hx341.le hx412.le) hx419.le)) (dr_take (i := 7) rfl rfl rfl (want_none rfl _) (by kernel_rfl) (fun _ _ => r_extract (v := (.bool (prfB ns ms))) rfl rfl) (Pins.of_le hX420.pins (Pin.le_trans (Pin.le_trans hx341.le hx412.le) hx419.le)) (dr_one (i := 9) (by kernel_rfl) (drOp0 (i := 9) rfl rfl rfl (want_none rfl _) (o_stp (cs' := [r415]) (us := [r415]) (v := (.agg [r415].toArray)) sz28 rfl rfl rfl (ones1 hr418.one) hX420.pins hb421 (Nat.le_of_ble_eq_true rfl) rfl (fun w422 hb423 hp424 hg425 hz426 => ?_))))))
  have hX427 := hX420.write hp424 hg425 ((lo_box hlo407))
  obtain ⟨G428, hle429, hX430, hbp431, hf432⟩ := hb423.shut hX427 hlo407
  refine ⟨fun _ => (Pins.of_le hX430.pins (Pin.le_trans (Pin.le_trans (Pin.le_trans hx341.le hx412.le) hx419.le) hle429)), ?_⟩
  exact dr_take (i := 10) rfl rfl rfl (want_none rfl _) (by kernel_rfl) (fun _ _ => r_assign (v := (.bool (prfB ns ms))) rfl) (Pins.of_le hX430.pins (Pin.le_trans (Pin.le_trans (Pin.le_trans hx341.le hx412.le) hx419.le) hle429)) (dr_end (by kernel_rfl) (cut_in ⟨_, b400, r415, G428, (packS (x := 16) (packS (x := 15) (packS (x := 13) (packS (x := 10) (packS (x := 7) (packS (x := 6) (pack1 (x := 4) rfl) rfl) rfl) rfl) rfl) rfl) rfl), hX430, (Pin.le_trans (Pin.le_trans (Pin.le_trans hx341.le hx412.le) hx419.le) hle429), (hr418.mono hle429), (hbp431.mono (Pin.le_refl _))⟩))
  refine (drOp1 (i := 8) rfl rfl rfl (want_none rfl _) (o_alloc [(.slice none 0 0)] zr28 rfl hX336.pins (fun b433 w434 hk435 hb436 hp437 hl438 => ?_)))
  have hX439 := hX336.step hp437 hl438
  have hlo440 : w.heap.size ≤ b433 := by have := hX336.size; omega
  refine ⟨fun _ => hX439.pins, ?_⟩
  refine dr_one (i := 1) (by kernel_rfl) (drOp1 (i := 1) rfl rfl rfl (want_none rfl _) (o_call (vs := [(.agg [u].toArray)]) Try.func6 nm6 rfl rfl rfl ?_))
  refine Calls.mono (toForm_spec hX439.pins (hu.mono (Pin.le_trans (Pin.le_trans (Pin.le_trans (Pin.le_trans (Pin.le_trans (Pin.le_trans (Pin.le_trans (Pin.le_trans (Pin.le_trans (Pin.le_trans (Pin.le_trans (Pin.le_trans (Pin.le_trans hle10 hle23) hx31.le) hx38.le) hle48) hx53.le) hle76) hx85.le) hle115) hle180) hx215.le) hx251.le) hle305) hx312.le)) hsn) ?_
  rintro _ w443 ⟨u441, G442, rfl, hr444, hx445⟩
  refine ⟨_, rfl, ?_⟩
  have hX446 := hX439.tr hx445
  have hb447 := hb436.ext hx445
  refine ⟨fun _ => (Pins.of_le hX446.pins hx445.le), ?_⟩
  refine dr_one (i := 3) (by kernel_rfl) (drOp1 (i := 3) rfl rfl rfl (want_none rfl _) (o_call (vs := [(.agg [v].toArray)]) Try.func6 nm6 rfl rfl rfl ?_))
  refine Calls.mono (toForm_spec hX446.pins (hv.mono (Pin.le_trans (Pin.le_trans (Pin.le_trans (Pin.le_trans (Pin.le_trans (Pin.le_trans (Pin.le_trans (Pin.le_trans (Pin.le_trans (Pin.le_trans (Pin.le_trans (Pin.le_trans (Pin.le_trans (Pin.le_trans hle10 hle23) hx31.le) hx38.le) hle48) hx53.le) hle76) hx85.le) hle115) hle180) hx215.le) hx251.le) hle305) hx312.le) hx445.le)) hsm) ?_
  rintro _ w450 ⟨u448, G449, rfl, hr451, hx452⟩
  refine ⟨_, rfl, ?_⟩
  have hX453 := hX446.tr hx452
  have hb454 := hb447.ext hx452
  refine ⟨fun _ => (Pins.of_le hX453.pins (Pin.le_trans hx445.le hx452.le)), ?_⟩
  refine dr_one (i := 4) (by kernel_rfl) (drOp1 (i := 4) rfl rfl rfl (want_none rfl _) (o_call (vs := [(.agg [u441].toArray), (.agg [u448].toArray)]) Try.func7 nm7 rfl rfl rfl ?_))
  refine Calls.mono (iProofFor_spec hX453.pins (hr444.mono hx452.le) hr451) ?_
  rintro _ w457 ⟨r455, G456, rfl, hr458, hx459⟩
  refine ⟨_, rfl, ?_⟩
  have hX460 := hX453.tr hx459
  have hb461 := hb454.ext hx459
  refine ⟨fun _ => (Pins.of_le hX460.pins (Pin.le_trans (Pin.le_trans hx445.le hx452.le) hx459.le)), ?_⟩
  refine dr_take (i := 5) rfl rfl rfl (want_none rfl _) (by kernel_rfl) (fun _ _ => r_move (v := (.tuple #[(.agg [r455].toArray), (.bool (prfB ns ms))])) rfl) (Pins.of_le hX460.pins (Pin.le_trans (Pin.le_trans hx445.le hx452.le) hx459.le)) (dr_take (i := 6) rfl rfl rfl (want_none rfl _) (by kernel_rfl) (fun _ _ => r_extract (v := (.agg [r455].toArray)) rfl rfl) (Pins.of_le hX460.pins (Pin.le_trans (Pin.le_trans hx445.le hx452.le) hx459.le)) (dr_take (i := 7) rfl rfl rfl (want_none rfl _) (by kernel_rfl) (fun _ _ => r_extract (v := (.bool (prfB ns ms))) rfl rfl) (Pins.of_le hX460.pins (Pin.le_trans (Pin.le_trans hx445.le hx452.le) hx459.le)) (dr_one (i := 9) (by kernel_rfl) (drOp0 (i := 9) rfl rfl rfl (want_none rfl _) (o_stp (cs' := [r455]) (us := [r455]) (v := (.agg [r455].toArray)) sz28 rfl rfl rfl (ones1 hr458.one) hX460.pins hb461 (Nat.le_of_ble_eq_true rfl) rfl (fun w462 hb463 hp464 hg465 hz466 => ?_))))))
  have hX467 := hX460.write hp464 hg465 ((lo_box hlo440))
  obtain ⟨G468, hle469, hX470, hbp471, hf472⟩ := hb463.shut hX467 hlo440
  refine ⟨fun _ => (Pins.of_le hX470.pins (Pin.le_trans (Pin.le_trans (Pin.le_trans hx445.le hx452.le) hx459.le) hle469)), ?_⟩
  exact dr_take (i := 10) rfl rfl rfl (want_none rfl _) (by kernel_rfl) (fun _ _ => r_assign (v := (.bool (prfB ns ms))) rfl) (Pins.of_le hX470.pins (Pin.le_trans (Pin.le_trans (Pin.le_trans hx445.le hx452.le) hx459.le) hle469)) (dr_end (by kernel_rfl) (cut_in ⟨_, b433, r455, G468, (packS (x := 16) (packS (x := 15) (packS (x := 13) (packS (x := 10) (packS (x := 7) (packS (x := 6) (pack1 (x := 4) rfl) rfl) rfl) rfl) rfl) rfl) rfl), hX470, (Pin.le_trans (Pin.le_trans (Pin.le_trans hx445.le hx452.le) hx459.le) hle469), (hr458.mono hle469), (hbp471.mono (Pin.le_refl _))⟩))
 refine c_draw (S := fun wz => Pins G35 wz) (last := 11) (by kernel_rfl) rfl ?_
 have hl473 : Below w36.heap.size w36 w36.drew := (Below.refl _ _).drew
 have hp474 := hX39.pins.below hl473
 have hX475 := hX39.step hp474 hl473
 refine dr_take (i := 0) rfl rfl rfl (want_none rfl _) (by kernel_rfl) (fun _ hS => r_ldpA (cs := [u]) ag24 sz24 rfl (fun j u hj => (Pins.of_le hS (Pin.le_trans (Pin.le_trans hle23 hx31.le) hx38.le)) _ _ _ (hbp12 _ _ (by simpa using hj)))) hX475.pins (dr_take (i := 2) rfl rfl rfl (want_none rfl _) (by kernel_rfl) (fun _ hS => r_ldpA (cs := [v]) ag24 sz24 rfl (fun j u hj => (Pins.of_le hS (Pin.le_trans hx31.le hx38.le)) _ _ _ (hbp25 _ _ (by simpa using hj)))) hX475.pins (dr_two (i := 1) (j := 8) (by kernel_rfl) ?_ ?_))
 refine (drOp1 (i := 1) rfl rfl rfl (want_none rfl _) (o_call (vs := [(.agg [u].toArray)]) Try.func6 nm6 rfl rfl rfl ?_))
 refine Calls.mono (toForm_spec hX475.pins (hu.mono (Pin.le_trans (Pin.le_trans (Pin.le_trans hle10 hle23) hx31.le) hx38.le)) hsn) ?_
 rintro _ w478 ⟨u476, G477, rfl, hr479, hx480⟩
 refine ⟨_, rfl, ?_⟩
 have hX481 := hX475.tr hx480
 refine ⟨fun _ => (Pins.of_le hX481.pins hx480.le), ?_⟩
 refine dr_two (i := 3) (j := 8) (by kernel_rfl) ?_ ?_
 refine (drOp1 (i := 3) rfl rfl rfl (want_none rfl _) (o_call (vs := [(.agg [v].toArray)]) Try.func6 nm6 rfl rfl rfl ?_))
 refine Calls.mono (toForm_spec hX481.pins (hv.mono (Pin.le_trans (Pin.le_trans (Pin.le_trans (Pin.le_trans hle10 hle23) hx31.le) hx38.le) hx480.le)) hsm) ?_
 rintro _ w484 ⟨u482, G483, rfl, hr485, hx486⟩
 refine ⟨_, rfl, ?_⟩
 have hX487 := hX481.tr hx486
 refine ⟨fun _ => (Pins.of_le hX487.pins (Pin.le_trans hx480.le hx486.le)), ?_⟩
 refine dr_two (i := 4) (j := 8) (by kernel_rfl) ?_ ?_
 refine (drOp1 (i := 4) rfl rfl rfl (want_none rfl _) (o_call (vs := [(.agg [u476].toArray), (.agg [u482].toArray)]) Try.func5 nm5 rfl rfl rfl ?_))
 refine Calls.mono (sProofFor_spec hX487.pins (hr479.mono hx486.le) hr485) ?_
 rintro _ w490 ⟨r488, G489, rfl, hr491, hx492⟩
 refine ⟨_, rfl, ?_⟩
 have hX493 := hX487.tr hx492
 refine ⟨fun _ => (Pins.of_le hX493.pins (Pin.le_trans (Pin.le_trans hx480.le hx486.le) hx492.le)), ?_⟩
 refine dr_take (i := 5) rfl rfl rfl (want_none rfl _) (by kernel_rfl) (fun _ _ => r_move (v := (.tuple #[(.agg [r488].toArray), (.bool (prfB ns ms))])) rfl) (Pins.of_le hX493.pins (Pin.le_trans (Pin.le_trans hx480.le hx486.le) hx492.le)) (dr_take (i := 6) rfl rfl rfl (want_none rfl _) (by kernel_rfl) (fun _ _ => r_extract (v := (.agg [r488].toArray)) rfl rfl) (Pins.of_le hX493.pins (Pin.le_trans (Pin.le_trans hx480.le hx486.le) hx492.le)) (dr_take (i := 7) rfl rfl rfl (want_none rfl _) (by kernel_rfl) (fun _ _ => r_extract (v := (.bool (prfB ns ms))) rfl rfl) (Pins.of_le hX493.pins (Pin.le_trans (Pin.le_trans hx480.le hx486.le) hx492.le)) (dr_one (i := 8) (by kernel_rfl) (drOp1 (i := 8) rfl rfl rfl (want_none rfl _) (o_alloc [(.slice none 0 0)] zr28 rfl hX493.pins (fun b494 w495 hk496 hb497 hp498 hl499 => ?_))))))
 have hX500 := hX493.step hp498 hl499
 have hlo501 : w.heap.size ≤ b494 := by have := hX493.size; omega
 refine ⟨fun _ => (Pins.of_le hX500.pins (Pin.le_trans (Pin.le_trans hx480.le hx486.le) hx492.le)), ?_⟩
 refine dr_one (i := 9) (by kernel_rfl) (drOp0 (i := 9) rfl rfl rfl (want_none rfl _) (o_stp (cs' := [r488]) (us := [r488]) (v := (.agg [r488].toArray)) sz28 rfl rfl rfl (ones1 hr491.one) hX500.pins hb497 (Nat.le_of_ble_eq_true rfl) rfl (fun w502 hb503 hp504 hg505 hz506 => ?_)))
 have hX507 := hX500.write hp504 hg505 ((lo_box hlo501))
 obtain ⟨G508, hle509, hX510, hbp511, hf512⟩ := hb503.shut hX507 hlo501
 refine ⟨fun _ => (Pins.of_le hX510.pins (Pin.le_trans (Pin.le_trans (Pin.le_trans hx480.le hx486.le) hx492.le) hle509)), ?_⟩
 exact dr_take (i := 10) rfl rfl rfl (want_none rfl _) (by kernel_rfl) (fun _ _ => r_assign (v := (.bool (prfB ns ms))) rfl) (Pins.of_le hX510.pins (Pin.le_trans (Pin.le_trans (Pin.le_trans hx480.le hx486.le) hx492.le) hle509)) (dr_end (by kernel_rfl) (cut_in ⟨_, b494, r488, G508, (packS (x := 7) (packS (x := 6) (packS (x := 4) (packS (x := 3) (pack1 (x := 2) rfl) rfl) rfl) rfl) rfl), hX510, (Pin.le_trans (Pin.le_trans (Pin.le_trans hx480.le hx486.le) hx492.le) hle509), (hr491.mono hle509), (hbp511.mono (Pin.le_refl _))⟩))
 refine (drOp1 (i := 8) rfl rfl rfl (want_none rfl _) (o_alloc [(.slice none 0 0)] zr28 rfl hX487.pins (fun b513 w514 hk515 hb516 hp517 hl518 => ?_)))
 have hX519 := hX487.step hp517 hl518
 have hlo520 : w.heap.size ≤ b513 := by have := hX487.size; omega
 refine ⟨fun _ => (Pins.of_le hX519.pins (Pin.le_trans hx480.le hx486.le)), ?_⟩
 refine dr_one (i := 4) (by kernel_rfl) (drOp1 (i := 4) rfl rfl rfl (want_none rfl _) (o_call (vs := [(.agg [u476].toArray), (.agg [u482].toArray)]) Try.func5 nm5 rfl rfl rfl ?_))
 refine Calls.mono (sProofFor_spec hX519.pins (hr479.mono hx486.le) hr485) ?_
 rintro _ w523 ⟨r521, G522, rfl, hr524, hx525⟩
 refine ⟨_, rfl, ?_⟩
 have hX526 := hX519.tr hx525
 have hb527 := hb516.ext hx525
 refine ⟨fun _ => (Pins.of_le hX526.pins (Pin.le_trans (Pin.le_trans hx480.le hx486.le) hx525.le)), ?_⟩
 refine dr_take (i := 5) rfl rfl rfl (want_none rfl _) (by kernel_rfl) (fun _ _ => r_move (v := (.tuple #[(.agg [r521].toArray), (.bool (prfB ns ms))])) rfl) (Pins.of_le hX526.pins (Pin.le_trans (Pin.le_trans hx480.le hx486.le) hx525.le)) (dr_take (i := 6) rfl rfl rfl (want_none rfl _) (by kernel_rfl) (fun _ _ => r_extract (v := (.agg [r521].toArray)) rfl rfl) (Pins.of_le hX526.pins (Pin.le_trans (Pin.le_trans hx480.le hx486.le) hx525.le)) (dr_take (i := 7) rfl rfl rfl (want_none rfl _) (by kernel_rfl) (fun _ _ => r_extract (v := (.bool (prfB ns ms))) rfl rfl) (Pins.of_le hX526.pins (Pin.le_trans (Pin.le_trans hx480.le hx486.le) hx525.le)) (dr_one (i := 9) (by kernel_rfl) (drOp0 (i := 9) rfl rfl rfl (want_none rfl _) (o_stp (cs' := [r521]) (us := [r521]) (v := (.agg [r521].toArray)) sz28 rfl rfl rfl (ones1 hr524.one) hX526.pins hb527 (Nat.le_of_ble_eq_true rfl) rfl (fun w528 hb529 hp530 hg531 hz532 => ?_))))))
 have hX533 := hX526.write hp530 hg531 ((lo_box hlo520))
 obtain ⟨G534, hle535, hX536, hbp537, hf538⟩ := hb529.shut hX533 hlo520
 refine ⟨fun _ => (Pins.of_le hX536.pins (Pin.le_trans (Pin.le_trans (Pin.le_trans hx480.le hx486.le) hx525.le) hle535)), ?_⟩
 exact dr_take (i := 10) rfl rfl rfl (want_none rfl _) (by kernel_rfl) (fun _ _ => r_assign (v := (.bool (prfB ns ms))) rfl) (Pins.of_le hX536.pins (Pin.le_trans (Pin.le_trans (Pin.le_trans hx480.le hx486.le) hx525.le) hle535)) (dr_end (by kernel_rfl) (cut_in ⟨_, b513, r521, G534, (packS (x := 7) (packS (x := 6) (packS (x := 4) (packS (x := 3) (pack1 (x := 2) rfl) rfl) rfl) rfl) rfl), hX536, (Pin.le_trans (Pin.le_trans (Pin.le_trans hx480.le hx486.le) hx525.le) hle535), (hr524.mono hle535), (hbp537.mono (Pin.le_refl _))⟩))
 refine (drOp1 (i := 8) rfl rfl rfl (want_none rfl _) (o_alloc [(.slice none 0 0)] zr28 rfl hX481.pins (fun b539 w540 hk541 hb542 hp543 hl544 => ?_)))
 have hX545 := hX481.step hp543 hl544
 have hlo546 : w.heap.size ≤ b539 := by have := hX481.size; omega
 refine ⟨fun _ => (Pins.of_le hX545.pins hx480.le), ?_⟩
 refine dr_one (i := 3) (by kernel_rfl) (drOp1 (i := 3) rfl rfl rfl (want_none rfl _) (o_call (vs := [(.agg [v].toArray)]) Try.func6 nm6 rfl rfl rfl ?_))
 refine Calls.mono (toForm_spec hX545.pins (hv.mono (Pin.le_trans (Pin.le_trans (Pin.le_trans (Pin.le_trans hle10 hle23) hx31.le) hx38.le) hx480.le)) hsm) ?_
 rintro _ w549 ⟨u547, G548, rfl, hr550, hx551⟩
 refine ⟨_, rfl, ?_⟩
 have hX552 := hX545.tr hx551
 have hb553 := hb542.ext hx551
 refine ⟨fun _ => (Pins.of_le hX552.pins (Pin.le_trans hx480.le hx551.le)), ?_⟩
 refine dr_one (i := 4) (by kernel_rfl) (drOp1 (i := 4) rfl rfl rfl (want_none rfl _) (o_call (vs := [(.agg [u476].toArray), (.agg [u547].toArray)]) Try.func5 nm5 rfl rfl rfl ?_))
 refine Calls.mono (sProofFor_spec hX552.pins (hr479.mono hx551.le) hr550) ?_
 rintro _ w556 ⟨r554, G555, rfl, hr557, hx558⟩
 refine ⟨_, rfl, ?_⟩
 have hX559 := hX552.tr hx558
 have hb560 := hb553.ext hx558
 refine ⟨fun _ => (Pins.of_le hX559.pins (Pin.le_trans (Pin.le_trans hx480.le hx551.le) hx558.le)), ?_⟩
 refine dr_take (i := 5) rfl rfl rfl (want_none rfl _) (by kernel_rfl) (fun _ _ => r_move (v := (.tuple #[(.agg [r554].toArray), (.bool (prfB ns ms))])) rfl) (Pins.of_le hX559.pins (Pin.le_trans (Pin.le_trans hx480.le hx551.le) hx558.le)) (dr_take (i := 6) rfl rfl rfl (want_none rfl _) (by kernel_rfl) (fun _ _ => r_extract (v := (.agg [r554].toArray)) rfl rfl) (Pins.of_le hX559.pins (Pin.le_trans (Pin.le_trans hx480.le hx551.le) hx558.le)) (dr_take (i := 7) rfl rfl rfl (want_none rfl _) (by kernel_rfl) (fun _ _ => r_extract (v := (.bool (prfB ns ms))) rfl rfl) (Pins.of_le hX559.pins (Pin.le_trans (Pin.le_trans hx480.le hx551.le) hx558.le)) (dr_one (i := 9) (by kernel_rfl) (drOp0 (i := 9) rfl rfl rfl (want_none rfl _) (o_stp (cs' := [r554]) (us := [r554]) (v := (.agg [r554].toArray)) sz28 rfl rfl rfl (ones1 hr557.one) hX559.pins hb560 (Nat.le_of_ble_eq_true rfl) rfl (fun w561 hb562 hp563 hg564 hz565 => ?_))))))
 have hX566 := hX559.write hp563 hg564 ((lo_box hlo546))
 obtain ⟨G567, hle568, hX569, hbp570, hf571⟩ := hb562.shut hX566 hlo546
 refine ⟨fun _ => (Pins.of_le hX569.pins (Pin.le_trans (Pin.le_trans (Pin.le_trans hx480.le hx551.le) hx558.le) hle568)), ?_⟩
 exact dr_take (i := 10) rfl rfl rfl (want_none rfl _) (by kernel_rfl) (fun _ _ => r_assign (v := (.bool (prfB ns ms))) rfl) (Pins.of_le hX569.pins (Pin.le_trans (Pin.le_trans (Pin.le_trans hx480.le hx551.le) hx558.le) hle568)) (dr_end (by kernel_rfl) (cut_in ⟨_, b539, r554, G567, (packS (x := 7) (packS (x := 6) (packS (x := 4) (packS (x := 3) (pack1 (x := 2) rfl) rfl) rfl) rfl) rfl), hX569, (Pin.le_trans (Pin.le_trans (Pin.le_trans hx480.le hx551.le) hx558.le) hle568), (hr557.mono hle568), (hbp570.mono (Pin.le_refl _))⟩))
 refine (drOp1 (i := 8) rfl rfl rfl (want_none rfl _) (o_alloc [(.slice none 0 0)] zr28 rfl hX475.pins (fun b572 w573 hk574 hb575 hp576 hl577 => ?_)))
 have hX578 := hX475.step hp576 hl577
 have hlo579 : w.heap.size ≤ b572 := by have := hX475.size; omega
 refine ⟨fun _ => hX578.pins, ?_⟩
 refine dr_one (i := 1) (by kernel_rfl) (drOp1 (i := 1) rfl rfl rfl (want_none rfl _) (o_call (vs := [(.agg [u].toArray)]) Try.func6 nm6 rfl rfl rfl ?_))
 refine Calls.mono (toForm_spec hX578.pins (hu.mono (Pin.le_trans (Pin.le_trans (Pin.le_trans hle10 hle23) hx31.le) hx38.le)) hsn) ?_
 rintro _ w582 ⟨u580, G581, rfl, hr583, hx584⟩
 refine ⟨_, rfl, ?_⟩
 have hX585 := hX578.tr hx584
 have hb586 := hb575.ext hx584
 refine ⟨fun _ => (Pins.of_le hX585.pins hx584.le), ?_⟩
 refine dr_one (i := 3) (by kernel_rfl) (drOp1 (i := 3) rfl rfl rfl (want_none rfl _) (o_call (vs := [(.agg [v].toArray)]) Try.func6 nm6 rfl rfl rfl ?_))
 refine Calls.mono (toForm_spec hX585.pins (hv.mono (Pin.le_trans (Pin.le_trans (Pin.le_trans (Pin.le_trans hle10 hle23) hx31.le) hx38.le) hx584.le)) hsm) ?_
 rintro _ w589 ⟨u587, G588, rfl, hr590, hx591⟩
 refine ⟨_, rfl, ?_⟩
 have hX592 := hX585.tr hx591
 have hb593 := hb586.ext hx591
 refine ⟨fun _ => (Pins.of_le hX592.pins (Pin.le_trans hx584.le hx591.le)), ?_⟩
 refine dr_one (i := 4) (by kernel_rfl) (drOp1 (i := 4) rfl rfl rfl (want_none rfl _) (o_call (vs := [(.agg [u580].toArray), (.agg [u587].toArray)]) Try.func5 nm5 rfl rfl rfl ?_))
 refine Calls.mono (sProofFor_spec hX592.pins (hr583.mono hx591.le) hr590) ?_
 rintro _ w596 ⟨r594, G595, rfl, hr597, hx598⟩
 refine ⟨_, rfl, ?_⟩
 have hX599 := hX592.tr hx598
 have hb600 := hb593.ext hx598
 refine ⟨fun _ => (Pins.of_le hX599.pins (Pin.le_trans (Pin.le_trans hx584.le hx591.le) hx598.le)), ?_⟩
 refine dr_take (i := 5) rfl rfl rfl (want_none rfl _) (by kernel_rfl) (fun _ _ => r_move (v := (.tuple #[(.agg [r594].toArray), (.bool (prfB ns ms))])) rfl) (Pins.of_le hX599.pins (Pin.le_trans (Pin.le_trans hx584.le hx591.le) hx598.le)) (dr_take (i := 6) rfl rfl rfl (want_none rfl _) (by kernel_rfl) (fun _ _ => r_extract (v := (.agg [r594].toArray)) rfl rfl) (Pins.of_le hX599.pins (Pin.le_trans (Pin.le_trans hx584.le hx591.le) hx598.le)) (dr_take (i := 7) rfl rfl rfl (want_none rfl _) (by kernel_rfl) (fun _ _ => r_extract (v := (.bool (prfB ns ms))) rfl rfl) (Pins.of_le hX599.pins (Pin.le_trans (Pin.le_trans hx584.le hx591.le) hx598.le)) (dr_one (i := 9) (by kernel_rfl) (drOp0 (i := 9) rfl rfl rfl (want_none rfl _) (o_stp (cs' := [r594]) (us := [r594]) (v := (.agg [r594].toArray)) sz28 rfl rfl rfl (ones1 hr597.one) hX599.pins hb600 (Nat.le_of_ble_eq_true rfl) rfl (fun w601 hb602 hp603 hg604 hz605 => ?_))))))
 have hX606 := hX599.write hp603 hg604 ((lo_box hlo579))
 obtain ⟨G607, hle608, hX609, hbp610, hf611⟩ := hb602.shut hX606 hlo579
 refine ⟨fun _ => (Pins.of_le hX609.pins (Pin.le_trans (Pin.le_trans (Pin.le_trans hx584.le hx591.le) hx598.le) hle608)), ?_⟩
 exact dr_take (i := 10) rfl rfl rfl (want_none rfl _) (by kernel_rfl) (fun _ _ => r_assign (v := (.bool (prfB ns ms))) rfl) (Pins.of_le hX609.pins (Pin.le_trans (Pin.le_trans (Pin.le_trans hx584.le hx591.le) hx598.le) hle608)) (dr_end (by kernel_rfl) (cut_in ⟨_, b572, r594, G607, (packS (x := 7) (packS (x := 6) (packS (x := 4) (packS (x := 3) (pack1 (x := 2) rfl) rfl) rfl) rfl) rfl), hX609, (Pin.le_trans (Pin.le_trans (Pin.le_trans hx584.le hx591.le) hx598.le) hle608), (hr597.mono hle608), (hbp610.mono (Pin.le_refl _))⟩))

end LPF
end Go.Proofs.Ytdleojbknkbpiaa
