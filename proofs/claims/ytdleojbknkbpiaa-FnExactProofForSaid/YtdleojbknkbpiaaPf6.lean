/- Texts of this claim in one file: P1, PF1, PF2, OR1, SF1, PF3, PF4, Q1. -/
import Derived.Test.YtdleojbknkbpiaaPf5
import Derived.Test.YtdleojbknkbpiaaChecked
set_option maxRecDepth 20000
set_option maxHeartbeats 2000000
namespace Go.Proofs.Ytdleojbknkbpiaa
namespace P1
open Go.RowKit Go.GL Go.Proofs
open B1 C1 E1












theorem rightsOf_spec {w : World} {G : Pin} {u v : Value} {ns bs : List Nd} {x y : Int} (hP : Pins G w) (hu : RSl eNode G u ns) (hv : RSl eNode G v bs) (hx : 0 ≤ x ∧ x < ns.length) (hy : 0 ≤ y ∧ y < bs.length) (hs : (ns.getD x.toNat default).l.length ≤ 1048576 ∧ (bs.getD y.toNat default).r.length ≤ 1048576) :
  Calls Try.prog 47 [u, v, (.int .i64 x), (.int .i64 y)].toArray w fun e w' => ∃ (u : Value) (G' : Pin), e = .returned u ∧ Own eP2 52 G' w' w.heap.size u (rightsP ns bs x y) ∧ Ext noS G w G' w' := by
 refine s_enter (n := 50) Try.func47 Try.ntmps47 rfl rfl ?_
 have hX0 : Ext noS G w G w := Ext.refl hP
 refine s_seq (c_reg ?_)
 refine qd rfl rfl rfl (r_assign (v := (.slice none 0 0)) rfl) (qe (s_then (s_seq (c_reg ?_))))
 refine q1 rfl rfl rfl (o_build0 (E := eP2) (e := 52) Try.underlying84 sz52 hX0.pins (fun u1 w2 ho3 hp4 hl5 hk6 => ?_))
 have hX7 := hX0.step hp4 hl5
 have ho8 : Own eP2 52 G w2 w.heap.size u1 ([]) := ho3.weaken hX0.size
 refine qd rfl rfl rfl (r_assign (v := u1) rfl) (qe (s_then (s_seq (s_seq (c_reg ?_)))))
 refine qd rfl rfl rfl (r_move (v := u) rfl) (qd rfl rfl rfl (r_move (v := (.int .i64 x)) rfl) (qd rfl rfl rfl (run_idx Try.underlying31 sz62 (v := u) rfl rfl hu (by omega) (by omega)) (qd rfl rfl rfl (run_fld (off := 0) Try.underlying62 rfl rfl nz47 (z := x) (k := 0) rfl hu (by omega) (by omega)) ?_)))
 obtain ⟨u9, hr10, hl11⟩ := nm_nl (hu.at (z := x) (by omega) (by omega)) (j := (x).toNat) rfl
 have hm12 := hr10.max
 refine qd rfl rfl rfl (hl11 ag47 rfl hX7.pins) (qd rfl rfl rfl (run_len Try.underlying47 (v := u9) rfl hr10) (qd rfl rfl rfl (r_move (v := (.int .i64 0)) rfl) (qe (s_then ?_))))
 refine s_blk (s_loop (fun (k : Nat) (en : Nat → Value) (W : World) => ∃ (env1 : Nat → Value) (j : Nat) (o : Value) (os : List (Int × Int)), en = (upd (upd (upd (upd (upd (upd (upd (upd env1 1 v) 2 (.int .i64 x)) 3 (.int .i64 y)) 8 (.slice none 0 0)) 9 o) 19 u9) 20 (.int .i64 (((ns.getD (x).toNat default).l).length : Int))) 21 (.int .i64 (j : Int))) ∧ k = (ns.getD x.toNat default).l.length - j ∧ Ext noS G w G W ∧ (j ≤ (ns.getD x.toNat default).l.length) ∧ (os = ((ns.getD x.toNat default).l.take j).map (fun l => (l, y))) ∧ (os.length = j) ∧ (Own eP2 52 G W w.heap.size o (os))) _ ⟨_, 0, u1, [], (packS (x := 21) (packS (x := 20) (packS (x := 19) (packS (x := 9) (packS (x := 8) (packS (x := 3) (packS (x := 2) (pack1 (x := 1) rfl) rfl) rfl) rfl) rfl) rfl) rfl) rfl), rfl, hX7, Nat.zero_le _, rfl, rfl, ho8⟩ ?_)
 rintro k13 _ w14 ⟨env1, j, o, os, rfl, hk15, hX16, hj, hr, hol, hw17⟩
 refine s_seq (c_reg ?_)
 refine qd rfl rfl rfl (r_lss rfl rfl) (qe (s_then (s_seq ?_)))
 refine c_ifd (p := ((j : Int) : Int) < (((ns.getD (x).toNat default).l).length : Int)) rfl rfl (fun h18 => ?_) (fun h18 => ?_)
 refine wp_skip (s_then (s_seq ?_))
 refine s_blk (s_seq (c_reg ?_))
 refine qd rfl rfl rfl (run_idx Try.underlying47 sz3 (v := u9) rfl rfl hr10 (by omega) (by omega)) (qd rfl rfl rfl (run_load_int (r := ((ns.getD (x).toNat default).l).getD j 0) rfl ag3 (z := (j : Int)) rfl hr10 hX16.pins (by omega) (by omega)) (qd rfl rfl rfl (r_assign (v := (.int .i64 (((ns.getD (x).toNat default).l).getD j 0))) rfl) (qe (s_then (c_reg ?_)))))
 refine qd rfl rfl rfl (r_move (v := o) rfl) (qd rfl rfl rfl (r_move (v := (.int .i64 (((ns.getD (x).toNat default).l).getD j 0))) rfl) (qd rfl rfl rfl (r_move (v := (.int .i64 y)) rfl) (qd rfl rfl rfl (r_buildA (m := 1) [(.int .i64 0), (.int .i64 0)] [(.int .i64 (((ns.getD (x).toNat default).l).getD j 0)), (.int .i64 y)] [(0, (.int .i64 (((ns.getD (x).toNat default).l).getD j 0)), [(.int .i64 (((ns.getD (x).toNat default).l).getD j 0))]), (1, (.int .i64 y), [(.int .i64 y)])] Try.underlying52 zr52 rfl sz3 rfl (List.forall_mem_cons.2 ⟨rfl, (List.forall_mem_cons.2 ⟨rfl, (fun _ h => by cases h)⟩)⟩) rfl) (q1 rfl rfl rfl (o_build1 (E := eP2) (e := 52) [(.int .i64 (((ns.getD (x).toNat default).l).getD j 0)), (.int .i64 y)] (((ns.getD (x).toNat default).l).getD j 0, y) Try.underlying84 sz52 zr52 rfl rfl (by decide) hX16.pins (fun u19 w20 ho21 hp22 hl23 hk24 => ?_))))))
 have hX25 := hX16.step hp22 hl23
 have ho26 := hw17.below hl23
 have ho28 : Own eP2 52 G w20 w.heap.size u19 ([(((ns.getD (x).toNat default).l).getD j 0, y)]) := ho21.weaken hX16.size
 refine q1 rfl rfl rfl (o_append (E := eP2) (v := o) (u := u19) 16 Try.underlying84 ap52 (by decide) rfl rfl hX25.pins ho26 ho28.src (by first | omega | (rw [List.nil_append]; omega) | (rw [List.length_nil]; omega) | (rw [List.length_append]; omega) | (simp; done) | (simp; omega) | (simp only [List.length_append, List.length_cons, List.length_nil]; omega)) (by first | omega | (rw [List.nil_append]; omega) | (rw [List.length_nil]; omega) | (rw [List.length_append]; omega) | (simp; done) | (simp; omega) | (simp only [List.length_append, List.length_cons, List.length_nil]; omega)) (hX25.size) (fun u29 w30 ho31 hp32 hg33 hw34 => ?_))
 have hX35 := hX25.write hp32 hg33 ((lo_own ho26))
 have hm38 : (os ++ ([(((ns.getD (x).toNat default).l).getD j 0, y)])).length = os.length + 1 := List.length_append
 refine qd rfl rfl rfl (r_assign (v := u29) rfl) (qe (s_blkN (s_then (c_reg ?_))))
 refine qd rfl rfl rfl (r_add rfl rfl (by omega)) (qd rfl rfl rfl (r_move (v := (.int .i64 ((j : Int) + 1))) rfl) (qe (s_lopN (⟨_, ?_, _, rfl, _, j + 1, u29, os ++ [((ns.getD x.toNat default).l.getD j 0, y)], (packS (x := 21) (packS (x := 20) (packS (x := 19) (packS (x := 9) (packS (x := 8) (packS (x := 3) (packS (x := 2) (pack1 (x := 1) rfl) rfl) rfl) rfl) rfl) rfl) rfl) rfl), rfl, hX35, (by omega), (by rw [hr]; exact map_next (f := (fun l => (l, y))) 0 (by omega)), (by rw [List.length_append, hol]; rfl), ho31⟩))))
 omega
 refine wp_exit (s_thenE (s_lopE (s_blkE (s_then (s_seq (s_seq (c_reg ?_)))))))
 refine qd rfl rfl rfl (r_move (v := v) rfl) (qd rfl rfl rfl (r_move (v := (.int .i64 y)) rfl) (qd rfl rfl rfl (run_idx Try.underlying31 sz62 (v := v) rfl rfl hv (by omega) (by omega)) (qd rfl rfl rfl (run_fld (off := 1) Try.underlying62 rfl rfl nz47 (z := y) (k := 0) rfl hv (by omega) (by omega)) ?_)))
 obtain ⟨u39, hr40, hl41⟩ := nm_nr (hv.at (z := y) (by omega) (by omega)) (j := (y).toNat) rfl
 have hm42 := hr40.max
 refine qd rfl rfl rfl (hl41 ag47 rfl hX16.pins) (qd rfl rfl rfl (run_len Try.underlying47 (v := u39) rfl hr40) (qd rfl rfl rfl (r_move (v := (.int .i64 0)) rfl) (qe (s_then ?_))))
 refine s_blk (s_loop (fun (k : Nat) (en : Nat → Value) (W : World) => ∃ (env1 : Nat → Value) (q : Nat) (o2 : Value) (os2 : List (Int × Int)), en = (upd (upd (upd (upd (upd (upd env1 2 (.int .i64 x)) 8 (.slice none 0 0)) 9 o2) 36 u39) 37 (.int .i64 (((bs.getD (y).toNat default).r).length : Int))) 38 (.int .i64 (q : Int))) ∧ k = (bs.getD y.toNat default).r.length - q ∧ Ext noS G w G W ∧ (q ≤ (bs.getD y.toNat default).r.length) ∧ (os2 = os ++ ((bs.getD y.toNat default).r.take q).map (fun k => (x, k))) ∧ (os2.length = j + q) ∧ (Own eP2 52 G W w.heap.size o2 (os2))) _ ⟨_, 0, o, os, (packS (x := 38) (packS (x := 37) (packS (x := 36) (packS (x := 9) (packS (x := 8) (pack1 (x := 2) rfl) rfl) rfl) rfl) rfl) rfl), rfl, hX16, Nat.zero_le _, (by simp), hol, hw17⟩ ?_)
 rintro k43 _ w44 ⟨env1, q, o2, os2, rfl, hk45, hX46, hq, hr2, hol2, hw47⟩
 refine s_seq (c_reg ?_)
 refine qd rfl rfl rfl (r_lss rfl rfl) (qe (s_then (s_seq ?_)))
 refine c_ifd (p := ((q : Int) : Int) < (((bs.getD (y).toNat default).r).length : Int)) rfl rfl (fun h48 => ?_) (fun h48 => ?_)
 refine wp_skip (s_then (s_seq ?_))
 refine s_blk (s_seq (c_reg ?_))
 refine qd rfl rfl rfl (run_idx Try.underlying47 sz3 (v := u39) rfl rfl hr40 (by omega) (by omega)) (qd rfl rfl rfl (run_load_int (r := ((bs.getD (y).toNat default).r).getD q 0) rfl ag3 (z := (q : Int)) rfl hr40 hX46.pins (by omega) (by omega)) (qd rfl rfl rfl (r_assign (v := (.int .i64 (((bs.getD (y).toNat default).r).getD q 0))) rfl) (qe (s_then (c_reg ?_)))))
 refine qd rfl rfl rfl (r_move (v := o2) rfl) (qd rfl rfl rfl (r_move (v := (.int .i64 x)) rfl) (qd rfl rfl rfl (r_move (v := (.int .i64 (((bs.getD (y).toNat default).r).getD q 0))) rfl) (qd rfl rfl rfl (r_buildA (m := 1) [(.int .i64 0), (.int .i64 0)] [(.int .i64 x), (.int .i64 (((bs.getD (y).toNat default).r).getD q 0))] [(0, (.int .i64 x), [(.int .i64 x)]), (1, (.int .i64 (((bs.getD (y).toNat default).r).getD q 0)), [(.int .i64 (((bs.getD (y).toNat default).r).getD q 0))])] Try.underlying52 zr52 rfl sz3 rfl (List.forall_mem_cons.2 ⟨rfl, (List.forall_mem_cons.2 ⟨rfl, (fun _ h => by cases h)⟩)⟩) rfl) (q1 rfl rfl rfl (o_build1 (E := eP2) (e := 52) [(.int .i64 x), (.int .i64 (((bs.getD (y).toNat default).r).getD q 0))] (x, ((bs.getD (y).toNat default).r).getD q 0) Try.underlying84 sz52 zr52 rfl rfl (by decide) hX46.pins (fun u49 w50 ho51 hp52 hl53 hk54 => ?_))))))
 have hX55 := hX46.step hp52 hl53
 have ho56 := hw47.below hl53
 have ho58 : Own eP2 52 G w50 w.heap.size u49 ([(x, ((bs.getD (y).toNat default).r).getD q 0)]) := ho51.weaken hX46.size
 refine q1 rfl rfl rfl (o_append (E := eP2) (v := o2) (u := u49) 16 Try.underlying84 ap52 (by decide) rfl rfl hX55.pins ho56 ho58.src (by first | omega | (rw [List.nil_append]; omega) | (rw [List.length_nil]; omega) | (rw [List.length_append]; omega) | (simp; done) | (simp; omega) | (simp only [List.length_append, List.length_cons, List.length_nil]; omega)) (by first | omega | (rw [List.nil_append]; omega) | (rw [List.length_nil]; omega) | (rw [List.length_append]; omega) | (simp; done) | (simp; omega) | (simp only [List.length_append, List.length_cons, List.length_nil]; omega)) (hX55.size) (fun u59 w60 ho61 hp62 hg63 hw64 => ?_))
 have hX65 := hX55.write hp62 hg63 ((lo_own ho56))
 have hm68 : (os2 ++ ([(x, ((bs.getD (y).toNat default).r).getD q 0)])).length = os2.length + 1 := List.length_append
 refine qd rfl rfl rfl (r_assign (v := u59) rfl) (qe (s_blkN (s_then (c_reg ?_))))
 refine qd rfl rfl rfl (r_add rfl rfl (by omega)) (qd rfl rfl rfl (r_move (v := (.int .i64 ((q : Int) + 1))) rfl) (qe (s_lopN (⟨_, ?_, _, rfl, _, q + 1, u59, os2 ++ [(x, (bs.getD y.toNat default).r.getD q 0)], (packS (x := 38) (packS (x := 37) (packS (x := 36) (packS (x := 9) (packS (x := 8) (pack1 (x := 2) rfl) rfl) rfl) rfl) rfl) rfl), rfl, hX65, (by omega), (by rw [hr2, List.append_assoc]; exact congrArg (os ++ ·) (map_next (f := (fun k => (x, k))) 0 (by omega))), (by rw [List.length_append, hol2]; rfl), ho61⟩))))
 omega
 refine wp_exit (s_thenE (s_lopE (s_blkE (s_then (s_seq (c_reg ?_))))))
 refine qd rfl rfl rfl (r_move (v := o2) rfl) (qd rfl rfl rfl (r_assign (v := o2) rfl) (qe (s_then ?_)))
 refine wp_ret (s_ret (c_ret1 (v := o2) rfl rfl rfl ?_))
 rw [take_all (by omega)] at hr hr2
 rw [hr] at hr2
 exact ⟨_, _, rfl, (by unfold rightsP; rw [← hr2]; exact hw47), hX46⟩

theorem leftsOf_spec {w : World} {G : Pin} {u v : Value} {ns bs : List Nd} {x y : Int} (hP : Pins G w) (hu : RSl eNode G u ns) (hv : RSl eNode G v bs) (hx : 0 ≤ x ∧ x < ns.length) (hy : 0 ≤ y ∧ y < bs.length) (hs : (ns.getD x.toNat default).l.length ≤ 1048576 ∧ (bs.getD y.toNat default).r.length ≤ 1048576) :
  Calls Try.prog 48 [u, v, (.int .i64 x), (.int .i64 y)].toArray w fun e w' => ∃ (u : Value) (G' : Pin), e = .returned u ∧ Own eP2 52 G' w' w.heap.size u (leftsP ns bs x y) ∧ Ext noS G w G' w' := by
 refine s_enter (n := 50) Try.func48 Try.ntmps48 rfl rfl ?_
 have hX0 : Ext noS G w G w := Ext.refl hP
 refine s_seq (c_reg ?_)
 refine qd rfl rfl rfl (r_assign (v := (.slice none 0 0)) rfl) (qe (s_then (s_seq (c_reg ?_))))
 refine q1 rfl rfl rfl (o_build0 (E := eP2) (e := 52) Try.underlying84 sz52 hX0.pins (fun u1 w2 ho3 hp4 hl5 hk6 => ?_))
 have hX7 := hX0.step hp4 hl5
 have ho8 : Own eP2 52 G w2 w.heap.size u1 ([]) := ho3.weaken hX0.size
 refine qd rfl rfl rfl (r_assign (v := u1) rfl) (qe (s_then (s_seq (s_seq (c_reg ?_)))))
 refine qd rfl rfl rfl (r_move (v := u) rfl) (qd rfl rfl rfl (r_move (v := (.int .i64 x)) rfl) (qd rfl rfl rfl (run_idx Try.underlying31 sz62 (v := u) rfl rfl hu (by omega) (by omega)) (qd rfl rfl rfl (run_fld (off := 0) Try.underlying62 rfl rfl nz47 (z := x) (k := 0) rfl hu (by omega) (by omega)) ?_)))
 obtain ⟨u9, hr10, hl11⟩ := nm_nl (hu.at (z := x) (by omega) (by omega)) (j := (x).toNat) rfl
 have hm12 := hr10.max
 refine qd rfl rfl rfl (hl11 ag47 rfl hX7.pins) (qd rfl rfl rfl (run_len Try.underlying47 (v := u9) rfl hr10) (qd rfl rfl rfl (r_move (v := (.int .i64 0)) rfl) (qe (s_then ?_))))
 refine s_blk (s_loop (fun (k : Nat) (en : Nat → Value) (W : World) => ∃ (env1 : Nat → Value) (j : Nat) (o : Value) (os : List (Int × Int)), en = (upd (upd (upd (upd (upd (upd (upd (upd env1 1 v) 2 (.int .i64 x)) 3 (.int .i64 y)) 8 (.slice none 0 0)) 9 o) 19 u9) 20 (.int .i64 (((ns.getD (x).toNat default).l).length : Int))) 21 (.int .i64 (j : Int))) ∧ k = (ns.getD x.toNat default).l.length - j ∧ Ext noS G w G W ∧ (j ≤ (ns.getD x.toNat default).l.length) ∧ (os = ((ns.getD x.toNat default).l.take j).map (fun k => (k, y))) ∧ (os.length = j) ∧ (Own eP2 52 G W w.heap.size o (os))) _ ⟨_, 0, u1, [], (packS (x := 21) (packS (x := 20) (packS (x := 19) (packS (x := 9) (packS (x := 8) (packS (x := 3) (packS (x := 2) (pack1 (x := 1) rfl) rfl) rfl) rfl) rfl) rfl) rfl) rfl), rfl, hX7, Nat.zero_le _, rfl, rfl, ho8⟩ ?_)
 rintro k13 _ w14 ⟨env1, j, o, os, rfl, hk15, hX16, hj, hr, hol, hw17⟩
 refine s_seq (c_reg ?_)
 refine qd rfl rfl rfl (r_lss rfl rfl) (qe (s_then (s_seq ?_)))
 refine c_ifd (p := ((j : Int) : Int) < (((ns.getD (x).toNat default).l).length : Int)) rfl rfl (fun h18 => ?_) (fun h18 => ?_)
 refine wp_skip (s_then (s_seq ?_))
 refine s_blk (s_seq (c_reg ?_))
 refine qd rfl rfl rfl (run_idx Try.underlying47 sz3 (v := u9) rfl rfl hr10 (by omega) (by omega)) (qd rfl rfl rfl (run_load_int (r := ((ns.getD (x).toNat default).l).getD j 0) rfl ag3 (z := (j : Int)) rfl hr10 hX16.pins (by omega) (by omega)) (qd rfl rfl rfl (r_assign (v := (.int .i64 (((ns.getD (x).toNat default).l).getD j 0))) rfl) (qe (s_then (c_reg ?_)))))
 refine qd rfl rfl rfl (r_move (v := o) rfl) (qd rfl rfl rfl (r_move (v := (.int .i64 (((ns.getD (x).toNat default).l).getD j 0))) rfl) (qd rfl rfl rfl (r_move (v := (.int .i64 y)) rfl) (qd rfl rfl rfl (r_buildA (m := 1) [(.int .i64 0), (.int .i64 0)] [(.int .i64 (((ns.getD (x).toNat default).l).getD j 0)), (.int .i64 y)] [(0, (.int .i64 (((ns.getD (x).toNat default).l).getD j 0)), [(.int .i64 (((ns.getD (x).toNat default).l).getD j 0))]), (1, (.int .i64 y), [(.int .i64 y)])] Try.underlying52 zr52 rfl sz3 rfl (List.forall_mem_cons.2 ⟨rfl, (List.forall_mem_cons.2 ⟨rfl, (fun _ h => by cases h)⟩)⟩) rfl) (q1 rfl rfl rfl (o_build1 (E := eP2) (e := 52) [(.int .i64 (((ns.getD (x).toNat default).l).getD j 0)), (.int .i64 y)] (((ns.getD (x).toNat default).l).getD j 0, y) Try.underlying84 sz52 zr52 rfl rfl (by decide) hX16.pins (fun u19 w20 ho21 hp22 hl23 hk24 => ?_))))))
 have hX25 := hX16.step hp22 hl23
 have ho26 := hw17.below hl23
 have ho28 : Own eP2 52 G w20 w.heap.size u19 ([(((ns.getD (x).toNat default).l).getD j 0, y)]) := ho21.weaken hX16.size
 refine q1 rfl rfl rfl (o_append (E := eP2) (v := o) (u := u19) 16 Try.underlying84 ap52 (by decide) rfl rfl hX25.pins ho26 ho28.src (by first | omega | (rw [List.nil_append]; omega) | (rw [List.length_nil]; omega) | (rw [List.length_append]; omega) | (simp; done) | (simp; omega) | (simp only [List.length_append, List.length_cons, List.length_nil]; omega)) (by first | omega | (rw [List.nil_append]; omega) | (rw [List.length_nil]; omega) | (rw [List.length_append]; omega) | (simp; done) | (simp; omega) | (simp only [List.length_append, List.length_cons, List.length_nil]; omega)) (hX25.size) (fun u29 w30 ho31 hp32 hg33 hw34 => ?_))
 have hX35 := hX25.write hp32 hg33 ((lo_own ho26))
 have hm38 : (os ++ ([(((ns.getD (x).toNat default).l).getD j 0, y)])).length = os.length + 1 := List.length_append
 refine qd rfl rfl rfl (r_assign (v := u29) rfl) (qe (s_blkN (s_then (c_reg ?_))))
 refine qd rfl rfl rfl (r_add rfl rfl (by omega)) (qd rfl rfl rfl (r_move (v := (.int .i64 ((j : Int) + 1))) rfl) (qe (s_lopN (⟨_, ?_, _, rfl, _, j + 1, u29, os ++ [((ns.getD x.toNat default).l.getD j 0, y)], (packS (x := 21) (packS (x := 20) (packS (x := 19) (packS (x := 9) (packS (x := 8) (packS (x := 3) (packS (x := 2) (pack1 (x := 1) rfl) rfl) rfl) rfl) rfl) rfl) rfl) rfl), rfl, hX35, (by omega), (by rw [hr]; exact map_next (f := (fun k => (k, y))) 0 (by omega)), (by rw [List.length_append, hol]; rfl), ho31⟩))))
 omega
 refine wp_exit (s_thenE (s_lopE (s_blkE (s_then (s_seq (s_seq (c_reg ?_)))))))
 refine qd rfl rfl rfl (r_move (v := v) rfl) (qd rfl rfl rfl (r_move (v := (.int .i64 y)) rfl) (qd rfl rfl rfl (run_idx Try.underlying31 sz62 (v := v) rfl rfl hv (by omega) (by omega)) (qd rfl rfl rfl (run_fld (off := 1) Try.underlying62 rfl rfl nz47 (z := y) (k := 0) rfl hv (by omega) (by omega)) ?_)))
 obtain ⟨u39, hr40, hl41⟩ := nm_nr (hv.at (z := y) (by omega) (by omega)) (j := (y).toNat) rfl
 have hm42 := hr40.max
 refine qd rfl rfl rfl (hl41 ag47 rfl hX16.pins) (qd rfl rfl rfl (run_len Try.underlying47 (v := u39) rfl hr40) (qd rfl rfl rfl (r_move (v := (.int .i64 0)) rfl) (qe (s_then ?_))))
 refine s_blk (s_loop (fun (k : Nat) (en : Nat → Value) (W : World) => ∃ (env1 : Nat → Value) (q : Nat) (o2 : Value) (os2 : List (Int × Int)), en = (upd (upd (upd (upd (upd (upd env1 2 (.int .i64 x)) 8 (.slice none 0 0)) 9 o2) 36 u39) 37 (.int .i64 (((bs.getD (y).toNat default).r).length : Int))) 38 (.int .i64 (q : Int))) ∧ k = (bs.getD y.toNat default).r.length - q ∧ Ext noS G w G W ∧ (q ≤ (bs.getD y.toNat default).r.length) ∧ (os2 = os ++ ((bs.getD y.toNat default).r.take q).map (fun r => (x, r))) ∧ (os2.length = j + q) ∧ (Own eP2 52 G W w.heap.size o2 (os2))) _ ⟨_, 0, o, os, (packS (x := 38) (packS (x := 37) (packS (x := 36) (packS (x := 9) (packS (x := 8) (pack1 (x := 2) rfl) rfl) rfl) rfl) rfl) rfl), rfl, hX16, Nat.zero_le _, (by simp), hol, hw17⟩ ?_)
 rintro k43 _ w44 ⟨env1, q, o2, os2, rfl, hk45, hX46, hq, hr2, hol2, hw47⟩
 refine s_seq (c_reg ?_)
 refine qd rfl rfl rfl (r_lss rfl rfl) (qe (s_then (s_seq ?_)))
 refine c_ifd (p := ((q : Int) : Int) < (((bs.getD (y).toNat default).r).length : Int)) rfl rfl (fun h48 => ?_) (fun h48 => ?_)
 refine wp_skip (s_then (s_seq ?_))
 refine s_blk (s_seq (c_reg ?_))
 refine qd rfl rfl rfl (run_idx Try.underlying47 sz3 (v := u39) rfl rfl hr40 (by omega) (by omega)) (qd rfl rfl rfl (run_load_int (r := ((bs.getD (y).toNat default).r).getD q 0) rfl ag3 (z := (q : Int)) rfl hr40 hX46.pins (by omega) (by omega)) (qd rfl rfl rfl (r_assign (v := (.int .i64 (((bs.getD (y).toNat default).r).getD q 0))) rfl) (qe (s_then (c_reg ?_)))))
 refine qd rfl rfl rfl (r_move (v := o2) rfl) (qd rfl rfl rfl (r_move (v := (.int .i64 x)) rfl) (qd rfl rfl rfl (r_move (v := (.int .i64 (((bs.getD (y).toNat default).r).getD q 0))) rfl) (qd rfl rfl rfl (r_buildA (m := 1) [(.int .i64 0), (.int .i64 0)] [(.int .i64 x), (.int .i64 (((bs.getD (y).toNat default).r).getD q 0))] [(0, (.int .i64 x), [(.int .i64 x)]), (1, (.int .i64 (((bs.getD (y).toNat default).r).getD q 0)), [(.int .i64 (((bs.getD (y).toNat default).r).getD q 0))])] Try.underlying52 zr52 rfl sz3 rfl (List.forall_mem_cons.2 ⟨rfl, (List.forall_mem_cons.2 ⟨rfl, (fun _ h => by cases h)⟩)⟩) rfl) (q1 rfl rfl rfl (o_build1 (E := eP2) (e := 52) [(.int .i64 x), (.int .i64 (((bs.getD (y).toNat default).r).getD q 0))] (x, ((bs.getD (y).toNat default).r).getD q 0) Try.underlying84 sz52 zr52 rfl rfl (by decide) hX46.pins (fun u49 w50 ho51 hp52 hl53 hk54 => ?_))))))
 have hX55 := hX46.step hp52 hl53
 have ho56 := hw47.below hl53
 have ho58 : Own eP2 52 G w50 w.heap.size u49 ([(x, ((bs.getD (y).toNat default).r).getD q 0)]) := ho51.weaken hX46.size
 refine q1 rfl rfl rfl (o_append (E := eP2) (v := o2) (u := u49) 16 Try.underlying84 ap52 (by decide) rfl rfl hX55.pins ho56 ho58.src (by first | omega | (rw [List.nil_append]; omega) | (rw [List.length_nil]; omega) | (rw [List.length_append]; omega) | (simp; done) | (simp; omega) | (simp only [List.length_append, List.length_cons, List.length_nil]; omega)) (by first | omega | (rw [List.nil_append]; omega) | (rw [List.length_nil]; omega) | (rw [List.length_append]; omega) | (simp; done) | (simp; omega) | (simp only [List.length_append, List.length_cons, List.length_nil]; omega)) (hX55.size) (fun u59 w60 ho61 hp62 hg63 hw64 => ?_))
 have hX65 := hX55.write hp62 hg63 ((lo_own ho56))
 have hm68 : (os2 ++ ([(x, ((bs.getD (y).toNat default).r).getD q 0)])).length = os2.length + 1 := List.length_append
 refine qd rfl rfl rfl (r_assign (v := u59) rfl) (qe (s_blkN (s_then (c_reg ?_))))
 refine qd rfl rfl rfl (r_add rfl rfl (by omega)) (qd rfl rfl rfl (r_move (v := (.int .i64 ((q : Int) + 1))) rfl) (qe (s_lopN (⟨_, ?_, _, rfl, _, q + 1, u59, os2 ++ [(x, (bs.getD y.toNat default).r.getD q 0)], (packS (x := 38) (packS (x := 37) (packS (x := 36) (packS (x := 9) (packS (x := 8) (pack1 (x := 2) rfl) rfl) rfl) rfl) rfl) rfl), rfl, hX65, (by omega), (by rw [hr2, List.append_assoc]; exact congrArg (os ++ ·) (map_next (f := (fun r => (x, r))) 0 (by omega))), (by rw [List.length_append, hol2]; rfl), ho61⟩))))
 omega
 refine wp_exit (s_thenE (s_lopE (s_blkE (s_then (s_seq (c_reg ?_))))))
 refine qd rfl rfl rfl (r_move (v := o2) rfl) (qd rfl rfl rfl (r_assign (v := o2) rfl) (qe (s_then ?_)))
 refine wp_ret (s_ret (c_ret1 (v := o2) rfl rfl rfl ?_))
 rw [take_all (by omega)] at hr hr2
 rw [hr] at hr2
 exact ⟨_, _, rfl, (by unfold leftsP; rw [← hr2]; exact hw47), hX46⟩

theorem l1Has_spec {w : World} {G : Pin} {v : Value} {xs : List Int} {n : Int} (hP : Pins G w) (hv : RSl eInt G v xs) :
  Calls Try.prog 71 [v, (.int .i64 n)].toArray w fun e w' => e = .returned (.bool (decide (n ∈ xs))) ∧ w' = w := by
 refine s_enter (n := 18) Try.func71 Try.ntmps71 rfl rfl ?_
 have hX0 : Ext noS G w G w := Ext.refl hP
 have hm := hv.max
 refine s_seq (c_reg ?_)
 refine qd rfl rfl rfl (r_assign (v := (.bool false)) rfl) (qe (s_then (s_seq (s_seq (c_reg ?_)))))
 refine qd rfl rfl rfl (r_assign (v := (.int .i64 0)) rfl) (qe (s_then ?_))
 refine s_blk (s_loop (fun (k : Nat) (en : Nat → Value) (W : World) => ∃ (env1 : Nat → Value) (j : Nat), en = (upd (upd (upd env1 0 v) 1 (.int .i64 n)) 5 (.int .i64 (j : Int))) ∧ k = xs.length - j ∧ Ext noS G w G W ∧ (j ≤ xs.length) ∧ (W = w) ∧ (∀ i, i < j → xs.getD i 0 ≠ n)) _ ⟨_, 0, (packS (x := 5) (packS (x := 1) (pack1 (x := 0) rfl) rfl) rfl), rfl, hX0, Nat.zero_le _, rfl, (fun i hi => absurd hi (Nat.not_lt_zero i))⟩ ?_)
 rintro k1 _ w2 ⟨env1, j, rfl, hk3, hX4, hj, hw, hp⟩
 subst hw
 refine s_seq (s_seq (c_reg ?_))
 refine qd rfl rfl rfl (r_move (v := (.int .i64 (j : Int))) rfl) (qd rfl rfl rfl (r_move (v := v) rfl) (qd rfl rfl rfl (run_len Try.underlying47 (v := v) rfl hv) (qd rfl rfl rfl (r_lss rfl rfl) (qe (s_then ?_)))))
 refine c_ifd (p := ((j : Int) : Int) < (xs.length : Int)) rfl rfl (fun h5 => ?_) (fun h5 => ?_)
 refine wp_skip (s_then (s_seq ?_))
 refine s_blk (s_seq (c_reg ?_))
 refine qd rfl rfl rfl (r_move (v := v) rfl) (qd rfl rfl rfl (r_move (v := (.int .i64 (j : Int))) rfl) (qd rfl rfl rfl (run_idx Try.underlying47 sz3 (v := v) rfl rfl hv (by omega) (by omega)) (qd rfl rfl rfl (run_load_int (r := xs.getD j 0) rfl ag3 (z := (j : Int)) rfl hv hX4.pins (by omega) (by omega)) (qd rfl rfl rfl (r_move (v := (.int .i64 n)) rfl) (qd rfl rfl rfl (r_eql rfl rfl) (qe (s_then ?_)))))))
 refine c_ifd (p := (xs.getD j 0 : Int) = n) rfl rfl (fun h6 => ?_) (fun h6 => ?_)
 refine s_seq (c_reg ?_)
 refine qd rfl rfl rfl (r_assign (v := (.bool true)) rfl) (qe (s_then ?_))
 exact wp_ret (s_ret (c_ret1 (v := (.bool true)) rfl rfl rfl (⟨congrArg (fun z => Ending.returned (Value.bool z)) ((decide_eq_true (by rw [← h6]; exact mem_getD_of (by omega))).symm), rfl⟩)))
 refine wp_skip (s_blkN (s_then (c_reg ?_)))
 refine qd rfl rfl rfl (r_move (v := (.int .i64 (j : Int))) rfl) (qd rfl rfl rfl (r_add rfl rfl (by omega)) (qd rfl rfl rfl (r_assign (v := (.int .i64 ((j : Int) + 1))) rfl) (qe (s_lopN (⟨_, ?_, _, rfl, _, j + 1, (packS (x := 5) (packS (x := 1) (pack1 (x := 0) rfl) rfl) rfl), rfl, hX4, (by omega), rfl, (fun i hi => if h3 : i = j then h3 ▸ h6 else hp i (by omega))⟩)))))
 omega
 refine wp_exit (s_thenE (s_lopE (s_blkE (s_then (s_seq (c_reg ?_))))))
 refine qd rfl rfl rfl (r_assign (v := (.bool false)) rfl) (qe (s_then ?_))
 exact wp_ret (s_ret (c_ret1 (v := (.bool false)) rfl rfl rfl (⟨congrArg (fun z => Ending.returned (Value.bool z)) ((decide_eq_false (not_mem_of (d := 0) (fun i hi => hp i (by omega)))).symm), rfl⟩)))

theorem l15Right_spec {w : World} {G : Pin} {u v cr cl : Value} {ns bs : List Nd} {c : Cl} {r y : Int} (hP : Pins G w) (hu : RSl eNode G u ns) (hv : RSl eNode G v bs) (hx : 0 ≤ r ∧ r < ns.length) (hy : 0 ≤ y ∧ y < bs.length) :
  Calls Try.prog 62 [(.agg [u].toArray), (.agg [v].toArray), (.int .i64 r), (.agg [(.int .i64 c.a), (.int .i64 c.b), cr, cl].toArray), (.int .i64 y)].toArray w fun e w' => ∃ G', e = .returned (.bool (decide ((c.a, c.b) ∈ rightsP ns bs r y))) ∧ Ext noS G w G' w' := by
 refine s_enter (n := 43) Try.func62 Try.ntmps62 rfl rfl ?_
 have hX0 : Ext noS G w G w := Ext.refl hP
 refine s_seq (c_reg ?_)
 refine q1 rfl rfl rfl (o_box [u] (v := (.agg [u].toArray)) rfl rfl hX0.pins (fun b1 w2 hk3 hb4 hp5 hl6 => ?_))
 have hX7 := hX0.step hp5 hl6
 have hlo8 : w.heap.size ≤ b1 := by have := hX0.size; omega
 obtain ⟨G9, hle10, hX11, hbp12, hf13⟩ := hb4.shut hX7 hlo8
 refine q1 rfl rfl rfl (o_box [v] (v := (.agg [v].toArray)) rfl rfl hX11.pins (fun b14 w15 hk16 hb17 hp18 hl19 => ?_))
 have hX20 := hX11.step hp18 hl19
 have hlo21 : w.heap.size ≤ b14 := by have := hX11.size; omega
 obtain ⟨G22, hle23, hX24, hbp25, hf26⟩ := hb17.shut hX20 hlo21
 refine q1 rfl rfl rfl (o_box [(.int .i64 c.a), (.int .i64 c.b), cr, cl] (v := (.agg [(.int .i64 c.a), (.int .i64 c.b), cr, cl].toArray)) rfl rfl hX24.pins (fun b27 w28 hk29 hb30 hp31 hl32 => ?_))
 have hX33 := hX24.step hp31 hl32
 have hlo34 : w.heap.size ≤ b27 := by have := hX24.size; omega
 obtain ⟨G35, hle36, hX37, hbp38, hf39⟩ := hb30.shut hX33 hlo34
 refine qd rfl rfl rfl (r_assign (v := (.bool false)) rfl) (qe (s_then (s_seq ?_)))
 refine c_draw (S := fun wz => Pins G35 wz) (last := 33) (by kernel_rfl) rfl ?_
 have hl40 : Below w28.heap.size w28 w28.drew := (Below.refl _ _).drew
 have hp41 := hX37.pins.below hl40
 have hX42 := hX37.step hp41 hl40
 refine dr_take (i := 0) rfl rfl rfl (want_none rfl _) (by kernel_rfl) (fun _ _ => r_fldp (k := 1) rfl Try.underlying49 rfl nz3 rfl) hX42.pins (dr_take (i := 1) rfl rfl rfl (want_none rfl _) (by kernel_rfl) (fun _ hS => r_ldp1 (u := (.int .i64 c.b)) ag3 rfl (hS _ _ _ (hbp38 1 _ rfl))) hX42.pins (dr_take (i := 2) rfl rfl rfl (want_none rfl _) (by kernel_rfl) (fun _ _ => r_move (v := (.int .i64 y)) rfl) hX42.pins (dr_take (i := 3) rfl rfl rfl (want_none rfl _) (by kernel_rfl) (fun _ _ => r_eql rfl rfl) hX42.pins (dr_take (i := 4) rfl rfl rfl (want_none rfl _) (by kernel_rfl) (fun _ _ => r_move (v := (.bool (decide ((c.b : Int) = y)))) rfl) hX42.pins (drbd (p := (c.b : Int) = y) (t := 15) rfl (fun h43 => ?_) (fun h43 => ?_))))))
 refine dr_take (i := 5) rfl rfl rfl (want_yes rfl rfl rfl rfl) (by kernel_rfl) (fun _ _ => r_fldp (k := 0) rfl Try.underlying33 rfl nz31 rfl) hX42.pins (dr_take (i := 6) rfl rfl rfl (want_yes rfl rfl rfl rfl) (by kernel_rfl) (fun _ hS => r_ldp1 (u := u) ag31 rfl ((Pins.of_le hS (Pin.le_trans hle23 hle36)) _ _ _ (hbp12 0 _ rfl))) hX42.pins (dr_take (i := 7) rfl rfl rfl (want_yes rfl rfl rfl rfl) (by kernel_rfl) (fun _ _ => r_move (v := (.int .i64 r)) rfl) hX42.pins (dr_take (i := 8) rfl rfl rfl (want_yes rfl rfl rfl rfl) (by kernel_rfl) (fun _ _ => run_idx Try.underlying31 sz62 (v := u) rfl rfl hu (by omega) (by omega)) hX42.pins (dr_take (i := 9) rfl rfl rfl (want_yes rfl rfl rfl rfl) (by kernel_rfl) (fun _ _ => run_fld (off := 0) Try.underlying62 rfl rfl nz47 (z := r) (k := 0) rfl hu (by omega) (by omega)) hX42.pins ?_))))
 obtain ⟨u44, hr45, hl46⟩ := nm_nl (hu.at (z := r) (by omega) (by omega)) (j := (r).toNat) rfl
 have hm47 := hr45.max
 refine dr_take (i := 10) rfl rfl rfl (want_yes rfl rfl rfl rfl) (by kernel_rfl) (fun _ hS => hl46 ag47 rfl (Pins.of_le hS (Pin.le_trans (Pin.le_trans hle10 hle23) hle36))) hX42.pins (dr_take (i := 11) rfl rfl rfl (want_yes rfl rfl rfl rfl) (by kernel_rfl) (fun _ _ => r_fldp (k := 0) rfl Try.underlying49 rfl nz3 rfl) hX42.pins (dr_take (i := 12) rfl rfl rfl (want_yes rfl rfl rfl rfl) (by kernel_rfl) (fun _ hS => r_ldp1 (u := (.int .i64 c.a)) ag3 rfl (hS _ _ _ (hbp38 0 _ rfl))) hX42.pins (dr_one (i := 13) (by kernel_rfl) (drOp1 (i := 13) rfl rfl rfl (want_yes rfl rfl rfl rfl) (o_call (vs := [u44, (.int .i64 c.a)]) Try.func71 nm71 rfl rfl rfl ?_)))))
 refine Calls.mono (l1Has_spec hX42.pins (hr45.mono (Pin.le_trans (Pin.le_trans hle10 hle23) hle36))) ?_
 rintro _ _ ⟨rfl, rfl⟩
 refine ⟨_, rfl, ?_⟩
 refine ⟨fun _ => hX42.pins, ?_⟩
 refine dr_take (i := 14) rfl rfl rfl (want_none rfl _) (by kernel_rfl) (fun _ _ => r_pickT (v := (.bool (decide (c.a ∈ ((ns.getD (r).toNat default).l))))) rfl rfl) hX42.pins (dr_take (i := 15) rfl rfl rfl (want_none rfl _) (by kernel_rfl) (fun _ _ => r_move (v := (.bool (decide (c.a ∈ ((ns.getD (r).toNat default).l))))) rfl) hX42.pins (drbd (p := (c.a ∈ ((ns.getD (r).toNat default).l))) (t := 26) rfl (fun h48 => ?_) (fun h48 => ?_)))
 exact dr_skip (i := 16) rfl rfl (want_no rfl rfl rfl rfl rfl) (by kernel_rfl) hX42.pins (dr_skip (i := 17) rfl rfl (want_no rfl rfl rfl rfl rfl) (by kernel_rfl) hX42.pins (dr_skip (i := 18) rfl rfl (want_no rfl rfl rfl rfl rfl) (by kernel_rfl) hX42.pins (dr_skip (i := 19) rfl rfl (want_no rfl rfl rfl rfl rfl) (by kernel_rfl) hX42.pins (dr_skip (i := 20) rfl rfl (want_no rfl rfl rfl rfl rfl) (by kernel_rfl) hX42.pins (dr_skip (i := 21) rfl rfl (want_undef rfl rfl rfl rfl) (by kernel_rfl) hX42.pins (dr_skip (i := 22) rfl rfl (want_undef rfl rfl rfl rfl) (by kernel_rfl) hX42.pins (dr_skip (i := 23) rfl rfl (want_undef rfl rfl rfl rfl) (by kernel_rfl) hX42.pins (dr_skip (i := 24) rfl rfl (want_undef rfl rfl rfl rfl) (by kernel_rfl) hX42.pins (dr_skip (i := 25) rfl rfl (want_undef rfl rfl rfl rfl) (by kernel_rfl) hX42.pins (dr_skip (i := 26) rfl rfl (want_undef rfl rfl rfl rfl) (by kernel_rfl) hX42.pins (dr_skip (i := 27) rfl rfl (want_undef rfl rfl rfl rfl) (by kernel_rfl) hX42.pins (dr_skip (i := 28) rfl rfl (want_undef rfl rfl rfl rfl) (by kernel_rfl) hX42.pins (dr_skip (i := 29) rfl rfl (want_undef rfl rfl rfl rfl) (by kernel_rfl) hX42.pins (dr_skip (i := 30) rfl rfl (want_no rfl rfl rfl rfl rfl) (by kernel_rfl) hX42.pins (dr_take (i := 31) rfl rfl rfl (want_none rfl _) (by kernel_rfl) (fun _ _ => r_pickT (v := (.bool true)) rfl rfl) hX42.pins (dr_take (i := 32) rfl rfl rfl (want_none rfl _) (by kernel_rfl) (fun _ _ => r_assign (v := (.bool true)) rfl) hX42.pins (dr_end (by kernel_rfl) (s_then (wp_ret (s_ret (c_ret1 (v := (.bool true)) rfl rfl rfl (⟨_, congrArg (fun z => Ending.returned (Value.bool z)) (decide_eq_true (mem_rights.2 (by first | exact Or.inl ⟨by omega, by assumption⟩ | exact Or.inr ⟨by omega, by assumption⟩))).symm, hX42⟩))))))))))))))))))))))
 refine dr_take (i := 16) rfl rfl rfl (want_yes rfl rfl rfl rfl) (by kernel_rfl) (fun _ _ => r_fldp (k := 0) rfl Try.underlying49 rfl nz3 rfl) hX42.pins (dr_take (i := 17) rfl rfl rfl (want_yes rfl rfl rfl rfl) (by kernel_rfl) (fun _ hS => r_ldp1 (u := (.int .i64 c.a)) ag3 rfl (hS _ _ _ (hbp38 0 _ rfl))) hX42.pins (dr_take (i := 18) rfl rfl rfl (want_yes rfl rfl rfl rfl) (by kernel_rfl) (fun _ _ => r_move (v := (.int .i64 r)) rfl) hX42.pins (dr_take (i := 19) rfl rfl rfl (want_yes rfl rfl rfl rfl) (by kernel_rfl) (fun _ _ => r_eql rfl rfl) hX42.pins (dr_take (i := 20) rfl rfl rfl (want_yes rfl rfl rfl rfl) (by kernel_rfl) (fun _ _ => r_move (v := (.bool (decide ((c.a : Int) = r)))) rfl) hX42.pins (drbd (p := (c.a : Int) = r) (t := 31) rfl (fun h49 => ?_) (fun h49 => ?_))))))
 refine dr_take (i := 21) rfl rfl rfl (want_yes rfl rfl rfl rfl) (by kernel_rfl) (fun _ _ => r_fldp (k := 0) rfl Try.underlying33 rfl nz31 rfl) hX42.pins (dr_take (i := 22) rfl rfl rfl (want_yes rfl rfl rfl rfl) (by kernel_rfl) (fun _ hS => r_ldp1 (u := v) ag31 rfl ((Pins.of_le hS hle36) _ _ _ (hbp25 0 _ rfl))) hX42.pins (dr_take (i := 23) rfl rfl rfl (want_yes rfl rfl rfl rfl) (by kernel_rfl) (fun _ _ => r_move (v := (.int .i64 y)) rfl) hX42.pins (dr_take (i := 24) rfl rfl rfl (want_yes rfl rfl rfl rfl) (by kernel_rfl) (fun _ _ => run_idx Try.underlying31 sz62 (v := v) rfl rfl hv (by omega) (by omega)) hX42.pins (dr_take (i := 25) rfl rfl rfl (want_yes rfl rfl rfl rfl) (by kernel_rfl) (fun _ _ => run_fld (off := 1) Try.underlying62 rfl rfl nz47 (z := y) (k := 0) rfl hv (by omega) (by omega)) hX42.pins ?_))))
 obtain ⟨u50, hr51, hl52⟩ := nm_nr (hv.at (z := y) (by omega) (by omega)) (j := (y).toNat) rfl
 have hm53 := hr51.max
 refine dr_take (i := 26) rfl rfl rfl (want_yes rfl rfl rfl rfl) (by kernel_rfl) (fun _ hS => hl52 ag47 rfl (Pins.of_le hS (Pin.le_trans (Pin.le_trans hle10 hle23) hle36))) hX42.pins (dr_take (i := 27) rfl rfl rfl (want_yes rfl rfl rfl rfl) (by kernel_rfl) (fun _ _ => r_fldp (k := 1) rfl Try.underlying49 rfl nz3 rfl) hX42.pins (dr_take (i := 28) rfl rfl rfl (want_yes rfl rfl rfl rfl) (by kernel_rfl) (fun _ hS => r_ldp1 (u := (.int .i64 c.b)) ag3 rfl (hS _ _ _ (hbp38 1 _ rfl))) hX42.pins (dr_one (i := 29) (by kernel_rfl) (drOp1 (i := 29) rfl rfl rfl (want_yes rfl rfl rfl rfl) (o_call (vs := [u50, (.int .i64 c.b)]) Try.func71 nm71 rfl rfl rfl ?_)))))
 refine Calls.mono (l1Has_spec hX42.pins (hr51.mono (Pin.le_trans (Pin.le_trans hle10 hle23) hle36))) ?_
 rintro _ _ ⟨rfl, rfl⟩
 refine ⟨_, rfl, ?_⟩
 refine ⟨fun _ => hX42.pins, ?_⟩
 exact dr_take (i := 30) rfl rfl rfl (want_yes rfl rfl rfl rfl) (by kernel_rfl) (fun _ _ => r_pickT (v := (.bool (decide (c.b ∈ ((bs.getD (y).toNat default).r))))) rfl rfl) hX42.pins (dr_take (i := 31) rfl rfl rfl (want_none rfl _) (by kernel_rfl) (fun _ _ => r_pickF (v := (.bool (decide (c.b ∈ ((bs.getD (y).toNat default).r))))) rfl rfl) hX42.pins (dr_take (i := 32) rfl rfl rfl (want_none rfl _) (by kernel_rfl) (fun _ _ => r_assign (v := (.bool (decide (c.b ∈ ((bs.getD (y).toNat default).r))))) rfl) hX42.pins (dr_end (by kernel_rfl) (s_then (wp_ret (s_ret (c_ret1 (v := (.bool (decide (c.b ∈ ((bs.getD (y).toNat default).r))))) rfl rfl rfl (⟨_, congrArg (fun z => Ending.returned (Value.bool z)) (decide_eq_decide.2 ⟨fun g => mem_rights.2 (by first | exact Or.inr ⟨by omega, g⟩ | exact Or.inl ⟨by omega, g⟩), fun g => by rcases mem_rights.1 g with ⟨g1, g2⟩ | ⟨g1, g2⟩ <;> first | exact g2 | contradiction | omega⟩), hX42⟩))))))))
 exact dr_skip (i := 21) rfl rfl (want_no rfl rfl rfl rfl rfl) (by kernel_rfl) hX42.pins (dr_skip (i := 22) rfl rfl (want_no rfl rfl rfl rfl rfl) (by kernel_rfl) hX42.pins (dr_skip (i := 23) rfl rfl (want_no rfl rfl rfl rfl rfl) (by kernel_rfl) hX42.pins (dr_skip (i := 24) rfl rfl (want_no rfl rfl rfl rfl rfl) (by kernel_rfl) hX42.pins (dr_skip (i := 25) rfl rfl (want_no rfl rfl rfl rfl rfl) (by kernel_rfl) hX42.pins (dr_skip (i := 26) rfl rfl (want_no rfl rfl rfl rfl rfl) (by kernel_rfl) hX42.pins (dr_skip (i := 27) rfl rfl (want_no rfl rfl rfl rfl rfl) (by kernel_rfl) hX42.pins (dr_skip (i := 28) rfl rfl (want_no rfl rfl rfl rfl rfl) (by kernel_rfl) hX42.pins (dr_skip (i := 29) rfl rfl (want_no rfl rfl rfl rfl rfl) (by kernel_rfl) hX42.pins (dr_take (i := 30) rfl rfl rfl (want_yes rfl rfl rfl rfl) (by kernel_rfl) (fun _ _ => r_pickF (v := (.bool false)) rfl rfl) hX42.pins (dr_take (i := 31) rfl rfl rfl (want_none rfl _) (by kernel_rfl) (fun _ _ => r_pickF (v := (.bool false)) rfl rfl) hX42.pins (dr_take (i := 32) rfl rfl rfl (want_none rfl _) (by kernel_rfl) (fun _ _ => r_assign (v := (.bool false)) rfl) hX42.pins (dr_end (by kernel_rfl) (s_then (wp_ret (s_ret (c_ret1 (v := (.bool false)) rfl rfl rfl (⟨_, congrArg (fun z => Ending.returned (Value.bool z)) (decide_eq_false (fun g => by rcases mem_rights.1 g with ⟨g1, g2⟩ | ⟨g1, g2⟩ <;> first | contradiction | omega)).symm, hX42⟩)))))))))))))))))
 refine dr_skip (i := 5) rfl rfl (want_no rfl rfl rfl rfl rfl) (by kernel_rfl) hX42.pins (dr_skip (i := 6) rfl rfl (want_no rfl rfl rfl rfl rfl) (by kernel_rfl) hX42.pins (dr_skip (i := 7) rfl rfl (want_no rfl rfl rfl rfl rfl) (by kernel_rfl) hX42.pins (dr_skip (i := 8) rfl rfl (want_no rfl rfl rfl rfl rfl) (by kernel_rfl) hX42.pins (dr_skip (i := 9) rfl rfl (want_no rfl rfl rfl rfl rfl) (by kernel_rfl) hX42.pins (dr_skip (i := 10) rfl rfl (want_no rfl rfl rfl rfl rfl) (by kernel_rfl) hX42.pins (dr_skip (i := 11) rfl rfl (want_no rfl rfl rfl rfl rfl) (by kernel_rfl) hX42.pins (dr_skip (i := 12) rfl rfl (want_no rfl rfl rfl rfl rfl) (by kernel_rfl) hX42.pins (dr_skip (i := 13) rfl rfl (want_no rfl rfl rfl rfl rfl) (by kernel_rfl) hX42.pins (dr_take (i := 14) rfl rfl rfl (want_none rfl _) (by kernel_rfl) (fun _ _ => r_pickF (v := (.bool false)) rfl rfl) hX42.pins (dr_take (i := 15) rfl rfl rfl (want_none rfl _) (by kernel_rfl) (fun _ _ => r_move (v := (.bool false)) rfl) hX42.pins (dr_take (i := 16) rfl rfl rfl (want_yes rfl rfl rfl rfl) (by kernel_rfl) (fun _ _ => r_fldp (k := 0) rfl Try.underlying49 rfl nz3 rfl) hX42.pins (dr_take (i := 17) rfl rfl rfl (want_yes rfl rfl rfl rfl) (by kernel_rfl) (fun _ hS => r_ldp1 (u := (.int .i64 c.a)) ag3 rfl (hS _ _ _ (hbp38 0 _ rfl))) hX42.pins (dr_take (i := 18) rfl rfl rfl (want_yes rfl rfl rfl rfl) (by kernel_rfl) (fun _ _ => r_move (v := (.int .i64 r)) rfl) hX42.pins (dr_take (i := 19) rfl rfl rfl (want_yes rfl rfl rfl rfl) (by kernel_rfl) (fun _ _ => r_eql rfl rfl) hX42.pins (dr_take (i := 20) rfl rfl rfl (want_yes rfl rfl rfl rfl) (by kernel_rfl) (fun _ _ => r_move (v := (.bool (decide ((c.a : Int) = r)))) rfl) hX42.pins (drbd (p := (c.a : Int) = r) (t := 31) rfl (fun h54 => ?_) (fun h54 => ?_)))))))))))))))))
 refine dr_take (i := 21) rfl rfl rfl (want_yes rfl rfl rfl rfl) (by kernel_rfl) (fun _ _ => r_fldp (k := 0) rfl Try.underlying33 rfl nz31 rfl) hX42.pins (dr_take (i := 22) rfl rfl rfl (want_yes rfl rfl rfl rfl) (by kernel_rfl) (fun _ hS => r_ldp1 (u := v) ag31 rfl ((Pins.of_le hS hle36) _ _ _ (hbp25 0 _ rfl))) hX42.pins (dr_take (i := 23) rfl rfl rfl (want_yes rfl rfl rfl rfl) (by kernel_rfl) (fun _ _ => r_move (v := (.int .i64 y)) rfl) hX42.pins (dr_take (i := 24) rfl rfl rfl (want_yes rfl rfl rfl rfl) (by kernel_rfl) (fun _ _ => run_idx Try.underlying31 sz62 (v := v) rfl rfl hv (by omega) (by omega)) hX42.pins (dr_take (i := 25) rfl rfl rfl (want_yes rfl rfl rfl rfl) (by kernel_rfl) (fun _ _ => run_fld (off := 1) Try.underlying62 rfl rfl nz47 (z := y) (k := 0) rfl hv (by omega) (by omega)) hX42.pins ?_))))
 obtain ⟨u55, hr56, hl57⟩ := nm_nr (hv.at (z := y) (by omega) (by omega)) (j := (y).toNat) rfl
 have hm58 := hr56.max
 refine dr_take (i := 26) rfl rfl rfl (want_yes rfl rfl rfl rfl) (by kernel_rfl) (fun _ hS => hl57 ag47 rfl (Pins.of_le hS (Pin.le_trans (Pin.le_trans hle10 hle23) hle36))) hX42.pins (dr_take (i := 27) rfl rfl rfl (want_yes rfl rfl rfl rfl) (by kernel_rfl) (fun _ _ => r_fldp (k := 1) rfl Try.underlying49 rfl nz3 rfl) hX42.pins (dr_take (i := 28) rfl rfl rfl (want_yes rfl rfl rfl rfl) (by kernel_rfl) (fun _ hS => r_ldp1 (u := (.int .i64 c.b)) ag3 rfl (hS _ _ _ (hbp38 1 _ rfl))) hX42.pins (dr_one (i := 29) (by kernel_rfl) (drOp1 (i := 29) rfl rfl rfl (want_yes rfl rfl rfl rfl) (o_call (vs := [u55, (.int .i64 c.b)]) Try.func71 nm71 rfl rfl rfl ?_)))))
 refine Calls.mono (l1Has_spec hX42.pins (hr56.mono (Pin.le_trans (Pin.le_trans hle10 hle23) hle36))) ?_
 rintro _ _ ⟨rfl, rfl⟩
 refine ⟨_, rfl, ?_⟩
 refine ⟨fun _ => hX42.pins, ?_⟩
 exact dr_take (i := 30) rfl rfl rfl (want_yes rfl rfl rfl rfl) (by kernel_rfl) (fun _ _ => r_pickT (v := (.bool (decide (c.b ∈ ((bs.getD (y).toNat default).r))))) rfl rfl) hX42.pins (dr_take (i := 31) rfl rfl rfl (want_none rfl _) (by kernel_rfl) (fun _ _ => r_pickF (v := (.bool (decide (c.b ∈ ((bs.getD (y).toNat default).r))))) rfl rfl) hX42.pins (dr_take (i := 32) rfl rfl rfl (want_none rfl _) (by kernel_rfl) (fun _ _ => r_assign (v := (.bool (decide (c.b ∈ ((bs.getD (y).toNat default).r))))) rfl) hX42.pins (dr_end (by kernel_rfl) (s_then (wp_ret (s_ret (c_ret1 (v := (.bool (decide (c.b ∈ ((bs.getD (y).toNat default).r))))) rfl rfl rfl (⟨_, congrArg (fun z => Ending.returned (Value.bool z)) (decide_eq_decide.2 ⟨fun g => mem_rights.2 (by first | exact Or.inr ⟨by omega, g⟩ | exact Or.inl ⟨by omega, g⟩), fun g => by rcases mem_rights.1 g with ⟨g1, g2⟩ | ⟨g1, g2⟩ <;> first | exact g2 | contradiction | omega⟩), hX42⟩))))))))
 exact dr_skip (i := 21) rfl rfl (want_no rfl rfl rfl rfl rfl) (by kernel_rfl) hX42.pins (dr_skip (i := 22) rfl rfl (want_no rfl rfl rfl rfl rfl) (by kernel_rfl) hX42.pins (dr_skip (i := 23) rfl rfl (want_no rfl rfl rfl rfl rfl) (by kernel_rfl) hX42.pins (dr_skip (i := 24) rfl rfl (want_no rfl rfl rfl rfl rfl) (by kernel_rfl) hX42.pins (dr_skip (i := 25) rfl rfl (want_no rfl rfl rfl rfl rfl) (by kernel_rfl) hX42.pins (dr_skip (i := 26) rfl rfl (want_no rfl rfl rfl rfl rfl) (by kernel_rfl) hX42.pins (dr_skip (i := 27) rfl rfl (want_no rfl rfl rfl rfl rfl) (by kernel_rfl) hX42.pins (dr_skip (i := 28) rfl rfl (want_no rfl rfl rfl rfl rfl) (by kernel_rfl) hX42.pins (dr_skip (i := 29) rfl rfl (want_no rfl rfl rfl rfl rfl) (by kernel_rfl) hX42.pins (dr_take (i := 30) rfl rfl rfl (want_yes rfl rfl rfl rfl) (by kernel_rfl) (fun _ _ => r_pickF (v := (.bool false)) rfl rfl) hX42.pins (dr_take (i := 31) rfl rfl rfl (want_none rfl _) (by kernel_rfl) (fun _ _ => r_pickF (v := (.bool false)) rfl rfl) hX42.pins (dr_take (i := 32) rfl rfl rfl (want_none rfl _) (by kernel_rfl) (fun _ _ => r_assign (v := (.bool false)) rfl) hX42.pins (dr_end (by kernel_rfl) (s_then (wp_ret (s_ret (c_ret1 (v := (.bool false)) rfl rfl rfl (⟨_, congrArg (fun z => Ending.returned (Value.bool z)) (decide_eq_false (fun g => by rcases mem_rights.1 g with ⟨g1, g2⟩ | ⟨g1, g2⟩ <;> first | contradiction | omega)).symm, hX42⟩)))))))))))))))))

theorem l15Left_spec {w : World} {G : Pin} {u v cr cl : Value} {ns bs : List Nd} {c : Cl} {r y : Int} (hP : Pins G w) (hu : RSl eNode G u ns) (hv : RSl eNode G v bs) (hx : 0 ≤ y ∧ y < ns.length) (hy : 0 ≤ r ∧ r < bs.length) :
  Calls Try.prog 63 [(.agg [u].toArray), (.agg [v].toArray), (.int .i64 r), (.agg [(.int .i64 c.a), (.int .i64 c.b), cr, cl].toArray), (.int .i64 y)].toArray w fun e w' => ∃ G', e = .returned (.bool (decide ((c.a, c.b) ∈ leftsP ns bs y r))) ∧ Ext noS G w G' w' := by
 refine s_enter (n := 43) Try.func63 Try.ntmps63 rfl rfl ?_
 have hX0 : Ext noS G w G w := Ext.refl hP
 refine s_seq (c_reg ?_)
 refine q1 rfl rfl rfl (o_box [u] (v := (.agg [u].toArray)) rfl rfl hX0.pins (fun b1 w2 hk3 hb4 hp5 hl6 => ?_))
 have hX7 := hX0.step hp5 hl6
 have hlo8 : w.heap.size ≤ b1 := by have := hX0.size; omega
 obtain ⟨G9, hle10, hX11, hbp12, hf13⟩ := hb4.shut hX7 hlo8
 refine q1 rfl rfl rfl (o_box [v] (v := (.agg [v].toArray)) rfl rfl hX11.pins (fun b14 w15 hk16 hb17 hp18 hl19 => ?_))
 have hX20 := hX11.step hp18 hl19
 have hlo21 : w.heap.size ≤ b14 := by have := hX11.size; omega
 obtain ⟨G22, hle23, hX24, hbp25, hf26⟩ := hb17.shut hX20 hlo21
 refine q1 rfl rfl rfl (o_box [(.int .i64 c.a), (.int .i64 c.b), cr, cl] (v := (.agg [(.int .i64 c.a), (.int .i64 c.b), cr, cl].toArray)) rfl rfl hX24.pins (fun b27 w28 hk29 hb30 hp31 hl32 => ?_))
 have hX33 := hX24.step hp31 hl32
 have hlo34 : w.heap.size ≤ b27 := by have := hX24.size; omega
 obtain ⟨G35, hle36, hX37, hbp38, hf39⟩ := hb30.shut hX33 hlo34
 refine qd rfl rfl rfl (r_assign (v := (.bool false)) rfl) (qe (s_then (s_seq ?_)))
 refine c_draw (S := fun wz => Pins G35 wz) (last := 33) (by kernel_rfl) rfl ?_
 have hl40 : Below w28.heap.size w28 w28.drew := (Below.refl _ _).drew
 have hp41 := hX37.pins.below hl40
 have hX42 := hX37.step hp41 hl40
 refine dr_take (i := 0) rfl rfl rfl (want_none rfl _) (by kernel_rfl) (fun _ _ => r_fldp (k := 1) rfl Try.underlying49 rfl nz3 rfl) hX42.pins (dr_take (i := 1) rfl rfl rfl (want_none rfl _) (by kernel_rfl) (fun _ hS => r_ldp1 (u := (.int .i64 c.b)) ag3 rfl (hS _ _ _ (hbp38 1 _ rfl))) hX42.pins (dr_take (i := 2) rfl rfl rfl (want_none rfl _) (by kernel_rfl) (fun _ _ => r_move (v := (.int .i64 r)) rfl) hX42.pins (dr_take (i := 3) rfl rfl rfl (want_none rfl _) (by kernel_rfl) (fun _ _ => r_eql rfl rfl) hX42.pins (dr_take (i := 4) rfl rfl rfl (want_none rfl _) (by kernel_rfl) (fun _ _ => r_move (v := (.bool (decide ((c.b : Int) = r)))) rfl) hX42.pins (drbd (p := (c.b : Int) = r) (t := 15) rfl (fun h43 => ?_) (fun h43 => ?_))))))
 refine dr_take (i := 5) rfl rfl rfl (want_yes rfl rfl rfl rfl) (by kernel_rfl) (fun _ _ => r_fldp (k := 0) rfl Try.underlying33 rfl nz31 rfl) hX42.pins (dr_take (i := 6) rfl rfl rfl (want_yes rfl rfl rfl rfl) (by kernel_rfl) (fun _ hS => r_ldp1 (u := u) ag31 rfl ((Pins.of_le hS (Pin.le_trans hle23 hle36)) _ _ _ (hbp12 0 _ rfl))) hX42.pins (dr_take (i := 7) rfl rfl rfl (want_yes rfl rfl rfl rfl) (by kernel_rfl) (fun _ _ => r_move (v := (.int .i64 y)) rfl) hX42.pins (dr_take (i := 8) rfl rfl rfl (want_yes rfl rfl rfl rfl) (by kernel_rfl) (fun _ _ => run_idx Try.underlying31 sz62 (v := u) rfl rfl hu (by omega) (by omega)) hX42.pins (dr_take (i := 9) rfl rfl rfl (want_yes rfl rfl rfl rfl) (by kernel_rfl) (fun _ _ => run_fld (off := 0) Try.underlying62 rfl rfl nz47 (z := y) (k := 0) rfl hu (by omega) (by omega)) hX42.pins ?_))))
 obtain ⟨u44, hr45, hl46⟩ := nm_nl (hu.at (z := y) (by omega) (by omega)) (j := (y).toNat) rfl
 have hm47 := hr45.max
 refine dr_take (i := 10) rfl rfl rfl (want_yes rfl rfl rfl rfl) (by kernel_rfl) (fun _ hS => hl46 ag47 rfl (Pins.of_le hS (Pin.le_trans (Pin.le_trans hle10 hle23) hle36))) hX42.pins (dr_take (i := 11) rfl rfl rfl (want_yes rfl rfl rfl rfl) (by kernel_rfl) (fun _ _ => r_fldp (k := 0) rfl Try.underlying49 rfl nz3 rfl) hX42.pins (dr_take (i := 12) rfl rfl rfl (want_yes rfl rfl rfl rfl) (by kernel_rfl) (fun _ hS => r_ldp1 (u := (.int .i64 c.a)) ag3 rfl (hS _ _ _ (hbp38 0 _ rfl))) hX42.pins (dr_one (i := 13) (by kernel_rfl) (drOp1 (i := 13) rfl rfl rfl (want_yes rfl rfl rfl rfl) (o_call (vs := [u44, (.int .i64 c.a)]) Try.func71 nm71 rfl rfl rfl ?_)))))
 refine Calls.mono (l1Has_spec hX42.pins (hr45.mono (Pin.le_trans (Pin.le_trans hle10 hle23) hle36))) ?_
 rintro _ _ ⟨rfl, rfl⟩
 refine ⟨_, rfl, ?_⟩
 refine ⟨fun _ => hX42.pins, ?_⟩
 refine dr_take (i := 14) rfl rfl rfl (want_none rfl _) (by kernel_rfl) (fun _ _ => r_pickT (v := (.bool (decide (c.a ∈ ((ns.getD (y).toNat default).l))))) rfl rfl) hX42.pins (dr_take (i := 15) rfl rfl rfl (want_none rfl _) (by kernel_rfl) (fun _ _ => r_move (v := (.bool (decide (c.a ∈ ((ns.getD (y).toNat default).l))))) rfl) hX42.pins (drbd (p := (c.a ∈ ((ns.getD (y).toNat default).l))) (t := 26) rfl (fun h48 => ?_) (fun h48 => ?_)))
 exact dr_skip (i := 16) rfl rfl (want_no rfl rfl rfl rfl rfl) (by kernel_rfl) hX42.pins (dr_skip (i := 17) rfl rfl (want_no rfl rfl rfl rfl rfl) (by kernel_rfl) hX42.pins (dr_skip (i := 18) rfl rfl (want_no rfl rfl rfl rfl rfl) (by kernel_rfl) hX42.pins (dr_skip (i := 19) rfl rfl (want_no rfl rfl rfl rfl rfl) (by kernel_rfl) hX42.pins (dr_skip (i := 20) rfl rfl (want_no rfl rfl rfl rfl rfl) (by kernel_rfl) hX42.pins (dr_skip (i := 21) rfl rfl (want_undef rfl rfl rfl rfl) (by kernel_rfl) hX42.pins (dr_skip (i := 22) rfl rfl (want_undef rfl rfl rfl rfl) (by kernel_rfl) hX42.pins (dr_skip (i := 23) rfl rfl (want_undef rfl rfl rfl rfl) (by kernel_rfl) hX42.pins (dr_skip (i := 24) rfl rfl (want_undef rfl rfl rfl rfl) (by kernel_rfl) hX42.pins (dr_skip (i := 25) rfl rfl (want_undef rfl rfl rfl rfl) (by kernel_rfl) hX42.pins (dr_skip (i := 26) rfl rfl (want_undef rfl rfl rfl rfl) (by kernel_rfl) hX42.pins (dr_skip (i := 27) rfl rfl (want_undef rfl rfl rfl rfl) (by kernel_rfl) hX42.pins (dr_skip (i := 28) rfl rfl (want_undef rfl rfl rfl rfl) (by kernel_rfl) hX42.pins (dr_skip (i := 29) rfl rfl (want_undef rfl rfl rfl rfl) (by kernel_rfl) hX42.pins (dr_skip (i := 30) rfl rfl (want_no rfl rfl rfl rfl rfl) (by kernel_rfl) hX42.pins (dr_take (i := 31) rfl rfl rfl (want_none rfl _) (by kernel_rfl) (fun _ _ => r_pickT (v := (.bool true)) rfl rfl) hX42.pins (dr_take (i := 32) rfl rfl rfl (want_none rfl _) (by kernel_rfl) (fun _ _ => r_assign (v := (.bool true)) rfl) hX42.pins (dr_end (by kernel_rfl) (s_then (wp_ret (s_ret (c_ret1 (v := (.bool true)) rfl rfl rfl (⟨_, congrArg (fun z => Ending.returned (Value.bool z)) (decide_eq_true (mem_lefts.2 (by first | exact Or.inl ⟨by omega, by assumption⟩ | exact Or.inr ⟨by omega, by assumption⟩))).symm, hX42⟩))))))))))))))))))))))
 refine dr_take (i := 16) rfl rfl rfl (want_yes rfl rfl rfl rfl) (by kernel_rfl) (fun _ _ => r_fldp (k := 0) rfl Try.underlying49 rfl nz3 rfl) hX42.pins (dr_take (i := 17) rfl rfl rfl (want_yes rfl rfl rfl rfl) (by kernel_rfl) (fun _ hS => r_ldp1 (u := (.int .i64 c.a)) ag3 rfl (hS _ _ _ (hbp38 0 _ rfl))) hX42.pins (dr_take (i := 18) rfl rfl rfl (want_yes rfl rfl rfl rfl) (by kernel_rfl) (fun _ _ => r_move (v := (.int .i64 y)) rfl) hX42.pins (dr_take (i := 19) rfl rfl rfl (want_yes rfl rfl rfl rfl) (by kernel_rfl) (fun _ _ => r_eql rfl rfl) hX42.pins (dr_take (i := 20) rfl rfl rfl (want_yes rfl rfl rfl rfl) (by kernel_rfl) (fun _ _ => r_move (v := (.bool (decide ((c.a : Int) = y)))) rfl) hX42.pins (drbd (p := (c.a : Int) = y) (t := 31) rfl (fun h49 => ?_) (fun h49 => ?_))))))
 refine dr_take (i := 21) rfl rfl rfl (want_yes rfl rfl rfl rfl) (by kernel_rfl) (fun _ _ => r_fldp (k := 0) rfl Try.underlying33 rfl nz31 rfl) hX42.pins (dr_take (i := 22) rfl rfl rfl (want_yes rfl rfl rfl rfl) (by kernel_rfl) (fun _ hS => r_ldp1 (u := v) ag31 rfl ((Pins.of_le hS hle36) _ _ _ (hbp25 0 _ rfl))) hX42.pins (dr_take (i := 23) rfl rfl rfl (want_yes rfl rfl rfl rfl) (by kernel_rfl) (fun _ _ => r_move (v := (.int .i64 r)) rfl) hX42.pins (dr_take (i := 24) rfl rfl rfl (want_yes rfl rfl rfl rfl) (by kernel_rfl) (fun _ _ => run_idx Try.underlying31 sz62 (v := v) rfl rfl hv (by omega) (by omega)) hX42.pins (dr_take (i := 25) rfl rfl rfl (want_yes rfl rfl rfl rfl) (by kernel_rfl) (fun _ _ => run_fld (off := 1) Try.underlying62 rfl rfl nz47 (z := r) (k := 0) rfl hv (by omega) (by omega)) hX42.pins ?_))))
 obtain ⟨u50, hr51, hl52⟩ := nm_nr (hv.at (z := r) (by omega) (by omega)) (j := (r).toNat) rfl
 have hm53 := hr51.max
 refine dr_take (i := 26) rfl rfl rfl (want_yes rfl rfl rfl rfl) (by kernel_rfl) (fun _ hS => hl52 ag47 rfl (Pins.of_le hS (Pin.le_trans (Pin.le_trans hle10 hle23) hle36))) hX42.pins (dr_take (i := 27) rfl rfl rfl (want_yes rfl rfl rfl rfl) (by kernel_rfl) (fun _ _ => r_fldp (k := 1) rfl Try.underlying49 rfl nz3 rfl) hX42.pins (dr_take (i := 28) rfl rfl rfl (want_yes rfl rfl rfl rfl) (by kernel_rfl) (fun _ hS => r_ldp1 (u := (.int .i64 c.b)) ag3 rfl (hS _ _ _ (hbp38 1 _ rfl))) hX42.pins (dr_one (i := 29) (by kernel_rfl) (drOp1 (i := 29) rfl rfl rfl (want_yes rfl rfl rfl rfl) (o_call (vs := [u50, (.int .i64 c.b)]) Try.func71 nm71 rfl rfl rfl ?_)))))
 refine Calls.mono (l1Has_spec hX42.pins (hr51.mono (Pin.le_trans (Pin.le_trans hle10 hle23) hle36))) ?_
 rintro _ _ ⟨rfl, rfl⟩
 refine ⟨_, rfl, ?_⟩
 refine ⟨fun _ => hX42.pins, ?_⟩
 exact dr_take (i := 30) rfl rfl rfl (want_yes rfl rfl rfl rfl) (by kernel_rfl) (fun _ _ => r_pickT (v := (.bool (decide (c.b ∈ ((bs.getD (r).toNat default).r))))) rfl rfl) hX42.pins (dr_take (i := 31) rfl rfl rfl (want_none rfl _) (by kernel_rfl) (fun _ _ => r_pickF (v := (.bool (decide (c.b ∈ ((bs.getD (r).toNat default).r))))) rfl rfl) hX42.pins (dr_take (i := 32) rfl rfl rfl (want_none rfl _) (by kernel_rfl) (fun _ _ => r_assign (v := (.bool (decide (c.b ∈ ((bs.getD (r).toNat default).r))))) rfl) hX42.pins (dr_end (by kernel_rfl) (s_then (wp_ret (s_ret (c_ret1 (v := (.bool (decide (c.b ∈ ((bs.getD (r).toNat default).r))))) rfl rfl rfl (⟨_, congrArg (fun z => Ending.returned (Value.bool z)) (decide_eq_decide.2 ⟨fun g => mem_lefts.2 (by first | exact Or.inr ⟨by omega, g⟩ | exact Or.inl ⟨by omega, g⟩), fun g => by rcases mem_lefts.1 g with ⟨g1, g2⟩ | ⟨g1, g2⟩ <;> first | exact g2 | contradiction | omega⟩), hX42⟩))))))))
 exact dr_skip (i := 21) rfl rfl (want_no rfl rfl rfl rfl rfl) (by kernel_rfl) hX42.pins (dr_skip (i := 22) rfl rfl (want_no rfl rfl rfl rfl rfl) (by kernel_rfl) hX42.pins (dr_skip (i := 23) rfl rfl (want_no rfl rfl rfl rfl rfl) (by kernel_rfl) hX42.pins (dr_skip (i := 24) rfl rfl (want_no rfl rfl rfl rfl rfl) (by kernel_rfl) hX42.pins (dr_skip (i := 25) rfl rfl (want_no rfl rfl rfl rfl rfl) (by kernel_rfl) hX42.pins (dr_skip (i := 26) rfl rfl (want_no rfl rfl rfl rfl rfl) (by kernel_rfl) hX42.pins (dr_skip (i := 27) rfl rfl (want_no rfl rfl rfl rfl rfl) (by kernel_rfl) hX42.pins (dr_skip (i := 28) rfl rfl (want_no rfl rfl rfl rfl rfl) (by kernel_rfl) hX42.pins (dr_skip (i := 29) rfl rfl (want_no rfl rfl rfl rfl rfl) (by kernel_rfl) hX42.pins (dr_take (i := 30) rfl rfl rfl (want_yes rfl rfl rfl rfl) (by kernel_rfl) (fun _ _ => r_pickF (v := (.bool false)) rfl rfl) hX42.pins (dr_take (i := 31) rfl rfl rfl (want_none rfl _) (by kernel_rfl) (fun _ _ => r_pickF (v := (.bool false)) rfl rfl) hX42.pins (dr_take (i := 32) rfl rfl rfl (want_none rfl _) (by kernel_rfl) (fun _ _ => r_assign (v := (.bool false)) rfl) hX42.pins (dr_end (by kernel_rfl) (s_then (wp_ret (s_ret (c_ret1 (v := (.bool false)) rfl rfl rfl (⟨_, congrArg (fun z => Ending.returned (Value.bool z)) (decide_eq_false (fun g => by rcases mem_lefts.1 g with ⟨g1, g2⟩ | ⟨g1, g2⟩ <;> first | contradiction | omega)).symm, hX42⟩)))))))))))))))))
 refine dr_skip (i := 5) rfl rfl (want_no rfl rfl rfl rfl rfl) (by kernel_rfl) hX42.pins (dr_skip (i := 6) rfl rfl (want_no rfl rfl rfl rfl rfl) (by kernel_rfl) hX42.pins (dr_skip (i := 7) rfl rfl (want_no rfl rfl rfl rfl rfl) (by kernel_rfl) hX42.pins (dr_skip (i := 8) rfl rfl (want_no rfl rfl rfl rfl rfl) (by kernel_rfl) hX42.pins (dr_skip (i := 9) rfl rfl (want_no rfl rfl rfl rfl rfl) (by kernel_rfl) hX42.pins (dr_skip (i := 10) rfl rfl (want_no rfl rfl rfl rfl rfl) (by kernel_rfl) hX42.pins (dr_skip (i := 11) rfl rfl (want_no rfl rfl rfl rfl rfl) (by kernel_rfl) hX42.pins (dr_skip (i := 12) rfl rfl (want_no rfl rfl rfl rfl rfl) (by kernel_rfl) hX42.pins (dr_skip (i := 13) rfl rfl (want_no rfl rfl rfl rfl rfl) (by kernel_rfl) hX42.pins (dr_take (i := 14) rfl rfl rfl (want_none rfl _) (by kernel_rfl) (fun _ _ => r_pickF (v := (.bool false)) rfl rfl) hX42.pins (dr_take (i := 15) rfl rfl rfl (want_none rfl _) (by kernel_rfl) (fun _ _ => r_move (v := (.bool false)) rfl) hX42.pins (dr_take (i := 16) rfl rfl rfl (want_yes rfl rfl rfl rfl) (by kernel_rfl) (fun _ _ => r_fldp (k := 0) rfl Try.underlying49 rfl nz3 rfl) hX42.pins (dr_take (i := 17) rfl rfl rfl (want_yes rfl rfl rfl rfl) (by kernel_rfl) (fun _ hS => r_ldp1 (u := (.int .i64 c.a)) ag3 rfl (hS _ _ _ (hbp38 0 _ rfl))) hX42.pins (dr_take (i := 18) rfl rfl rfl (want_yes rfl rfl rfl rfl) (by kernel_rfl) (fun _ _ => r_move (v := (.int .i64 y)) rfl) hX42.pins (dr_take (i := 19) rfl rfl rfl (want_yes rfl rfl rfl rfl) (by kernel_rfl) (fun _ _ => r_eql rfl rfl) hX42.pins (dr_take (i := 20) rfl rfl rfl (want_yes rfl rfl rfl rfl) (by kernel_rfl) (fun _ _ => r_move (v := (.bool (decide ((c.a : Int) = y)))) rfl) hX42.pins (drbd (p := (c.a : Int) = y) (t := 31) rfl (fun h54 => ?_) (fun h54 => ?_)))))))))))))))))
 refine dr_take (i := 21) rfl rfl rfl (want_yes rfl rfl rfl rfl) (by kernel_rfl) (fun _ _ => r_fldp (k := 0) rfl Try.underlying33 rfl nz31 rfl) hX42.pins (dr_take (i := 22) rfl rfl rfl (want_yes rfl rfl rfl rfl) (by kernel_rfl) (fun _ hS => r_ldp1 (u := v) ag31 rfl ((Pins.of_le hS hle36) _ _ _ (hbp25 0 _ rfl))) hX42.pins (dr_take (i := 23) rfl rfl rfl (want_yes rfl rfl rfl rfl) (by kernel_rfl) (fun _ _ => r_move (v := (.int .i64 r)) rfl) hX42.pins (dr_take (i := 24) rfl rfl rfl (want_yes rfl rfl rfl rfl) (by kernel_rfl) (fun _ _ => run_idx Try.underlying31 sz62 (v := v) rfl rfl hv (by omega) (by omega)) hX42.pins (dr_take (i := 25) rfl rfl rfl (want_yes rfl rfl rfl rfl) (by kernel_rfl) (fun _ _ => run_fld (off := 1) Try.underlying62 rfl rfl nz47 (z := r) (k := 0) rfl hv (by omega) (by omega)) hX42.pins ?_))))
 obtain ⟨u55, hr56, hl57⟩ := nm_nr (hv.at (z := r) (by omega) (by omega)) (j := (r).toNat) rfl
 have hm58 := hr56.max
 refine dr_take (i := 26) rfl rfl rfl (want_yes rfl rfl rfl rfl) (by kernel_rfl) (fun _ hS => hl57 ag47 rfl (Pins.of_le hS (Pin.le_trans (Pin.le_trans hle10 hle23) hle36))) hX42.pins (dr_take (i := 27) rfl rfl rfl (want_yes rfl rfl rfl rfl) (by kernel_rfl) (fun _ _ => r_fldp (k := 1) rfl Try.underlying49 rfl nz3 rfl) hX42.pins (dr_take (i := 28) rfl rfl rfl (want_yes rfl rfl rfl rfl) (by kernel_rfl) (fun _ hS => r_ldp1 (u := (.int .i64 c.b)) ag3 rfl (hS _ _ _ (hbp38 1 _ rfl))) hX42.pins (dr_one (i := 29) (by kernel_rfl) (drOp1 (i := 29) rfl rfl rfl (want_yes rfl rfl rfl rfl) (o_call (vs := [u55, (.int .i64 c.b)]) Try.func71 nm71 rfl rfl rfl ?_)))))
 refine Calls.mono (l1Has_spec hX42.pins (hr56.mono (Pin.le_trans (Pin.le_trans hle10 hle23) hle36))) ?_
 rintro _ _ ⟨rfl, rfl⟩
 refine ⟨_, rfl, ?_⟩
 refine ⟨fun _ => hX42.pins, ?_⟩
 exact dr_take (i := 30) rfl rfl rfl (want_yes rfl rfl rfl rfl) (by kernel_rfl) (fun _ _ => r_pickT (v := (.bool (decide (c.b ∈ ((bs.getD (r).toNat default).r))))) rfl rfl) hX42.pins (dr_take (i := 31) rfl rfl rfl (want_none rfl _) (by kernel_rfl) (fun _ _ => r_pickF (v := (.bool (decide (c.b ∈ ((bs.getD (r).toNat default).r))))) rfl rfl) hX42.pins (dr_take (i := 32) rfl rfl rfl (want_none rfl _) (by kernel_rfl) (fun _ _ => r_assign (v := (.bool (decide (c.b ∈ ((bs.getD (r).toNat default).r))))) rfl) hX42.pins (dr_end (by kernel_rfl) (s_then (wp_ret (s_ret (c_ret1 (v := (.bool (decide (c.b ∈ ((bs.getD (r).toNat default).r))))) rfl rfl rfl (⟨_, congrArg (fun z => Ending.returned (Value.bool z)) (decide_eq_decide.2 ⟨fun g => mem_lefts.2 (by first | exact Or.inr ⟨by omega, g⟩ | exact Or.inl ⟨by omega, g⟩), fun g => by rcases mem_lefts.1 g with ⟨g1, g2⟩ | ⟨g1, g2⟩ <;> first | exact g2 | contradiction | omega⟩), hX42⟩))))))))
 exact dr_skip (i := 21) rfl rfl (want_no rfl rfl rfl rfl rfl) (by kernel_rfl) hX42.pins (dr_skip (i := 22) rfl rfl (want_no rfl rfl rfl rfl rfl) (by kernel_rfl) hX42.pins (dr_skip (i := 23) rfl rfl (want_no rfl rfl rfl rfl rfl) (by kernel_rfl) hX42.pins (dr_skip (i := 24) rfl rfl (want_no rfl rfl rfl rfl rfl) (by kernel_rfl) hX42.pins (dr_skip (i := 25) rfl rfl (want_no rfl rfl rfl rfl rfl) (by kernel_rfl) hX42.pins (dr_skip (i := 26) rfl rfl (want_no rfl rfl rfl rfl rfl) (by kernel_rfl) hX42.pins (dr_skip (i := 27) rfl rfl (want_no rfl rfl rfl rfl rfl) (by kernel_rfl) hX42.pins (dr_skip (i := 28) rfl rfl (want_no rfl rfl rfl rfl rfl) (by kernel_rfl) hX42.pins (dr_skip (i := 29) rfl rfl (want_no rfl rfl rfl rfl rfl) (by kernel_rfl) hX42.pins (dr_take (i := 30) rfl rfl rfl (want_yes rfl rfl rfl rfl) (by kernel_rfl) (fun _ _ => r_pickF (v := (.bool false)) rfl rfl) hX42.pins (dr_take (i := 31) rfl rfl rfl (want_none rfl _) (by kernel_rfl) (fun _ _ => r_pickF (v := (.bool false)) rfl rfl) hX42.pins (dr_take (i := 32) rfl rfl rfl (want_none rfl _) (by kernel_rfl) (fun _ _ => r_assign (v := (.bool false)) rfl) hX42.pins (dr_end (by kernel_rfl) (s_then (wp_ret (s_ret (c_ret1 (v := (.bool false)) rfl rfl rfl (⟨_, congrArg (fun z => Ending.returned (Value.bool z)) (decide_eq_false (fun g => by rcases mem_lefts.1 g with ⟨g1, g2⟩ | ⟨g1, g2⟩ <;> first | contradiction | omega)).symm, hX42⟩)))))))))))))))))

end P1
end Go.Proofs.Ytdleojbknkbpiaa

set_option maxRecDepth 20000
set_option maxHeartbeats 2000000
namespace Go.Proofs.Ytdleojbknkbpiaa
namespace PF1
open Go.RowKit Go.GL Go.Proofs
open B1 P1









theorem pl49 : (Try.prog.underlying 49).bind (placesD Try.prog) = some [(0, 1), (1, 1), (2, 1), (3, 1)] := by kernel_rfl








theorem lowest_spec {w : World} {G : Pin} {m : Nat} {v : Value} {M : List ((Int × Int) × Int)} {L : List Cl} {ks : List (Int × Int)} (hP : Pins G w) (hm : Mp encP2 (fun v : Int => Value.int .i64 v) w m M) (hM : MapOk L M) (hv : RSl eP2 G v ks) :
  Calls Try.prog 46 [(.map (some m)), v].toArray w fun e w' => ∃ G', e = .returned (.int .i64 (lowL L ks)) ∧ Ext noS G w G' w' := by
 refine s_enter (n := 35) Try.func46 Try.ntmps46 rfl rfl ?_
 have hX0 : Ext noS G w G w := Ext.refl hP
 have hmv := hv.max
 refine s_seq (c_reg ?_)
 refine qd rfl rfl rfl (r_assign (v := (.int .i64 0)) rfl) (qe (s_then (s_seq (c_reg ?_))))
 refine qd rfl rfl rfl (r_assign (v := (.int .i64 (-1))) rfl) (qe (s_then (s_seq (s_seq (c_reg ?_)))))
 refine qd rfl rfl rfl (r_move (v := v) rfl) (qd rfl rfl rfl (run_len Try.underlying84 (v := v) rfl hv) (qd rfl rfl rfl (r_move (v := (.int .i64 0)) rfl) (qe (s_then ?_))))
 refine s_blk (s_loop (fun (k : Nat) (en : Nat → Value) (W : World) => ∃ (env1 : Nat → Value) (j : Nat) (bz : Int) (GL1 : Pin), en = (upd (upd (upd (upd (upd (upd env1 0 (.map (some m))) 4 (.int .i64 0)) 5 (.int .i64 bz)) 10 v) 11 (.int .i64 (ks.length : Int))) 12 (.int .i64 (j : Int))) ∧ k = ks.length - j ∧ Ext noS G w GL1 W ∧ Pin.le G GL1 ∧ (j ≤ ks.length) ∧ (bz = lowL L (ks.take j)) ∧ (Mp encP2 (fun v : Int => Value.int .i64 v) W m (M))) _ ⟨_, 0, (-1), G, (packS (x := 12) (packS (x := 11) (packS (x := 10) (packS (x := 5) (packS (x := 4) (pack1 (x := 0) rfl) rfl) rfl) rfl) rfl) rfl), rfl, hX0, Pin.le_refl _, Nat.zero_le _, (low_nil L).symm, hm⟩ ?_)
 rintro k1 _ w2 ⟨env1, j, bz, GL1, rfl, hk3, hX4, hlek1, hj, hb, hm5⟩
 refine s_seq (c_reg ?_)
 refine qd rfl rfl rfl (r_lss rfl rfl) (qe (s_then (s_seq ?_)))
 refine c_ifd (p := ((j : Int) : Int) < (ks.length : Int)) rfl rfl (fun h6 => ?_) (fun h6 => ?_)
 refine wp_skip (s_then (s_seq ?_))
 refine s_blk (s_seq (c_reg ?_))
 refine qd rfl rfl rfl (run_idx Try.underlying84 sz52 (v := v) rfl rfl hv (by omega) (by omega)) ?_
 obtain ⟨cs7, hrep8, hagg9, hcell10⟩ := nm_el (j := j) default (hv.at (z := (j : Int)) (by omega) (by omega)) rfl
 obtain rfl := hrep8
 refine qd rfl rfl rfl (hagg9 ag52 sz52 rfl (Pins.of_le hX4.pins hlek1)) (q1 rfl rfl rfl (o_alloc [(.int .i64 0), (.int .i64 0)] zr52 rfl hX4.pins (fun b11 w12 hk13 hb14 hp15 hl16 => ?_)))
 have hX17 := hX4.step hp15 hl16
 have hm18 := hm5.below hl16
 have hlo19 : w.heap.size ≤ b11 := by have := hX4.size; omega
 refine q0 rfl rfl rfl (o_stp (cs' := [(.int .i64 ((ks.getD j default).1)), (.int .i64 ((ks.getD j default).2))]) (us := [(.int .i64 ((ks.getD j default).1)), (.int .i64 ((ks.getD j default).2))]) (v := (.agg [(.int .i64 ((ks.getD j default).1)), (.int .i64 ((ks.getD j default).2))].toArray)) sz52 rfl rfl rfl (ones2 (by rfl) (by rfl)) hX17.pins hb14 (Nat.le_of_ble_eq_true rfl) rfl (fun w20 hb21 hp22 hg23 hz24 => ?_))
 have hX25 := hX17.write hp22 hg23 ((lo_box hlo19))
 have hm26 := hm18.kept hg23 (map_ne_box hm18 hb14)
 obtain ⟨G27, hle28, hX29, hbp30, hf31⟩ := hb21.shut hX25 hlo19
 refine qe (s_then (s_seq (c_reg ?_)))
 refine qd rfl rfl rfl (r_move (v := (.map (some m))) rfl) (qd rfl rfl rfl (r_ldpA (cs := [(.int .i64 ((ks.getD j default).1)), (.int .i64 ((ks.getD j default).2))]) ag52 sz52 rfl (fun j u hj => hX29.pins _ _ _ (hbp30 _ _ (by simpa using hj)))) (qd rfl rfl rfl (run_lookv_int (k := (((ks.getD j default).1, (ks.getD j default).2) : Int × Int)) (key_pair Try.underlying52 Try.underlying3 sz3) Try.underlying46 zr3 hm26 rfl rfl) (qd rfl rfl rfl (r_move (v := (.tuple #[(.int .i64 ((Go.GL.look M (((ks.getD j default).1, (ks.getD j default).2) : Int × Int)).getD 0)), (.bool ((Go.GL.look M (((ks.getD j default).1, (ks.getD j default).2) : Int × Int)).isSome))])) rfl) (qd rfl rfl rfl (r_extract (v := (.int .i64 ((Go.GL.look M (((ks.getD j default).1, (ks.getD j default).2) : Int × Int)).getD 0))) rfl rfl) (qd rfl rfl rfl (r_extract (v := (.bool ((Go.GL.look M (((ks.getD j default).1, (ks.getD j default).2) : Int × Int)).isSome))) rfl rfl) (qd rfl rfl rfl (r_assign (v := (.int .i64 ((Go.GL.look M (((ks.getD j default).1, (ks.getD j default).2) : Int × Int)).getD 0))) rfl) (qd rfl rfl rfl (r_assign (v := (.bool ((Go.GL.look M (((ks.getD j default).1, (ks.getD j default).2) : Int × Int)).isSome))) rfl) (qe (s_then (s_seq (c_reg ?_)))))))))))
 refine qd rfl rfl rfl (r_move (v := (.bool ((Go.GL.look M (((ks.getD j default).1, (ks.getD j default).2) : Int × Int)).isSome))) rfl) (qd rfl rfl rfl (r_move (v := (.bool ((Go.GL.look M (((ks.getD j default).1, (ks.getD j default).2) : Int × Int)).isSome))) rfl) (qb (t := 23) rfl (fun h32 => ?_) (fun h32 => ?_)))
 refine qdg rfl rfl rfl rfl rfl rfl (r_move (v := (.int .i64 bz)) rfl) (qdg rfl rfl rfl rfl rfl rfl (r_lss rfl rfl) (qdg rfl rfl rfl rfl rfl rfl (r_move (v := (.bool (decide ((bz : Int) < 0)))) rfl) (qbd (p := (bz : Int) < 0) (t := 26) rfl (fun h33 => ?_) (fun h33 => ?_))))
 refine qs rfl rfl rfl rfl rfl rfl (qs rfl rfl rfl rfl rfl rfl (qs rfl rfl rfl rfl rfl rfl (qdg rfl rfl rfl rfl rfl rfl (r_pickT (v := (.bool true)) rfl rfl) (qd rfl rfl rfl (r_pickT (v := (.bool true)) rfl rfl) (qe (s_then ?_))))))
 refine c_ifT rfl rfl (c_reg (qd rfl rfl rfl (r_move (v := (.int .i64 ((Go.GL.look M (((ks.getD j default).1, (ks.getD j default).2) : Int × Int)).getD 0))) rfl) (qd rfl rfl rfl (r_assign (v := (.int .i64 ((Go.GL.look M (((ks.getD j default).1, (ks.getD j default).2) : Int × Int)).getD 0))) rfl) (qe (s_blkN (s_then (c_reg ?_)))))))
 refine qd rfl rfl rfl (r_add rfl rfl (by omega)) (qd rfl rfl rfl (r_move (v := (.int .i64 ((j : Int) + 1))) rfl) (qe (s_lopN (⟨_, ?_, _, rfl, _, j + 1, (Go.GL.look M (((ks.getD j default).1, (ks.getD j default).2) : Int × Int)).getD 0, G27, (packS (x := 12) (packS (x := 11) (packS (x := 10) (packS (x := 5) (packS (x := 4) (pack1 (x := 0) rfl) rfl) rfl) rfl) rfl) rfl), rfl, hX29, (Pin.le_trans hlek1 hle28), (by omega), (hM.take (by omega) h32 hb (Or.inl h33)), hm26⟩))))
 omega
 refine qdg rfl rfl rfl rfl rfl rfl (r_move (v := (.int .i64 ((Go.GL.look M (((ks.getD j default).1, (ks.getD j default).2) : Int × Int)).getD 0))) rfl) (qdg rfl rfl rfl rfl rfl rfl (r_move (v := (.int .i64 bz)) rfl) (qdg rfl rfl rfl rfl rfl rfl (r_lss rfl rfl) (qdg rfl rfl rfl rfl rfl rfl (r_pickF (v := (.bool (decide (((Go.GL.look M (((ks.getD j default).1, (ks.getD j default).2) : Int × Int)).getD 0 : Int) < bz)))) rfl rfl) (qd rfl rfl rfl (r_pickT (v := (.bool (decide (((Go.GL.look M (((ks.getD j default).1, (ks.getD j default).2) : Int × Int)).getD 0 : Int) < bz)))) rfl rfl) (qe (s_then ?_))))))
 refine c_ifd (p := ((Go.GL.look M (((ks.getD j default).1, (ks.getD j default).2) : Int × Int)).getD 0 : Int) < bz) rfl rfl (fun h34 => ?_) (fun h34 => ?_)
 refine c_reg (qd rfl rfl rfl (r_move (v := (.int .i64 ((Go.GL.look M (((ks.getD j default).1, (ks.getD j default).2) : Int × Int)).getD 0))) rfl) (qd rfl rfl rfl (r_assign (v := (.int .i64 ((Go.GL.look M (((ks.getD j default).1, (ks.getD j default).2) : Int × Int)).getD 0))) rfl) (qe (s_blkN (s_then (c_reg ?_))))))
 refine qd rfl rfl rfl (r_add rfl rfl (by omega)) (qd rfl rfl rfl (r_move (v := (.int .i64 ((j : Int) + 1))) rfl) (qe (s_lopN (⟨_, ?_, _, rfl, _, j + 1, (Go.GL.look M (((ks.getD j default).1, (ks.getD j default).2) : Int × Int)).getD 0, G27, (packS (x := 12) (packS (x := 11) (packS (x := 10) (packS (x := 5) (packS (x := 4) (pack1 (x := 0) rfl) rfl) rfl) rfl) rfl) rfl), rfl, hX29, (Pin.le_trans hlek1 hle28), (by omega), (hM.take (by omega) h32 hb (Or.inr h34)), hm26⟩))))
 omega
 refine wp_skip (s_blkN (s_then (c_reg ?_)))
 refine qd rfl rfl rfl (r_add rfl rfl (by omega)) (qd rfl rfl rfl (r_move (v := (.int .i64 ((j : Int) + 1))) rfl) (qe (s_lopN (⟨_, ?_, _, rfl, _, j + 1, bz, G27, (packS (x := 12) (packS (x := 11) (packS (x := 10) (packS (x := 5) (packS (x := 4) (pack1 (x := 0) rfl) rfl) rfl) rfl) rfl) rfl), rfl, hX29, (Pin.le_trans hlek1 hle28), (by omega), (hM.leave (by omega) hb h33 h34), hm26⟩))))
 omega
 refine qs rfl rfl rfl rfl rfl rfl (qs rfl rfl rfl rfl rfl rfl (qs rfl rfl rfl rfl rfl rfl (qsu rfl rfl rfl rfl rfl (qsu rfl rfl rfl rfl rfl (qsu rfl rfl rfl rfl rfl (qs rfl rfl rfl rfl rfl rfl (qd rfl rfl rfl (r_pickF (v := (.bool false)) rfl rfl) (qe (s_then ?_)))))))))
 refine c_ifF rfl rfl (wp_skip (s_blkN (s_then (c_reg ?_))))
 refine qd rfl rfl rfl (r_add rfl rfl (by omega)) (qd rfl rfl rfl (r_move (v := (.int .i64 ((j : Int) + 1))) rfl) (qe (s_lopN (⟨_, ?_, _, rfl, _, j + 1, bz, G27, (packS (x := 12) (packS (x := 11) (packS (x := 10) (packS (x := 5) (packS (x := 4) (pack1 (x := 0) rfl) rfl) rfl) rfl) rfl) rfl), rfl, hX29, (Pin.le_trans hlek1 hle28), (by omega), (hb.trans (hM.no (by omega) h32).symm), hm26⟩))))
 omega
 refine wp_exit (s_thenE (s_lopE (s_blkE (s_then (s_seq (c_reg ?_))))))
 refine qd rfl rfl rfl (r_move (v := (.int .i64 bz)) rfl) (qd rfl rfl rfl (r_assign (v := (.int .i64 bz)) rfl) (qe (s_then ?_)))
 refine wp_ret (s_ret (c_ret1 (v := (.int .i64 bz)) rfl rfl rfl ?_))
 rw [take_all (by omega)] at hb
 exact ⟨_, congrArg (fun z => Ending.returned (Value.int .i64 z)) hb, hX4⟩

theorem justified_spec {w : World} {G : Pin} {m : Nat} {u v : Value} {M : List ((Int × Int) × Int)} {L : List Cl} {ns bs : List Nd} {x y : Nat} (hP : Pins G w) (hm : Mp encP2 (fun v : Int => Value.int .i64 v) w m M) (hM : MapOk L M) (hu : RSl eNode G u ns) (hv : RSl eNode G v bs) (hga : GoodP ns) (hgb : GoodP bs) (hx : x < ns.length) (hy : y < bs.length) :
  Calls Try.prog 20 [(.map (some m)), u, v, (.int .i64 (x : Int)), (.int .i64 (y : Int))].toArray w fun e w' => ∃ (r l : Value) (G' : Pin), e = .returned (.tuple #[.agg [.int .i64 (jstC ns bs L x y).a, .int .i64 (jstC ns bs L x y).b, r, l].toArray, .bool (jstB ns bs L x y)]) ∧ RSl eInt G' r (jstC ns bs L x y).r ∧ RSl eInt G' l (jstC ns bs L x y).l ∧ Ext noS G w G' w' := by
 refine s_enter (n := 77) Try.func20 Try.ntmps20 rfl rfl ?_
 have hX0 : Ext noS G w G w := Ext.refl hP
 have hmu := hu.max
 have hmv := hv.max
 have hlx := hga.lenr (i := x) (by omega)
 have hly := hgb.lenl (i := y) (by omega)
 refine s_seq (c_reg ?_)
 refine q1 rfl rfl rfl (o_alloc [(.int .i64 0), (.int .i64 0), (.slice none 0 0), (.slice none 0 0)] zr49 rfl hX0.pins (fun b1 w2 hk3 hb4 hp5 hl6 => ?_))
 have hX7 := hX0.step hp5 hl6
 have hm8 := hm.below hl6
 have hlo9 : w.heap.size ≤ b1 := by have := hX0.size; omega
 refine qd rfl rfl rfl (r_assign (v := (.bool false)) rfl) (qe (s_then (s_seq (c_reg ?_))))
 refine qd rfl rfl rfl (r_move (v := (.int .i64 (x : Int))) rfl) (qd rfl rfl rfl (r_move (v := (.int .i64 (y : Int))) rfl) (qd rfl rfl rfl (r_build [(.int .i64 0), (.int .i64 0), (.slice none 0 0), (.slice none 0 0)] [(.int .i64 (x : Int)), (.int .i64 (y : Int)), (.slice none 0 0), (.slice none 0 0)] [(0, (.int .i64 (x : Int)), [(.int .i64 (x : Int))]), (1, (.int .i64 (y : Int)), [(.int .i64 (y : Int))])] Try.underlying49 zr49 rfl pl49 rfl (List.forall_mem_cons.2 ⟨rfl, (List.forall_mem_cons.2 ⟨rfl, (fun _ h => by cases h)⟩)⟩) rfl) (q1 rfl rfl rfl (o_alloc [(.int .i64 0), (.int .i64 0), (.slice none 0 0), (.slice none 0 0)] zr49 rfl hX7.pins (fun b10 w11 hk12 hb13 hp14 hl15 => ?_)))))
 have hX16 := hX7.step hp14 hl15
 have hb17 := hb4.below hl15
 have hm18 := hm8.below hl15
 have ha19 : Apart (some b10) (some b1) := new_ne_box (congrArg some hk12) hb4.lt
 have hlo20 : w.heap.size ≤ b10 := by have := hX7.size; omega
 refine q0 rfl rfl rfl (o_stp (cs' := [(.int .i64 (x : Int)), (.int .i64 (y : Int)), (.slice none 0 0), (.slice none 0 0)]) (us := [(.int .i64 (x : Int)), (.int .i64 (y : Int)), (.slice none 0 0), (.slice none 0 0)]) (v := (.agg [(.int .i64 (x : Int)), (.int .i64 (y : Int)), (.slice none 0 0), (.slice none 0 0)].toArray)) sz49 rfl rfl rfl (ones4 (by rfl) (by rfl) (by rfl) (by rfl)) hX16.pins hb13 (Nat.le_of_ble_eq_true rfl) rfl (fun w21 hb22 hp23 hg24 hz25 => ?_))
 have hX26 := hX16.write hp23 hg24 ((lo_box hlo20))
 have hb27 := hb17.keptA hg24 ha19.symm
 have hm28 := hm18.kept hg24 (map_ne_box hm18 hb13)
 refine qe (s_then (s_seq (s_seq (c_reg ?_))))
 refine qd rfl rfl rfl (r_move (v := u) rfl) (qd rfl rfl rfl (r_move (v := (.int .i64 (x : Int))) rfl) (qd rfl rfl rfl (run_idx Try.underlying31 sz62 (v := u) rfl rfl hu (by omega) (by omega)) (qd rfl rfl rfl (run_fld (off := 1) Try.underlying62 rfl rfl nz47 (z := (x : Int)) (k := 0) rfl hu (by omega) (by omega)) ?_)))
 obtain ⟨u29, hr30, hl31⟩ := nm_nr (hu.at (z := (x : Int)) (by omega) (by omega)) (j := x) rfl
 have hm32 := hr30.max
 refine qd rfl rfl rfl (hl31 ag47 rfl hX26.pins) (qd rfl rfl rfl (run_len Try.underlying47 (v := u29) rfl hr30) (qd rfl rfl rfl (r_move (v := (.int .i64 0)) rfl) (qe (s_then ?_))))
 refine s_blk (s_loop (fun (k : Nat) (en : Nat → Value) (W : World) => ∃ (env1 : Nat → Value) (i : Nat) (rv : Value) (rs : List Int) (GLi : Pin), en = (upd (upd (upd (upd (upd (upd (upd (upd (upd (upd env1 0 (.map (some m))) 1 u) 2 v) 3 (.int .i64 (x : Int))) 4 (.int .i64 (y : Int))) 10 (.pointer (some ⟨b1, 0, none⟩))) 12 (.pointer (some ⟨b10, 0, none⟩))) 26 u29) 27 (.int .i64 (((ns.getD x default).r).length : Int))) 28 (.int .i64 (i : Int))) ∧ k = (ns.getD x default).r.length - i ∧ Ext noS G w GLi W ∧ Pin.le G GLi ∧ (i ≤ (ns.getD x default).r.length) ∧ (rs = ((ns.getD x default).r.take i).map (fun r => lowL L (rightsP ns bs r y))) ∧ (∀ q, q < i → 0 ≤ lowL L (rightsP ns bs ((ns.getD x default).r.getD q 0) y)) ∧ (Own eInt 3 GLi W w.heap.size rv (rs)) ∧ (Bx GLi W b1 [(.int .i64 0), (.int .i64 0), (.slice none 0 0), (.slice none 0 0)]) ∧ (Bx GLi W b10 [(.int .i64 (x : Int)), (.int .i64 (y : Int)), rv, (.slice none 0 0)]) ∧ (Apart rv.ownBlock (some b1)) ∧ (Apart rv.ownBlock (some b10)) ∧ (Mp encP2 (fun v : Int => Value.int .i64 v) W m (M))) _ ⟨_, 0, (.slice none 0 0), [], G, (packS (x := 28) (packS (x := 27) (packS (x := 26) (packS (x := 12) (packS (x := 10) (packS (x := 4) (packS (x := 3) (packS (x := 2) (packS (x := 1) (pack1 (x := 0) rfl) rfl) rfl) rfl) rfl) rfl) rfl) rfl) rfl) rfl), rfl, hX26, Pin.le_refl _, Nat.zero_le _, rfl, (fun i hi => absurd hi (Nat.not_lt_zero i)), (Own.nil _ _ _ _ _), hb27, hb22, apart_none, apart_none, hm28⟩ ?_)
 rintro k33 _ w34 ⟨env1, i, rv, rs, GLi, rfl, hk35, hX36, hlek33, hji, hrs, hpi, hw37, hw38, hw39, ha40, ha41, hm42⟩
 have hrsl : rs.length ≤ (ns.getD x default).r.length := by rw [hrs, List.length_map, List.length_take]; omega
 refine s_seq (c_reg ?_)
 refine qd rfl rfl rfl (r_lss rfl rfl) (qe (s_then (s_seq ?_)))
 refine c_ifd (p := ((i : Int) : Int) < (((ns.getD x default).r).length : Int)) rfl rfl (fun h43 => ?_) (fun h43 => ?_)
 have hki := hga.optsOk.right (j := x) (i := i) (by omega) (by omega)
 have hl1 := hga.lenl (i := ((ns.getD x default).r.getD i 0).toNat) (by omega)
 have hl2 := hgb.lenr (i := y) (by omega)
 refine wp_skip (s_then (s_seq ?_))
 refine s_blk (s_seq (c_reg ?_))
 refine qd rfl rfl rfl (run_idx Try.underlying47 sz3 (v := u29) rfl rfl hr30 (by omega) (by omega)) (qd rfl rfl rfl (run_load_int (r := ((ns.getD x default).r).getD i 0) rfl ag3 (z := (i : Int)) rfl hr30 (Pins.of_le hX36.pins hlek33) (by omega) (by omega)) (qd rfl rfl rfl (r_assign (v := (.int .i64 (((ns.getD x default).r).getD i 0))) rfl) (qe (s_then (s_seq (c_reg ?_))))))
 refine qd rfl rfl rfl (r_move (v := (.map (some m))) rfl) (qd rfl rfl rfl (r_move (v := u) rfl) (qd rfl rfl rfl (r_move (v := v) rfl) (qd rfl rfl rfl (r_move (v := (.int .i64 (((ns.getD x default).r).getD i 0))) rfl) (qd rfl rfl rfl (r_move (v := (.int .i64 (y : Int))) rfl) (q1 rfl rfl rfl (o_call (vs := [u, v, (.int .i64 (((ns.getD x default).r).getD i 0)), (.int .i64 (y : Int))]) Try.func47 nm47 rfl rfl rfl ?_))))))
 refine Calls.mono (rightsOf_spec (x := ((ns.getD x default).r).getD i 0) (y := (y : Int)) hX36.pins (hu.mono hlek33) (hv.mono hlek33) (by omega) (by omega) ⟨Nat.le_trans hl1 (by decide), Nat.le_trans hl2 (by decide)⟩) ?_
 rintro _ w46 ⟨u44, G45, rfl, ho47, hx48⟩
 refine ⟨_, rfl, ?_⟩
 have hX49 := hX36.tr hx48
 have ho50 := hw37.ext hx48
 have hb51 := hw38.ext hx48
 have hb52 := hw39.ext hx48
 have hm53 := hm42.below hx48.below
 have ha54 : Apart u44.ownBlock rv.ownBlock := made_ne_own ho47.lt hw37.lt
 have ha55 : Apart u44.ownBlock (some b1) := made_ne_box ho47.lt hw38.lt
 have ha56 : Apart u44.ownBlock (some b10) := made_ne_box ho47.lt hw39.lt
 have ho57 : Own eP2 52 G45 w46 w.heap.size u44 (rightsP ns bs (((ns.getD x default).r).getD i 0) (y : Int)) := ho47.weaken hX36.size
 obtain ⟨G61, hle64, hX63, hr62, hf65⟩ := ho57.sealed hX49
 have ho66 := ho50.moreO hle64 hf65 ha54.symm
 have hb67 := hb51.moreO hf65 ha55.symm
 have hb68 := hb52.moreO hf65 ha56.symm
 refine q1 rfl rfl rfl (o_call (vs := [(.map (some m)), u44]) Try.func46 nm46 rfl rfl rfl ?_)
 refine Calls.mono (lowest_spec hX63.pins hm53 hM hr62) ?_
 rintro _ w59 ⟨G58, rfl, hx60⟩
 refine ⟨_, rfl, ?_⟩
 have hX69 := hX63.tr hx60
 have ho70 := ho66.ext hx60
 have hb71 := hb67.ext hx60
 have hb72 := hb68.ext hx60
 have hm73 := hm53.below hx60.below
 refine qd rfl rfl rfl (r_assign (v := (.int .i64 (lowL L (rightsP ns bs (((ns.getD x default).r).getD i 0) (y : Int))))) rfl) (qe (s_then (s_seq (s_seq (c_reg ?_)))))
 refine qd rfl rfl rfl (r_move (v := (.int .i64 (lowL L (rightsP ns bs (((ns.getD x default).r).getD i 0) (y : Int))))) rfl) (qd rfl rfl rfl (r_lss rfl rfl) (qe (s_then ?_)))
 refine c_ifd (p := (lowL L (rightsP ns bs (((ns.getD x default).r).getD i 0) (y : Int)) : Int) < 0) rfl rfl (fun h74 => ?_) (fun h74 => ?_)
 refine s_seq (c_reg ?_)
 refine qd rfl rfl rfl (r_build [(.int .i64 0), (.int .i64 0), (.slice none 0 0), (.slice none 0 0)] [(.int .i64 0), (.int .i64 0), (.slice none 0 0), (.slice none 0 0)] [] Try.underlying49 zr49 rfl pl49 rfl (fun _ h => by cases h) rfl) (q0 rfl rfl rfl (o_stp (cs' := [(.int .i64 0), (.int .i64 0), (.slice none 0 0), (.slice none 0 0)]) (us := [(.int .i64 0), (.int .i64 0), (.slice none 0 0), (.slice none 0 0)]) (v := (.agg [(.int .i64 0), (.int .i64 0), (.slice none 0 0), (.slice none 0 0)].toArray)) sz49 rfl rfl rfl (ones4 (by rfl) (by rfl) (by rfl) (by rfl)) hX69.pins hb71 (Nat.le_of_ble_eq_true rfl) rfl (fun w75 hb76 hp77 hg78 hz79 => ?_)))
 have hX80 := hX69.write hp77 hg78 ((lo_box hlo9))
 refine qd rfl rfl rfl (r_assign (v := (.bool false)) rfl) (qe (s_then ?_))
 refine wp_ret (s_ret (c_retct (cs := [(.int .i64 0), (.int .i64 0), (.slice none 0 0), (.slice none 0 0)]) (v := (.bool false)) rfl rfl rfl rfl rfl ag49 sz49 (fun j u hj => by rw [Nat.zero_add]; exact hb76.cell hj) ?_))
 obtain ⟨e1, e2⟩ := @jst_no ns bs L x y (fun g => absurd (g.r _ (getD_mem (d := (0 : Int)) (show i < (ns.getD x default).r.length by omega))) (by omega))
 rw [e1, e2]
 exact ⟨_, _, _, rfl, (nil_reads _ _), (nil_reads _ _), hX80⟩
 refine wp_skip (s_then (c_reg ?_))
 refine qd rfl rfl rfl (r_fldp (k := 2) rfl Try.underlying49 rfl nz47 rfl) (qd rfl rfl rfl (r_ldp1 (u := rv) ag47 rfl (hb72.cell (o := 2) rfl)) (qd rfl rfl rfl (r_move (v := (.int .i64 (lowL L (rightsP ns bs (((ns.getD x default).r).getD i 0) (y : Int))))) rfl) (q1 rfl rfl rfl (o_buildF (E := eInt) (e := 3) [(.int .i64 (lowL L (rightsP ns bs (((ns.getD x default).r).getD i 0) (y : Int))))] [lowL L (rightsP ns bs (((ns.getD x default).r).getD i 0) (y : Int))] Try.underlying47 sz3 zr3 (by exact reps1 (by rfl)) (ones1 (by rfl)) rfl rfl rfl rfl (by decide) hX69.pins (fun u84 w85 ho86 hp87 hl88 hk89 => ?_)))))
 have hX90 := hX69.step hp87 hl88
 have ho91 := ho70.below hl88
 have hb92 := hb71.below hl88
 have hb93 := hb72.below hl88
 have hm94 := hm73.below hl88
 have ho98 : Own eInt 3 G58 w85 w.heap.size u84 ([lowL L (rightsP ns bs (((ns.getD x default).r).getD i 0) (y : Int))]) := ho86.weaken hX69.size
 refine q1 rfl rfl rfl (o_append (E := eInt) (v := rv) (u := u84) 8 Try.underlying47 ap3 (by decide) rfl rfl hX90.pins ho91 ho98.src (by first | omega | (rw [List.nil_append]; omega) | (rw [List.length_nil]; omega) | (rw [List.length_append]; omega) | (simp; done) | (simp; omega) | (simp only [List.length_append, List.length_cons, List.length_nil]; omega)) (by first | omega | (rw [List.nil_append]; omega) | (rw [List.length_nil]; omega) | (rw [List.length_append]; omega) | (simp; done) | (simp; omega) | (simp only [List.length_append, List.length_cons, List.length_nil]; omega)) (hX90.size) (fun u99 w100 ho101 hp102 hg103 hw104 => ?_))
 have hX105 := hX90.write hp102 hg103 ((lo_own ho91))
 have hb107 := hb92.keptA hg103 ha40.symm
 have hb108 := hb93.keptA hg103 ha41.symm
 have hm109 := hm94.kept hg103 (map_ne_own hm94 ho91)
 have ha111 : Apart (some b1) u99.ownBlock := app_ne_box ha40.symm hw104 hb92.lt
 have ha112 : Apart (some b10) u99.ownBlock := app_ne_box ha41.symm hw104 hb93.lt
 have hm113 : (rs ++ ([lowL L (rightsP ns bs (((ns.getD x default).r).getD i 0) (y : Int))])).length = rs.length + 1 := List.length_append
 refine qd rfl rfl rfl (r_fldp (k := 2) rfl Try.underlying49 rfl nz47 rfl) (q0 rfl rfl rfl (o_stp (cs' := [(.int .i64 (x : Int)), (.int .i64 (y : Int)), u99, (.slice none 0 0)]) (us := [u99]) (v := u99) sz47 rfl rfl (cells1 ho101.one) (ones1 ho101.one) hX105.pins hb108 (Nat.le_of_ble_eq_true rfl) rfl (fun w114 hb115 hp116 hg117 hz118 => ?_)))
 have hX119 := hX105.write hp116 hg117 ((lo_box hlo20))
 have ho120 := ho101.keptA hg117 ha112.symm
 have hb121 := hb107.keptA hg117 ha19.symm
 have hm122 := hm109.kept hg117 (map_ne_box hm109 hb108)
 refine qe (s_blkN (s_then (c_reg ?_)))
 refine qd rfl rfl rfl (r_add rfl rfl (by omega)) (qd rfl rfl rfl (r_move (v := (.int .i64 ((i : Int) + 1))) rfl) (qe (s_lopN (⟨_, ?_, _, rfl, _, i + 1, u99, rs ++ ([lowL L (rightsP ns bs (((ns.getD x default).r).getD i 0) (y : Int))]), G58, (packS (x := 28) (packS (x := 27) (packS (x := 26) (packS (x := 12) (packS (x := 10) (packS (x := 4) (packS (x := 3) (packS (x := 2) (packS (x := 1) (pack1 (x := 0) rfl) rfl) rfl) rfl) rfl) rfl) rfl) rfl) rfl) rfl), rfl, hX119, (Pin.le_trans (Pin.le_trans (Pin.le_trans hlek33 hx48.le) hle64) hx60.le), (by omega), (by rw [hrs]; exact map_next (f := (fun r => lowL L (rightsP ns bs r y))) 0 (by omega)), (fun q hq => if h3 : q = i then h3 ▸ (by omega) else hpi q (by omega)), ho120, hb121, hb115, ha111.symm, ha112.symm, hm122⟩))))
 omega
 refine wp_exit (s_thenE (s_lopE (s_blkE (s_then (s_seq (s_seq (c_reg ?_)))))))
 refine qd rfl rfl rfl (r_move (v := v) rfl) (qd rfl rfl rfl (r_move (v := (.int .i64 (y : Int))) rfl) (qd rfl rfl rfl (run_idx Try.underlying31 sz62 (v := v) rfl rfl hv (by omega) (by omega)) (qd rfl rfl rfl (run_fld (off := 0) Try.underlying62 rfl rfl nz47 (z := (y : Int)) (k := 0) rfl hv (by omega) (by omega)) ?_)))
 obtain ⟨u123, hr124, hl125⟩ := nm_nl (hv.at (z := (y : Int)) (by omega) (by omega)) (j := y) rfl
 have hm126 := hr124.max
 refine qd rfl rfl rfl (hl125 ag47 rfl (Pins.of_le hX36.pins hlek33)) (qd rfl rfl rfl (run_len Try.underlying47 (v := u123) rfl hr124) (qd rfl rfl rfl (r_move (v := (.int .i64 0)) rfl) (qe (s_then ?_))))
 refine s_blk (s_loop (fun (k : Nat) (en : Nat → Value) (W : World) => ∃ (env1 : Nat → Value) (j : Nat) (lv : Value) (ls : List Int) (GLj : Pin), en = (upd (upd (upd (upd (upd (upd (upd (upd (upd env1 0 (.map (some m))) 1 u) 2 v) 3 (.int .i64 (x : Int))) 10 (.pointer (some ⟨b1, 0, none⟩))) 12 (.pointer (some ⟨b10, 0, none⟩))) 53 u123) 54 (.int .i64 (((bs.getD y default).l).length : Int))) 55 (.int .i64 (j : Int))) ∧ k = (bs.getD y default).l.length - j ∧ Ext noS G w GLj W ∧ Pin.le GLi GLj ∧ (j ≤ (bs.getD y default).l.length) ∧ (ls = ((bs.getD y default).l.take j).map (fun r => lowL L (leftsP ns bs x r))) ∧ (∀ q, q < j → 0 ≤ lowL L (leftsP ns bs x ((bs.getD y default).l.getD q 0))) ∧ (Own eInt 3 GLj W w.heap.size lv (ls)) ∧ (Own eInt 3 GLj W w.heap.size rv (rs)) ∧ (Bx GLj W b1 [(.int .i64 0), (.int .i64 0), (.slice none 0 0), (.slice none 0 0)]) ∧ (Bx GLj W b10 [(.int .i64 (x : Int)), (.int .i64 (y : Int)), rv, lv]) ∧ (Apart lv.ownBlock rv.ownBlock) ∧ (Apart lv.ownBlock (some b1)) ∧ (Apart lv.ownBlock (some b10)) ∧ (Mp encP2 (fun v : Int => Value.int .i64 v) W m (M))) _ ⟨_, 0, (.slice none 0 0), [], GLi, (packS (x := 55) (packS (x := 54) (packS (x := 53) (packS (x := 12) (packS (x := 10) (packS (x := 3) (packS (x := 2) (packS (x := 1) (pack1 (x := 0) rfl) rfl) rfl) rfl) rfl) rfl) rfl) rfl) rfl), rfl, hX36, Pin.le_refl _, Nat.zero_le _, rfl, (fun i hi => absurd hi (Nat.not_lt_zero i)), (Own.nil _ _ _ _ _), hw37, hw38, hw39, apart_none, apart_none, apart_none, hm42⟩ ?_)
 rintro k127 _ w128 ⟨env1, j, lv, ls, GLj, rfl, hk129, hX130, hlek127, hjj, hls, hpj, hw131, hw132, hw133, hw134, ha135, ha136, ha137, hm138⟩
 have hlsl : ls.length ≤ (bs.getD y default).l.length := by rw [hls, List.length_map, List.length_take]; omega
 refine s_seq (c_reg ?_)
 refine qd rfl rfl rfl (r_lss rfl rfl) (qe (s_then (s_seq ?_)))
 refine c_ifd (p := ((j : Int) : Int) < (((bs.getD y default).l).length : Int)) rfl rfl (fun h139 => ?_) (fun h139 => ?_)
 have hki := hgb.optsOk.left (j := y) (i := j) (by omega) (by omega)
 have hl1 := hga.lenl (i := x) (by omega)
 have hl2 := hgb.lenr (i := ((bs.getD y default).l.getD j 0).toNat) (by omega)
 refine wp_skip (s_then (s_seq ?_))
 refine s_blk (s_seq (c_reg ?_))
 refine qd rfl rfl rfl (run_idx Try.underlying47 sz3 (v := u123) rfl rfl hr124 (by omega) (by omega)) (qd rfl rfl rfl (run_load_int (r := ((bs.getD y default).l).getD j 0) rfl ag3 (z := (j : Int)) rfl hr124 (Pins.of_le hX130.pins (Pin.le_trans hlek33 hlek127)) (by omega) (by omega)) (qd rfl rfl rfl (r_assign (v := (.int .i64 (((bs.getD y default).l).getD j 0))) rfl) (qe (s_then (s_seq (c_reg ?_))))))
 refine qd rfl rfl rfl (r_move (v := (.map (some m))) rfl) (qd rfl rfl rfl (r_move (v := u) rfl) (qd rfl rfl rfl (r_move (v := v) rfl) (qd rfl rfl rfl (r_move (v := (.int .i64 (x : Int))) rfl) (qd rfl rfl rfl (r_move (v := (.int .i64 (((bs.getD y default).l).getD j 0))) rfl) (q1 rfl rfl rfl (o_call (vs := [u, v, (.int .i64 (x : Int)), (.int .i64 (((bs.getD y default).l).getD j 0))]) Try.func48 nm48 rfl rfl rfl ?_))))))
 refine Calls.mono (leftsOf_spec (x := (x : Int)) (y := ((bs.getD y default).l).getD j 0) hX130.pins (hu.mono (Pin.le_trans hlek33 hlek127)) (hv.mono (Pin.le_trans hlek33 hlek127)) (by omega) (by omega) ⟨Nat.le_trans hl1 (by decide), Nat.le_trans hl2 (by decide)⟩) ?_
 rintro _ w142 ⟨u140, G141, rfl, ho143, hx144⟩
 refine ⟨_, rfl, ?_⟩
 have hX145 := hX130.tr hx144
 have ho146 := hw131.ext hx144
 have ho147 := hw132.ext hx144
 have hb148 := hw133.ext hx144
 have hb149 := hw134.ext hx144
 have hm150 := hm138.below hx144.below
 have ha151 : Apart u140.ownBlock lv.ownBlock := made_ne_own ho143.lt hw131.lt
 have ha152 : Apart u140.ownBlock rv.ownBlock := made_ne_own ho143.lt hw132.lt
 have ha153 : Apart u140.ownBlock (some b1) := made_ne_box ho143.lt hw133.lt
 have ha154 : Apart u140.ownBlock (some b10) := made_ne_box ho143.lt hw134.lt
 have ho155 : Own eP2 52 G141 w142 w.heap.size u140 (leftsP ns bs (x : Int) (((bs.getD y default).l).getD j 0)) := ho143.weaken hX130.size
 obtain ⟨G159, hle162, hX161, hr160, hf163⟩ := ho155.sealed hX145
 have ho164 := ho146.moreO hle162 hf163 ha151.symm
 have ho165 := ho147.moreO hle162 hf163 ha152.symm
 have hb166 := hb148.moreO hf163 ha153.symm
 have hb167 := hb149.moreO hf163 ha154.symm
 refine q1 rfl rfl rfl (o_call (vs := [(.map (some m)), u140]) Try.func46 nm46 rfl rfl rfl ?_)
 refine Calls.mono (lowest_spec hX161.pins hm150 hM hr160) ?_
 rintro _ w157 ⟨G156, rfl, hx158⟩
 refine ⟨_, rfl, ?_⟩
 have hX168 := hX161.tr hx158
 have ho169 := ho164.ext hx158
 have ho170 := ho165.ext hx158
 have hb171 := hb166.ext hx158
 have hb172 := hb167.ext hx158
 have hm173 := hm150.below hx158.below
 refine qd rfl rfl rfl (r_assign (v := (.int .i64 (lowL L (leftsP ns bs (x : Int) (((bs.getD y default).l).getD j 0))))) rfl) (qe (s_then (s_seq (s_seq (c_reg ?_)))))
 refine qd rfl rfl rfl (r_move (v := (.int .i64 (lowL L (leftsP ns bs (x : Int) (((bs.getD y default).l).getD j 0))))) rfl) (qd rfl rfl rfl (r_lss rfl rfl) (qe (s_then ?_)))
 refine c_ifd (p := (lowL L (leftsP ns bs (x : Int) (((bs.getD y default).l).getD j 0)) : Int) < 0) rfl rfl (fun h174 => ?_) (fun h174 => ?_)
 refine s_seq (c_reg ?_)
 refine qd rfl rfl rfl (r_build [(.int .i64 0), (.int .i64 0), (.slice none 0 0), (.slice none 0 0)] [(.int .i64 0), (.int .i64 0), (.slice none 0 0), (.slice none 0 0)] [] Try.underlying49 zr49 rfl pl49 rfl (fun _ h => by cases h) rfl) (q0 rfl rfl rfl (o_stp (cs' := [(.int .i64 0), (.int .i64 0), (.slice none 0 0), (.slice none 0 0)]) (us := [(.int .i64 0), (.int .i64 0), (.slice none 0 0), (.slice none 0 0)]) (v := (.agg [(.int .i64 0), (.int .i64 0), (.slice none 0 0), (.slice none 0 0)].toArray)) sz49 rfl rfl rfl (ones4 (by rfl) (by rfl) (by rfl) (by rfl)) hX168.pins hb171 (Nat.le_of_ble_eq_true rfl) rfl (fun w175 hb176 hp177 hg178 hz179 => ?_)))
 have hX180 := hX168.write hp177 hg178 ((lo_box hlo9))
 refine qd rfl rfl rfl (r_assign (v := (.bool false)) rfl) (qe (s_then ?_))
 refine wp_ret (s_ret (c_retct (cs := [(.int .i64 0), (.int .i64 0), (.slice none 0 0), (.slice none 0 0)]) (v := (.bool false)) rfl rfl rfl rfl rfl ag49 sz49 (fun j u hj => by rw [Nat.zero_add]; exact hb176.cell hj) ?_))
 obtain ⟨e1, e2⟩ := @jst_no ns bs L x y (fun g => absurd (g.l _ (getD_mem (d := (0 : Int)) (show j < (bs.getD y default).l.length by omega))) (by omega))
 rw [e1, e2]
 exact ⟨_, _, _, rfl, (nil_reads _ _), (nil_reads _ _), hX180⟩
 refine wp_skip (s_then (c_reg ?_))
 refine qd rfl rfl rfl (r_fldp (k := 3) rfl Try.underlying49 rfl nz47 rfl) (qd rfl rfl rfl (r_ldp1 (u := lv) ag47 rfl (hb172.cell (o := 3) rfl)) (qd rfl rfl rfl (r_move (v := (.int .i64 (lowL L (leftsP ns bs (x : Int) (((bs.getD y default).l).getD j 0))))) rfl) (q1 rfl rfl rfl (o_buildF (E := eInt) (e := 3) [(.int .i64 (lowL L (leftsP ns bs (x : Int) (((bs.getD y default).l).getD j 0))))] [lowL L (leftsP ns bs (x : Int) (((bs.getD y default).l).getD j 0))] Try.underlying47 sz3 zr3 (by exact reps1 (by rfl)) (ones1 (by rfl)) rfl rfl rfl rfl (by decide) hX168.pins (fun u185 w186 ho187 hp188 hl189 hk190 => ?_)))))
 have hX191 := hX168.step hp188 hl189
 have ho192 := ho169.below hl189
 have ho193 := ho170.below hl189
 have hb194 := hb171.below hl189
 have hb195 := hb172.below hl189
 have hm196 := hm173.below hl189
 have ho201 : Own eInt 3 G156 w186 w.heap.size u185 ([lowL L (leftsP ns bs (x : Int) (((bs.getD y default).l).getD j 0))]) := ho187.weaken hX168.size
 refine q1 rfl rfl rfl (o_append (E := eInt) (v := lv) (u := u185) 8 Try.underlying47 ap3 (by decide) rfl rfl hX191.pins ho192 ho201.src (by first | omega | (rw [List.nil_append]; omega) | (rw [List.length_nil]; omega) | (rw [List.length_append]; omega) | (simp; done) | (simp; omega) | (simp only [List.length_append, List.length_cons, List.length_nil]; omega)) (by first | omega | (rw [List.nil_append]; omega) | (rw [List.length_nil]; omega) | (rw [List.length_append]; omega) | (simp; done) | (simp; omega) | (simp only [List.length_append, List.length_cons, List.length_nil]; omega)) (hX191.size) (fun u202 w203 ho204 hp205 hg206 hw207 => ?_))
 have hX208 := hX191.write hp205 hg206 ((lo_own ho192))
 have ho209 := ho193.keptA hg206 ha135.symm
 have hb211 := hb194.keptA hg206 ha136.symm
 have hb212 := hb195.keptA hg206 ha137.symm
 have hm213 := hm196.kept hg206 (map_ne_own hm196 ho192)
 have ha214 : Apart rv.ownBlock u202.ownBlock := app_ne_own ha135.symm hw207 ho193.lt
 have ha216 : Apart (some b1) u202.ownBlock := app_ne_box ha136.symm hw207 hb194.lt
 have ha217 : Apart (some b10) u202.ownBlock := app_ne_box ha137.symm hw207 hb195.lt
 have hm218 : (ls ++ ([lowL L (leftsP ns bs (x : Int) (((bs.getD y default).l).getD j 0))])).length = ls.length + 1 := List.length_append
 refine qd rfl rfl rfl (r_fldp (k := 3) rfl Try.underlying49 rfl nz47 rfl) (q0 rfl rfl rfl (o_stp (cs' := [(.int .i64 (x : Int)), (.int .i64 (y : Int)), rv, u202]) (us := [u202]) (v := u202) sz47 rfl rfl (cells1 ho204.one) (ones1 ho204.one) hX208.pins hb212 (Nat.le_of_ble_eq_true rfl) rfl (fun w219 hb220 hp221 hg222 hz223 => ?_)))
 have hX224 := hX208.write hp221 hg222 ((lo_box hlo20))
 have ho225 := ho209.keptA hg222 ha41
 have ho226 := ho204.keptA hg222 ha217.symm
 have hb227 := hb211.keptA hg222 ha19.symm
 have hm228 := hm213.kept hg222 (map_ne_box hm213 hb212)
 refine qe (s_blkN (s_then (c_reg ?_)))
 refine qd rfl rfl rfl (r_add rfl rfl (by omega)) (qd rfl rfl rfl (r_move (v := (.int .i64 ((j : Int) + 1))) rfl) (qe (s_lopN (⟨_, ?_, _, rfl, _, j + 1, u202, ls ++ ([lowL L (leftsP ns bs (x : Int) (((bs.getD y default).l).getD j 0))]), G156, (packS (x := 55) (packS (x := 54) (packS (x := 53) (packS (x := 12) (packS (x := 10) (packS (x := 3) (packS (x := 2) (packS (x := 1) (pack1 (x := 0) rfl) rfl) rfl) rfl) rfl) rfl) rfl) rfl) rfl), rfl, hX224, (Pin.le_trans (Pin.le_trans (Pin.le_trans hlek127 hx144.le) hle162) hx158.le), (by omega), (by rw [hls]; exact map_next (f := (fun r => lowL L (leftsP ns bs x r))) 0 (by omega)), (fun q hq => if h3 : q = j then h3 ▸ (by omega) else hpj q (by omega)), ho226, ho225, hb227, hb220, ha214.symm, ha216.symm, ha217.symm, hm228⟩))))
 omega
 refine wp_exit (s_thenE (s_lopE (s_blkE (s_then (s_seq (c_reg ?_))))))
 refine qd rfl rfl rfl (r_ldpA (cs := [(.int .i64 (x : Int)), (.int .i64 (y : Int)), rv, lv]) ag49 sz49 rfl (fun j u hj => hw134.cell (by simpa using hj))) (q0 rfl rfl rfl (o_stp (cs' := [(.int .i64 (x : Int)), (.int .i64 (y : Int)), rv, lv]) (us := [(.int .i64 (x : Int)), (.int .i64 (y : Int)), rv, lv]) (v := (.agg [(.int .i64 (x : Int)), (.int .i64 (y : Int)), rv, lv].toArray)) sz49 rfl rfl rfl (ones4 (by rfl) (by rfl) hw132.one hw131.one) hX130.pins hw133 (Nat.le_of_ble_eq_true rfl) rfl (fun w229 hb230 hp231 hg232 hz233 => ?_)))
 have hX234 := hX130.write hp231 hg232 ((lo_box hlo9))
 have ho235 := hw131.keptA hg232 ha136
 have ho236 := hw132.keptA hg232 ha40
 refine qd rfl rfl rfl (r_assign (v := (.bool true)) rfl) (qe (s_then ?_))
 refine wp_ret (s_ret (c_retct (cs := [(.int .i64 (x : Int)), (.int .i64 (y : Int)), rv, lv]) (v := (.bool true)) rfl rfl rfl rfl rfl ag49 sz49 (fun j u hj => by rw [Nat.zero_add]; exact hb230.cell hj) ?_))
 obtain ⟨G239, hle242, hX241, hr240, hf243⟩ := ho236.sealed hX234
 have ho244 := ho235.moreO hle242 hf243 ha135
 obtain ⟨G247, hle250, hX249, hr248, hf251⟩ := ho244.sealed hX241
 rw [take_all (by omega)] at hrs hls
 obtain ⟨e1, e2⟩ := @jst_yes ns bs L x y ⟨fun r hr => by obtain ⟨q, hq, rfl⟩ := at_mem (0 : Int) hr; exact hpi q (by omega), fun r hr => by obtain ⟨q, hq, rfl⟩ := at_mem (0 : Int) hr; exact hpj q (by omega)⟩
 rw [e1, e2]
 exact ⟨_, _, _, rfl, (by rw [show (claimOf ns bs L x y).r = rs from hrs.symm]; exact (hr240.mono hle250)), (by rw [show (claimOf ns bs L x y).l = ls from hls.symm]; exact hr248), hX249⟩

end PF1
end Go.Proofs.Ytdleojbknkbpiaa

set_option maxRecDepth 20000
set_option maxHeartbeats 2000000
namespace Go.Proofs.Ytdleojbknkbpiaa
namespace PF2
open Go.RowKit Go.GL Go.Proofs
open B1 P1










theorem pl49 : (Try.prog.underlying 49).bind (placesD Try.prog) = some [(0, 1), (1, 1), (2, 1), (3, 1)] := by kernel_rfl







theorem l15Claim_spec {w : World} {G : Pin} {u v p : Value} {L : List Cl} {ns bs : List Nd} {x y : Nat} (hP : Pins G w) (hu : RSl eNode G u ns) (hv : RSl eNode G v bs) (hp : RSl eClaim G p L) (hga : GoodP ns) (hgb : GoodP bs) (hx : x < ns.length) (hy : y < bs.length) (hj : JustP ns bs L x y) :
  Calls Try.prog 37 [(.agg [u].toArray), (.agg [v].toArray), p, (.int .i64 (x : Int)), (.int .i64 (y : Int))].toArray w fun e w' => ∃ (r l : Value) (G' : Pin), e = .returned (.agg [.int .i64 (claimOf ns bs L x y).a, .int .i64 (claimOf ns bs L x y).b, r, l].toArray) ∧ Own eInt 3 G' w' w.heap.size r (claimOf ns bs L x y).r ∧ Own eInt 3 G' w' w.heap.size l (claimOf ns bs L x y).l ∧ Apart r.ownBlock l.ownBlock ∧ Ext noS G w G' w' := by
 refine s_enter (n := 96) Try.func37 Try.ntmps37 rfl rfl ?_
 have hX0 : Ext noS G w G w := Ext.refl hP
 have hmu := hu.max
 have hmv := hv.max
 have hmp := hp.max
 have hlx := hga.lenr (i := x) (by omega)
 have hly := hgb.lenl (i := y) (by omega)
 refine s_seq (c_reg ?_)
 refine q1 rfl rfl rfl (o_box [u] (v := (.agg [u].toArray)) rfl rfl hX0.pins (fun b1 w2 hk3 hb4 hp5 hl6 => ?_))
 have hX7 := hX0.step hp5 hl6
 have hlo8 : w.heap.size ≤ b1 := by have := hX0.size; omega
 obtain ⟨G9, hle10, hX11, hbp12, hf13⟩ := hb4.shut hX7 hlo8
 refine q1 rfl rfl rfl (o_box [v] (v := (.agg [v].toArray)) rfl rfl hX11.pins (fun b14 w15 hk16 hb17 hp18 hl19 => ?_))
 have hX20 := hX11.step hp18 hl19
 have hlo21 : w.heap.size ≤ b14 := by have := hX11.size; omega
 obtain ⟨G22, hle23, hX24, hbp25, hf26⟩ := hb17.shut hX20 hlo21
 refine q1 rfl rfl rfl (o_alloc [(.int .i64 0), (.int .i64 0), (.slice none 0 0), (.slice none 0 0)] zr49 rfl hX24.pins (fun b27 w28 hk29 hb30 hp31 hl32 => ?_))
 have hX33 := hX24.step hp31 hl32
 have hlo34 : w.heap.size ≤ b27 := by have := hX24.size; omega
 refine qe (s_then (s_seq (c_reg ?_)))
 refine qd rfl rfl rfl (r_move (v := (.int .i64 (x : Int))) rfl) (qd rfl rfl rfl (r_move (v := (.int .i64 (y : Int))) rfl) (q1 rfl rfl rfl (o_build0 (E := eInt) (e := 3) Try.underlying47 sz3 hX33.pins (fun u35 w36 ho37 hp38 hl39 hk40 => ?_))))
 have hX41 := hX33.step hp38 hl39
 have hb42 := hb30.below hl39
 have ha43 : Apart u35.ownBlock (some b27) := new_ne_box hk40 hb30.lt
 have ho44 : Own eInt 3 G22 w36 w.heap.size u35 ([]) := ho37.weaken hX33.size
 refine q1 rfl rfl rfl (o_build0 (E := eInt) (e := 3) Try.underlying47 sz3 hX41.pins (fun u45 w46 ho47 hp48 hl49 hk50 => ?_))
 have hX51 := hX41.step hp48 hl49
 have ho52 := ho44.below hl49
 have hb53 := hb42.below hl49
 have ha54 : Apart u45.ownBlock u35.ownBlock := new_ne_own hk50 ho44.lt
 have ha55 : Apart u45.ownBlock (some b27) := new_ne_box hk50 hb42.lt
 have ho56 : Own eInt 3 G22 w46 w.heap.size u45 ([]) := ho47.weaken hX41.size
 refine qd rfl rfl rfl (r_build [(.int .i64 0), (.int .i64 0), (.slice none 0 0), (.slice none 0 0)] [(.int .i64 (x : Int)), (.int .i64 (y : Int)), u35, u45] [(0, (.int .i64 (x : Int)), [(.int .i64 (x : Int))]), (1, (.int .i64 (y : Int)), [(.int .i64 (y : Int))]), (2, u35, [u35]), (3, u45, [u45])] Try.underlying49 zr49 rfl pl49 rfl (List.forall_mem_cons.2 ⟨rfl, (List.forall_mem_cons.2 ⟨rfl, (List.forall_mem_cons.2 ⟨(cells_one ho52.one), (List.forall_mem_cons.2 ⟨(cells_one ho56.one), (fun _ h => by cases h)⟩)⟩)⟩)⟩) rfl) (q1 rfl rfl rfl (o_alloc [(.int .i64 0), (.int .i64 0), (.slice none 0 0), (.slice none 0 0)] zr49 rfl hX51.pins (fun b57 w58 hk59 hb60 hp61 hl62 => ?_)))
 have hX63 := hX51.step hp61 hl62
 have ho64 := ho52.below hl62
 have ho65 := ho56.below hl62
 have hb66 := hb53.below hl62
 have ha67 : Apart (some b57) u35.ownBlock := new_ne_own (congrArg some hk59) ho52.lt
 have ha68 : Apart (some b57) u45.ownBlock := new_ne_own (congrArg some hk59) ho56.lt
 have ha69 : Apart (some b57) (some b27) := new_ne_box (congrArg some hk59) hb53.lt
 have hlo70 : w.heap.size ≤ b57 := by have := hX51.size; omega
 refine q0 rfl rfl rfl (o_stp (cs' := [(.int .i64 (x : Int)), (.int .i64 (y : Int)), u35, u45]) (us := [(.int .i64 (x : Int)), (.int .i64 (y : Int)), u35, u45]) (v := (.agg [(.int .i64 (x : Int)), (.int .i64 (y : Int)), u35, u45].toArray)) sz49 rfl rfl rfl (ones4 (by rfl) (by rfl) ho64.one ho65.one) hX63.pins hb60 (Nat.le_of_ble_eq_true rfl) rfl (fun w71 hb72 hp73 hg74 hz75 => ?_))
 have hX76 := hX63.write hp73 hg74 ((lo_box hlo70))
 have ho77 := ho64.keptA hg74 ha67.symm
 have ho78 := ho65.keptA hg74 ha68.symm
 have hb79 := hb66.keptA hg74 ha69.symm
 refine qe (s_then (s_seq (s_seq (c_reg ?_))))
 refine qd rfl rfl rfl (r_assign (v := (.int .i64 0)) rfl) (qe (s_then ?_))
 refine s_blk (s_loop (fun (k : Nat) (en : Nat → Value) (W : World) => ∃ (env1 : Nat → Value) (i : Nat) (rv : Value) (rs : List Int) (GLi : Pin), en = (upd (upd (upd (upd (upd (upd (upd (upd env1 2 p) 3 (.int .i64 (x : Int))) 4 (.int .i64 (y : Int))) 5 (.pointer (some ⟨b1, 0, none⟩))) 6 (.pointer (some ⟨b14, 0, none⟩))) 10 (.pointer (some ⟨b27, 0, none⟩))) 11 (.pointer (some ⟨b57, 0, none⟩))) 12 (.int .i64 (i : Int))) ∧ k = (ns.getD x default).r.length - i ∧ Ext noS G w GLi W ∧ Pin.le G22 GLi ∧ (i ≤ (ns.getD x default).r.length) ∧ (rs = ((ns.getD x default).r.take i).map (fun r => lowL L (rightsP ns bs r y))) ∧ (Own eInt 3 GLi W w.heap.size rv (rs)) ∧ (Own eInt 3 GLi W w.heap.size u45 ([])) ∧ (Bx GLi W b27 [(.int .i64 0), (.int .i64 0), (.slice none 0 0), (.slice none 0 0)]) ∧ (Bx GLi W b57 [(.int .i64 (x : Int)), (.int .i64 (y : Int)), rv, u45]) ∧ (Apart rv.ownBlock u45.ownBlock) ∧ (Apart rv.ownBlock (some b27)) ∧ (Apart rv.ownBlock (some b57))) _ ⟨_, 0, u35, [], G22, (packS (x := 12) (packS (x := 11) (packS (x := 10) (packS (x := 6) (packS (x := 5) (packS (x := 4) (packS (x := 3) (pack1 (x := 2) rfl) rfl) rfl) rfl) rfl) rfl) rfl) rfl), rfl, hX76, Pin.le_refl _, Nat.zero_le _, rfl, ho77, ho78, hb79, hb72, ha54.symm, ha43, ha67.symm⟩ ?_)
 rintro k80 _ w81 ⟨env1, i, rv, rs, GLi, rfl, hk82, hX83, hlek80, hji, hrs, hw84, hw85, hw86, hw87, ha88, ha89, ha90⟩
 have hrsl : rs.length ≤ (ns.getD x default).r.length := by rw [hrs, List.length_map, List.length_take]; omega
 refine s_seq (s_seq (c_reg ?_))
 refine qd rfl rfl rfl (r_move (v := (.int .i64 (i : Int))) rfl) (qd rfl rfl rfl (r_fldp (k := 0) rfl Try.underlying33 rfl nz31 rfl) (qd rfl rfl rfl (r_ldp1 (u := u) ag31 rfl ((Pins.of_le hX83.pins (Pin.le_trans hle23 hlek80)) _ _ _ (hbp12 0 _ rfl))) (qd rfl rfl rfl (r_move (v := (.int .i64 (x : Int))) rfl) (qd rfl rfl rfl (run_idx Try.underlying31 sz62 (v := u) rfl rfl hu (by omega) (by omega)) (qd rfl rfl rfl (run_fld (off := 1) Try.underlying62 rfl rfl nz47 (z := (x : Int)) (k := 0) rfl hu (by omega) (by omega)) ?_)))))
 obtain ⟨u91, hr92, hl93⟩ := nm_nr (hu.at (z := (x : Int)) (by omega) (by omega)) (j := x) rfl
 have hm94 := hr92.max
 refine qd rfl rfl rfl (hl93 ag47 rfl (Pins.of_le hX83.pins (Pin.le_trans (Pin.le_trans hle10 hle23) hlek80))) (qd rfl rfl rfl (run_len Try.underlying47 (v := u91) rfl hr92) (qd rfl rfl rfl (r_lss rfl rfl) (qe (s_then ?_))))
 refine c_ifd (p := ((i : Int) : Int) < (((ns.getD x default).r).length : Int)) rfl rfl (fun h95 => ?_) (fun h95 => ?_)
 have hki := hga.optsOk.right (j := x) (i := i) (by omega) (by omega)
 have hloi := hj.r _ (getD_mem (d := (0 : Int)) (show i < (ns.getD x default).r.length by omega))
 refine wp_skip (s_then (s_seq ?_))
 refine s_blk (s_seq (c_reg ?_))
 refine qd rfl rfl rfl (r_assign (v := (.int .i64 0)) rfl) (qe (s_then (s_seq ?_)))
 refine s_blk (s_loop (fun (k : Nat) (en : Nat → Value) (W : World) => ∃ (env1 : Nat → Value) (ni : Nat) (GNi : Pin), en = (upd (upd (upd (upd (upd (upd (upd (upd (upd env1 2 p) 3 (.int .i64 (x : Int))) 4 (.int .i64 (y : Int))) 5 (.pointer (some ⟨b1, 0, none⟩))) 6 (.pointer (some ⟨b14, 0, none⟩))) 10 (.pointer (some ⟨b27, 0, none⟩))) 11 (.pointer (some ⟨b57, 0, none⟩))) 12 (.int .i64 (i : Int))) 13 (.int .i64 (ni : Int))) ∧ k = L.length - ni ∧ Ext noS G w GNi W ∧ Pin.le GLi GNi ∧ (∀ q, q < ni → prC (L.getD q default) ∉ rightsP ns bs ((ns.getD x default).r.getD i 0) y) ∧ (Own eInt 3 GNi W w.heap.size rv (rs)) ∧ (Own eInt 3 GNi W w.heap.size u45 ([])) ∧ (Bx GNi W b27 [(.int .i64 0), (.int .i64 0), (.slice none 0 0), (.slice none 0 0)]) ∧ (Bx GNi W b57 [(.int .i64 (x : Int)), (.int .i64 (y : Int)), rv, u45])) _ ⟨_, 0, GLi, (packS (x := 13) (packS (x := 12) (packS (x := 11) (packS (x := 10) (packS (x := 6) (packS (x := 5) (packS (x := 4) (packS (x := 3) (pack1 (x := 2) rfl) rfl) rfl) rfl) rfl) rfl) rfl) rfl) rfl), rfl, hX83, Pin.le_refl _, (fun i hi => absurd hi (Nat.not_lt_zero i)), hw84, hw85, hw86, hw87⟩ ?_)
 rintro k96 _ w97 ⟨env1, ni, GNi, rfl, hk98, hX99, hlek96, hmi, hw100, hw101, hw102, hw103⟩
 have hnli := low_len hloi hmi
 refine s_seq (s_seq ?_)
 refine c_draw (S := fun wz => Pins GNi wz) (last := 18) (by kernel_rfl) rfl ?_
 have hl104 : Below w97.heap.size w97 w97.drew := (Below.refl _ _).drew
 have hp105 := hX99.pins.below hl104
 have hX106 := hX99.step hp105 hl104
 have ho107 := hw100.below hl104
 have ho108 := hw101.below hl104
 have hb109 := hw102.below hl104
 have hb110 := hw103.below hl104
 refine dr_take (i := 0) rfl rfl rfl (want_none rfl _) (by kernel_rfl) (fun _ hS => r_ldpA (cs := [u]) ag33 sz33 rfl (fun j u hj => (Pins.of_le hS (Pin.le_trans (Pin.le_trans hle23 hlek80) hlek96)) _ _ _ (hbp12 _ _ (by simpa using hj)))) hX106.pins (dr_take (i := 1) rfl rfl rfl (want_none rfl _) (by kernel_rfl) (fun _ hS => r_ldpA (cs := [v]) ag33 sz33 rfl (fun j u hj => (Pins.of_le hS (Pin.le_trans hlek80 hlek96)) _ _ _ (hbp25 _ _ (by simpa using hj)))) hX106.pins (dr_take (i := 2) rfl rfl rfl (want_none rfl _) (by kernel_rfl) (fun _ _ => r_fldp (k := 0) rfl Try.underlying33 rfl nz31 rfl) hX106.pins (dr_take (i := 3) rfl rfl rfl (want_none rfl _) (by kernel_rfl) (fun _ hS => r_ldp1 (u := u) ag31 rfl ((Pins.of_le hS (Pin.le_trans (Pin.le_trans hle23 hlek80) hlek96)) _ _ _ (hbp12 0 _ rfl))) hX106.pins (dr_take (i := 4) rfl rfl rfl (want_none rfl _) (by kernel_rfl) (fun _ _ => r_move (v := (.int .i64 (x : Int))) rfl) hX106.pins (dr_take (i := 5) rfl rfl rfl (want_none rfl _) (by kernel_rfl) (fun _ _ => run_idx Try.underlying31 sz62 (v := u) rfl rfl hu (by omega) (by omega)) hX106.pins (dr_take (i := 6) rfl rfl rfl (want_none rfl _) (by kernel_rfl) (fun _ _ => run_fld (off := 1) Try.underlying62 rfl rfl nz47 (z := (x : Int)) (k := 0) rfl hu (by omega) (by omega)) hX106.pins ?_))))))
 obtain ⟨u111, hr112, hl113⟩ := nm_nr (hu.at (z := (x : Int)) (by omega) (by omega)) (j := x) rfl
 have hm114 := hr112.max
 refine dr_take (i := 7) rfl rfl rfl (want_none rfl _) (by kernel_rfl) (fun _ hS => hl113 ag47 rfl (Pins.of_le hS (Pin.le_trans (Pin.le_trans (Pin.le_trans hle10 hle23) hlek80) hlek96))) hX106.pins (dr_take (i := 8) rfl rfl rfl (want_none rfl _) (by kernel_rfl) (fun _ _ => r_move (v := (.int .i64 (i : Int))) rfl) hX106.pins (dr_take (i := 9) rfl rfl rfl (want_none rfl _) (by kernel_rfl) (fun _ _ => run_idx Try.underlying47 sz3 (v := u111) rfl rfl hr112 (by omega) (by omega)) hX106.pins (dr_take (i := 10) rfl rfl rfl (want_none rfl _) (by kernel_rfl) (fun _ hS => run_load_int (r := ((ns.getD x default).r).getD i 0) rfl ag3 (z := (i : Int)) rfl hr112 (Pins.of_le hS (Pin.le_trans (Pin.le_trans (Pin.le_trans hle10 hle23) hlek80) hlek96)) (by omega) (by omega)) hX106.pins (dr_take (i := 11) rfl rfl rfl (want_none rfl _) (by kernel_rfl) (fun _ _ => r_move (v := p) rfl) hX106.pins (dr_take (i := 12) rfl rfl rfl (want_none rfl _) (by kernel_rfl) (fun _ _ => r_move (v := (.int .i64 (ni : Int))) rfl) hX106.pins (dr_take (i := 13) rfl rfl rfl (want_none rfl _) (by kernel_rfl) (fun _ _ => run_idx Try.underlying26 sz49 (v := p) rfl rfl hp (by omega) (by omega)) hX106.pins ?_))))))
 obtain ⟨cs115, hrep116, hagg117, hcell118⟩ := nm_el (j := ni) default (hp.at (z := (ni : Int)) (by omega) (by omega)) rfl
 obtain ⟨u119, u121, rfl, hr120, hr122⟩ := hrep116
 have hm123 := hr120.max
 have hm124 := hr122.max
 refine dr_take (i := 14) rfl rfl rfl (want_none rfl _) (by kernel_rfl) (fun _ hS => hagg117 ag49 sz49 rfl (Pins.of_le hS (Pin.le_trans (Pin.le_trans (Pin.le_trans hle10 hle23) hlek80) hlek96))) hX106.pins (dr_take (i := 15) rfl rfl rfl (want_none rfl _) (by kernel_rfl) (fun _ _ => r_move (v := (.int .i64 (y : Int))) rfl) hX106.pins (dr_one (i := 16) (by kernel_rfl) (drOp1 (i := 16) rfl rfl rfl (want_none rfl _) (o_call (vs := [(.agg [u].toArray), (.agg [v].toArray), (.int .i64 (((ns.getD x default).r).getD i 0)), (.agg [(.int .i64 ((L.getD ni default).a)), (.int .i64 ((L.getD ni default).b)), u119, u121].toArray), (.int .i64 (y : Int))]) Try.func62 nm62 rfl rfl rfl ?_))))
 refine Calls.mono (l15Right_spec (c := (L.getD ni default)) hX106.pins (hu.mono (Pin.le_trans (Pin.le_trans (Pin.le_trans hle10 hle23) hlek80) hlek96)) (hv.mono (Pin.le_trans (Pin.le_trans (Pin.le_trans hle10 hle23) hlek80) hlek96)) (by omega) (by omega)) ?_
 rintro _ w126 ⟨G125, rfl, hx127⟩
 refine ⟨_, rfl, ?_⟩
 have hX128 := hX106.tr hx127
 have ho129 := ho107.ext hx127
 have ho130 := ho108.ext hx127
 have hb131 := hb109.ext hx127
 have hb132 := hb110.ext hx127
 refine ⟨fun _ => (Pins.of_le hX128.pins hx127.le), ?_⟩
 refine dr_take (i := 17) rfl rfl rfl (want_none rfl _) (by kernel_rfl) (fun _ _ => r_not rfl) (Pins.of_le hX128.pins hx127.le) (dr_end (by kernel_rfl) (s_then (c_ifn rfl rfl (fun h133 => ?_) (fun h133 => ?_))))
 replace h133 := of_decide_eq_true h133
 refine wp_exit (s_thenE (s_lopE (s_blkE (s_then (c_reg ?_)))))
 refine qd rfl rfl rfl (r_fldp (k := 2) rfl Try.underlying49 rfl nz47 rfl) (qd rfl rfl rfl (r_ldp1 (u := rv) ag47 rfl (hb132.cell (o := 2) rfl)) (qd rfl rfl rfl (r_move (v := (.int .i64 (ni : Int))) rfl) (q1 rfl rfl rfl (o_buildF (E := eInt) (e := 3) [(.int .i64 (ni : Int))] [(ni : Int)] Try.underlying47 sz3 zr3 (by exact reps1 (by rfl)) (ones1 (by rfl)) rfl rfl rfl rfl (by decide) hX128.pins (fun u134 w135 ho136 hp137 hl138 hk139 => ?_)))))
 have hX140 := hX128.step hp137 hl138
 have ho141 := ho129.below hl138
 have ho142 := ho130.below hl138
 have hb143 := hb131.below hl138
 have hb144 := hb132.below hl138
 have ho149 : Own eInt 3 G125 w135 w.heap.size u134 ([(ni : Int)]) := ho136.weaken hX128.size
 refine q1 rfl rfl rfl (o_append (E := eInt) (v := rv) (u := u134) 8 Try.underlying47 ap3 (by decide) rfl rfl hX140.pins ho141 ho149.src (by first | omega | (rw [List.nil_append]; omega) | (rw [List.length_nil]; omega) | (rw [List.length_append]; omega) | (simp; done) | (simp; omega) | (simp only [List.length_append, List.length_cons, List.length_nil]; omega)) (by first | omega | (rw [List.nil_append]; omega) | (rw [List.length_nil]; omega) | (rw [List.length_append]; omega) | (simp; done) | (simp; omega) | (simp only [List.length_append, List.length_cons, List.length_nil]; omega)) (hX140.size) (fun u150 w151 ho152 hp153 hg154 hw155 => ?_))
 have hX156 := hX140.write hp153 hg154 ((lo_own ho141))
 have ho157 := ho142.keptA hg154 ha88.symm
 have hb159 := hb143.keptA hg154 ha89.symm
 have hb160 := hb144.keptA hg154 ha90.symm
 have ha161 : Apart u45.ownBlock u150.ownBlock := app_ne_own ha88.symm hw155 ho142.lt
 have ha163 : Apart (some b27) u150.ownBlock := app_ne_box ha89.symm hw155 hb143.lt
 have ha164 : Apart (some b57) u150.ownBlock := app_ne_box ha90.symm hw155 hb144.lt
 have hm165 : (rs ++ ([(ni : Int)])).length = rs.length + 1 := List.length_append
 refine qd rfl rfl rfl (r_fldp (k := 2) rfl Try.underlying49 rfl nz47 rfl) (q0 rfl rfl rfl (o_stp (cs' := [(.int .i64 (x : Int)), (.int .i64 (y : Int)), u150, u45]) (us := [u150]) (v := u150) sz47 rfl rfl (cells1 ho152.one) (ones1 ho152.one) hX156.pins hb160 (Nat.le_of_ble_eq_true rfl) rfl (fun w166 hb167 hp168 hg169 hz170 => ?_)))
 have hX171 := hX156.write hp168 hg169 ((lo_box hlo70))
 have ho172 := ho157.keptA hg169 ha68.symm
 have ho173 := ho152.keptA hg169 ha164.symm
 have hb174 := hb159.keptA hg169 ha69.symm
 refine qe (s_blkN (s_then (c_reg ?_)))
 refine qd rfl rfl rfl (r_move (v := (.int .i64 (i : Int))) rfl) (qd rfl rfl rfl (r_add rfl rfl (by omega)) (qd rfl rfl rfl (r_assign (v := (.int .i64 ((i : Int) + 1))) rfl) (qe (s_lopN (⟨_, ?_, _, rfl, _, i + 1, u150, rs ++ ([(ni : Int)]), G125, (packS (x := 12) (packS (x := 11) (packS (x := 10) (packS (x := 6) (packS (x := 5) (packS (x := 4) (packS (x := 3) (pack1 (x := 2) rfl) rfl) rfl) rfl) rfl) rfl) rfl) rfl), rfl, hX171, (Pin.le_trans (Pin.le_trans hlek80 hlek96) hx127.le), (by omega), (by rw [hrs, low_at hnli.1 h133 hmi]; exact map_next (f := (fun r => lowL L (rightsP ns bs r y))) 0 (by omega)), ho173, ho172, hb174, hb167, ha161.symm, ha163.symm, ha164.symm⟩)))))
 omega
 replace h133 := of_decide_eq_false h133
 refine wp_skip (s_then (s_blk (c_reg (qd rfl rfl rfl (r_move (v := (.int .i64 (ni : Int))) rfl) (qd rfl rfl rfl (r_add rfl rfl (by omega)) (qd rfl rfl rfl (r_assign (v := (.int .i64 ((ni : Int) + 1))) rfl) (qe (s_blkN (s_lopN (⟨_, ?_, _, rfl, _, ni + 1, G125, (packS (x := 13) (packS (x := 12) (packS (x := 11) (packS (x := 10) (packS (x := 6) (packS (x := 5) (packS (x := 4) (packS (x := 3) (pack1 (x := 2) rfl) rfl) rfl) rfl) rfl) rfl) rfl) rfl) rfl), rfl, hX128, (Pin.le_trans hlek96 hx127.le), (fun q hq => if h3 : q = ni then h3 ▸ h133 else hmi q (by omega)), ho129, ho130, hb131, hb132⟩))))))))))
 omega
 refine wp_exit (s_thenE (s_lopE (s_blkE (s_then (s_seq (s_seq (c_reg ?_)))))))
 refine qd rfl rfl rfl (r_assign (v := (.int .i64 0)) rfl) (qe (s_then ?_))
 refine s_blk (s_loop (fun (k : Nat) (en : Nat → Value) (W : World) => ∃ (env1 : Nat → Value) (j : Nat) (lv : Value) (ls : List Int) (GLj : Pin), en = (upd (upd (upd (upd (upd (upd (upd (upd env1 2 p) 3 (.int .i64 (x : Int))) 4 (.int .i64 (y : Int))) 5 (.pointer (some ⟨b1, 0, none⟩))) 6 (.pointer (some ⟨b14, 0, none⟩))) 10 (.pointer (some ⟨b27, 0, none⟩))) 11 (.pointer (some ⟨b57, 0, none⟩))) 14 (.int .i64 (j : Int))) ∧ k = (bs.getD y default).l.length - j ∧ Ext noS G w GLj W ∧ Pin.le GLi GLj ∧ (j ≤ (bs.getD y default).l.length) ∧ (ls = ((bs.getD y default).l.take j).map (fun r => lowL L (leftsP ns bs x r))) ∧ (Own eInt 3 GLj W w.heap.size lv (ls)) ∧ (Own eInt 3 GLj W w.heap.size rv (rs)) ∧ (Bx GLj W b27 [(.int .i64 0), (.int .i64 0), (.slice none 0 0), (.slice none 0 0)]) ∧ (Bx GLj W b57 [(.int .i64 (x : Int)), (.int .i64 (y : Int)), rv, lv]) ∧ (Apart lv.ownBlock rv.ownBlock) ∧ (Apart lv.ownBlock (some b27)) ∧ (Apart lv.ownBlock (some b57))) _ ⟨_, 0, u45, [], GLi, (packS (x := 14) (packS (x := 11) (packS (x := 10) (packS (x := 6) (packS (x := 5) (packS (x := 4) (packS (x := 3) (pack1 (x := 2) rfl) rfl) rfl) rfl) rfl) rfl) rfl) rfl), rfl, hX83, Pin.le_refl _, Nat.zero_le _, rfl, hw85, hw84, hw86, hw87, ha88.symm, ha55, ha68.symm⟩ ?_)
 rintro k175 _ w176 ⟨env1, j, lv, ls, GLj, rfl, hk177, hX178, hlek175, hjj, hls, hw179, hw180, hw181, hw182, ha183, ha184, ha185⟩
 have hlsl : ls.length ≤ (bs.getD y default).l.length := by rw [hls, List.length_map, List.length_take]; omega
 refine s_seq (s_seq (c_reg ?_))
 refine qd rfl rfl rfl (r_move (v := (.int .i64 (j : Int))) rfl) (qd rfl rfl rfl (r_fldp (k := 0) rfl Try.underlying33 rfl nz31 rfl) (qd rfl rfl rfl (r_ldp1 (u := v) ag31 rfl ((Pins.of_le hX178.pins (Pin.le_trans hlek80 hlek175)) _ _ _ (hbp25 0 _ rfl))) (qd rfl rfl rfl (r_move (v := (.int .i64 (y : Int))) rfl) (qd rfl rfl rfl (run_idx Try.underlying31 sz62 (v := v) rfl rfl hv (by omega) (by omega)) (qd rfl rfl rfl (run_fld (off := 0) Try.underlying62 rfl rfl nz47 (z := (y : Int)) (k := 0) rfl hv (by omega) (by omega)) ?_)))))
 obtain ⟨u186, hr187, hl188⟩ := nm_nl (hv.at (z := (y : Int)) (by omega) (by omega)) (j := y) rfl
 have hm189 := hr187.max
 refine qd rfl rfl rfl (hl188 ag47 rfl (Pins.of_le hX178.pins (Pin.le_trans (Pin.le_trans (Pin.le_trans hle10 hle23) hlek80) hlek175))) (qd rfl rfl rfl (run_len Try.underlying47 (v := u186) rfl hr187) (qd rfl rfl rfl (r_lss rfl rfl) (qe (s_then ?_))))
 refine c_ifd (p := ((j : Int) : Int) < (((bs.getD y default).l).length : Int)) rfl rfl (fun h190 => ?_) (fun h190 => ?_)
 have hki := hgb.optsOk.left (j := y) (i := j) (by omega) (by omega)
 have hloj := hj.l _ (getD_mem (d := (0 : Int)) (show j < (bs.getD y default).l.length by omega))
 refine wp_skip (s_then (s_seq ?_))
 refine s_blk (s_seq (c_reg ?_))
 refine qd rfl rfl rfl (r_assign (v := (.int .i64 0)) rfl) (qe (s_then (s_seq ?_)))
 refine s_blk (s_loop (fun (k : Nat) (en : Nat → Value) (W : World) => ∃ (env1 : Nat → Value) (nj : Nat) (GNj : Pin), en = (upd (upd (upd (upd (upd (upd (upd (upd (upd env1 2 p) 3 (.int .i64 (x : Int))) 4 (.int .i64 (y : Int))) 5 (.pointer (some ⟨b1, 0, none⟩))) 6 (.pointer (some ⟨b14, 0, none⟩))) 10 (.pointer (some ⟨b27, 0, none⟩))) 11 (.pointer (some ⟨b57, 0, none⟩))) 14 (.int .i64 (j : Int))) 15 (.int .i64 (nj : Int))) ∧ k = L.length - nj ∧ Ext noS G w GNj W ∧ Pin.le GLj GNj ∧ (∀ q, q < nj → prC (L.getD q default) ∉ leftsP ns bs x ((bs.getD y default).l.getD j 0)) ∧ (Own eInt 3 GNj W w.heap.size lv (ls)) ∧ (Own eInt 3 GNj W w.heap.size rv (rs)) ∧ (Bx GNj W b27 [(.int .i64 0), (.int .i64 0), (.slice none 0 0), (.slice none 0 0)]) ∧ (Bx GNj W b57 [(.int .i64 (x : Int)), (.int .i64 (y : Int)), rv, lv])) _ ⟨_, 0, GLj, (packS (x := 15) (packS (x := 14) (packS (x := 11) (packS (x := 10) (packS (x := 6) (packS (x := 5) (packS (x := 4) (packS (x := 3) (pack1 (x := 2) rfl) rfl) rfl) rfl) rfl) rfl) rfl) rfl) rfl), rfl, hX178, Pin.le_refl _, (fun i hi => absurd hi (Nat.not_lt_zero i)), hw179, hw180, hw181, hw182⟩ ?_)
 rintro k191 _ w192 ⟨env1, nj, GNj, rfl, hk193, hX194, hlek191, hmj, hw195, hw196, hw197, hw198⟩
 have hnlj := low_len hloj hmj
 refine s_seq (s_seq ?_)
 refine c_draw (S := fun wz => Pins GNj wz) (last := 18) (by kernel_rfl) rfl ?_
 have hl199 : Below w192.heap.size w192 w192.drew := (Below.refl _ _).drew
 have hp200 := hX194.pins.below hl199
 have hX201 := hX194.step hp200 hl199
 have ho202 := hw195.below hl199
 have ho203 := hw196.below hl199
 have hb204 := hw197.below hl199
 have hb205 := hw198.below hl199
 refine dr_take (i := 0) rfl rfl rfl (want_none rfl _) (by kernel_rfl) (fun _ hS => r_ldpA (cs := [u]) ag33 sz33 rfl (fun j u hj => (Pins.of_le hS (Pin.le_trans (Pin.le_trans (Pin.le_trans hle23 hlek80) hlek175) hlek191)) _ _ _ (hbp12 _ _ (by simpa using hj)))) hX201.pins (dr_take (i := 1) rfl rfl rfl (want_none rfl _) (by kernel_rfl) (fun _ hS => r_ldpA (cs := [v]) ag33 sz33 rfl (fun j u hj => (Pins.of_le hS (Pin.le_trans (Pin.le_trans hlek80 hlek175) hlek191)) _ _ _ (hbp25 _ _ (by simpa using hj)))) hX201.pins (dr_take (i := 2) rfl rfl rfl (want_none rfl _) (by kernel_rfl) (fun _ _ => r_fldp (k := 0) rfl Try.underlying33 rfl nz31 rfl) hX201.pins (dr_take (i := 3) rfl rfl rfl (want_none rfl _) (by kernel_rfl) (fun _ hS => r_ldp1 (u := v) ag31 rfl ((Pins.of_le hS (Pin.le_trans (Pin.le_trans hlek80 hlek175) hlek191)) _ _ _ (hbp25 0 _ rfl))) hX201.pins (dr_take (i := 4) rfl rfl rfl (want_none rfl _) (by kernel_rfl) (fun _ _ => r_move (v := (.int .i64 (y : Int))) rfl) hX201.pins (dr_take (i := 5) rfl rfl rfl (want_none rfl _) (by kernel_rfl) (fun _ _ => run_idx Try.underlying31 sz62 (v := v) rfl rfl hv (by omega) (by omega)) hX201.pins (dr_take (i := 6) rfl rfl rfl (want_none rfl _) (by kernel_rfl) (fun _ _ => run_fld (off := 0) Try.underlying62 rfl rfl nz47 (z := (y : Int)) (k := 0) rfl hv (by omega) (by omega)) hX201.pins ?_))))))
 obtain ⟨u206, hr207, hl208⟩ := nm_nl (hv.at (z := (y : Int)) (by omega) (by omega)) (j := y) rfl
 have hm209 := hr207.max
 refine dr_take (i := 7) rfl rfl rfl (want_none rfl _) (by kernel_rfl) (fun _ hS => hl208 ag47 rfl (Pins.of_le hS (Pin.le_trans (Pin.le_trans (Pin.le_trans (Pin.le_trans hle10 hle23) hlek80) hlek175) hlek191))) hX201.pins (dr_take (i := 8) rfl rfl rfl (want_none rfl _) (by kernel_rfl) (fun _ _ => r_move (v := (.int .i64 (j : Int))) rfl) hX201.pins (dr_take (i := 9) rfl rfl rfl (want_none rfl _) (by kernel_rfl) (fun _ _ => run_idx Try.underlying47 sz3 (v := u206) rfl rfl hr207 (by omega) (by omega)) hX201.pins (dr_take (i := 10) rfl rfl rfl (want_none rfl _) (by kernel_rfl) (fun _ hS => run_load_int (r := ((bs.getD y default).l).getD j 0) rfl ag3 (z := (j : Int)) rfl hr207 (Pins.of_le hS (Pin.le_trans (Pin.le_trans (Pin.le_trans (Pin.le_trans hle10 hle23) hlek80) hlek175) hlek191)) (by omega) (by omega)) hX201.pins (dr_take (i := 11) rfl rfl rfl (want_none rfl _) (by kernel_rfl) (fun _ _ => r_move (v := p) rfl) hX201.pins (dr_take (i := 12) rfl rfl rfl (want_none rfl _) (by kernel_rfl) (fun _ _ => r_move (v := (.int .i64 (nj : Int))) rfl) hX201.pins (dr_take (i := 13) rfl rfl rfl (want_none rfl _) (by kernel_rfl) (fun _ _ => run_idx Try.underlying26 sz49 (v := p) rfl rfl hp (by omega) (by omega)) hX201.pins ?_))))))
 obtain ⟨cs210, hrep211, hagg212, hcell213⟩ := nm_el (j := nj) default (hp.at (z := (nj : Int)) (by omega) (by omega)) rfl
 obtain ⟨u214, u216, rfl, hr215, hr217⟩ := hrep211
 have hm218 := hr215.max
 have hm219 := hr217.max
 refine dr_take (i := 14) rfl rfl rfl (want_none rfl _) (by kernel_rfl) (fun _ hS => hagg212 ag49 sz49 rfl (Pins.of_le hS (Pin.le_trans (Pin.le_trans (Pin.le_trans (Pin.le_trans hle10 hle23) hlek80) hlek175) hlek191))) hX201.pins (dr_take (i := 15) rfl rfl rfl (want_none rfl _) (by kernel_rfl) (fun _ _ => r_move (v := (.int .i64 (x : Int))) rfl) hX201.pins (dr_one (i := 16) (by kernel_rfl) (drOp1 (i := 16) rfl rfl rfl (want_none rfl _) (o_call (vs := [(.agg [u].toArray), (.agg [v].toArray), (.int .i64 (((bs.getD y default).l).getD j 0)), (.agg [(.int .i64 ((L.getD nj default).a)), (.int .i64 ((L.getD nj default).b)), u214, u216].toArray), (.int .i64 (x : Int))]) Try.func63 nm63 rfl rfl rfl ?_))))
 refine Calls.mono (l15Left_spec (c := (L.getD nj default)) hX201.pins (hu.mono (Pin.le_trans (Pin.le_trans (Pin.le_trans (Pin.le_trans hle10 hle23) hlek80) hlek175) hlek191)) (hv.mono (Pin.le_trans (Pin.le_trans (Pin.le_trans (Pin.le_trans hle10 hle23) hlek80) hlek175) hlek191)) (by omega) (by omega)) ?_
 rintro _ w221 ⟨G220, rfl, hx222⟩
 refine ⟨_, rfl, ?_⟩
 have hX223 := hX201.tr hx222
 have ho224 := ho202.ext hx222
 have ho225 := ho203.ext hx222
 have hb226 := hb204.ext hx222
 have hb227 := hb205.ext hx222
 refine ⟨fun _ => (Pins.of_le hX223.pins hx222.le), ?_⟩
 refine dr_take (i := 17) rfl rfl rfl (want_none rfl _) (by kernel_rfl) (fun _ _ => r_not rfl) (Pins.of_le hX223.pins hx222.le) (dr_end (by kernel_rfl) (s_then (c_ifn rfl rfl (fun h228 => ?_) (fun h228 => ?_))))
 replace h228 := of_decide_eq_true h228
 refine wp_exit (s_thenE (s_lopE (s_blkE (s_then (c_reg ?_)))))
 refine qd rfl rfl rfl (r_fldp (k := 3) rfl Try.underlying49 rfl nz47 rfl) (qd rfl rfl rfl (r_ldp1 (u := lv) ag47 rfl (hb227.cell (o := 3) rfl)) (qd rfl rfl rfl (r_move (v := (.int .i64 (nj : Int))) rfl) (q1 rfl rfl rfl (o_buildF (E := eInt) (e := 3) [(.int .i64 (nj : Int))] [(nj : Int)] Try.underlying47 sz3 zr3 (by exact reps1 (by rfl)) (ones1 (by rfl)) rfl rfl rfl rfl (by decide) hX223.pins (fun u229 w230 ho231 hp232 hl233 hk234 => ?_)))))
 have hX235 := hX223.step hp232 hl233
 have ho236 := ho224.below hl233
 have ho237 := ho225.below hl233
 have hb238 := hb226.below hl233
 have hb239 := hb227.below hl233
 have ho244 : Own eInt 3 G220 w230 w.heap.size u229 ([(nj : Int)]) := ho231.weaken hX223.size
 refine q1 rfl rfl rfl (o_append (E := eInt) (v := lv) (u := u229) 8 Try.underlying47 ap3 (by decide) rfl rfl hX235.pins ho236 ho244.src (by first | omega | (rw [List.nil_append]; omega) | (rw [List.length_nil]; omega) | (rw [List.length_append]; omega) | (simp; done) | (simp; omega) | (simp only [List.length_append, List.length_cons, List.length_nil]; omega)) (by first | omega | (rw [List.nil_append]; omega) | (rw [List.length_nil]; omega) | (rw [List.length_append]; omega) | (simp; done) | (simp; omega) | (simp only [List.length_append, List.length_cons, List.length_nil]; omega)) (hX235.size) (fun u245 w246 ho247 hp248 hg249 hw250 => ?_))
 have hX251 := hX235.write hp248 hg249 ((lo_own ho236))
 have ho252 := ho237.keptA hg249 ha183.symm
 have hb254 := hb238.keptA hg249 ha184.symm
 have hb255 := hb239.keptA hg249 ha185.symm
 have ha256 : Apart rv.ownBlock u245.ownBlock := app_ne_own ha183.symm hw250 ho237.lt
 have ha258 : Apart (some b27) u245.ownBlock := app_ne_box ha184.symm hw250 hb238.lt
 have ha259 : Apart (some b57) u245.ownBlock := app_ne_box ha185.symm hw250 hb239.lt
 have hm260 : (ls ++ ([(nj : Int)])).length = ls.length + 1 := List.length_append
 refine qd rfl rfl rfl (r_fldp (k := 3) rfl Try.underlying49 rfl nz47 rfl) (q0 rfl rfl rfl (o_stp (cs' := [(.int .i64 (x : Int)), (.int .i64 (y : Int)), rv, u245]) (us := [u245]) (v := u245) sz47 rfl rfl (cells1 ho247.one) (ones1 ho247.one) hX251.pins hb255 (Nat.le_of_ble_eq_true rfl) rfl (fun w261 hb262 hp263 hg264 hz265 => ?_)))
 have hX266 := hX251.write hp263 hg264 ((lo_box hlo70))
 have ho267 := ho252.keptA hg264 ha90
 have ho268 := ho247.keptA hg264 ha259.symm
 have hb269 := hb254.keptA hg264 ha69.symm
 refine qe (s_blkN (s_then (c_reg ?_)))
 refine qd rfl rfl rfl (r_move (v := (.int .i64 (j : Int))) rfl) (qd rfl rfl rfl (r_add rfl rfl (by omega)) (qd rfl rfl rfl (r_assign (v := (.int .i64 ((j : Int) + 1))) rfl) (qe (s_lopN (⟨_, ?_, _, rfl, _, j + 1, u245, ls ++ ([(nj : Int)]), G220, (packS (x := 14) (packS (x := 11) (packS (x := 10) (packS (x := 6) (packS (x := 5) (packS (x := 4) (packS (x := 3) (pack1 (x := 2) rfl) rfl) rfl) rfl) rfl) rfl) rfl) rfl), rfl, hX266, (Pin.le_trans (Pin.le_trans hlek175 hlek191) hx222.le), (by omega), (by rw [hls, low_at hnlj.1 h228 hmj]; exact map_next (f := (fun r => lowL L (leftsP ns bs x r))) 0 (by omega)), ho268, ho267, hb269, hb262, ha256.symm, ha258.symm, ha259.symm⟩)))))
 omega
 replace h228 := of_decide_eq_false h228
 refine wp_skip (s_then (s_blk (c_reg (qd rfl rfl rfl (r_move (v := (.int .i64 (nj : Int))) rfl) (qd rfl rfl rfl (r_add rfl rfl (by omega)) (qd rfl rfl rfl (r_assign (v := (.int .i64 ((nj : Int) + 1))) rfl) (qe (s_blkN (s_lopN (⟨_, ?_, _, rfl, _, nj + 1, G220, (packS (x := 15) (packS (x := 14) (packS (x := 11) (packS (x := 10) (packS (x := 6) (packS (x := 5) (packS (x := 4) (packS (x := 3) (pack1 (x := 2) rfl) rfl) rfl) rfl) rfl) rfl) rfl) rfl) rfl), rfl, hX223, (Pin.le_trans hlek191 hx222.le), (fun q hq => if h3 : q = nj then h3 ▸ h228 else hmj q (by omega)), ho224, ho225, hb226, hb227⟩))))))))))
 omega
 refine wp_exit (s_thenE (s_lopE (s_blkE (s_then (s_seq (c_reg ?_))))))
 refine qd rfl rfl rfl (r_ldpA (cs := [(.int .i64 (x : Int)), (.int .i64 (y : Int)), rv, lv]) ag49 sz49 rfl (fun j u hj => hw182.cell (by simpa using hj))) (q0 rfl rfl rfl (o_stp (cs' := [(.int .i64 (x : Int)), (.int .i64 (y : Int)), rv, lv]) (us := [(.int .i64 (x : Int)), (.int .i64 (y : Int)), rv, lv]) (v := (.agg [(.int .i64 (x : Int)), (.int .i64 (y : Int)), rv, lv].toArray)) sz49 rfl rfl rfl (ones4 (by rfl) (by rfl) hw180.one hw179.one) hX178.pins hw181 (Nat.le_of_ble_eq_true rfl) rfl (fun w270 hb271 hp272 hg273 hz274 => ?_)))
 have hX275 := hX178.write hp272 hg273 ((lo_box hlo34))
 have ho276 := hw179.keptA hg273 ha184
 have ho277 := hw180.keptA hg273 ha89
 refine qe (s_then ?_)
 refine wp_ret (s_ret (c_retc (cs := [(.int .i64 (x : Int)), (.int .i64 (y : Int)), rv, lv]) rfl rfl rfl ag49 sz49 (fun j u hj => by rw [Nat.zero_add]; exact hb271.cell hj) ?_))
 rw [take_all (by omega)] at hrs hls
 exact ⟨_, _, _, rfl, (by rw [show (claimOf ns bs L x y).r = rs from hrs.symm]; exact ho277), (by rw [show (claimOf ns bs L x y).l = ls from hls.symm]; exact ho276), ha183.symm, hX275⟩

end PF2
end Go.Proofs.Ytdleojbknkbpiaa

set_option maxRecDepth 20000
set_option maxHeartbeats 2000000
namespace Go.Proofs.Ytdleojbknkbpiaa
namespace OR1
open Go.RowKit Go.GL Go.Proofs
open B1 C1 D1 E1











def GeqC (m : Nat) (o b : Nat) (bu bv kv : Value) (ns : List Nd) (bs : List Int) : Prop := ∀ {w : World} {G : Pin} {ks : List Int} {x y : Int} (_ : Pins G w) (_ : Od 62 3 G w o b bu bv kv ns bs ks) (_ : 0 ≤ x ∧ x < ns.length) (_ : 0 ≤ y ∧ y < ns.length) (_ : ks.length = ns.length * ns.length), x.toNat + y.toNat < m → KOk ns ks (x.toNat + y.toNat + 1) →
  Calls Try.prog 34 [(.pointer (some ⟨o, 0, none⟩)), (.int .i64 x), (.int .i64 y)].toArray w fun e w' => ∃ (ks' : List Int) (G' : Pin), e = .returned (.bool (geB ns x y)) ∧ Od 62 3 G' w' o b bu bv kv ns bs ks' ∧ KRes ns ks ks' (x.toNat + y.toNat + 1) ∧ Ext (inO kv.ownBlock) G w G' w'

theorem look_spec {w : World} {G : Pin} {m : Nat} {o b : Nat} {bu bv kv : Value} {ns : List Nd} {bs : List Int} {ks : List Int} {x y : Int} (hP : Pins G w) (hO : Od 62 3 G w o b bu bv kv ns bs ks) (hx : 0 ≤ x ∧ x < ns.length) (hy : 0 ≤ y ∧ y < ns.length) (hkl : ks.length = ns.length * ns.length) (hok : BookOk ns bs) (ih : GeqC m o b bu bv kv ns bs) (hm : x.toNat + y.toNat ≤ m) (hkok : KOk ns ks (x.toNat + y.toNat)) :
  Calls Try.prog 60 [(.pointer (some ⟨o, 0, none⟩)), (.int .i64 x), (.int .i64 y)].toArray w fun e w' => ∃ (ks' : List Int) (G' : Pin), e = .returned (.bool (geB ns x y)) ∧ Od 62 3 G' w' o b bu bv kv ns bs ks' ∧ KRes ns ks ks' (x.toNat + y.toNat) ∧ Ext (inO kv.ownBlock) G w G' w' := by
 refine s_enter (n := 75) Try.func60 Try.ntmps60 rfl rfl ?_
 have hX0 : Ext (inO kv.ownBlock) G w G w := Ext.refl hP
 have hB := hO.bk
 have hbx := hB.bx
 have hou := hB.ou
 have hov := hB.ov
 have habu := hB.abu
 have habv := hB.abv
 have hauv := hB.auv
 have hlen := hok.len
 have hlim := hok.lim
 have hox := hO.ox
 have hok2 := hO.ok
 have haok := hO.aok
 have habk := hO.abk
 have hauk := hO.auk
 have havk := hO.avk
 have hlok : Lo w (inO kv.ownBlock) kv.ownBlock := lo_self
 have hoo : OptsOk ns := hok.optsOk
 have hlens := hok.lens
 refine s_seq (c_reg ?_)
 refine qd rfl rfl rfl (r_assign (v := (.bool false)) rfl) (qe (s_then (s_seq (s_seq (c_reg ?_)))))
 refine qd rfl rfl rfl (r_assign (v := (.int .i64 0)) rfl) (qe (s_then ?_))
 refine s_blk (s_loop (fun (k : Nat) (en : Nat → Value) (W : World) => ∃ (env1 : Nat → Value) (i : Nat) (kqr : List Int) (GLr : Pin), en = (upd (upd (upd (upd env1 0 (.pointer (some ⟨o, 0, none⟩))) 1 (.int .i64 x)) 2 (.int .i64 y)) 7 (.int .i64 (i : Int))) ∧ k = (ns.getD (x).toNat default).r.length - i ∧ Ext (inO kv.ownBlock) G w GLr W ∧ Pin.le G GLr ∧ (i ≤ (ns.getD (x).toNat default).r.length) ∧ (KRes ns ks kqr (x.toNat + y.toNat)) ∧ (∀ q, q < i → geB ns y ((ns.getD (x).toNat default).r.getD q 0) = false) ∧ (Own eInt 3 GLr W 0 kv (kqr)) ∧ (Own eNode 62 GLr W 0 bu (ns)) ∧ (Own eInt 3 GLr W 0 bv (bs)) ∧ (Bx GLr W b [bu, bv]) ∧ (Bx GLr W o [(.pointer (some ⟨b, 0, none⟩)), kv])) _ ⟨_, 0, ks, G, (packS (x := 7) (packS (x := 2) (packS (x := 1) (pack1 (x := 0) rfl) rfl) rfl) rfl), rfl, hX0, Pin.le_refl _, Nat.zero_le _, (KRes.refl hkok), (fun q hq => absurd hq (Nat.not_lt_zero q)), hok2, hou, hov, hbx, hox⟩ ?_)
 rintro k1 _ w2 ⟨env1, i, kqr, GLr, rfl, hk3, hX4, hlek1, hji, hkrr, hpr, hw5, hw6, hw7, hw8, hw9⟩
 have hklr := hkrr.len
 refine s_seq (s_seq (c_reg ?_))
 refine qd rfl rfl rfl (r_move (v := (.int .i64 (i : Int))) rfl) (qd rfl rfl rfl (r_move (v := (.pointer (some ⟨o, 0, none⟩))) rfl) (qd rfl rfl rfl (r_nil rfl) (qd rfl rfl rfl (r_fldp (k := 0) rfl Try.underlying94 rfl nz63 rfl) (qd rfl rfl rfl (r_ldp1 (u := (.pointer (some ⟨b, 0, none⟩))) ag63 rfl (hw9.cell (o := 0) rfl)) (qd rfl rfl rfl (r_nil rfl) (qd rfl rfl rfl (r_fldp (k := 0) rfl Try.underlying65 rfl nz31 rfl) (qd rfl rfl rfl (r_ldp1 (u := bu) ag31 rfl (hw8.cell (o := 0) rfl)) (qd rfl rfl rfl (r_move (v := (.int .i64 x)) rfl) (qd rfl rfl rfl (run_idx Try.underlying31 sz62 (v := bu) rfl rfl hw6.read (by omega) (by omega)) (qd rfl rfl rfl (run_fld (off := 1) Try.underlying62 rfl rfl nz47 (z := x) (k := 0) rfl hw6.read (by omega) (by omega)) ?_))))))))))
 obtain ⟨u10, hr11, hl12⟩ := nm_nr (hw6.at (z := x) (by omega) (by omega)) (j := (x).toNat) rfl
 have hm13 := hr11.max
 refine qd rfl rfl rfl (hl12 ag47 rfl (Gadd.pins hX4.pins bu)) (qd rfl rfl rfl (run_len Try.underlying47 (v := u10) rfl hr11) (qd rfl rfl rfl (r_lss rfl rfl) (qe (s_then ?_))))
 refine c_ifd (p := ((i : Int) : Int) < (((ns.getD (x).toNat default).r).length : Int)) rfl rfl (fun h14 => ?_) (fun h14 => ?_)
 have hki := hoo.right (j := (x).toNat) (i := i) (by omega) (by omega)
 refine wp_skip (s_then (s_seq ?_))
 refine s_blk (s_seq (c_reg ?_))
 refine qd rfl rfl rfl (r_move (v := (.pointer (some ⟨o, 0, none⟩))) rfl) (qd rfl rfl rfl (r_move (v := (.int .i64 y)) rfl) (qd rfl rfl rfl (r_move (v := (.pointer (some ⟨o, 0, none⟩))) rfl) (qd rfl rfl rfl (r_nil rfl) (qd rfl rfl rfl (r_fldp (k := 0) rfl Try.underlying94 rfl nz63 rfl) (qd rfl rfl rfl (r_ldp1 (u := (.pointer (some ⟨b, 0, none⟩))) ag63 rfl (hw9.cell (o := 0) rfl)) (qd rfl rfl rfl (r_nil rfl) (qd rfl rfl rfl (r_fldp (k := 0) rfl Try.underlying65 rfl nz31 rfl) (qd rfl rfl rfl (r_ldp1 (u := bu) ag31 rfl (hw8.cell (o := 0) rfl)) (qd rfl rfl rfl (r_move (v := (.int .i64 x)) rfl) (qd rfl rfl rfl (run_idx Try.underlying31 sz62 (v := bu) rfl rfl hw6.read (by omega) (by omega)) (qd rfl rfl rfl (run_fld (off := 1) Try.underlying62 rfl rfl nz47 (z := x) (k := 0) rfl hw6.read (by omega) (by omega)) ?_)))))))))))
 obtain ⟨u15, hr16, hl17⟩ := nm_nr (hw6.at (z := x) (by omega) (by omega)) (j := (x).toNat) rfl
 have hm18 := hr16.max
 refine qd rfl rfl rfl (hl17 ag47 rfl (Gadd.pins hX4.pins bu)) (qd rfl rfl rfl (r_move (v := (.int .i64 (i : Int))) rfl) (qd rfl rfl rfl (run_idx Try.underlying47 sz3 (v := u15) rfl rfl hr16 (by omega) (by omega)) (qd rfl rfl rfl (run_load_int (r := ((ns.getD (x).toNat default).r).getD i 0) rfl ag3 (z := (i : Int)) rfl hr16 hX4.pins (by omega) (by omega)) (q1 rfl rfl rfl (o_call (vs := [(.pointer (some ⟨o, 0, none⟩)), (.int .i64 y), (.int .i64 (((ns.getD (x).toNat default).r).getD i 0))]) Try.func34 nm34 rfl rfl rfl ?_)))))
 refine Calls.mono (ih hX4.pins ⟨⟨hw8, hw6, hw7, habu, habv, hauv⟩, hw9, hw5, haok, habk, hauk, havk⟩ (by omega) (by omega) (by omega) (by omega) (hkrr.ok.mono (by omega))) ?_
 rintro _ w21 ⟨ks19, G20, rfl, hd22, hr23, hx24⟩
 refine ⟨_, rfl, ?_⟩
 have hX25 := hX4.trans hx24 (fun i hi => hlok i hi)
 have ho26 := hw6.extS hx24 (notO hauk)
 have ho27 := hw7.extS hx24 (notO havk)
 have hb28 := hw8.extS hx24 (notOb habk)
 have hb29 := hw9.extS hx24 (notOb haok)
 have hkl31 := hr23.len
 refine qe (s_then ?_)
 refine c_if rfl rfl (fun h32 => ?_) (fun h32 => ?_)
 refine s_seq (c_reg ?_)
 refine qd rfl rfl rfl (r_assign (v := (.bool false)) rfl) (qe (s_then ?_))
 exact wp_ret (s_ret (c_ret1 (v := (.bool false)) rfl rfl rfl (⟨_, _, congrArg (fun z => Ending.returned (Value.bool z)) (geB_no_right hoo hx (by omega) h32).symm, ⟨⟨hb28, ho26, ho27, habu, habv, hauv⟩, hb29, hd22.ok, haok, habk, hauk, havk⟩, (hkrr.wide hr23 (by omega)), hX25⟩)))
 refine wp_skip (s_blkN (s_then (c_reg ?_)))
 refine qd rfl rfl rfl (r_move (v := (.int .i64 (i : Int))) rfl) (qd rfl rfl rfl (r_add rfl rfl (by omega)) (qd rfl rfl rfl (r_assign (v := (.int .i64 ((i : Int) + 1))) rfl) (qe (s_lopN (⟨_, ?_, _, rfl, _, i + 1, ks19, G20, (packS (x := 7) (packS (x := 2) (packS (x := 1) (pack1 (x := 0) rfl) rfl) rfl) rfl), rfl, hX25, (Pin.le_trans hlek1 hx24.le), (by omega), (hkrr.wide hr23 (by omega)), (fun q hq => if h3 : q = i then h3 ▸ h32 else hpr q (by omega)), hd22.ok, ho26, ho27, hb28, hb29⟩)))))
 omega
 refine wp_exit (s_thenE (s_lopE (s_blkE (s_then (s_seq (s_seq (c_reg ?_)))))))
 refine qd rfl rfl rfl (r_assign (v := (.int .i64 0)) rfl) (qe (s_then ?_))
 refine s_blk (s_loop (fun (k : Nat) (en : Nat → Value) (W : World) => ∃ (env1 : Nat → Value) (i2 : Nat) (kql : List Int) (GLl : Pin), en = (upd (upd (upd (upd env1 0 (.pointer (some ⟨o, 0, none⟩))) 1 (.int .i64 x)) 2 (.int .i64 y)) 8 (.int .i64 (i2 : Int))) ∧ k = (ns.getD (y).toNat default).l.length - i2 ∧ Ext (inO kv.ownBlock) G w GLl W ∧ Pin.le GLr GLl ∧ (i2 ≤ (ns.getD (y).toNat default).l.length) ∧ (KRes ns ks kql (x.toNat + y.toNat)) ∧ (∀ q, q < i2 → geB ns ((ns.getD (y).toNat default).l.getD q 0) x = false) ∧ (Own eInt 3 GLl W 0 kv (kql)) ∧ (Own eNode 62 GLl W 0 bu (ns)) ∧ (Own eInt 3 GLl W 0 bv (bs)) ∧ (Bx GLl W b [bu, bv]) ∧ (Bx GLl W o [(.pointer (some ⟨b, 0, none⟩)), kv])) _ ⟨_, 0, kqr, GLr, (packS (x := 8) (packS (x := 2) (packS (x := 1) (pack1 (x := 0) rfl) rfl) rfl) rfl), rfl, hX4, Pin.le_refl _, Nat.zero_le _, hkrr, (fun q hq => absurd hq (Nat.not_lt_zero q)), hw5, hw6, hw7, hw8, hw9⟩ ?_)
 rintro k33 _ w34 ⟨env1, i2, kql, GLl, rfl, hk35, hX36, hlek33, hji2, hkrl, hpl, hw37, hw38, hw39, hw40, hw41⟩
 have hkll := hkrl.len
 refine s_seq (s_seq (c_reg ?_))
 refine qd rfl rfl rfl (r_move (v := (.int .i64 (i2 : Int))) rfl) (qd rfl rfl rfl (r_move (v := (.pointer (some ⟨o, 0, none⟩))) rfl) (qd rfl rfl rfl (r_nil rfl) (qd rfl rfl rfl (r_fldp (k := 0) rfl Try.underlying94 rfl nz63 rfl) (qd rfl rfl rfl (r_ldp1 (u := (.pointer (some ⟨b, 0, none⟩))) ag63 rfl (hw41.cell (o := 0) rfl)) (qd rfl rfl rfl (r_nil rfl) (qd rfl rfl rfl (r_fldp (k := 0) rfl Try.underlying65 rfl nz31 rfl) (qd rfl rfl rfl (r_ldp1 (u := bu) ag31 rfl (hw40.cell (o := 0) rfl)) (qd rfl rfl rfl (r_move (v := (.int .i64 y)) rfl) (qd rfl rfl rfl (run_idx Try.underlying31 sz62 (v := bu) rfl rfl hw38.read (by omega) (by omega)) (qd rfl rfl rfl (run_fld (off := 0) Try.underlying62 rfl rfl nz47 (z := y) (k := 0) rfl hw38.read (by omega) (by omega)) ?_))))))))))
 obtain ⟨u42, hr43, hl44⟩ := nm_nl (hw38.at (z := y) (by omega) (by omega)) (j := (y).toNat) rfl
 have hm45 := hr43.max
 refine qd rfl rfl rfl (hl44 ag47 rfl (Gadd.pins hX36.pins bu)) (qd rfl rfl rfl (run_len Try.underlying47 (v := u42) rfl hr43) (qd rfl rfl rfl (r_lss rfl rfl) (qe (s_then ?_))))
 refine c_ifd (p := ((i2 : Int) : Int) < (((ns.getD (y).toNat default).l).length : Int)) rfl rfl (fun h46 => ?_) (fun h46 => ?_)
 have hki := hoo.left (j := (y).toNat) (i := i2) (by omega) (by omega)
 refine wp_skip (s_then (s_seq ?_))
 refine s_blk (s_seq (c_reg ?_))
 refine qd rfl rfl rfl (r_move (v := (.pointer (some ⟨o, 0, none⟩))) rfl) (qd rfl rfl rfl (r_move (v := (.pointer (some ⟨o, 0, none⟩))) rfl) (qd rfl rfl rfl (r_nil rfl) (qd rfl rfl rfl (r_fldp (k := 0) rfl Try.underlying94 rfl nz63 rfl) (qd rfl rfl rfl (r_ldp1 (u := (.pointer (some ⟨b, 0, none⟩))) ag63 rfl (hw41.cell (o := 0) rfl)) (qd rfl rfl rfl (r_nil rfl) (qd rfl rfl rfl (r_fldp (k := 0) rfl Try.underlying65 rfl nz31 rfl) (qd rfl rfl rfl (r_ldp1 (u := bu) ag31 rfl (hw40.cell (o := 0) rfl)) (qd rfl rfl rfl (r_move (v := (.int .i64 y)) rfl) (qd rfl rfl rfl (run_idx Try.underlying31 sz62 (v := bu) rfl rfl hw38.read (by omega) (by omega)) (qd rfl rfl rfl (run_fld (off := 0) Try.underlying62 rfl rfl nz47 (z := y) (k := 0) rfl hw38.read (by omega) (by omega)) ?_))))))))))
 obtain ⟨u47, hr48, hl49⟩ := nm_nl (hw38.at (z := y) (by omega) (by omega)) (j := (y).toNat) rfl
 have hm50 := hr48.max
 refine qd rfl rfl rfl (hl49 ag47 rfl (Gadd.pins hX36.pins bu)) (qd rfl rfl rfl (r_move (v := (.int .i64 (i2 : Int))) rfl) (qd rfl rfl rfl (run_idx Try.underlying47 sz3 (v := u47) rfl rfl hr48 (by omega) (by omega)) (qd rfl rfl rfl (run_load_int (r := ((ns.getD (y).toNat default).l).getD i2 0) rfl ag3 (z := (i2 : Int)) rfl hr48 hX36.pins (by omega) (by omega)) (qd rfl rfl rfl (r_move (v := (.int .i64 x)) rfl) (q1 rfl rfl rfl (o_call (vs := [(.pointer (some ⟨o, 0, none⟩)), (.int .i64 (((ns.getD (y).toNat default).l).getD i2 0)), (.int .i64 x)]) Try.func34 nm34 rfl rfl rfl ?_))))))
 refine Calls.mono (ih hX36.pins ⟨⟨hw40, hw38, hw39, habu, habv, hauv⟩, hw41, hw37, haok, habk, hauk, havk⟩ (by omega) (by omega) (by omega) (by omega) (hkrl.ok.mono (by omega))) ?_
 rintro _ w53 ⟨ks51, G52, rfl, hd54, hr55, hx56⟩
 refine ⟨_, rfl, ?_⟩
 have hX57 := hX36.trans hx56 (fun i hi => hlok i hi)
 have ho58 := hw38.extS hx56 (notO hauk)
 have ho59 := hw39.extS hx56 (notO havk)
 have hb60 := hw40.extS hx56 (notOb habk)
 have hb61 := hw41.extS hx56 (notOb haok)
 have hkl63 := hr55.len
 refine qe (s_then ?_)
 refine c_if rfl rfl (fun h64 => ?_) (fun h64 => ?_)
 refine s_seq (c_reg ?_)
 refine qd rfl rfl rfl (r_assign (v := (.bool false)) rfl) (qe (s_then ?_))
 exact wp_ret (s_ret (c_ret1 (v := (.bool false)) rfl rfl rfl (⟨_, _, congrArg (fun z => Ending.returned (Value.bool z)) (geB_no_left hoo hy (by omega) h64).symm, ⟨⟨hb60, ho58, ho59, habu, habv, hauv⟩, hb61, hd54.ok, haok, habk, hauk, havk⟩, (hkrl.wide hr55 (by omega)), hX57⟩)))
 refine wp_skip (s_blkN (s_then (c_reg ?_)))
 refine qd rfl rfl rfl (r_move (v := (.int .i64 (i2 : Int))) rfl) (qd rfl rfl rfl (r_add rfl rfl (by omega)) (qd rfl rfl rfl (r_assign (v := (.int .i64 ((i2 : Int) + 1))) rfl) (qe (s_lopN (⟨_, ?_, _, rfl, _, i2 + 1, ks51, G52, (packS (x := 8) (packS (x := 2) (packS (x := 1) (pack1 (x := 0) rfl) rfl) rfl) rfl), rfl, hX57, (Pin.le_trans hlek33 hx56.le), (by omega), (hkrl.wide hr55 (by omega)), (fun q hq => if h3 : q = i2 then h3 ▸ h64 else hpl q (by omega)), hd54.ok, ho58, ho59, hb60, hb61⟩)))))
 omega
 refine wp_exit (s_thenE (s_lopE (s_blkE (s_then (s_seq (c_reg ?_))))))
 refine qd rfl rfl rfl (r_assign (v := (.bool true)) rfl) (qe (s_then ?_))
 exact wp_ret (s_ret (c_ret1 (v := (.bool true)) rfl rfl rfl (⟨_, _, congrArg (fun z => Ending.returned (Value.bool z)) (geB_yes hoo hx hy (fun q hq => hpr q (by omega)) (fun q hq => hpl q (by omega))).symm, ⟨⟨hw40, hw38, hw39, habu, habv, hauv⟩, hw41, hw37, haok, habk, hauk, havk⟩, hkrl, hX36⟩)))

theorem geq_step {w : World} {G : Pin} {m : Nat} {o b : Nat} {bu bv kv : Value} {ns : List Nd} {bs : List Int} {ks : List Int} {x y : Int} (hP : Pins G w) (hO : Od 62 3 G w o b bu bv kv ns bs ks) (hx : 0 ≤ x ∧ x < ns.length) (hy : 0 ≤ y ∧ y < ns.length) (hkl : ks.length = ns.length * ns.length) (hok : BookOk ns bs) (ih : GeqC m o b bu bv kv ns bs) (hm : x.toNat + y.toNat < m + 1) (hkok : KOk ns ks (x.toNat + y.toNat + 1)) :
  Calls Try.prog 34 [(.pointer (some ⟨o, 0, none⟩)), (.int .i64 x), (.int .i64 y)].toArray w fun e w' => ∃ (ks' : List Int) (G' : Pin), e = .returned (.bool (geB ns x y)) ∧ Od 62 3 G' w' o b bu bv kv ns bs ks' ∧ KRes ns ks ks' (x.toNat + y.toNat + 1) ∧ Ext (inO kv.ownBlock) G w G' w' := by
 refine s_enter (n := 52) Try.func34 Try.ntmps34 rfl rfl ?_
 have hX0 : Ext (inO kv.ownBlock) G w G w := Ext.refl hP
 have hB := hO.bk
 have hbx := hB.bx
 have hou := hB.ou
 have hov := hB.ov
 have habu := hB.abu
 have habv := hB.abv
 have hauv := hB.auv
 have hlen := hok.len
 have hlim := hok.lim
 have hox := hO.ox
 have hok2 := hO.ok
 have haok := hO.aok
 have habk := hO.abk
 have hauk := hO.auk
 have havk := hO.avk
 have hlok : Lo w (inO kv.ownBlock) kv.ownBlock := lo_self
 have hoo : OptsOk ns := hok.optsOk
 have hlens := hok.lens
 have hib := idx_bd hx hy hok.lim
 refine s_seq (c_reg ?_)
 refine qd rfl rfl rfl (r_assign (v := (.bool false)) rfl) (qe (s_then (s_seq (c_reg ?_))))
 refine qd rfl rfl rfl (r_move (v := (.int .i64 x)) rfl) (qd rfl rfl rfl (r_move (v := (.pointer (some ⟨o, 0, none⟩))) rfl) (qd rfl rfl rfl (r_nil rfl) (qd rfl rfl rfl (r_fldp (k := 0) rfl Try.underlying94 rfl nz63 rfl) (qd rfl rfl rfl (r_ldp1 (u := (.pointer (some ⟨b, 0, none⟩))) ag63 rfl (hox.cell (o := 0) rfl)) (qd rfl rfl rfl (r_nil rfl) (qd rfl rfl rfl (r_fldp (k := 0) rfl Try.underlying65 rfl nz31 rfl) (qd rfl rfl rfl (r_ldp1 (u := bu) ag31 rfl (hbx.cell (o := 0) rfl)) (qd rfl rfl rfl (run_len Try.underlying31 (v := bu) rfl hou.read) (qd rfl rfl rfl (r_mul rfl rfl (by omega)) (qd rfl rfl rfl (r_move (v := (.int .i64 y)) rfl) (qd rfl rfl rfl (r_add rfl rfl (by omega)) (qd rfl rfl rfl (r_assign (v := (.int .i64 ((x * (ns.length : Int)) + y))) rfl) (qe (s_then (s_seq (s_seq (c_reg ?_)))))))))))))))))
 refine qd rfl rfl rfl (r_move (v := (.pointer (some ⟨o, 0, none⟩))) rfl) (qd rfl rfl rfl (r_nil rfl) (qd rfl rfl rfl (r_fldp (k := 1) rfl Try.underlying94 rfl nz47 rfl) (qd rfl rfl rfl (r_ldp1 (u := kv) ag47 rfl (hox.cell (o := 1) rfl)) (qd rfl rfl rfl (r_move (v := (.int .i64 ((x * (ns.length : Int)) + y))) rfl) (qd rfl rfl rfl (run_idx Try.underlying47 sz3 (v := kv) rfl rfl hok2.read (by omega) (by omega)) (qd rfl rfl rfl (run_load_int (r := ks.getD ((x * (ns.length : Int)) + y).toNat 0) rfl ag3 (z := ((x * (ns.length : Int)) + y)) rfl hok2.read (Gadd.pins hX0.pins kv) (by omega) (by omega)) (qd rfl rfl rfl (r_eql rfl rfl) (qe (s_then ?_)))))))))
 refine c_ifd (p := (ks.getD ((x * (ns.length : Int)) + y).toNat 0 : Int) = 0) rfl rfl (fun h1 => ?_) (fun h1 => ?_)
 refine s_seq (c_reg ?_)
 refine qd rfl rfl rfl (r_move (v := (.pointer (some ⟨o, 0, none⟩))) rfl) (qd rfl rfl rfl (r_nil rfl) (qd rfl rfl rfl (r_fldp (k := 1) rfl Try.underlying94 rfl nz47 rfl) (qd rfl rfl rfl (r_ldp1 (u := kv) ag47 rfl (hox.cell (o := 1) rfl)) (qd rfl rfl rfl (r_move (v := (.int .i64 ((x * (ns.length : Int)) + y))) rfl) (qd rfl rfl rfl (run_idx Try.underlying47 sz3 (v := kv) rfl rfl hok2.read (by omega) (by omega)) (q0 rfl rfl rfl (o_set (E := eInt) (v := kv) (u := (.int .i64 2)) (z := ((x * (ns.length : Int)) + y)) (2) sz3 rfl rfl rfl rfl hX0.pins hok2 (by omega) (by omega) (fun w2 ho3 hp4 hg5 hz6 => ?_))))))))
 have hX7 := hX0.write hp4 hg5 (hlok)
 have ho8 := hou.keptA hg5 hauk
 have ho9 := hov.keptA hg5 havk
 have hb10 := hbx.keptA hg5 habk
 have hb11 := hox.keptA hg5 haok
 have ho12 : Own eInt 3 G w2 0 kv ((ks).set ((x * (ns.length : Int)) + y).toNat 2) := ho3
 have hm13 : ((ks).set ((x * (ns.length : Int)) + y).toNat 2).length = ks.length := List.length_set ..
 refine qe (s_then (s_seq (c_reg ?_)))
 refine qd rfl rfl rfl (r_move (v := (.pointer (some ⟨o, 0, none⟩))) rfl) (qd rfl rfl rfl (r_move (v := (.int .i64 x)) rfl) (qd rfl rfl rfl (r_move (v := (.int .i64 y)) rfl) (q1 rfl rfl rfl (o_call (vs := [(.pointer (some ⟨o, 0, none⟩)), (.int .i64 x), (.int .i64 y)]) Try.func60 nm60 rfl rfl rfl ?_))))
 refine Calls.mono (look_spec hX7.pins ⟨⟨hb10, ho8, ho9, habu, habv, hauv⟩, hb11, ho12, haok, habk, hauk, havk⟩ hx hy (by rw [List.length_set]; exact hkl) hok ih (by omega) (KRes.prov hx hy hkok).1) ?_
 rintro _ w16 ⟨ks14, G15, rfl, hd17, hr18, hx19⟩
 refine ⟨_, rfl, ?_⟩
 have hX20 := hX7.trans hx19 (fun i hi => hlok i hi)
 have ho21 := ho8.extS hx19 (notO hauk)
 have ho22 := ho9.extS hx19 (notO havk)
 have hb23 := hb10.extS hx19 (notOb habk)
 have hb24 := hb11.extS hx19 (notOb haok)
 have hkl26 := hr18.len
 refine qe (s_then ?_)
 refine c_if rfl rfl (fun h27 => ?_) (fun h27 => ?_)
 refine c_reg (qd rfl rfl rfl (r_move (v := (.pointer (some ⟨o, 0, none⟩))) rfl) (qd rfl rfl rfl (r_nil rfl) (qd rfl rfl rfl (r_fldp (k := 1) rfl Try.underlying94 rfl nz47 rfl) (qd rfl rfl rfl (r_ldp1 (u := kv) ag47 rfl (hb24.cell (o := 1) rfl)) (qd rfl rfl rfl (r_move (v := (.int .i64 ((x * (ns.length : Int)) + y))) rfl) (qd rfl rfl rfl (run_idx Try.underlying47 sz3 (v := kv) rfl rfl hd17.ok.read (by omega) (by omega)) (q0 rfl rfl rfl (o_set (E := eInt) (v := kv) (u := (.int .i64 1)) (z := ((x * (ns.length : Int)) + y)) (1) sz3 rfl rfl rfl rfl hX20.pins hd17.ok (by omega) (by omega) (fun w28 ho29 hp30 hg31 hz32 => ?_)))))))))
 have hX33 := hX20.write hp30 hg31 (hlok)
 have ho34 := ho21.keptA hg31 hauk
 have ho35 := ho22.keptA hg31 havk
 have hb36 := hb23.keptA hg31 habk
 have hb37 := hb24.keptA hg31 haok
 have ho38 : Own eInt 3 G15 w28 0 kv ((ks14).set ((x * (ns.length : Int)) + y).toNat 1) := ho29
 have hm39 : ((ks14).set ((x * (ns.length : Int)) + y).toNat 1).length = ks14.length := List.length_set ..
 refine qe (s_then (s_seq (c_reg ?_)))
 refine qd rfl rfl rfl (r_move (v := (.pointer (some ⟨o, 0, none⟩))) rfl) (qd rfl rfl rfl (r_nil rfl) (qd rfl rfl rfl (r_fldp (k := 1) rfl Try.underlying94 rfl nz47 rfl) (qd rfl rfl rfl (r_ldp1 (u := kv) ag47 rfl (hb37.cell (o := 1) rfl)) (qd rfl rfl rfl (r_move (v := (.int .i64 ((x * (ns.length : Int)) + y))) rfl) (qd rfl rfl rfl (run_idx Try.underlying47 sz3 (v := kv) rfl rfl ho38.read (by omega) (by omega)) (qd rfl rfl rfl (run_load_int (r := ((ks14).set ((x * (ns.length : Int)) + y).toNat 1).getD ((x * (ns.length : Int)) + y).toNat 0) rfl ag3 (z := ((x * (ns.length : Int)) + y)) rfl ho38.read (Gadd.pins hX33.pins kv) (by omega) (by omega)) (qd rfl rfl rfl (r_eql rfl rfl) (qd rfl rfl rfl (r_assign (v := (.bool (decide ((((ks14).set ((x * (ns.length : Int)) + y).toNat 1).getD ((x * (ns.length : Int)) + y).toNat 0 : Int) = 1)))) rfl) (qe (s_then ?_))))))))))
 refine wp_ret (s_ret (c_ret1 (v := (.bool (decide ((((ks14).set ((x * (ns.length : Int)) + y).toNat 1).getD ((x * (ns.length : Int)) + y).toNat 0 : Int) = 1)))) rfl rfl rfl ?_))
 have htold := KRes.told hx hy hkl hkok hr18 (if_pos h27).symm
 exact ⟨_, _, congrArg (fun z => Ending.returned (Value.bool z)) htold.2, ⟨⟨hb36, ho34, ho35, habu, habv, hauv⟩, hb37, ho38, haok, habk, hauk, havk⟩, htold.1, hX33⟩
 refine wp_skip (s_then (s_seq (c_reg ?_)))
 refine qd rfl rfl rfl (r_move (v := (.pointer (some ⟨o, 0, none⟩))) rfl) (qd rfl rfl rfl (r_nil rfl) (qd rfl rfl rfl (r_fldp (k := 1) rfl Try.underlying94 rfl nz47 rfl) (qd rfl rfl rfl (r_ldp1 (u := kv) ag47 rfl (hb24.cell (o := 1) rfl)) (qd rfl rfl rfl (r_move (v := (.int .i64 ((x * (ns.length : Int)) + y))) rfl) (qd rfl rfl rfl (run_idx Try.underlying47 sz3 (v := kv) rfl rfl hd17.ok.read (by omega) (by omega)) (qd rfl rfl rfl (run_load_int (r := ks14.getD ((x * (ns.length : Int)) + y).toNat 0) rfl ag3 (z := ((x * (ns.length : Int)) + y)) rfl hd17.ok.read (Gadd.pins hX20.pins kv) (by omega) (by omega)) (qd rfl rfl rfl (r_eql rfl rfl) (qd rfl rfl rfl (r_assign (v := (.bool (decide ((ks14.getD ((x * (ns.length : Int)) + y).toNat 0 : Int) = 1)))) rfl) (qe (s_then ?_))))))))))
 refine wp_ret (s_ret (c_ret1 (v := (.bool (decide ((ks14.getD ((x * (ns.length : Int)) + y).toNat 0 : Int) = 1)))) rfl rfl rfl ?_))
 have htold := KRes.told hx hy hkl hkok hr18 (if_neg (by rw [h27]; decide)).symm
 exact ⟨_, _, congrArg (fun z => Ending.returned (Value.bool z)) htold.2, ⟨⟨hb23, ho21, ho22, habu, habv, hauv⟩, hb24, hd17.ok, haok, habk, hauk, havk⟩, htold.1, hX20⟩
 refine wp_skip (s_then (s_seq (c_reg ?_)))
 refine qd rfl rfl rfl (r_move (v := (.pointer (some ⟨o, 0, none⟩))) rfl) (qd rfl rfl rfl (r_nil rfl) (qd rfl rfl rfl (r_fldp (k := 1) rfl Try.underlying94 rfl nz47 rfl) (qd rfl rfl rfl (r_ldp1 (u := kv) ag47 rfl (hox.cell (o := 1) rfl)) (qd rfl rfl rfl (r_move (v := (.int .i64 ((x * (ns.length : Int)) + y))) rfl) (qd rfl rfl rfl (run_idx Try.underlying47 sz3 (v := kv) rfl rfl hok2.read (by omega) (by omega)) (qd rfl rfl rfl (run_load_int (r := ks.getD ((x * (ns.length : Int)) + y).toNat 0) rfl ag3 (z := ((x * (ns.length : Int)) + y)) rfl hok2.read (Gadd.pins hX0.pins kv) (by omega) (by omega)) (qd rfl rfl rfl (r_eql rfl rfl) (qd rfl rfl rfl (r_assign (v := (.bool (decide ((ks.getD ((x * (ns.length : Int)) + y).toNat 0 : Int) = 1)))) rfl) (qe (s_then ?_))))))))))
 exact wp_ret (s_ret (c_ret1 (v := (.bool (decide ((ks.getD ((x * (ns.length : Int)) + y).toNat 0 : Int) = 1)))) rfl rfl rfl (⟨_, _, congrArg (fun z => Ending.returned (Value.bool z)) (KOk.known hx hy hkok h1), ⟨⟨hbx, hou, hov, habu, habv, hauv⟩, hox, hok2, haok, habk, hauk, havk⟩, KRes.refl hkok, hX0⟩)))

theorem geq_all {o b : Nat} {bu bv kv : Value} {ns : List Nd} {bs : List Int} (hok : BookOk ns bs) : ∀ m, GeqC m o b bu bv kv ns bs
 | 0 => fun _ _ _ _ _ h _ => absurd h (Nat.not_lt_zero _)
 | m + 1 => fun hP hO hx hy hkl hm hk => geq_step hP hO hx hy hkl hok (geq_all hok m) hm hk
theorem geq_spec {w : World} {G : Pin} {o b : Nat} {bu bv kv : Value} {ns : List Nd} {bs : List Int} {ks : List Int} {x y : Int} (hP : Pins G w) (hO : Od 62 3 G w o b bu bv kv ns bs ks) (hx : 0 ≤ x ∧ x < ns.length) (hy : 0 ≤ y ∧ y < ns.length) (hkl : ks.length = ns.length * ns.length) (hok : BookOk ns bs) (hkok : KOk ns ks (x.toNat + y.toNat + 1)) :
  Calls Try.prog 34 [(.pointer (some ⟨o, 0, none⟩)), (.int .i64 x), (.int .i64 y)].toArray w fun e w' => ∃ (ks' : List Int) (G' : Pin), e = .returned (.bool (geB ns x y)) ∧ Od 62 3 G' w' o b bu bv kv ns bs ks' ∧ KRes ns ks ks' (x.toNat + y.toNat + 1) ∧ Ext (inO kv.ownBlock) G w G' w' :=
 geq_all hok _ hP hO hx hy hkl (Nat.lt_succ_self _) hkok

end OR1
end Go.Proofs.Ytdleojbknkbpiaa

set_option maxRecDepth 20000
set_option maxHeartbeats 2000000
namespace Go.Proofs.Ytdleojbknkbpiaa
namespace SF1
open Go.RowKit Go.GL Go.Proofs
open B1 C1 D1 E1 OR1


theorem mk3 : (Try.prog.info? 3).map (fun i => (i.size, i.bytes, i.zero)) = some (1, 8, some (.int .i64 0)) := by kernel_rfl




theorem pl65 : (Try.prog.underlying 65).bind (placesD Try.prog) = some [(0, 1), (1, 1)] := by kernel_rfl
theorem pl94 : (Try.prog.underlying 94).bind (placesD Try.prog) = some [(0, 1), (1, 1)] := by kernel_rfl



theorem l4Of_spec {w : World} {G : Pin} {b : Nat} {bu bv : Value} {ns : List Nd} {bs : List Int} (hP : Pins G w) (hB : Bk 62 3 G w b bu bv ns bs) (hok : BookOk ns bs) :
  Calls Try.prog 33 [(.pointer (some ⟨b, 0, none⟩))].toArray w fun e w' => ∃ (o : Nat) (kv : Value) (G' : Pin), e = .returned (.pointer (some ⟨o, 0, none⟩)) ∧ Bx G' w' o [.pointer (some ⟨b, 0, none⟩), kv] ∧ Own eInt 3 G' w' w.heap.size kv (List.replicate (ns.length * ns.length) 0) ∧ w.heap.size ≤ o ∧ Apart (some o) kv.ownBlock ∧ Ext noS G w G' w' := by
 refine s_enter (n := 18) Try.func33 Try.ntmps33 rfl rfl ?_
 have hX0 : Ext noS G w G w := Ext.refl hP
 have hbx := hB.bx
 have hou := hB.ou
 have hov := hB.ov
 have habu := hB.abu
 have habv := hB.abv
 have hauv := hB.auv
 have hlen := hok.len
 have hlim := hok.lim
 have hsq := sq_bd hok.lim
 refine s_seq (c_reg ?_)
 refine qd rfl rfl rfl (r_assign (v := (.pointer none)) rfl) (qe (s_then (s_seq ?_)))
 have hq1 := Gadd.pins hX0.pins bu
 have hr2 := hou.read
 refine c_draw (S := fun wz => BxR wz b [bu, bv] ∧ Pins (Gadd G w bu) wz) (last := 16) (by kernel_rfl) rfl ?_
 have hl3 : Below w.heap.size w w.drew := (Below.refl _ _).drew
 have hp4 := hX0.pins.below hl3
 have hX5 := hX0.step hp4 hl3
 have hb8 := hbx.below hl3
 have hq9 := hq1.below hl3
 refine dr_take (i := 0) rfl rfl rfl (want_none rfl _) (by kernel_rfl) (fun _ _ => r_move (v := (.pointer (some ⟨b, 0, none⟩))) rfl) ⟨hb8.reads, hq9⟩ (dr_take (i := 1) rfl rfl rfl (want_none rfl _) (by kernel_rfl) (fun _ _ => r_move (v := (.pointer (some ⟨b, 0, none⟩))) rfl) ⟨hb8.reads, hq9⟩ (dr_take (i := 2) rfl rfl rfl (want_none rfl _) (by kernel_rfl) (fun _ _ => r_nil rfl) ⟨hb8.reads, hq9⟩ (dr_take (i := 3) rfl rfl rfl (want_none rfl _) (by kernel_rfl) (fun _ _ => r_fldp (k := 0) rfl Try.underlying65 rfl nz31 rfl) ⟨hb8.reads, hq9⟩ (dr_take (i := 4) rfl rfl rfl (want_none rfl _) (by kernel_rfl) (fun _ hS => r_ldp1 (u := bu) ag31 rfl (hS.1 0 _ rfl)) ⟨hb8.reads, hq9⟩ (dr_take (i := 5) rfl rfl rfl (want_none rfl _) (by kernel_rfl) (fun _ _ => run_len Try.underlying31 (v := bu) rfl hr2) ⟨hb8.reads, hq9⟩ (dr_take (i := 6) rfl rfl rfl (want_none rfl _) (by kernel_rfl) (fun _ _ => r_move (v := (.pointer (some ⟨b, 0, none⟩))) rfl) ⟨hb8.reads, hq9⟩ (dr_take (i := 7) rfl rfl rfl (want_none rfl _) (by kernel_rfl) (fun _ _ => r_nil rfl) ⟨hb8.reads, hq9⟩ (dr_take (i := 8) rfl rfl rfl (want_none rfl _) (by kernel_rfl) (fun _ _ => r_fldp (k := 0) rfl Try.underlying65 rfl nz31 rfl) ⟨hb8.reads, hq9⟩ (dr_take (i := 9) rfl rfl rfl (want_none rfl _) (by kernel_rfl) (fun _ hS => r_ldp1 (u := bu) ag31 rfl (hS.1 0 _ rfl)) ⟨hb8.reads, hq9⟩ (dr_take (i := 10) rfl rfl rfl (want_none rfl _) (by kernel_rfl) (fun _ _ => run_len Try.underlying31 (v := bu) rfl hr2) ⟨hb8.reads, hq9⟩ (dr_take (i := 11) rfl rfl rfl (want_none rfl _) (by kernel_rfl) (fun _ _ => r_mul rfl rfl (by omega)) ⟨hb8.reads, hq9⟩ (dr_one (i := 12) (by kernel_rfl) (drOp1 (i := 12) rfl rfl rfl (want_none rfl _) (o_make (E := eInt) 0 8 (.int .i64 0) Try.underlying47 mk3 (fun _ => rfl) rfl rfl hX5.pins (by omega) (by omega) (by omega) (fun u10 w11 ho12 hp13 hl14 hk15 => ?_)))))))))))))))
 have hX16 := hX5.step hp13 hl14
 have hb19 := hb8.below hl14
 have ho23 : Own eInt 3 G w11 w.heap.size u10 (List.replicate ((ns.length : Int) * (ns.length : Int)).toNat 0) := ho12.weaken hX5.size
 have hm24 : (List.replicate ((ns.length : Int) * (ns.length : Int)).toNat 0).length = ((ns.length : Int) * (ns.length : Int)).toNat := List.length_replicate ..
 have hq25 := hq9.below hl14
 refine ⟨fun _ => ⟨hb19.reads, hq25⟩, ?_⟩
 refine dr_take (i := 13) rfl rfl rfl (want_none rfl _) (by kernel_rfl) (fun _ _ => r_build [(.pointer none), (.slice none 0 0)] [(.pointer (some ⟨b, 0, none⟩)), u10] [(0, (.pointer (some ⟨b, 0, none⟩)), [(.pointer (some ⟨b, 0, none⟩))]), (1, u10, [u10])] Try.underlying94 zr94 rfl pl94 rfl (List.forall_mem_cons.2 ⟨rfl, (List.forall_mem_cons.2 ⟨(cells_one ho23.one), (fun _ h => by cases h)⟩)⟩) rfl) ⟨hb19.reads, hq25⟩ (dr_one (i := 14) (by kernel_rfl) (drOp1 (i := 14) rfl rfl rfl (want_none rfl _) (o_box [(.pointer (some ⟨b, 0, none⟩)), u10] (v := (.agg [(.pointer (some ⟨b, 0, none⟩)), u10].toArray)) rfl rfl hX16.pins (fun b26 w27 hk28 hb29 hp30 hl31 => ?_))))
 have hX32 := hX16.step hp30 hl31
 have ho35 := ho23.below hl31
 have hb36 := hb19.below hl31
 have ha39 : Apart (some b26) u10.ownBlock := new_ne_own (congrArg some hk28) ho23.lt
 have hlo41 : w.heap.size ≤ b26 := by have := hX16.size; omega
 have hq42 := hq25.below hl31
 refine ⟨fun _ => ⟨hb36.reads, hq42⟩, ?_⟩
 refine dr_take (i := 15) rfl rfl rfl (want_none rfl _) (by kernel_rfl) (fun _ _ => r_assign (v := (.pointer (some ⟨b26, 0, none⟩))) rfl) ⟨hb36.reads, hq42⟩ (dr_end (by kernel_rfl) (s_then (wp_ret (s_ret (c_ret1 (v := (.pointer (some ⟨b26, 0, none⟩))) rfl rfl rfl ?_)))))
 have hrow := ho35
 rw [sq_nat] at hrow
 exact ⟨_, _, _, rfl, hb29, hrow, hlo41, ha39, hX32⟩

theorem l4Geq_spec {w : World} {G : Pin} {u v : Value} {ax bs : List Nd} (hP : Pins G w) (hu : RSl eNode G u ax) (hv : RSl eNode G v bs) (ha : FormOk ax ∧ 1 ≤ ax.length) (hb : FormOk bs ∧ 1 ≤ bs.length) (hl : ax.length + bs.length ≤ 1048576) :
  Calls Try.prog 15 [(.agg [u].toArray), (.agg [v].toArray)].toArray w fun e w' => ∃ G', e = .returned (.bool (decP (geG (gOf ax) (gOf bs)))) ∧ Ext noS G w G' w' := by
 refine s_enter (n := 21) Try.func15 Try.ntmps15 rfl rfl ?_
 have hX0 : Ext noS G w G w := Ext.refl hP
 have h0 := addM_all book_empty ha.1 (by simp; omega)
 have hlen := h0.hi
 simp only [List.length_nil, Nat.zero_add] at hlen
 have h1 := addM_all h0.book hb.1 (by omega)
 have hl0 := root_lt h0 ha.2
 have hl1 := root_lt h1 hb.2
 have hlo1 := h1.lo
 have hge := ge_roots ha hb hl _ _ rfl rfl
 refine s_seq (c_reg ?_)
 refine q1 rfl rfl rfl (o_box [u] (v := (.agg [u].toArray)) rfl rfl hX0.pins (fun b1 w2 hk3 hb4 hp5 hl6 => ?_))
 have hX7 := hX0.step hp5 hl6
 have hlo8 : w.heap.size ≤ b1 := by have := hX0.size; omega
 obtain ⟨G9, hle10, hX11, hbp12, hf13⟩ := hb4.shut hX7 hlo8
 refine q1 rfl rfl rfl (o_box [v] (v := (.agg [v].toArray)) rfl rfl hX11.pins (fun b14 w15 hk16 hb17 hp18 hl19 => ?_))
 have hX20 := hX11.step hp18 hl19
 have hlo21 : w.heap.size ≤ b14 := by have := hX11.size; omega
 obtain ⟨G22, hle23, hX24, hbp25, hf26⟩ := hb17.shut hX20 hlo21
 refine qd rfl rfl rfl (r_assign (v := (.bool false)) rfl) (qe (s_then (s_seq (c_reg ?_))))
 refine qd rfl rfl rfl (r_build [(.slice none 0 0), (.slice none 0 0)] [(.slice none 0 0), (.slice none 0 0)] [] Try.underlying65 zr65 rfl pl65 rfl (fun _ h => by cases h) rfl) (q1 rfl rfl rfl (o_box [(.slice none 0 0), (.slice none 0 0)] (v := (.agg [(.slice none 0 0), (.slice none 0 0)].toArray)) rfl rfl hX24.pins (fun b27 w28 hk29 hb30 hp31 hl32 => ?_)))
 have hX33 := hX24.step hp31 hl32
 have hlo34 : w.heap.size ≤ b27 := by have := hX24.size; omega
 refine qd rfl rfl rfl (r_assign (v := (.pointer (some ⟨b27, 0, none⟩))) rfl) (qe (s_then (s_seq (c_reg ?_))))
 refine qd rfl rfl rfl (r_move (v := (.pointer (some ⟨b27, 0, none⟩))) rfl) (qd rfl rfl rfl (r_ldpA (cs := [u]) ag33 sz33 rfl (fun j u hj => (Pins.of_le hX33.pins hle23) _ _ _ (hbp12 _ _ (by simpa using hj)))) (q1 rfl rfl rfl (o_call (vs := [(.pointer (some ⟨b27, 0, none⟩)), (.agg [u].toArray)]) Try.func32 nm32 rfl rfl rfl ?_)))
 refine Calls.mono (root_spec hX33.pins ⟨hb30, (Own.nil _ _ _ _ _), (Own.nil _ _ _ _ _), apart_none.symm, apart_none.symm, apart_none⟩ book_empty (hu.mono (Pin.le_trans hle10 hle23)) ha (by first | omega | (simp; omega))) ?_
 rintro _ w38 ⟨u35, v36, G37, rfl, hbk39, hx40, hlu41, hlv42⟩
 refine ⟨_, rfl, ?_⟩
 have hin45 : ∀ i, inS b27 (.slice none 0 0) (.slice none 0 0) i → w.heap.size ≤ i ∨ noS i := inS_lo (lo_box hlo34) (lo_none _ _) (lo_none _ _)
 have hX46 := hX33.trans hx40 hin45
 have hb47 := hbk39.bx
 have ho48 := hbk39.ou
 have ho49 := hbk39.ov
 have ha50 := hbk39.abu
 have ha51 := hbk39.abv
 have ha52 := hbk39.auv
 have hlo53 := lo_call hlu41 hin45 hX33.size
 have hlo54 := lo_call hlv42 hin45 hX33.size
 refine qd rfl rfl rfl (r_assign (v := (.int .i64 (rootM ([]) ([]) ax))) rfl) (qe (s_then (s_seq (c_reg ?_))))
 refine qd rfl rfl rfl (r_move (v := (.pointer (some ⟨b27, 0, none⟩))) rfl) (qd rfl rfl rfl (r_ldpA (cs := [v]) ag33 sz33 rfl (fun j u hj => (Pins.of_le hX46.pins hx40.le) _ _ _ (hbp25 _ _ (by simpa using hj)))) (q1 rfl rfl rfl (o_call (vs := [(.pointer (some ⟨b27, 0, none⟩)), (.agg [v].toArray)]) Try.func32 nm32 rfl rfl rfl ?_)))
 refine Calls.mono (root_spec hX46.pins ⟨hb47, ho48, ho49, ha50, ha51, ha52⟩ h0.book (hv.mono (Pin.le_trans (Pin.le_trans hle10 hle23) hx40.le)) hb (by first | omega | (simp; omega))) ?_
 rintro _ w58 ⟨u55, v56, G57, rfl, hbk59, hx60, hlu61, hlv62⟩
 refine ⟨_, rfl, ?_⟩
 have hin65 : ∀ i, inS b27 u35 v36 i → w.heap.size ≤ i ∨ noS i := inS_lo (lo_box hlo34) hlo53 hlo54
 have hX66 := hX46.trans hx60 hin65
 have hb67 := hbk59.bx
 have ho68 := hbk59.ou
 have ho69 := hbk59.ov
 have ha70 := hbk59.abu
 have ha71 := hbk59.abv
 have ha72 := hbk59.auv
 have hlo73 := lo_call hlu61 hin65 hX46.size
 have hlo74 := lo_call hlv62 hin65 hX46.size
 refine qd rfl rfl rfl (r_assign (v := (.int .i64 (rootM ((addM ([]) ([]) ax).2.1) ((addM ([]) ([]) ax).2.2) bs))) rfl) (qe (s_then (s_seq (c_reg ?_))))
 refine qd rfl rfl rfl (r_move (v := (.pointer (some ⟨b27, 0, none⟩))) rfl) (q1 rfl rfl rfl (o_call (vs := [(.pointer (some ⟨b27, 0, none⟩))]) Try.func33 nm33 rfl rfl rfl ?_))
 refine Calls.mono (l4Of_spec hX66.pins ⟨hb67, ho68, ho69, ha70, ha71, ha72⟩ h1.book) ?_
 rintro _ w78 ⟨b75, u76, G77, rfl, hb79, ho80, hlo81, ha82, hx83⟩
 refine ⟨_, rfl, ?_⟩
 have hX84 := hX66.tr hx83
 have ho85 := ho68.ext hx83
 have ho86 := ho69.ext hx83
 have hb87 := hb67.ext hx83
 have ha88 : Apart u76.ownBlock u55.ownBlock := made_ne_own ho80.lt ho68.lt
 have ha90 : Apart u76.ownBlock v56.ownBlock := made_ne_own ho80.lt ho69.lt
 have ha92 : Apart u76.ownBlock (some b27) := made_ne_box ho80.lt hb67.lt
 have hlo94 := Nat.le_trans hX66.size hlo81
 have ho95 := ho80.weaken hX66.size
 refine qd rfl rfl rfl (r_move (v := (.int .i64 (rootM ([]) ([]) ax))) rfl) (qd rfl rfl rfl (r_move (v := (.int .i64 (rootM ((addM ([]) ([]) ax).2.1) ((addM ([]) ([]) ax).2.2) bs))) rfl) (q1 rfl rfl rfl (o_call (vs := [(.pointer (some ⟨b75, 0, none⟩)), (.int .i64 (rootM ([]) ([]) ax)), (.int .i64 (rootM ((addM ([]) ([]) ax).2.1) ((addM ([]) ([]) ax).2.2) bs))]) Try.func34 nm34 rfl rfl rfl ?_)))
 refine Calls.mono (geq_spec hX84.pins ⟨⟨hb87, ho85, ho86, ha70, ha71, ha72⟩, hb79, (ho95.weaken (Nat.zero_le _)), ha82, ha92.symm, ha88.symm, ha90.symm⟩ ⟨hl0.1, by omega⟩ hl1 (by simp) h1.book KOk.zero) ?_
 rintro _ w98 ⟨ks96, G97, rfl, hd99, hr100, hx101⟩
 refine ⟨_, rfl, ?_⟩
 have hX102 := hX84.trans hx101 (fun i hi => (lo_own ho95) i hi)
 have hkl108 := hr100.len
 refine qd rfl rfl rfl (r_assign (v := (.bool (geB ((addM ((addM ([]) ([]) ax).2.1) ((addM ([]) ([]) ax).2.2) bs).2.1) (rootM ([]) ([]) ax) (rootM ((addM ([]) ([]) ax).2.1) ((addM ([]) ([]) ax).2.2) bs)))) rfl) (qe (s_then ?_))
 exact wp_ret (s_ret (c_ret1 (v := (.bool (geB ((addM ((addM ([]) ([]) ax).2.1) ((addM ([]) ([]) ax).2.2) bs).2.1) (rootM ([]) ([]) ax) (rootM ((addM ([]) ([]) ax).2.1) ((addM ([]) ([]) ax).2.2) bs)))) rfl rfl rfl (⟨_, congrArg (fun z => Ending.returned (Value.bool z)) hge.1, hX102⟩)))

end SF1
end Go.Proofs.Ytdleojbknkbpiaa

set_option maxRecDepth 20000
set_option maxHeartbeats 2000000
namespace Go.Proofs.Ytdleojbknkbpiaa
namespace PF3
open Go.RowKit Go.GL Go.Proofs
open B1 C1 D1 E1 OR1 SF1 P1 PF2









theorem pl65 : (Try.prog.underlying 65).bind (placesD Try.prog) = some [(0, 1), (1, 1)] := by kernel_rfl





theorem l15True_spec {w : World} {G : Pin} {u v : Value} {ns bs : List Nd} (hP : Pins G w) (hu : RSl eNode G u ns) (hv : RSl eNode G v bs) (hga : GoodP ns) (hgb : GoodP bs) :
  Calls Try.prog 17 [(.agg [u].toArray), (.agg [v].toArray)].toArray w fun e w' => ∃ (r : Value) (G' : Pin), e = .returned r ∧ RSl eClaim G' r (fullL ns bs) ∧ Ext noS G w G' w' := by
 refine s_enter (n := 57) Try.func17 Try.ntmps17 rfl rfl ?_
 have hX0 : Ext noS G w G w := Ext.refl hP
 have hmu := hu.max
 have hmv := hv.max
 have hla := hga.lo
 have hlb := hgb.lo
 have hha := hga.hi
 have hhb := hgb.hi
 have hpb := pair_book (good_form hga) (good_form hgb) (by omega)
 have e1 := hpb.ok1.len
 have e2 := hpb.ok2.len
 have e3 := hpb.ok1.hi
 simp only [List.length_nil, Nat.zero_add] at e3
 refine s_seq (c_reg ?_)
 refine q1 rfl rfl rfl (o_box [u] (v := (.agg [u].toArray)) rfl rfl hX0.pins (fun b1 w2 hk3 hb4 hp5 hl6 => ?_))
 have hX7 := hX0.step hp5 hl6
 have hlo8 : w.heap.size ≤ b1 := by have := hX0.size; omega
 obtain ⟨G9, hle10, hX11, hbp12, hf13⟩ := hb4.shut hX7 hlo8
 refine q1 rfl rfl rfl (o_box [v] (v := (.agg [v].toArray)) rfl rfl hX11.pins (fun b14 w15 hk16 hb17 hp18 hl19 => ?_))
 have hX20 := hX11.step hp18 hl19
 have hlo21 : w.heap.size ≤ b14 := by have := hX11.size; omega
 obtain ⟨G22, hle23, hX24, hbp25, hf26⟩ := hb17.shut hX20 hlo21
 refine qd rfl rfl rfl (r_assign (v := (.slice none 0 0)) rfl) (qe (s_then (s_seq (c_reg ?_))))
 refine qd rfl rfl rfl (r_build [(.slice none 0 0), (.slice none 0 0)] [(.slice none 0 0), (.slice none 0 0)] [] Try.underlying65 zr65 rfl pl65 rfl (fun _ h => by cases h) rfl) (q1 rfl rfl rfl (o_box [(.slice none 0 0), (.slice none 0 0)] (v := (.agg [(.slice none 0 0), (.slice none 0 0)].toArray)) rfl rfl hX24.pins (fun b27 w28 hk29 hb30 hp31 hl32 => ?_)))
 have hX33 := hX24.step hp31 hl32
 have hlo34 : w.heap.size ≤ b27 := by have := hX24.size; omega
 refine qd rfl rfl rfl (r_assign (v := (.pointer (some ⟨b27, 0, none⟩))) rfl) (qe (s_then (s_seq ?_)))
 refine c_draw (S := fun wz => Pins G22 wz) (last := 8) (by kernel_rfl) rfl ?_
 have hl35 : Below w28.heap.size w28 w28.drew := (Below.refl _ _).drew
 have hp36 := hX33.pins.below hl35
 have hX37 := hX33.step hp36 hl35
 have hb38 := hb30.below hl35
 refine dr_take (i := 0) rfl rfl rfl (want_none rfl _) (by kernel_rfl) (fun _ _ => r_move (v := (.pointer (some ⟨b27, 0, none⟩))) rfl) hX37.pins (dr_take (i := 1) rfl rfl rfl (want_none rfl _) (by kernel_rfl) (fun _ hS => r_ldpA (cs := [u]) ag33 sz33 rfl (fun j u hj => (Pins.of_le hS hle23) _ _ _ (hbp12 _ _ (by simpa using hj)))) hX37.pins (dr_take (i := 3) rfl rfl rfl (want_none rfl _) (by kernel_rfl) (fun _ _ => r_move (v := (.pointer (some ⟨b27, 0, none⟩))) rfl) hX37.pins (dr_take (i := 4) rfl rfl rfl (want_none rfl _) (by kernel_rfl) (fun _ hS => r_ldpA (cs := [v]) ag33 sz33 rfl (fun j u hj => hS _ _ _ (hbp25 _ _ (by simpa using hj)))) hX37.pins (dr_one (i := 2) (by kernel_rfl) (drOp1 (i := 2) rfl rfl rfl (want_none rfl _) (o_call (vs := [(.pointer (some ⟨b27, 0, none⟩)), (.agg [u].toArray)]) Try.func36 nm36 rfl rfl rfl ?_))))))
 refine Calls.mono (add_spec hX37.pins ⟨hb38, (Own.nil _ _ _ _ _), (Own.nil _ _ _ _ _), apart_none.symm, apart_none.symm, apart_none⟩ book_empty (hu.mono (Pin.le_trans hle10 hle23)) (good_form hga) (by first | omega | (simp; omega))) ?_
 rintro _ w42 ⟨u47, u39, v40, G41, rfl, hr48, hbk43, hx44, hlu45, hlv46⟩
 refine ⟨_, rfl, ?_⟩
 have hin49 : ∀ i, inS b27 (.slice none 0 0) (.slice none 0 0) i → w.heap.size ≤ i ∨ noS i := inS_lo (lo_box hlo34) (lo_none _ _) (lo_none _ _)
 have hX50 := hX37.trans hx44 hin49
 have hb51 := hbk43.bx
 have ho52 := hbk43.ou
 have ho53 := hbk43.ov
 have ha54 := hbk43.abu
 have ha55 := hbk43.abv
 have ha56 := hbk43.auv
 have hlo57 := lo_call hlu45 hin49 hX37.size
 have hlo58 := lo_call hlv46 hin49 hX37.size
 refine ⟨fun _ => (Pins.of_le hX50.pins hx44.le), ?_⟩
 refine dr_one (i := 5) (by kernel_rfl) (drOp1 (i := 5) rfl rfl rfl (want_none rfl _) (o_call (vs := [(.pointer (some ⟨b27, 0, none⟩)), (.agg [v].toArray)]) Try.func36 nm36 rfl rfl rfl ?_))
 refine Calls.mono (add_spec hX50.pins ⟨hb51, ho52, ho53, ha54, ha55, ha56⟩ hpb.ok1.book (hv.mono (Pin.le_trans (Pin.le_trans hle10 hle23) hx44.le)) (good_form hgb) (by first | omega | (simp; omega))) ?_
 rintro _ w62 ⟨u67, u59, v60, G61, rfl, hr68, hbk63, hx64, hlu65, hlv66⟩
 refine ⟨_, rfl, ?_⟩
 have hin69 : ∀ i, inS b27 u39 v40 i → w.heap.size ≤ i ∨ noS i := inS_lo (lo_box hlo34) hlo57 hlo58
 have hX70 := hX50.trans hx64 hin69
 have hb71 := hbk63.bx
 have ho72 := hbk63.ou
 have ho73 := hbk63.ov
 have ha74 := hbk63.abu
 have ha75 := hbk63.abv
 have ha76 := hbk63.auv
 have hlo77 := lo_call hlu65 hin69 hX50.size
 have hlo78 := lo_call hlv66 hin69 hX50.size
 refine ⟨fun _ => (Pins.of_le hX70.pins (Pin.le_trans hx44.le hx64.le)), ?_⟩
 refine dr_take (i := 6) rfl rfl rfl (want_none rfl _) (by kernel_rfl) (fun _ _ => r_assign (v := u47) rfl) (Pins.of_le hX70.pins (Pin.le_trans hx44.le hx64.le)) (dr_take (i := 7) rfl rfl rfl (want_none rfl _) (by kernel_rfl) (fun _ _ => r_assign (v := u67) rfl) (Pins.of_le hX70.pins (Pin.le_trans hx44.le hx64.le)) (dr_end (by kernel_rfl) (s_then (s_seq (c_reg ?_)))))
 refine qd rfl rfl rfl (r_move (v := (.pointer (some ⟨b27, 0, none⟩))) rfl) (q1 rfl rfl rfl (o_call (vs := [(.pointer (some ⟨b27, 0, none⟩))]) Try.func33 nm33 rfl rfl rfl ?_))
 refine Calls.mono (l4Of_spec hX70.pins ⟨hb71, ho72, ho73, ha74, ha75, ha76⟩ hpb.ok2.book) ?_
 rintro _ w82 ⟨b79, u80, G81, rfl, hb83, ho84, hlo85, ha86, hx87⟩
 refine ⟨_, rfl, ?_⟩
 have hX88 := hX70.tr hx87
 have ho89 := ho72.ext hx87
 have ho90 := ho73.ext hx87
 have hb91 := hb71.ext hx87
 have ha92 : Apart u80.ownBlock u59.ownBlock := made_ne_own ho84.lt ho72.lt
 have ha94 : Apart u80.ownBlock v60.ownBlock := made_ne_own ho84.lt ho73.lt
 have ha96 : Apart u80.ownBlock (some b27) := made_ne_box ho84.lt hb71.lt
 have hlo98 := Nat.le_trans hX70.size hlo85
 have ho99 := ho84.weaken hX70.size
 refine qd rfl rfl rfl (r_assign (v := (.pointer (some ⟨b79, 0, none⟩))) rfl) (qe (s_then (s_seq (c_reg ?_))))
 refine q1 rfl rfl rfl (o_build0 (E := eClaim) (e := 49) Try.underlying26 sz49 hX88.pins (fun u100 w101 ho102 hp103 hl104 hk105 => ?_))
 have hX106 := hX88.step hp103 hl104
 have ho107 := ho89.below hl104
 have ho108 := ho90.below hl104
 have ho109 := ho99.below hl104
 have hb110 := hb91.below hl104
 have hb111 := hb83.below hl104
 have ha112 : Apart u100.ownBlock u59.ownBlock := new_ne_own hk105 ho89.lt
 have ha113 : Apart u100.ownBlock v60.ownBlock := new_ne_own hk105 ho90.lt
 have ha114 : Apart u100.ownBlock u80.ownBlock := new_ne_own hk105 ho99.lt
 have ha115 : Apart u100.ownBlock (some b27) := new_ne_box hk105 hb91.lt
 have ha116 : Apart u100.ownBlock (some b79) := new_ne_box hk105 hb83.lt
 have ho117 : Own eClaim 49 G81 w101 w.heap.size u100 ([]) := ho102.weaken hX88.size
 refine qd rfl rfl rfl (r_assign (v := u100) rfl) (qe (s_then (s_seq (s_seq (c_reg ?_)))))
 refine qd rfl rfl rfl (r_assign (v := (.int .i64 0)) rfl) (qe (s_then ?_))
 refine s_blk ?_
 have hlok : Lo w noS u80.ownBlock := (lo_own ho109)
 refine s_loop (fun (k : Nat) (en : Nat → Value) (W : World) => ∃ (env1 : Nat → Value) (i : Nat) (ov : Value) (os : List Cl) (kq : List Int) (GL1 : Pin), en = (upd (upd (upd (upd (upd (upd (upd (upd env1 2 (.pointer (some ⟨b1, 0, none⟩))) 3 (.pointer (some ⟨b14, 0, none⟩))) 4 (.slice none 0 0)) 6 u47) 7 u67) 8 (.pointer (some ⟨b79, 0, none⟩))) 9 ov) 10 (.int .i64 (i : Int))) ∧ k = ns.length - i ∧ Ext noS G w GL1 W ∧ Pin.le G81 GL1 ∧ (i ≤ ns.length) ∧ (os = rowL ns bs i) ∧ (KAll _ kq) ∧ (Own eClaim 49 GL1 W w.heap.size ov (os)) ∧ (Own eInt 3 GL1 W 0 u80 (kq)) ∧ (Own eNode 62 GL1 W 0 u59 ((addM ((addM ([]) ([]) ns).2.1) ((addM ([]) ([]) ns).2.2) bs).2.1)) ∧ (Own eInt 3 GL1 W 0 v60 ((addM ((addM ([]) ([]) ns).2.1) ((addM ([]) ([]) ns).2.2) bs).2.2)) ∧ (Bx GL1 W b27 [u59, v60]) ∧ (Bx GL1 W b79 [(.pointer (some ⟨b27, 0, none⟩)), u80]) ∧ (Apart ov.ownBlock u80.ownBlock) ∧ (Apart ov.ownBlock u59.ownBlock) ∧ (Apart ov.ownBlock v60.ownBlock) ∧ (Apart ov.ownBlock (some b27)) ∧ (Apart ov.ownBlock (some b79))) _ ⟨_, 0, u100, [], List.replicate (((addM ((addM ([]) ([]) ns).2.1) ((addM ([]) ([]) ns).2.2) bs).2.1).length * ((addM ((addM ([]) ([]) ns).2.1) ((addM ([]) ([]) ns).2.2) bs).2.1).length) 0, G81, (packS (x := 10) (packS (x := 9) (packS (x := 8) (packS (x := 7) (packS (x := 6) (packS (x := 4) (packS (x := 3) (pack1 (x := 2) rfl) rfl) rfl) rfl) rfl) rfl) rfl) rfl), rfl, hX106, Pin.le_refl _, Nat.zero_le _, rfl, KAll.zero, ho117, (ho109.weaken (Nat.zero_le _)), ho107, ho108, hb110, hb111, ha114, ha112, ha113, ha115, ha116⟩ ?_
 rintro k118 _ w119 ⟨env1, i, ov, os, kq, GL1, rfl, hk120, hX121, hlek118, hi, hos, hka1, hw122, hw123, hw124, hw125, hw126, hw127, ha128, ha129, ha130, ha131, ha132⟩
 refine s_seq (s_seq (c_reg ?_))
 refine qd rfl rfl rfl (r_move (v := (.int .i64 (i : Int))) rfl) (qd rfl rfl rfl (r_fldp (k := 0) rfl Try.underlying33 rfl nz31 rfl) (qd rfl rfl rfl (r_ldp1 (u := u) ag31 rfl ((Pins.of_le hX121.pins (Pin.le_trans (Pin.le_trans (Pin.le_trans (Pin.le_trans hle23 hx44.le) hx64.le) hx87.le) hlek118)) _ _ _ (hbp12 0 _ rfl))) (qd rfl rfl rfl (run_len Try.underlying31 (v := u) rfl hu) (qd rfl rfl rfl (r_lss rfl rfl) (qe (s_then ?_))))))
 refine c_ifd (p := ((i : Int) : Int) < (ns.length : Int)) rfl rfl (fun h133 => ?_) (fun h133 => ?_)
 refine wp_skip (s_then (s_seq ?_))
 refine s_blk (s_seq (c_reg ?_))
 refine qd rfl rfl rfl (r_assign (v := (.int .i64 0)) rfl) (qe (s_then ?_))
 refine s_blk (s_loop (fun (k : Nat) (en : Nat → Value) (W : World) => ∃ (env1 : Nat → Value) (j : Nat) (ov2 : Value) (os2 : List Cl) (kq2 : List Int) (GL2 : Pin), en = (upd (upd (upd (upd (upd (upd (upd (upd (upd env1 2 (.pointer (some ⟨b1, 0, none⟩))) 3 (.pointer (some ⟨b14, 0, none⟩))) 4 (.slice none 0 0)) 6 u47) 7 u67) 8 (.pointer (some ⟨b79, 0, none⟩))) 9 ov2) 10 (.int .i64 (i : Int))) 11 (.int .i64 (j : Int))) ∧ k = bs.length - j ∧ Ext noS G w GL2 W ∧ Pin.le GL1 GL2 ∧ (j ≤ bs.length) ∧ (os2 = colL ns bs (rowL ns bs i) i j) ∧ (KAll _ kq2) ∧ (Own eClaim 49 GL2 W w.heap.size ov2 (os2)) ∧ (Own eInt 3 GL2 W 0 u80 (kq2)) ∧ (Own eNode 62 GL2 W 0 u59 ((addM ((addM ([]) ([]) ns).2.1) ((addM ([]) ([]) ns).2.2) bs).2.1)) ∧ (Own eInt 3 GL2 W 0 v60 ((addM ((addM ([]) ([]) ns).2.1) ((addM ([]) ([]) ns).2.2) bs).2.2)) ∧ (Bx GL2 W b27 [u59, v60]) ∧ (Bx GL2 W b79 [(.pointer (some ⟨b27, 0, none⟩)), u80]) ∧ (Apart ov2.ownBlock u80.ownBlock) ∧ (Apart ov2.ownBlock u59.ownBlock) ∧ (Apart ov2.ownBlock v60.ownBlock) ∧ (Apart ov2.ownBlock (some b27)) ∧ (Apart ov2.ownBlock (some b79))) _ ⟨_, 0, ov, os, kq, GL1, (packS (x := 11) (packS (x := 10) (packS (x := 9) (packS (x := 8) (packS (x := 7) (packS (x := 6) (packS (x := 4) (packS (x := 3) (pack1 (x := 2) rfl) rfl) rfl) rfl) rfl) rfl) rfl) rfl) rfl), rfl, hX121, Pin.le_refl _, Nat.zero_le _, hos, hka1, hw122, hw123, hw124, hw125, hw126, hw127, ha128, ha129, ha130, ha131, ha132⟩ ?_)
 rintro k134 _ w135 ⟨env1, j, ov2, os2, kq2, GL2, rfl, hk136, hX137, hlek134, hj, hos2, hka2, hw138, hw139, hw140, hw141, hw142, hw143, ha144, ha145, ha146, ha147, ha148⟩
 refine s_seq (s_seq (c_reg ?_))
 refine qd rfl rfl rfl (r_move (v := (.int .i64 (j : Int))) rfl) (qd rfl rfl rfl (r_fldp (k := 0) rfl Try.underlying33 rfl nz31 rfl) (qd rfl rfl rfl (r_ldp1 (u := v) ag31 rfl ((Pins.of_le hX137.pins (Pin.le_trans (Pin.le_trans (Pin.le_trans (Pin.le_trans hx44.le hx64.le) hx87.le) hlek118) hlek134)) _ _ _ (hbp25 0 _ rfl))) (qd rfl rfl rfl (run_len Try.underlying31 (v := v) rfl hv) (qd rfl rfl rfl (r_lss rfl rfl) (qe (s_then ?_))))))
 refine c_ifd (p := ((j : Int) : Int) < (bs.length : Int)) rfl rfl (fun h149 => ?_) (fun h149 => ?_)
 have hT := trueAt hga.optsOk hgb.optsOk (x := i) (k := j) (by omega) (by omega)
 have hcb := col_bound hga.hi hgb.hi (x := i) (k := j) (by omega) (by omega)
 rw [← hos2] at hT hcb
 refine wp_skip (s_then (s_seq ?_))
 refine s_blk (s_seq (c_draw (S := fun wz => Pins GL2 wz) (last := 10) (by kernel_rfl) rfl ?_))
 have hl150 : Below w135.heap.size w135 w135.drew := (Below.refl _ _).drew
 have hp151 := hX137.pins.below hl150
 have hX152 := hX137.step hp151 hl150
 have ho153 := hw138.below hl150
 have ho154 := hw139.below hl150
 have ho155 := hw140.below hl150
 have ho156 := hw141.below hl150
 have hb157 := hw142.below hl150
 have hb158 := hw143.below hl150
 refine dr_take (i := 0) rfl rfl rfl (want_none rfl _) (by kernel_rfl) (fun _ _ => r_move (v := (.pointer (some ⟨b79, 0, none⟩))) rfl) hX152.pins (dr_take (i := 1) rfl rfl rfl (want_none rfl _) (by kernel_rfl) (fun _ _ => r_move (v := u47) rfl) hX152.pins (dr_take (i := 2) rfl rfl rfl (want_none rfl _) (by kernel_rfl) (fun _ _ => r_move (v := (.int .i64 (i : Int))) rfl) hX152.pins (dr_take (i := 3) rfl rfl rfl (want_none rfl _) (by kernel_rfl) (fun _ _ => run_idx Try.underlying47 sz3 (v := u47) rfl rfl hr48 (by omega) (by omega)) hX152.pins (dr_take (i := 4) rfl rfl rfl (want_none rfl _) (by kernel_rfl) (fun _ hS => run_load_int (r := ((addM ([]) ([]) ns).1).getD i 0) rfl ag3 (z := (i : Int)) rfl hr48 (Pins.of_le hS (Pin.le_trans (Pin.le_trans (Pin.le_trans hx64.le hx87.le) hlek118) hlek134)) (by omega) (by omega)) hX152.pins (dr_take (i := 5) rfl rfl rfl (want_none rfl _) (by kernel_rfl) (fun _ _ => r_move (v := u67) rfl) hX152.pins (dr_take (i := 6) rfl rfl rfl (want_none rfl _) (by kernel_rfl) (fun _ _ => r_move (v := (.int .i64 (j : Int))) rfl) hX152.pins (dr_take (i := 7) rfl rfl rfl (want_none rfl _) (by kernel_rfl) (fun _ _ => run_idx Try.underlying47 sz3 (v := u67) rfl rfl hr68 (by omega) (by omega)) hX152.pins (dr_take (i := 8) rfl rfl rfl (want_none rfl _) (by kernel_rfl) (fun _ hS => run_load_int (r := ((addM ((addM ([]) ([]) ns).2.1) ((addM ([]) ([]) ns).2.2) bs).1).getD j 0) rfl ag3 (z := (j : Int)) rfl hr68 (Pins.of_le hS (Pin.le_trans (Pin.le_trans hx87.le hlek118) hlek134)) (by omega) (by omega)) hX152.pins (dr_one (i := 9) (by kernel_rfl) (drOp1 (i := 9) rfl rfl rfl (want_none rfl _) (o_call (vs := [(.pointer (some ⟨b79, 0, none⟩)), (.int .i64 (((addM ([]) ([]) ns).1).getD i 0)), (.int .i64 (((addM ((addM ([]) ([]) ns).2.1) ((addM ([]) ([]) ns).2.2) bs).1).getD j 0))]) Try.func34 nm34 rfl rfl rfl ?_)))))))))))
 refine Calls.mono (geq_spec hX152.pins ⟨⟨hb157, ho155, ho156, ha74, ha75, ha76⟩, hb158, ho154, ha86, ha96.symm, ha92.symm, ha94.symm⟩ (hpb.p1 _ (by omega)) (hpb.p2 _ (by omega)) hka2.1 hpb.ok2.book (hka2.2 _)) ?_
 rintro _ w161 ⟨ks159, G160, rfl, hd162, hr163, hx164⟩
 refine ⟨_, rfl, ?_⟩
 have hX165 := hX152.trans hx164 (fun i hi => hlok i hi)
 have ho166 := ho153.extS hx164 (notO ha144)
 have ho167 := ho155.extS hx164 (notO ha92.symm)
 have ho168 := ho156.extS hx164 (notO ha94.symm)
 have hb169 := hb157.extS hx164 (notOb ha96.symm)
 have hb170 := hb158.extS hx164 (notOb ha86)
 have hkl172 := hr163.len
 have hka173 := KAll.res hka2 hr163
 refine ⟨fun _ => (Pins.of_le hX165.pins hx164.le), ?_⟩
 refine dr_end (by kernel_rfl) (s_then (c_if rfl rfl (fun h174 => ?_) (fun h174 => ?_)))
 refine c_reg ?_
 have hjp := (hT.just hga.optsOk hgb.optsOk (by omega) (by omega)).2 ((hpb.ge i j (by omega) (by omega)).symm.trans h174)
 refine qd rfl rfl rfl (r_move (v := ov2) rfl) (qd rfl rfl rfl (r_ldpA (cs := [u]) ag33 sz33 rfl (fun j u hj => (Pins.of_le hX165.pins (Pin.le_trans (Pin.le_trans (Pin.le_trans (Pin.le_trans (Pin.le_trans (Pin.le_trans hle23 hx44.le) hx64.le) hx87.le) hlek118) hlek134) hx164.le)) _ _ _ (hbp12 _ _ (by simpa using hj)))) (qd rfl rfl rfl (r_ldpA (cs := [v]) ag33 sz33 rfl (fun j u hj => (Pins.of_le hX165.pins (Pin.le_trans (Pin.le_trans (Pin.le_trans (Pin.le_trans (Pin.le_trans hx44.le hx64.le) hx87.le) hlek118) hlek134) hx164.le)) _ _ _ (hbp25 _ _ (by simpa using hj)))) (qd rfl rfl rfl (r_move (v := ov2) rfl) (qd rfl rfl rfl (r_move (v := (.int .i64 (i : Int))) rfl) (qd rfl rfl rfl (r_move (v := (.int .i64 (j : Int))) rfl) (q1 rfl rfl rfl (o_call (vs := [(.agg [u].toArray), (.agg [v].toArray), ov2, (.int .i64 (i : Int)), (.int .i64 (j : Int))]) Try.func37 nm37 rfl rfl rfl ?_)))))))
 refine Calls.mono (l15Claim_spec (Gadd.pins hX165.pins ov2) ((hu.mono (Pin.le_trans (Pin.le_trans (Pin.le_trans (Pin.le_trans (Pin.le_trans (Pin.le_trans (Pin.le_trans hle10 hle23) hx44.le) hx64.le) hx87.le) hlek118) hlek134) hx164.le)).mono (Gadd.le _ _ _)) ((hv.mono (Pin.le_trans (Pin.le_trans (Pin.le_trans (Pin.le_trans (Pin.le_trans (Pin.le_trans (Pin.le_trans hle10 hle23) hx44.le) hx64.le) hx87.le) hlek118) hlek134) hx164.le)).mono (Gadd.le _ _ _)) ho166.read hga hgb (by omega) (by omega) hjp) ?_
 rintro _ w178 ⟨r175, l176, G177, rfl, ho179, ho180, ha181, hx182⟩
 refine ⟨_, rfl, ?_⟩
 have hx183 := deep_back hX165.pins hx182
 have ho184 := ho179.anti flat_int (Pin.le_trans (Gadd.le G160 w161 ov2) hx182.le)
 have ho185 := ho180.anti flat_int (Pin.le_trans (Gadd.le G160 w161 ov2) hx182.le)
 have hX186 := hX165.step hx183.pins hx183.below
 have ho187 := ho166.below hx183.below
 have ho188 := hd162.ok.below hx183.below
 have ho189 := ho167.below hx183.below
 have ho190 := ho168.below hx183.below
 have hb191 := hb169.below hx183.below
 have hb192 := hb170.below hx183.below
 have ha193 : Apart r175.ownBlock ov2.ownBlock := made_ne_own ho184.lt ho166.lt
 have ha194 : Apart r175.ownBlock u80.ownBlock := made_ne_own ho184.lt hd162.ok.lt
 have ha195 : Apart r175.ownBlock u59.ownBlock := made_ne_own ho184.lt ho167.lt
 have ha196 : Apart r175.ownBlock v60.ownBlock := made_ne_own ho184.lt ho168.lt
 have ha197 : Apart r175.ownBlock (some b27) := made_ne_box ho184.lt hb169.lt
 have ha198 : Apart r175.ownBlock (some b79) := made_ne_box ho184.lt hb170.lt
 have ho199 : Own eInt 3 G160 w178 w.heap.size r175 ((claimOf ns bs os2 i j).r) := ho184.weaken hX165.size
 have ha200 : Apart l176.ownBlock ov2.ownBlock := made_ne_own ho185.lt ho166.lt
 have ha201 : Apart l176.ownBlock u80.ownBlock := made_ne_own ho185.lt hd162.ok.lt
 have ha202 : Apart l176.ownBlock u59.ownBlock := made_ne_own ho185.lt ho167.lt
 have ha203 : Apart l176.ownBlock v60.ownBlock := made_ne_own ho185.lt ho168.lt
 have ha204 : Apart l176.ownBlock (some b27) := made_ne_box ho185.lt hb169.lt
 have ha205 : Apart l176.ownBlock (some b79) := made_ne_box ho185.lt hb170.lt
 have ho206 : Own eInt 3 G160 w178 w.heap.size l176 ((claimOf ns bs os2 i j).l) := ho185.weaken hX165.size
 obtain ⟨G207, hle210, hX209, hr208, hf211⟩ := ho199.sealed hX186
 have ho212 := ho187.moreO hle210 hf211 ha193.symm
 have ho213 := ho188.moreO hle210 hf211 ha194.symm
 have ho214 := ho189.moreO hle210 hf211 ha195.symm
 have ho215 := ho190.moreO hle210 hf211 ha196.symm
 have ho216 := ho206.moreO hle210 hf211 ha181.symm
 have hb217 := hb191.moreO hf211 ha197.symm
 have hb218 := hb192.moreO hf211 ha198.symm
 obtain ⟨G219, hle222, hX221, hr220, hf223⟩ := ho216.sealed hX209
 have ho224 := ho212.moreO hle222 hf223 ha200.symm
 have ho225 := ho213.moreO hle222 hf223 ha201.symm
 have ho226 := ho214.moreO hle222 hf223 ha202.symm
 have ho227 := ho215.moreO hle222 hf223 ha203.symm
 have hb228 := hb217.moreO hf223 ha204.symm
 have hb229 := hb218.moreO hf223 ha205.symm
 refine q1 rfl rfl rfl (o_build1 (E := eClaim) (e := 49) [(.int .i64 ((claimOf ns bs os2 i j).a)), (.int .i64 ((claimOf ns bs os2 i j).b)), r175, l176] (⟨(claimOf ns bs os2 i j).a, (claimOf ns bs os2 i j).b, (claimOf ns bs os2 i j).r, (claimOf ns bs os2 i j).l⟩ : Cl) Try.underlying26 sz49 zr49 ⟨_, _, rfl, (hr208.mono hle222), hr220⟩ rfl (by decide) hX221.pins (fun u230 w231 ho232 hp233 hl234 hk235 => ?_))
 have hX236 := hX221.step hp233 hl234
 have ho237 := ho224.below hl234
 have ho238 := ho225.below hl234
 have ho239 := ho226.below hl234
 have ho240 := ho227.below hl234
 have hb241 := hb228.below hl234
 have hb242 := hb229.below hl234
 have ho249 : Own eClaim 49 G219 w231 w.heap.size u230 ([(⟨(claimOf ns bs os2 i j).a, (claimOf ns bs os2 i j).b, (claimOf ns bs os2 i j).r, (claimOf ns bs os2 i j).l⟩ : Cl)]) := ho232.weaken hX221.size
 refine q1 rfl rfl rfl (o_append (E := eClaim) (v := ov2) (u := u230) 64 Try.underlying26 ap49 (by decide) rfl rfl hX236.pins ho237 ho249.src (by first | omega | (rw [List.nil_append]; omega) | (rw [List.length_nil]; omega) | (rw [List.length_append]; omega) | (simp; done) | (simp; omega) | (simp only [List.length_append, List.length_cons, List.length_nil]; omega)) (by first | omega | (rw [List.nil_append]; omega) | (rw [List.length_nil]; omega) | (rw [List.length_append]; omega) | (simp; done) | (simp; omega) | (simp only [List.length_append, List.length_cons, List.length_nil]; omega)) (hX236.size) (fun u250 w251 ho252 hp253 hg254 hw255 => ?_))
 have hX256 := hX236.write hp253 hg254 ((lo_own ho237))
 have ho257 := ho238.keptA hg254 ha144.symm
 have ho258 := ho239.keptA hg254 ha145.symm
 have ho259 := ho240.keptA hg254 ha146.symm
 have hb261 := hb241.keptA hg254 ha147.symm
 have hb262 := hb242.keptA hg254 ha148.symm
 have ha263 : Apart u80.ownBlock u250.ownBlock := app_ne_own ha144.symm hw255 ho238.lt
 have ha264 : Apart u59.ownBlock u250.ownBlock := app_ne_own ha145.symm hw255 ho239.lt
 have ha265 : Apart v60.ownBlock u250.ownBlock := app_ne_own ha146.symm hw255 ho240.lt
 have ha267 : Apart (some b27) u250.ownBlock := app_ne_box ha147.symm hw255 hb241.lt
 have ha268 : Apart (some b79) u250.ownBlock := app_ne_box ha148.symm hw255 hb242.lt
 have hm269 : (os2 ++ ([(⟨(claimOf ns bs os2 i j).a, (claimOf ns bs os2 i j).b, (claimOf ns bs os2 i j).r, (claimOf ns bs os2 i j).l⟩ : Cl)])).length = os2.length + 1 := List.length_append
 refine qd rfl rfl rfl (r_assign (v := u250) rfl) (qe (s_blkN (s_then (c_reg ?_))))
 refine qd rfl rfl rfl (r_move (v := (.int .i64 (j : Int))) rfl) (qd rfl rfl rfl (r_add rfl rfl (by omega)) (qd rfl rfl rfl (r_assign (v := (.int .i64 ((j : Int) + 1))) rfl) (qe (s_lopN (⟨_, ?_, _, rfl, _, j + 1, u250, os2 ++ ([(⟨(claimOf ns bs os2 i j).a, (claimOf ns bs os2 i j).b, (claimOf ns bs os2 i j).r, (claimOf ns bs os2 i j).l⟩ : Cl)]), ks159, G219, (packS (x := 11) (packS (x := 10) (packS (x := 9) (packS (x := 8) (packS (x := 7) (packS (x := 6) (packS (x := 4) (packS (x := 3) (pack1 (x := 2) rfl) rfl) rfl) rfl) rfl) rfl) rfl) rfl) rfl), rfl, hX256, (Pin.le_trans (Pin.le_trans (Pin.le_trans hlek134 hx164.le) hle210) hle222), (by omega), (next_y hos2 ((hpb.ge i j (by omega) (by omega)).symm.trans h174)), hka173, ho252, ho257, ho258, ho259, hb261, hb262, ha263.symm, ha264.symm, ha265.symm, ha267.symm, ha268.symm⟩)))))
 omega
 refine wp_skip (s_blkN (s_then (c_reg ?_)))
 refine qd rfl rfl rfl (r_move (v := (.int .i64 (j : Int))) rfl) (qd rfl rfl rfl (r_add rfl rfl (by omega)) (qd rfl rfl rfl (r_assign (v := (.int .i64 ((j : Int) + 1))) rfl) (qe (s_lopN (⟨_, ?_, _, rfl, _, j + 1, ov2, os2, ks159, G160, (packS (x := 11) (packS (x := 10) (packS (x := 9) (packS (x := 8) (packS (x := 7) (packS (x := 6) (packS (x := 4) (packS (x := 3) (pack1 (x := 2) rfl) rfl) rfl) rfl) rfl) rfl) rfl) rfl) rfl), rfl, hX165, (Pin.le_trans hlek134 hx164.le), (by omega), (next_n hos2 ((hpb.ge i j (by omega) (by omega)).symm.trans h174)), hka173, ho166, hd162.ok, ho167, ho168, hb169, hb170, ha144, ha145, ha146, ha147, ha148⟩)))))
 omega
 refine wp_exit (s_thenE (s_lopE (s_blkE (s_blkN (s_then (c_reg ?_))))))
 refine qd rfl rfl rfl (r_move (v := (.int .i64 (i : Int))) rfl) (qd rfl rfl rfl (r_add rfl rfl (by omega)) (qd rfl rfl rfl (r_assign (v := (.int .i64 ((i : Int) + 1))) rfl) (qe (s_lopN ?_))))
 have hjn : j = bs.length := by omega
 rw [hjn] at hos2
 refine ⟨_, ?_, _, rfl, _, i + 1, ov2, os2, kq2, GL2, (packS (x := 10) (packS (x := 9) (packS (x := 8) (packS (x := 7) (packS (x := 6) (packS (x := 4) (packS (x := 3) (pack1 (x := 2) rfl) rfl) rfl) rfl) rfl) rfl) rfl) rfl), rfl, hX137, (Pin.le_trans hlek118 hlek134), (by omega), hos2, hka2, hw138, hw139, hw140, hw141, hw142, hw143, ha144, ha145, ha146, ha147, ha148⟩
 omega
 refine wp_exit (s_thenE (s_lopE (s_blkE (s_then (s_seq (c_reg ?_))))))
 refine qd rfl rfl rfl (r_move (v := ov) rfl) (qd rfl rfl rfl (r_assign (v := ov) rfl) (qe (s_then ?_)))
 refine wp_ret (s_ret (c_ret1 (v := ov) rfl rfl rfl ?_))
 obtain ⟨G270, hle273, hX272, hr271, hf274⟩ := hw122.sealed hX121
 have hin : i = ns.length := by omega
 rw [hin] at hos
 exact ⟨_, _, rfl, (by rw [show fullL ns bs = os from hos.symm]; exact hr271), hX272⟩

end PF3
end Go.Proofs.Ytdleojbknkbpiaa

set_option maxRecDepth 20000
set_option maxHeartbeats 2000000
namespace Go.Proofs.Ytdleojbknkbpiaa
namespace PF4
open Go.RowKit Go.GL Go.Proofs
open B1 C1 D1 E1 OR1 SF1 P1 PF2 PF3






theorem mk3 : (Try.prog.info? 3).map (fun i => (i.size, i.bytes, i.zero)) = some (1, 8, some (.int .i64 0)) := by kernel_rfl
theorem mk4 : (Try.prog.info? 4).map (fun i => (i.size, i.bytes, i.zero)) = some (1, 1, some (.bool false)) := by kernel_rfl







theorem pl28 : (Try.prog.underlying 28).bind (placesD Try.prog) = some [(0, 1)] := by kernel_rfl
theorem pl49 : (Try.prog.underlying 49).bind (placesD Try.prog) = some [(0, 1), (1, 1), (2, 1), (3, 1)] := by kernel_rfl







theorem l15Cut_spec {w : World} {G : Pin} {p : Value} {L : List Cl} (hP : Pins G w) (hp : RSl eClaim G p L) (hL : LOk L) :
  Calls Try.prog 16 [p].toArray w fun e w' => ∃ (r : Value) (G' : Pin), e = .returned r ∧ RSl eClaim G' r (cutL L) ∧ Ext noS G w G' w' := by
 refine s_enter (n := 125) Try.func16 Try.ntmps16 rfl rfl ?_
 have hX0 : Ext noS G w G w := Ext.refl hP
 have hLp := hL.pos
 have hLh := hL.hi
 have hrl : (List.replicate L.length false).length = L.length := by simp
 refine s_seq (c_reg ?_)
 refine qd rfl rfl rfl (r_assign (v := (.slice none 0 0)) rfl) (qe (s_then (s_seq (c_reg ?_))))
 refine qd rfl rfl rfl (r_move (v := p) rfl) (qd rfl rfl rfl (run_len Try.underlying26 (v := p) rfl hp) (q1 rfl rfl rfl (o_make (E := eBool) false 1 (.bool false) Try.underlying71 mk4 (fun _ => rfl) rfl rfl hX0.pins (by omega) (by omega) (by omega) (fun u1 w2 ho3 hp4 hl5 hk6 => ?_))))
 have hX7 := hX0.step hp4 hl5
 have ho8 : Own eBool 4 G w2 w.heap.size u1 (List.replicate L.length false) := ho3.weaken hX0.size
 have hm9 : (List.replicate L.length false).length = L.length := List.length_replicate ..
 refine qd rfl rfl rfl (r_assign (v := u1) rfl) (qe (s_then (s_seq (c_reg ?_))))
 refine qd rfl rfl rfl (r_move (v := u1) rfl) (qd rfl rfl rfl (r_move (v := p) rfl) (qd rfl rfl rfl (run_len Try.underlying26 (v := p) rfl hp) (qd rfl rfl rfl (r_sub rfl rfl (by omega)) (qd rfl rfl rfl (run_idx Try.underlying71 sz4 (v := u1) rfl rfl ho8.read (by omega) (by omega)) (q0 rfl rfl rfl (o_set (E := eBool) (v := u1) (u := (.bool true)) (z := ((L.length : Int) - 1)) (true) sz4 rfl rfl rfl rfl hX7.pins ho8 (by omega) (by omega) (fun w10 ho11 hp12 hg13 hz14 => ?_)))))))
 have hX15 := hX7.write hp12 hg13 ((lo_own ho8))
 refine qe (s_then (s_seq (s_seq (c_reg ?_))))
 refine qd rfl rfl rfl (r_move (v := p) rfl) (qd rfl rfl rfl (run_len Try.underlying26 (v := p) rfl hp) (qd rfl rfl rfl (r_sub rfl rfl (by omega)) (qd rfl rfl rfl (r_assign (v := (.int .i64 ((L.length : Int) - 1))) rfl) (qe (s_then ?_)))))
 refine s_blk (s_loop (fun (k : Nat) (en : Nat → Value) (W : World) => ∃ (env1 : Nat → Value) (z : Int) (nd : List Bool), en = (upd (upd (upd (upd env1 0 p) 2 (.slice none 0 0)) 3 u1) 4 (.int .i64 z)) ∧ k = (z + 1).toNat ∧ Ext noS G w G W ∧ (-1 ≤ z ∧ z ≤ (L.length : Int) - 1) ∧ (nd.length = L.length) ∧ (nd = needZ L z) ∧ (Own eBool 4 G W w.heap.size u1 (nd))) _ ⟨_, ((L.length : Int) - 1), (List.replicate L.length false).set ((L.length : Int) - 1).toNat true, (packS (x := 4) (packS (x := 3) (packS (x := 2) (pack1 (x := 0) rfl) rfl) rfl) rfl), rfl, hX15, (by omega), (by simp), (needZ_start L).symm, ho11⟩ ?_)
 rintro k16 _ w17 ⟨env1, z, nd, rfl, hk18, hX19, hz, hndl, hnd, hw20⟩
 refine s_seq (s_seq (c_reg ?_))
 refine qd rfl rfl rfl (r_move (v := (.int .i64 z)) rfl) (qd rfl rfl rfl (r_geq rfl rfl) (qe (s_then ?_)))
 refine c_ifd (p := (0 : Int) ≤ z) rfl rfl (fun h21 => ?_) (fun h21 => ?_)
 have hlz := hL.ln z.toNat (by omega)
 refine wp_skip (s_then (s_seq ?_))
 refine s_blk (s_seq (s_seq (c_reg ?_)))
 refine qd rfl rfl rfl (r_assign (v := (.int .i64 0)) rfl) (qe (s_then ?_))
 refine s_blk (c_cutE (fun (en : Nat → Value) (W : World) => ∃ (env1 : Nat → Value) (q1 : Nat) (nd2 : List Bool), en = (upd (upd (upd (upd (upd env1 0 p) 2 (.slice none 0 0)) 3 u1) 4 (.int .i64 z)) 5 (.int .i64 (q1 : Int))) ∧ Ext noS G w G W ∧ (q1 ≤ (L.getD z.toNat default).r.length) ∧ (nd2.length = L.length) ∧ (nd2 = halfN nd (L.getD z.toNat default).r z.toNat) ∧ (Own eBool 4 G W w.heap.size u1 (nd2))) 2 ?_ ?_)
 ·rintro _ w23 ⟨env1, q1, nd2, rfl, hX25, hq1, hl2, hh1, hw26⟩
  refine s_blkE (s_then (s_seq (c_reg ?_)))
  refine qd rfl rfl rfl (r_assign (v := (.int .i64 0)) rfl) (qe (s_then ?_))
  refine s_blk (c_cutE (fun (en : Nat → Value) (W : World) => ∃ (env1 : Nat → Value) (q2 : Nat) (nd3 : List Bool), en = (upd (upd (upd (upd (upd env1 0 p) 2 (.slice none 0 0)) 3 u1) 4 (.int .i64 z)) 6 (.int .i64 (q2 : Int))) ∧ Ext noS G w G W ∧ (q2 ≤ (L.getD z.toNat default).l.length) ∧ (nd3.length = L.length) ∧ (nd3 = halfN nd2 (L.getD z.toNat default).l z.toNat) ∧ (Own eBool 4 G W w.heap.size u1 (nd3))) 4 ?_ ?_)
  ·rintro _ w28 ⟨env1, q2, nd3, rfl, hX30, hq2, hl3, hh2, hw31⟩
   refine s_blkE (s_blkN (s_then (c_reg ?_)))
   refine qd rfl rfl rfl (r_move (v := (.int .i64 z)) rfl) (qd rfl rfl rfl (r_sub rfl rfl (by omega)) (qd rfl rfl rfl (r_assign (v := (.int .i64 (z - 1))) rfl) (qe (s_lopN (⟨_, ?_, _, rfl, _, z - 1, nd3, (packS (x := 4) (packS (x := 3) (packS (x := 2) (pack1 (x := 0) rfl) rfl) rfl) rfl), rfl, hX30, (by omega), hl3, (by rw [needZ_step (by omega) (by omega), ← hnd]; exact half_step hh1 hh2), hw31⟩)))))
   omega
  refine s_loop (fun (k : Nat) (en : Nat → Value) (W : World) => ∃ (env1 : Nat → Value) (q2 : Nat) (nd3 : List Bool), en = (upd (upd (upd (upd (upd env1 0 p) 2 (.slice none 0 0)) 3 u1) 4 (.int .i64 z)) 6 (.int .i64 (q2 : Int))) ∧ k = (L.getD z.toNat default).l.length - q2 ∧ Ext noS G w G W ∧ (q2 ≤ (L.getD z.toNat default).l.length) ∧ (nd3.length = L.length) ∧ ((q2 = 0 ∨ nd2.getD z.toNat false = true) ∧ nd3 = needAll nd2 ((L.getD z.toNat default).l.take q2)) ∧ (Own eBool 4 G W w.heap.size u1 (nd3))) _ ⟨_, 0, nd2, (packS (x := 6) (packS (x := 4) (packS (x := 3) (packS (x := 2) (pack1 (x := 0) rfl) rfl) rfl) rfl) rfl), rfl, hX25, Nat.zero_le _, hl2, (half_start _ _ z.toNat), hw26⟩ ?_
  rintro k27 _ w28 ⟨env1, q2, nd3, rfl, hk29, hX30, hq2, hl3, hr2, hw31⟩
  refine s_seq (s_seq (c_reg ?_))
  refine qd rfl rfl rfl (r_move (v := u1) rfl) (qd rfl rfl rfl (r_move (v := (.int .i64 z)) rfl) (qd rfl rfl rfl (run_idx Try.underlying71 sz4 (v := u1) rfl rfl hw31.read (by omega) (by omega)) (qd rfl rfl rfl (run_load_bool (r := nd3.getD (z).toNat false) rfl ag4 (z := z) rfl hw31.read (Gadd.pins hX30.pins u1) (by omega) (by omega)) (qd rfl rfl rfl (r_move (v := (.bool (nd3.getD (z).toNat false))) rfl) (qb (t := 55) rfl (fun h32 => ?_) (fun h32 => ?_))))))
  refine qdg rfl rfl rfl rfl rfl rfl (r_move (v := (.int .i64 (q2 : Int))) rfl) (qdg rfl rfl rfl rfl rfl rfl (r_move (v := p) rfl) (qdg rfl rfl rfl rfl rfl rfl (r_move (v := (.int .i64 z)) rfl) (qdg rfl rfl rfl rfl rfl rfl (run_idx Try.underlying26 sz49 (v := p) rfl rfl hp (by omega) (by omega)) (qdg rfl rfl rfl rfl rfl rfl (run_fld (off := 3) Try.underlying49 rfl rfl nz47 (z := z) (k := 0) rfl hp (by omega) (by omega)) ?_))))
  obtain ⟨cs33, hrep34, hagg35, hcell36⟩ := nm_el (j := (z).toNat) default (hp.at (z := z) (by omega) (by omega)) rfl
  obtain ⟨u37, u39, rfl, hr38, hr40⟩ := hrep34
  have hm41 := hr38.max
  have hm42 := hr40.max
  refine qdg rfl rfl rfl rfl rfl rfl (hcell36 3 _ rfl ag47 rfl hX30.pins) (qdg rfl rfl rfl rfl rfl rfl (run_len Try.underlying47 (v := u39) rfl hr40) (qdg rfl rfl rfl rfl rfl rfl (r_lss rfl rfl) (qd rfl rfl rfl (r_pickT (v := (.bool (decide (((q2 : Int) : Int) < (((L.getD (z).toNat default).l).length : Int))))) rfl rfl) (qe (s_then ?_)))))
  refine c_ifd (p := ((q2 : Int) : Int) < (((L.getD (z).toNat default).l).length : Int)) rfl rfl (fun h43 => ?_) (fun h43 => ?_)
  refine wp_skip (s_then (s_seq ?_))
  refine s_blk (c_reg ?_)
  have hwz2 := hL.l (j := z.toNat) (q := q2) (by omega) (by omega)
  refine qd rfl rfl rfl (r_move (v := u1) rfl) (qd rfl rfl rfl (r_move (v := p) rfl) (qd rfl rfl rfl (r_move (v := (.int .i64 z)) rfl) (qd rfl rfl rfl (run_idx Try.underlying26 sz49 (v := p) rfl rfl hp (by omega) (by omega)) (qd rfl rfl rfl (run_fld (off := 3) Try.underlying49 rfl rfl nz47 (z := z) (k := 0) rfl hp (by omega) (by omega)) ?_))))
  obtain ⟨cs44, hrep45, hagg46, hcell47⟩ := nm_el (j := (z).toNat) default (hp.at (z := z) (by omega) (by omega)) rfl
  obtain ⟨u48, u50, rfl, hr49, hr51⟩ := hrep45
  have hm52 := hr49.max
  have hm53 := hr51.max
  refine qd rfl rfl rfl (hcell47 3 _ rfl ag47 rfl hX30.pins) (qd rfl rfl rfl (r_move (v := (.int .i64 (q2 : Int))) rfl) (qd rfl rfl rfl (run_idx Try.underlying47 sz3 (v := u50) rfl rfl hr51 (by omega) (by omega)) (qd rfl rfl rfl (run_load_int (r := ((L.getD (z).toNat default).l).getD q2 0) rfl ag3 (z := (q2 : Int)) rfl hr51 hX30.pins (by omega) (by omega)) (qd rfl rfl rfl (run_idx Try.underlying71 sz4 (v := u1) rfl rfl hw31.read (by omega) (by omega)) (q0 rfl rfl rfl (o_set (E := eBool) (v := u1) (u := (.bool true)) (z := (((L.getD (z).toNat default).l).getD q2 0)) (true) sz4 rfl rfl rfl rfl hX30.pins hw31 (by omega) (by omega) (fun w54 ho55 hp56 hg57 hz58 => ?_)))))))
  have hX59 := hX30.write hp56 hg57 ((lo_own hw31))
  refine qe (s_blkN (s_then (c_reg ?_)))
  refine qd rfl rfl rfl (r_move (v := (.int .i64 (q2 : Int))) rfl) (qd rfl rfl rfl (r_add rfl rfl (by omega)) (qd rfl rfl rfl (r_assign (v := (.int .i64 ((q2 : Int) + 1))) rfl) (qe (s_lopN (⟨_, ?_, _, rfl, _, q2 + 1, nd3.set ((L.getD z.toNat default).l.getD q2 0).toNat true, (packS (x := 6) (packS (x := 4) (packS (x := 3) (packS (x := 2) (pack1 (x := 0) rfl) rfl) rfl) rfl) rfl), rfl, hX59, (by omega), ((List.length_set ..).trans hl3), (half_next hr2 (by omega) h32), ho55⟩)))))
  omega
  exact wp_exit (s_thenE (s_lopE (cutE_in ⟨_, q2, nd3, (packS (x := 6) (packS (x := 4) (packS (x := 3) (packS (x := 2) (pack1 (x := 0) rfl) rfl) rfl) rfl) rfl), hX30, hq2, hl3, (half_end hr2 h32 (by omega)), hw31⟩)))
  refine qs rfl rfl rfl rfl rfl rfl (qs rfl rfl rfl rfl rfl rfl (qs rfl rfl rfl rfl rfl rfl (qs rfl rfl rfl rfl rfl rfl (qs rfl rfl rfl rfl rfl rfl (qs rfl rfl rfl rfl rfl rfl (qs rfl rfl rfl rfl rfl rfl (qs rfl rfl rfl rfl rfl rfl (qd rfl rfl rfl (r_pickF (v := (.bool false)) rfl rfl) (qe (s_then ?_))))))))))
  exact c_ifF rfl rfl (wp_exit (s_thenE (s_lopE (cutE_in ⟨_, q2, nd3, (packS (x := 6) (packS (x := 4) (packS (x := 3) (packS (x := 2) (pack1 (x := 0) rfl) rfl) rfl) rfl) rfl), hX30, hq2, hl3, (half_stop hr2 h32), hw31⟩))))
 refine s_loop (fun (k : Nat) (en : Nat → Value) (W : World) => ∃ (env1 : Nat → Value) (q1 : Nat) (nd2 : List Bool), en = (upd (upd (upd (upd (upd env1 0 p) 2 (.slice none 0 0)) 3 u1) 4 (.int .i64 z)) 5 (.int .i64 (q1 : Int))) ∧ k = (L.getD z.toNat default).r.length - q1 ∧ Ext noS G w G W ∧ (q1 ≤ (L.getD z.toNat default).r.length) ∧ (nd2.length = L.length) ∧ ((q1 = 0 ∨ nd.getD z.toNat false = true) ∧ nd2 = needAll nd ((L.getD z.toNat default).r.take q1)) ∧ (Own eBool 4 G W w.heap.size u1 (nd2))) _ ⟨_, 0, nd, (packS (x := 5) (packS (x := 4) (packS (x := 3) (packS (x := 2) (pack1 (x := 0) rfl) rfl) rfl) rfl) rfl), rfl, hX19, Nat.zero_le _, hndl, (half_start _ _ z.toNat), hw20⟩ ?_
 rintro k22 _ w23 ⟨env1, q1, nd2, rfl, hk24, hX25, hq1, hl2, hr1, hw26⟩
 refine s_seq (s_seq (c_reg ?_))
 refine qd rfl rfl rfl (r_move (v := u1) rfl) (qd rfl rfl rfl (r_move (v := (.int .i64 z)) rfl) (qd rfl rfl rfl (run_idx Try.underlying71 sz4 (v := u1) rfl rfl hw26.read (by omega) (by omega)) (qd rfl rfl rfl (run_load_bool (r := nd2.getD (z).toNat false) rfl ag4 (z := z) rfl hw26.read (Gadd.pins hX25.pins u1) (by omega) (by omega)) (qd rfl rfl rfl (r_move (v := (.bool (nd2.getD (z).toNat false))) rfl) (qb (t := 29) rfl (fun h60 => ?_) (fun h60 => ?_))))))
 refine qdg rfl rfl rfl rfl rfl rfl (r_move (v := (.int .i64 (q1 : Int))) rfl) (qdg rfl rfl rfl rfl rfl rfl (r_move (v := p) rfl) (qdg rfl rfl rfl rfl rfl rfl (r_move (v := (.int .i64 z)) rfl) (qdg rfl rfl rfl rfl rfl rfl (run_idx Try.underlying26 sz49 (v := p) rfl rfl hp (by omega) (by omega)) (qdg rfl rfl rfl rfl rfl rfl (run_fld (off := 2) Try.underlying49 rfl rfl nz47 (z := z) (k := 0) rfl hp (by omega) (by omega)) ?_))))
 obtain ⟨cs61, hrep62, hagg63, hcell64⟩ := nm_el (j := (z).toNat) default (hp.at (z := z) (by omega) (by omega)) rfl
 obtain ⟨u65, u67, rfl, hr66, hr68⟩ := hrep62
 have hm69 := hr66.max
 have hm70 := hr68.max
 refine qdg rfl rfl rfl rfl rfl rfl (hcell64 2 _ rfl ag47 rfl hX25.pins) (qdg rfl rfl rfl rfl rfl rfl (run_len Try.underlying47 (v := u65) rfl hr66) (qdg rfl rfl rfl rfl rfl rfl (r_lss rfl rfl) (qd rfl rfl rfl (r_pickT (v := (.bool (decide (((q1 : Int) : Int) < (((L.getD (z).toNat default).r).length : Int))))) rfl rfl) (qe (s_then ?_)))))
 refine c_ifd (p := ((q1 : Int) : Int) < (((L.getD (z).toNat default).r).length : Int)) rfl rfl (fun h71 => ?_) (fun h71 => ?_)
 refine wp_skip (s_then (s_seq ?_))
 refine s_blk (c_reg ?_)
 have hwz1 := hL.r (j := z.toNat) (q := q1) (by omega) (by omega)
 refine qd rfl rfl rfl (r_move (v := u1) rfl) (qd rfl rfl rfl (r_move (v := p) rfl) (qd rfl rfl rfl (r_move (v := (.int .i64 z)) rfl) (qd rfl rfl rfl (run_idx Try.underlying26 sz49 (v := p) rfl rfl hp (by omega) (by omega)) (qd rfl rfl rfl (run_fld (off := 2) Try.underlying49 rfl rfl nz47 (z := z) (k := 0) rfl hp (by omega) (by omega)) ?_))))
 obtain ⟨cs72, hrep73, hagg74, hcell75⟩ := nm_el (j := (z).toNat) default (hp.at (z := z) (by omega) (by omega)) rfl
 obtain ⟨u76, u78, rfl, hr77, hr79⟩ := hrep73
 have hm80 := hr77.max
 have hm81 := hr79.max
 refine qd rfl rfl rfl (hcell75 2 _ rfl ag47 rfl hX25.pins) (qd rfl rfl rfl (r_move (v := (.int .i64 (q1 : Int))) rfl) (qd rfl rfl rfl (run_idx Try.underlying47 sz3 (v := u76) rfl rfl hr77 (by omega) (by omega)) (qd rfl rfl rfl (run_load_int (r := ((L.getD (z).toNat default).r).getD q1 0) rfl ag3 (z := (q1 : Int)) rfl hr77 hX25.pins (by omega) (by omega)) (qd rfl rfl rfl (run_idx Try.underlying71 sz4 (v := u1) rfl rfl hw26.read (by omega) (by omega)) (q0 rfl rfl rfl (o_set (E := eBool) (v := u1) (u := (.bool true)) (z := (((L.getD (z).toNat default).r).getD q1 0)) (true) sz4 rfl rfl rfl rfl hX25.pins hw26 (by omega) (by omega) (fun w82 ho83 hp84 hg85 hz86 => ?_)))))))
 have hX87 := hX25.write hp84 hg85 ((lo_own hw26))
 refine qe (s_blkN (s_then (c_reg ?_)))
 refine qd rfl rfl rfl (r_move (v := (.int .i64 (q1 : Int))) rfl) (qd rfl rfl rfl (r_add rfl rfl (by omega)) (qd rfl rfl rfl (r_assign (v := (.int .i64 ((q1 : Int) + 1))) rfl) (qe (s_lopN (⟨_, ?_, _, rfl, _, q1 + 1, nd2.set ((L.getD z.toNat default).r.getD q1 0).toNat true, (packS (x := 5) (packS (x := 4) (packS (x := 3) (packS (x := 2) (pack1 (x := 0) rfl) rfl) rfl) rfl) rfl), rfl, hX87, (by omega), ((List.length_set ..).trans hl2), (half_next hr1 (by omega) h60), ho83⟩)))))
 omega
 exact wp_exit (s_thenE (s_lopE (cutE_in ⟨_, q1, nd2, (packS (x := 5) (packS (x := 4) (packS (x := 3) (packS (x := 2) (pack1 (x := 0) rfl) rfl) rfl) rfl) rfl), hX25, hq1, hl2, (half_end hr1 h60 (by omega)), hw26⟩)))
 refine qs rfl rfl rfl rfl rfl rfl (qs rfl rfl rfl rfl rfl rfl (qs rfl rfl rfl rfl rfl rfl (qs rfl rfl rfl rfl rfl rfl (qs rfl rfl rfl rfl rfl rfl (qs rfl rfl rfl rfl rfl rfl (qs rfl rfl rfl rfl rfl rfl (qs rfl rfl rfl rfl rfl rfl (qd rfl rfl rfl (r_pickF (v := (.bool false)) rfl rfl) (qe (s_then ?_))))))))))
 exact c_ifF rfl rfl (wp_exit (s_thenE (s_lopE (cutE_in ⟨_, q1, nd2, (packS (x := 5) (packS (x := 4) (packS (x := 3) (packS (x := 2) (pack1 (x := 0) rfl) rfl) rfl) rfl) rfl), hX25, hq1, hl2, (half_stop hr1 h60), hw26⟩))))
 refine wp_exit (s_thenE (s_lopE (s_blkE (s_then (s_seq (c_reg ?_))))))
 refine qd rfl rfl rfl (r_move (v := p) rfl) (qd rfl rfl rfl (run_len Try.underlying26 (v := p) rfl hp) (q1 rfl rfl rfl (o_make (E := eInt) 0 8 (.int .i64 0) Try.underlying47 mk3 (fun _ => rfl) rfl rfl hX19.pins (by omega) (by omega) (by omega) (fun u88 w89 ho90 hp91 hl92 hk93 => ?_))))
 have hX94 := hX19.step hp91 hl92
 have ho95 := hw20.below hl92
 have ha96 : Apart u88.ownBlock u1.ownBlock := new_ne_own hk93 hw20.lt
 have ho97 : Own eInt 3 G w89 w.heap.size u88 (List.replicate L.length 0) := ho90.weaken hX19.size
 have hm98 : (List.replicate L.length 0).length = L.length := List.length_replicate ..
 refine qd rfl rfl rfl (r_assign (v := u88) rfl) (qe (s_then (s_seq (c_reg ?_))))
 refine q1 rfl rfl rfl (o_build0 (E := eClaim) (e := 49) Try.underlying26 sz49 hX94.pins (fun u99 w100 ho101 hp102 hl103 hk104 => ?_))
 have hX105 := hX94.step hp102 hl103
 have ho106 := ho95.below hl103
 have ho107 := ho97.below hl103
 have ha108 : Apart u99.ownBlock u1.ownBlock := new_ne_own hk104 ho95.lt
 have ha109 : Apart u99.ownBlock u88.ownBlock := new_ne_own hk104 ho97.lt
 have ho110 : Own eClaim 49 G w100 w.heap.size u99 ([]) := ho101.weaken hX94.size
 refine qd rfl rfl rfl (r_assign (v := u99) rfl) (qe (s_then (s_seq (s_seq (c_reg ?_)))))
 refine qd rfl rfl rfl (r_assign (v := (.int .i64 0)) rfl) (qe (s_then ?_))
 refine s_blk (s_loop (fun (k : Nat) (en : Nat → Value) (W : World) => ∃ (env1 : Nat → Value) (kc : Nat) (ats : List Int) (ov : Value) (os : List Cl) (GL4 : Pin), en = (upd (upd (upd (upd (upd (upd env1 0 p) 2 (.slice none 0 0)) 3 u1) 7 u88) 8 ov) 9 (.int .i64 (kc : Int))) ∧ k = L.length - kc ∧ Ext noS G w GL4 W ∧ Pin.le G GL4 ∧ (kc ≤ L.length) ∧ (ats.length = L.length) ∧ (cutN L nd kc = (ats, os)) ∧ (Own eInt 3 GL4 W w.heap.size u88 (ats)) ∧ (Own eClaim 49 GL4 W w.heap.size ov (os)) ∧ (Own eBool 4 GL4 W w.heap.size u1 (nd)) ∧ (Apart u88.ownBlock ov.ownBlock) ∧ (Apart ov.ownBlock u1.ownBlock)) _ ⟨_, 0, List.replicate L.length 0, u99, [], G, (packS (x := 9) (packS (x := 8) (packS (x := 7) (packS (x := 3) (packS (x := 2) (pack1 (x := 0) rfl) rfl) rfl) rfl) rfl) rfl), rfl, hX105, Pin.le_refl _, Nat.zero_le _, (by simp), rfl, ho107, ho110, ho106, ha109.symm, ha108⟩ ?_)
 rintro k111 _ w112 ⟨env1, kc, ats, ov, os, GL4, rfl, hk113, hX114, hlek111, hk, hat, hc, hw115, hw116, hw117, ha118, ha119⟩
 have hcl := (cut_length L nd kc).2
 rw [hc] at hcl
 have hcl2 : os.length ≤ kc := hcl
 refine s_seq (s_seq (c_reg ?_))
 refine qd rfl rfl rfl (r_move (v := (.int .i64 (kc : Int))) rfl) (qd rfl rfl rfl (r_move (v := p) rfl) (qd rfl rfl rfl (run_len Try.underlying26 (v := p) rfl hp) (qd rfl rfl rfl (r_lss rfl rfl) (qe (s_then ?_)))))
 refine c_ifd (p := ((kc : Int) : Int) < (L.length : Int)) rfl rfl (fun h120 => ?_) (fun h120 => ?_)
 have hlk := hL.ln kc (by omega)
 refine wp_skip (s_then (s_seq ?_))
 refine s_blk (s_seq (c_reg ?_))
 refine qd rfl rfl rfl (r_move (v := u1) rfl) (qd rfl rfl rfl (r_move (v := (.int .i64 (kc : Int))) rfl) (qd rfl rfl rfl (run_idx Try.underlying71 sz4 (v := u1) rfl rfl hw117.read (by omega) (by omega)) (qd rfl rfl rfl (run_load_bool (r := nd.getD kc false) rfl ag4 (z := (kc : Int)) rfl hw117.read (Gadd.pins hX114.pins u1) (by omega) (by omega)) (qe (s_then ?_)))))
 refine c_if rfl rfl (fun h121 => ?_) (fun h121 => ?_)
 refine s_seq (c_reg ?_)
 refine qd rfl rfl rfl (r_move (v := u88) rfl) (qd rfl rfl rfl (r_move (v := (.int .i64 (kc : Int))) rfl) (qd rfl rfl rfl (r_move (v := ov) rfl) (qd rfl rfl rfl (run_len Try.underlying26 (v := ov) rfl hw116.read) (qd rfl rfl rfl (run_idx Try.underlying47 sz3 (v := u88) rfl rfl hw115.read (by omega) (by omega)) (q0 rfl rfl rfl (o_set (E := eInt) (v := u88) (u := (.int .i64 (os.length : Int))) (z := (kc : Int)) ((os.length : Int)) sz3 rfl rfl rfl rfl hX114.pins hw115 (by omega) (by omega) (fun w122 ho123 hp124 hg125 hz126 => ?_)))))))
 have hX127 := hX114.write hp124 hg125 ((lo_own hw115))
 have ho128 := hw116.keptA hg125 ha118.symm
 have ho129 := hw117.keptA hg125 ha96.symm
 refine qe (s_then ?_)
 refine c_draw (S := fun wz => Pins GL4 wz) (last := 29) (by kernel_rfl) rfl ?_
 have hl130 : Below w122.heap.size w122 w122.drew := (Below.refl _ _).drew
 have hp131 := hX127.pins.below hl130
 have hX132 := hX127.step hp131 hl130
 have ho133 := ho123.below hl130
 have ho134 := ho128.below hl130
 have ho135 := ho129.below hl130
 refine dr_take (i := 0) rfl rfl rfl (want_none rfl _) (by kernel_rfl) (fun _ _ => r_move (v := ov) rfl) hX132.pins (dr_take (i := 1) rfl rfl rfl (want_none rfl _) (by kernel_rfl) (fun _ _ => r_move (v := p) rfl) hX132.pins (dr_take (i := 2) rfl rfl rfl (want_none rfl _) (by kernel_rfl) (fun _ _ => r_move (v := (.int .i64 (kc : Int))) rfl) hX132.pins (dr_take (i := 3) rfl rfl rfl (want_none rfl _) (by kernel_rfl) (fun _ _ => run_idx Try.underlying26 sz49 (v := p) rfl rfl hp (by omega) (by omega)) hX132.pins (dr_take (i := 4) rfl rfl rfl (want_none rfl _) (by kernel_rfl) (fun _ _ => run_fld (off := 0) Try.underlying49 rfl rfl nz3 (z := (kc : Int)) (k := 0) rfl hp (by omega) (by omega)) hX132.pins ?_))))
 obtain ⟨cs136, hrep137, hagg138, hcell139⟩ := nm_el (j := kc) default (hp.at (z := (kc : Int)) (by omega) (by omega)) rfl
 obtain ⟨u140, u142, rfl, hr141, hr143⟩ := hrep137
 have hm144 := hr141.max
 have hm145 := hr143.max
 refine dr_take (i := 5) rfl rfl rfl (want_none rfl _) (by kernel_rfl) (fun _ hS => hcell139 0 _ rfl ag3 rfl (Pins.of_le hS hlek111)) hX132.pins (dr_take (i := 6) rfl rfl rfl (want_none rfl _) (by kernel_rfl) (fun _ _ => r_move (v := p) rfl) hX132.pins (dr_take (i := 7) rfl rfl rfl (want_none rfl _) (by kernel_rfl) (fun _ _ => r_move (v := (.int .i64 (kc : Int))) rfl) hX132.pins (dr_take (i := 8) rfl rfl rfl (want_none rfl _) (by kernel_rfl) (fun _ _ => run_idx Try.underlying26 sz49 (v := p) rfl rfl hp (by omega) (by omega)) hX132.pins (dr_take (i := 9) rfl rfl rfl (want_none rfl _) (by kernel_rfl) (fun _ _ => run_fld (off := 1) Try.underlying49 rfl rfl nz3 (z := (kc : Int)) (k := 0) rfl hp (by omega) (by omega)) hX132.pins ?_))))
 obtain ⟨cs146, hrep147, hagg148, hcell149⟩ := nm_el (j := kc) default (hp.at (z := (kc : Int)) (by omega) (by omega)) rfl
 obtain ⟨u150, u152, rfl, hr151, hr153⟩ := hrep147
 have hm154 := hr151.max
 have hm155 := hr153.max
 refine dr_take (i := 10) rfl rfl rfl (want_none rfl _) (by kernel_rfl) (fun _ hS => hcell149 1 _ rfl ag3 rfl (Pins.of_le hS hlek111)) hX132.pins (dr_take (i := 11) rfl rfl rfl (want_none rfl _) (by kernel_rfl) (fun _ _ => r_move (v := u88) rfl) hX132.pins (dr_take (i := 12) rfl rfl rfl (want_none rfl _) (by kernel_rfl) (fun _ _ => r_move (v := p) rfl) hX132.pins (dr_take (i := 13) rfl rfl rfl (want_none rfl _) (by kernel_rfl) (fun _ _ => r_move (v := (.int .i64 (kc : Int))) rfl) hX132.pins (dr_take (i := 14) rfl rfl rfl (want_none rfl _) (by kernel_rfl) (fun _ _ => run_idx Try.underlying26 sz49 (v := p) rfl rfl hp (by omega) (by omega)) hX132.pins (dr_take (i := 15) rfl rfl rfl (want_none rfl _) (by kernel_rfl) (fun _ _ => run_fld (off := 2) Try.underlying49 rfl rfl nz47 (z := (kc : Int)) (k := 0) rfl hp (by omega) (by omega)) hX132.pins ?_)))))
 obtain ⟨cs156, hrep157, hagg158, hcell159⟩ := nm_el (j := kc) default (hp.at (z := (kc : Int)) (by omega) (by omega)) rfl
 obtain ⟨u160, u162, rfl, hr161, hr163⟩ := hrep157
 have hm164 := hr161.max
 have hm165 := hr163.max
 refine dr_take (i := 16) rfl rfl rfl (want_none rfl _) (by kernel_rfl) (fun _ hS => hcell159 2 _ rfl ag47 rfl (Pins.of_le hS hlek111)) hX132.pins (dr_take (i := 18) rfl rfl rfl (want_none rfl _) (by kernel_rfl) (fun _ _ => r_move (v := u88) rfl) hX132.pins (dr_take (i := 19) rfl rfl rfl (want_none rfl _) (by kernel_rfl) (fun _ _ => r_move (v := p) rfl) hX132.pins (dr_take (i := 20) rfl rfl rfl (want_none rfl _) (by kernel_rfl) (fun _ _ => r_move (v := (.int .i64 (kc : Int))) rfl) hX132.pins (dr_take (i := 21) rfl rfl rfl (want_none rfl _) (by kernel_rfl) (fun _ _ => run_idx Try.underlying26 sz49 (v := p) rfl rfl hp (by omega) (by omega)) hX132.pins (dr_take (i := 22) rfl rfl rfl (want_none rfl _) (by kernel_rfl) (fun _ _ => run_fld (off := 3) Try.underlying49 rfl rfl nz47 (z := (kc : Int)) (k := 0) rfl hp (by omega) (by omega)) hX132.pins ?_)))))
 obtain ⟨cs166, hrep167, hagg168, hcell169⟩ := nm_el (j := kc) default (hp.at (z := (kc : Int)) (by omega) (by omega)) rfl
 obtain ⟨u170, u172, rfl, hr171, hr173⟩ := hrep167
 have hm174 := hr171.max
 have hm175 := hr173.max
 refine dr_take (i := 23) rfl rfl rfl (want_none rfl _) (by kernel_rfl) (fun _ hS => hcell169 3 _ rfl ag47 rfl (Pins.of_le hS hlek111)) hX132.pins (dr_one (i := 17) (by kernel_rfl) (drOp1 (i := 17) rfl rfl rfl (want_none rfl _) (o_call (vs := [u88, u160]) Try.func35 nm35 rfl rfl rfl ?_)))
 refine Calls.mono (l3At_spec hX132.pins (Gadd.pins hX132.pins u88) ho133.read (hr161.mono hlek111) (by omega) (fun i hi => by have h := hL.r (j := kc) (by omega) hi; rw [List.length_set]; omega)) ?_
 rintro _ w178 ⟨u176, G177, rfl, ho179, hx180⟩
 refine ⟨_, rfl, ?_⟩
 have hX181 := hX132.tr hx180
 have ho182 := ho133.ext hx180
 have ho183 := ho134.ext hx180
 have ho184 := ho135.ext hx180
 have ha185 : Apart u176.ownBlock u88.ownBlock := made_ne_own ho179.lt ho133.lt
 have ha186 : Apart u176.ownBlock ov.ownBlock := made_ne_own ho179.lt ho134.lt
 have ha187 : Apart u176.ownBlock u1.ownBlock := made_ne_own ho179.lt ho135.lt
 have ho188 : Own eInt 3 G177 w178 w.heap.size u176 (atL ((ats).set kc (os.length : Int)) ((L.getD kc default).r)) := ho179.weaken hX132.size
 refine ⟨fun _ => (Pins.of_le hX181.pins hx180.le), ?_⟩
 refine dr_one (i := 24) (by kernel_rfl) (drOp1 (i := 24) rfl rfl rfl (want_none rfl _) (o_call (vs := [u88, u172]) Try.func35 nm35 rfl rfl rfl ?_))
 refine Calls.mono (l3At_spec hX181.pins (Gadd.pins hX181.pins u88) ho182.read (hr173.mono (Pin.le_trans hlek111 hx180.le)) (by omega) (fun i hi => by have h := hL.l (j := kc) (by omega) hi; rw [List.length_set]; omega)) ?_
 rintro _ w191 ⟨u189, G190, rfl, ho192, hx193⟩
 refine ⟨_, rfl, ?_⟩
 have hX194 := hX181.tr hx193
 have ho195 := ho182.ext hx193
 have ho196 := ho183.ext hx193
 have ho197 := ho184.ext hx193
 have ho198 := ho188.ext hx193
 have ha199 : Apart u189.ownBlock u88.ownBlock := made_ne_own ho192.lt ho182.lt
 have ha200 : Apart u189.ownBlock ov.ownBlock := made_ne_own ho192.lt ho183.lt
 have ha201 : Apart u189.ownBlock u1.ownBlock := made_ne_own ho192.lt ho184.lt
 have ha202 : Apart u189.ownBlock u176.ownBlock := made_ne_own ho192.lt ho188.lt
 have ho203 : Own eInt 3 G190 w191 w.heap.size u189 (atL ((ats).set kc (os.length : Int)) ((L.getD kc default).l)) := ho192.weaken hX181.size
 refine ⟨fun _ => (Pins.of_le hX194.pins (Pin.le_trans hx180.le hx193.le)), ?_⟩
 refine dr_take (i := 25) rfl rfl rfl (want_none rfl _) (by kernel_rfl) (fun _ _ => r_build [(.int .i64 0), (.int .i64 0), (.slice none 0 0), (.slice none 0 0)] [(.int .i64 ((L.getD kc default).a)), (.int .i64 ((L.getD kc default).b)), u176, u189] [(0, (.int .i64 ((L.getD kc default).a)), [(.int .i64 ((L.getD kc default).a))]), (1, (.int .i64 ((L.getD kc default).b)), [(.int .i64 ((L.getD kc default).b))]), (2, u176, [u176]), (3, u189, [u189])] Try.underlying49 zr49 rfl pl49 rfl (List.forall_mem_cons.2 ⟨rfl, (List.forall_mem_cons.2 ⟨rfl, (List.forall_mem_cons.2 ⟨(cells_one ho198.one), (List.forall_mem_cons.2 ⟨(cells_one ho203.one), (fun _ h => by cases h)⟩)⟩)⟩)⟩) rfl) (Pins.of_le hX194.pins (Pin.le_trans hx180.le hx193.le)) ?_
 obtain ⟨G204, hle207, hX206, hr205, hf208⟩ := ho198.sealed hX194
 have ho209 := ho195.moreO hle207 hf208 ha185.symm
 have ho210 := ho196.moreO hle207 hf208 ha186.symm
 have ho211 := ho197.moreO hle207 hf208 ha187.symm
 have ho212 := ho203.moreO hle207 hf208 ha202
 obtain ⟨G213, hle216, hX215, hr214, hf217⟩ := ho212.sealed hX206
 have ho218 := ho209.moreO hle216 hf217 ha199.symm
 have ho219 := ho210.moreO hle216 hf217 ha200.symm
 have ho220 := ho211.moreO hle216 hf217 ha201.symm
 refine dr_one (i := 26) (by kernel_rfl) (drOp1 (i := 26) rfl rfl rfl (want_none rfl _) (o_build1 (E := eClaim) (e := 49) [(.int .i64 ((L.getD kc default).a)), (.int .i64 ((L.getD kc default).b)), u176, u189] (⟨(L.getD kc default).a, (L.getD kc default).b, atL ((ats).set kc (os.length : Int)) ((L.getD kc default).r), atL ((ats).set kc (os.length : Int)) ((L.getD kc default).l)⟩ : Cl) Try.underlying26 sz49 zr49 ⟨_, _, rfl, (hr205.mono hle216), hr214⟩ rfl (by decide) hX215.pins (fun u221 w222 ho223 hp224 hl225 hk226 => ?_)))
 have hX227 := hX215.step hp224 hl225
 have ho228 := ho218.below hl225
 have ho229 := ho219.below hl225
 have ho230 := ho220.below hl225
 have ho234 : Own eClaim 49 G213 w222 w.heap.size u221 ([(⟨(L.getD kc default).a, (L.getD kc default).b, atL ((ats).set kc (os.length : Int)) ((L.getD kc default).r), atL ((ats).set kc (os.length : Int)) ((L.getD kc default).l)⟩ : Cl)]) := ho223.weaken hX215.size
 refine ⟨fun _ => (Pins.of_le hX227.pins (Pin.le_trans (Pin.le_trans (Pin.le_trans hx180.le hx193.le) hle207) hle216)), ?_⟩
 refine dr_one (i := 27) (by kernel_rfl) (drOp1 (i := 27) rfl rfl rfl (want_none rfl _) (o_append (E := eClaim) (v := ov) (u := u221) 64 Try.underlying26 ap49 (by decide) rfl rfl hX227.pins ho229 ho234.src (by first | omega | (rw [List.nil_append]; omega) | (rw [List.length_nil]; omega) | (rw [List.length_append]; omega) | (simp; done) | (simp; omega) | (simp only [List.length_append, List.length_cons, List.length_nil]; omega)) (by first | omega | (rw [List.nil_append]; omega) | (rw [List.length_nil]; omega) | (rw [List.length_append]; omega) | (simp; done) | (simp; omega) | (simp only [List.length_append, List.length_cons, List.length_nil]; omega)) (hX227.size) (fun u235 w236 ho237 hp238 hg239 hw240 => ?_)))
 have hX241 := hX227.write hp238 hg239 ((lo_own ho229))
 have ho242 := ho228.keptA hg239 ha118
 have ho243 := ho230.keptA hg239 ha119.symm
 have ha245 : Apart u88.ownBlock u235.ownBlock := app_ne_own ha118 hw240 ho228.lt
 have ha246 : Apart u1.ownBlock u235.ownBlock := app_ne_own ha119.symm hw240 ho230.lt
 have hm248 : (os ++ ([(⟨(L.getD kc default).a, (L.getD kc default).b, atL ((ats).set kc (os.length : Int)) ((L.getD kc default).r), atL ((ats).set kc (os.length : Int)) ((L.getD kc default).l)⟩ : Cl)])).length = os.length + 1 := List.length_append
 refine ⟨fun _ => (Pins.of_le hX241.pins (Pin.le_trans (Pin.le_trans (Pin.le_trans hx180.le hx193.le) hle207) hle216)), ?_⟩
 refine dr_take (i := 28) rfl rfl rfl (want_none rfl _) (by kernel_rfl) (fun _ _ => r_assign (v := u235) rfl) (Pins.of_le hX241.pins (Pin.le_trans (Pin.le_trans (Pin.le_trans hx180.le hx193.le) hle207) hle216)) (dr_end (by kernel_rfl) (s_blkN (s_then (c_reg ?_))))
 refine qd rfl rfl rfl (r_move (v := (.int .i64 (kc : Int))) rfl) (qd rfl rfl rfl (r_add rfl rfl (by omega)) (qd rfl rfl rfl (r_assign (v := (.int .i64 ((kc : Int) + 1))) rfl) (qe (s_lopN (⟨_, ?_, _, rfl, _, kc + 1, (ats).set kc (os.length : Int), u235, os ++ ([(⟨(L.getD kc default).a, (L.getD kc default).b, atL ((ats).set kc (os.length : Int)) ((L.getD kc default).r), atL ((ats).set kc (os.length : Int)) ((L.getD kc default).l)⟩ : Cl)]), G213, (packS (x := 9) (packS (x := 8) (packS (x := 7) (packS (x := 3) (packS (x := 2) (pack1 (x := 0) rfl) rfl) rfl) rfl) rfl) rfl), rfl, hX241, (Pin.le_trans (Pin.le_trans (Pin.le_trans (Pin.le_trans hlek111 hx180.le) hx193.le) hle207) hle216), (by omega), ((List.length_set ..).trans hat), (cut_yes hc h121), ho242, ho237, ho243, ha245, ha246.symm⟩)))))
 omega
 refine wp_skip (s_blkN (s_then (c_reg ?_)))
 refine qd rfl rfl rfl (r_move (v := (.int .i64 (kc : Int))) rfl) (qd rfl rfl rfl (r_add rfl rfl (by omega)) (qd rfl rfl rfl (r_assign (v := (.int .i64 ((kc : Int) + 1))) rfl) (qe (s_lopN (⟨_, ?_, _, rfl, _, kc + 1, ats, ov, os, GL4, (packS (x := 9) (packS (x := 8) (packS (x := 7) (packS (x := 3) (packS (x := 2) (pack1 (x := 0) rfl) rfl) rfl) rfl) rfl) rfl), rfl, hX114, hlek111, (by omega), hat, (cut_no hc h121), hw115, hw116, hw117, ha118, ha119⟩)))))
 omega
 refine wp_exit (s_thenE (s_lopE (s_blkE (s_then (s_seq (c_reg ?_))))))
 refine qd rfl rfl rfl (r_move (v := ov) rfl) (qd rfl rfl rfl (r_assign (v := ov) rfl) (qe (s_then ?_)))
 refine wp_ret (s_ret (c_ret1 (v := ov) rfl rfl rfl ?_))
 obtain ⟨G249, hle252, hX251, hr250, hf253⟩ := hw116.sealed hX114
 have hkn : kc = L.length := by omega
 rw [hkn, hnd, needZ_end (show z = -1 by omega)] at hc
 exact ⟨_, _, rfl, (by unfold cutL; rw [hc]; exact hr250), hX251⟩

theorem sProofFor_spec {w : World} {G : Pin} {u v : Value} {ns bs : List Nd} (hP : Pins G w) (hu : RSl eNode G u ns) (hv : RSl eNode G v bs) :
  Calls Try.prog 5 [(.agg [u].toArray), (.agg [v].toArray)].toArray w fun e w' => ∃ (r : Value) (G' : Pin), e = .returned (.tuple #[.agg [r].toArray, .bool (prfB ns bs)]) ∧ RSl eClaim G' r (prfL ns bs) ∧ Ext noS G w G' w' := by
 refine s_enter (n := 32) Try.func5 Try.ntmps5 rfl rfl ?_
 have hX0 : Ext noS G w G w := Ext.refl hP
 refine s_seq (c_reg ?_)
 refine q1 rfl rfl rfl (o_box [u] (v := (.agg [u].toArray)) rfl rfl hX0.pins (fun b1 w2 hk3 hb4 hp5 hl6 => ?_))
 have hX7 := hX0.step hp5 hl6
 have hlo8 : w.heap.size ≤ b1 := by have := hX0.size; omega
 obtain ⟨G9, hle10, hX11, hbp12, hf13⟩ := hb4.shut hX7 hlo8
 refine q1 rfl rfl rfl (o_box [v] (v := (.agg [v].toArray)) rfl rfl hX11.pins (fun b14 w15 hk16 hb17 hp18 hl19 => ?_))
 have hX20 := hX11.step hp18 hl19
 have hlo21 : w.heap.size ≤ b14 := by have := hX11.size; omega
 obtain ⟨G22, hle23, hX24, hbp25, hf26⟩ := hb17.shut hX20 hlo21
 refine q1 rfl rfl rfl (o_alloc [(.slice none 0 0)] zr28 rfl hX24.pins (fun b27 w28 hk29 hb30 hp31 hl32 => ?_))
 have hX33 := hX24.step hp31 hl32
 have hlo34 : w.heap.size ≤ b27 := by have := hX24.size; omega
 refine qd rfl rfl rfl (r_assign (v := (.bool false)) rfl) (qe (s_then (s_seq (s_seq (c_reg ?_)))))
 refine qd rfl rfl rfl (r_ldpA (cs := [u]) ag33 sz33 rfl (fun j u hj => (Pins.of_le hX33.pins hle23) _ _ _ (hbp12 _ _ (by simpa using hj)))) (q1 rfl rfl rfl (o_call (vs := [(.agg [u].toArray)]) Try.func14 nm14 rfl rfl rfl ?_))
 refine Calls.mono (l3Good_spec hX33.pins (hu.mono (Pin.le_trans hle10 hle23))) ?_
 rintro _ w36 ⟨G35, rfl, hx37⟩
 refine ⟨_, rfl, ?_⟩
 have hX38 := hX33.tr hx37
 have hb39 := hb30.ext hx37
 refine qd rfl rfl rfl (r_not rfl) (qd rfl rfl rfl (r_move (v := (.bool (!(decP (GoodS ns))))) rfl) (qbn (t := 10) rfl (fun h40 => ?_) (fun h40 => ?_)))
 refine qdg rfl rfl rfl rfl rfl rfl (r_ldpA (cs := [v]) ag33 sz33 rfl (fun j u hj => (Pins.of_le hX38.pins hx37.le) _ _ _ (hbp25 _ _ (by simpa using hj)))) (q1g rfl rfl rfl rfl rfl rfl (o_call (vs := [(.agg [v].toArray)]) Try.func14 nm14 rfl rfl rfl ?_))
 refine Calls.mono (l3Good_spec hX38.pins (hv.mono (Pin.le_trans (Pin.le_trans hle10 hle23) hx37.le))) ?_
 rintro _ w42 ⟨G41, rfl, hx43⟩
 refine ⟨_, rfl, ?_⟩
 have hX44 := hX38.tr hx43
 have hb45 := hb39.ext hx43
 refine qdg rfl rfl rfl rfl rfl rfl (r_not rfl) (qd rfl rfl rfl (r_pickF (v := (.bool (!(decP (GoodS bs))))) rfl rfl) (qd rfl rfl rfl (r_move (v := (.bool (!(decP (GoodS bs))))) rfl) (qbn (t := 15) rfl (fun h46 => ?_) (fun h46 => ?_))))
 have hga : GoodP ns := goodB_true.1 ((good_eq ns).symm.trans h40)
 have hgb : GoodP bs := goodB_true.1 ((good_eq bs).symm.trans h46)
 have hla := hga.lo
 have hlb := hgb.lo
 have hha := hga.hi
 have hhb := hgb.hi
 refine qdg rfl rfl rfl rfl rfl rfl (r_ldpA (cs := [u]) ag33 sz33 rfl (fun j u hj => (Pins.of_le hX44.pins (Pin.le_trans (Pin.le_trans hle23 hx37.le) hx43.le)) _ _ _ (hbp12 _ _ (by simpa using hj)))) (qdg rfl rfl rfl rfl rfl rfl (r_ldpA (cs := [v]) ag33 sz33 rfl (fun j u hj => (Pins.of_le hX44.pins (Pin.le_trans hx37.le hx43.le)) _ _ _ (hbp25 _ _ (by simpa using hj)))) (q1g rfl rfl rfl rfl rfl rfl (o_call (vs := [(.agg [u].toArray), (.agg [v].toArray)]) Try.func15 nm15 rfl rfl rfl ?_)))
 refine Calls.mono (l4Geq_spec hX44.pins (hu.mono (Pin.le_trans (Pin.le_trans (Pin.le_trans hle10 hle23) hx37.le) hx43.le)) (hv.mono (Pin.le_trans (Pin.le_trans (Pin.le_trans hle10 hle23) hx37.le) hx43.le)) ⟨good_form hga, hla⟩ ⟨good_form hgb, hlb⟩ (by omega)) ?_
 rintro _ w48 ⟨G47, rfl, hx49⟩
 refine ⟨_, rfl, ?_⟩
 have hX50 := hX44.tr hx49
 have hb51 := hb45.ext hx49
 refine qdg rfl rfl rfl rfl rfl rfl (r_not rfl) (qd rfl rfl rfl (r_pickF (v := (.bool (!(decP (geG (gOf ns) (gOf bs)))))) rfl rfl) (qe (s_then ?_)))
 refine c_ifn rfl rfl (fun h52 => ?_) (fun h52 => ?_)
 refine wp_skip (s_then (s_seq (c_reg ?_)))
 have hge := decP_true.1 h52
 refine qd rfl rfl rfl (r_ldpA (cs := [u]) ag33 sz33 rfl (fun j u hj => (Pins.of_le hX50.pins (Pin.le_trans (Pin.le_trans (Pin.le_trans hle23 hx37.le) hx43.le) hx49.le)) _ _ _ (hbp12 _ _ (by simpa using hj)))) (qd rfl rfl rfl (r_ldpA (cs := [v]) ag33 sz33 rfl (fun j u hj => (Pins.of_le hX50.pins (Pin.le_trans (Pin.le_trans hx37.le hx43.le) hx49.le)) _ _ _ (hbp25 _ _ (by simpa using hj)))) (q1 rfl rfl rfl (o_call (vs := [(.agg [u].toArray), (.agg [v].toArray)]) Try.func17 nm17 rfl rfl rfl ?_)))
 refine Calls.mono (l15True_spec hX50.pins (hu.mono (Pin.le_trans (Pin.le_trans (Pin.le_trans (Pin.le_trans hle10 hle23) hx37.le) hx43.le) hx49.le)) (hv.mono (Pin.le_trans (Pin.le_trans (Pin.le_trans (Pin.le_trans hle10 hle23) hx37.le) hx43.le) hx49.le)) hga hgb) ?_
 rintro _ w55 ⟨u53, G54, rfl, hr56, hx57⟩
 refine ⟨_, rfl, ?_⟩
 have hX58 := hX50.tr hx57
 have hb59 := hb51.ext hx57
 refine q1 rfl rfl rfl (o_call (vs := [u53]) Try.func16 nm16 rfl rfl rfl ?_)
 refine Calls.mono (l15Cut_spec hX58.pins hr56 (full_ok hga hgb hge)) ?_
 rintro _ w62 ⟨u60, G61, rfl, hr63, hx64⟩
 refine ⟨_, rfl, ?_⟩
 have hX65 := hX58.tr hx64
 have hb66 := hb59.ext hx64
 refine qd rfl rfl rfl (r_assign (v := u60) rfl) (qe (s_then (s_seq (s_seq (c_reg ?_)))))
 refine qd rfl rfl rfl (r_move (v := u60) rfl) (qd rfl rfl rfl (run_len Try.underlying26 (v := u60) rfl hr63) (qd rfl rfl rfl (r_gtr rfl rfl) (qe (s_then ?_))))
 refine c_ifd (p := (200 : Int) < ((cutL (fullL ns bs)).length : Int)) rfl rfl (fun h67 => ?_) (fun h67 => ?_)
 refine s_seq (c_reg ?_)
 refine qd rfl rfl rfl (r_build [(.slice none 0 0)] [(.slice none 0 0)] [] Try.underlying28 zr28 rfl pl28 rfl (fun _ h => by cases h) rfl) (q0 rfl rfl rfl (o_stp (cs' := [(.slice none 0 0)]) (us := [(.slice none 0 0)]) (v := (.agg [(.slice none 0 0)].toArray)) sz28 rfl rfl rfl (ones1 (by rfl)) hX65.pins hb66 (Nat.le_of_ble_eq_true rfl) rfl (fun w68 hb69 hp70 hg71 hz72 => ?_)))
 have hX73 := hX65.write hp70 hg71 ((lo_box hlo34))
 refine qd rfl rfl rfl (r_assign (v := (.bool false)) rfl) (qe (s_then ?_))
 refine wp_ret (s_ret (c_retct (cs := [(.slice none 0 0)]) (v := (.bool false)) rfl rfl rfl rfl rfl ag28 sz28 (fun j u hj => by rw [Nat.zero_add]; exact hb69.cell hj) ?_))
 obtain ⟨e1, e2⟩ := @prf_no ns bs (fun g => absurd g.le (by omega))
 rw [e1, e2]
 exact ⟨_, _, rfl, (nil_reads _ _), hX73⟩
 refine wp_skip (s_then (s_seq (c_reg ?_)))
 refine qd rfl rfl rfl (r_move (v := u60) rfl) (qd rfl rfl rfl (r_build [(.slice none 0 0)] [u60] [(0, u60, [u60])] Try.underlying28 zr28 rfl pl28 rfl (List.forall_mem_cons.2 ⟨(cells_one hr63.one), (fun _ h => by cases h)⟩) rfl) (q0 rfl rfl rfl (o_stp (cs' := [u60]) (us := [u60]) (v := (.agg [u60].toArray)) sz28 rfl rfl rfl (ones1 hr63.one) hX65.pins hb66 (Nat.le_of_ble_eq_true rfl) rfl (fun w74 hb75 hp76 hg77 hz78 => ?_))))
 have hX79 := hX65.write hp76 hg77 ((lo_box hlo34))
 refine qd rfl rfl rfl (r_assign (v := (.bool true)) rfl) (qe (s_then ?_))
 refine wp_ret (s_ret (c_retct (cs := [u60]) (v := (.bool true)) rfl rfl rfl rfl rfl ag28 sz28 (fun j u hj => by rw [Nat.zero_add]; exact hb75.cell hj) ?_))
 obtain ⟨e1, e2⟩ := @prf_yes ns bs ⟨hga, hgb, hge, by omega⟩
 rw [e1, e2]
 exact ⟨_, _, rfl, hr63, hX79⟩
 refine s_seq (c_reg ?_)
 refine qd rfl rfl rfl (r_build [(.slice none 0 0)] [(.slice none 0 0)] [] Try.underlying28 zr28 rfl pl28 rfl (fun _ h => by cases h) rfl) (q0 rfl rfl rfl (o_stp (cs' := [(.slice none 0 0)]) (us := [(.slice none 0 0)]) (v := (.agg [(.slice none 0 0)].toArray)) sz28 rfl rfl rfl (ones1 (by rfl)) hX50.pins hb51 (Nat.le_of_ble_eq_true rfl) rfl (fun w80 hb81 hp82 hg83 hz84 => ?_)))
 have hX85 := hX50.write hp82 hg83 ((lo_box hlo34))
 refine qd rfl rfl rfl (r_assign (v := (.bool false)) rfl) (qe (s_then ?_))
 refine wp_ret (s_ret (c_retct (cs := [(.slice none 0 0)]) (v := (.bool false)) rfl rfl rfl rfl rfl ag28 sz28 (fun j u hj => by rw [Nat.zero_add]; exact hb81.cell hj) ?_))
 obtain ⟨e1, e2⟩ := @prf_no ns bs (fun g => decP_false.1 h52 g.ge)
 rw [e1, e2]
 exact ⟨_, _, rfl, (nil_reads _ _), hX85⟩
 refine qs rfl rfl rfl rfl rfl rfl (qs rfl rfl rfl rfl rfl rfl (qs rfl rfl rfl rfl rfl rfl (qs rfl rfl rfl rfl rfl rfl (qd rfl rfl rfl (r_pickT (v := (.bool true)) rfl rfl) (qe (s_then ?_))))))
 refine c_ifT rfl rfl (s_seq (c_reg ?_))
 refine qd rfl rfl rfl (r_build [(.slice none 0 0)] [(.slice none 0 0)] [] Try.underlying28 zr28 rfl pl28 rfl (fun _ h => by cases h) rfl) (q0 rfl rfl rfl (o_stp (cs' := [(.slice none 0 0)]) (us := [(.slice none 0 0)]) (v := (.agg [(.slice none 0 0)].toArray)) sz28 rfl rfl rfl (ones1 (by rfl)) hX44.pins hb45 (Nat.le_of_ble_eq_true rfl) rfl (fun w86 hb87 hp88 hg89 hz90 => ?_)))
 have hX91 := hX44.write hp88 hg89 ((lo_box hlo34))
 refine qd rfl rfl rfl (r_assign (v := (.bool false)) rfl) (qe (s_then ?_))
 refine wp_ret (s_ret (c_retct (cs := [(.slice none 0 0)]) (v := (.bool false)) rfl rfl rfl rfl rfl ag28 sz28 (fun j u hj => by rw [Nat.zero_add]; exact hb87.cell hj) ?_))
 obtain ⟨e1, e2⟩ := @prf_no ns bs (fun g => goodB_false.1 ((good_eq bs).symm.trans h46) g.gb)
 rw [e1, e2]
 exact ⟨_, _, rfl, (nil_reads _ _), hX91⟩
 refine qs rfl rfl rfl rfl rfl rfl (qs rfl rfl rfl rfl rfl rfl (qs rfl rfl rfl rfl rfl rfl (qd rfl rfl rfl (r_pickT (v := (.bool true)) rfl rfl) (qd rfl rfl rfl (r_move (v := (.bool true)) rfl) (qs rfl rfl rfl rfl rfl rfl (qs rfl rfl rfl rfl rfl rfl (qs rfl rfl rfl rfl rfl rfl (qs rfl rfl rfl rfl rfl rfl (qd rfl rfl rfl (r_pickT (v := (.bool true)) rfl rfl) (qe (s_then ?_)))))))))))
 refine c_ifT rfl rfl (s_seq (c_reg ?_))
 refine qd rfl rfl rfl (r_build [(.slice none 0 0)] [(.slice none 0 0)] [] Try.underlying28 zr28 rfl pl28 rfl (fun _ h => by cases h) rfl) (q0 rfl rfl rfl (o_stp (cs' := [(.slice none 0 0)]) (us := [(.slice none 0 0)]) (v := (.agg [(.slice none 0 0)].toArray)) sz28 rfl rfl rfl (ones1 (by rfl)) hX38.pins hb39 (Nat.le_of_ble_eq_true rfl) rfl (fun w92 hb93 hp94 hg95 hz96 => ?_)))
 have hX97 := hX38.write hp94 hg95 ((lo_box hlo34))
 refine qd rfl rfl rfl (r_assign (v := (.bool false)) rfl) (qe (s_then ?_))
 refine wp_ret (s_ret (c_retct (cs := [(.slice none 0 0)]) (v := (.bool false)) rfl rfl rfl rfl rfl ag28 sz28 (fun j u hj => by rw [Nat.zero_add]; exact hb93.cell hj) ?_))
 obtain ⟨e1, e2⟩ := @prf_no ns bs (fun g => goodB_false.1 ((good_eq ns).symm.trans h40) g.ga)
 rw [e1, e2]
 exact ⟨_, _, rfl, (nil_reads _ _), hX97⟩

end PF4
end Go.Proofs.Ytdleojbknkbpiaa

set_option maxRecDepth 20000
set_option maxHeartbeats 2000000
namespace Go.Proofs.Ytdleojbknkbpiaa
namespace Q1
open Go.RowKit Go.GL Go.Proofs

theorem mk3 : (Try.prog.info? 3).map (fun i => (i.size, i.bytes, i.zero)) = some (1, 8, some (.int .i64 0)) := by kernel_rfl

theorem renamed_spec {w : World} {G : Pin} {u v : Value} {xs ys : List Int} (hP : Pins G w) (hu : RSl eInt G u xs) (hv : RSl eInt G v ys) (hs : xs.length ≤ 1048576) (hb : ∀ i, i < xs.length → 0 ≤ xs.getD i 0 ∧ xs.getD i 0 < ys.length) :
  Calls Try.prog 49 [u, v].toArray w fun e w' => ∃ (u : Value) (G' : Pin), e = .returned u ∧ Own eInt 3 G' w' w.heap.size u (atL ys xs) ∧ Ext noS G w G' w' := by
 refine s_enter (n := 27) Try.func49 Try.ntmps49 rfl rfl ?_
 have hX0 : Ext noS G w G w := Ext.refl hP
 have hm := hu.max
 have hal : (atL ys xs).length = xs.length := at_length
 have hrl : (List.replicate xs.length (0 : Int)).length = xs.length := List.length_replicate
 refine s_seq (c_reg ?_)
 refine qd rfl rfl rfl (r_assign (v := (.slice none 0 0)) rfl) (qe (s_then (s_seq (c_reg ?_))))
 refine qd rfl rfl rfl (r_move (v := u) rfl) (qd rfl rfl rfl (run_len Try.underlying47 (v := u) rfl hu) (q1 rfl rfl rfl (o_make (E := eInt) 0 8 (.int .i64 0) Try.underlying47 mk3 (fun _ => rfl) rfl rfl hX0.pins (by omega) (by omega) (by omega) (fun u1 w2 ho3 hp4 hl5 hk6 => ?_))))
 have hX7 := hX0.step hp4 hl5
 have ho8 : Own eInt 3 G w2 w.heap.size u1 (List.replicate xs.length 0) := ho3.weaken hX0.size
 have hm9 : (List.replicate xs.length 0).length = xs.length := List.length_replicate ..
 refine qd rfl rfl rfl (r_assign (v := u1) rfl) (qe (s_then (s_seq (s_seq (c_reg ?_)))))
 refine qd rfl rfl rfl (r_move (v := u) rfl) (qd rfl rfl rfl (run_len Try.underlying47 (v := u) rfl hu) (qd rfl rfl rfl (r_move (v := (.int .i64 0)) rfl) (qe (s_then ?_))))
 refine s_blk (s_loop (fun (k : Nat) (en : Nat → Value) (W : World) => ∃ (env1 : Nat → Value) (j : Nat) (os : List Int), en = (upd (upd (upd (upd (upd (upd env1 1 v) 4 (.slice none 0 0)) 5 u1) 11 u) 12 (.int .i64 (xs.length : Int))) 13 (.int .i64 (j : Int))) ∧ k = xs.length - j ∧ Ext noS G w G W ∧ (j ≤ xs.length) ∧ (os = (atL ys xs).take j ++ (List.replicate xs.length 0).drop j) ∧ (os.length = xs.length) ∧ (Own eInt 3 G W w.heap.size u1 (os))) _ ⟨_, 0, List.replicate xs.length 0, (packS (x := 13) (packS (x := 12) (packS (x := 11) (packS (x := 5) (packS (x := 4) (pack1 (x := 1) rfl) rfl) rfl) rfl) rfl) rfl), rfl, hX7, Nat.zero_le _, rfl, hrl, ho8⟩ ?_)
 rintro k10 _ w11 ⟨env1, j, os, rfl, hk12, hX13, hj, hr, hol, hw14⟩
 refine s_seq (c_reg ?_)
 refine qd rfl rfl rfl (r_lss rfl rfl) (qe (s_then (s_seq ?_)))
 refine c_ifd (p := ((j : Int) : Int) < (xs.length : Int)) rfl rfl (fun h15 => ?_) (fun h15 => ?_)
 have hbj := hb j (by omega)
 refine wp_skip (s_then (s_seq ?_))
 refine s_blk (s_seq (c_reg ?_))
 refine qd rfl rfl rfl (r_move (v := (.int .i64 (j : Int))) rfl) (qd rfl rfl rfl (run_idx Try.underlying47 sz3 (v := u) rfl rfl hu (by omega) (by omega)) (qd rfl rfl rfl (run_load_int (r := xs.getD j 0) rfl ag3 (z := (j : Int)) rfl hu hX13.pins (by omega) (by omega)) (qd rfl rfl rfl (r_assign (v := (.int .i64 (j : Int))) rfl) (qd rfl rfl rfl (r_assign (v := (.int .i64 (xs.getD j 0))) rfl) (qe (s_then (c_reg ?_)))))))
 refine qd rfl rfl rfl (r_move (v := u1) rfl) (qd rfl rfl rfl (r_move (v := (.int .i64 (j : Int))) rfl) (qd rfl rfl rfl (r_move (v := v) rfl) (qd rfl rfl rfl (r_move (v := (.int .i64 (xs.getD j 0))) rfl) (qd rfl rfl rfl (run_idx Try.underlying47 sz3 (v := v) rfl rfl hv (by omega) (by omega)) (qd rfl rfl rfl (run_load_int (r := ys.getD (xs.getD j 0).toNat 0) rfl ag3 (z := (xs.getD j 0)) rfl hv hX13.pins (by omega) (by omega)) (qd rfl rfl rfl (run_idx Try.underlying47 sz3 (v := u1) rfl rfl hw14.read (by omega) (by omega)) (q0 rfl rfl rfl (o_set (E := eInt) (v := u1) (u := (.int .i64 (ys.getD (xs.getD j 0).toNat 0))) (z := (j : Int)) (ys.getD (xs.getD j 0).toNat 0) sz3 rfl rfl rfl rfl hX13.pins hw14 (by omega) (by omega) (fun w16 ho17 hp18 hg19 hz20 => ?_)))))))))
 have hX21 := hX13.write hp18 hg19 ((lo_own hw14))
 refine qe (s_blkN (s_then (c_reg ?_)))
 refine qd rfl rfl rfl (r_add rfl rfl (by omega)) (qd rfl rfl rfl (r_move (v := (.int .i64 ((j : Int) + 1))) rfl) (qe (s_lopN (⟨_, ?_, _, rfl, _, j + 1, os.set j (ys.getD (xs.getD j 0).toNat 0), (packS (x := 13) (packS (x := 12) (packS (x := 11) (packS (x := 5) (packS (x := 4) (pack1 (x := 1) rfl) rfl) rfl) rfl) rfl) rfl), rfl, hX21, (by omega), (by rw [hr]; exact cur_set 0 (by omega) (by omega) (at_getD (by omega))), ((List.length_set ..).trans hol), ho17⟩))))
 omega
 refine wp_exit (s_thenE (s_lopE (s_blkE (s_then (s_seq (c_reg ?_))))))
 refine qd rfl rfl rfl (r_move (v := u1) rfl) (qd rfl rfl rfl (r_assign (v := u1) rfl) (qe (s_then ?_)))
 refine wp_ret (s_ret (c_ret1 (v := u1) rfl rfl rfl ?_))
 rw [cur_end (by omega) (by omega)] at hr
 exact ⟨_, _, rfl, (by rw [← hr]; exact hw14), hX13⟩

end Q1
end Go.Proofs.Ytdleojbknkbpiaa
