/- Walks, printed by a program (walkgen.py) from the spec specs_p. -/
import Derived.Test.YtgnbnieoghnboaaChecked
import Derived.Test.YtgnbnieoghnboaaRow
import Derived.Test.YtgnbnieoghnboaaClaim
import Derived.Test.YtgnbnieoghnboaaText
import Derived.Test.YtgnbnieoghnboaaB1
import Derived.Test.YtgnbnieoghnboaaC1
import Derived.Test.YtgnbnieoghnboaaE1
set_option maxRecDepth 20000
set_option maxHeartbeats 1000000
namespace Go.Proofs.Ytgnbnieoghnboaa
namespace P1
open Go.RowKit Go.GL Go.Proofs
open Go.Proofs.Ytgnbnieoghnboaa.B1
open Go.Proofs.Ytgnbnieoghnboaa.C1
open Go.Proofs.Ytgnbnieoghnboaa.E1
theorem ag3 : (Try.prog.underlying 3).map aggD = some false := by kernel_rfl
theorem ag32 : (Try.prog.underlying 32).map aggD = some false := by kernel_rfl
theorem ag34 : (Try.prog.underlying 34).map aggD = some true := by kernel_rfl
theorem ag36 : (Try.prog.underlying 36).map aggD = some false := by kernel_rfl
theorem ag38 : (Try.prog.underlying 38).map aggD = some true := by kernel_rfl
theorem ag69 : (Try.prog.underlying 69).map aggD = some false := by kernel_rfl
theorem ag71 : (Try.prog.underlying 71).map aggD = some true := by kernel_rfl
theorem ag94 : (Try.prog.underlying 94).map aggD = some true := by kernel_rfl
theorem ap94 : (Try.prog.info? 94).map (fun i => (i.size, i.bytes, (i.zero.map (·.cells.size)))) = some (2, 16, some 2) := by kernel_rfl
theorem eg94 : (Try.prog.eqGuardType Try.prog.depth 94) = false := by kernel_rfl
theorem nm102 : (Try.f102.name == "runtime.NumGoroutine") = false := by kernel_rfl
theorem nm106 : (Try.f106.name == "runtime.NumGoroutine") = false := by kernel_rfl
theorem nm115 : (Try.f115.name == "runtime.NumGoroutine") = false := by kernel_rfl
theorem nm29 : (Try.f29.name == "runtime.NumGoroutine") = false := by kernel_rfl
theorem nm30 : (Try.f30.name == "runtime.NumGoroutine") = false := by kernel_rfl
theorem nm31 : (Try.f31.name == "runtime.NumGoroutine") = false := by kernel_rfl
theorem nm32 : (Try.f32.name == "runtime.NumGoroutine") = false := by kernel_rfl
theorem nm35 : (Try.f35.name == "runtime.NumGoroutine") = false := by kernel_rfl
theorem nm36 : (Try.f36.name == "runtime.NumGoroutine") = false := by kernel_rfl
theorem nm65 : (Try.f65.name == "runtime.NumGoroutine") = false := by kernel_rfl
theorem nm66 : (Try.f66.name == "runtime.NumGoroutine") = false := by kernel_rfl
theorem nm76 : (Try.f76.name == "runtime.NumGoroutine") = false := by kernel_rfl
theorem nm77 : (Try.f77.name == "runtime.NumGoroutine") = false := by kernel_rfl
theorem nm78 : (Try.f78.name == "runtime.NumGoroutine") = false := by kernel_rfl
theorem nz3 : (Try.prog.info? 3).map (·.size == 0) = some false := by kernel_rfl
theorem nz32 : (Try.prog.info? 32).map (·.size == 0) = some false := by kernel_rfl
theorem nz36 : (Try.prog.info? 36).map (·.size == 0) = some false := by kernel_rfl
theorem nz69 : (Try.prog.info? 69).map (·.size == 0) = some false := by kernel_rfl
theorem sz104 : (Try.prog.info? 104).map (·.size) = some 2 := by kernel_rfl
theorem sz3 : (Try.prog.info? 3).map (·.size) = some 1 := by kernel_rfl
theorem sz34 : (Try.prog.info? 34).map (·.size) = some 1 := by kernel_rfl
theorem sz38 : (Try.prog.info? 38).map (·.size) = some 1 := by kernel_rfl
theorem sz71 : (Try.prog.info? 71).map (·.size) = some 4 := by kernel_rfl
theorem sz94 : (Try.prog.info? 94).map (·.size) = some 2 := by kernel_rfl
theorem zr71 : (Try.prog.info? 71).bind (·.zero) = some (.agg #[(.int .i64 0), (.int .i64 0), (.slice none 0 0), (.slice none 0 0)]) := by kernel_rfl
theorem zr94 : (Try.prog.info? 94).bind (·.zero) = some (.agg #[(.int .i64 0), (.int .i64 0)]) := by kernel_rfl

theorem rightsOf_spec {w : World} {G : Pin} {u v : Value} {ns bs : List Nd} {x y : Int} (hP : Pins G w) (hu : RSl eNode G u ns) (hv : RSl eNode G v bs) (hx : 0 ≤ x ∧ x < ns.length) (hy : 0 ≤ y ∧ y < bs.length) (hs : (ns.getD x.toNat default).l.length ≤ 1048576 ∧ (bs.getD y.toNat default).r.length ≤ 1048576) :
    Calls Try.prog 77 [u, v, (.int .i64 x), (.int .i64 y)].toArray w fun e w' => ∃ (u : Value) (G' : Pin), e = .returned u ∧ Own eP2 94 G' w' w.heap.size u (rightsP ns bs x y) ∧ Ext noS G w G' w' := by
  refine s_enter (n := 50) Try.func77 Try.ntmps77 rfl rfl ?_
  have hX0 : Ext noS G w G w := Ext.refl hP
  refine s_seq ?_
  refine c_reg ?_
  refine qd rfl rfl rfl (r_assign (v := (.slice none 0 0)) rfl) ?_
  refine qe ?_
  refine s_then ?_
  refine s_seq ?_
  refine c_reg ?_
  refine q1 rfl rfl rfl (o_build0 (E := eP2) (e := 94) Try.underlying122 sz94 hX0.pins (fun u1 w2 ho3 hp4 hl5 hk6 => ?_))
  have hX7 := hX0.step hp4 hl5
  have ho8 : Own eP2 94 G w2 w.heap.size u1 ([]) := ho3.weaken hX0.size
  refine qd rfl rfl rfl (r_assign (v := u1) rfl) ?_
  refine qe ?_
  refine s_then ?_
  refine s_seq ?_
  refine s_seq ?_
  refine c_reg ?_
  refine qd rfl rfl rfl (r_move (v := u) rfl) ?_
  refine qd rfl rfl rfl (r_move (v := (.int .i64 x)) rfl) ?_
  refine qd rfl rfl rfl (run_idx Try.underlying32 sz104 (v := u) rfl rfl hu (by omega) (by omega)) ?_
  refine qd rfl rfl rfl (run_fld (off := 0) Try.underlying104 rfl rfl nz69 (z := x) (k := 0) rfl hu (by omega) (by omega)) ?_
  obtain ⟨u9, hr10, hl11⟩ := nm_nl (hu.at (z := x) (by omega) (by omega)) (j := (x).toNat) rfl
  have hm12 := hr10.max
  refine qd rfl rfl rfl (hl11 ag69 rfl hX7.pins) ?_
  refine qd rfl rfl rfl (run_len Try.underlying69 (v := u9) rfl hr10) ?_
  refine qd rfl rfl rfl (r_move (v := (.int .i64 0)) rfl) ?_
  refine qe ?_
  refine s_then ?_
  refine s_blk ?_
  refine s_loop (fun (k : Nat) (en : Nat → Value) (W : World) => ∃ (env1 : Nat → Value) (j : Nat) (o : Value) (os : List (Int × Int)), en = (upd (upd (upd (upd (upd (upd (upd (upd env1 1 v) 2 (.int .i64 x)) 3 (.int .i64 y)) 8 (.slice none 0 0)) 9 o) 19 u9) 20 (.int .i64 (((ns.getD (x).toNat default).l).length : Int))) 21 (.int .i64 (j : Int))) ∧ k = (ns.getD x.toNat default).l.length - j ∧ Ext noS G w G W ∧ (j ≤ (ns.getD x.toNat default).l.length) ∧ (os = ((ns.getD x.toNat default).l.take j).map (fun l => (l, y))) ∧ (os.length = j) ∧ (Own eP2 94 G W w.heap.size o (os))) _ ⟨_, 0, u1, [], (packS (x := 21) (packS (x := 20) (packS (x := 19) (packS (x := 9) (packS (x := 8) (packS (x := 3) (packS (x := 2) (pack1 (x := 1) rfl) rfl) rfl) rfl) rfl) rfl) rfl) rfl), rfl, hX7, Nat.zero_le _, rfl, rfl, ho8⟩ ?_
  rintro k13 _ w14 ⟨env1, j, o, os, rfl, hk15, hX16, hj, hr, hol, hw17⟩
  refine s_seq ?_
  refine c_reg ?_
  refine qd rfl rfl rfl (r_lss rfl rfl) ?_
  refine qe ?_
  refine s_then ?_
  refine s_seq ?_
  refine c_ifd (p := ((j : Int) : Int) < (((ns.getD (x).toNat default).l).length : Int)) rfl rfl (fun h18 => ?_) (fun h18 => ?_)
  · skip
    refine wp_skip ?_
    refine s_then ?_
    refine s_seq ?_
    refine s_blk ?_
    refine s_seq ?_
    refine c_reg ?_
    refine qd rfl rfl rfl (run_idx Try.underlying69 sz3 (v := u9) rfl rfl hr10 (by omega) (by omega)) ?_
    refine qd rfl rfl rfl (run_load_int (r := ((ns.getD (x).toNat default).l).getD j 0) rfl ag3 (z := (j : Int)) rfl hr10 hX16.pins (by omega) (by omega)) ?_
    refine qd rfl rfl rfl (r_assign (v := (.int .i64 (((ns.getD (x).toNat default).l).getD j 0))) rfl) ?_
    refine qe ?_
    refine s_then ?_
    refine c_reg ?_
    refine qd rfl rfl rfl (r_move (v := o) rfl) ?_
    refine qd rfl rfl rfl (r_move (v := (.int .i64 (((ns.getD (x).toNat default).l).getD j 0))) rfl) ?_
    refine qd rfl rfl rfl (r_move (v := (.int .i64 y)) rfl) ?_
    refine qd rfl rfl rfl (r_buildA (m := 1) [(.int .i64 0), (.int .i64 0)] [(.int .i64 (((ns.getD (x).toNat default).l).getD j 0)), (.int .i64 y)] [(0, (.int .i64 (((ns.getD (x).toNat default).l).getD j 0)), [(.int .i64 (((ns.getD (x).toNat default).l).getD j 0))]), (1, (.int .i64 y), [(.int .i64 y)])] Try.underlying94 zr94 rfl sz3 rfl (List.forall_mem_cons.2 ⟨rfl, (List.forall_mem_cons.2 ⟨rfl, (fun _ h => by cases h)⟩)⟩) rfl) ?_
    refine q1 rfl rfl rfl (o_build1 (E := eP2) (e := 94) [(.int .i64 (((ns.getD (x).toNat default).l).getD j 0)), (.int .i64 y)] (((ns.getD (x).toNat default).l).getD j 0, y) Try.underlying122 sz94 zr94 rfl rfl (by decide) hX16.pins (fun u19 w20 ho21 hp22 hl23 hk24 => ?_))
    have hX25 := hX16.step hp22 hl23
    have ho26 := hw17.below hl23
    have ha27 : Apart u19.ownBlock o.ownBlock := new_ne_own hk24 hw17.lt
    have ho28 : Own eP2 94 G w20 w.heap.size u19 ([(((ns.getD (x).toNat default).l).getD j 0, y)]) := ho21.weaken hX16.size
    refine q1 rfl rfl rfl (o_append (E := eP2) (v := o) (u := u19) 16 Try.underlying122 ap94 (by decide) rfl rfl hX25.pins ho26 ho28.src (by first | omega | (simp; done) | (simp; omega)) (by first | omega | (simp; done) | (simp; omega)) (hX25.size) (fun u29 w30 ho31 hp32 hg33 hw34 => ?_))
    have hX35 := hX25.write hp32 hg33 ((lo_own ho26))
    have ho36 := ho28.keptA hg33 ha27
    have ha37 : Apart u19.ownBlock u29.ownBlock := app_ne_own ha27 hw34 ho28.lt
    have hm38 : (os ++ ([(((ns.getD (x).toNat default).l).getD j 0, y)])).length = os.length + 1 := by simp
    refine qd rfl rfl rfl (r_assign (v := u29) rfl) ?_
    refine qe ?_
    refine s_blkN ?_
    refine s_then ?_
    refine c_reg ?_
    refine qd rfl rfl rfl (r_add rfl rfl (by omega)) ?_
    refine qd rfl rfl rfl (r_move (v := (.int .i64 ((j : Int) + 1))) rfl) ?_
    refine qe ?_
    refine s_lopN ?_
    refine ⟨_, ?_, _, rfl, _, j + 1, u29, os ++ [((ns.getD x.toNat default).l.getD j 0, y)], (packS (x := 21) (packS (x := 20) (packS (x := 19) (packS (x := 9) (packS (x := 8) (packS (x := 3) (packS (x := 2) (pack1 (x := 1) rfl) rfl) rfl) rfl) rfl) rfl) rfl) rfl), rfl, hX35, (by omega), (by rw [hr]; exact map_next (f := (fun l => (l, y))) 0 (by omega)), (by rw [List.length_append, hol]; rfl), ho31⟩
    omega
  · skip
    refine wp_exit ?_
    refine s_thenE ?_
    refine s_lopE ?_
    refine s_blkE ?_
    refine s_then ?_
    refine s_seq ?_
    refine s_seq ?_
    refine c_reg ?_
    refine qd rfl rfl rfl (r_move (v := v) rfl) ?_
    refine qd rfl rfl rfl (r_move (v := (.int .i64 y)) rfl) ?_
    refine qd rfl rfl rfl (run_idx Try.underlying32 sz104 (v := v) rfl rfl hv (by omega) (by omega)) ?_
    refine qd rfl rfl rfl (run_fld (off := 1) Try.underlying104 rfl rfl nz69 (z := y) (k := 0) rfl hv (by omega) (by omega)) ?_
    obtain ⟨u39, hr40, hl41⟩ := nm_nr (hv.at (z := y) (by omega) (by omega)) (j := (y).toNat) rfl
    have hm42 := hr40.max
    refine qd rfl rfl rfl (hl41 ag69 rfl hX16.pins) ?_
    refine qd rfl rfl rfl (run_len Try.underlying69 (v := u39) rfl hr40) ?_
    refine qd rfl rfl rfl (r_move (v := (.int .i64 0)) rfl) ?_
    refine qe ?_
    refine s_then ?_
    refine s_blk ?_
    refine s_loop (fun (k : Nat) (en : Nat → Value) (W : World) => ∃ (env1 : Nat → Value) (q : Nat) (o2 : Value) (os2 : List (Int × Int)), en = (upd (upd (upd (upd (upd (upd env1 2 (.int .i64 x)) 8 (.slice none 0 0)) 9 o2) 36 u39) 37 (.int .i64 (((bs.getD (y).toNat default).r).length : Int))) 38 (.int .i64 (q : Int))) ∧ k = (bs.getD y.toNat default).r.length - q ∧ Ext noS G w G W ∧ (q ≤ (bs.getD y.toNat default).r.length) ∧ (os2 = os ++ ((bs.getD y.toNat default).r.take q).map (fun k => (x, k))) ∧ (os2.length = j + q) ∧ (Own eP2 94 G W w.heap.size o2 (os2))) _ ⟨_, 0, o, os, (packS (x := 38) (packS (x := 37) (packS (x := 36) (packS (x := 9) (packS (x := 8) (pack1 (x := 2) rfl) rfl) rfl) rfl) rfl) rfl), rfl, hX16, Nat.zero_le _, (by simp), hol, hw17⟩ ?_
    rintro k43 _ w44 ⟨env1, q, o2, os2, rfl, hk45, hX46, hq, hr2, hol2, hw47⟩
    refine s_seq ?_
    refine c_reg ?_
    refine qd rfl rfl rfl (r_lss rfl rfl) ?_
    refine qe ?_
    refine s_then ?_
    refine s_seq ?_
    refine c_ifd (p := ((q : Int) : Int) < (((bs.getD (y).toNat default).r).length : Int)) rfl rfl (fun h48 => ?_) (fun h48 => ?_)
    · skip
      refine wp_skip ?_
      refine s_then ?_
      refine s_seq ?_
      refine s_blk ?_
      refine s_seq ?_
      refine c_reg ?_
      refine qd rfl rfl rfl (run_idx Try.underlying69 sz3 (v := u39) rfl rfl hr40 (by omega) (by omega)) ?_
      refine qd rfl rfl rfl (run_load_int (r := ((bs.getD (y).toNat default).r).getD q 0) rfl ag3 (z := (q : Int)) rfl hr40 hX46.pins (by omega) (by omega)) ?_
      refine qd rfl rfl rfl (r_assign (v := (.int .i64 (((bs.getD (y).toNat default).r).getD q 0))) rfl) ?_
      refine qe ?_
      refine s_then ?_
      refine c_reg ?_
      refine qd rfl rfl rfl (r_move (v := o2) rfl) ?_
      refine qd rfl rfl rfl (r_move (v := (.int .i64 x)) rfl) ?_
      refine qd rfl rfl rfl (r_move (v := (.int .i64 (((bs.getD (y).toNat default).r).getD q 0))) rfl) ?_
      refine qd rfl rfl rfl (r_buildA (m := 1) [(.int .i64 0), (.int .i64 0)] [(.int .i64 x), (.int .i64 (((bs.getD (y).toNat default).r).getD q 0))] [(0, (.int .i64 x), [(.int .i64 x)]), (1, (.int .i64 (((bs.getD (y).toNat default).r).getD q 0)), [(.int .i64 (((bs.getD (y).toNat default).r).getD q 0))])] Try.underlying94 zr94 rfl sz3 rfl (List.forall_mem_cons.2 ⟨rfl, (List.forall_mem_cons.2 ⟨rfl, (fun _ h => by cases h)⟩)⟩) rfl) ?_
      refine q1 rfl rfl rfl (o_build1 (E := eP2) (e := 94) [(.int .i64 x), (.int .i64 (((bs.getD (y).toNat default).r).getD q 0))] (x, ((bs.getD (y).toNat default).r).getD q 0) Try.underlying122 sz94 zr94 rfl rfl (by decide) hX46.pins (fun u49 w50 ho51 hp52 hl53 hk54 => ?_))
      have hX55 := hX46.step hp52 hl53
      have ho56 := hw47.below hl53
      have ha57 : Apart u49.ownBlock o2.ownBlock := new_ne_own hk54 hw47.lt
      have ho58 : Own eP2 94 G w50 w.heap.size u49 ([(x, ((bs.getD (y).toNat default).r).getD q 0)]) := ho51.weaken hX46.size
      refine q1 rfl rfl rfl (o_append (E := eP2) (v := o2) (u := u49) 16 Try.underlying122 ap94 (by decide) rfl rfl hX55.pins ho56 ho58.src (by first | omega | (simp; done) | (simp; omega)) (by first | omega | (simp; done) | (simp; omega)) (hX55.size) (fun u59 w60 ho61 hp62 hg63 hw64 => ?_))
      have hX65 := hX55.write hp62 hg63 ((lo_own ho56))
      have ho66 := ho58.keptA hg63 ha57
      have ha67 : Apart u49.ownBlock u59.ownBlock := app_ne_own ha57 hw64 ho58.lt
      have hm68 : (os2 ++ ([(x, ((bs.getD (y).toNat default).r).getD q 0)])).length = os2.length + 1 := by simp
      refine qd rfl rfl rfl (r_assign (v := u59) rfl) ?_
      refine qe ?_
      refine s_blkN ?_
      refine s_then ?_
      refine c_reg ?_
      refine qd rfl rfl rfl (r_add rfl rfl (by omega)) ?_
      refine qd rfl rfl rfl (r_move (v := (.int .i64 ((q : Int) + 1))) rfl) ?_
      refine qe ?_
      refine s_lopN ?_
      refine ⟨_, ?_, _, rfl, _, q + 1, u59, os2 ++ [(x, (bs.getD y.toNat default).r.getD q 0)], (packS (x := 38) (packS (x := 37) (packS (x := 36) (packS (x := 9) (packS (x := 8) (pack1 (x := 2) rfl) rfl) rfl) rfl) rfl) rfl), rfl, hX65, (by omega), (by rw [hr2, List.append_assoc]; exact congrArg (os ++ ·) (map_next (f := (fun k => (x, k))) 0 (by omega))), (by rw [List.length_append, hol2]; rfl), ho61⟩
      omega
    · skip
      refine wp_exit ?_
      refine s_thenE ?_
      refine s_lopE ?_
      refine s_blkE ?_
      refine s_then ?_
      refine s_seq ?_
      refine c_reg ?_
      refine qd rfl rfl rfl (r_move (v := o2) rfl) ?_
      refine qd rfl rfl rfl (r_assign (v := o2) rfl) ?_
      refine qe ?_
      refine s_then ?_
      refine wp_ret ?_
      refine s_ret ?_
      refine c_ret1 (v := o2) rfl rfl rfl ?_
      rw [take_all (by omega)] at hr hr2
      rw [hr] at hr2
      exact ⟨_, _, rfl, (by unfold rightsP; rw [← hr2]; exact hw47), hX46⟩

theorem leftsOf_spec {w : World} {G : Pin} {u v : Value} {ns bs : List Nd} {x y : Int} (hP : Pins G w) (hu : RSl eNode G u ns) (hv : RSl eNode G v bs) (hx : 0 ≤ x ∧ x < ns.length) (hy : 0 ≤ y ∧ y < bs.length) (hs : (ns.getD x.toNat default).l.length ≤ 1048576 ∧ (bs.getD y.toNat default).r.length ≤ 1048576) :
    Calls Try.prog 78 [u, v, (.int .i64 x), (.int .i64 y)].toArray w fun e w' => ∃ (u : Value) (G' : Pin), e = .returned u ∧ Own eP2 94 G' w' w.heap.size u (leftsP ns bs x y) ∧ Ext noS G w G' w' := by
  refine s_enter (n := 50) Try.func78 Try.ntmps78 rfl rfl ?_
  have hX0 : Ext noS G w G w := Ext.refl hP
  refine s_seq ?_
  refine c_reg ?_
  refine qd rfl rfl rfl (r_assign (v := (.slice none 0 0)) rfl) ?_
  refine qe ?_
  refine s_then ?_
  refine s_seq ?_
  refine c_reg ?_
  refine q1 rfl rfl rfl (o_build0 (E := eP2) (e := 94) Try.underlying122 sz94 hX0.pins (fun u1 w2 ho3 hp4 hl5 hk6 => ?_))
  have hX7 := hX0.step hp4 hl5
  have ho8 : Own eP2 94 G w2 w.heap.size u1 ([]) := ho3.weaken hX0.size
  refine qd rfl rfl rfl (r_assign (v := u1) rfl) ?_
  refine qe ?_
  refine s_then ?_
  refine s_seq ?_
  refine s_seq ?_
  refine c_reg ?_
  refine qd rfl rfl rfl (r_move (v := u) rfl) ?_
  refine qd rfl rfl rfl (r_move (v := (.int .i64 x)) rfl) ?_
  refine qd rfl rfl rfl (run_idx Try.underlying32 sz104 (v := u) rfl rfl hu (by omega) (by omega)) ?_
  refine qd rfl rfl rfl (run_fld (off := 0) Try.underlying104 rfl rfl nz69 (z := x) (k := 0) rfl hu (by omega) (by omega)) ?_
  obtain ⟨u9, hr10, hl11⟩ := nm_nl (hu.at (z := x) (by omega) (by omega)) (j := (x).toNat) rfl
  have hm12 := hr10.max
  refine qd rfl rfl rfl (hl11 ag69 rfl hX7.pins) ?_
  refine qd rfl rfl rfl (run_len Try.underlying69 (v := u9) rfl hr10) ?_
  refine qd rfl rfl rfl (r_move (v := (.int .i64 0)) rfl) ?_
  refine qe ?_
  refine s_then ?_
  refine s_blk ?_
  refine s_loop (fun (k : Nat) (en : Nat → Value) (W : World) => ∃ (env1 : Nat → Value) (j : Nat) (o : Value) (os : List (Int × Int)), en = (upd (upd (upd (upd (upd (upd (upd (upd env1 1 v) 2 (.int .i64 x)) 3 (.int .i64 y)) 8 (.slice none 0 0)) 9 o) 19 u9) 20 (.int .i64 (((ns.getD (x).toNat default).l).length : Int))) 21 (.int .i64 (j : Int))) ∧ k = (ns.getD x.toNat default).l.length - j ∧ Ext noS G w G W ∧ (j ≤ (ns.getD x.toNat default).l.length) ∧ (os = ((ns.getD x.toNat default).l.take j).map (fun k => (k, y))) ∧ (os.length = j) ∧ (Own eP2 94 G W w.heap.size o (os))) _ ⟨_, 0, u1, [], (packS (x := 21) (packS (x := 20) (packS (x := 19) (packS (x := 9) (packS (x := 8) (packS (x := 3) (packS (x := 2) (pack1 (x := 1) rfl) rfl) rfl) rfl) rfl) rfl) rfl) rfl), rfl, hX7, Nat.zero_le _, rfl, rfl, ho8⟩ ?_
  rintro k13 _ w14 ⟨env1, j, o, os, rfl, hk15, hX16, hj, hr, hol, hw17⟩
  refine s_seq ?_
  refine c_reg ?_
  refine qd rfl rfl rfl (r_lss rfl rfl) ?_
  refine qe ?_
  refine s_then ?_
  refine s_seq ?_
  refine c_ifd (p := ((j : Int) : Int) < (((ns.getD (x).toNat default).l).length : Int)) rfl rfl (fun h18 => ?_) (fun h18 => ?_)
  · skip
    refine wp_skip ?_
    refine s_then ?_
    refine s_seq ?_
    refine s_blk ?_
    refine s_seq ?_
    refine c_reg ?_
    refine qd rfl rfl rfl (run_idx Try.underlying69 sz3 (v := u9) rfl rfl hr10 (by omega) (by omega)) ?_
    refine qd rfl rfl rfl (run_load_int (r := ((ns.getD (x).toNat default).l).getD j 0) rfl ag3 (z := (j : Int)) rfl hr10 hX16.pins (by omega) (by omega)) ?_
    refine qd rfl rfl rfl (r_assign (v := (.int .i64 (((ns.getD (x).toNat default).l).getD j 0))) rfl) ?_
    refine qe ?_
    refine s_then ?_
    refine c_reg ?_
    refine qd rfl rfl rfl (r_move (v := o) rfl) ?_
    refine qd rfl rfl rfl (r_move (v := (.int .i64 (((ns.getD (x).toNat default).l).getD j 0))) rfl) ?_
    refine qd rfl rfl rfl (r_move (v := (.int .i64 y)) rfl) ?_
    refine qd rfl rfl rfl (r_buildA (m := 1) [(.int .i64 0), (.int .i64 0)] [(.int .i64 (((ns.getD (x).toNat default).l).getD j 0)), (.int .i64 y)] [(0, (.int .i64 (((ns.getD (x).toNat default).l).getD j 0)), [(.int .i64 (((ns.getD (x).toNat default).l).getD j 0))]), (1, (.int .i64 y), [(.int .i64 y)])] Try.underlying94 zr94 rfl sz3 rfl (List.forall_mem_cons.2 ⟨rfl, (List.forall_mem_cons.2 ⟨rfl, (fun _ h => by cases h)⟩)⟩) rfl) ?_
    refine q1 rfl rfl rfl (o_build1 (E := eP2) (e := 94) [(.int .i64 (((ns.getD (x).toNat default).l).getD j 0)), (.int .i64 y)] (((ns.getD (x).toNat default).l).getD j 0, y) Try.underlying122 sz94 zr94 rfl rfl (by decide) hX16.pins (fun u19 w20 ho21 hp22 hl23 hk24 => ?_))
    have hX25 := hX16.step hp22 hl23
    have ho26 := hw17.below hl23
    have ha27 : Apart u19.ownBlock o.ownBlock := new_ne_own hk24 hw17.lt
    have ho28 : Own eP2 94 G w20 w.heap.size u19 ([(((ns.getD (x).toNat default).l).getD j 0, y)]) := ho21.weaken hX16.size
    refine q1 rfl rfl rfl (o_append (E := eP2) (v := o) (u := u19) 16 Try.underlying122 ap94 (by decide) rfl rfl hX25.pins ho26 ho28.src (by first | omega | (simp; done) | (simp; omega)) (by first | omega | (simp; done) | (simp; omega)) (hX25.size) (fun u29 w30 ho31 hp32 hg33 hw34 => ?_))
    have hX35 := hX25.write hp32 hg33 ((lo_own ho26))
    have ho36 := ho28.keptA hg33 ha27
    have ha37 : Apart u19.ownBlock u29.ownBlock := app_ne_own ha27 hw34 ho28.lt
    have hm38 : (os ++ ([(((ns.getD (x).toNat default).l).getD j 0, y)])).length = os.length + 1 := by simp
    refine qd rfl rfl rfl (r_assign (v := u29) rfl) ?_
    refine qe ?_
    refine s_blkN ?_
    refine s_then ?_
    refine c_reg ?_
    refine qd rfl rfl rfl (r_add rfl rfl (by omega)) ?_
    refine qd rfl rfl rfl (r_move (v := (.int .i64 ((j : Int) + 1))) rfl) ?_
    refine qe ?_
    refine s_lopN ?_
    refine ⟨_, ?_, _, rfl, _, j + 1, u29, os ++ [((ns.getD x.toNat default).l.getD j 0, y)], (packS (x := 21) (packS (x := 20) (packS (x := 19) (packS (x := 9) (packS (x := 8) (packS (x := 3) (packS (x := 2) (pack1 (x := 1) rfl) rfl) rfl) rfl) rfl) rfl) rfl) rfl), rfl, hX35, (by omega), (by rw [hr]; exact map_next (f := (fun k => (k, y))) 0 (by omega)), (by rw [List.length_append, hol]; rfl), ho31⟩
    omega
  · skip
    refine wp_exit ?_
    refine s_thenE ?_
    refine s_lopE ?_
    refine s_blkE ?_
    refine s_then ?_
    refine s_seq ?_
    refine s_seq ?_
    refine c_reg ?_
    refine qd rfl rfl rfl (r_move (v := v) rfl) ?_
    refine qd rfl rfl rfl (r_move (v := (.int .i64 y)) rfl) ?_
    refine qd rfl rfl rfl (run_idx Try.underlying32 sz104 (v := v) rfl rfl hv (by omega) (by omega)) ?_
    refine qd rfl rfl rfl (run_fld (off := 1) Try.underlying104 rfl rfl nz69 (z := y) (k := 0) rfl hv (by omega) (by omega)) ?_
    obtain ⟨u39, hr40, hl41⟩ := nm_nr (hv.at (z := y) (by omega) (by omega)) (j := (y).toNat) rfl
    have hm42 := hr40.max
    refine qd rfl rfl rfl (hl41 ag69 rfl hX16.pins) ?_
    refine qd rfl rfl rfl (run_len Try.underlying69 (v := u39) rfl hr40) ?_
    refine qd rfl rfl rfl (r_move (v := (.int .i64 0)) rfl) ?_
    refine qe ?_
    refine s_then ?_
    refine s_blk ?_
    refine s_loop (fun (k : Nat) (en : Nat → Value) (W : World) => ∃ (env1 : Nat → Value) (q : Nat) (o2 : Value) (os2 : List (Int × Int)), en = (upd (upd (upd (upd (upd (upd env1 2 (.int .i64 x)) 8 (.slice none 0 0)) 9 o2) 36 u39) 37 (.int .i64 (((bs.getD (y).toNat default).r).length : Int))) 38 (.int .i64 (q : Int))) ∧ k = (bs.getD y.toNat default).r.length - q ∧ Ext noS G w G W ∧ (q ≤ (bs.getD y.toNat default).r.length) ∧ (os2 = os ++ ((bs.getD y.toNat default).r.take q).map (fun r => (x, r))) ∧ (os2.length = j + q) ∧ (Own eP2 94 G W w.heap.size o2 (os2))) _ ⟨_, 0, o, os, (packS (x := 38) (packS (x := 37) (packS (x := 36) (packS (x := 9) (packS (x := 8) (pack1 (x := 2) rfl) rfl) rfl) rfl) rfl) rfl), rfl, hX16, Nat.zero_le _, (by simp), hol, hw17⟩ ?_
    rintro k43 _ w44 ⟨env1, q, o2, os2, rfl, hk45, hX46, hq, hr2, hol2, hw47⟩
    refine s_seq ?_
    refine c_reg ?_
    refine qd rfl rfl rfl (r_lss rfl rfl) ?_
    refine qe ?_
    refine s_then ?_
    refine s_seq ?_
    refine c_ifd (p := ((q : Int) : Int) < (((bs.getD (y).toNat default).r).length : Int)) rfl rfl (fun h48 => ?_) (fun h48 => ?_)
    · skip
      refine wp_skip ?_
      refine s_then ?_
      refine s_seq ?_
      refine s_blk ?_
      refine s_seq ?_
      refine c_reg ?_
      refine qd rfl rfl rfl (run_idx Try.underlying69 sz3 (v := u39) rfl rfl hr40 (by omega) (by omega)) ?_
      refine qd rfl rfl rfl (run_load_int (r := ((bs.getD (y).toNat default).r).getD q 0) rfl ag3 (z := (q : Int)) rfl hr40 hX46.pins (by omega) (by omega)) ?_
      refine qd rfl rfl rfl (r_assign (v := (.int .i64 (((bs.getD (y).toNat default).r).getD q 0))) rfl) ?_
      refine qe ?_
      refine s_then ?_
      refine c_reg ?_
      refine qd rfl rfl rfl (r_move (v := o2) rfl) ?_
      refine qd rfl rfl rfl (r_move (v := (.int .i64 x)) rfl) ?_
      refine qd rfl rfl rfl (r_move (v := (.int .i64 (((bs.getD (y).toNat default).r).getD q 0))) rfl) ?_
      refine qd rfl rfl rfl (r_buildA (m := 1) [(.int .i64 0), (.int .i64 0)] [(.int .i64 x), (.int .i64 (((bs.getD (y).toNat default).r).getD q 0))] [(0, (.int .i64 x), [(.int .i64 x)]), (1, (.int .i64 (((bs.getD (y).toNat default).r).getD q 0)), [(.int .i64 (((bs.getD (y).toNat default).r).getD q 0))])] Try.underlying94 zr94 rfl sz3 rfl (List.forall_mem_cons.2 ⟨rfl, (List.forall_mem_cons.2 ⟨rfl, (fun _ h => by cases h)⟩)⟩) rfl) ?_
      refine q1 rfl rfl rfl (o_build1 (E := eP2) (e := 94) [(.int .i64 x), (.int .i64 (((bs.getD (y).toNat default).r).getD q 0))] (x, ((bs.getD (y).toNat default).r).getD q 0) Try.underlying122 sz94 zr94 rfl rfl (by decide) hX46.pins (fun u49 w50 ho51 hp52 hl53 hk54 => ?_))
      have hX55 := hX46.step hp52 hl53
      have ho56 := hw47.below hl53
      have ha57 : Apart u49.ownBlock o2.ownBlock := new_ne_own hk54 hw47.lt
      have ho58 : Own eP2 94 G w50 w.heap.size u49 ([(x, ((bs.getD (y).toNat default).r).getD q 0)]) := ho51.weaken hX46.size
      refine q1 rfl rfl rfl (o_append (E := eP2) (v := o2) (u := u49) 16 Try.underlying122 ap94 (by decide) rfl rfl hX55.pins ho56 ho58.src (by first | omega | (simp; done) | (simp; omega)) (by first | omega | (simp; done) | (simp; omega)) (hX55.size) (fun u59 w60 ho61 hp62 hg63 hw64 => ?_))
      have hX65 := hX55.write hp62 hg63 ((lo_own ho56))
      have ho66 := ho58.keptA hg63 ha57
      have ha67 : Apart u49.ownBlock u59.ownBlock := app_ne_own ha57 hw64 ho58.lt
      have hm68 : (os2 ++ ([(x, ((bs.getD (y).toNat default).r).getD q 0)])).length = os2.length + 1 := by simp
      refine qd rfl rfl rfl (r_assign (v := u59) rfl) ?_
      refine qe ?_
      refine s_blkN ?_
      refine s_then ?_
      refine c_reg ?_
      refine qd rfl rfl rfl (r_add rfl rfl (by omega)) ?_
      refine qd rfl rfl rfl (r_move (v := (.int .i64 ((q : Int) + 1))) rfl) ?_
      refine qe ?_
      refine s_lopN ?_
      refine ⟨_, ?_, _, rfl, _, q + 1, u59, os2 ++ [(x, (bs.getD y.toNat default).r.getD q 0)], (packS (x := 38) (packS (x := 37) (packS (x := 36) (packS (x := 9) (packS (x := 8) (pack1 (x := 2) rfl) rfl) rfl) rfl) rfl) rfl), rfl, hX65, (by omega), (by rw [hr2, List.append_assoc]; exact congrArg (os ++ ·) (map_next (f := (fun r => (x, r))) 0 (by omega))), (by rw [List.length_append, hol2]; rfl), ho61⟩
      omega
    · skip
      refine wp_exit ?_
      refine s_thenE ?_
      refine s_lopE ?_
      refine s_blkE ?_
      refine s_then ?_
      refine s_seq ?_
      refine c_reg ?_
      refine qd rfl rfl rfl (r_move (v := o2) rfl) ?_
      refine qd rfl rfl rfl (r_assign (v := o2) rfl) ?_
      refine qe ?_
      refine s_then ?_
      refine wp_ret ?_
      refine s_ret ?_
      refine c_ret1 (v := o2) rfl rfl rfl ?_
      rw [take_all (by omega)] at hr hr2
      rw [hr] at hr2
      exact ⟨_, _, rfl, (by unfold leftsP; rw [← hr2]; exact hw47), hX46⟩

theorem pIndex_spec {w : World} {G : Pin} {v : Value} {l : List (Int × Int)} {x y : Int} (hP : Pins G w) (hv : RSl eP2 G v l) :
    Calls Try.prog 115 [v, (.agg [(.int .i64 x), (.int .i64 y)].toArray)].toArray w fun e w' => ∃ G', e = .returned (.int .i64 (idxG ((x, y) : Int × Int) 0 l)) ∧ Ext noS G w G' w' := by
  refine s_enter (n := 19) Try.func115 Try.ntmps115 rfl rfl ?_
  have hX0 : Ext noS G w G w := Ext.refl hP
  have hm := hv.max
  refine s_seq ?_
  refine c_reg ?_
  refine q1 rfl rfl rfl (o_box [(.int .i64 x), (.int .i64 y)] (v := (.agg [(.int .i64 x), (.int .i64 y)].toArray)) rfl rfl hX0.pins (fun b1 w2 hk3 hb4 hp5 hl6 => ?_))
  have hX7 := hX0.step hp5 hl6
  have hlo8 : w.heap.size ≤ b1 := by have := hX0.size; omega
  obtain ⟨G9, hle10, hX11, hbp12, hf13⟩ := hb4.shut hX7 hlo8
  refine qd rfl rfl rfl (r_assign (v := (.int .i64 0)) rfl) ?_
  refine qe ?_
  refine s_then ?_
  refine s_seq ?_
  refine s_seq ?_
  refine c_reg ?_
  refine qd rfl rfl rfl (r_move (v := v) rfl) ?_
  refine qd rfl rfl rfl (run_len Try.underlying122 (v := v) rfl hv) ?_
  refine qd rfl rfl rfl (r_move (v := (.int .i64 0)) rfl) ?_
  refine qe ?_
  refine s_then ?_
  refine s_blk ?_
  refine s_loop (fun (k : Nat) (en : Nat → Value) (W : World) => ∃ (env1 : Nat → Value) (j : Nat), en = (upd (upd (upd (upd env1 0 v) 3 (.pointer (some ⟨b1, 0, none⟩))) 7 (.int .i64 (l.length : Int))) 8 (.int .i64 (j : Int))) ∧ k = l.length - j ∧ Ext noS G w G9 W ∧ (j ≤ l.length) ∧ (idxG ((x, y) : Int × Int) 0 l = idxG (x, y) j (l.drop j))) _ ⟨_, 0, (packS (x := 8) (packS (x := 7) (packS (x := 3) (pack1 (x := 0) rfl) rfl) rfl) rfl), rfl, hX11, Nat.zero_le _, rfl⟩ ?_
  rintro k14 _ w15 ⟨env1, j, rfl, hk16, hX17, hj, hr⟩
  refine s_seq ?_
  refine c_reg ?_
  refine qd rfl rfl rfl (r_lss rfl rfl) ?_
  refine qe ?_
  refine s_then ?_
  refine s_seq ?_
  refine c_ifd (p := ((j : Int) : Int) < (l.length : Int)) rfl rfl (fun h18 => ?_) (fun h18 => ?_)
  · skip
    refine wp_skip ?_
    refine s_then ?_
    refine s_seq ?_
    refine s_blk ?_
    refine s_seq ?_
    refine c_reg ?_
    refine qd rfl rfl rfl (r_move (v := (.int .i64 (j : Int))) rfl) ?_
    refine qd rfl rfl rfl (r_assign (v := (.int .i64 (j : Int))) rfl) ?_
    refine qe ?_
    refine s_then ?_
    refine s_seq ?_
    refine c_draw (S := fun w => Pins G9 w) (last := 6) (by kernel_rfl) rfl ?_
    have hl19 : Below w15.heap.size w15 w15.drew := (Below.refl _ _).drew
    have hp20 := hX17.pins.below hl19
    have hX21 := hX17.step hp20 hl19
    refine dr_take (i := 0) rfl rfl rfl (want_none rfl _) (by kernel_rfl) (fun _ hS => r_ldpA (cs := [(.int .i64 x), (.int .i64 y)]) ag94 sz94 rfl (fun j u hj => hS _ _ _ (hbp12 _ _ (by simpa using hj)))) hX21.pins ?_
    refine dr_take (i := 1) rfl rfl rfl (want_none rfl _) (by kernel_rfl) (fun _ _ => r_move (v := v) rfl) hX21.pins ?_
    refine dr_take (i := 2) rfl rfl rfl (want_none rfl _) (by kernel_rfl) (fun _ _ => r_move (v := (.int .i64 (j : Int))) rfl) hX21.pins ?_
    refine dr_take (i := 3) rfl rfl rfl (want_none rfl _) (by kernel_rfl) (fun _ _ => run_idx Try.underlying122 sz94 (v := v) rfl rfl hv (by omega) (by omega)) hX21.pins ?_
    obtain ⟨cs22, hrep23, hagg24, hcell25⟩ := nm_el (j := j) default (hv.at (z := (j : Int)) (by omega) (by omega)) rfl
    obtain rfl := hrep23
    refine dr_take (i := 4) rfl rfl rfl (want_none rfl _) (by kernel_rfl) (fun _ hS => hagg24 ag94 sz94 rfl (Pins.of_le hS hle10)) hX21.pins ?_
    refine dr_take (i := 5) rfl rfl rfl (want_none rfl _) (by kernel_rfl) (fun _ _ => r_eqlP Try.underlying94 Try.underlying3 sz3 eg94 rfl rfl) hX21.pins ?_
    refine dr_end (by kernel_rfl) ?_
    refine s_then ?_
    refine c_ifd (p := (((x, y) : Int × Int) = ((l.getD j default).1, (l.getD j default).2))) rfl rfl (fun h26 => ?_) (fun h26 => ?_)
    · skip
      refine s_seq ?_
      refine c_reg ?_
      refine qd rfl rfl rfl (r_move (v := (.int .i64 (j : Int))) rfl) ?_
      refine qd rfl rfl rfl (r_assign (v := (.int .i64 (j : Int))) rfl) ?_
      refine qe ?_
      refine s_then ?_
      refine wp_ret ?_
      refine s_ret ?_
      refine c_ret1 (v := (.int .i64 (j : Int))) rfl rfl rfl ?_
      exact ⟨_, congrArg (fun z => Ending.returned (Value.int .i64 z)) ((hr.trans (idxG_hit (d := default) (by omega) h26)).symm), hX21⟩
    · skip
      refine wp_skip ?_
      refine s_blkN ?_
      refine s_then ?_
      refine c_reg ?_
      refine qd rfl rfl rfl (r_add rfl rfl (by omega)) ?_
      refine qd rfl rfl rfl (r_move (v := (.int .i64 ((j : Int) + 1))) rfl) ?_
      refine qe ?_
      refine s_lopN ?_
      refine ⟨_, ?_, _, rfl, _, j + 1, (packS (x := 8) (packS (x := 7) (packS (x := 3) (pack1 (x := 0) rfl) rfl) rfl) rfl), rfl, hX21, (by omega), (hr.trans (idxG_next (d := default) (by omega) h26))⟩
      omega
  · skip
    refine wp_exit ?_
    refine s_thenE ?_
    refine s_lopE ?_
    refine s_blkE ?_
    refine s_then ?_
    refine s_seq ?_
    refine c_reg ?_
    refine qd rfl rfl rfl (r_assign (v := (.int .i64 (-1))) rfl) ?_
    refine qe ?_
    refine s_then ?_
    refine wp_ret ?_
    refine s_ret ?_
    refine c_ret1 (v := (.int .i64 (-1))) rfl rfl rfl ?_
    exact ⟨_, congrArg (fun z => Ending.returned (Value.int .i64 z)) ((hr.trans (idxG_end (by omega))).symm), hX17⟩

theorem pContains_spec {w : World} {G : Pin} {v : Value} {l : List (Int × Int)} {x y : Int} (hP : Pins G w) (hv : RSl eP2 G v l) :
    Calls Try.prog 106 [v, (.agg [(.int .i64 x), (.int .i64 y)].toArray)].toArray w fun e w' => ∃ G', e = .returned (.bool (decide ((x, y) ∈ l))) ∧ Ext noS G w G' w' := by
  refine s_enter (n := 9) Try.func106 Try.ntmps106 rfl rfl ?_
  have hX0 : Ext noS G w G w := Ext.refl hP
  refine s_seq ?_
  refine c_reg ?_
  refine q1 rfl rfl rfl (o_box [(.int .i64 x), (.int .i64 y)] (v := (.agg [(.int .i64 x), (.int .i64 y)].toArray)) rfl rfl hX0.pins (fun b1 w2 hk3 hb4 hp5 hl6 => ?_))
  have hX7 := hX0.step hp5 hl6
  have hlo8 : w.heap.size ≤ b1 := by have := hX0.size; omega
  obtain ⟨G9, hle10, hX11, hbp12, hf13⟩ := hb4.shut hX7 hlo8
  refine qd rfl rfl rfl (r_assign (v := (.bool false)) rfl) ?_
  refine qe ?_
  refine s_then ?_
  refine s_seq ?_
  refine c_reg ?_
  refine qd rfl rfl rfl (r_move (v := v) rfl) ?_
  refine qd rfl rfl rfl (r_ldpA (cs := [(.int .i64 x), (.int .i64 y)]) ag94 sz94 rfl (fun j u hj => hX11.pins _ _ _ (hbp12 _ _ (by simpa using hj)))) ?_
  refine q1 rfl rfl rfl (o_call (vs := [v, (.agg [(.int .i64 x), (.int .i64 y)].toArray)]) Try.func115 nm115 rfl rfl rfl ?_)
  refine Calls.mono (pIndex_spec hX11.pins (hv.mono hle10)) ?_
  rintro _ w15 ⟨G14, rfl, hx16⟩
  refine ⟨_, rfl, ?_⟩
  have hX17 := hX11.tr hx16
  refine qd rfl rfl rfl (r_geq rfl rfl) ?_
  refine qd rfl rfl rfl (r_assign (v := (.bool (decide ((0 : Int) ≤ (idxG ((x, y) : Int × Int) 0 l))))) rfl) ?_
  refine qe ?_
  refine s_then ?_
  refine wp_ret ?_
  refine s_ret ?_
  refine c_ret1 (v := (.bool (decide ((0 : Int) ≤ (idxG ((x, y) : Int × Int) 0 l))))) rfl rfl rfl ?_
  exact ⟨_, congrArg (fun z => Ending.returned (Value.bool z)) (decide_eq_decide.2 (idxG_mem (by omega))), hX17⟩

theorem answers_spec {w : World} {G : Pin} {u v : Value} {ps : List Cl} {pl bf : Int} {l : List (Int × Int)} (hP : Pins G w) (hu : RSl eClaim G u ps) (hv : RSl eP2 G v l) (hb : bf ≤ ps.length) :
    Calls Try.prog 76 [(.agg [u].toArray), (.int .i64 pl), (.int .i64 bf), v].toArray w fun e w' => ∃ G', e = .returned (.bool (decP (AnsP ps pl bf l))) ∧ Ext noS G w G' w' := by
  refine s_enter (n := 31) Try.func76 Try.ntmps76 rfl rfl ?_
  have hX0 : Ext noS G w G w := Ext.refl hP
  refine s_seq ?_
  refine c_reg ?_
  refine q1 rfl rfl rfl (o_box [u] (v := (.agg [u].toArray)) rfl rfl hX0.pins (fun b1 w2 hk3 hb4 hp5 hl6 => ?_))
  have hX7 := hX0.step hp5 hl6
  have hlo8 : w.heap.size ≤ b1 := by have := hX0.size; omega
  obtain ⟨G9, hle10, hX11, hbp12, hf13⟩ := hb4.shut hX7 hlo8
  refine qd rfl rfl rfl (r_assign (v := (.bool false)) rfl) ?_
  refine qe ?_
  refine s_then ?_
  refine s_seq ?_
  refine s_seq ?_
  refine c_reg ?_
  refine qd rfl rfl rfl (r_move (v := (.int .i64 pl)) rfl) ?_
  refine qd rfl rfl rfl (r_lss rfl rfl) ?_
  refine qd rfl rfl rfl (r_move (v := (.bool (decide ((pl : Int) < 0)))) rfl) ?_
  refine qbd (p := (pl : Int) < 0) (t := 11) rfl (fun h14 => ?_) (fun h14 => ?_)
  · skip
    refine qs rfl rfl rfl rfl rfl rfl ?_
    refine qs rfl rfl rfl rfl rfl rfl ?_
    refine qs rfl rfl rfl rfl rfl rfl ?_
    refine qd rfl rfl rfl (r_pickT (v := (.bool true)) rfl rfl) ?_
    refine qe ?_
    refine s_then ?_
    refine c_ifT rfl rfl ?_
    refine s_seq ?_
    refine c_reg ?_
    refine qd rfl rfl rfl (r_assign (v := (.bool false)) rfl) ?_
    refine qe ?_
    refine s_then ?_
    refine wp_ret ?_
    refine s_ret ?_
    refine c_ret1 (v := (.bool false)) rfl rfl rfl ?_
    exact ⟨_, congrArg (fun z => Ending.returned (Value.bool z)) (decP_false.2 (fun a => by have h1 := a.1; have h2 := a.2.1; omega)).symm, hX11⟩
  · skip
    refine qdg rfl rfl rfl rfl rfl rfl (r_move (v := (.int .i64 pl)) rfl) ?_
    refine qdg rfl rfl rfl rfl rfl rfl (r_move (v := (.int .i64 bf)) rfl) ?_
    refine qdg rfl rfl rfl rfl rfl rfl (r_geq rfl rfl) ?_
    refine qd rfl rfl rfl (r_pickF (v := (.bool (decide ((bf : Int) ≤ pl)))) rfl rfl) ?_
    refine qe ?_
    refine s_then ?_
    refine c_ifd (p := (bf : Int) ≤ pl) rfl rfl (fun h15 => ?_) (fun h15 => ?_)
    · skip
      refine s_seq ?_
      refine c_reg ?_
      refine qd rfl rfl rfl (r_assign (v := (.bool false)) rfl) ?_
      refine qe ?_
      refine s_then ?_
      refine wp_ret ?_
      refine s_ret ?_
      refine c_ret1 (v := (.bool false)) rfl rfl rfl ?_
      exact ⟨_, congrArg (fun z => Ending.returned (Value.bool z)) (decP_false.2 (fun a => by have h1 := a.1; have h2 := a.2.1; omega)).symm, hX11⟩
    · skip
      refine wp_skip ?_
      refine s_then ?_
      refine s_seq ?_
      refine c_draw (S := fun w => Pins G9 w) (last := 16) (by kernel_rfl) rfl ?_
      have hl16 : Below w2.heap.size w2 w2.drew := (Below.refl _ _).drew
      have hp17 := hX11.pins.below hl16
      have hX18 := hX11.step hp17 hl16
      refine dr_take (i := 0) rfl rfl rfl (want_none rfl _) (by kernel_rfl) (fun _ _ => r_move (v := v) rfl) hX18.pins ?_
      refine dr_take (i := 1) rfl rfl rfl (want_none rfl _) (by kernel_rfl) (fun _ _ => r_fldp (k := 0) rfl Try.underlying38 rfl nz36 rfl) hX18.pins ?_
      refine dr_take (i := 2) rfl rfl rfl (want_none rfl _) (by kernel_rfl) (fun _ hS => r_ldp1 (u := u) ag36 rfl (hS _ _ _ (hbp12 0 _ rfl))) hX18.pins ?_
      refine dr_take (i := 3) rfl rfl rfl (want_none rfl _) (by kernel_rfl) (fun _ _ => r_move (v := (.int .i64 pl)) rfl) hX18.pins ?_
      refine dr_take (i := 4) rfl rfl rfl (want_none rfl _) (by kernel_rfl) (fun _ _ => run_idx Try.underlying36 sz71 (v := u) rfl rfl hu (by omega) (by omega)) hX18.pins ?_
      refine dr_take (i := 5) rfl rfl rfl (want_none rfl _) (by kernel_rfl) (fun _ _ => run_fld (off := 0) Try.underlying71 rfl rfl nz3 (z := pl) (k := 0) rfl hu (by omega) (by omega)) hX18.pins ?_
      obtain ⟨cs19, hrep20, hagg21, hcell22⟩ := nm_el (j := (pl).toNat) default (hu.at (z := pl) (by omega) (by omega)) rfl
      obtain ⟨u23, u25, rfl, hr24, hr26⟩ := hrep20
      have hm27 := hr24.max
      have hm28 := hr26.max
      refine dr_take (i := 6) rfl rfl rfl (want_none rfl _) (by kernel_rfl) (fun _ hS => hcell22 0 _ rfl ag3 rfl (Pins.of_le hS hle10)) hX18.pins ?_
      refine dr_take (i := 7) rfl rfl rfl (want_none rfl _) (by kernel_rfl) (fun _ _ => r_fldp (k := 0) rfl Try.underlying38 rfl nz36 rfl) hX18.pins ?_
      refine dr_take (i := 8) rfl rfl rfl (want_none rfl _) (by kernel_rfl) (fun _ hS => r_ldp1 (u := u) ag36 rfl (hS _ _ _ (hbp12 0 _ rfl))) hX18.pins ?_
      refine dr_take (i := 9) rfl rfl rfl (want_none rfl _) (by kernel_rfl) (fun _ _ => r_move (v := (.int .i64 pl)) rfl) hX18.pins ?_
      refine dr_take (i := 10) rfl rfl rfl (want_none rfl _) (by kernel_rfl) (fun _ _ => run_idx Try.underlying36 sz71 (v := u) rfl rfl hu (by omega) (by omega)) hX18.pins ?_
      refine dr_take (i := 11) rfl rfl rfl (want_none rfl _) (by kernel_rfl) (fun _ _ => run_fld (off := 1) Try.underlying71 rfl rfl nz3 (z := pl) (k := 0) rfl hu (by omega) (by omega)) hX18.pins ?_
      obtain ⟨cs29, hrep30, hagg31, hcell32⟩ := nm_el (j := (pl).toNat) default (hu.at (z := pl) (by omega) (by omega)) rfl
      obtain ⟨u33, u35, rfl, hr34, hr36⟩ := hrep30
      have hm37 := hr34.max
      have hm38 := hr36.max
      refine dr_take (i := 12) rfl rfl rfl (want_none rfl _) (by kernel_rfl) (fun _ hS => hcell32 1 _ rfl ag3 rfl (Pins.of_le hS hle10)) hX18.pins ?_
      refine dr_take (i := 13) rfl rfl rfl (want_none rfl _) (by kernel_rfl) (fun _ _ => r_buildA (m := 1) [(.int .i64 0), (.int .i64 0)] [(.int .i64 ((ps.getD (pl).toNat default).a)), (.int .i64 ((ps.getD (pl).toNat default).b))] [(0, (.int .i64 ((ps.getD (pl).toNat default).a)), [(.int .i64 ((ps.getD (pl).toNat default).a))]), (1, (.int .i64 ((ps.getD (pl).toNat default).b)), [(.int .i64 ((ps.getD (pl).toNat default).b))])] Try.underlying94 zr94 rfl sz3 rfl (List.forall_mem_cons.2 ⟨rfl, (List.forall_mem_cons.2 ⟨rfl, (fun _ h => by cases h)⟩)⟩) rfl) hX18.pins ?_
      refine dr_one (i := 14) (by kernel_rfl) (drOp1 (i := 14) rfl rfl rfl (want_none rfl _) (o_call (vs := [v, (.agg [(.int .i64 ((ps.getD (pl).toNat default).a)), (.int .i64 ((ps.getD (pl).toNat default).b))].toArray)]) Try.func106 nm106 rfl rfl rfl ?_))
      refine Calls.mono (pContains_spec hX18.pins (hv.mono hle10)) ?_
      rintro _ w40 ⟨G39, rfl, hx41⟩
      refine ⟨_, rfl, ?_⟩
      have hX42 := hX18.tr hx41
      refine ⟨fun _ => (Pins.of_le hX42.pins hx41.le), ?_⟩
      refine dr_take (i := 15) rfl rfl rfl (want_none rfl _) (by kernel_rfl) (fun _ _ => r_assign (v := (.bool (decide (((ps.getD (pl).toNat default).a, (ps.getD (pl).toNat default).b) ∈ l)))) rfl) (Pins.of_le hX42.pins hx41.le) ?_
      refine dr_end (by kernel_rfl) ?_
      refine s_then ?_
      refine wp_ret ?_
      refine s_ret ?_
      refine c_ret1 (v := (.bool (decide (((ps.getD (pl).toNat default).a, (ps.getD (pl).toNat default).b) ∈ l)))) rfl rfl rfl ?_
      refine ⟨_, congrArg (fun z => Ending.returned (Value.bool z)) ?_, hX42⟩
      by_cases hm : prC (ps.getD pl.toNat default) ∈ l
      · exact (decide_eq_true hm).trans (decP_true.2 ⟨by omega, by omega, hm⟩).symm
      · exact (decide_eq_false hm).trans (decP_false.2 (fun a => hm a.2.2)).symm

theorem right_spec {w : World} {G : Pin} {u v x : Value} {ps : List Cl} {ns bs : List Nd} {kz : Int} (hP : Pins G w) (hu : RSl eClaim G u ps) (ha : RSl eNode G v ns) (hb : RSl eNode G x bs) (hk : 0 ≤ kz ∧ kz < ps.length) (hga : GoodP ns) (hgb : GoodP bs) :
    Calls Try.prog 36 [(.agg [u].toArray), (.int .i64 kz), v, x].toArray w fun e w' => ∃ G', e = .returned (.bool (decP (RightP ns bs ps kz.toNat))) ∧ Ext noS G w G' w' := by
  refine s_enter (n := 115) Try.func36 Try.ntmps36 rfl rfl ?_
  have hX0 : Ext noS G w G w := Ext.refl hP
  refine s_seq ?_
  refine c_reg ?_
  refine q1 rfl rfl rfl (o_box [u] (v := (.agg [u].toArray)) rfl rfl hX0.pins (fun b1 w2 hk3 hb4 hp5 hl6 => ?_))
  have hX7 := hX0.step hp5 hl6
  have hlo8 : w.heap.size ≤ b1 := by have := hX0.size; omega
  obtain ⟨G9, hle10, hX11, hbp12, hf13⟩ := hb4.shut hX7 hlo8
  refine qd rfl rfl rfl (r_assign (v := (.bool false)) rfl) ?_
  refine qe ?_
  refine s_then ?_
  refine s_seq ?_
  refine c_reg ?_
  refine qd rfl rfl rfl (r_fldp (k := 0) rfl Try.underlying38 rfl nz36 rfl) ?_
  refine qd rfl rfl rfl (r_ldp1 (u := u) ag36 rfl (hX11.pins _ _ _ (hbp12 0 _ rfl))) ?_
  refine qd rfl rfl rfl (r_move (v := (.int .i64 kz)) rfl) ?_
  refine qd rfl rfl rfl (run_idx Try.underlying36 sz71 (v := u) rfl rfl hu (by omega) (by omega)) ?_
  obtain ⟨cs14, hrep15, hagg16, hcell17⟩ := nm_el (j := (kz).toNat) default (hu.at (z := kz) (by omega) (by omega)) rfl
  obtain ⟨u18, u20, rfl, hr19, hr21⟩ := hrep15
  have hm22 := hr19.max
  have hm23 := hr21.max
  refine qd rfl rfl rfl (hagg16 ag71 sz71 rfl (Pins.of_le hX11.pins hle10)) ?_
  refine q1 rfl rfl rfl (o_alloc [(.int .i64 0), (.int .i64 0), (.slice none 0 0), (.slice none 0 0)] zr71 rfl hX11.pins (fun b24 w25 hk26 hb27 hp28 hl29 => ?_))
  have hX30 := hX11.step hp28 hl29
  have hlo31 : w.heap.size ≤ b24 := by have := hX11.size; omega
  refine q0 rfl rfl rfl (o_stp (cs' := [(.int .i64 ((ps.getD (kz).toNat default).a)), (.int .i64 ((ps.getD (kz).toNat default).b)), u18, u20]) (us := [(.int .i64 ((ps.getD (kz).toNat default).a)), (.int .i64 ((ps.getD (kz).toNat default).b)), u18, u20]) (v := (.agg [(.int .i64 ((ps.getD (kz).toNat default).a)), (.int .i64 ((ps.getD (kz).toNat default).b)), u18, u20].toArray)) sz71 rfl rfl rfl (ones4 (by rfl) (by rfl) hr19.one hr21.one) hX30.pins hb27 (Nat.le_of_ble_eq_true rfl) rfl (fun w32 hb33 hp34 hg35 hz36 => ?_))
  have hX37 := hX30.write hp34 hg35 ((lo_box hlo31))
  obtain ⟨G38, hle39, hX40, hbp41, hf42⟩ := hb33.shut hX37 hlo31
  refine qe ?_
  refine s_then ?_
  refine s_seq ?_
  refine s_seq ?_
  refine c_reg ?_
  refine qd rfl rfl rfl (r_fldp (k := 0) rfl Try.underlying71 rfl nz3 rfl) ?_
  refine qd rfl rfl rfl (r_ldp1 (u := (.int .i64 ((ps.getD (kz).toNat default).a))) ag3 rfl (hX40.pins _ _ _ (hbp41 0 _ rfl))) ?_
  refine qd rfl rfl rfl (r_lss rfl rfl) ?_
  refine qd rfl rfl rfl (r_move (v := (.bool (decide (((ps.getD (kz).toNat default).a : Int) < 0)))) rfl) ?_
  refine qbd (p := ((ps.getD (kz).toNat default).a : Int) < 0) (t := 24) rfl (fun h43 => ?_) (fun h43 => ?_)
  · skip
    refine qs rfl rfl rfl rfl rfl rfl ?_
    refine qs rfl rfl rfl rfl rfl rfl ?_
    refine qs rfl rfl rfl rfl rfl rfl ?_
    refine qs rfl rfl rfl rfl rfl rfl ?_
    refine qs rfl rfl rfl rfl rfl rfl ?_
    refine qd rfl rfl rfl (r_pickT (v := (.bool true)) rfl rfl) ?_
    refine qd rfl rfl rfl (r_move (v := (.bool true)) rfl) ?_
    refine qs rfl rfl rfl rfl rfl rfl ?_
    refine qs rfl rfl rfl rfl rfl rfl ?_
    refine qs rfl rfl rfl rfl rfl rfl ?_
    refine qd rfl rfl rfl (r_pickT (v := (.bool true)) rfl rfl) ?_
    refine qd rfl rfl rfl (r_move (v := (.bool true)) rfl) ?_
    refine qs rfl rfl rfl rfl rfl rfl ?_
    refine qs rfl rfl rfl rfl rfl rfl ?_
    refine qs rfl rfl rfl rfl rfl rfl ?_
    refine qs rfl rfl rfl rfl rfl rfl ?_
    refine qs rfl rfl rfl rfl rfl rfl ?_
    refine qd rfl rfl rfl (r_pickT (v := (.bool true)) rfl rfl) ?_
    refine qe ?_
    refine s_then ?_
    refine c_ifT rfl rfl ?_
    refine s_seq ?_
    refine c_reg ?_
    refine qd rfl rfl rfl (r_assign (v := (.bool false)) rfl) ?_
    refine qe ?_
    refine s_then ?_
    refine wp_ret ?_
    refine s_ret ?_
    refine c_ret1 (v := (.bool false)) rfl rfl rfl ?_
    exact ⟨_, congrArg (fun z => Ending.returned (Value.bool z)) (decP_false.2 (fun g => by have h1 := g.ra; have h2 := g.rb; have h3 := g.hr; have h4 := g.hl; omega)).symm, hX40⟩
  · skip
    refine qdg rfl rfl rfl rfl rfl rfl (r_fldp (k := 0) rfl Try.underlying71 rfl nz3 rfl) ?_
    refine qdg rfl rfl rfl rfl rfl rfl (r_ldp1 (u := (.int .i64 ((ps.getD (kz).toNat default).a))) ag3 rfl (hX40.pins _ _ _ (hbp41 0 _ rfl))) ?_
    refine qdg rfl rfl rfl rfl rfl rfl (r_move (v := v) rfl) ?_
    refine qdg rfl rfl rfl rfl rfl rfl (run_len Try.underlying32 (v := v) rfl ha) ?_
    refine qdg rfl rfl rfl rfl rfl rfl (r_geq rfl rfl) ?_
    refine qd rfl rfl rfl (r_pickF (v := (.bool (decide (((ns.length : Int) : Int) ≤ ((ps.getD (kz).toNat default).a))))) rfl rfl) ?_
    refine qd rfl rfl rfl (r_move (v := (.bool (decide (((ns.length : Int) : Int) ≤ ((ps.getD (kz).toNat default).a))))) rfl) ?_
    refine qbd (p := ((ns.length : Int) : Int) ≤ ((ps.getD (kz).toNat default).a)) (t := 31) rfl (fun h44 => ?_) (fun h44 => ?_)
    · skip
      refine qs rfl rfl rfl rfl rfl rfl ?_
      refine qs rfl rfl rfl rfl rfl rfl ?_
      refine qs rfl rfl rfl rfl rfl rfl ?_
      refine qd rfl rfl rfl (r_pickT (v := (.bool true)) rfl rfl) ?_
      refine qd rfl rfl rfl (r_move (v := (.bool true)) rfl) ?_
      refine qs rfl rfl rfl rfl rfl rfl ?_
      refine qs rfl rfl rfl rfl rfl rfl ?_
      refine qs rfl rfl rfl rfl rfl rfl ?_
      refine qs rfl rfl rfl rfl rfl rfl ?_
      refine qs rfl rfl rfl rfl rfl rfl ?_
      refine qd rfl rfl rfl (r_pickT (v := (.bool true)) rfl rfl) ?_
      refine qe ?_
      refine s_then ?_
      refine c_ifT rfl rfl ?_
      refine s_seq ?_
      refine c_reg ?_
      refine qd rfl rfl rfl (r_assign (v := (.bool false)) rfl) ?_
      refine qe ?_
      refine s_then ?_
      refine wp_ret ?_
      refine s_ret ?_
      refine c_ret1 (v := (.bool false)) rfl rfl rfl ?_
      exact ⟨_, congrArg (fun z => Ending.returned (Value.bool z)) (decP_false.2 (fun g => by have h1 := g.ra; have h2 := g.rb; have h3 := g.hr; have h4 := g.hl; omega)).symm, hX40⟩
    · skip
      refine qdg rfl rfl rfl rfl rfl rfl (r_fldp (k := 1) rfl Try.underlying71 rfl nz3 rfl) ?_
      refine qdg rfl rfl rfl rfl rfl rfl (r_ldp1 (u := (.int .i64 ((ps.getD (kz).toNat default).b))) ag3 rfl (hX40.pins _ _ _ (hbp41 1 _ rfl))) ?_
      refine qdg rfl rfl rfl rfl rfl rfl (r_lss rfl rfl) ?_
      refine qd rfl rfl rfl (r_pickF (v := (.bool (decide (((ps.getD (kz).toNat default).b : Int) < 0)))) rfl rfl) ?_
      refine qd rfl rfl rfl (r_move (v := (.bool (decide (((ps.getD (kz).toNat default).b : Int) < 0)))) rfl) ?_
      refine qbd (p := ((ps.getD (kz).toNat default).b : Int) < 0) (t := 36) rfl (fun h45 => ?_) (fun h45 => ?_)
      · skip
        refine qs rfl rfl rfl rfl rfl rfl ?_
        refine qs rfl rfl rfl rfl rfl rfl ?_
        refine qs rfl rfl rfl rfl rfl rfl ?_
        refine qs rfl rfl rfl rfl rfl rfl ?_
        refine qs rfl rfl rfl rfl rfl rfl ?_
        refine qd rfl rfl rfl (r_pickT (v := (.bool true)) rfl rfl) ?_
        refine qe ?_
        refine s_then ?_
        refine c_ifT rfl rfl ?_
        refine s_seq ?_
        refine c_reg ?_
        refine qd rfl rfl rfl (r_assign (v := (.bool false)) rfl) ?_
        refine qe ?_
        refine s_then ?_
        refine wp_ret ?_
        refine s_ret ?_
        refine c_ret1 (v := (.bool false)) rfl rfl rfl ?_
        exact ⟨_, congrArg (fun z => Ending.returned (Value.bool z)) (decP_false.2 (fun g => by have h1 := g.ra; have h2 := g.rb; have h3 := g.hr; have h4 := g.hl; omega)).symm, hX40⟩
      · skip
        refine qdg rfl rfl rfl rfl rfl rfl (r_fldp (k := 1) rfl Try.underlying71 rfl nz3 rfl) ?_
        refine qdg rfl rfl rfl rfl rfl rfl (r_ldp1 (u := (.int .i64 ((ps.getD (kz).toNat default).b))) ag3 rfl (hX40.pins _ _ _ (hbp41 1 _ rfl))) ?_
        refine qdg rfl rfl rfl rfl rfl rfl (r_move (v := x) rfl) ?_
        refine qdg rfl rfl rfl rfl rfl rfl (run_len Try.underlying32 (v := x) rfl hb) ?_
        refine qdg rfl rfl rfl rfl rfl rfl (r_geq rfl rfl) ?_
        refine qd rfl rfl rfl (r_pickF (v := (.bool (decide (((bs.length : Int) : Int) ≤ ((ps.getD (kz).toNat default).b))))) rfl rfl) ?_
        refine qe ?_
        refine s_then ?_
        refine c_ifd (p := ((bs.length : Int) : Int) ≤ ((ps.getD (kz).toNat default).b)) rfl rfl (fun h46 => ?_) (fun h46 => ?_)
        · skip
          refine s_seq ?_
          refine c_reg ?_
          refine qd rfl rfl rfl (r_assign (v := (.bool false)) rfl) ?_
          refine qe ?_
          refine s_then ?_
          refine wp_ret ?_
          refine s_ret ?_
          refine c_ret1 (v := (.bool false)) rfl rfl rfl ?_
          exact ⟨_, congrArg (fun z => Ending.returned (Value.bool z)) (decP_false.2 (fun g => by have h1 := g.ra; have h2 := g.rb; have h3 := g.hr; have h4 := g.hl; omega)).symm, hX40⟩
        · skip
          refine wp_skip ?_
          refine s_then ?_
          refine s_seq ?_
          refine c_draw (S := fun w => Pins G38 w) (last := 14) (by kernel_rfl) rfl ?_
          have hl47 : Below w32.heap.size w32 w32.drew := (Below.refl _ _).drew
          have hp48 := hX40.pins.below hl47
          have hX49 := hX40.step hp48 hl47
          refine dr_take (i := 0) rfl rfl rfl (want_none rfl _) (by kernel_rfl) (fun _ _ => r_move (v := v) rfl) hX49.pins ?_
          refine dr_take (i := 1) rfl rfl rfl (want_none rfl _) (by kernel_rfl) (fun _ _ => r_fldp (k := 0) rfl Try.underlying71 rfl nz3 rfl) hX49.pins ?_
          refine dr_take (i := 2) rfl rfl rfl (want_none rfl _) (by kernel_rfl) (fun _ hS => r_ldp1 (u := (.int .i64 ((ps.getD (kz).toNat default).a))) ag3 rfl (hS _ _ _ (hbp41 0 _ rfl))) hX49.pins ?_
          refine dr_take (i := 3) rfl rfl rfl (want_none rfl _) (by kernel_rfl) (fun _ _ => run_idx Try.underlying32 sz104 (v := v) rfl rfl ha (by omega) (by omega)) hX49.pins ?_
          refine dr_take (i := 4) rfl rfl rfl (want_none rfl _) (by kernel_rfl) (fun _ _ => run_fld (off := 1) Try.underlying104 rfl rfl nz69 (z := ((ps.getD (kz).toNat default).a)) (k := 0) rfl ha (by omega) (by omega)) hX49.pins ?_
          obtain ⟨u50, hr51, hl52⟩ := nm_nr (ha.at (z := ((ps.getD (kz).toNat default).a)) (by omega) (by omega)) (j := ((ps.getD (kz).toNat default).a).toNat) rfl
          have hm53 := hr51.max
          refine dr_take (i := 5) rfl rfl rfl (want_none rfl _) (by kernel_rfl) (fun _ hS => hl52 ag69 rfl (Pins.of_le hS (Pin.le_trans hle10 hle39))) hX49.pins ?_
          refine dr_take (i := 6) rfl rfl rfl (want_none rfl _) (by kernel_rfl) (fun _ _ => r_move (v := x) rfl) hX49.pins ?_
          refine dr_take (i := 7) rfl rfl rfl (want_none rfl _) (by kernel_rfl) (fun _ _ => r_fldp (k := 1) rfl Try.underlying71 rfl nz3 rfl) hX49.pins ?_
          refine dr_take (i := 8) rfl rfl rfl (want_none rfl _) (by kernel_rfl) (fun _ hS => r_ldp1 (u := (.int .i64 ((ps.getD (kz).toNat default).b))) ag3 rfl (hS _ _ _ (hbp41 1 _ rfl))) hX49.pins ?_
          refine dr_take (i := 9) rfl rfl rfl (want_none rfl _) (by kernel_rfl) (fun _ _ => run_idx Try.underlying32 sz104 (v := x) rfl rfl hb (by omega) (by omega)) hX49.pins ?_
          refine dr_take (i := 10) rfl rfl rfl (want_none rfl _) (by kernel_rfl) (fun _ _ => run_fld (off := 0) Try.underlying104 rfl rfl nz69 (z := ((ps.getD (kz).toNat default).b)) (k := 0) rfl hb (by omega) (by omega)) hX49.pins ?_
          obtain ⟨u54, hr55, hl56⟩ := nm_nl (hb.at (z := ((ps.getD (kz).toNat default).b)) (by omega) (by omega)) (j := ((ps.getD (kz).toNat default).b).toNat) rfl
          have hm57 := hr55.max
          refine dr_take (i := 11) rfl rfl rfl (want_none rfl _) (by kernel_rfl) (fun _ hS => hl56 ag69 rfl (Pins.of_le hS (Pin.le_trans hle10 hle39))) hX49.pins ?_
          refine dr_take (i := 12) rfl rfl rfl (want_none rfl _) (by kernel_rfl) (fun _ _ => r_assign (v := u50) rfl) hX49.pins ?_
          refine dr_take (i := 13) rfl rfl rfl (want_none rfl _) (by kernel_rfl) (fun _ _ => r_assign (v := u54) rfl) hX49.pins ?_
          refine dr_end (by kernel_rfl) ?_
          refine s_then ?_
          refine s_seq ?_
          refine s_seq ?_
          refine c_reg ?_
          refine qd rfl rfl rfl (r_fldp (k := 2) rfl Try.underlying71 rfl nz69 rfl) ?_
          refine qd rfl rfl rfl (r_ldp1 (u := u18) ag69 rfl (hX49.pins _ _ _ (hbp41 2 _ rfl))) ?_
          refine qd rfl rfl rfl (run_len Try.underlying69 (v := u18) rfl hr19) ?_
          refine qd rfl rfl rfl (r_move (v := u50) rfl) ?_
          refine qd rfl rfl rfl (run_len Try.underlying69 (v := u50) rfl hr51) ?_
          refine qd rfl rfl rfl (r_neq rfl rfl) ?_
          refine qd rfl rfl rfl (r_move (v := (.bool (decide (((((ps.getD (kz).toNat default).r).length : Int) : Int) ≠ (((ns.getD ((ps.getD (kz).toNat default).a).toNat default).r).length : Int))))) rfl) ?_
          refine qbd (p := ((((ps.getD (kz).toNat default).r).length : Int) : Int) ≠ (((ns.getD ((ps.getD (kz).toNat default).a).toNat default).r).length : Int)) (t := 61) rfl (fun h58 => ?_) (fun h58 => ?_)
          · skip
            refine qs rfl rfl rfl rfl rfl rfl ?_
            refine qs rfl rfl rfl rfl rfl rfl ?_
            refine qs rfl rfl rfl rfl rfl rfl ?_
            refine qs rfl rfl rfl rfl rfl rfl ?_
            refine qs rfl rfl rfl rfl rfl rfl ?_
            refine qs rfl rfl rfl rfl rfl rfl ?_
            refine qd rfl rfl rfl (r_pickT (v := (.bool true)) rfl rfl) ?_
            refine qe ?_
            refine s_then ?_
            refine c_ifT rfl rfl ?_
            refine s_seq ?_
            refine c_reg ?_
            refine qd rfl rfl rfl (r_assign (v := (.bool false)) rfl) ?_
            refine qe ?_
            refine s_then ?_
            refine wp_ret ?_
            refine s_ret ?_
            refine c_ret1 (v := (.bool false)) rfl rfl rfl ?_
            exact ⟨_, congrArg (fun z => Ending.returned (Value.bool z)) (decP_false.2 (fun g => by have h1 := g.ra; have h2 := g.rb; have h3 := g.hr; have h4 := g.hl; omega)).symm, hX49⟩
          · skip
            refine qdg rfl rfl rfl rfl rfl rfl (r_fldp (k := 3) rfl Try.underlying71 rfl nz69 rfl) ?_
            refine qdg rfl rfl rfl rfl rfl rfl (r_ldp1 (u := u20) ag69 rfl (hX49.pins _ _ _ (hbp41 3 _ rfl))) ?_
            refine qdg rfl rfl rfl rfl rfl rfl (run_len Try.underlying69 (v := u20) rfl hr21) ?_
            refine qdg rfl rfl rfl rfl rfl rfl (r_move (v := u54) rfl) ?_
            refine qdg rfl rfl rfl rfl rfl rfl (run_len Try.underlying69 (v := u54) rfl hr55) ?_
            refine qdg rfl rfl rfl rfl rfl rfl (r_neq rfl rfl) ?_
            refine qd rfl rfl rfl (r_pickF (v := (.bool (decide (((((ps.getD (kz).toNat default).l).length : Int) : Int) ≠ (((bs.getD ((ps.getD (kz).toNat default).b).toNat default).l).length : Int))))) rfl rfl) ?_
            refine qe ?_
            refine s_then ?_
            refine c_ifd (p := ((((ps.getD (kz).toNat default).l).length : Int) : Int) ≠ (((bs.getD ((ps.getD (kz).toNat default).b).toNat default).l).length : Int)) rfl rfl (fun h59 => ?_) (fun h59 => ?_)
            · skip
              refine s_seq ?_
              refine c_reg ?_
              refine qd rfl rfl rfl (r_assign (v := (.bool false)) rfl) ?_
              refine qe ?_
              refine s_then ?_
              refine wp_ret ?_
              refine s_ret ?_
              refine c_ret1 (v := (.bool false)) rfl rfl rfl ?_
              exact ⟨_, congrArg (fun z => Ending.returned (Value.bool z)) (decP_false.2 (fun g => by have h1 := g.ra; have h2 := g.rb; have h3 := g.hr; have h4 := g.hl; omega)).symm, hX49⟩
            · skip
              refine wp_skip ?_
              refine s_then ?_
              refine s_seq ?_
              refine s_seq ?_
              refine c_reg ?_
              refine qd rfl rfl rfl (r_move (v := u50) rfl) ?_
              refine qd rfl rfl rfl (run_len Try.underlying69 (v := u50) rfl hr51) ?_
              refine qd rfl rfl rfl (r_move (v := (.int .i64 0)) rfl) ?_
              refine qe ?_
              refine s_then ?_
              refine s_blk ?_
              refine s_loop (fun (k : Nat) (en : Nat → Value) (W : World) => ∃ (env1 : Nat → Value) (i : Nat) (GLi : Pin), en = (upd (upd (upd (upd (upd (upd (upd (upd (upd env1 1 (.int .i64 kz)) 2 v) 3 x) 4 (.pointer (some ⟨b1, 0, none⟩))) 9 (.pointer (some ⟨b24, 0, none⟩))) 11 u54) 69 u50) 70 (.int .i64 (((ns.getD ((ps.getD (kz).toNat default).a).toNat default).r).length : Int))) 71 (.int .i64 (i : Int))) ∧ k = (ns.getD (ps.getD kz.toNat default).a.toNat default).r.length - i ∧ Ext noS G w GLi W ∧ Pin.le G38 GLi ∧ (i ≤ (ns.getD (ps.getD kz.toNat default).a.toNat default).r.length) ∧ (∀ q, q < i → AnsP ps ((ps.getD kz.toNat default).r.getD q 0) kz (rightsP ns bs ((ns.getD (ps.getD kz.toNat default).a.toNat default).r.getD q 0) (ps.getD kz.toNat default).b))) _ ⟨_, 0, G38, (packS (x := 71) (packS (x := 70) (packS (x := 69) (packS (x := 11) (packS (x := 9) (packS (x := 4) (packS (x := 3) (packS (x := 2) (pack1 (x := 1) rfl) rfl) rfl) rfl) rfl) rfl) rfl) rfl) rfl), rfl, hX49, Pin.le_refl _, Nat.zero_le _, (fun i hi => absurd hi (Nat.not_lt_zero i))⟩ ?_
              rintro k60 _ w61 ⟨env1, i, GLi, rfl, hk62, hX63, hlek60, hji, hpi⟩
              refine s_seq ?_
              refine c_reg ?_
              refine qd rfl rfl rfl (r_lss rfl rfl) ?_
              refine qe ?_
              refine s_then ?_
              refine s_seq ?_
              refine c_ifd (p := ((i : Int) : Int) < (((ns.getD ((ps.getD (kz).toNat default).a).toNat default).r).length : Int)) rfl rfl (fun h64 => ?_) (fun h64 => ?_)
              · skip
                have hki := hga.optsOk.right (j := (ps.getD kz.toNat default).a.toNat) (i := i) (by omega) (by omega)
                have hl1 := hga.lenl (i := ((ns.getD (ps.getD kz.toNat default).a.toNat default).r.getD i 0).toNat) (by omega)
                have hl2 := hgb.lenr (i := (ps.getD kz.toNat default).b.toNat) (by omega)
                refine wp_skip ?_
                refine s_then ?_
                refine s_seq ?_
                refine s_blk ?_
                refine s_seq ?_
                refine c_reg ?_
                refine qd rfl rfl rfl (r_move (v := (.int .i64 (i : Int))) rfl) ?_
                refine qd rfl rfl rfl (run_idx Try.underlying69 sz3 (v := u50) rfl rfl hr51 (by omega) (by omega)) ?_
                refine qd rfl rfl rfl (run_load_int (r := ((ns.getD ((ps.getD (kz).toNat default).a).toNat default).r).getD i 0) rfl ag3 (z := (i : Int)) rfl hr51 (Pins.of_le hX63.pins (Pin.le_trans (Pin.le_trans hle10 hle39) hlek60)) (by omega) (by omega)) ?_
                refine qd rfl rfl rfl (r_assign (v := (.int .i64 (i : Int))) rfl) ?_
                refine qd rfl rfl rfl (r_assign (v := (.int .i64 (((ns.getD ((ps.getD (kz).toNat default).a).toNat default).r).getD i 0))) rfl) ?_
                refine qe ?_
                refine s_then ?_
                refine s_seq ?_
                refine c_draw (S := fun w => Pins GLi w) (last := 15) (by kernel_rfl) rfl ?_
                have hl65 : Below w61.heap.size w61 w61.drew := (Below.refl _ _).drew
                have hp66 := hX63.pins.below hl65
                have hX67 := hX63.step hp66 hl65
                refine dr_take (i := 0) rfl rfl rfl (want_none rfl _) (by kernel_rfl) (fun _ hS => r_ldpA (cs := [u]) ag38 sz38 rfl (fun j u hj => (Pins.of_le hS (Pin.le_trans hle39 hlek60)) _ _ _ (hbp12 _ _ (by simpa using hj)))) hX67.pins ?_
                refine dr_take (i := 1) rfl rfl rfl (want_none rfl _) (by kernel_rfl) (fun _ _ => r_fldp (k := 2) rfl Try.underlying71 rfl nz69 rfl) hX67.pins ?_
                refine dr_take (i := 2) rfl rfl rfl (want_none rfl _) (by kernel_rfl) (fun _ hS => r_ldp1 (u := u18) ag69 rfl ((Pins.of_le hS hlek60) _ _ _ (hbp41 2 _ rfl))) hX67.pins ?_
                refine dr_take (i := 3) rfl rfl rfl (want_none rfl _) (by kernel_rfl) (fun _ _ => r_move (v := (.int .i64 (i : Int))) rfl) hX67.pins ?_
                refine dr_take (i := 4) rfl rfl rfl (want_none rfl _) (by kernel_rfl) (fun _ _ => run_idx Try.underlying69 sz3 (v := u18) rfl rfl hr19 (by omega) (by omega)) hX67.pins ?_
                refine dr_take (i := 5) rfl rfl rfl (want_none rfl _) (by kernel_rfl) (fun _ hS => run_load_int (r := ((ps.getD (kz).toNat default).r).getD i 0) rfl ag3 (z := (i : Int)) rfl hr19 (Pins.of_le hS (Pin.le_trans (Pin.le_trans hle10 hle39) hlek60)) (by omega) (by omega)) hX67.pins ?_
                refine dr_take (i := 6) rfl rfl rfl (want_none rfl _) (by kernel_rfl) (fun _ _ => r_move (v := (.int .i64 kz)) rfl) hX67.pins ?_
                refine dr_take (i := 7) rfl rfl rfl (want_none rfl _) (by kernel_rfl) (fun _ _ => r_move (v := v) rfl) hX67.pins ?_
                refine dr_take (i := 8) rfl rfl rfl (want_none rfl _) (by kernel_rfl) (fun _ _ => r_move (v := x) rfl) hX67.pins ?_
                refine dr_take (i := 9) rfl rfl rfl (want_none rfl _) (by kernel_rfl) (fun _ _ => r_move (v := (.int .i64 (((ns.getD ((ps.getD (kz).toNat default).a).toNat default).r).getD i 0))) rfl) hX67.pins ?_
                refine dr_take (i := 10) rfl rfl rfl (want_none rfl _) (by kernel_rfl) (fun _ _ => r_fldp (k := 1) rfl Try.underlying71 rfl nz3 rfl) hX67.pins ?_
                refine dr_take (i := 11) rfl rfl rfl (want_none rfl _) (by kernel_rfl) (fun _ hS => r_ldp1 (u := (.int .i64 ((ps.getD (kz).toNat default).b))) ag3 rfl ((Pins.of_le hS hlek60) _ _ _ (hbp41 1 _ rfl))) hX67.pins ?_
                refine dr_one (i := 12) (by kernel_rfl) (drOp1 (i := 12) rfl rfl rfl (want_none rfl _) (o_call (vs := [v, x, (.int .i64 (((ns.getD ((ps.getD (kz).toNat default).a).toNat default).r).getD i 0)), (.int .i64 ((ps.getD (kz).toNat default).b))]) Try.func77 nm77 rfl rfl rfl ?_))
                refine Calls.mono (rightsOf_spec (x := ((ns.getD ((ps.getD (kz).toNat default).a).toNat default).r).getD i 0) (y := (ps.getD (kz).toNat default).b) hX67.pins (ha.mono (Pin.le_trans (Pin.le_trans hle10 hle39) hlek60)) (hb.mono (Pin.le_trans (Pin.le_trans hle10 hle39) hlek60)) (by omega) (by omega) (by omega)) ?_
                rintro _ w70 ⟨u68, G69, rfl, ho71, hx72⟩
                refine ⟨_, rfl, ?_⟩
                have hX73 := hX67.tr hx72
                have ho74 : Own eP2 94 G69 w70 w.heap.size u68 (rightsP ns bs (((ns.getD ((ps.getD (kz).toNat default).a).toNat default).r).getD i 0) ((ps.getD (kz).toNat default).b)) := ho71.weaken hX67.size
                refine ⟨fun _ => (Pins.of_le hX73.pins hx72.le), ?_⟩
                obtain ⟨G75, hle78, hX77, hr76, hf79⟩ := ho74.sealed hX73
                refine dr_one (i := 13) (by kernel_rfl) (drOp1 (i := 13) rfl rfl rfl (want_none rfl _) (o_call (vs := [(.agg [u].toArray), (.int .i64 (((ps.getD (kz).toNat default).r).getD i 0)), (.int .i64 kz), u68]) Try.func76 nm76 rfl rfl rfl ?_))
                refine Calls.mono (answers_spec hX77.pins (hu.mono (Pin.le_trans (Pin.le_trans (Pin.le_trans (Pin.le_trans hle10 hle39) hlek60) hx72.le) hle78)) hr76 (by omega)) ?_
                rintro _ w81 ⟨G80, rfl, hx82⟩
                refine ⟨_, rfl, ?_⟩
                have hX83 := hX77.tr hx82
                refine ⟨fun _ => (Pins.of_le hX83.pins (Pin.le_trans (Pin.le_trans hx72.le hle78) hx82.le)), ?_⟩
                refine dr_take (i := 14) rfl rfl rfl (want_none rfl _) (by kernel_rfl) (fun _ _ => r_not rfl) (Pins.of_le hX83.pins (Pin.le_trans (Pin.le_trans hx72.le hle78) hx82.le)) ?_
                refine dr_end (by kernel_rfl) ?_
                refine s_then ?_
                refine c_ifn rfl rfl (fun h84 => ?_) (fun h84 => ?_)
                · skip
                  refine wp_skip ?_
                  refine s_blkN ?_
                  refine s_then ?_
                  refine c_reg ?_
                  refine qd rfl rfl rfl (r_add rfl rfl (by omega)) ?_
                  refine qd rfl rfl rfl (r_move (v := (.int .i64 ((i : Int) + 1))) rfl) ?_
                  refine qe ?_
                  refine s_lopN ?_
                  refine ⟨_, ?_, _, rfl, _, i + 1, G80, (packS (x := 71) (packS (x := 70) (packS (x := 69) (packS (x := 11) (packS (x := 9) (packS (x := 4) (packS (x := 3) (packS (x := 2) (pack1 (x := 1) rfl) rfl) rfl) rfl) rfl) rfl) rfl) rfl) rfl), rfl, hX83, (Pin.le_trans (Pin.le_trans (Pin.le_trans hlek60 hx72.le) hle78) hx82.le), (by omega), (fun q hq => if h3 : q = i then h3 ▸ decP_true.1 h84 else hpi q (by omega))⟩
                  omega
                · skip
                  refine s_seq ?_
                  refine c_reg ?_
                  refine qd rfl rfl rfl (r_assign (v := (.bool false)) rfl) ?_
                  refine qe ?_
                  refine s_then ?_
                  refine wp_ret ?_
                  refine s_ret ?_
                  refine c_ret1 (v := (.bool false)) rfl rfl rfl ?_
                  exact ⟨_, congrArg (fun z => Ending.returned (Value.bool z)) (decP_false.2 (fun g => decP_false.1 h84 (by have a := g.rr i (by omega); exact ⟨a.1.1, by have := a.1.2; omega, a.2⟩))).symm, hX83⟩
              · skip
                refine wp_exit ?_
                refine s_thenE ?_
                refine s_lopE ?_
                refine s_blkE ?_
                refine s_then ?_
                refine s_seq ?_
                refine s_seq ?_
                refine c_reg ?_
                refine qd rfl rfl rfl (r_move (v := u54) rfl) ?_
                refine qd rfl rfl rfl (run_len Try.underlying69 (v := u54) rfl hr55) ?_
                refine qd rfl rfl rfl (r_move (v := (.int .i64 0)) rfl) ?_
                refine qe ?_
                refine s_then ?_
                refine s_blk ?_
                refine s_loop (fun (k : Nat) (en : Nat → Value) (W : World) => ∃ (env1 : Nat → Value) (j : Nat) (GLj : Pin), en = (upd (upd (upd (upd (upd (upd (upd (upd env1 1 (.int .i64 kz)) 2 v) 3 x) 4 (.pointer (some ⟨b1, 0, none⟩))) 9 (.pointer (some ⟨b24, 0, none⟩))) 92 u54) 93 (.int .i64 (((bs.getD ((ps.getD (kz).toNat default).b).toNat default).l).length : Int))) 94 (.int .i64 (j : Int))) ∧ k = (bs.getD (ps.getD kz.toNat default).b.toNat default).l.length - j ∧ Ext noS G w GLj W ∧ Pin.le GLi GLj ∧ (j ≤ (bs.getD (ps.getD kz.toNat default).b.toNat default).l.length) ∧ (∀ q, q < j → AnsP ps ((ps.getD kz.toNat default).l.getD q 0) kz (leftsP ns bs (ps.getD kz.toNat default).a ((bs.getD (ps.getD kz.toNat default).b.toNat default).l.getD q 0)))) _ ⟨_, 0, GLi, (packS (x := 94) (packS (x := 93) (packS (x := 92) (packS (x := 9) (packS (x := 4) (packS (x := 3) (packS (x := 2) (pack1 (x := 1) rfl) rfl) rfl) rfl) rfl) rfl) rfl) rfl), rfl, hX63, Pin.le_refl _, Nat.zero_le _, (fun i hi => absurd hi (Nat.not_lt_zero i))⟩ ?_
                rintro k85 _ w86 ⟨env1, j, GLj, rfl, hk87, hX88, hlek85, hjj, hpj⟩
                refine s_seq ?_
                refine c_reg ?_
                refine qd rfl rfl rfl (r_lss rfl rfl) ?_
                refine qe ?_
                refine s_then ?_
                refine s_seq ?_
                refine c_ifd (p := ((j : Int) : Int) < (((bs.getD ((ps.getD (kz).toNat default).b).toNat default).l).length : Int)) rfl rfl (fun h89 => ?_) (fun h89 => ?_)
                · skip
                  have hki := hgb.optsOk.left (j := (ps.getD kz.toNat default).b.toNat) (i := j) (by omega) (by omega)
                  have hl1 := hga.lenl (i := (ps.getD kz.toNat default).a.toNat) (by omega)
                  have hl2 := hgb.lenr (i := ((bs.getD (ps.getD kz.toNat default).b.toNat default).l.getD j 0).toNat) (by omega)
                  refine wp_skip ?_
                  refine s_then ?_
                  refine s_seq ?_
                  refine s_blk ?_
                  refine s_seq ?_
                  refine c_reg ?_
                  refine qd rfl rfl rfl (r_move (v := (.int .i64 (j : Int))) rfl) ?_
                  refine qd rfl rfl rfl (run_idx Try.underlying69 sz3 (v := u54) rfl rfl hr55 (by omega) (by omega)) ?_
                  refine qd rfl rfl rfl (run_load_int (r := ((bs.getD ((ps.getD (kz).toNat default).b).toNat default).l).getD j 0) rfl ag3 (z := (j : Int)) rfl hr55 (Pins.of_le hX88.pins (Pin.le_trans (Pin.le_trans (Pin.le_trans hle10 hle39) hlek60) hlek85)) (by omega) (by omega)) ?_
                  refine qd rfl rfl rfl (r_assign (v := (.int .i64 (j : Int))) rfl) ?_
                  refine qd rfl rfl rfl (r_assign (v := (.int .i64 (((bs.getD ((ps.getD (kz).toNat default).b).toNat default).l).getD j 0))) rfl) ?_
                  refine qe ?_
                  refine s_then ?_
                  refine s_seq ?_
                  refine c_draw (S := fun w => Pins GLj w) (last := 15) (by kernel_rfl) rfl ?_
                  have hl90 : Below w86.heap.size w86 w86.drew := (Below.refl _ _).drew
                  have hp91 := hX88.pins.below hl90
                  have hX92 := hX88.step hp91 hl90
                  refine dr_take (i := 0) rfl rfl rfl (want_none rfl _) (by kernel_rfl) (fun _ hS => r_ldpA (cs := [u]) ag38 sz38 rfl (fun j u hj => (Pins.of_le hS (Pin.le_trans (Pin.le_trans hle39 hlek60) hlek85)) _ _ _ (hbp12 _ _ (by simpa using hj)))) hX92.pins ?_
                  refine dr_take (i := 1) rfl rfl rfl (want_none rfl _) (by kernel_rfl) (fun _ _ => r_fldp (k := 3) rfl Try.underlying71 rfl nz69 rfl) hX92.pins ?_
                  refine dr_take (i := 2) rfl rfl rfl (want_none rfl _) (by kernel_rfl) (fun _ hS => r_ldp1 (u := u20) ag69 rfl ((Pins.of_le hS (Pin.le_trans hlek60 hlek85)) _ _ _ (hbp41 3 _ rfl))) hX92.pins ?_
                  refine dr_take (i := 3) rfl rfl rfl (want_none rfl _) (by kernel_rfl) (fun _ _ => r_move (v := (.int .i64 (j : Int))) rfl) hX92.pins ?_
                  refine dr_take (i := 4) rfl rfl rfl (want_none rfl _) (by kernel_rfl) (fun _ _ => run_idx Try.underlying69 sz3 (v := u20) rfl rfl hr21 (by omega) (by omega)) hX92.pins ?_
                  refine dr_take (i := 5) rfl rfl rfl (want_none rfl _) (by kernel_rfl) (fun _ hS => run_load_int (r := ((ps.getD (kz).toNat default).l).getD j 0) rfl ag3 (z := (j : Int)) rfl hr21 (Pins.of_le hS (Pin.le_trans (Pin.le_trans (Pin.le_trans hle10 hle39) hlek60) hlek85)) (by omega) (by omega)) hX92.pins ?_
                  refine dr_take (i := 6) rfl rfl rfl (want_none rfl _) (by kernel_rfl) (fun _ _ => r_move (v := (.int .i64 kz)) rfl) hX92.pins ?_
                  refine dr_take (i := 7) rfl rfl rfl (want_none rfl _) (by kernel_rfl) (fun _ _ => r_move (v := v) rfl) hX92.pins ?_
                  refine dr_take (i := 8) rfl rfl rfl (want_none rfl _) (by kernel_rfl) (fun _ _ => r_move (v := x) rfl) hX92.pins ?_
                  refine dr_take (i := 9) rfl rfl rfl (want_none rfl _) (by kernel_rfl) (fun _ _ => r_fldp (k := 0) rfl Try.underlying71 rfl nz3 rfl) hX92.pins ?_
                  refine dr_take (i := 10) rfl rfl rfl (want_none rfl _) (by kernel_rfl) (fun _ hS => r_ldp1 (u := (.int .i64 ((ps.getD (kz).toNat default).a))) ag3 rfl ((Pins.of_le hS (Pin.le_trans hlek60 hlek85)) _ _ _ (hbp41 0 _ rfl))) hX92.pins ?_
                  refine dr_take (i := 11) rfl rfl rfl (want_none rfl _) (by kernel_rfl) (fun _ _ => r_move (v := (.int .i64 (((bs.getD ((ps.getD (kz).toNat default).b).toNat default).l).getD j 0))) rfl) hX92.pins ?_
                  refine dr_one (i := 12) (by kernel_rfl) (drOp1 (i := 12) rfl rfl rfl (want_none rfl _) (o_call (vs := [v, x, (.int .i64 ((ps.getD (kz).toNat default).a)), (.int .i64 (((bs.getD ((ps.getD (kz).toNat default).b).toNat default).l).getD j 0))]) Try.func78 nm78 rfl rfl rfl ?_))
                  refine Calls.mono (leftsOf_spec (x := (ps.getD (kz).toNat default).a) (y := ((bs.getD ((ps.getD (kz).toNat default).b).toNat default).l).getD j 0) hX92.pins (ha.mono (Pin.le_trans (Pin.le_trans (Pin.le_trans hle10 hle39) hlek60) hlek85)) (hb.mono (Pin.le_trans (Pin.le_trans (Pin.le_trans hle10 hle39) hlek60) hlek85)) (by omega) (by omega) (by omega)) ?_
                  rintro _ w95 ⟨u93, G94, rfl, ho96, hx97⟩
                  refine ⟨_, rfl, ?_⟩
                  have hX98 := hX92.tr hx97
                  have ho99 : Own eP2 94 G94 w95 w.heap.size u93 (leftsP ns bs ((ps.getD (kz).toNat default).a) (((bs.getD ((ps.getD (kz).toNat default).b).toNat default).l).getD j 0)) := ho96.weaken hX92.size
                  refine ⟨fun _ => (Pins.of_le hX98.pins hx97.le), ?_⟩
                  obtain ⟨G100, hle103, hX102, hr101, hf104⟩ := ho99.sealed hX98
                  refine dr_one (i := 13) (by kernel_rfl) (drOp1 (i := 13) rfl rfl rfl (want_none rfl _) (o_call (vs := [(.agg [u].toArray), (.int .i64 (((ps.getD (kz).toNat default).l).getD j 0)), (.int .i64 kz), u93]) Try.func76 nm76 rfl rfl rfl ?_))
                  refine Calls.mono (answers_spec hX102.pins (hu.mono (Pin.le_trans (Pin.le_trans (Pin.le_trans (Pin.le_trans (Pin.le_trans hle10 hle39) hlek60) hlek85) hx97.le) hle103)) hr101 (by omega)) ?_
                  rintro _ w106 ⟨G105, rfl, hx107⟩
                  refine ⟨_, rfl, ?_⟩
                  have hX108 := hX102.tr hx107
                  refine ⟨fun _ => (Pins.of_le hX108.pins (Pin.le_trans (Pin.le_trans hx97.le hle103) hx107.le)), ?_⟩
                  refine dr_take (i := 14) rfl rfl rfl (want_none rfl _) (by kernel_rfl) (fun _ _ => r_not rfl) (Pins.of_le hX108.pins (Pin.le_trans (Pin.le_trans hx97.le hle103) hx107.le)) ?_
                  refine dr_end (by kernel_rfl) ?_
                  refine s_then ?_
                  refine c_ifn rfl rfl (fun h109 => ?_) (fun h109 => ?_)
                  · skip
                    refine wp_skip ?_
                    refine s_blkN ?_
                    refine s_then ?_
                    refine c_reg ?_
                    refine qd rfl rfl rfl (r_add rfl rfl (by omega)) ?_
                    refine qd rfl rfl rfl (r_move (v := (.int .i64 ((j : Int) + 1))) rfl) ?_
                    refine qe ?_
                    refine s_lopN ?_
                    refine ⟨_, ?_, _, rfl, _, j + 1, G105, (packS (x := 94) (packS (x := 93) (packS (x := 92) (packS (x := 9) (packS (x := 4) (packS (x := 3) (packS (x := 2) (pack1 (x := 1) rfl) rfl) rfl) rfl) rfl) rfl) rfl) rfl), rfl, hX108, (Pin.le_trans (Pin.le_trans (Pin.le_trans hlek85 hx97.le) hle103) hx107.le), (by omega), (fun q hq => if h3 : q = j then h3 ▸ decP_true.1 h109 else hpj q (by omega))⟩
                    omega
                  · skip
                    refine s_seq ?_
                    refine c_reg ?_
                    refine qd rfl rfl rfl (r_assign (v := (.bool false)) rfl) ?_
                    refine qe ?_
                    refine s_then ?_
                    refine wp_ret ?_
                    refine s_ret ?_
                    refine c_ret1 (v := (.bool false)) rfl rfl rfl ?_
                    exact ⟨_, congrArg (fun z => Ending.returned (Value.bool z)) (decP_false.2 (fun g => decP_false.1 h109 (by have a := g.ll j (by omega); exact ⟨a.1.1, by have := a.1.2; omega, a.2⟩))).symm, hX108⟩
                · skip
                  refine wp_exit ?_
                  refine s_thenE ?_
                  refine s_lopE ?_
                  refine s_blkE ?_
                  refine s_then ?_
                  refine s_seq ?_
                  refine c_reg ?_
                  refine qd rfl rfl rfl (r_assign (v := (.bool true)) rfl) ?_
                  refine qe ?_
                  refine s_then ?_
                  refine wp_ret ?_
                  refine s_ret ?_
                  refine c_ret1 (v := (.bool true)) rfl rfl rfl ?_
                  exact ⟨_, congrArg (fun z => Ending.returned (Value.bool z)) (decP_true.2 ⟨⟨by omega, by omega⟩, ⟨by omega, by omega⟩, by omega, by omega, fun q hq => by have h := hpi q (by omega); exact ⟨⟨h.1, by have := h.2.1; omega⟩, h.2.2⟩, fun q hq => by have h := hpj q (by omega); exact ⟨⟨h.1, by have := h.2.1; omega⟩, h.2.2⟩⟩).symm, hX88⟩

theorem l1Has_spec {w : World} {G : Pin} {v : Value} {xs : List Int} {n : Int} (hP : Pins G w) (hv : RSl eInt G v xs) :
    Calls Try.prog 102 [v, (.int .i64 n)].toArray w fun e w' => e = .returned (.bool (decide (n ∈ xs))) ∧ w' = w := by
  refine s_enter (n := 18) Try.func102 Try.ntmps102 rfl rfl ?_
  have hX0 : Ext noS G w G w := Ext.refl hP
  have hm := hv.max
  refine s_seq ?_
  refine c_reg ?_
  refine qd rfl rfl rfl (r_assign (v := (.bool false)) rfl) ?_
  refine qe ?_
  refine s_then ?_
  refine s_seq ?_
  refine s_seq ?_
  refine c_reg ?_
  refine qd rfl rfl rfl (r_assign (v := (.int .i64 0)) rfl) ?_
  refine qe ?_
  refine s_then ?_
  refine s_blk ?_
  refine s_loop (fun (k : Nat) (en : Nat → Value) (W : World) => ∃ (env1 : Nat → Value) (j : Nat), en = (upd (upd (upd env1 0 v) 1 (.int .i64 n)) 5 (.int .i64 (j : Int))) ∧ k = xs.length - j ∧ Ext noS G w G W ∧ (j ≤ xs.length) ∧ (W = w) ∧ (∀ i, i < j → xs.getD i 0 ≠ n)) _ ⟨_, 0, (packS (x := 5) (packS (x := 1) (pack1 (x := 0) rfl) rfl) rfl), rfl, hX0, Nat.zero_le _, rfl, (fun i hi => absurd hi (Nat.not_lt_zero i))⟩ ?_
  rintro k1 _ w2 ⟨env1, j, rfl, hk3, hX4, hj, hw, hp⟩
  subst hw
  refine s_seq ?_
  refine s_seq ?_
  refine c_reg ?_
  refine qd rfl rfl rfl (r_move (v := (.int .i64 (j : Int))) rfl) ?_
  refine qd rfl rfl rfl (r_move (v := v) rfl) ?_
  refine qd rfl rfl rfl (run_len Try.underlying69 (v := v) rfl hv) ?_
  refine qd rfl rfl rfl (r_lss rfl rfl) ?_
  refine qe ?_
  refine s_then ?_
  refine c_ifd (p := ((j : Int) : Int) < (xs.length : Int)) rfl rfl (fun h5 => ?_) (fun h5 => ?_)
  · skip
    refine wp_skip ?_
    refine s_then ?_
    refine s_seq ?_
    refine s_blk ?_
    refine s_seq ?_
    refine c_reg ?_
    refine qd rfl rfl rfl (r_move (v := v) rfl) ?_
    refine qd rfl rfl rfl (r_move (v := (.int .i64 (j : Int))) rfl) ?_
    refine qd rfl rfl rfl (run_idx Try.underlying69 sz3 (v := v) rfl rfl hv (by omega) (by omega)) ?_
    refine qd rfl rfl rfl (run_load_int (r := xs.getD j 0) rfl ag3 (z := (j : Int)) rfl hv hX4.pins (by omega) (by omega)) ?_
    refine qd rfl rfl rfl (r_move (v := (.int .i64 n)) rfl) ?_
    refine qd rfl rfl rfl (r_eql rfl rfl) ?_
    refine qe ?_
    refine s_then ?_
    refine c_ifd (p := (xs.getD j 0 : Int) = n) rfl rfl (fun h6 => ?_) (fun h6 => ?_)
    · skip
      refine s_seq ?_
      refine c_reg ?_
      refine qd rfl rfl rfl (r_assign (v := (.bool true)) rfl) ?_
      refine qe ?_
      refine s_then ?_
      refine wp_ret ?_
      refine s_ret ?_
      refine c_ret1 (v := (.bool true)) rfl rfl rfl ?_
      exact ⟨congrArg (fun z => Ending.returned (Value.bool z)) ((decide_eq_true (by rw [← h6]; exact mem_getD_of (by omega))).symm), rfl⟩
    · skip
      refine wp_skip ?_
      refine s_blkN ?_
      refine s_then ?_
      refine c_reg ?_
      refine qd rfl rfl rfl (r_move (v := (.int .i64 (j : Int))) rfl) ?_
      refine qd rfl rfl rfl (r_add rfl rfl (by omega)) ?_
      refine qd rfl rfl rfl (r_assign (v := (.int .i64 ((j : Int) + 1))) rfl) ?_
      refine qe ?_
      refine s_lopN ?_
      refine ⟨_, ?_, _, rfl, _, j + 1, (packS (x := 5) (packS (x := 1) (pack1 (x := 0) rfl) rfl) rfl), rfl, hX4, (by omega), rfl, (fun i hi => if h3 : i = j then h3 ▸ h6 else hp i (by omega))⟩
      omega
  · skip
    refine wp_exit ?_
    refine s_thenE ?_
    refine s_lopE ?_
    refine s_blkE ?_
    refine s_then ?_
    refine s_seq ?_
    refine c_reg ?_
    refine qd rfl rfl rfl (r_assign (v := (.bool false)) rfl) ?_
    refine qe ?_
    refine s_then ?_
    refine wp_ret ?_
    refine s_ret ?_
    refine c_ret1 (v := (.bool false)) rfl rfl rfl ?_
    exact ⟨congrArg (fun z => Ending.returned (Value.bool z)) ((decide_eq_false (not_mem_of (d := 0) (fun i hi => hp i (by omega)))).symm), rfl⟩

theorem l15Right_spec {w : World} {G : Pin} {u v cr cl : Value} {ns bs : List Nd} {c : Cl} {r y : Int} (hP : Pins G w) (hu : RSl eNode G u ns) (hv : RSl eNode G v bs) (hx : 0 ≤ r ∧ r < ns.length) (hy : 0 ≤ y ∧ y < bs.length) :
    Calls Try.prog 65 [(.agg [u].toArray), (.agg [v].toArray), (.int .i64 r), (.agg [(.int .i64 c.a), (.int .i64 c.b), cr, cl].toArray), (.int .i64 y)].toArray w fun e w' => ∃ G', e = .returned (.bool (decide ((c.a, c.b) ∈ rightsP ns bs r y))) ∧ Ext noS G w G' w' := by
  refine s_enter (n := 43) Try.func65 Try.ntmps65 rfl rfl ?_
  have hX0 : Ext noS G w G w := Ext.refl hP
  refine s_seq ?_
  refine c_reg ?_
  refine q1 rfl rfl rfl (o_box [u] (v := (.agg [u].toArray)) rfl rfl hX0.pins (fun b1 w2 hk3 hb4 hp5 hl6 => ?_))
  have hX7 := hX0.step hp5 hl6
  have hlo8 : w.heap.size ≤ b1 := by have := hX0.size; omega
  obtain ⟨G9, hle10, hX11, hbp12, hf13⟩ := hb4.shut hX7 hlo8
  refine q1 rfl rfl rfl (o_box [v] (v := (.agg [v].toArray)) rfl rfl hX11.pins (fun b14 w15 hk16 hb17 hp18 hl19 => ?_))
  have hX20 := hX11.step hp18 hl19
  have hlo21 : w.heap.size ≤ b14 := by have := hX11.size; omega
  obtain ⟨G22, hle23, hX24, hbp25, hf26⟩ := hb17.shut hX20 hlo21
  refine q1 rfl rfl rfl (o_box [(.int .i64 c.a), (.int .i64 c.b), cr, cl] (v := (.agg [(.int .i64 c.a), (.int .i64 c.b), cr, cl].toArray)) rfl rfl hX24.pins (fun b27 w28 hk29 hb30 hp31 hl32 => ?_))
  have hX33 := hX24.step hp31 hl32
  have hlo34 : w.heap.size ≤ b27 := by have := hX24.size; omega
  obtain ⟨G35, hle36, hX37, hbp38, hf39⟩ := hb30.shut hX33 hlo34
  refine qd rfl rfl rfl (r_assign (v := (.bool false)) rfl) ?_
  refine qe ?_
  refine s_then ?_
  refine s_seq ?_
  refine c_draw (S := fun w => Pins G35 w) (last := 33) (by kernel_rfl) rfl ?_
  have hl40 : Below w28.heap.size w28 w28.drew := (Below.refl _ _).drew
  have hp41 := hX37.pins.below hl40
  have hX42 := hX37.step hp41 hl40
  refine dr_take (i := 0) rfl rfl rfl (want_none rfl _) (by kernel_rfl) (fun _ _ => r_fldp (k := 1) rfl Try.underlying71 rfl nz3 rfl) hX42.pins ?_
  refine dr_take (i := 1) rfl rfl rfl (want_none rfl _) (by kernel_rfl) (fun _ hS => r_ldp1 (u := (.int .i64 c.b)) ag3 rfl (hS _ _ _ (hbp38 1 _ rfl))) hX42.pins ?_
  refine dr_take (i := 2) rfl rfl rfl (want_none rfl _) (by kernel_rfl) (fun _ _ => r_move (v := (.int .i64 y)) rfl) hX42.pins ?_
  refine dr_take (i := 3) rfl rfl rfl (want_none rfl _) (by kernel_rfl) (fun _ _ => r_eql rfl rfl) hX42.pins ?_
  refine dr_take (i := 4) rfl rfl rfl (want_none rfl _) (by kernel_rfl) (fun _ _ => r_move (v := (.bool (decide ((c.b : Int) = y)))) rfl) hX42.pins ?_
  refine drbd (p := (c.b : Int) = y) (t := 15) rfl (fun h43 => ?_) (fun h43 => ?_)
  · skip
    refine dr_take (i := 5) rfl rfl rfl (want_yes rfl rfl rfl rfl) (by kernel_rfl) (fun _ _ => r_fldp (k := 0) rfl Try.underlying34 rfl nz32 rfl) hX42.pins ?_
    refine dr_take (i := 6) rfl rfl rfl (want_yes rfl rfl rfl rfl) (by kernel_rfl) (fun _ hS => r_ldp1 (u := u) ag32 rfl ((Pins.of_le hS (Pin.le_trans hle23 hle36)) _ _ _ (hbp12 0 _ rfl))) hX42.pins ?_
    refine dr_take (i := 7) rfl rfl rfl (want_yes rfl rfl rfl rfl) (by kernel_rfl) (fun _ _ => r_move (v := (.int .i64 r)) rfl) hX42.pins ?_
    refine dr_take (i := 8) rfl rfl rfl (want_yes rfl rfl rfl rfl) (by kernel_rfl) (fun _ _ => run_idx Try.underlying32 sz104 (v := u) rfl rfl hu (by omega) (by omega)) hX42.pins ?_
    refine dr_take (i := 9) rfl rfl rfl (want_yes rfl rfl rfl rfl) (by kernel_rfl) (fun _ _ => run_fld (off := 0) Try.underlying104 rfl rfl nz69 (z := r) (k := 0) rfl hu (by omega) (by omega)) hX42.pins ?_
    obtain ⟨u44, hr45, hl46⟩ := nm_nl (hu.at (z := r) (by omega) (by omega)) (j := (r).toNat) rfl
    have hm47 := hr45.max
    refine dr_take (i := 10) rfl rfl rfl (want_yes rfl rfl rfl rfl) (by kernel_rfl) (fun _ hS => hl46 ag69 rfl (Pins.of_le hS (Pin.le_trans (Pin.le_trans hle10 hle23) hle36))) hX42.pins ?_
    refine dr_take (i := 11) rfl rfl rfl (want_yes rfl rfl rfl rfl) (by kernel_rfl) (fun _ _ => r_fldp (k := 0) rfl Try.underlying71 rfl nz3 rfl) hX42.pins ?_
    refine dr_take (i := 12) rfl rfl rfl (want_yes rfl rfl rfl rfl) (by kernel_rfl) (fun _ hS => r_ldp1 (u := (.int .i64 c.a)) ag3 rfl (hS _ _ _ (hbp38 0 _ rfl))) hX42.pins ?_
    refine dr_one (i := 13) (by kernel_rfl) (drOp1 (i := 13) rfl rfl rfl (want_yes rfl rfl rfl rfl) (o_call (vs := [u44, (.int .i64 c.a)]) Try.func102 nm102 rfl rfl rfl ?_))
    refine Calls.mono (l1Has_spec hX42.pins (hr45.mono (Pin.le_trans (Pin.le_trans hle10 hle23) hle36))) ?_
    rintro _ _ ⟨rfl, rfl⟩
    refine ⟨_, rfl, ?_⟩
    refine ⟨fun _ => hX42.pins, ?_⟩
    refine dr_take (i := 14) rfl rfl rfl (want_none rfl _) (by kernel_rfl) (fun _ _ => r_pickT (v := (.bool (decide (c.a ∈ ((ns.getD (r).toNat default).l))))) rfl rfl) hX42.pins ?_
    refine dr_take (i := 15) rfl rfl rfl (want_none rfl _) (by kernel_rfl) (fun _ _ => r_move (v := (.bool (decide (c.a ∈ ((ns.getD (r).toNat default).l))))) rfl) hX42.pins ?_
    refine drbd (p := (c.a ∈ ((ns.getD (r).toNat default).l))) (t := 26) rfl (fun h48 => ?_) (fun h48 => ?_)
    · skip
      refine dr_skip (i := 16) rfl rfl (want_no rfl rfl rfl rfl rfl) (by kernel_rfl) hX42.pins ?_
      refine dr_skip (i := 17) rfl rfl (want_no rfl rfl rfl rfl rfl) (by kernel_rfl) hX42.pins ?_
      refine dr_skip (i := 18) rfl rfl (want_no rfl rfl rfl rfl rfl) (by kernel_rfl) hX42.pins ?_
      refine dr_skip (i := 19) rfl rfl (want_no rfl rfl rfl rfl rfl) (by kernel_rfl) hX42.pins ?_
      refine dr_skip (i := 20) rfl rfl (want_no rfl rfl rfl rfl rfl) (by kernel_rfl) hX42.pins ?_
      refine dr_skip (i := 21) rfl rfl (want_undef rfl rfl rfl rfl) (by kernel_rfl) hX42.pins ?_
      refine dr_skip (i := 22) rfl rfl (want_undef rfl rfl rfl rfl) (by kernel_rfl) hX42.pins ?_
      refine dr_skip (i := 23) rfl rfl (want_undef rfl rfl rfl rfl) (by kernel_rfl) hX42.pins ?_
      refine dr_skip (i := 24) rfl rfl (want_undef rfl rfl rfl rfl) (by kernel_rfl) hX42.pins ?_
      refine dr_skip (i := 25) rfl rfl (want_undef rfl rfl rfl rfl) (by kernel_rfl) hX42.pins ?_
      refine dr_skip (i := 26) rfl rfl (want_undef rfl rfl rfl rfl) (by kernel_rfl) hX42.pins ?_
      refine dr_skip (i := 27) rfl rfl (want_undef rfl rfl rfl rfl) (by kernel_rfl) hX42.pins ?_
      refine dr_skip (i := 28) rfl rfl (want_undef rfl rfl rfl rfl) (by kernel_rfl) hX42.pins ?_
      refine dr_skip (i := 29) rfl rfl (want_undef rfl rfl rfl rfl) (by kernel_rfl) hX42.pins ?_
      refine dr_skip (i := 30) rfl rfl (want_no rfl rfl rfl rfl rfl) (by kernel_rfl) hX42.pins ?_
      refine dr_take (i := 31) rfl rfl rfl (want_none rfl _) (by kernel_rfl) (fun _ _ => r_pickT (v := (.bool true)) rfl rfl) hX42.pins ?_
      refine dr_take (i := 32) rfl rfl rfl (want_none rfl _) (by kernel_rfl) (fun _ _ => r_assign (v := (.bool true)) rfl) hX42.pins ?_
      refine dr_end (by kernel_rfl) ?_
      refine s_then ?_
      refine wp_ret ?_
      refine s_ret ?_
      refine c_ret1 (v := (.bool true)) rfl rfl rfl ?_
      exact ⟨_, congrArg (fun z => Ending.returned (Value.bool z)) (decide_eq_true (mem_rights.2 (by first | exact Or.inl ⟨by omega, by assumption⟩ | exact Or.inr ⟨by omega, by assumption⟩))).symm, hX42⟩
    · skip
      refine dr_take (i := 16) rfl rfl rfl (want_yes rfl rfl rfl rfl) (by kernel_rfl) (fun _ _ => r_fldp (k := 0) rfl Try.underlying71 rfl nz3 rfl) hX42.pins ?_
      refine dr_take (i := 17) rfl rfl rfl (want_yes rfl rfl rfl rfl) (by kernel_rfl) (fun _ hS => r_ldp1 (u := (.int .i64 c.a)) ag3 rfl (hS _ _ _ (hbp38 0 _ rfl))) hX42.pins ?_
      refine dr_take (i := 18) rfl rfl rfl (want_yes rfl rfl rfl rfl) (by kernel_rfl) (fun _ _ => r_move (v := (.int .i64 r)) rfl) hX42.pins ?_
      refine dr_take (i := 19) rfl rfl rfl (want_yes rfl rfl rfl rfl) (by kernel_rfl) (fun _ _ => r_eql rfl rfl) hX42.pins ?_
      refine dr_take (i := 20) rfl rfl rfl (want_yes rfl rfl rfl rfl) (by kernel_rfl) (fun _ _ => r_move (v := (.bool (decide ((c.a : Int) = r)))) rfl) hX42.pins ?_
      refine drbd (p := (c.a : Int) = r) (t := 31) rfl (fun h49 => ?_) (fun h49 => ?_)
      · skip
        refine dr_take (i := 21) rfl rfl rfl (want_yes rfl rfl rfl rfl) (by kernel_rfl) (fun _ _ => r_fldp (k := 0) rfl Try.underlying34 rfl nz32 rfl) hX42.pins ?_
        refine dr_take (i := 22) rfl rfl rfl (want_yes rfl rfl rfl rfl) (by kernel_rfl) (fun _ hS => r_ldp1 (u := v) ag32 rfl ((Pins.of_le hS hle36) _ _ _ (hbp25 0 _ rfl))) hX42.pins ?_
        refine dr_take (i := 23) rfl rfl rfl (want_yes rfl rfl rfl rfl) (by kernel_rfl) (fun _ _ => r_move (v := (.int .i64 y)) rfl) hX42.pins ?_
        refine dr_take (i := 24) rfl rfl rfl (want_yes rfl rfl rfl rfl) (by kernel_rfl) (fun _ _ => run_idx Try.underlying32 sz104 (v := v) rfl rfl hv (by omega) (by omega)) hX42.pins ?_
        refine dr_take (i := 25) rfl rfl rfl (want_yes rfl rfl rfl rfl) (by kernel_rfl) (fun _ _ => run_fld (off := 1) Try.underlying104 rfl rfl nz69 (z := y) (k := 0) rfl hv (by omega) (by omega)) hX42.pins ?_
        obtain ⟨u50, hr51, hl52⟩ := nm_nr (hv.at (z := y) (by omega) (by omega)) (j := (y).toNat) rfl
        have hm53 := hr51.max
        refine dr_take (i := 26) rfl rfl rfl (want_yes rfl rfl rfl rfl) (by kernel_rfl) (fun _ hS => hl52 ag69 rfl (Pins.of_le hS (Pin.le_trans (Pin.le_trans hle10 hle23) hle36))) hX42.pins ?_
        refine dr_take (i := 27) rfl rfl rfl (want_yes rfl rfl rfl rfl) (by kernel_rfl) (fun _ _ => r_fldp (k := 1) rfl Try.underlying71 rfl nz3 rfl) hX42.pins ?_
        refine dr_take (i := 28) rfl rfl rfl (want_yes rfl rfl rfl rfl) (by kernel_rfl) (fun _ hS => r_ldp1 (u := (.int .i64 c.b)) ag3 rfl (hS _ _ _ (hbp38 1 _ rfl))) hX42.pins ?_
        refine dr_one (i := 29) (by kernel_rfl) (drOp1 (i := 29) rfl rfl rfl (want_yes rfl rfl rfl rfl) (o_call (vs := [u50, (.int .i64 c.b)]) Try.func102 nm102 rfl rfl rfl ?_))
        refine Calls.mono (l1Has_spec hX42.pins (hr51.mono (Pin.le_trans (Pin.le_trans hle10 hle23) hle36))) ?_
        rintro _ _ ⟨rfl, rfl⟩
        refine ⟨_, rfl, ?_⟩
        refine ⟨fun _ => hX42.pins, ?_⟩
        refine dr_take (i := 30) rfl rfl rfl (want_yes rfl rfl rfl rfl) (by kernel_rfl) (fun _ _ => r_pickT (v := (.bool (decide (c.b ∈ ((bs.getD (y).toNat default).r))))) rfl rfl) hX42.pins ?_
        refine dr_take (i := 31) rfl rfl rfl (want_none rfl _) (by kernel_rfl) (fun _ _ => r_pickF (v := (.bool (decide (c.b ∈ ((bs.getD (y).toNat default).r))))) rfl rfl) hX42.pins ?_
        refine dr_take (i := 32) rfl rfl rfl (want_none rfl _) (by kernel_rfl) (fun _ _ => r_assign (v := (.bool (decide (c.b ∈ ((bs.getD (y).toNat default).r))))) rfl) hX42.pins ?_
        refine dr_end (by kernel_rfl) ?_
        refine s_then ?_
        refine wp_ret ?_
        refine s_ret ?_
        refine c_ret1 (v := (.bool (decide (c.b ∈ ((bs.getD (y).toNat default).r))))) rfl rfl rfl ?_
        exact ⟨_, congrArg (fun z => Ending.returned (Value.bool z)) (decide_eq_decide.2 ⟨fun g => mem_rights.2 (by first | exact Or.inr ⟨by omega, g⟩ | exact Or.inl ⟨by omega, g⟩), fun g => by rcases mem_rights.1 g with ⟨g1, g2⟩ | ⟨g1, g2⟩ <;> first | exact g2 | contradiction | omega⟩), hX42⟩
      · skip
        refine dr_skip (i := 21) rfl rfl (want_no rfl rfl rfl rfl rfl) (by kernel_rfl) hX42.pins ?_
        refine dr_skip (i := 22) rfl rfl (want_no rfl rfl rfl rfl rfl) (by kernel_rfl) hX42.pins ?_
        refine dr_skip (i := 23) rfl rfl (want_no rfl rfl rfl rfl rfl) (by kernel_rfl) hX42.pins ?_
        refine dr_skip (i := 24) rfl rfl (want_no rfl rfl rfl rfl rfl) (by kernel_rfl) hX42.pins ?_
        refine dr_skip (i := 25) rfl rfl (want_no rfl rfl rfl rfl rfl) (by kernel_rfl) hX42.pins ?_
        refine dr_skip (i := 26) rfl rfl (want_no rfl rfl rfl rfl rfl) (by kernel_rfl) hX42.pins ?_
        refine dr_skip (i := 27) rfl rfl (want_no rfl rfl rfl rfl rfl) (by kernel_rfl) hX42.pins ?_
        refine dr_skip (i := 28) rfl rfl (want_no rfl rfl rfl rfl rfl) (by kernel_rfl) hX42.pins ?_
        refine dr_skip (i := 29) rfl rfl (want_no rfl rfl rfl rfl rfl) (by kernel_rfl) hX42.pins ?_
        refine dr_take (i := 30) rfl rfl rfl (want_yes rfl rfl rfl rfl) (by kernel_rfl) (fun _ _ => r_pickF (v := (.bool false)) rfl rfl) hX42.pins ?_
        refine dr_take (i := 31) rfl rfl rfl (want_none rfl _) (by kernel_rfl) (fun _ _ => r_pickF (v := (.bool false)) rfl rfl) hX42.pins ?_
        refine dr_take (i := 32) rfl rfl rfl (want_none rfl _) (by kernel_rfl) (fun _ _ => r_assign (v := (.bool false)) rfl) hX42.pins ?_
        refine dr_end (by kernel_rfl) ?_
        refine s_then ?_
        refine wp_ret ?_
        refine s_ret ?_
        refine c_ret1 (v := (.bool false)) rfl rfl rfl ?_
        exact ⟨_, congrArg (fun z => Ending.returned (Value.bool z)) (decide_eq_false (fun g => by rcases mem_rights.1 g with ⟨g1, g2⟩ | ⟨g1, g2⟩ <;> first | contradiction | omega)).symm, hX42⟩
  · skip
    refine dr_skip (i := 5) rfl rfl (want_no rfl rfl rfl rfl rfl) (by kernel_rfl) hX42.pins ?_
    refine dr_skip (i := 6) rfl rfl (want_no rfl rfl rfl rfl rfl) (by kernel_rfl) hX42.pins ?_
    refine dr_skip (i := 7) rfl rfl (want_no rfl rfl rfl rfl rfl) (by kernel_rfl) hX42.pins ?_
    refine dr_skip (i := 8) rfl rfl (want_no rfl rfl rfl rfl rfl) (by kernel_rfl) hX42.pins ?_
    refine dr_skip (i := 9) rfl rfl (want_no rfl rfl rfl rfl rfl) (by kernel_rfl) hX42.pins ?_
    refine dr_skip (i := 10) rfl rfl (want_no rfl rfl rfl rfl rfl) (by kernel_rfl) hX42.pins ?_
    refine dr_skip (i := 11) rfl rfl (want_no rfl rfl rfl rfl rfl) (by kernel_rfl) hX42.pins ?_
    refine dr_skip (i := 12) rfl rfl (want_no rfl rfl rfl rfl rfl) (by kernel_rfl) hX42.pins ?_
    refine dr_skip (i := 13) rfl rfl (want_no rfl rfl rfl rfl rfl) (by kernel_rfl) hX42.pins ?_
    refine dr_take (i := 14) rfl rfl rfl (want_none rfl _) (by kernel_rfl) (fun _ _ => r_pickF (v := (.bool false)) rfl rfl) hX42.pins ?_
    refine dr_take (i := 15) rfl rfl rfl (want_none rfl _) (by kernel_rfl) (fun _ _ => r_move (v := (.bool false)) rfl) hX42.pins ?_
    refine dr_take (i := 16) rfl rfl rfl (want_yes rfl rfl rfl rfl) (by kernel_rfl) (fun _ _ => r_fldp (k := 0) rfl Try.underlying71 rfl nz3 rfl) hX42.pins ?_
    refine dr_take (i := 17) rfl rfl rfl (want_yes rfl rfl rfl rfl) (by kernel_rfl) (fun _ hS => r_ldp1 (u := (.int .i64 c.a)) ag3 rfl (hS _ _ _ (hbp38 0 _ rfl))) hX42.pins ?_
    refine dr_take (i := 18) rfl rfl rfl (want_yes rfl rfl rfl rfl) (by kernel_rfl) (fun _ _ => r_move (v := (.int .i64 r)) rfl) hX42.pins ?_
    refine dr_take (i := 19) rfl rfl rfl (want_yes rfl rfl rfl rfl) (by kernel_rfl) (fun _ _ => r_eql rfl rfl) hX42.pins ?_
    refine dr_take (i := 20) rfl rfl rfl (want_yes rfl rfl rfl rfl) (by kernel_rfl) (fun _ _ => r_move (v := (.bool (decide ((c.a : Int) = r)))) rfl) hX42.pins ?_
    refine drbd (p := (c.a : Int) = r) (t := 31) rfl (fun h54 => ?_) (fun h54 => ?_)
    · skip
      refine dr_take (i := 21) rfl rfl rfl (want_yes rfl rfl rfl rfl) (by kernel_rfl) (fun _ _ => r_fldp (k := 0) rfl Try.underlying34 rfl nz32 rfl) hX42.pins ?_
      refine dr_take (i := 22) rfl rfl rfl (want_yes rfl rfl rfl rfl) (by kernel_rfl) (fun _ hS => r_ldp1 (u := v) ag32 rfl ((Pins.of_le hS hle36) _ _ _ (hbp25 0 _ rfl))) hX42.pins ?_
      refine dr_take (i := 23) rfl rfl rfl (want_yes rfl rfl rfl rfl) (by kernel_rfl) (fun _ _ => r_move (v := (.int .i64 y)) rfl) hX42.pins ?_
      refine dr_take (i := 24) rfl rfl rfl (want_yes rfl rfl rfl rfl) (by kernel_rfl) (fun _ _ => run_idx Try.underlying32 sz104 (v := v) rfl rfl hv (by omega) (by omega)) hX42.pins ?_
      refine dr_take (i := 25) rfl rfl rfl (want_yes rfl rfl rfl rfl) (by kernel_rfl) (fun _ _ => run_fld (off := 1) Try.underlying104 rfl rfl nz69 (z := y) (k := 0) rfl hv (by omega) (by omega)) hX42.pins ?_
      obtain ⟨u55, hr56, hl57⟩ := nm_nr (hv.at (z := y) (by omega) (by omega)) (j := (y).toNat) rfl
      have hm58 := hr56.max
      refine dr_take (i := 26) rfl rfl rfl (want_yes rfl rfl rfl rfl) (by kernel_rfl) (fun _ hS => hl57 ag69 rfl (Pins.of_le hS (Pin.le_trans (Pin.le_trans hle10 hle23) hle36))) hX42.pins ?_
      refine dr_take (i := 27) rfl rfl rfl (want_yes rfl rfl rfl rfl) (by kernel_rfl) (fun _ _ => r_fldp (k := 1) rfl Try.underlying71 rfl nz3 rfl) hX42.pins ?_
      refine dr_take (i := 28) rfl rfl rfl (want_yes rfl rfl rfl rfl) (by kernel_rfl) (fun _ hS => r_ldp1 (u := (.int .i64 c.b)) ag3 rfl (hS _ _ _ (hbp38 1 _ rfl))) hX42.pins ?_
      refine dr_one (i := 29) (by kernel_rfl) (drOp1 (i := 29) rfl rfl rfl (want_yes rfl rfl rfl rfl) (o_call (vs := [u55, (.int .i64 c.b)]) Try.func102 nm102 rfl rfl rfl ?_))
      refine Calls.mono (l1Has_spec hX42.pins (hr56.mono (Pin.le_trans (Pin.le_trans hle10 hle23) hle36))) ?_
      rintro _ _ ⟨rfl, rfl⟩
      refine ⟨_, rfl, ?_⟩
      refine ⟨fun _ => hX42.pins, ?_⟩
      refine dr_take (i := 30) rfl rfl rfl (want_yes rfl rfl rfl rfl) (by kernel_rfl) (fun _ _ => r_pickT (v := (.bool (decide (c.b ∈ ((bs.getD (y).toNat default).r))))) rfl rfl) hX42.pins ?_
      refine dr_take (i := 31) rfl rfl rfl (want_none rfl _) (by kernel_rfl) (fun _ _ => r_pickF (v := (.bool (decide (c.b ∈ ((bs.getD (y).toNat default).r))))) rfl rfl) hX42.pins ?_
      refine dr_take (i := 32) rfl rfl rfl (want_none rfl _) (by kernel_rfl) (fun _ _ => r_assign (v := (.bool (decide (c.b ∈ ((bs.getD (y).toNat default).r))))) rfl) hX42.pins ?_
      refine dr_end (by kernel_rfl) ?_
      refine s_then ?_
      refine wp_ret ?_
      refine s_ret ?_
      refine c_ret1 (v := (.bool (decide (c.b ∈ ((bs.getD (y).toNat default).r))))) rfl rfl rfl ?_
      exact ⟨_, congrArg (fun z => Ending.returned (Value.bool z)) (decide_eq_decide.2 ⟨fun g => mem_rights.2 (by first | exact Or.inr ⟨by omega, g⟩ | exact Or.inl ⟨by omega, g⟩), fun g => by rcases mem_rights.1 g with ⟨g1, g2⟩ | ⟨g1, g2⟩ <;> first | exact g2 | contradiction | omega⟩), hX42⟩
    · skip
      refine dr_skip (i := 21) rfl rfl (want_no rfl rfl rfl rfl rfl) (by kernel_rfl) hX42.pins ?_
      refine dr_skip (i := 22) rfl rfl (want_no rfl rfl rfl rfl rfl) (by kernel_rfl) hX42.pins ?_
      refine dr_skip (i := 23) rfl rfl (want_no rfl rfl rfl rfl rfl) (by kernel_rfl) hX42.pins ?_
      refine dr_skip (i := 24) rfl rfl (want_no rfl rfl rfl rfl rfl) (by kernel_rfl) hX42.pins ?_
      refine dr_skip (i := 25) rfl rfl (want_no rfl rfl rfl rfl rfl) (by kernel_rfl) hX42.pins ?_
      refine dr_skip (i := 26) rfl rfl (want_no rfl rfl rfl rfl rfl) (by kernel_rfl) hX42.pins ?_
      refine dr_skip (i := 27) rfl rfl (want_no rfl rfl rfl rfl rfl) (by kernel_rfl) hX42.pins ?_
      refine dr_skip (i := 28) rfl rfl (want_no rfl rfl rfl rfl rfl) (by kernel_rfl) hX42.pins ?_
      refine dr_skip (i := 29) rfl rfl (want_no rfl rfl rfl rfl rfl) (by kernel_rfl) hX42.pins ?_
      refine dr_take (i := 30) rfl rfl rfl (want_yes rfl rfl rfl rfl) (by kernel_rfl) (fun _ _ => r_pickF (v := (.bool false)) rfl rfl) hX42.pins ?_
      refine dr_take (i := 31) rfl rfl rfl (want_none rfl _) (by kernel_rfl) (fun _ _ => r_pickF (v := (.bool false)) rfl rfl) hX42.pins ?_
      refine dr_take (i := 32) rfl rfl rfl (want_none rfl _) (by kernel_rfl) (fun _ _ => r_assign (v := (.bool false)) rfl) hX42.pins ?_
      refine dr_end (by kernel_rfl) ?_
      refine s_then ?_
      refine wp_ret ?_
      refine s_ret ?_
      refine c_ret1 (v := (.bool false)) rfl rfl rfl ?_
      exact ⟨_, congrArg (fun z => Ending.returned (Value.bool z)) (decide_eq_false (fun g => by rcases mem_rights.1 g with ⟨g1, g2⟩ | ⟨g1, g2⟩ <;> first | contradiction | omega)).symm, hX42⟩

theorem l15Left_spec {w : World} {G : Pin} {u v cr cl : Value} {ns bs : List Nd} {c : Cl} {r y : Int} (hP : Pins G w) (hu : RSl eNode G u ns) (hv : RSl eNode G v bs) (hx : 0 ≤ y ∧ y < ns.length) (hy : 0 ≤ r ∧ r < bs.length) :
    Calls Try.prog 66 [(.agg [u].toArray), (.agg [v].toArray), (.int .i64 r), (.agg [(.int .i64 c.a), (.int .i64 c.b), cr, cl].toArray), (.int .i64 y)].toArray w fun e w' => ∃ G', e = .returned (.bool (decide ((c.a, c.b) ∈ leftsP ns bs y r))) ∧ Ext noS G w G' w' := by
  refine s_enter (n := 43) Try.func66 Try.ntmps66 rfl rfl ?_
  have hX0 : Ext noS G w G w := Ext.refl hP
  refine s_seq ?_
  refine c_reg ?_
  refine q1 rfl rfl rfl (o_box [u] (v := (.agg [u].toArray)) rfl rfl hX0.pins (fun b1 w2 hk3 hb4 hp5 hl6 => ?_))
  have hX7 := hX0.step hp5 hl6
  have hlo8 : w.heap.size ≤ b1 := by have := hX0.size; omega
  obtain ⟨G9, hle10, hX11, hbp12, hf13⟩ := hb4.shut hX7 hlo8
  refine q1 rfl rfl rfl (o_box [v] (v := (.agg [v].toArray)) rfl rfl hX11.pins (fun b14 w15 hk16 hb17 hp18 hl19 => ?_))
  have hX20 := hX11.step hp18 hl19
  have hlo21 : w.heap.size ≤ b14 := by have := hX11.size; omega
  obtain ⟨G22, hle23, hX24, hbp25, hf26⟩ := hb17.shut hX20 hlo21
  refine q1 rfl rfl rfl (o_box [(.int .i64 c.a), (.int .i64 c.b), cr, cl] (v := (.agg [(.int .i64 c.a), (.int .i64 c.b), cr, cl].toArray)) rfl rfl hX24.pins (fun b27 w28 hk29 hb30 hp31 hl32 => ?_))
  have hX33 := hX24.step hp31 hl32
  have hlo34 : w.heap.size ≤ b27 := by have := hX24.size; omega
  obtain ⟨G35, hle36, hX37, hbp38, hf39⟩ := hb30.shut hX33 hlo34
  refine qd rfl rfl rfl (r_assign (v := (.bool false)) rfl) ?_
  refine qe ?_
  refine s_then ?_
  refine s_seq ?_
  refine c_draw (S := fun w => Pins G35 w) (last := 33) (by kernel_rfl) rfl ?_
  have hl40 : Below w28.heap.size w28 w28.drew := (Below.refl _ _).drew
  have hp41 := hX37.pins.below hl40
  have hX42 := hX37.step hp41 hl40
  refine dr_take (i := 0) rfl rfl rfl (want_none rfl _) (by kernel_rfl) (fun _ _ => r_fldp (k := 1) rfl Try.underlying71 rfl nz3 rfl) hX42.pins ?_
  refine dr_take (i := 1) rfl rfl rfl (want_none rfl _) (by kernel_rfl) (fun _ hS => r_ldp1 (u := (.int .i64 c.b)) ag3 rfl (hS _ _ _ (hbp38 1 _ rfl))) hX42.pins ?_
  refine dr_take (i := 2) rfl rfl rfl (want_none rfl _) (by kernel_rfl) (fun _ _ => r_move (v := (.int .i64 r)) rfl) hX42.pins ?_
  refine dr_take (i := 3) rfl rfl rfl (want_none rfl _) (by kernel_rfl) (fun _ _ => r_eql rfl rfl) hX42.pins ?_
  refine dr_take (i := 4) rfl rfl rfl (want_none rfl _) (by kernel_rfl) (fun _ _ => r_move (v := (.bool (decide ((c.b : Int) = r)))) rfl) hX42.pins ?_
  refine drbd (p := (c.b : Int) = r) (t := 15) rfl (fun h43 => ?_) (fun h43 => ?_)
  · skip
    refine dr_take (i := 5) rfl rfl rfl (want_yes rfl rfl rfl rfl) (by kernel_rfl) (fun _ _ => r_fldp (k := 0) rfl Try.underlying34 rfl nz32 rfl) hX42.pins ?_
    refine dr_take (i := 6) rfl rfl rfl (want_yes rfl rfl rfl rfl) (by kernel_rfl) (fun _ hS => r_ldp1 (u := u) ag32 rfl ((Pins.of_le hS (Pin.le_trans hle23 hle36)) _ _ _ (hbp12 0 _ rfl))) hX42.pins ?_
    refine dr_take (i := 7) rfl rfl rfl (want_yes rfl rfl rfl rfl) (by kernel_rfl) (fun _ _ => r_move (v := (.int .i64 y)) rfl) hX42.pins ?_
    refine dr_take (i := 8) rfl rfl rfl (want_yes rfl rfl rfl rfl) (by kernel_rfl) (fun _ _ => run_idx Try.underlying32 sz104 (v := u) rfl rfl hu (by omega) (by omega)) hX42.pins ?_
    refine dr_take (i := 9) rfl rfl rfl (want_yes rfl rfl rfl rfl) (by kernel_rfl) (fun _ _ => run_fld (off := 0) Try.underlying104 rfl rfl nz69 (z := y) (k := 0) rfl hu (by omega) (by omega)) hX42.pins ?_
    obtain ⟨u44, hr45, hl46⟩ := nm_nl (hu.at (z := y) (by omega) (by omega)) (j := (y).toNat) rfl
    have hm47 := hr45.max
    refine dr_take (i := 10) rfl rfl rfl (want_yes rfl rfl rfl rfl) (by kernel_rfl) (fun _ hS => hl46 ag69 rfl (Pins.of_le hS (Pin.le_trans (Pin.le_trans hle10 hle23) hle36))) hX42.pins ?_
    refine dr_take (i := 11) rfl rfl rfl (want_yes rfl rfl rfl rfl) (by kernel_rfl) (fun _ _ => r_fldp (k := 0) rfl Try.underlying71 rfl nz3 rfl) hX42.pins ?_
    refine dr_take (i := 12) rfl rfl rfl (want_yes rfl rfl rfl rfl) (by kernel_rfl) (fun _ hS => r_ldp1 (u := (.int .i64 c.a)) ag3 rfl (hS _ _ _ (hbp38 0 _ rfl))) hX42.pins ?_
    refine dr_one (i := 13) (by kernel_rfl) (drOp1 (i := 13) rfl rfl rfl (want_yes rfl rfl rfl rfl) (o_call (vs := [u44, (.int .i64 c.a)]) Try.func102 nm102 rfl rfl rfl ?_))
    refine Calls.mono (l1Has_spec hX42.pins (hr45.mono (Pin.le_trans (Pin.le_trans hle10 hle23) hle36))) ?_
    rintro _ _ ⟨rfl, rfl⟩
    refine ⟨_, rfl, ?_⟩
    refine ⟨fun _ => hX42.pins, ?_⟩
    refine dr_take (i := 14) rfl rfl rfl (want_none rfl _) (by kernel_rfl) (fun _ _ => r_pickT (v := (.bool (decide (c.a ∈ ((ns.getD (y).toNat default).l))))) rfl rfl) hX42.pins ?_
    refine dr_take (i := 15) rfl rfl rfl (want_none rfl _) (by kernel_rfl) (fun _ _ => r_move (v := (.bool (decide (c.a ∈ ((ns.getD (y).toNat default).l))))) rfl) hX42.pins ?_
    refine drbd (p := (c.a ∈ ((ns.getD (y).toNat default).l))) (t := 26) rfl (fun h48 => ?_) (fun h48 => ?_)
    · skip
      refine dr_skip (i := 16) rfl rfl (want_no rfl rfl rfl rfl rfl) (by kernel_rfl) hX42.pins ?_
      refine dr_skip (i := 17) rfl rfl (want_no rfl rfl rfl rfl rfl) (by kernel_rfl) hX42.pins ?_
      refine dr_skip (i := 18) rfl rfl (want_no rfl rfl rfl rfl rfl) (by kernel_rfl) hX42.pins ?_
      refine dr_skip (i := 19) rfl rfl (want_no rfl rfl rfl rfl rfl) (by kernel_rfl) hX42.pins ?_
      refine dr_skip (i := 20) rfl rfl (want_no rfl rfl rfl rfl rfl) (by kernel_rfl) hX42.pins ?_
      refine dr_skip (i := 21) rfl rfl (want_undef rfl rfl rfl rfl) (by kernel_rfl) hX42.pins ?_
      refine dr_skip (i := 22) rfl rfl (want_undef rfl rfl rfl rfl) (by kernel_rfl) hX42.pins ?_
      refine dr_skip (i := 23) rfl rfl (want_undef rfl rfl rfl rfl) (by kernel_rfl) hX42.pins ?_
      refine dr_skip (i := 24) rfl rfl (want_undef rfl rfl rfl rfl) (by kernel_rfl) hX42.pins ?_
      refine dr_skip (i := 25) rfl rfl (want_undef rfl rfl rfl rfl) (by kernel_rfl) hX42.pins ?_
      refine dr_skip (i := 26) rfl rfl (want_undef rfl rfl rfl rfl) (by kernel_rfl) hX42.pins ?_
      refine dr_skip (i := 27) rfl rfl (want_undef rfl rfl rfl rfl) (by kernel_rfl) hX42.pins ?_
      refine dr_skip (i := 28) rfl rfl (want_undef rfl rfl rfl rfl) (by kernel_rfl) hX42.pins ?_
      refine dr_skip (i := 29) rfl rfl (want_undef rfl rfl rfl rfl) (by kernel_rfl) hX42.pins ?_
      refine dr_skip (i := 30) rfl rfl (want_no rfl rfl rfl rfl rfl) (by kernel_rfl) hX42.pins ?_
      refine dr_take (i := 31) rfl rfl rfl (want_none rfl _) (by kernel_rfl) (fun _ _ => r_pickT (v := (.bool true)) rfl rfl) hX42.pins ?_
      refine dr_take (i := 32) rfl rfl rfl (want_none rfl _) (by kernel_rfl) (fun _ _ => r_assign (v := (.bool true)) rfl) hX42.pins ?_
      refine dr_end (by kernel_rfl) ?_
      refine s_then ?_
      refine wp_ret ?_
      refine s_ret ?_
      refine c_ret1 (v := (.bool true)) rfl rfl rfl ?_
      exact ⟨_, congrArg (fun z => Ending.returned (Value.bool z)) (decide_eq_true (mem_lefts.2 (by first | exact Or.inl ⟨by omega, by assumption⟩ | exact Or.inr ⟨by omega, by assumption⟩))).symm, hX42⟩
    · skip
      refine dr_take (i := 16) rfl rfl rfl (want_yes rfl rfl rfl rfl) (by kernel_rfl) (fun _ _ => r_fldp (k := 0) rfl Try.underlying71 rfl nz3 rfl) hX42.pins ?_
      refine dr_take (i := 17) rfl rfl rfl (want_yes rfl rfl rfl rfl) (by kernel_rfl) (fun _ hS => r_ldp1 (u := (.int .i64 c.a)) ag3 rfl (hS _ _ _ (hbp38 0 _ rfl))) hX42.pins ?_
      refine dr_take (i := 18) rfl rfl rfl (want_yes rfl rfl rfl rfl) (by kernel_rfl) (fun _ _ => r_move (v := (.int .i64 y)) rfl) hX42.pins ?_
      refine dr_take (i := 19) rfl rfl rfl (want_yes rfl rfl rfl rfl) (by kernel_rfl) (fun _ _ => r_eql rfl rfl) hX42.pins ?_
      refine dr_take (i := 20) rfl rfl rfl (want_yes rfl rfl rfl rfl) (by kernel_rfl) (fun _ _ => r_move (v := (.bool (decide ((c.a : Int) = y)))) rfl) hX42.pins ?_
      refine drbd (p := (c.a : Int) = y) (t := 31) rfl (fun h49 => ?_) (fun h49 => ?_)
      · skip
        refine dr_take (i := 21) rfl rfl rfl (want_yes rfl rfl rfl rfl) (by kernel_rfl) (fun _ _ => r_fldp (k := 0) rfl Try.underlying34 rfl nz32 rfl) hX42.pins ?_
        refine dr_take (i := 22) rfl rfl rfl (want_yes rfl rfl rfl rfl) (by kernel_rfl) (fun _ hS => r_ldp1 (u := v) ag32 rfl ((Pins.of_le hS hle36) _ _ _ (hbp25 0 _ rfl))) hX42.pins ?_
        refine dr_take (i := 23) rfl rfl rfl (want_yes rfl rfl rfl rfl) (by kernel_rfl) (fun _ _ => r_move (v := (.int .i64 r)) rfl) hX42.pins ?_
        refine dr_take (i := 24) rfl rfl rfl (want_yes rfl rfl rfl rfl) (by kernel_rfl) (fun _ _ => run_idx Try.underlying32 sz104 (v := v) rfl rfl hv (by omega) (by omega)) hX42.pins ?_
        refine dr_take (i := 25) rfl rfl rfl (want_yes rfl rfl rfl rfl) (by kernel_rfl) (fun _ _ => run_fld (off := 1) Try.underlying104 rfl rfl nz69 (z := r) (k := 0) rfl hv (by omega) (by omega)) hX42.pins ?_
        obtain ⟨u50, hr51, hl52⟩ := nm_nr (hv.at (z := r) (by omega) (by omega)) (j := (r).toNat) rfl
        have hm53 := hr51.max
        refine dr_take (i := 26) rfl rfl rfl (want_yes rfl rfl rfl rfl) (by kernel_rfl) (fun _ hS => hl52 ag69 rfl (Pins.of_le hS (Pin.le_trans (Pin.le_trans hle10 hle23) hle36))) hX42.pins ?_
        refine dr_take (i := 27) rfl rfl rfl (want_yes rfl rfl rfl rfl) (by kernel_rfl) (fun _ _ => r_fldp (k := 1) rfl Try.underlying71 rfl nz3 rfl) hX42.pins ?_
        refine dr_take (i := 28) rfl rfl rfl (want_yes rfl rfl rfl rfl) (by kernel_rfl) (fun _ hS => r_ldp1 (u := (.int .i64 c.b)) ag3 rfl (hS _ _ _ (hbp38 1 _ rfl))) hX42.pins ?_
        refine dr_one (i := 29) (by kernel_rfl) (drOp1 (i := 29) rfl rfl rfl (want_yes rfl rfl rfl rfl) (o_call (vs := [u50, (.int .i64 c.b)]) Try.func102 nm102 rfl rfl rfl ?_))
        refine Calls.mono (l1Has_spec hX42.pins (hr51.mono (Pin.le_trans (Pin.le_trans hle10 hle23) hle36))) ?_
        rintro _ _ ⟨rfl, rfl⟩
        refine ⟨_, rfl, ?_⟩
        refine ⟨fun _ => hX42.pins, ?_⟩
        refine dr_take (i := 30) rfl rfl rfl (want_yes rfl rfl rfl rfl) (by kernel_rfl) (fun _ _ => r_pickT (v := (.bool (decide (c.b ∈ ((bs.getD (r).toNat default).r))))) rfl rfl) hX42.pins ?_
        refine dr_take (i := 31) rfl rfl rfl (want_none rfl _) (by kernel_rfl) (fun _ _ => r_pickF (v := (.bool (decide (c.b ∈ ((bs.getD (r).toNat default).r))))) rfl rfl) hX42.pins ?_
        refine dr_take (i := 32) rfl rfl rfl (want_none rfl _) (by kernel_rfl) (fun _ _ => r_assign (v := (.bool (decide (c.b ∈ ((bs.getD (r).toNat default).r))))) rfl) hX42.pins ?_
        refine dr_end (by kernel_rfl) ?_
        refine s_then ?_
        refine wp_ret ?_
        refine s_ret ?_
        refine c_ret1 (v := (.bool (decide (c.b ∈ ((bs.getD (r).toNat default).r))))) rfl rfl rfl ?_
        exact ⟨_, congrArg (fun z => Ending.returned (Value.bool z)) (decide_eq_decide.2 ⟨fun g => mem_lefts.2 (by first | exact Or.inr ⟨by omega, g⟩ | exact Or.inl ⟨by omega, g⟩), fun g => by rcases mem_lefts.1 g with ⟨g1, g2⟩ | ⟨g1, g2⟩ <;> first | exact g2 | contradiction | omega⟩), hX42⟩
      · skip
        refine dr_skip (i := 21) rfl rfl (want_no rfl rfl rfl rfl rfl) (by kernel_rfl) hX42.pins ?_
        refine dr_skip (i := 22) rfl rfl (want_no rfl rfl rfl rfl rfl) (by kernel_rfl) hX42.pins ?_
        refine dr_skip (i := 23) rfl rfl (want_no rfl rfl rfl rfl rfl) (by kernel_rfl) hX42.pins ?_
        refine dr_skip (i := 24) rfl rfl (want_no rfl rfl rfl rfl rfl) (by kernel_rfl) hX42.pins ?_
        refine dr_skip (i := 25) rfl rfl (want_no rfl rfl rfl rfl rfl) (by kernel_rfl) hX42.pins ?_
        refine dr_skip (i := 26) rfl rfl (want_no rfl rfl rfl rfl rfl) (by kernel_rfl) hX42.pins ?_
        refine dr_skip (i := 27) rfl rfl (want_no rfl rfl rfl rfl rfl) (by kernel_rfl) hX42.pins ?_
        refine dr_skip (i := 28) rfl rfl (want_no rfl rfl rfl rfl rfl) (by kernel_rfl) hX42.pins ?_
        refine dr_skip (i := 29) rfl rfl (want_no rfl rfl rfl rfl rfl) (by kernel_rfl) hX42.pins ?_
        refine dr_take (i := 30) rfl rfl rfl (want_yes rfl rfl rfl rfl) (by kernel_rfl) (fun _ _ => r_pickF (v := (.bool false)) rfl rfl) hX42.pins ?_
        refine dr_take (i := 31) rfl rfl rfl (want_none rfl _) (by kernel_rfl) (fun _ _ => r_pickF (v := (.bool false)) rfl rfl) hX42.pins ?_
        refine dr_take (i := 32) rfl rfl rfl (want_none rfl _) (by kernel_rfl) (fun _ _ => r_assign (v := (.bool false)) rfl) hX42.pins ?_
        refine dr_end (by kernel_rfl) ?_
        refine s_then ?_
        refine wp_ret ?_
        refine s_ret ?_
        refine c_ret1 (v := (.bool false)) rfl rfl rfl ?_
        exact ⟨_, congrArg (fun z => Ending.returned (Value.bool z)) (decide_eq_false (fun g => by rcases mem_lefts.1 g with ⟨g1, g2⟩ | ⟨g1, g2⟩ <;> first | contradiction | omega)).symm, hX42⟩
  · skip
    refine dr_skip (i := 5) rfl rfl (want_no rfl rfl rfl rfl rfl) (by kernel_rfl) hX42.pins ?_
    refine dr_skip (i := 6) rfl rfl (want_no rfl rfl rfl rfl rfl) (by kernel_rfl) hX42.pins ?_
    refine dr_skip (i := 7) rfl rfl (want_no rfl rfl rfl rfl rfl) (by kernel_rfl) hX42.pins ?_
    refine dr_skip (i := 8) rfl rfl (want_no rfl rfl rfl rfl rfl) (by kernel_rfl) hX42.pins ?_
    refine dr_skip (i := 9) rfl rfl (want_no rfl rfl rfl rfl rfl) (by kernel_rfl) hX42.pins ?_
    refine dr_skip (i := 10) rfl rfl (want_no rfl rfl rfl rfl rfl) (by kernel_rfl) hX42.pins ?_
    refine dr_skip (i := 11) rfl rfl (want_no rfl rfl rfl rfl rfl) (by kernel_rfl) hX42.pins ?_
    refine dr_skip (i := 12) rfl rfl (want_no rfl rfl rfl rfl rfl) (by kernel_rfl) hX42.pins ?_
    refine dr_skip (i := 13) rfl rfl (want_no rfl rfl rfl rfl rfl) (by kernel_rfl) hX42.pins ?_
    refine dr_take (i := 14) rfl rfl rfl (want_none rfl _) (by kernel_rfl) (fun _ _ => r_pickF (v := (.bool false)) rfl rfl) hX42.pins ?_
    refine dr_take (i := 15) rfl rfl rfl (want_none rfl _) (by kernel_rfl) (fun _ _ => r_move (v := (.bool false)) rfl) hX42.pins ?_
    refine dr_take (i := 16) rfl rfl rfl (want_yes rfl rfl rfl rfl) (by kernel_rfl) (fun _ _ => r_fldp (k := 0) rfl Try.underlying71 rfl nz3 rfl) hX42.pins ?_
    refine dr_take (i := 17) rfl rfl rfl (want_yes rfl rfl rfl rfl) (by kernel_rfl) (fun _ hS => r_ldp1 (u := (.int .i64 c.a)) ag3 rfl (hS _ _ _ (hbp38 0 _ rfl))) hX42.pins ?_
    refine dr_take (i := 18) rfl rfl rfl (want_yes rfl rfl rfl rfl) (by kernel_rfl) (fun _ _ => r_move (v := (.int .i64 y)) rfl) hX42.pins ?_
    refine dr_take (i := 19) rfl rfl rfl (want_yes rfl rfl rfl rfl) (by kernel_rfl) (fun _ _ => r_eql rfl rfl) hX42.pins ?_
    refine dr_take (i := 20) rfl rfl rfl (want_yes rfl rfl rfl rfl) (by kernel_rfl) (fun _ _ => r_move (v := (.bool (decide ((c.a : Int) = y)))) rfl) hX42.pins ?_
    refine drbd (p := (c.a : Int) = y) (t := 31) rfl (fun h54 => ?_) (fun h54 => ?_)
    · skip
      refine dr_take (i := 21) rfl rfl rfl (want_yes rfl rfl rfl rfl) (by kernel_rfl) (fun _ _ => r_fldp (k := 0) rfl Try.underlying34 rfl nz32 rfl) hX42.pins ?_
      refine dr_take (i := 22) rfl rfl rfl (want_yes rfl rfl rfl rfl) (by kernel_rfl) (fun _ hS => r_ldp1 (u := v) ag32 rfl ((Pins.of_le hS hle36) _ _ _ (hbp25 0 _ rfl))) hX42.pins ?_
      refine dr_take (i := 23) rfl rfl rfl (want_yes rfl rfl rfl rfl) (by kernel_rfl) (fun _ _ => r_move (v := (.int .i64 r)) rfl) hX42.pins ?_
      refine dr_take (i := 24) rfl rfl rfl (want_yes rfl rfl rfl rfl) (by kernel_rfl) (fun _ _ => run_idx Try.underlying32 sz104 (v := v) rfl rfl hv (by omega) (by omega)) hX42.pins ?_
      refine dr_take (i := 25) rfl rfl rfl (want_yes rfl rfl rfl rfl) (by kernel_rfl) (fun _ _ => run_fld (off := 1) Try.underlying104 rfl rfl nz69 (z := r) (k := 0) rfl hv (by omega) (by omega)) hX42.pins ?_
      obtain ⟨u55, hr56, hl57⟩ := nm_nr (hv.at (z := r) (by omega) (by omega)) (j := (r).toNat) rfl
      have hm58 := hr56.max
      refine dr_take (i := 26) rfl rfl rfl (want_yes rfl rfl rfl rfl) (by kernel_rfl) (fun _ hS => hl57 ag69 rfl (Pins.of_le hS (Pin.le_trans (Pin.le_trans hle10 hle23) hle36))) hX42.pins ?_
      refine dr_take (i := 27) rfl rfl rfl (want_yes rfl rfl rfl rfl) (by kernel_rfl) (fun _ _ => r_fldp (k := 1) rfl Try.underlying71 rfl nz3 rfl) hX42.pins ?_
      refine dr_take (i := 28) rfl rfl rfl (want_yes rfl rfl rfl rfl) (by kernel_rfl) (fun _ hS => r_ldp1 (u := (.int .i64 c.b)) ag3 rfl (hS _ _ _ (hbp38 1 _ rfl))) hX42.pins ?_
      refine dr_one (i := 29) (by kernel_rfl) (drOp1 (i := 29) rfl rfl rfl (want_yes rfl rfl rfl rfl) (o_call (vs := [u55, (.int .i64 c.b)]) Try.func102 nm102 rfl rfl rfl ?_))
      refine Calls.mono (l1Has_spec hX42.pins (hr56.mono (Pin.le_trans (Pin.le_trans hle10 hle23) hle36))) ?_
      rintro _ _ ⟨rfl, rfl⟩
      refine ⟨_, rfl, ?_⟩
      refine ⟨fun _ => hX42.pins, ?_⟩
      refine dr_take (i := 30) rfl rfl rfl (want_yes rfl rfl rfl rfl) (by kernel_rfl) (fun _ _ => r_pickT (v := (.bool (decide (c.b ∈ ((bs.getD (r).toNat default).r))))) rfl rfl) hX42.pins ?_
      refine dr_take (i := 31) rfl rfl rfl (want_none rfl _) (by kernel_rfl) (fun _ _ => r_pickF (v := (.bool (decide (c.b ∈ ((bs.getD (r).toNat default).r))))) rfl rfl) hX42.pins ?_
      refine dr_take (i := 32) rfl rfl rfl (want_none rfl _) (by kernel_rfl) (fun _ _ => r_assign (v := (.bool (decide (c.b ∈ ((bs.getD (r).toNat default).r))))) rfl) hX42.pins ?_
      refine dr_end (by kernel_rfl) ?_
      refine s_then ?_
      refine wp_ret ?_
      refine s_ret ?_
      refine c_ret1 (v := (.bool (decide (c.b ∈ ((bs.getD (r).toNat default).r))))) rfl rfl rfl ?_
      exact ⟨_, congrArg (fun z => Ending.returned (Value.bool z)) (decide_eq_decide.2 ⟨fun g => mem_lefts.2 (by first | exact Or.inr ⟨by omega, g⟩ | exact Or.inl ⟨by omega, g⟩), fun g => by rcases mem_lefts.1 g with ⟨g1, g2⟩ | ⟨g1, g2⟩ <;> first | exact g2 | contradiction | omega⟩), hX42⟩
    · skip
      refine dr_skip (i := 21) rfl rfl (want_no rfl rfl rfl rfl rfl) (by kernel_rfl) hX42.pins ?_
      refine dr_skip (i := 22) rfl rfl (want_no rfl rfl rfl rfl rfl) (by kernel_rfl) hX42.pins ?_
      refine dr_skip (i := 23) rfl rfl (want_no rfl rfl rfl rfl rfl) (by kernel_rfl) hX42.pins ?_
      refine dr_skip (i := 24) rfl rfl (want_no rfl rfl rfl rfl rfl) (by kernel_rfl) hX42.pins ?_
      refine dr_skip (i := 25) rfl rfl (want_no rfl rfl rfl rfl rfl) (by kernel_rfl) hX42.pins ?_
      refine dr_skip (i := 26) rfl rfl (want_no rfl rfl rfl rfl rfl) (by kernel_rfl) hX42.pins ?_
      refine dr_skip (i := 27) rfl rfl (want_no rfl rfl rfl rfl rfl) (by kernel_rfl) hX42.pins ?_
      refine dr_skip (i := 28) rfl rfl (want_no rfl rfl rfl rfl rfl) (by kernel_rfl) hX42.pins ?_
      refine dr_skip (i := 29) rfl rfl (want_no rfl rfl rfl rfl rfl) (by kernel_rfl) hX42.pins ?_
      refine dr_take (i := 30) rfl rfl rfl (want_yes rfl rfl rfl rfl) (by kernel_rfl) (fun _ _ => r_pickF (v := (.bool false)) rfl rfl) hX42.pins ?_
      refine dr_take (i := 31) rfl rfl rfl (want_none rfl _) (by kernel_rfl) (fun _ _ => r_pickF (v := (.bool false)) rfl rfl) hX42.pins ?_
      refine dr_take (i := 32) rfl rfl rfl (want_none rfl _) (by kernel_rfl) (fun _ _ => r_assign (v := (.bool false)) rfl) hX42.pins ?_
      refine dr_end (by kernel_rfl) ?_
      refine s_then ?_
      refine wp_ret ?_
      refine s_ret ?_
      refine c_ret1 (v := (.bool false)) rfl rfl rfl ?_
      exact ⟨_, congrArg (fun z => Ending.returned (Value.bool z)) (decide_eq_false (fun g => by rcases mem_lefts.1 g with ⟨g1, g2⟩ | ⟨g1, g2⟩ <;> first | contradiction | omega)).symm, hX42⟩

theorem l15Ahead_spec {w : World} {G : Pin} {u v x y : Value} {c d : Cl} (hP : Pins G w) :
    Calls Try.prog 31 [(.agg [(.int .i64 c.a), (.int .i64 c.b), u, v].toArray), (.agg [(.int .i64 d.a), (.int .i64 d.b), x, y].toArray)].toArray w fun e w' => ∃ G', e = .returned (.bool (decP (AheadP c d))) ∧ Ext noS G w G' w' := by
  refine s_enter (n := 24) Try.func31 Try.ntmps31 rfl rfl ?_
  have hX0 : Ext noS G w G w := Ext.refl hP
  refine s_seq ?_
  refine c_reg ?_
  refine q1 rfl rfl rfl (o_box [(.int .i64 c.a), (.int .i64 c.b), u, v] (v := (.agg [(.int .i64 c.a), (.int .i64 c.b), u, v].toArray)) rfl rfl hX0.pins (fun b1 w2 hk3 hb4 hp5 hl6 => ?_))
  have hX7 := hX0.step hp5 hl6
  have hlo8 : w.heap.size ≤ b1 := by have := hX0.size; omega
  obtain ⟨G9, hle10, hX11, hbp12, hf13⟩ := hb4.shut hX7 hlo8
  refine q1 rfl rfl rfl (o_box [(.int .i64 d.a), (.int .i64 d.b), x, y] (v := (.agg [(.int .i64 d.a), (.int .i64 d.b), x, y].toArray)) rfl rfl hX11.pins (fun b14 w15 hk16 hb17 hp18 hl19 => ?_))
  have hX20 := hX11.step hp18 hl19
  have hlo21 : w.heap.size ≤ b14 := by have := hX11.size; omega
  obtain ⟨G22, hle23, hX24, hbp25, hf26⟩ := hb17.shut hX20 hlo21
  refine qd rfl rfl rfl (r_assign (v := (.bool false)) rfl) ?_
  refine qe ?_
  refine s_then ?_
  refine s_seq ?_
  refine c_reg ?_
  refine qd rfl rfl rfl (r_fldp (k := 0) rfl Try.underlying71 rfl nz3 rfl) ?_
  refine qd rfl rfl rfl (r_ldp1 (u := (.int .i64 c.a)) ag3 rfl ((Pins.of_le hX24.pins hle23) _ _ _ (hbp12 0 _ rfl))) ?_
  refine qd rfl rfl rfl (r_fldp (k := 0) rfl Try.underlying71 rfl nz3 rfl) ?_
  refine qd rfl rfl rfl (r_ldp1 (u := (.int .i64 d.a)) ag3 rfl (hX24.pins _ _ _ (hbp25 0 _ rfl))) ?_
  refine qd rfl rfl rfl (r_lss rfl rfl) ?_
  refine qd rfl rfl rfl (r_move (v := (.bool (decide ((c.a : Int) < d.a)))) rfl) ?_
  refine qbd (p := (c.a : Int) < d.a) (t := 10) rfl (fun h27 => ?_) (fun h27 => ?_)
  · skip
    refine qs rfl rfl rfl rfl rfl rfl ?_
    refine qs rfl rfl rfl rfl rfl rfl ?_
    refine qs rfl rfl rfl rfl rfl rfl ?_
    refine qs rfl rfl rfl rfl rfl rfl ?_
    refine qs rfl rfl rfl rfl rfl rfl ?_
    refine qs rfl rfl rfl rfl rfl rfl ?_
    refine qsu rfl rfl rfl rfl rfl ?_
    refine qsu rfl rfl rfl rfl rfl ?_
    refine qsu rfl rfl rfl rfl rfl ?_
    refine qsu rfl rfl rfl rfl rfl ?_
    refine qsu rfl rfl rfl rfl rfl ?_
    refine qs rfl rfl rfl rfl rfl rfl ?_
    refine qd rfl rfl rfl (r_pickT (v := (.bool true)) rfl rfl) ?_
    refine qd rfl rfl rfl (r_assign (v := (.bool true)) rfl) ?_
    refine qe ?_
    refine s_then ?_
    refine wp_ret ?_
    refine s_ret ?_
    refine c_ret1 (v := (.bool true)) rfl rfl rfl ?_
    refine ⟨_, congrArg (fun z => Ending.returned (Value.bool z)) ?_, hX24⟩
    exact (decP_true.2 (by unfold AheadP; omega)).symm
  · skip
    refine qdg rfl rfl rfl rfl rfl rfl (r_fldp (k := 0) rfl Try.underlying71 rfl nz3 rfl) ?_
    refine qdg rfl rfl rfl rfl rfl rfl (r_ldp1 (u := (.int .i64 c.a)) ag3 rfl ((Pins.of_le hX24.pins hle23) _ _ _ (hbp12 0 _ rfl))) ?_
    refine qdg rfl rfl rfl rfl rfl rfl (r_fldp (k := 0) rfl Try.underlying71 rfl nz3 rfl) ?_
    refine qdg rfl rfl rfl rfl rfl rfl (r_ldp1 (u := (.int .i64 d.a)) ag3 rfl (hX24.pins _ _ _ (hbp25 0 _ rfl))) ?_
    refine qdg rfl rfl rfl rfl rfl rfl (r_eql rfl rfl) ?_
    refine qdg rfl rfl rfl rfl rfl rfl (r_move (v := (.bool (decide ((c.a : Int) = d.a)))) rfl) ?_
    refine qbd (p := (c.a : Int) = d.a) (t := 16) rfl (fun h28 => ?_) (fun h28 => ?_)
    · skip
      refine qdg rfl rfl rfl rfl rfl rfl (r_fldp (k := 1) rfl Try.underlying71 rfl nz3 rfl) ?_
      refine qdg rfl rfl rfl rfl rfl rfl (r_ldp1 (u := (.int .i64 c.b)) ag3 rfl ((Pins.of_le hX24.pins hle23) _ _ _ (hbp12 1 _ rfl))) ?_
      refine qdg rfl rfl rfl rfl rfl rfl (r_fldp (k := 1) rfl Try.underlying71 rfl nz3 rfl) ?_
      refine qdg rfl rfl rfl rfl rfl rfl (r_ldp1 (u := (.int .i64 d.b)) ag3 rfl (hX24.pins _ _ _ (hbp25 1 _ rfl))) ?_
      refine qdg rfl rfl rfl rfl rfl rfl (r_lss rfl rfl) ?_
      refine qdg rfl rfl rfl rfl rfl rfl (r_pickT (v := (.bool (decide ((c.b : Int) < d.b)))) rfl rfl) ?_
      refine qd rfl rfl rfl (r_pickF (v := (.bool (decide ((c.b : Int) < d.b)))) rfl rfl) ?_
      refine qd rfl rfl rfl (r_assign (v := (.bool (decide ((c.b : Int) < d.b)))) rfl) ?_
      refine qe ?_
      refine s_then ?_
      refine wp_ret ?_
      refine s_ret ?_
      refine c_ret1 (v := (.bool (decide ((c.b : Int) < d.b)))) rfl rfl rfl ?_
      refine ⟨_, congrArg (fun z => Ending.returned (Value.bool z)) ?_, hX24⟩
      by_cases hc : c.b < d.b
      · exact (decide_eq_true hc).trans (decP_true.2 (by unfold AheadP; omega)).symm
      · exact (decide_eq_false hc).trans (decP_false.2 (by unfold AheadP; omega)).symm
    · skip
      refine qs rfl rfl rfl rfl rfl rfl ?_
      refine qs rfl rfl rfl rfl rfl rfl ?_
      refine qs rfl rfl rfl rfl rfl rfl ?_
      refine qs rfl rfl rfl rfl rfl rfl ?_
      refine qs rfl rfl rfl rfl rfl rfl ?_
      refine qdg rfl rfl rfl rfl rfl rfl (r_pickF (v := (.bool false)) rfl rfl) ?_
      refine qd rfl rfl rfl (r_pickF (v := (.bool false)) rfl rfl) ?_
      refine qd rfl rfl rfl (r_assign (v := (.bool false)) rfl) ?_
      refine qe ?_
      refine s_then ?_
      refine wp_ret ?_
      refine s_ret ?_
      refine c_ret1 (v := (.bool false)) rfl rfl rfl ?_
      refine ⟨_, congrArg (fun z => Ending.returned (Value.bool z)) ?_, hX24⟩
      exact (decP_false.2 (by unfold AheadP; omega)).symm

theorem l15Holds_spec {w : World} {G : Pin} {u v x : Value} {ps : List Cl} {ns bs : List Nd} {kz : Int} (hP : Pins G w) (ha : RSl eNode G v ns) (hb : RSl eNode G x bs) (hu : RSl eClaim G u ps) (hk : 0 ≤ kz ∧ kz < ps.length) (hga : GoodP ns) (hgb : GoodP bs) (hra : 0 ≤ (ps.getD kz.toNat default).a ∧ (ps.getD kz.toNat default).a < ns.length) (hrb : 0 ≤ (ps.getD kz.toNat default).b ∧ (ps.getD kz.toNat default).b < bs.length) :
    Calls Try.prog 32 [(.agg [v].toArray), (.agg [x].toArray), (.agg [u].toArray), (.int .i64 kz)].toArray w fun e w' => ∃ G', e = .returned (.bool (decP (RightP ns bs ps kz.toNat))) ∧ Ext noS G w G' w' := by
  refine s_enter (n := 119) Try.func32 Try.ntmps32 rfl rfl ?_
  have hX0 : Ext noS G w G w := Ext.refl hP
  have hmu := hu.max
  refine s_seq ?_
  refine c_reg ?_
  refine q1 rfl rfl rfl (o_box [v] (v := (.agg [v].toArray)) rfl rfl hX0.pins (fun b1 w2 hk3 hb4 hp5 hl6 => ?_))
  have hX7 := hX0.step hp5 hl6
  have hlo8 : w.heap.size ≤ b1 := by have := hX0.size; omega
  obtain ⟨G9, hle10, hX11, hbp12, hf13⟩ := hb4.shut hX7 hlo8
  refine q1 rfl rfl rfl (o_box [x] (v := (.agg [x].toArray)) rfl rfl hX11.pins (fun b14 w15 hk16 hb17 hp18 hl19 => ?_))
  have hX20 := hX11.step hp18 hl19
  have hlo21 : w.heap.size ≤ b14 := by have := hX11.size; omega
  obtain ⟨G22, hle23, hX24, hbp25, hf26⟩ := hb17.shut hX20 hlo21
  refine q1 rfl rfl rfl (o_box [u] (v := (.agg [u].toArray)) rfl rfl hX24.pins (fun b27 w28 hk29 hb30 hp31 hl32 => ?_))
  have hX33 := hX24.step hp31 hl32
  have hlo34 : w.heap.size ≤ b27 := by have := hX24.size; omega
  obtain ⟨G35, hle36, hX37, hbp38, hf39⟩ := hb30.shut hX33 hlo34
  refine qd rfl rfl rfl (r_assign (v := (.bool false)) rfl) ?_
  refine qe ?_
  refine s_then ?_
  refine s_seq ?_
  refine c_reg ?_
  refine qd rfl rfl rfl (r_fldp (k := 0) rfl Try.underlying38 rfl nz36 rfl) ?_
  refine qd rfl rfl rfl (r_ldp1 (u := u) ag36 rfl (hX37.pins _ _ _ (hbp38 0 _ rfl))) ?_
  refine qd rfl rfl rfl (r_move (v := (.int .i64 kz)) rfl) ?_
  refine qd rfl rfl rfl (run_idx Try.underlying36 sz71 (v := u) rfl rfl hu (by omega) (by omega)) ?_
  obtain ⟨cs40, hrep41, hagg42, hcell43⟩ := nm_el (j := (kz).toNat) default (hu.at (z := kz) (by omega) (by omega)) rfl
  obtain ⟨u44, u46, rfl, hr45, hr47⟩ := hrep41
  have hm48 := hr45.max
  have hm49 := hr47.max
  refine qd rfl rfl rfl (hagg42 ag71 sz71 rfl (Pins.of_le hX37.pins (Pin.le_trans (Pin.le_trans hle10 hle23) hle36))) ?_
  refine q1 rfl rfl rfl (o_alloc [(.int .i64 0), (.int .i64 0), (.slice none 0 0), (.slice none 0 0)] zr71 rfl hX37.pins (fun b50 w51 hk52 hb53 hp54 hl55 => ?_))
  have hX56 := hX37.step hp54 hl55
  have hlo57 : w.heap.size ≤ b50 := by have := hX37.size; omega
  refine q0 rfl rfl rfl (o_stp (cs' := [(.int .i64 ((ps.getD (kz).toNat default).a)), (.int .i64 ((ps.getD (kz).toNat default).b)), u44, u46]) (us := [(.int .i64 ((ps.getD (kz).toNat default).a)), (.int .i64 ((ps.getD (kz).toNat default).b)), u44, u46]) (v := (.agg [(.int .i64 ((ps.getD (kz).toNat default).a)), (.int .i64 ((ps.getD (kz).toNat default).b)), u44, u46].toArray)) sz71 rfl rfl rfl (ones4 (by rfl) (by rfl) hr45.one hr47.one) hX56.pins hb53 (Nat.le_of_ble_eq_true rfl) rfl (fun w58 hb59 hp60 hg61 hz62 => ?_))
  have hX63 := hX56.write hp60 hg61 ((lo_box hlo57))
  obtain ⟨G64, hle65, hX66, hbp67, hf68⟩ := hb59.shut hX63 hlo57
  refine qe ?_
  refine s_then ?_
  refine s_seq ?_
  refine c_draw (S := fun w => Pins G64 w) (last := 16) (by kernel_rfl) rfl ?_
  have hl69 : Below w58.heap.size w58 w58.drew := (Below.refl _ _).drew
  have hp70 := hX66.pins.below hl69
  have hX71 := hX66.step hp70 hl69
  refine dr_take (i := 0) rfl rfl rfl (want_none rfl _) (by kernel_rfl) (fun _ _ => r_fldp (k := 0) rfl Try.underlying34 rfl nz32 rfl) hX71.pins ?_
  refine dr_take (i := 1) rfl rfl rfl (want_none rfl _) (by kernel_rfl) (fun _ hS => r_ldp1 (u := v) ag32 rfl ((Pins.of_le hS (Pin.le_trans (Pin.le_trans hle23 hle36) hle65)) _ _ _ (hbp12 0 _ rfl))) hX71.pins ?_
  refine dr_take (i := 2) rfl rfl rfl (want_none rfl _) (by kernel_rfl) (fun _ _ => r_fldp (k := 0) rfl Try.underlying71 rfl nz3 rfl) hX71.pins ?_
  refine dr_take (i := 3) rfl rfl rfl (want_none rfl _) (by kernel_rfl) (fun _ hS => r_ldp1 (u := (.int .i64 ((ps.getD (kz).toNat default).a))) ag3 rfl (hS _ _ _ (hbp67 0 _ rfl))) hX71.pins ?_
  refine dr_take (i := 4) rfl rfl rfl (want_none rfl _) (by kernel_rfl) (fun _ _ => run_idx Try.underlying32 sz104 (v := v) rfl rfl ha (by omega) (by omega)) hX71.pins ?_
  refine dr_take (i := 5) rfl rfl rfl (want_none rfl _) (by kernel_rfl) (fun _ _ => run_fld (off := 1) Try.underlying104 rfl rfl nz69 (z := ((ps.getD (kz).toNat default).a)) (k := 0) rfl ha (by omega) (by omega)) hX71.pins ?_
  obtain ⟨u72, hr73, hl74⟩ := nm_nr (ha.at (z := ((ps.getD (kz).toNat default).a)) (by omega) (by omega)) (j := ((ps.getD (kz).toNat default).a).toNat) rfl
  have hm75 := hr73.max
  refine dr_take (i := 6) rfl rfl rfl (want_none rfl _) (by kernel_rfl) (fun _ hS => hl74 ag69 rfl (Pins.of_le hS (Pin.le_trans (Pin.le_trans (Pin.le_trans hle10 hle23) hle36) hle65))) hX71.pins ?_
  refine dr_take (i := 7) rfl rfl rfl (want_none rfl _) (by kernel_rfl) (fun _ _ => r_fldp (k := 0) rfl Try.underlying34 rfl nz32 rfl) hX71.pins ?_
  refine dr_take (i := 8) rfl rfl rfl (want_none rfl _) (by kernel_rfl) (fun _ hS => r_ldp1 (u := x) ag32 rfl ((Pins.of_le hS (Pin.le_trans hle36 hle65)) _ _ _ (hbp25 0 _ rfl))) hX71.pins ?_
  refine dr_take (i := 9) rfl rfl rfl (want_none rfl _) (by kernel_rfl) (fun _ _ => r_fldp (k := 1) rfl Try.underlying71 rfl nz3 rfl) hX71.pins ?_
  refine dr_take (i := 10) rfl rfl rfl (want_none rfl _) (by kernel_rfl) (fun _ hS => r_ldp1 (u := (.int .i64 ((ps.getD (kz).toNat default).b))) ag3 rfl (hS _ _ _ (hbp67 1 _ rfl))) hX71.pins ?_
  refine dr_take (i := 11) rfl rfl rfl (want_none rfl _) (by kernel_rfl) (fun _ _ => run_idx Try.underlying32 sz104 (v := x) rfl rfl hb (by omega) (by omega)) hX71.pins ?_
  refine dr_take (i := 12) rfl rfl rfl (want_none rfl _) (by kernel_rfl) (fun _ _ => run_fld (off := 0) Try.underlying104 rfl rfl nz69 (z := ((ps.getD (kz).toNat default).b)) (k := 0) rfl hb (by omega) (by omega)) hX71.pins ?_
  obtain ⟨u76, hr77, hl78⟩ := nm_nl (hb.at (z := ((ps.getD (kz).toNat default).b)) (by omega) (by omega)) (j := ((ps.getD (kz).toNat default).b).toNat) rfl
  have hm79 := hr77.max
  refine dr_take (i := 13) rfl rfl rfl (want_none rfl _) (by kernel_rfl) (fun _ hS => hl78 ag69 rfl (Pins.of_le hS (Pin.le_trans (Pin.le_trans (Pin.le_trans hle10 hle23) hle36) hle65))) hX71.pins ?_
  refine dr_take (i := 14) rfl rfl rfl (want_none rfl _) (by kernel_rfl) (fun _ _ => r_assign (v := u72) rfl) hX71.pins ?_
  refine dr_take (i := 15) rfl rfl rfl (want_none rfl _) (by kernel_rfl) (fun _ _ => r_assign (v := u76) rfl) hX71.pins ?_
  refine dr_end (by kernel_rfl) ?_
  refine s_then ?_
  refine s_seq ?_
  refine s_seq ?_
  refine c_reg ?_
  refine qd rfl rfl rfl (r_fldp (k := 2) rfl Try.underlying71 rfl nz69 rfl) ?_
  refine qd rfl rfl rfl (r_ldp1 (u := u44) ag69 rfl (hX71.pins _ _ _ (hbp67 2 _ rfl))) ?_
  refine qd rfl rfl rfl (run_len Try.underlying69 (v := u44) rfl hr45) ?_
  refine qd rfl rfl rfl (r_move (v := u72) rfl) ?_
  refine qd rfl rfl rfl (run_len Try.underlying69 (v := u72) rfl hr73) ?_
  refine qd rfl rfl rfl (r_neq rfl rfl) ?_
  refine qd rfl rfl rfl (r_move (v := (.bool (decide (((((ps.getD (kz).toNat default).r).length : Int) : Int) ≠ (((ns.getD ((ps.getD (kz).toNat default).a).toNat default).r).length : Int))))) rfl) ?_
  refine qbd (p := ((((ps.getD (kz).toNat default).r).length : Int) : Int) ≠ (((ns.getD ((ps.getD (kz).toNat default).a).toNat default).r).length : Int)) (t := 39) rfl (fun h80 => ?_) (fun h80 => ?_)
  · skip
    refine qs rfl rfl rfl rfl rfl rfl ?_
    refine qs rfl rfl rfl rfl rfl rfl ?_
    refine qs rfl rfl rfl rfl rfl rfl ?_
    refine qs rfl rfl rfl rfl rfl rfl ?_
    refine qs rfl rfl rfl rfl rfl rfl ?_
    refine qs rfl rfl rfl rfl rfl rfl ?_
    refine qd rfl rfl rfl (r_pickT (v := (.bool true)) rfl rfl) ?_
    refine qe ?_
    refine s_then ?_
    refine c_ifT rfl rfl ?_
    refine s_seq ?_
    refine c_reg ?_
    refine qd rfl rfl rfl (r_assign (v := (.bool false)) rfl) ?_
    refine qe ?_
    refine s_then ?_
    refine wp_ret ?_
    refine s_ret ?_
    refine c_ret1 (v := (.bool false)) rfl rfl rfl ?_
    exact ⟨_, congrArg (fun z => Ending.returned (Value.bool z)) (decP_false.2 (fun g => by have h3 := g.hr; have h4 := g.hl; omega)).symm, hX71⟩
  · skip
    refine qdg rfl rfl rfl rfl rfl rfl (r_fldp (k := 3) rfl Try.underlying71 rfl nz69 rfl) ?_
    refine qdg rfl rfl rfl rfl rfl rfl (r_ldp1 (u := u46) ag69 rfl (hX71.pins _ _ _ (hbp67 3 _ rfl))) ?_
    refine qdg rfl rfl rfl rfl rfl rfl (run_len Try.underlying69 (v := u46) rfl hr47) ?_
    refine qdg rfl rfl rfl rfl rfl rfl (r_move (v := u76) rfl) ?_
    refine qdg rfl rfl rfl rfl rfl rfl (run_len Try.underlying69 (v := u76) rfl hr77) ?_
    refine qdg rfl rfl rfl rfl rfl rfl (r_neq rfl rfl) ?_
    refine qd rfl rfl rfl (r_pickF (v := (.bool (decide (((((ps.getD (kz).toNat default).l).length : Int) : Int) ≠ (((bs.getD ((ps.getD (kz).toNat default).b).toNat default).l).length : Int))))) rfl rfl) ?_
    refine qe ?_
    refine s_then ?_
    refine c_ifd (p := ((((ps.getD (kz).toNat default).l).length : Int) : Int) ≠ (((bs.getD ((ps.getD (kz).toNat default).b).toNat default).l).length : Int)) rfl rfl (fun h81 => ?_) (fun h81 => ?_)
    · skip
      refine s_seq ?_
      refine c_reg ?_
      refine qd rfl rfl rfl (r_assign (v := (.bool false)) rfl) ?_
      refine qe ?_
      refine s_then ?_
      refine wp_ret ?_
      refine s_ret ?_
      refine c_ret1 (v := (.bool false)) rfl rfl rfl ?_
      exact ⟨_, congrArg (fun z => Ending.returned (Value.bool z)) (decP_false.2 (fun g => by have h3 := g.hr; have h4 := g.hl; omega)).symm, hX71⟩
    · skip
      refine wp_skip ?_
      refine s_then ?_
      refine s_seq ?_
      refine s_seq ?_
      refine c_reg ?_
      refine qd rfl rfl rfl (r_assign (v := (.int .i64 0)) rfl) ?_
      refine qe ?_
      refine s_then ?_
      refine s_blk ?_
      refine s_loop (fun (k : Nat) (en : Nat → Value) (W : World) => ∃ (env1 : Nat → Value) (i : Nat) (GLi : Pin), en = (upd (upd (upd (upd (upd (upd (upd (upd env1 3 (.int .i64 kz)) 4 (.pointer (some ⟨b1, 0, none⟩))) 5 (.pointer (some ⟨b14, 0, none⟩))) 6 (.pointer (some ⟨b27, 0, none⟩))) 9 (.pointer (some ⟨b50, 0, none⟩))) 10 u72) 11 u76) 12 (.int .i64 (i : Int))) ∧ k = (ns.getD (ps.getD kz.toNat default).a.toNat default).r.length - i ∧ Ext noS G w GLi W ∧ Pin.le G64 GLi ∧ (i ≤ (ns.getD (ps.getD kz.toNat default).a.toNat default).r.length) ∧ (∀ q, q < i → (0 ≤ (ps.getD kz.toNat default).r.getD q 0 ∧ (ps.getD kz.toNat default).r.getD q 0 ≤ kz - 1) ∧ prC (ps.getD ((ps.getD kz.toNat default).r.getD q 0).toNat default) ∈ rightsP ns bs ((ns.getD (ps.getD kz.toNat default).a.toNat default).r.getD q 0) (ps.getD kz.toNat default).b)) _ ⟨_, 0, G64, (packS (x := 12) (packS (x := 11) (packS (x := 10) (packS (x := 9) (packS (x := 6) (packS (x := 5) (packS (x := 4) (pack1 (x := 3) rfl) rfl) rfl) rfl) rfl) rfl) rfl) rfl), rfl, hX71, Pin.le_refl _, Nat.zero_le _, (fun i hi => absurd hi (Nat.not_lt_zero i))⟩ ?_
      rintro k82 _ w83 ⟨env1, i, GLi, rfl, hk84, hX85, hlek82, hji, hpi⟩
      refine s_seq ?_
      refine s_seq ?_
      refine c_reg ?_
      refine qd rfl rfl rfl (r_move (v := (.int .i64 (i : Int))) rfl) ?_
      refine qd rfl rfl rfl (r_move (v := u72) rfl) ?_
      refine qd rfl rfl rfl (run_len Try.underlying69 (v := u72) rfl hr73) ?_
      refine qd rfl rfl rfl (r_lss rfl rfl) ?_
      refine qe ?_
      refine s_then ?_
      refine c_ifd (p := ((i : Int) : Int) < (((ns.getD ((ps.getD (kz).toNat default).a).toNat default).r).length : Int)) rfl rfl (fun h86 => ?_) (fun h86 => ?_)
      · skip
        have hki := hga.optsOk.right (j := (ps.getD kz.toNat default).a.toNat) (i := i) (by omega) (by omega)
        refine wp_skip ?_
        refine s_then ?_
        refine s_seq ?_
        refine s_blk ?_
        refine s_seq ?_
        refine c_draw (S := fun w => Pins GLi w) (last := 30) (by kernel_rfl) rfl ?_
        have hl87 : Below w83.heap.size w83 w83.drew := (Below.refl _ _).drew
        have hp88 := hX85.pins.below hl87
        have hX89 := hX85.step hp88 hl87
        refine dr_take (i := 0) rfl rfl rfl (want_none rfl _) (by kernel_rfl) (fun _ _ => r_fldp (k := 2) rfl Try.underlying71 rfl nz69 rfl) hX89.pins ?_
        refine dr_take (i := 1) rfl rfl rfl (want_none rfl _) (by kernel_rfl) (fun _ hS => r_ldp1 (u := u44) ag69 rfl ((Pins.of_le hS hlek82) _ _ _ (hbp67 2 _ rfl))) hX89.pins ?_
        refine dr_take (i := 2) rfl rfl rfl (want_none rfl _) (by kernel_rfl) (fun _ _ => r_move (v := (.int .i64 (i : Int))) rfl) hX89.pins ?_
        refine dr_take (i := 3) rfl rfl rfl (want_none rfl _) (by kernel_rfl) (fun _ _ => run_idx Try.underlying69 sz3 (v := u44) rfl rfl hr45 (by omega) (by omega)) hX89.pins ?_
        refine dr_take (i := 4) rfl rfl rfl (want_none rfl _) (by kernel_rfl) (fun _ hS => run_load_int (r := ((ps.getD (kz).toNat default).r).getD i 0) rfl ag3 (z := (i : Int)) rfl hr45 (Pins.of_le hS (Pin.le_trans (Pin.le_trans (Pin.le_trans (Pin.le_trans hle10 hle23) hle36) hle65) hlek82)) (by omega) (by omega)) hX89.pins ?_
        refine dr_take (i := 5) rfl rfl rfl (want_none rfl _) (by kernel_rfl) (fun _ _ => r_move (v := (.int .i64 kz)) rfl) hX89.pins ?_
        refine dr_take (i := 6) rfl rfl rfl (want_none rfl _) (by kernel_rfl) (fun _ _ => r_sub rfl rfl (by omega)) hX89.pins ?_
        refine dr_one (i := 7) (by kernel_rfl) (drOp1 (i := 7) rfl rfl rfl (want_none rfl _) (o_call (vs := [(.int .i64 (((ps.getD (kz).toNat default).r).getD i 0)), (.int .i64 0), (.int .i64 (kz - 1))]) Try.func30 nm30 rfl rfl rfl ?_))
        refine Calls.mono (l1In_spec hX89.pins) ?_
        rintro _ _ ⟨rfl, rfl⟩
        refine ⟨_, rfl, ?_⟩
        refine ⟨fun _ => hX89.pins, ?_⟩
        refine dr_take (i := 8) rfl rfl rfl (want_none rfl _) (by kernel_rfl) (fun _ _ => r_not rfl) hX89.pins ?_
        refine dr_take (i := 9) rfl rfl rfl (want_none rfl _) (by kernel_rfl) (fun _ _ => r_move (v := (.bool (!(decide ((0 : Int) ≤ (((ps.getD (kz).toNat default).r).getD i 0) ∧ (((ps.getD (kz).toNat default).r).getD i 0 : Int) ≤ (kz - 1)))))) rfl) hX89.pins ?_
        refine drbn (t := 62) rfl (fun h90 => ?_) (fun h90 => ?_)
        · skip
          replace h90 := of_decide_eq_true h90
          refine dr_take (i := 10) rfl rfl rfl (want_yes rfl rfl rfl rfl) (by kernel_rfl) (fun _ hS => r_ldpA (cs := [v]) ag34 sz34 rfl (fun j u hj => (Pins.of_le hS (Pin.le_trans (Pin.le_trans (Pin.le_trans hle23 hle36) hle65) hlek82)) _ _ _ (hbp12 _ _ (by simpa using hj)))) hX89.pins ?_
          refine dr_take (i := 11) rfl rfl rfl (want_yes rfl rfl rfl rfl) (by kernel_rfl) (fun _ hS => r_ldpA (cs := [x]) ag34 sz34 rfl (fun j u hj => (Pins.of_le hS (Pin.le_trans (Pin.le_trans hle36 hle65) hlek82)) _ _ _ (hbp25 _ _ (by simpa using hj)))) hX89.pins ?_
          refine dr_take (i := 12) rfl rfl rfl (want_yes rfl rfl rfl rfl) (by kernel_rfl) (fun _ _ => r_move (v := u72) rfl) hX89.pins ?_
          refine dr_take (i := 13) rfl rfl rfl (want_yes rfl rfl rfl rfl) (by kernel_rfl) (fun _ _ => r_move (v := (.int .i64 (i : Int))) rfl) hX89.pins ?_
          refine dr_take (i := 14) rfl rfl rfl (want_yes rfl rfl rfl rfl) (by kernel_rfl) (fun _ _ => run_idx Try.underlying69 sz3 (v := u72) rfl rfl hr73 (by omega) (by omega)) hX89.pins ?_
          refine dr_take (i := 15) rfl rfl rfl (want_yes rfl rfl rfl rfl) (by kernel_rfl) (fun _ hS => run_load_int (r := ((ns.getD ((ps.getD (kz).toNat default).a).toNat default).r).getD i 0) rfl ag3 (z := (i : Int)) rfl hr73 (Pins.of_le hS (Pin.le_trans (Pin.le_trans (Pin.le_trans (Pin.le_trans hle10 hle23) hle36) hle65) hlek82)) (by omega) (by omega)) hX89.pins ?_
          refine dr_take (i := 16) rfl rfl rfl (want_yes rfl rfl rfl rfl) (by kernel_rfl) (fun _ _ => r_fldp (k := 0) rfl Try.underlying38 rfl nz36 rfl) hX89.pins ?_
          refine dr_take (i := 17) rfl rfl rfl (want_yes rfl rfl rfl rfl) (by kernel_rfl) (fun _ hS => r_ldp1 (u := u) ag36 rfl ((Pins.of_le hS (Pin.le_trans hle65 hlek82)) _ _ _ (hbp38 0 _ rfl))) hX89.pins ?_
          refine dr_take (i := 18) rfl rfl rfl (want_yes rfl rfl rfl rfl) (by kernel_rfl) (fun _ _ => r_fldp (k := 2) rfl Try.underlying71 rfl nz69 rfl) hX89.pins ?_
          refine dr_take (i := 19) rfl rfl rfl (want_yes rfl rfl rfl rfl) (by kernel_rfl) (fun _ hS => r_ldp1 (u := u44) ag69 rfl ((Pins.of_le hS hlek82) _ _ _ (hbp67 2 _ rfl))) hX89.pins ?_
          refine dr_take (i := 20) rfl rfl rfl (want_yes rfl rfl rfl rfl) (by kernel_rfl) (fun _ _ => r_move (v := (.int .i64 (i : Int))) rfl) hX89.pins ?_
          refine dr_take (i := 21) rfl rfl rfl (want_yes rfl rfl rfl rfl) (by kernel_rfl) (fun _ _ => run_idx Try.underlying69 sz3 (v := u44) rfl rfl hr45 (by omega) (by omega)) hX89.pins ?_
          refine dr_take (i := 22) rfl rfl rfl (want_yes rfl rfl rfl rfl) (by kernel_rfl) (fun _ hS => run_load_int (r := ((ps.getD (kz).toNat default).r).getD i 0) rfl ag3 (z := (i : Int)) rfl hr45 (Pins.of_le hS (Pin.le_trans (Pin.le_trans (Pin.le_trans (Pin.le_trans hle10 hle23) hle36) hle65) hlek82)) (by omega) (by omega)) hX89.pins ?_
          refine dr_take (i := 23) rfl rfl rfl (want_yes rfl rfl rfl rfl) (by kernel_rfl) (fun _ _ => run_idx Try.underlying36 sz71 (v := u) rfl rfl hu (by omega) (by omega)) hX89.pins ?_
          obtain ⟨cs91, hrep92, hagg93, hcell94⟩ := nm_el (j := (((ps.getD (kz).toNat default).r).getD i 0).toNat) default (hu.at (z := (((ps.getD (kz).toNat default).r).getD i 0)) (by omega) (by omega)) rfl
          obtain ⟨u95, u97, rfl, hr96, hr98⟩ := hrep92
          have hm99 := hr96.max
          have hm100 := hr98.max
          refine dr_take (i := 24) rfl rfl rfl (want_yes rfl rfl rfl rfl) (by kernel_rfl) (fun _ hS => hagg93 ag71 sz71 rfl (Pins.of_le hS (Pin.le_trans (Pin.le_trans (Pin.le_trans (Pin.le_trans hle10 hle23) hle36) hle65) hlek82))) hX89.pins ?_
          refine dr_take (i := 25) rfl rfl rfl (want_yes rfl rfl rfl rfl) (by kernel_rfl) (fun _ _ => r_fldp (k := 1) rfl Try.underlying71 rfl nz3 rfl) hX89.pins ?_
          refine dr_take (i := 26) rfl rfl rfl (want_yes rfl rfl rfl rfl) (by kernel_rfl) (fun _ hS => r_ldp1 (u := (.int .i64 ((ps.getD (kz).toNat default).b))) ag3 rfl ((Pins.of_le hS hlek82) _ _ _ (hbp67 1 _ rfl))) hX89.pins ?_
          refine dr_one (i := 27) (by kernel_rfl) (drOp1 (i := 27) rfl rfl rfl (want_yes rfl rfl rfl rfl) (o_call (vs := [(.agg [v].toArray), (.agg [x].toArray), (.int .i64 (((ns.getD ((ps.getD (kz).toNat default).a).toNat default).r).getD i 0)), (.agg [(.int .i64 ((ps.getD (((ps.getD (kz).toNat default).r).getD i 0).toNat default).a)), (.int .i64 ((ps.getD (((ps.getD (kz).toNat default).r).getD i 0).toNat default).b)), u95, u97].toArray), (.int .i64 ((ps.getD (kz).toNat default).b))]) Try.func65 nm65 rfl rfl rfl ?_))
          refine Calls.mono (l15Right_spec (c := (ps.getD (((ps.getD (kz).toNat default).r).getD i 0).toNat default)) hX89.pins (ha.mono (Pin.le_trans (Pin.le_trans (Pin.le_trans (Pin.le_trans hle10 hle23) hle36) hle65) hlek82)) (hb.mono (Pin.le_trans (Pin.le_trans (Pin.le_trans (Pin.le_trans hle10 hle23) hle36) hle65) hlek82)) (by omega) (by omega)) ?_
          rintro _ w102 ⟨G101, rfl, hx103⟩
          refine ⟨_, rfl, ?_⟩
          have hX104 := hX89.tr hx103
          refine ⟨fun _ => (Pins.of_le hX104.pins hx103.le), ?_⟩
          refine dr_take (i := 28) rfl rfl rfl (want_yes rfl rfl rfl rfl) (by kernel_rfl) (fun _ _ => r_not rfl) (Pins.of_le hX104.pins hx103.le) ?_
          refine dr_take (i := 29) rfl rfl rfl (want_none rfl _) (by kernel_rfl) (fun _ _ => r_pickF (v := (.bool (!(decide (((ps.getD (((ps.getD (kz).toNat default).r).getD i 0).toNat default).a, (ps.getD (((ps.getD (kz).toNat default).r).getD i 0).toNat default).b) ∈ rightsP ns bs (((ns.getD ((ps.getD (kz).toNat default).a).toNat default).r).getD i 0) ((ps.getD (kz).toNat default).b)))))) rfl rfl) (Pins.of_le hX104.pins hx103.le) ?_
          refine dr_end (by kernel_rfl) ?_
          refine s_then ?_
          refine c_ifn rfl rfl (fun h105 => ?_) (fun h105 => ?_)
          · skip
            replace h105 := of_decide_eq_true h105
            refine wp_skip ?_
            refine s_blkN ?_
            refine s_then ?_
            refine c_reg ?_
            refine qd rfl rfl rfl (r_move (v := (.int .i64 (i : Int))) rfl) ?_
            refine qd rfl rfl rfl (r_add rfl rfl (by omega)) ?_
            refine qd rfl rfl rfl (r_assign (v := (.int .i64 ((i : Int) + 1))) rfl) ?_
            refine qe ?_
            refine s_lopN ?_
            refine ⟨_, ?_, _, rfl, _, i + 1, G101, (packS (x := 12) (packS (x := 11) (packS (x := 10) (packS (x := 9) (packS (x := 6) (packS (x := 5) (packS (x := 4) (pack1 (x := 3) rfl) rfl) rfl) rfl) rfl) rfl) rfl) rfl), rfl, hX104, (Pin.le_trans hlek82 hx103.le), (by omega), (fun q hq => if h3 : q = i then h3 ▸ ⟨h90, h105⟩ else hpi q (by omega))⟩
            omega
          · skip
            replace h105 := of_decide_eq_false h105
            refine s_seq ?_
            refine c_reg ?_
            refine qd rfl rfl rfl (r_assign (v := (.bool false)) rfl) ?_
            refine qe ?_
            refine s_then ?_
            refine wp_ret ?_
            refine s_ret ?_
            refine c_ret1 (v := (.bool false)) rfl rfl rfl ?_
            exact ⟨_, congrArg (fun z => Ending.returned (Value.bool z)) (decP_false.2 (fun g => h105 (by have a := g.rr i (by omega); first | exact a.2 | (have b := a.1; omega)))).symm, hX104⟩
        · skip
          replace h90 := of_decide_eq_false h90
          refine dr_skip (i := 10) rfl rfl (want_no rfl rfl rfl rfl rfl) (by kernel_rfl) hX89.pins ?_
          refine dr_skip (i := 11) rfl rfl (want_no rfl rfl rfl rfl rfl) (by kernel_rfl) hX89.pins ?_
          refine dr_skip (i := 12) rfl rfl (want_no rfl rfl rfl rfl rfl) (by kernel_rfl) hX89.pins ?_
          refine dr_skip (i := 13) rfl rfl (want_no rfl rfl rfl rfl rfl) (by kernel_rfl) hX89.pins ?_
          refine dr_skip (i := 14) rfl rfl (want_no rfl rfl rfl rfl rfl) (by kernel_rfl) hX89.pins ?_
          refine dr_skip (i := 15) rfl rfl (want_no rfl rfl rfl rfl rfl) (by kernel_rfl) hX89.pins ?_
          refine dr_skip (i := 16) rfl rfl (want_no rfl rfl rfl rfl rfl) (by kernel_rfl) hX89.pins ?_
          refine dr_skip (i := 17) rfl rfl (want_no rfl rfl rfl rfl rfl) (by kernel_rfl) hX89.pins ?_
          refine dr_skip (i := 18) rfl rfl (want_no rfl rfl rfl rfl rfl) (by kernel_rfl) hX89.pins ?_
          refine dr_skip (i := 19) rfl rfl (want_no rfl rfl rfl rfl rfl) (by kernel_rfl) hX89.pins ?_
          refine dr_skip (i := 20) rfl rfl (want_no rfl rfl rfl rfl rfl) (by kernel_rfl) hX89.pins ?_
          refine dr_skip (i := 21) rfl rfl (want_no rfl rfl rfl rfl rfl) (by kernel_rfl) hX89.pins ?_
          refine dr_skip (i := 22) rfl rfl (want_no rfl rfl rfl rfl rfl) (by kernel_rfl) hX89.pins ?_
          refine dr_skip (i := 23) rfl rfl (want_no rfl rfl rfl rfl rfl) (by kernel_rfl) hX89.pins ?_
          refine dr_skip (i := 24) rfl rfl (want_no rfl rfl rfl rfl rfl) (by kernel_rfl) hX89.pins ?_
          refine dr_skip (i := 25) rfl rfl (want_no rfl rfl rfl rfl rfl) (by kernel_rfl) hX89.pins ?_
          refine dr_skip (i := 26) rfl rfl (want_no rfl rfl rfl rfl rfl) (by kernel_rfl) hX89.pins ?_
          refine dr_skip (i := 27) rfl rfl (want_no rfl rfl rfl rfl rfl) (by kernel_rfl) hX89.pins ?_
          refine dr_skip (i := 28) rfl rfl (want_no rfl rfl rfl rfl rfl) (by kernel_rfl) hX89.pins ?_
          refine dr_take (i := 29) rfl rfl rfl (want_none rfl _) (by kernel_rfl) (fun _ _ => r_pickT (v := (.bool true)) rfl rfl) hX89.pins ?_
          refine dr_end (by kernel_rfl) ?_
          refine s_then ?_
          refine c_ifT rfl rfl ?_
          refine s_seq ?_
          refine c_reg ?_
          refine qd rfl rfl rfl (r_assign (v := (.bool false)) rfl) ?_
          refine qe ?_
          refine s_then ?_
          refine wp_ret ?_
          refine s_ret ?_
          refine c_ret1 (v := (.bool false)) rfl rfl rfl ?_
          exact ⟨_, congrArg (fun z => Ending.returned (Value.bool z)) (decP_false.2 (fun g => h90 (by have a := g.rr i (by omega); first | exact a.2 | (have b := a.1; omega)))).symm, hX89⟩
      · skip
        refine wp_exit ?_
        refine s_thenE ?_
        refine s_lopE ?_
        refine s_blkE ?_
        refine s_then ?_
        refine s_seq ?_
        refine s_seq ?_
        refine c_reg ?_
        refine qd rfl rfl rfl (r_assign (v := (.int .i64 0)) rfl) ?_
        refine qe ?_
        refine s_then ?_
        refine s_blk ?_
        refine s_loop (fun (k : Nat) (en : Nat → Value) (W : World) => ∃ (env1 : Nat → Value) (j : Nat) (GLj : Pin), en = (upd (upd (upd (upd (upd (upd (upd env1 3 (.int .i64 kz)) 4 (.pointer (some ⟨b1, 0, none⟩))) 5 (.pointer (some ⟨b14, 0, none⟩))) 6 (.pointer (some ⟨b27, 0, none⟩))) 9 (.pointer (some ⟨b50, 0, none⟩))) 11 u76) 13 (.int .i64 (j : Int))) ∧ k = (bs.getD (ps.getD kz.toNat default).b.toNat default).l.length - j ∧ Ext noS G w GLj W ∧ Pin.le GLi GLj ∧ (j ≤ (bs.getD (ps.getD kz.toNat default).b.toNat default).l.length) ∧ (∀ q, q < j → (0 ≤ (ps.getD kz.toNat default).l.getD q 0 ∧ (ps.getD kz.toNat default).l.getD q 0 ≤ kz - 1) ∧ prC (ps.getD ((ps.getD kz.toNat default).l.getD q 0).toNat default) ∈ leftsP ns bs (ps.getD kz.toNat default).a ((bs.getD (ps.getD kz.toNat default).b.toNat default).l.getD q 0))) _ ⟨_, 0, GLi, (packS (x := 13) (packS (x := 11) (packS (x := 9) (packS (x := 6) (packS (x := 5) (packS (x := 4) (pack1 (x := 3) rfl) rfl) rfl) rfl) rfl) rfl) rfl), rfl, hX85, Pin.le_refl _, Nat.zero_le _, (fun i hi => absurd hi (Nat.not_lt_zero i))⟩ ?_
        rintro k106 _ w107 ⟨env1, j, GLj, rfl, hk108, hX109, hlek106, hjj, hpj⟩
        refine s_seq ?_
        refine s_seq ?_
        refine c_reg ?_
        refine qd rfl rfl rfl (r_move (v := (.int .i64 (j : Int))) rfl) ?_
        refine qd rfl rfl rfl (r_move (v := u76) rfl) ?_
        refine qd rfl rfl rfl (run_len Try.underlying69 (v := u76) rfl hr77) ?_
        refine qd rfl rfl rfl (r_lss rfl rfl) ?_
        refine qe ?_
        refine s_then ?_
        refine c_ifd (p := ((j : Int) : Int) < (((bs.getD ((ps.getD (kz).toNat default).b).toNat default).l).length : Int)) rfl rfl (fun h110 => ?_) (fun h110 => ?_)
        · skip
          have hki := hgb.optsOk.left (j := (ps.getD kz.toNat default).b.toNat) (i := j) (by omega) (by omega)
          refine wp_skip ?_
          refine s_then ?_
          refine s_seq ?_
          refine s_blk ?_
          refine s_seq ?_
          refine c_draw (S := fun w => Pins GLj w) (last := 30) (by kernel_rfl) rfl ?_
          have hl111 : Below w107.heap.size w107 w107.drew := (Below.refl _ _).drew
          have hp112 := hX109.pins.below hl111
          have hX113 := hX109.step hp112 hl111
          refine dr_take (i := 0) rfl rfl rfl (want_none rfl _) (by kernel_rfl) (fun _ _ => r_fldp (k := 3) rfl Try.underlying71 rfl nz69 rfl) hX113.pins ?_
          refine dr_take (i := 1) rfl rfl rfl (want_none rfl _) (by kernel_rfl) (fun _ hS => r_ldp1 (u := u46) ag69 rfl ((Pins.of_le hS (Pin.le_trans hlek82 hlek106)) _ _ _ (hbp67 3 _ rfl))) hX113.pins ?_
          refine dr_take (i := 2) rfl rfl rfl (want_none rfl _) (by kernel_rfl) (fun _ _ => r_move (v := (.int .i64 (j : Int))) rfl) hX113.pins ?_
          refine dr_take (i := 3) rfl rfl rfl (want_none rfl _) (by kernel_rfl) (fun _ _ => run_idx Try.underlying69 sz3 (v := u46) rfl rfl hr47 (by omega) (by omega)) hX113.pins ?_
          refine dr_take (i := 4) rfl rfl rfl (want_none rfl _) (by kernel_rfl) (fun _ hS => run_load_int (r := ((ps.getD (kz).toNat default).l).getD j 0) rfl ag3 (z := (j : Int)) rfl hr47 (Pins.of_le hS (Pin.le_trans (Pin.le_trans (Pin.le_trans (Pin.le_trans (Pin.le_trans hle10 hle23) hle36) hle65) hlek82) hlek106)) (by omega) (by omega)) hX113.pins ?_
          refine dr_take (i := 5) rfl rfl rfl (want_none rfl _) (by kernel_rfl) (fun _ _ => r_move (v := (.int .i64 kz)) rfl) hX113.pins ?_
          refine dr_take (i := 6) rfl rfl rfl (want_none rfl _) (by kernel_rfl) (fun _ _ => r_sub rfl rfl (by omega)) hX113.pins ?_
          refine dr_one (i := 7) (by kernel_rfl) (drOp1 (i := 7) rfl rfl rfl (want_none rfl _) (o_call (vs := [(.int .i64 (((ps.getD (kz).toNat default).l).getD j 0)), (.int .i64 0), (.int .i64 (kz - 1))]) Try.func30 nm30 rfl rfl rfl ?_))
          refine Calls.mono (l1In_spec hX113.pins) ?_
          rintro _ _ ⟨rfl, rfl⟩
          refine ⟨_, rfl, ?_⟩
          refine ⟨fun _ => hX113.pins, ?_⟩
          refine dr_take (i := 8) rfl rfl rfl (want_none rfl _) (by kernel_rfl) (fun _ _ => r_not rfl) hX113.pins ?_
          refine dr_take (i := 9) rfl rfl rfl (want_none rfl _) (by kernel_rfl) (fun _ _ => r_move (v := (.bool (!(decide ((0 : Int) ≤ (((ps.getD (kz).toNat default).l).getD j 0) ∧ (((ps.getD (kz).toNat default).l).getD j 0 : Int) ≤ (kz - 1)))))) rfl) hX113.pins ?_
          refine drbn (t := 98) rfl (fun h114 => ?_) (fun h114 => ?_)
          · skip
            replace h114 := of_decide_eq_true h114
            refine dr_take (i := 10) rfl rfl rfl (want_yes rfl rfl rfl rfl) (by kernel_rfl) (fun _ hS => r_ldpA (cs := [v]) ag34 sz34 rfl (fun j u hj => (Pins.of_le hS (Pin.le_trans (Pin.le_trans (Pin.le_trans (Pin.le_trans hle23 hle36) hle65) hlek82) hlek106)) _ _ _ (hbp12 _ _ (by simpa using hj)))) hX113.pins ?_
            refine dr_take (i := 11) rfl rfl rfl (want_yes rfl rfl rfl rfl) (by kernel_rfl) (fun _ hS => r_ldpA (cs := [x]) ag34 sz34 rfl (fun j u hj => (Pins.of_le hS (Pin.le_trans (Pin.le_trans (Pin.le_trans hle36 hle65) hlek82) hlek106)) _ _ _ (hbp25 _ _ (by simpa using hj)))) hX113.pins ?_
            refine dr_take (i := 12) rfl rfl rfl (want_yes rfl rfl rfl rfl) (by kernel_rfl) (fun _ _ => r_move (v := u76) rfl) hX113.pins ?_
            refine dr_take (i := 13) rfl rfl rfl (want_yes rfl rfl rfl rfl) (by kernel_rfl) (fun _ _ => r_move (v := (.int .i64 (j : Int))) rfl) hX113.pins ?_
            refine dr_take (i := 14) rfl rfl rfl (want_yes rfl rfl rfl rfl) (by kernel_rfl) (fun _ _ => run_idx Try.underlying69 sz3 (v := u76) rfl rfl hr77 (by omega) (by omega)) hX113.pins ?_
            refine dr_take (i := 15) rfl rfl rfl (want_yes rfl rfl rfl rfl) (by kernel_rfl) (fun _ hS => run_load_int (r := ((bs.getD ((ps.getD (kz).toNat default).b).toNat default).l).getD j 0) rfl ag3 (z := (j : Int)) rfl hr77 (Pins.of_le hS (Pin.le_trans (Pin.le_trans (Pin.le_trans (Pin.le_trans (Pin.le_trans hle10 hle23) hle36) hle65) hlek82) hlek106)) (by omega) (by omega)) hX113.pins ?_
            refine dr_take (i := 16) rfl rfl rfl (want_yes rfl rfl rfl rfl) (by kernel_rfl) (fun _ _ => r_fldp (k := 0) rfl Try.underlying38 rfl nz36 rfl) hX113.pins ?_
            refine dr_take (i := 17) rfl rfl rfl (want_yes rfl rfl rfl rfl) (by kernel_rfl) (fun _ hS => r_ldp1 (u := u) ag36 rfl ((Pins.of_le hS (Pin.le_trans (Pin.le_trans hle65 hlek82) hlek106)) _ _ _ (hbp38 0 _ rfl))) hX113.pins ?_
            refine dr_take (i := 18) rfl rfl rfl (want_yes rfl rfl rfl rfl) (by kernel_rfl) (fun _ _ => r_fldp (k := 3) rfl Try.underlying71 rfl nz69 rfl) hX113.pins ?_
            refine dr_take (i := 19) rfl rfl rfl (want_yes rfl rfl rfl rfl) (by kernel_rfl) (fun _ hS => r_ldp1 (u := u46) ag69 rfl ((Pins.of_le hS (Pin.le_trans hlek82 hlek106)) _ _ _ (hbp67 3 _ rfl))) hX113.pins ?_
            refine dr_take (i := 20) rfl rfl rfl (want_yes rfl rfl rfl rfl) (by kernel_rfl) (fun _ _ => r_move (v := (.int .i64 (j : Int))) rfl) hX113.pins ?_
            refine dr_take (i := 21) rfl rfl rfl (want_yes rfl rfl rfl rfl) (by kernel_rfl) (fun _ _ => run_idx Try.underlying69 sz3 (v := u46) rfl rfl hr47 (by omega) (by omega)) hX113.pins ?_
            refine dr_take (i := 22) rfl rfl rfl (want_yes rfl rfl rfl rfl) (by kernel_rfl) (fun _ hS => run_load_int (r := ((ps.getD (kz).toNat default).l).getD j 0) rfl ag3 (z := (j : Int)) rfl hr47 (Pins.of_le hS (Pin.le_trans (Pin.le_trans (Pin.le_trans (Pin.le_trans (Pin.le_trans hle10 hle23) hle36) hle65) hlek82) hlek106)) (by omega) (by omega)) hX113.pins ?_
            refine dr_take (i := 23) rfl rfl rfl (want_yes rfl rfl rfl rfl) (by kernel_rfl) (fun _ _ => run_idx Try.underlying36 sz71 (v := u) rfl rfl hu (by omega) (by omega)) hX113.pins ?_
            obtain ⟨cs115, hrep116, hagg117, hcell118⟩ := nm_el (j := (((ps.getD (kz).toNat default).l).getD j 0).toNat) default (hu.at (z := (((ps.getD (kz).toNat default).l).getD j 0)) (by omega) (by omega)) rfl
            obtain ⟨u119, u121, rfl, hr120, hr122⟩ := hrep116
            have hm123 := hr120.max
            have hm124 := hr122.max
            refine dr_take (i := 24) rfl rfl rfl (want_yes rfl rfl rfl rfl) (by kernel_rfl) (fun _ hS => hagg117 ag71 sz71 rfl (Pins.of_le hS (Pin.le_trans (Pin.le_trans (Pin.le_trans (Pin.le_trans (Pin.le_trans hle10 hle23) hle36) hle65) hlek82) hlek106))) hX113.pins ?_
            refine dr_take (i := 25) rfl rfl rfl (want_yes rfl rfl rfl rfl) (by kernel_rfl) (fun _ _ => r_fldp (k := 0) rfl Try.underlying71 rfl nz3 rfl) hX113.pins ?_
            refine dr_take (i := 26) rfl rfl rfl (want_yes rfl rfl rfl rfl) (by kernel_rfl) (fun _ hS => r_ldp1 (u := (.int .i64 ((ps.getD (kz).toNat default).a))) ag3 rfl ((Pins.of_le hS (Pin.le_trans hlek82 hlek106)) _ _ _ (hbp67 0 _ rfl))) hX113.pins ?_
            refine dr_one (i := 27) (by kernel_rfl) (drOp1 (i := 27) rfl rfl rfl (want_yes rfl rfl rfl rfl) (o_call (vs := [(.agg [v].toArray), (.agg [x].toArray), (.int .i64 (((bs.getD ((ps.getD (kz).toNat default).b).toNat default).l).getD j 0)), (.agg [(.int .i64 ((ps.getD (((ps.getD (kz).toNat default).l).getD j 0).toNat default).a)), (.int .i64 ((ps.getD (((ps.getD (kz).toNat default).l).getD j 0).toNat default).b)), u119, u121].toArray), (.int .i64 ((ps.getD (kz).toNat default).a))]) Try.func66 nm66 rfl rfl rfl ?_))
            refine Calls.mono (l15Left_spec (c := (ps.getD (((ps.getD (kz).toNat default).l).getD j 0).toNat default)) hX113.pins (ha.mono (Pin.le_trans (Pin.le_trans (Pin.le_trans (Pin.le_trans (Pin.le_trans hle10 hle23) hle36) hle65) hlek82) hlek106)) (hb.mono (Pin.le_trans (Pin.le_trans (Pin.le_trans (Pin.le_trans (Pin.le_trans hle10 hle23) hle36) hle65) hlek82) hlek106)) (by omega) (by omega)) ?_
            rintro _ w126 ⟨G125, rfl, hx127⟩
            refine ⟨_, rfl, ?_⟩
            have hX128 := hX113.tr hx127
            refine ⟨fun _ => (Pins.of_le hX128.pins hx127.le), ?_⟩
            refine dr_take (i := 28) rfl rfl rfl (want_yes rfl rfl rfl rfl) (by kernel_rfl) (fun _ _ => r_not rfl) (Pins.of_le hX128.pins hx127.le) ?_
            refine dr_take (i := 29) rfl rfl rfl (want_none rfl _) (by kernel_rfl) (fun _ _ => r_pickF (v := (.bool (!(decide (((ps.getD (((ps.getD (kz).toNat default).l).getD j 0).toNat default).a, (ps.getD (((ps.getD (kz).toNat default).l).getD j 0).toNat default).b) ∈ leftsP ns bs ((ps.getD (kz).toNat default).a) (((bs.getD ((ps.getD (kz).toNat default).b).toNat default).l).getD j 0)))))) rfl rfl) (Pins.of_le hX128.pins hx127.le) ?_
            refine dr_end (by kernel_rfl) ?_
            refine s_then ?_
            refine c_ifn rfl rfl (fun h129 => ?_) (fun h129 => ?_)
            · skip
              replace h129 := of_decide_eq_true h129
              refine wp_skip ?_
              refine s_blkN ?_
              refine s_then ?_
              refine c_reg ?_
              refine qd rfl rfl rfl (r_move (v := (.int .i64 (j : Int))) rfl) ?_
              refine qd rfl rfl rfl (r_add rfl rfl (by omega)) ?_
              refine qd rfl rfl rfl (r_assign (v := (.int .i64 ((j : Int) + 1))) rfl) ?_
              refine qe ?_
              refine s_lopN ?_
              refine ⟨_, ?_, _, rfl, _, j + 1, G125, (packS (x := 13) (packS (x := 11) (packS (x := 9) (packS (x := 6) (packS (x := 5) (packS (x := 4) (pack1 (x := 3) rfl) rfl) rfl) rfl) rfl) rfl) rfl), rfl, hX128, (Pin.le_trans hlek106 hx127.le), (by omega), (fun q hq => if h3 : q = j then h3 ▸ ⟨h114, h129⟩ else hpj q (by omega))⟩
              omega
            · skip
              replace h129 := of_decide_eq_false h129
              refine s_seq ?_
              refine c_reg ?_
              refine qd rfl rfl rfl (r_assign (v := (.bool false)) rfl) ?_
              refine qe ?_
              refine s_then ?_
              refine wp_ret ?_
              refine s_ret ?_
              refine c_ret1 (v := (.bool false)) rfl rfl rfl ?_
              exact ⟨_, congrArg (fun z => Ending.returned (Value.bool z)) (decP_false.2 (fun g => h129 (by have a := g.ll j (by omega); first | exact a.2 | (have b := a.1; omega)))).symm, hX128⟩
          · skip
            replace h114 := of_decide_eq_false h114
            refine dr_skip (i := 10) rfl rfl (want_no rfl rfl rfl rfl rfl) (by kernel_rfl) hX113.pins ?_
            refine dr_skip (i := 11) rfl rfl (want_no rfl rfl rfl rfl rfl) (by kernel_rfl) hX113.pins ?_
            refine dr_skip (i := 12) rfl rfl (want_no rfl rfl rfl rfl rfl) (by kernel_rfl) hX113.pins ?_
            refine dr_skip (i := 13) rfl rfl (want_no rfl rfl rfl rfl rfl) (by kernel_rfl) hX113.pins ?_
            refine dr_skip (i := 14) rfl rfl (want_no rfl rfl rfl rfl rfl) (by kernel_rfl) hX113.pins ?_
            refine dr_skip (i := 15) rfl rfl (want_no rfl rfl rfl rfl rfl) (by kernel_rfl) hX113.pins ?_
            refine dr_skip (i := 16) rfl rfl (want_no rfl rfl rfl rfl rfl) (by kernel_rfl) hX113.pins ?_
            refine dr_skip (i := 17) rfl rfl (want_no rfl rfl rfl rfl rfl) (by kernel_rfl) hX113.pins ?_
            refine dr_skip (i := 18) rfl rfl (want_no rfl rfl rfl rfl rfl) (by kernel_rfl) hX113.pins ?_
            refine dr_skip (i := 19) rfl rfl (want_no rfl rfl rfl rfl rfl) (by kernel_rfl) hX113.pins ?_
            refine dr_skip (i := 20) rfl rfl (want_no rfl rfl rfl rfl rfl) (by kernel_rfl) hX113.pins ?_
            refine dr_skip (i := 21) rfl rfl (want_no rfl rfl rfl rfl rfl) (by kernel_rfl) hX113.pins ?_
            refine dr_skip (i := 22) rfl rfl (want_no rfl rfl rfl rfl rfl) (by kernel_rfl) hX113.pins ?_
            refine dr_skip (i := 23) rfl rfl (want_no rfl rfl rfl rfl rfl) (by kernel_rfl) hX113.pins ?_
            refine dr_skip (i := 24) rfl rfl (want_no rfl rfl rfl rfl rfl) (by kernel_rfl) hX113.pins ?_
            refine dr_skip (i := 25) rfl rfl (want_no rfl rfl rfl rfl rfl) (by kernel_rfl) hX113.pins ?_
            refine dr_skip (i := 26) rfl rfl (want_no rfl rfl rfl rfl rfl) (by kernel_rfl) hX113.pins ?_
            refine dr_skip (i := 27) rfl rfl (want_no rfl rfl rfl rfl rfl) (by kernel_rfl) hX113.pins ?_
            refine dr_skip (i := 28) rfl rfl (want_no rfl rfl rfl rfl rfl) (by kernel_rfl) hX113.pins ?_
            refine dr_take (i := 29) rfl rfl rfl (want_none rfl _) (by kernel_rfl) (fun _ _ => r_pickT (v := (.bool true)) rfl rfl) hX113.pins ?_
            refine dr_end (by kernel_rfl) ?_
            refine s_then ?_
            refine c_ifT rfl rfl ?_
            refine s_seq ?_
            refine c_reg ?_
            refine qd rfl rfl rfl (r_assign (v := (.bool false)) rfl) ?_
            refine qe ?_
            refine s_then ?_
            refine wp_ret ?_
            refine s_ret ?_
            refine c_ret1 (v := (.bool false)) rfl rfl rfl ?_
            exact ⟨_, congrArg (fun z => Ending.returned (Value.bool z)) (decP_false.2 (fun g => h114 (by have a := g.ll j (by omega); first | exact a.2 | (have b := a.1; omega)))).symm, hX113⟩
        · skip
          refine wp_exit ?_
          refine s_thenE ?_
          refine s_lopE ?_
          refine s_blkE ?_
          refine s_then ?_
          refine s_seq ?_
          refine c_reg ?_
          refine qd rfl rfl rfl (r_assign (v := (.bool true)) rfl) ?_
          refine qe ?_
          refine s_then ?_
          refine wp_ret ?_
          refine s_ret ?_
          refine c_ret1 (v := (.bool true)) rfl rfl rfl ?_
          exact ⟨_, congrArg (fun z => Ending.returned (Value.bool z)) (decP_true.2 ⟨⟨by omega, by omega⟩, ⟨by omega, by omega⟩, by omega, by omega, fun q hq => by have h := hpi q (by omega); exact ⟨⟨h.1.1, by omega⟩, h.2⟩, fun q hq => by have h := hpj q (by omega); exact ⟨⟨h.1.1, by omega⟩, h.2⟩⟩).symm, hX109⟩

theorem iCheckProof_spec {w : World} {G : Pin} {u v x : Value} {ps : List Cl} {ns bs : List Nd} (hP : Pins G w) (ha : RSl eNode G v ns) (hb : RSl eNode G x bs) (hu : RSl eClaim G u ps) :
    Calls Try.prog 11 [(.agg [v].toArray), (.agg [x].toArray), (.agg [u].toArray)].toArray w fun e w' => ∃ G', e = .returned (.tuple #[.bool (cpB ns bs ps), .bool (goodB ns && goodB bs)]) ∧ Ext noS G w G' w' := by
  refine s_enter (n := 101) Try.func11 Try.ntmps11 rfl rfl ?_
  have hX0 : Ext noS G w G w := Ext.refl hP
  have hmu := hu.max
  have hma := ha.max
  have hmb := hb.max
  refine s_seq ?_
  refine c_reg ?_
  refine q1 rfl rfl rfl (o_box [v] (v := (.agg [v].toArray)) rfl rfl hX0.pins (fun b1 w2 hk3 hb4 hp5 hl6 => ?_))
  have hX7 := hX0.step hp5 hl6
  have hlo8 : w.heap.size ≤ b1 := by have := hX0.size; omega
  obtain ⟨G9, hle10, hX11, hbp12, hf13⟩ := hb4.shut hX7 hlo8
  refine q1 rfl rfl rfl (o_box [x] (v := (.agg [x].toArray)) rfl rfl hX11.pins (fun b14 w15 hk16 hb17 hp18 hl19 => ?_))
  have hX20 := hX11.step hp18 hl19
  have hlo21 : w.heap.size ≤ b14 := by have := hX11.size; omega
  obtain ⟨G22, hle23, hX24, hbp25, hf26⟩ := hb17.shut hX20 hlo21
  refine q1 rfl rfl rfl (o_box [u] (v := (.agg [u].toArray)) rfl rfl hX24.pins (fun b27 w28 hk29 hb30 hp31 hl32 => ?_))
  have hX33 := hX24.step hp31 hl32
  have hlo34 : w.heap.size ≤ b27 := by have := hX24.size; omega
  obtain ⟨G35, hle36, hX37, hbp38, hf39⟩ := hb30.shut hX33 hlo34
  refine qd rfl rfl rfl (r_assign (v := (.bool false)) rfl) ?_
  refine qd rfl rfl rfl (r_assign (v := (.bool false)) rfl) ?_
  refine qe ?_
  refine s_then ?_
  refine s_seq ?_
  refine s_seq ?_
  refine c_reg ?_
  refine qd rfl rfl rfl (r_ldpA (cs := [v]) ag34 sz34 rfl (fun j u hj => (Pins.of_le hX37.pins (Pin.le_trans hle23 hle36)) _ _ _ (hbp12 _ _ (by simpa using hj)))) ?_
  refine q1 rfl rfl rfl (o_call (vs := [(.agg [v].toArray)]) Try.func35 nm35 rfl rfl rfl ?_)
  refine Calls.mono (goodForm_spec hX37.pins (ha.mono (Pin.le_trans (Pin.le_trans hle10 hle23) hle36))) ?_
  rintro _ w41 ⟨G40, rfl, hx42⟩
  refine ⟨_, rfl, ?_⟩
  have hX43 := hX37.tr hx42
  refine qd rfl rfl rfl (r_not rfl) ?_
  refine qd rfl rfl rfl (r_move (v := (.bool (!(goodB ns)))) rfl) ?_
  refine qbn (t := 15) rfl (fun h44 => ?_) (fun h44 => ?_)
  · skip
    refine qdg rfl rfl rfl rfl rfl rfl (r_ldpA (cs := [x]) ag34 sz34 rfl (fun j u hj => (Pins.of_le hX43.pins (Pin.le_trans hle36 hx42.le)) _ _ _ (hbp25 _ _ (by simpa using hj)))) ?_
    refine q1g rfl rfl rfl rfl rfl rfl (o_call (vs := [(.agg [x].toArray)]) Try.func35 nm35 rfl rfl rfl ?_)
    refine Calls.mono (goodForm_spec hX43.pins (hb.mono (Pin.le_trans (Pin.le_trans (Pin.le_trans hle10 hle23) hle36) hx42.le))) ?_
    rintro _ w46 ⟨G45, rfl, hx47⟩
    refine ⟨_, rfl, ?_⟩
    have hX48 := hX43.tr hx47
    refine qdg rfl rfl rfl rfl rfl rfl (r_not rfl) ?_
    refine qd rfl rfl rfl (r_pickF (v := (.bool (!(goodB bs)))) rfl rfl) ?_
    refine qe ?_
    refine s_then ?_
    refine c_ifn rfl rfl (fun h49 => ?_) (fun h49 => ?_)
    · skip
      refine wp_skip ?_
      refine s_then ?_
      refine s_seq ?_
      refine c_reg ?_
      have hga : GoodP ns := goodB_true.1 h44
      have hgb : GoodP bs := goodB_true.1 h49
      have hloa := hga.lo
      have hlob := hgb.lo
      refine qd rfl rfl rfl (r_fldp (k := 0) rfl Try.underlying38 rfl nz36 rfl) ?_
      refine qd rfl rfl rfl (r_ldp1 (u := u) ag36 rfl ((Pins.of_le hX48.pins (Pin.le_trans hx42.le hx47.le)) _ _ _ (hbp38 0 _ rfl))) ?_
      refine qd rfl rfl rfl (run_len Try.underlying36 (v := u) rfl hu) ?_
      refine qd rfl rfl rfl (r_assign (v := (.int .i64 (ps.length : Int))) rfl) ?_
      refine qe ?_
      refine s_then ?_
      refine s_seq ?_
      refine s_seq ?_
      refine c_draw (S := fun w => Pins G45 w) (last := 34) (by kernel_rfl) rfl ?_
      have hl50 : Below w46.heap.size w46 w46.drew := (Below.refl _ _).drew
      have hp51 := hX48.pins.below hl50
      have hX52 := hX48.step hp51 hl50
      refine dr_take (i := 0) rfl rfl rfl (want_none rfl _) (by kernel_rfl) (fun _ _ => r_move (v := (.int .i64 (ps.length : Int))) rfl) hX52.pins ?_
      refine dr_take (i := 1) rfl rfl rfl (want_none rfl _) (by kernel_rfl) (fun _ _ => r_lss rfl rfl) hX52.pins ?_
      refine dr_take (i := 2) rfl rfl rfl (want_none rfl _) (by kernel_rfl) (fun _ _ => r_move (v := (.bool (decide (((ps.length : Int) : Int) < 1)))) rfl) hX52.pins ?_
      refine drbd (p := ((ps.length : Int) : Int) < 1) (t := 25) rfl (fun h53 => ?_) (fun h53 => ?_)
      · skip
        refine dr_skip (i := 3) rfl rfl (want_no rfl rfl rfl rfl rfl) (by kernel_rfl) hX52.pins ?_
        refine dr_skip (i := 4) rfl rfl (want_no rfl rfl rfl rfl rfl) (by kernel_rfl) hX52.pins ?_
        refine dr_take (i := 5) rfl rfl rfl (want_none rfl _) (by kernel_rfl) (fun _ _ => r_pickT (v := (.bool true)) rfl rfl) hX52.pins ?_
        refine dr_take (i := 6) rfl rfl rfl (want_none rfl _) (by kernel_rfl) (fun _ _ => r_move (v := (.bool true)) rfl) hX52.pins ?_
        refine dr_skip (i := 7) rfl rfl (want_no rfl rfl rfl rfl rfl) (by kernel_rfl) hX52.pins ?_
        refine dr_skip (i := 8) rfl rfl (want_no rfl rfl rfl rfl rfl) (by kernel_rfl) hX52.pins ?_
        refine dr_skip (i := 9) rfl rfl (want_no rfl rfl rfl rfl rfl) (by kernel_rfl) hX52.pins ?_
        refine dr_skip (i := 10) rfl rfl (want_no rfl rfl rfl rfl rfl) (by kernel_rfl) hX52.pins ?_
        refine dr_skip (i := 11) rfl rfl (want_no rfl rfl rfl rfl rfl) (by kernel_rfl) hX52.pins ?_
        refine dr_skip (i := 12) rfl rfl (want_no rfl rfl rfl rfl rfl) (by kernel_rfl) hX52.pins ?_
        refine dr_skip (i := 13) rfl rfl (want_no rfl rfl rfl rfl rfl) (by kernel_rfl) hX52.pins ?_
        refine dr_skip (i := 14) rfl rfl (want_no rfl rfl rfl rfl rfl) (by kernel_rfl) hX52.pins ?_
        refine dr_skip (i := 15) rfl rfl (want_no rfl rfl rfl rfl rfl) (by kernel_rfl) hX52.pins ?_
        refine dr_skip (i := 16) rfl rfl (want_no rfl rfl rfl rfl rfl) (by kernel_rfl) hX52.pins ?_
        refine dr_skip (i := 17) rfl rfl (want_no rfl rfl rfl rfl rfl) (by kernel_rfl) hX52.pins ?_
        refine dr_skip (i := 18) rfl rfl (want_no rfl rfl rfl rfl rfl) (by kernel_rfl) hX52.pins ?_
        refine dr_take (i := 19) rfl rfl rfl (want_none rfl _) (by kernel_rfl) (fun _ _ => r_pickT (v := (.bool true)) rfl rfl) hX52.pins ?_
        refine dr_take (i := 20) rfl rfl rfl (want_none rfl _) (by kernel_rfl) (fun _ _ => r_move (v := (.bool true)) rfl) hX52.pins ?_
        refine dr_skip (i := 21) rfl rfl (want_no rfl rfl rfl rfl rfl) (by kernel_rfl) hX52.pins ?_
        refine dr_skip (i := 22) rfl rfl (want_no rfl rfl rfl rfl rfl) (by kernel_rfl) hX52.pins ?_
        refine dr_skip (i := 23) rfl rfl (want_no rfl rfl rfl rfl rfl) (by kernel_rfl) hX52.pins ?_
        refine dr_skip (i := 24) rfl rfl (want_no rfl rfl rfl rfl rfl) (by kernel_rfl) hX52.pins ?_
        refine dr_skip (i := 25) rfl rfl (want_no rfl rfl rfl rfl rfl) (by kernel_rfl) hX52.pins ?_
        refine dr_skip (i := 26) rfl rfl (want_no rfl rfl rfl rfl rfl) (by kernel_rfl) hX52.pins ?_
        refine dr_skip (i := 27) rfl rfl (want_no rfl rfl rfl rfl rfl) (by kernel_rfl) hX52.pins ?_
        refine dr_skip (i := 28) rfl rfl (want_no rfl rfl rfl rfl rfl) (by kernel_rfl) hX52.pins ?_
        refine dr_skip (i := 29) rfl rfl (want_no rfl rfl rfl rfl rfl) (by kernel_rfl) hX52.pins ?_
        refine dr_skip (i := 30) rfl rfl (want_no rfl rfl rfl rfl rfl) (by kernel_rfl) hX52.pins ?_
        refine dr_skip (i := 31) rfl rfl (want_no rfl rfl rfl rfl rfl) (by kernel_rfl) hX52.pins ?_
        refine dr_skip (i := 32) rfl rfl (want_no rfl rfl rfl rfl rfl) (by kernel_rfl) hX52.pins ?_
        refine dr_take (i := 33) rfl rfl rfl (want_none rfl _) (by kernel_rfl) (fun _ _ => r_pickT (v := (.bool true)) rfl rfl) hX52.pins ?_
        refine dr_end (by kernel_rfl) ?_
        refine s_then ?_
        refine c_ifT rfl rfl ?_
        refine s_seq ?_
        refine c_reg ?_
        refine qd rfl rfl rfl (r_assign (v := (.bool false)) rfl) ?_
        refine qd rfl rfl rfl (r_assign (v := (.bool true)) rfl) ?_
        refine qe ?_
        refine s_then ?_
        refine wp_ret ?_
        refine s_ret ?_
        refine c_ret2 (v := (.bool false)) (u := (.bool true)) rfl rfl rfl rfl rfl ?_
        obtain ⟨e1, e2⟩ := @cp_no ns bs ps h44 h49 (fun g => by have h1 := g.n; have h2 := g.la; have h3 := g.lb; rw [show ps.length - 1 = ((ps.length : Int) - 1).toNat by omega] at h2 h3; omega)
        exact ⟨_, by rw [e1, e2], hX52⟩
      · skip
        refine dr_take (i := 3) rfl rfl rfl (want_yes rfl rfl rfl rfl) (by kernel_rfl) (fun _ _ => r_move (v := (.int .i64 (ps.length : Int))) rfl) hX52.pins ?_
        refine dr_take (i := 4) rfl rfl rfl (want_yes rfl rfl rfl rfl) (by kernel_rfl) (fun _ _ => r_gtr rfl rfl) hX52.pins ?_
        refine dr_take (i := 5) rfl rfl rfl (want_none rfl _) (by kernel_rfl) (fun _ _ => r_pickF (v := (.bool (decide ((200 : Int) < (ps.length : Int))))) rfl rfl) hX52.pins ?_
        refine dr_take (i := 6) rfl rfl rfl (want_none rfl _) (by kernel_rfl) (fun _ _ => r_move (v := (.bool (decide ((200 : Int) < (ps.length : Int))))) rfl) hX52.pins ?_
        refine drbd (p := (200 : Int) < (ps.length : Int)) (t := 29) rfl (fun h54 => ?_) (fun h54 => ?_)
        · skip
          refine dr_skip (i := 7) rfl rfl (want_no rfl rfl rfl rfl rfl) (by kernel_rfl) hX52.pins ?_
          refine dr_skip (i := 8) rfl rfl (want_no rfl rfl rfl rfl rfl) (by kernel_rfl) hX52.pins ?_
          refine dr_skip (i := 9) rfl rfl (want_no rfl rfl rfl rfl rfl) (by kernel_rfl) hX52.pins ?_
          refine dr_skip (i := 10) rfl rfl (want_no rfl rfl rfl rfl rfl) (by kernel_rfl) hX52.pins ?_
          refine dr_skip (i := 11) rfl rfl (want_no rfl rfl rfl rfl rfl) (by kernel_rfl) hX52.pins ?_
          refine dr_skip (i := 12) rfl rfl (want_no rfl rfl rfl rfl rfl) (by kernel_rfl) hX52.pins ?_
          refine dr_skip (i := 13) rfl rfl (want_no rfl rfl rfl rfl rfl) (by kernel_rfl) hX52.pins ?_
          refine dr_skip (i := 14) rfl rfl (want_no rfl rfl rfl rfl rfl) (by kernel_rfl) hX52.pins ?_
          refine dr_skip (i := 15) rfl rfl (want_no rfl rfl rfl rfl rfl) (by kernel_rfl) hX52.pins ?_
          refine dr_skip (i := 16) rfl rfl (want_no rfl rfl rfl rfl rfl) (by kernel_rfl) hX52.pins ?_
          refine dr_skip (i := 17) rfl rfl (want_no rfl rfl rfl rfl rfl) (by kernel_rfl) hX52.pins ?_
          refine dr_skip (i := 18) rfl rfl (want_no rfl rfl rfl rfl rfl) (by kernel_rfl) hX52.pins ?_
          refine dr_take (i := 19) rfl rfl rfl (want_none rfl _) (by kernel_rfl) (fun _ _ => r_pickT (v := (.bool true)) rfl rfl) hX52.pins ?_
          refine dr_take (i := 20) rfl rfl rfl (want_none rfl _) (by kernel_rfl) (fun _ _ => r_move (v := (.bool true)) rfl) hX52.pins ?_
          refine dr_skip (i := 21) rfl rfl (want_no rfl rfl rfl rfl rfl) (by kernel_rfl) hX52.pins ?_
          refine dr_skip (i := 22) rfl rfl (want_no rfl rfl rfl rfl rfl) (by kernel_rfl) hX52.pins ?_
          refine dr_skip (i := 23) rfl rfl (want_no rfl rfl rfl rfl rfl) (by kernel_rfl) hX52.pins ?_
          refine dr_skip (i := 24) rfl rfl (want_no rfl rfl rfl rfl rfl) (by kernel_rfl) hX52.pins ?_
          refine dr_skip (i := 25) rfl rfl (want_no rfl rfl rfl rfl rfl) (by kernel_rfl) hX52.pins ?_
          refine dr_skip (i := 26) rfl rfl (want_no rfl rfl rfl rfl rfl) (by kernel_rfl) hX52.pins ?_
          refine dr_skip (i := 27) rfl rfl (want_no rfl rfl rfl rfl rfl) (by kernel_rfl) hX52.pins ?_
          refine dr_skip (i := 28) rfl rfl (want_no rfl rfl rfl rfl rfl) (by kernel_rfl) hX52.pins ?_
          refine dr_skip (i := 29) rfl rfl (want_no rfl rfl rfl rfl rfl) (by kernel_rfl) hX52.pins ?_
          refine dr_skip (i := 30) rfl rfl (want_no rfl rfl rfl rfl rfl) (by kernel_rfl) hX52.pins ?_
          refine dr_skip (i := 31) rfl rfl (want_no rfl rfl rfl rfl rfl) (by kernel_rfl) hX52.pins ?_
          refine dr_skip (i := 32) rfl rfl (want_no rfl rfl rfl rfl rfl) (by kernel_rfl) hX52.pins ?_
          refine dr_take (i := 33) rfl rfl rfl (want_none rfl _) (by kernel_rfl) (fun _ _ => r_pickT (v := (.bool true)) rfl rfl) hX52.pins ?_
          refine dr_end (by kernel_rfl) ?_
          refine s_then ?_
          refine c_ifT rfl rfl ?_
          refine s_seq ?_
          refine c_reg ?_
          refine qd rfl rfl rfl (r_assign (v := (.bool false)) rfl) ?_
          refine qd rfl rfl rfl (r_assign (v := (.bool true)) rfl) ?_
          refine qe ?_
          refine s_then ?_
          refine wp_ret ?_
          refine s_ret ?_
          refine c_ret2 (v := (.bool false)) (u := (.bool true)) rfl rfl rfl rfl rfl ?_
          obtain ⟨e1, e2⟩ := @cp_no ns bs ps h44 h49 (fun g => by have h1 := g.n; have h2 := g.la; have h3 := g.lb; rw [show ps.length - 1 = ((ps.length : Int) - 1).toNat by omega] at h2 h3; omega)
          exact ⟨_, by rw [e1, e2], hX52⟩
        · skip
          refine dr_take (i := 7) rfl rfl rfl (want_yes rfl rfl rfl rfl) (by kernel_rfl) (fun _ _ => r_fldp (k := 0) rfl Try.underlying38 rfl nz36 rfl) hX52.pins ?_
          refine dr_take (i := 8) rfl rfl rfl (want_yes rfl rfl rfl rfl) (by kernel_rfl) (fun _ hS => r_ldp1 (u := u) ag36 rfl ((Pins.of_le hS (Pin.le_trans hx42.le hx47.le)) _ _ _ (hbp38 0 _ rfl))) hX52.pins ?_
          refine dr_take (i := 9) rfl rfl rfl (want_yes rfl rfl rfl rfl) (by kernel_rfl) (fun _ _ => r_move (v := (.int .i64 (ps.length : Int))) rfl) hX52.pins ?_
          refine dr_take (i := 10) rfl rfl rfl (want_yes rfl rfl rfl rfl) (by kernel_rfl) (fun _ _ => r_sub rfl rfl (by omega)) hX52.pins ?_
          refine dr_take (i := 11) rfl rfl rfl (want_yes rfl rfl rfl rfl) (by kernel_rfl) (fun _ _ => run_idx Try.underlying36 sz71 (v := u) rfl rfl hu (by omega) (by omega)) hX52.pins ?_
          refine dr_take (i := 12) rfl rfl rfl (want_yes rfl rfl rfl rfl) (by kernel_rfl) (fun _ _ => run_fld (off := 0) Try.underlying71 rfl rfl nz3 (z := ((ps.length : Int) - 1)) (k := 0) rfl hu (by omega) (by omega)) hX52.pins ?_
          obtain ⟨cs55, hrep56, hagg57, hcell58⟩ := nm_el (j := ((ps.length : Int) - 1).toNat) default (hu.at (z := ((ps.length : Int) - 1)) (by omega) (by omega)) rfl
          obtain ⟨u59, u61, rfl, hr60, hr62⟩ := hrep56
          have hm63 := hr60.max
          have hm64 := hr62.max
          refine dr_take (i := 13) rfl rfl rfl (want_yes rfl rfl rfl rfl) (by kernel_rfl) (fun _ hS => hcell58 0 _ rfl ag3 rfl (Pins.of_le hS (Pin.le_trans (Pin.le_trans (Pin.le_trans (Pin.le_trans hle10 hle23) hle36) hx42.le) hx47.le))) hX52.pins ?_
          refine dr_take (i := 14) rfl rfl rfl (want_yes rfl rfl rfl rfl) (by kernel_rfl) (fun _ _ => r_fldp (k := 0) rfl Try.underlying34 rfl nz32 rfl) hX52.pins ?_
          refine dr_take (i := 15) rfl rfl rfl (want_yes rfl rfl rfl rfl) (by kernel_rfl) (fun _ hS => r_ldp1 (u := v) ag32 rfl ((Pins.of_le hS (Pin.le_trans (Pin.le_trans (Pin.le_trans hle23 hle36) hx42.le) hx47.le)) _ _ _ (hbp12 0 _ rfl))) hX52.pins ?_
          refine dr_take (i := 16) rfl rfl rfl (want_yes rfl rfl rfl rfl) (by kernel_rfl) (fun _ _ => run_len Try.underlying32 (v := v) rfl ha) hX52.pins ?_
          refine dr_take (i := 17) rfl rfl rfl (want_yes rfl rfl rfl rfl) (by kernel_rfl) (fun _ _ => r_sub rfl rfl (by omega)) hX52.pins ?_
          refine dr_take (i := 18) rfl rfl rfl (want_yes rfl rfl rfl rfl) (by kernel_rfl) (fun _ _ => r_neq rfl rfl) hX52.pins ?_
          refine dr_take (i := 19) rfl rfl rfl (want_none rfl _) (by kernel_rfl) (fun _ _ => r_pickF (v := (.bool (decide (((ps.getD ((ps.length : Int) - 1).toNat default).a : Int) ≠ ((ns.length : Int) - 1))))) rfl rfl) hX52.pins ?_
          refine dr_take (i := 20) rfl rfl rfl (want_none rfl _) (by kernel_rfl) (fun _ _ => r_move (v := (.bool (decide (((ps.getD ((ps.length : Int) - 1).toNat default).a : Int) ≠ ((ns.length : Int) - 1))))) rfl) hX52.pins ?_
          refine drbd (p := ((ps.getD ((ps.length : Int) - 1).toNat default).a : Int) ≠ ((ns.length : Int) - 1)) (t := 43) rfl (fun h65 => ?_) (fun h65 => ?_)
          · skip
            refine dr_skip (i := 21) rfl rfl (want_no rfl rfl rfl rfl rfl) (by kernel_rfl) hX52.pins ?_
            refine dr_skip (i := 22) rfl rfl (want_no rfl rfl rfl rfl rfl) (by kernel_rfl) hX52.pins ?_
            refine dr_skip (i := 23) rfl rfl (want_no rfl rfl rfl rfl rfl) (by kernel_rfl) hX52.pins ?_
            refine dr_skip (i := 24) rfl rfl (want_no rfl rfl rfl rfl rfl) (by kernel_rfl) hX52.pins ?_
            refine dr_skip (i := 25) rfl rfl (want_no rfl rfl rfl rfl rfl) (by kernel_rfl) hX52.pins ?_
            refine dr_skip (i := 26) rfl rfl (want_no rfl rfl rfl rfl rfl) (by kernel_rfl) hX52.pins ?_
            refine dr_skip (i := 27) rfl rfl (want_no rfl rfl rfl rfl rfl) (by kernel_rfl) hX52.pins ?_
            refine dr_skip (i := 28) rfl rfl (want_no rfl rfl rfl rfl rfl) (by kernel_rfl) hX52.pins ?_
            refine dr_skip (i := 29) rfl rfl (want_no rfl rfl rfl rfl rfl) (by kernel_rfl) hX52.pins ?_
            refine dr_skip (i := 30) rfl rfl (want_no rfl rfl rfl rfl rfl) (by kernel_rfl) hX52.pins ?_
            refine dr_skip (i := 31) rfl rfl (want_no rfl rfl rfl rfl rfl) (by kernel_rfl) hX52.pins ?_
            refine dr_skip (i := 32) rfl rfl (want_no rfl rfl rfl rfl rfl) (by kernel_rfl) hX52.pins ?_
            refine dr_take (i := 33) rfl rfl rfl (want_none rfl _) (by kernel_rfl) (fun _ _ => r_pickT (v := (.bool true)) rfl rfl) hX52.pins ?_
            refine dr_end (by kernel_rfl) ?_
            refine s_then ?_
            refine c_ifT rfl rfl ?_
            refine s_seq ?_
            refine c_reg ?_
            refine qd rfl rfl rfl (r_assign (v := (.bool false)) rfl) ?_
            refine qd rfl rfl rfl (r_assign (v := (.bool true)) rfl) ?_
            refine qe ?_
            refine s_then ?_
            refine wp_ret ?_
            refine s_ret ?_
            refine c_ret2 (v := (.bool false)) (u := (.bool true)) rfl rfl rfl rfl rfl ?_
            obtain ⟨e1, e2⟩ := @cp_no ns bs ps h44 h49 (fun g => by have h1 := g.n; have h2 := g.la; have h3 := g.lb; rw [show ps.length - 1 = ((ps.length : Int) - 1).toNat by omega] at h2 h3; omega)
            exact ⟨_, by rw [e1, e2], hX52⟩
          · skip
            refine dr_take (i := 21) rfl rfl rfl (want_yes rfl rfl rfl rfl) (by kernel_rfl) (fun _ _ => r_fldp (k := 0) rfl Try.underlying38 rfl nz36 rfl) hX52.pins ?_
            refine dr_take (i := 22) rfl rfl rfl (want_yes rfl rfl rfl rfl) (by kernel_rfl) (fun _ hS => r_ldp1 (u := u) ag36 rfl ((Pins.of_le hS (Pin.le_trans hx42.le hx47.le)) _ _ _ (hbp38 0 _ rfl))) hX52.pins ?_
            refine dr_take (i := 23) rfl rfl rfl (want_yes rfl rfl rfl rfl) (by kernel_rfl) (fun _ _ => r_move (v := (.int .i64 (ps.length : Int))) rfl) hX52.pins ?_
            refine dr_take (i := 24) rfl rfl rfl (want_yes rfl rfl rfl rfl) (by kernel_rfl) (fun _ _ => r_sub rfl rfl (by omega)) hX52.pins ?_
            refine dr_take (i := 25) rfl rfl rfl (want_yes rfl rfl rfl rfl) (by kernel_rfl) (fun _ _ => run_idx Try.underlying36 sz71 (v := u) rfl rfl hu (by omega) (by omega)) hX52.pins ?_
            refine dr_take (i := 26) rfl rfl rfl (want_yes rfl rfl rfl rfl) (by kernel_rfl) (fun _ _ => run_fld (off := 1) Try.underlying71 rfl rfl nz3 (z := ((ps.length : Int) - 1)) (k := 0) rfl hu (by omega) (by omega)) hX52.pins ?_
            obtain ⟨cs66, hrep67, hagg68, hcell69⟩ := nm_el (j := ((ps.length : Int) - 1).toNat) default (hu.at (z := ((ps.length : Int) - 1)) (by omega) (by omega)) rfl
            obtain ⟨u70, u72, rfl, hr71, hr73⟩ := hrep67
            have hm74 := hr71.max
            have hm75 := hr73.max
            refine dr_take (i := 27) rfl rfl rfl (want_yes rfl rfl rfl rfl) (by kernel_rfl) (fun _ hS => hcell69 1 _ rfl ag3 rfl (Pins.of_le hS (Pin.le_trans (Pin.le_trans (Pin.le_trans (Pin.le_trans hle10 hle23) hle36) hx42.le) hx47.le))) hX52.pins ?_
            refine dr_take (i := 28) rfl rfl rfl (want_yes rfl rfl rfl rfl) (by kernel_rfl) (fun _ _ => r_fldp (k := 0) rfl Try.underlying34 rfl nz32 rfl) hX52.pins ?_
            refine dr_take (i := 29) rfl rfl rfl (want_yes rfl rfl rfl rfl) (by kernel_rfl) (fun _ hS => r_ldp1 (u := x) ag32 rfl ((Pins.of_le hS (Pin.le_trans (Pin.le_trans hle36 hx42.le) hx47.le)) _ _ _ (hbp25 0 _ rfl))) hX52.pins ?_
            refine dr_take (i := 30) rfl rfl rfl (want_yes rfl rfl rfl rfl) (by kernel_rfl) (fun _ _ => run_len Try.underlying32 (v := x) rfl hb) hX52.pins ?_
            refine dr_take (i := 31) rfl rfl rfl (want_yes rfl rfl rfl rfl) (by kernel_rfl) (fun _ _ => r_sub rfl rfl (by omega)) hX52.pins ?_
            refine dr_take (i := 32) rfl rfl rfl (want_yes rfl rfl rfl rfl) (by kernel_rfl) (fun _ _ => r_neq rfl rfl) hX52.pins ?_
            refine dr_take (i := 33) rfl rfl rfl (want_none rfl _) (by kernel_rfl) (fun _ _ => r_pickF (v := (.bool (decide (((ps.getD ((ps.length : Int) - 1).toNat default).b : Int) ≠ ((bs.length : Int) - 1))))) rfl rfl) hX52.pins ?_
            refine dr_end (by kernel_rfl) ?_
            refine s_then ?_
            refine c_ifd (p := ((ps.getD ((ps.length : Int) - 1).toNat default).b : Int) ≠ ((bs.length : Int) - 1)) rfl rfl (fun h76 => ?_) (fun h76 => ?_)
            · skip
              refine s_seq ?_
              refine c_reg ?_
              refine qd rfl rfl rfl (r_assign (v := (.bool false)) rfl) ?_
              refine qd rfl rfl rfl (r_assign (v := (.bool true)) rfl) ?_
              refine qe ?_
              refine s_then ?_
              refine wp_ret ?_
              refine s_ret ?_
              refine c_ret2 (v := (.bool false)) (u := (.bool true)) rfl rfl rfl rfl rfl ?_
              obtain ⟨e1, e2⟩ := @cp_no ns bs ps h44 h49 (fun g => by have h1 := g.n; have h2 := g.la; have h3 := g.lb; rw [show ps.length - 1 = ((ps.length : Int) - 1).toNat by omega] at h2 h3; omega)
              exact ⟨_, by rw [e1, e2], hX52⟩
            · skip
              refine wp_skip ?_
              refine s_then ?_
              refine s_seq ?_
              refine s_seq ?_
              refine c_reg ?_
              refine qd rfl rfl rfl (r_fldp (k := 0) rfl Try.underlying38 rfl nz36 rfl) ?_
              refine qd rfl rfl rfl (r_ldp1 (u := u) ag36 rfl ((Pins.of_le hX52.pins (Pin.le_trans hx42.le hx47.le)) _ _ _ (hbp38 0 _ rfl))) ?_
              refine qd rfl rfl rfl (run_len Try.underlying36 (v := u) rfl hu) ?_
              refine qd rfl rfl rfl (r_move (v := (.int .i64 0)) rfl) ?_
              refine qe ?_
              refine s_then ?_
              refine s_blk ?_
              refine s_loop (fun (k : Nat) (en : Nat → Value) (W : World) => ∃ (env1 : Nat → Value) (m : Nat) (GL1 : Pin), en = (upd (upd (upd (upd (upd (upd env1 3 (.pointer (some ⟨b1, 0, none⟩))) 4 (.pointer (some ⟨b14, 0, none⟩))) 5 (.pointer (some ⟨b27, 0, none⟩))) 58 u) 59 (.int .i64 (ps.length : Int))) 60 (.int .i64 (m : Int))) ∧ k = ps.length - m ∧ Ext noS G w GL1 W ∧ Pin.le G45 GL1 ∧ (m ≤ ps.length) ∧ (∀ q, q < m → RightP ns bs ps q) ∧ (∀ q, 1 ≤ q → q < m → AheadP (ps.getD (q - 1) default) (ps.getD q default))) _ ⟨_, 0, G45, (packS (x := 60) (packS (x := 59) (packS (x := 58) (packS (x := 5) (packS (x := 4) (pack1 (x := 3) rfl) rfl) rfl) rfl) rfl) rfl), rfl, hX52, Pin.le_refl _, Nat.zero_le _, (fun i hi => absurd hi (Nat.not_lt_zero i)), (fun q a b => absurd b (by omega))⟩ ?_
              rintro k77 _ w78 ⟨env1, m, GL1, rfl, hk79, hX80, hlek77, hk, hok, hst⟩
              refine s_seq ?_
              refine c_reg ?_
              refine qd rfl rfl rfl (r_lss rfl rfl) ?_
              refine qe ?_
              refine s_then ?_
              refine s_seq ?_
              refine c_ifd (p := ((m : Int) : Int) < (ps.length : Int)) rfl rfl (fun h81 => ?_) (fun h81 => ?_)
              · skip
                refine wp_skip ?_
                refine s_then ?_
                refine s_seq ?_
                refine s_blk ?_
                refine s_seq ?_
                refine c_reg ?_
                refine qd rfl rfl rfl (r_move (v := (.int .i64 (m : Int))) rfl) ?_
                refine qd rfl rfl rfl (run_idx Try.underlying36 sz71 (v := u) rfl rfl hu (by omega) (by omega)) ?_
                obtain ⟨cs82, hrep83, hagg84, hcell85⟩ := nm_el (j := m) default (hu.at (z := (m : Int)) (by omega) (by omega)) rfl
                obtain ⟨u86, u88, rfl, hr87, hr89⟩ := hrep83
                have hm90 := hr87.max
                have hm91 := hr89.max
                refine qd rfl rfl rfl (hagg84 ag71 sz71 rfl (Pins.of_le hX80.pins (Pin.le_trans (Pin.le_trans (Pin.le_trans (Pin.le_trans (Pin.le_trans hle10 hle23) hle36) hx42.le) hx47.le) hlek77))) ?_
                refine q1 rfl rfl rfl (o_alloc [(.int .i64 0), (.int .i64 0), (.slice none 0 0), (.slice none 0 0)] zr71 rfl hX80.pins (fun b92 w93 hk94 hb95 hp96 hl97 => ?_))
                have hX98 := hX80.step hp96 hl97
                have hlo99 : w.heap.size ≤ b92 := by have := hX80.size; omega
                refine qd rfl rfl rfl (r_assign (v := (.int .i64 (m : Int))) rfl) ?_
                refine q0 rfl rfl rfl (o_stp (cs' := [(.int .i64 ((ps.getD m default).a)), (.int .i64 ((ps.getD m default).b)), u86, u88]) (us := [(.int .i64 ((ps.getD m default).a)), (.int .i64 ((ps.getD m default).b)), u86, u88]) (v := (.agg [(.int .i64 ((ps.getD m default).a)), (.int .i64 ((ps.getD m default).b)), u86, u88].toArray)) sz71 rfl rfl rfl (ones4 (by rfl) (by rfl) hr87.one hr89.one) hX98.pins hb95 (Nat.le_of_ble_eq_true rfl) rfl (fun w100 hb101 hp102 hg103 hz104 => ?_))
                have hX105 := hX98.write hp102 hg103 ((lo_box hlo99))
                obtain ⟨G106, hle107, hX108, hbp109, hf110⟩ := hb101.shut hX105 hlo99
                refine qe ?_
                refine s_then ?_
                refine s_seq ?_
                refine s_seq ?_
                refine c_reg ?_
                refine qd rfl rfl rfl (r_move (v := (.int .i64 (m : Int))) rfl) ?_
                refine qd rfl rfl rfl (r_gtr rfl rfl) ?_
                refine qe ?_
                refine s_then ?_
                refine c_ifd (p := (0 : Int) < (m : Int)) rfl rfl (fun h111 => ?_) (fun h111 => ?_)
                · skip
                  refine s_seq ?_
                  refine c_reg ?_
                  refine qd rfl rfl rfl (r_fldp (k := 0) rfl Try.underlying38 rfl nz36 rfl) ?_
                  refine qd rfl rfl rfl (r_ldp1 (u := u) ag36 rfl ((Pins.of_le hX108.pins (Pin.le_trans (Pin.le_trans (Pin.le_trans hx42.le hx47.le) hlek77) hle107)) _ _ _ (hbp38 0 _ rfl))) ?_
                  refine qd rfl rfl rfl (r_move (v := (.int .i64 (m : Int))) rfl) ?_
                  refine qd rfl rfl rfl (r_sub rfl rfl (by omega)) ?_
                  refine qd rfl rfl rfl (run_idx Try.underlying36 sz71 (v := u) rfl rfl hu (by omega) (by omega)) ?_
                  obtain ⟨cs112, hrep113, hagg114, hcell115⟩ := nm_el (j := ((m : Int) - 1).toNat) default (hu.at (z := ((m : Int) - 1)) (by omega) (by omega)) rfl
                  obtain ⟨u116, u118, rfl, hr117, hr119⟩ := hrep113
                  have hm120 := hr117.max
                  have hm121 := hr119.max
                  refine qd rfl rfl rfl (hagg114 ag71 sz71 rfl (Pins.of_le hX108.pins (Pin.le_trans (Pin.le_trans (Pin.le_trans (Pin.le_trans (Pin.le_trans (Pin.le_trans hle10 hle23) hle36) hx42.le) hx47.le) hlek77) hle107))) ?_
                  refine q1 rfl rfl rfl (o_alloc [(.int .i64 0), (.int .i64 0), (.slice none 0 0), (.slice none 0 0)] zr71 rfl hX108.pins (fun b122 w123 hk124 hb125 hp126 hl127 => ?_))
                  have hX128 := hX108.step hp126 hl127
                  have hlo129 : w.heap.size ≤ b122 := by have := hX108.size; omega
                  refine q0 rfl rfl rfl (o_stp (cs' := [(.int .i64 ((ps.getD ((m : Int) - 1).toNat default).a)), (.int .i64 ((ps.getD ((m : Int) - 1).toNat default).b)), u116, u118]) (us := [(.int .i64 ((ps.getD ((m : Int) - 1).toNat default).a)), (.int .i64 ((ps.getD ((m : Int) - 1).toNat default).b)), u116, u118]) (v := (.agg [(.int .i64 ((ps.getD ((m : Int) - 1).toNat default).a)), (.int .i64 ((ps.getD ((m : Int) - 1).toNat default).b)), u116, u118].toArray)) sz71 rfl rfl rfl (ones4 (by rfl) (by rfl) hr117.one hr119.one) hX128.pins hb125 (Nat.le_of_ble_eq_true rfl) rfl (fun w130 hb131 hp132 hg133 hz134 => ?_))
                  have hX135 := hX128.write hp132 hg133 ((lo_box hlo129))
                  obtain ⟨G136, hle137, hX138, hbp139, hf140⟩ := hb131.shut hX135 hlo129
                  refine qe ?_
                  refine s_then ?_
                  refine s_seq ?_
                  refine c_reg ?_
                  refine qd rfl rfl rfl (r_fldp (k := 0) rfl Try.underlying71 rfl nz3 rfl) ?_
                  refine qd rfl rfl rfl (r_ldp1 (u := (.int .i64 ((ps.getD m default).a))) ag3 rfl ((Pins.of_le hX138.pins hle137) _ _ _ (hbp109 0 _ rfl))) ?_
                  refine qd rfl rfl rfl (r_fldp (k := 0) rfl Try.underlying71 rfl nz3 rfl) ?_
                  refine qd rfl rfl rfl (r_ldp1 (u := (.int .i64 ((ps.getD ((m : Int) - 1).toNat default).a))) ag3 rfl (hX138.pins _ _ _ (hbp139 0 _ rfl))) ?_
                  refine qd rfl rfl rfl (r_lss rfl rfl) ?_
                  refine qd rfl rfl rfl (r_move (v := (.bool (decide (((ps.getD m default).a : Int) < ((ps.getD ((m : Int) - 1).toNat default).a))))) rfl) ?_
                  refine qbd (p := ((ps.getD m default).a : Int) < ((ps.getD ((m : Int) - 1).toNat default).a)) (t := 78) rfl (fun h141 => ?_) (fun h141 => ?_)
                  · skip
                    refine qs rfl rfl rfl rfl rfl rfl ?_
                    refine qs rfl rfl rfl rfl rfl rfl ?_
                    refine qs rfl rfl rfl rfl rfl rfl ?_
                    refine qs rfl rfl rfl rfl rfl rfl ?_
                    refine qs rfl rfl rfl rfl rfl rfl ?_
                    refine qs rfl rfl rfl rfl rfl rfl ?_
                    refine qsu rfl rfl rfl rfl rfl ?_
                    refine qsu rfl rfl rfl rfl rfl ?_
                    refine qsu rfl rfl rfl rfl rfl ?_
                    refine qsu rfl rfl rfl rfl rfl ?_
                    refine qsu rfl rfl rfl rfl rfl ?_
                    refine qs rfl rfl rfl rfl rfl rfl ?_
                    refine qd rfl rfl rfl (r_pickT (v := (.bool true)) rfl rfl) ?_
                    refine qe ?_
                    refine s_then ?_
                    refine c_ifT rfl rfl ?_
                    refine s_seq ?_
                    refine c_reg ?_
                    refine qd rfl rfl rfl (r_assign (v := (.bool false)) rfl) ?_
                    refine qd rfl rfl rfl (r_assign (v := (.bool true)) rfl) ?_
                    refine qe ?_
                    refine s_then ?_
                    refine wp_ret ?_
                    refine s_ret ?_
                    refine c_ret2 (v := (.bool false)) (u := (.bool true)) rfl rfl rfl rfl rfl ?_
                    obtain ⟨e1, e2⟩ := @cp_no ns bs ps h44 h49 (fun g => by have a := g.st m (by omega) (by omega); unfold AheadP at a; rw [show m - 1 = ((m : Int) - 1).toNat by omega] at a; omega)
                    exact ⟨_, by rw [e1, e2], hX138⟩
                  · skip
                    refine qdg rfl rfl rfl rfl rfl rfl (r_fldp (k := 0) rfl Try.underlying71 rfl nz3 rfl) ?_
                    refine qdg rfl rfl rfl rfl rfl rfl (r_ldp1 (u := (.int .i64 ((ps.getD m default).a))) ag3 rfl ((Pins.of_le hX138.pins hle137) _ _ _ (hbp109 0 _ rfl))) ?_
                    refine qdg rfl rfl rfl rfl rfl rfl (r_fldp (k := 0) rfl Try.underlying71 rfl nz3 rfl) ?_
                    refine qdg rfl rfl rfl rfl rfl rfl (r_ldp1 (u := (.int .i64 ((ps.getD ((m : Int) - 1).toNat default).a))) ag3 rfl (hX138.pins _ _ _ (hbp139 0 _ rfl))) ?_
                    refine qdg rfl rfl rfl rfl rfl rfl (r_eql rfl rfl) ?_
                    refine qdg rfl rfl rfl rfl rfl rfl (r_move (v := (.bool (decide (((ps.getD m default).a : Int) = ((ps.getD ((m : Int) - 1).toNat default).a))))) rfl) ?_
                    refine qbd (p := ((ps.getD m default).a : Int) = ((ps.getD ((m : Int) - 1).toNat default).a)) (t := 84) rfl (fun h142 => ?_) (fun h142 => ?_)
                    · skip
                      refine qdg rfl rfl rfl rfl rfl rfl (r_fldp (k := 1) rfl Try.underlying71 rfl nz3 rfl) ?_
                      refine qdg rfl rfl rfl rfl rfl rfl (r_ldp1 (u := (.int .i64 ((ps.getD m default).b))) ag3 rfl ((Pins.of_le hX138.pins hle137) _ _ _ (hbp109 1 _ rfl))) ?_
                      refine qdg rfl rfl rfl rfl rfl rfl (r_fldp (k := 1) rfl Try.underlying71 rfl nz3 rfl) ?_
                      refine qdg rfl rfl rfl rfl rfl rfl (r_ldp1 (u := (.int .i64 ((ps.getD ((m : Int) - 1).toNat default).b))) ag3 rfl (hX138.pins _ _ _ (hbp139 1 _ rfl))) ?_
                      refine qdg rfl rfl rfl rfl rfl rfl (r_leq rfl rfl) ?_
                      refine qdg rfl rfl rfl rfl rfl rfl (r_pickT (v := (.bool (decide (((ps.getD m default).b : Int) ≤ ((ps.getD ((m : Int) - 1).toNat default).b))))) rfl rfl) ?_
                      refine qd rfl rfl rfl (r_pickF (v := (.bool (decide (((ps.getD m default).b : Int) ≤ ((ps.getD ((m : Int) - 1).toNat default).b))))) rfl rfl) ?_
                      refine qe ?_
                      refine s_then ?_
                      refine c_ifd (p := ((ps.getD m default).b : Int) ≤ ((ps.getD ((m : Int) - 1).toNat default).b)) rfl rfl (fun h143 => ?_) (fun h143 => ?_)
                      · skip
                        refine s_seq ?_
                        refine c_reg ?_
                        refine qd rfl rfl rfl (r_assign (v := (.bool false)) rfl) ?_
                        refine qd rfl rfl rfl (r_assign (v := (.bool true)) rfl) ?_
                        refine qe ?_
                        refine s_then ?_
                        refine wp_ret ?_
                        refine s_ret ?_
                        refine c_ret2 (v := (.bool false)) (u := (.bool true)) rfl rfl rfl rfl rfl ?_
                        obtain ⟨e1, e2⟩ := @cp_no ns bs ps h44 h49 (fun g => by have a := g.st m (by omega) (by omega); unfold AheadP at a; rw [show m - 1 = ((m : Int) - 1).toNat by omega] at a; omega)
                        exact ⟨_, by rw [e1, e2], hX138⟩
                      · skip
                        refine wp_skip ?_
                        refine s_then ?_
                        refine s_seq ?_
                        refine c_reg ?_
                        refine qd rfl rfl rfl (r_ldpA (cs := [u]) ag38 sz38 rfl (fun j u hj => (Pins.of_le hX138.pins (Pin.le_trans (Pin.le_trans (Pin.le_trans (Pin.le_trans hx42.le hx47.le) hlek77) hle107) hle137)) _ _ _ (hbp38 _ _ (by simpa using hj)))) ?_
                        refine qd rfl rfl rfl (r_move (v := (.int .i64 (m : Int))) rfl) ?_
                        refine qd rfl rfl rfl (r_fldp (k := 0) rfl Try.underlying34 rfl nz32 rfl) ?_
                        refine qd rfl rfl rfl (r_ldp1 (u := v) ag32 rfl ((Pins.of_le hX138.pins (Pin.le_trans (Pin.le_trans (Pin.le_trans (Pin.le_trans (Pin.le_trans (Pin.le_trans hle23 hle36) hx42.le) hx47.le) hlek77) hle107) hle137)) _ _ _ (hbp12 0 _ rfl))) ?_
                        refine qd rfl rfl rfl (r_fldp (k := 0) rfl Try.underlying34 rfl nz32 rfl) ?_
                        refine qd rfl rfl rfl (r_ldp1 (u := x) ag32 rfl ((Pins.of_le hX138.pins (Pin.le_trans (Pin.le_trans (Pin.le_trans (Pin.le_trans (Pin.le_trans hle36 hx42.le) hx47.le) hlek77) hle107) hle137)) _ _ _ (hbp25 0 _ rfl))) ?_
                        refine q1 rfl rfl rfl (o_call (vs := [(.agg [u].toArray), (.int .i64 (m : Int)), v, x]) Try.func36 nm36 rfl rfl rfl ?_)
                        refine Calls.mono (right_spec hX138.pins (hu.mono (Pin.le_trans (Pin.le_trans (Pin.le_trans (Pin.le_trans (Pin.le_trans (Pin.le_trans (Pin.le_trans hle10 hle23) hle36) hx42.le) hx47.le) hlek77) hle107) hle137)) (ha.mono (Pin.le_trans (Pin.le_trans (Pin.le_trans (Pin.le_trans (Pin.le_trans (Pin.le_trans (Pin.le_trans hle10 hle23) hle36) hx42.le) hx47.le) hlek77) hle107) hle137)) (hb.mono (Pin.le_trans (Pin.le_trans (Pin.le_trans (Pin.le_trans (Pin.le_trans (Pin.le_trans (Pin.le_trans hle10 hle23) hle36) hx42.le) hx47.le) hlek77) hle107) hle137)) (by omega) hga hgb) ?_
                        rintro _ w145 ⟨G144, rfl, hx146⟩
                        refine ⟨_, rfl, ?_⟩
                        have hX147 := hX138.tr hx146
                        refine qd rfl rfl rfl (r_not rfl) ?_
                        refine qe ?_
                        refine s_then ?_
                        refine c_ifn rfl rfl (fun h148 => ?_) (fun h148 => ?_)
                        · skip
                          refine wp_skip ?_
                          refine s_blkN ?_
                          refine s_then ?_
                          refine c_reg ?_
                          refine qd rfl rfl rfl (r_add rfl rfl (by omega)) ?_
                          refine qd rfl rfl rfl (r_move (v := (.int .i64 ((m : Int) + 1))) rfl) ?_
                          refine qe ?_
                          refine s_lopN ?_
                          refine ⟨_, ?_, _, rfl, _, m + 1, G144, (packS (x := 60) (packS (x := 59) (packS (x := 58) (packS (x := 5) (packS (x := 4) (pack1 (x := 3) rfl) rfl) rfl) rfl) rfl) rfl), rfl, hX147, (Pin.le_trans (Pin.le_trans (Pin.le_trans hlek77 hle107) hle137) hx146.le), (by omega), (fun q hq => if h3 : q = m then h3 ▸ decP_true.1 h148 else hok q (by omega)), (fun q h1 h2 => if h3 : q = m then h3 ▸ (by unfold AheadP; rw [show m - 1 = ((m : Int) - 1).toNat by omega]; omega) else hst q h1 (by omega))⟩
                          omega
                        · skip
                          refine s_seq ?_
                          refine c_reg ?_
                          refine qd rfl rfl rfl (r_assign (v := (.bool false)) rfl) ?_
                          refine qd rfl rfl rfl (r_assign (v := (.bool true)) rfl) ?_
                          refine qe ?_
                          refine s_then ?_
                          refine wp_ret ?_
                          refine s_ret ?_
                          refine c_ret2 (v := (.bool false)) (u := (.bool true)) rfl rfl rfl rfl rfl ?_
                          obtain ⟨e1, e2⟩ := @cp_no ns bs ps h44 h49 (fun g => decP_false.1 h148 (g.ok m (by omega)))
                          exact ⟨_, by rw [e1, e2], hX147⟩
                    · skip
                      refine qs rfl rfl rfl rfl rfl rfl ?_
                      refine qs rfl rfl rfl rfl rfl rfl ?_
                      refine qs rfl rfl rfl rfl rfl rfl ?_
                      refine qs rfl rfl rfl rfl rfl rfl ?_
                      refine qs rfl rfl rfl rfl rfl rfl ?_
                      refine qdg rfl rfl rfl rfl rfl rfl (r_pickF (v := (.bool false)) rfl rfl) ?_
                      refine qd rfl rfl rfl (r_pickF (v := (.bool false)) rfl rfl) ?_
                      refine qe ?_
                      refine s_then ?_
                      refine c_ifF rfl rfl ?_
                      refine wp_skip ?_
                      refine s_then ?_
                      refine s_seq ?_
                      refine c_reg ?_
                      refine qd rfl rfl rfl (r_ldpA (cs := [u]) ag38 sz38 rfl (fun j u hj => (Pins.of_le hX138.pins (Pin.le_trans (Pin.le_trans (Pin.le_trans (Pin.le_trans hx42.le hx47.le) hlek77) hle107) hle137)) _ _ _ (hbp38 _ _ (by simpa using hj)))) ?_
                      refine qd rfl rfl rfl (r_move (v := (.int .i64 (m : Int))) rfl) ?_
                      refine qd rfl rfl rfl (r_fldp (k := 0) rfl Try.underlying34 rfl nz32 rfl) ?_
                      refine qd rfl rfl rfl (r_ldp1 (u := v) ag32 rfl ((Pins.of_le hX138.pins (Pin.le_trans (Pin.le_trans (Pin.le_trans (Pin.le_trans (Pin.le_trans (Pin.le_trans hle23 hle36) hx42.le) hx47.le) hlek77) hle107) hle137)) _ _ _ (hbp12 0 _ rfl))) ?_
                      refine qd rfl rfl rfl (r_fldp (k := 0) rfl Try.underlying34 rfl nz32 rfl) ?_
                      refine qd rfl rfl rfl (r_ldp1 (u := x) ag32 rfl ((Pins.of_le hX138.pins (Pin.le_trans (Pin.le_trans (Pin.le_trans (Pin.le_trans (Pin.le_trans hle36 hx42.le) hx47.le) hlek77) hle107) hle137)) _ _ _ (hbp25 0 _ rfl))) ?_
                      refine q1 rfl rfl rfl (o_call (vs := [(.agg [u].toArray), (.int .i64 (m : Int)), v, x]) Try.func36 nm36 rfl rfl rfl ?_)
                      refine Calls.mono (right_spec hX138.pins (hu.mono (Pin.le_trans (Pin.le_trans (Pin.le_trans (Pin.le_trans (Pin.le_trans (Pin.le_trans (Pin.le_trans hle10 hle23) hle36) hx42.le) hx47.le) hlek77) hle107) hle137)) (ha.mono (Pin.le_trans (Pin.le_trans (Pin.le_trans (Pin.le_trans (Pin.le_trans (Pin.le_trans (Pin.le_trans hle10 hle23) hle36) hx42.le) hx47.le) hlek77) hle107) hle137)) (hb.mono (Pin.le_trans (Pin.le_trans (Pin.le_trans (Pin.le_trans (Pin.le_trans (Pin.le_trans (Pin.le_trans hle10 hle23) hle36) hx42.le) hx47.le) hlek77) hle107) hle137)) (by omega) hga hgb) ?_
                      rintro _ w150 ⟨G149, rfl, hx151⟩
                      refine ⟨_, rfl, ?_⟩
                      have hX152 := hX138.tr hx151
                      refine qd rfl rfl rfl (r_not rfl) ?_
                      refine qe ?_
                      refine s_then ?_
                      refine c_ifn rfl rfl (fun h153 => ?_) (fun h153 => ?_)
                      · skip
                        refine wp_skip ?_
                        refine s_blkN ?_
                        refine s_then ?_
                        refine c_reg ?_
                        refine qd rfl rfl rfl (r_add rfl rfl (by omega)) ?_
                        refine qd rfl rfl rfl (r_move (v := (.int .i64 ((m : Int) + 1))) rfl) ?_
                        refine qe ?_
                        refine s_lopN ?_
                        refine ⟨_, ?_, _, rfl, _, m + 1, G149, (packS (x := 60) (packS (x := 59) (packS (x := 58) (packS (x := 5) (packS (x := 4) (pack1 (x := 3) rfl) rfl) rfl) rfl) rfl) rfl), rfl, hX152, (Pin.le_trans (Pin.le_trans (Pin.le_trans hlek77 hle107) hle137) hx151.le), (by omega), (fun q hq => if h3 : q = m then h3 ▸ decP_true.1 h153 else hok q (by omega)), (fun q h1 h2 => if h3 : q = m then h3 ▸ (by unfold AheadP; rw [show m - 1 = ((m : Int) - 1).toNat by omega]; omega) else hst q h1 (by omega))⟩
                        omega
                      · skip
                        refine s_seq ?_
                        refine c_reg ?_
                        refine qd rfl rfl rfl (r_assign (v := (.bool false)) rfl) ?_
                        refine qd rfl rfl rfl (r_assign (v := (.bool true)) rfl) ?_
                        refine qe ?_
                        refine s_then ?_
                        refine wp_ret ?_
                        refine s_ret ?_
                        refine c_ret2 (v := (.bool false)) (u := (.bool true)) rfl rfl rfl rfl rfl ?_
                        obtain ⟨e1, e2⟩ := @cp_no ns bs ps h44 h49 (fun g => decP_false.1 h153 (g.ok m (by omega)))
                        exact ⟨_, by rw [e1, e2], hX152⟩
                · skip
                  refine wp_skip ?_
                  refine s_then ?_
                  refine s_seq ?_
                  refine c_reg ?_
                  refine qd rfl rfl rfl (r_ldpA (cs := [u]) ag38 sz38 rfl (fun j u hj => (Pins.of_le hX108.pins (Pin.le_trans (Pin.le_trans (Pin.le_trans hx42.le hx47.le) hlek77) hle107)) _ _ _ (hbp38 _ _ (by simpa using hj)))) ?_
                  refine qd rfl rfl rfl (r_move (v := (.int .i64 (m : Int))) rfl) ?_
                  refine qd rfl rfl rfl (r_fldp (k := 0) rfl Try.underlying34 rfl nz32 rfl) ?_
                  refine qd rfl rfl rfl (r_ldp1 (u := v) ag32 rfl ((Pins.of_le hX108.pins (Pin.le_trans (Pin.le_trans (Pin.le_trans (Pin.le_trans (Pin.le_trans hle23 hle36) hx42.le) hx47.le) hlek77) hle107)) _ _ _ (hbp12 0 _ rfl))) ?_
                  refine qd rfl rfl rfl (r_fldp (k := 0) rfl Try.underlying34 rfl nz32 rfl) ?_
                  refine qd rfl rfl rfl (r_ldp1 (u := x) ag32 rfl ((Pins.of_le hX108.pins (Pin.le_trans (Pin.le_trans (Pin.le_trans (Pin.le_trans hle36 hx42.le) hx47.le) hlek77) hle107)) _ _ _ (hbp25 0 _ rfl))) ?_
                  refine q1 rfl rfl rfl (o_call (vs := [(.agg [u].toArray), (.int .i64 (m : Int)), v, x]) Try.func36 nm36 rfl rfl rfl ?_)
                  refine Calls.mono (right_spec hX108.pins (hu.mono (Pin.le_trans (Pin.le_trans (Pin.le_trans (Pin.le_trans (Pin.le_trans (Pin.le_trans hle10 hle23) hle36) hx42.le) hx47.le) hlek77) hle107)) (ha.mono (Pin.le_trans (Pin.le_trans (Pin.le_trans (Pin.le_trans (Pin.le_trans (Pin.le_trans hle10 hle23) hle36) hx42.le) hx47.le) hlek77) hle107)) (hb.mono (Pin.le_trans (Pin.le_trans (Pin.le_trans (Pin.le_trans (Pin.le_trans (Pin.le_trans hle10 hle23) hle36) hx42.le) hx47.le) hlek77) hle107)) (by omega) hga hgb) ?_
                  rintro _ w155 ⟨G154, rfl, hx156⟩
                  refine ⟨_, rfl, ?_⟩
                  have hX157 := hX108.tr hx156
                  refine qd rfl rfl rfl (r_not rfl) ?_
                  refine qe ?_
                  refine s_then ?_
                  refine c_ifn rfl rfl (fun h158 => ?_) (fun h158 => ?_)
                  · skip
                    refine wp_skip ?_
                    refine s_blkN ?_
                    refine s_then ?_
                    refine c_reg ?_
                    refine qd rfl rfl rfl (r_add rfl rfl (by omega)) ?_
                    refine qd rfl rfl rfl (r_move (v := (.int .i64 ((m : Int) + 1))) rfl) ?_
                    refine qe ?_
                    refine s_lopN ?_
                    refine ⟨_, ?_, _, rfl, _, m + 1, G154, (packS (x := 60) (packS (x := 59) (packS (x := 58) (packS (x := 5) (packS (x := 4) (pack1 (x := 3) rfl) rfl) rfl) rfl) rfl) rfl), rfl, hX157, (Pin.le_trans (Pin.le_trans hlek77 hle107) hx156.le), (by omega), (fun q hq => if h3 : q = m then h3 ▸ decP_true.1 h158 else hok q (by omega)), (fun q h1 h2 => if h3 : q = m then h3 ▸ (by unfold AheadP; rw [show m - 1 = ((m : Int) - 1).toNat by omega]; omega) else hst q h1 (by omega))⟩
                    omega
                  · skip
                    refine s_seq ?_
                    refine c_reg ?_
                    refine qd rfl rfl rfl (r_assign (v := (.bool false)) rfl) ?_
                    refine qd rfl rfl rfl (r_assign (v := (.bool true)) rfl) ?_
                    refine qe ?_
                    refine s_then ?_
                    refine wp_ret ?_
                    refine s_ret ?_
                    refine c_ret2 (v := (.bool false)) (u := (.bool true)) rfl rfl rfl rfl rfl ?_
                    obtain ⟨e1, e2⟩ := @cp_no ns bs ps h44 h49 (fun g => decP_false.1 h158 (g.ok m (by omega)))
                    exact ⟨_, by rw [e1, e2], hX157⟩
              · skip
                refine wp_exit ?_
                refine s_thenE ?_
                refine s_lopE ?_
                refine s_blkE ?_
                refine s_then ?_
                refine s_seq ?_
                refine c_reg ?_
                refine qd rfl rfl rfl (r_assign (v := (.bool true)) rfl) ?_
                refine qd rfl rfl rfl (r_assign (v := (.bool true)) rfl) ?_
                refine qe ?_
                refine s_then ?_
                refine wp_ret ?_
                refine s_ret ?_
                refine c_ret2 (v := (.bool true)) (u := (.bool true)) rfl rfl rfl rfl rfl ?_
                obtain ⟨e1, e2⟩ := @cp_yes ns bs ps h44 h49 ⟨⟨by omega, by omega⟩, (by rw [show ps.length - 1 = ((ps.length : Int) - 1).toNat by omega]; omega), (by rw [show ps.length - 1 = ((ps.length : Int) - 1).toNat by omega]; omega), fun q h1 h2 => hst q h1 (by omega), fun q hq => hok q (by omega)⟩
                exact ⟨_, by rw [e1, e2], hX80⟩
    · skip
      refine s_seq ?_
      refine c_reg ?_
      refine qd rfl rfl rfl (r_assign (v := (.bool false)) rfl) ?_
      refine qd rfl rfl rfl (r_assign (v := (.bool false)) rfl) ?_
      refine qe ?_
      refine s_then ?_
      refine wp_ret ?_
      refine s_ret ?_
      refine c_ret2 (v := (.bool false)) (u := (.bool false)) rfl rfl rfl rfl rfl ?_
      obtain ⟨e1, e2⟩ := @cp_bad ns bs ps (Or.inr h49)
      exact ⟨_, by rw [e1, e2], hX48⟩
  · skip
    refine qs rfl rfl rfl rfl rfl rfl ?_
    refine qs rfl rfl rfl rfl rfl rfl ?_
    refine qs rfl rfl rfl rfl rfl rfl ?_
    refine qd rfl rfl rfl (r_pickT (v := (.bool true)) rfl rfl) ?_
    refine qe ?_
    refine s_then ?_
    refine c_ifT rfl rfl ?_
    refine s_seq ?_
    refine c_reg ?_
    refine qd rfl rfl rfl (r_assign (v := (.bool false)) rfl) ?_
    refine qd rfl rfl rfl (r_assign (v := (.bool false)) rfl) ?_
    refine qe ?_
    refine s_then ?_
    refine wp_ret ?_
    refine s_ret ?_
    refine c_ret2 (v := (.bool false)) (u := (.bool false)) rfl rfl rfl rfl rfl ?_
    obtain ⟨e1, e2⟩ := @cp_bad ns bs ps (Or.inl h44)
    exact ⟨_, by rw [e1, e2], hX43⟩

theorem sCheckProof_spec {w : World} {G : Pin} {u v x : Value} {ps : List Cl} {ns bs : List Nd} (hP : Pins G w) (ha : RSl eNode G v ns) (hb : RSl eNode G x bs) (hu : RSl eClaim G u ps) :
    Calls Try.prog 8 [(.agg [v].toArray), (.agg [x].toArray), (.agg [u].toArray)].toArray w fun e w' => ∃ G', e = .returned (.tuple #[.bool (cpB ns bs ps), .bool (goodB ns && goodB bs)]) ∧ Ext noS G w G' w' := by
  refine s_enter (n := 108) Try.func8 Try.ntmps8 rfl rfl ?_
  have hX0 : Ext noS G w G w := Ext.refl hP
  have hmu := hu.max
  have hma := ha.max
  have hmb := hb.max
  refine s_seq ?_
  refine c_reg ?_
  refine q1 rfl rfl rfl (o_box [v] (v := (.agg [v].toArray)) rfl rfl hX0.pins (fun b1 w2 hk3 hb4 hp5 hl6 => ?_))
  have hX7 := hX0.step hp5 hl6
  have hlo8 : w.heap.size ≤ b1 := by have := hX0.size; omega
  obtain ⟨G9, hle10, hX11, hbp12, hf13⟩ := hb4.shut hX7 hlo8
  refine q1 rfl rfl rfl (o_box [x] (v := (.agg [x].toArray)) rfl rfl hX11.pins (fun b14 w15 hk16 hb17 hp18 hl19 => ?_))
  have hX20 := hX11.step hp18 hl19
  have hlo21 : w.heap.size ≤ b14 := by have := hX11.size; omega
  obtain ⟨G22, hle23, hX24, hbp25, hf26⟩ := hb17.shut hX20 hlo21
  refine q1 rfl rfl rfl (o_box [u] (v := (.agg [u].toArray)) rfl rfl hX24.pins (fun b27 w28 hk29 hb30 hp31 hl32 => ?_))
  have hX33 := hX24.step hp31 hl32
  have hlo34 : w.heap.size ≤ b27 := by have := hX24.size; omega
  obtain ⟨G35, hle36, hX37, hbp38, hf39⟩ := hb30.shut hX33 hlo34
  refine qd rfl rfl rfl (r_assign (v := (.bool false)) rfl) ?_
  refine qd rfl rfl rfl (r_assign (v := (.bool false)) rfl) ?_
  refine qe ?_
  refine s_then ?_
  refine s_seq ?_
  refine s_seq ?_
  refine c_reg ?_
  refine qd rfl rfl rfl (r_ldpA (cs := [v]) ag34 sz34 rfl (fun j u hj => (Pins.of_le hX37.pins (Pin.le_trans hle23 hle36)) _ _ _ (hbp12 _ _ (by simpa using hj)))) ?_
  refine q1 rfl rfl rfl (o_call (vs := [(.agg [v].toArray)]) Try.func29 nm29 rfl rfl rfl ?_)
  refine Calls.mono (l3Good_spec hX37.pins (ha.mono (Pin.le_trans (Pin.le_trans hle10 hle23) hle36))) ?_
  rintro _ w41 ⟨G40, rfl, hx42⟩
  refine ⟨_, rfl, ?_⟩
  have hX43 := hX37.tr hx42
  refine qd rfl rfl rfl (r_not rfl) ?_
  refine qd rfl rfl rfl (r_move (v := (.bool (!(decP (GoodS ns))))) rfl) ?_
  refine qbn (t := 15) rfl (fun h44 => ?_) (fun h44 => ?_)
  · skip
    refine qdg rfl rfl rfl rfl rfl rfl (r_ldpA (cs := [x]) ag34 sz34 rfl (fun j u hj => (Pins.of_le hX43.pins (Pin.le_trans hle36 hx42.le)) _ _ _ (hbp25 _ _ (by simpa using hj)))) ?_
    refine q1g rfl rfl rfl rfl rfl rfl (o_call (vs := [(.agg [x].toArray)]) Try.func29 nm29 rfl rfl rfl ?_)
    refine Calls.mono (l3Good_spec hX43.pins (hb.mono (Pin.le_trans (Pin.le_trans (Pin.le_trans hle10 hle23) hle36) hx42.le))) ?_
    rintro _ w46 ⟨G45, rfl, hx47⟩
    refine ⟨_, rfl, ?_⟩
    have hX48 := hX43.tr hx47
    refine qdg rfl rfl rfl rfl rfl rfl (r_not rfl) ?_
    refine qd rfl rfl rfl (r_pickF (v := (.bool (!(decP (GoodS bs))))) rfl rfl) ?_
    refine qe ?_
    refine s_then ?_
    refine c_ifn rfl rfl (fun h49 => ?_) (fun h49 => ?_)
    · skip
      refine wp_skip ?_
      refine s_then ?_
      refine s_seq ?_
      refine c_reg ?_
      have hga : GoodP ns := goodB_true.1 ((good_eq ns).symm.trans h44)
      have hgb : GoodP bs := goodB_true.1 ((good_eq bs).symm.trans h49)
      have hloa := hga.lo
      have hlob := hgb.lo
      refine qd rfl rfl rfl (r_fldp (k := 0) rfl Try.underlying38 rfl nz36 rfl) ?_
      refine qd rfl rfl rfl (r_ldp1 (u := u) ag36 rfl ((Pins.of_le hX48.pins (Pin.le_trans hx42.le hx47.le)) _ _ _ (hbp38 0 _ rfl))) ?_
      refine qd rfl rfl rfl (run_len Try.underlying36 (v := u) rfl hu) ?_
      refine qd rfl rfl rfl (r_assign (v := (.int .i64 (ps.length : Int))) rfl) ?_
      refine qe ?_
      refine s_then ?_
      refine s_seq ?_
      refine s_seq ?_
      refine c_draw (S := fun w => Pins G45 w) (last := 31) (by kernel_rfl) rfl ?_
      have hl50 : Below w46.heap.size w46 w46.drew := (Below.refl _ _).drew
      have hp51 := hX48.pins.below hl50
      have hX52 := hX48.step hp51 hl50
      refine dr_take (i := 0) rfl rfl rfl (want_none rfl _) (by kernel_rfl) (fun _ _ => r_move (v := (.int .i64 (ps.length : Int))) rfl) hX52.pins ?_
      refine dr_one (i := 1) (by kernel_rfl) (drOp1 (i := 1) rfl rfl rfl (want_none rfl _) (o_call (vs := [(.int .i64 (ps.length : Int)), (.int .i64 1), (.int .i64 200)]) Try.func30 nm30 rfl rfl rfl ?_))
      refine Calls.mono (l1In_spec hX52.pins) ?_
      rintro _ _ ⟨rfl, rfl⟩
      refine ⟨_, rfl, ?_⟩
      refine ⟨fun _ => hX52.pins, ?_⟩
      refine dr_take (i := 2) rfl rfl rfl (want_none rfl _) (by kernel_rfl) (fun _ _ => r_not rfl) hX52.pins ?_
      refine dr_take (i := 3) rfl rfl rfl (want_none rfl _) (by kernel_rfl) (fun _ _ => r_move (v := (.bool (!(decide ((1 : Int) ≤ (ps.length : Int) ∧ ((ps.length : Int) : Int) ≤ 200))))) rfl) hX52.pins ?_
      refine drbn (t := 26) rfl (fun h53 => ?_) (fun h53 => ?_)
      · skip
        replace h53 := of_decide_eq_true h53
        refine dr_take (i := 4) rfl rfl rfl (want_yes rfl rfl rfl rfl) (by kernel_rfl) (fun _ _ => r_fldp (k := 0) rfl Try.underlying38 rfl nz36 rfl) hX52.pins ?_
        refine dr_take (i := 5) rfl rfl rfl (want_yes rfl rfl rfl rfl) (by kernel_rfl) (fun _ hS => r_ldp1 (u := u) ag36 rfl ((Pins.of_le hS (Pin.le_trans hx42.le hx47.le)) _ _ _ (hbp38 0 _ rfl))) hX52.pins ?_
        refine dr_take (i := 6) rfl rfl rfl (want_yes rfl rfl rfl rfl) (by kernel_rfl) (fun _ _ => r_move (v := (.int .i64 (ps.length : Int))) rfl) hX52.pins ?_
        refine dr_take (i := 7) rfl rfl rfl (want_yes rfl rfl rfl rfl) (by kernel_rfl) (fun _ _ => r_sub rfl rfl (by omega)) hX52.pins ?_
        refine dr_take (i := 8) rfl rfl rfl (want_yes rfl rfl rfl rfl) (by kernel_rfl) (fun _ _ => run_idx Try.underlying36 sz71 (v := u) rfl rfl hu (by omega) (by omega)) hX52.pins ?_
        refine dr_take (i := 9) rfl rfl rfl (want_yes rfl rfl rfl rfl) (by kernel_rfl) (fun _ _ => run_fld (off := 0) Try.underlying71 rfl rfl nz3 (z := ((ps.length : Int) - 1)) (k := 0) rfl hu (by omega) (by omega)) hX52.pins ?_
        obtain ⟨cs54, hrep55, hagg56, hcell57⟩ := nm_el (j := ((ps.length : Int) - 1).toNat) default (hu.at (z := ((ps.length : Int) - 1)) (by omega) (by omega)) rfl
        obtain ⟨u58, u60, rfl, hr59, hr61⟩ := hrep55
        have hm62 := hr59.max
        have hm63 := hr61.max
        refine dr_take (i := 10) rfl rfl rfl (want_yes rfl rfl rfl rfl) (by kernel_rfl) (fun _ hS => hcell57 0 _ rfl ag3 rfl (Pins.of_le hS (Pin.le_trans (Pin.le_trans (Pin.le_trans (Pin.le_trans hle10 hle23) hle36) hx42.le) hx47.le))) hX52.pins ?_
        refine dr_take (i := 11) rfl rfl rfl (want_yes rfl rfl rfl rfl) (by kernel_rfl) (fun _ _ => r_fldp (k := 0) rfl Try.underlying34 rfl nz32 rfl) hX52.pins ?_
        refine dr_take (i := 12) rfl rfl rfl (want_yes rfl rfl rfl rfl) (by kernel_rfl) (fun _ hS => r_ldp1 (u := v) ag32 rfl ((Pins.of_le hS (Pin.le_trans (Pin.le_trans (Pin.le_trans hle23 hle36) hx42.le) hx47.le)) _ _ _ (hbp12 0 _ rfl))) hX52.pins ?_
        refine dr_take (i := 13) rfl rfl rfl (want_yes rfl rfl rfl rfl) (by kernel_rfl) (fun _ _ => run_len Try.underlying32 (v := v) rfl ha) hX52.pins ?_
        refine dr_take (i := 14) rfl rfl rfl (want_yes rfl rfl rfl rfl) (by kernel_rfl) (fun _ _ => r_sub rfl rfl (by omega)) hX52.pins ?_
        refine dr_take (i := 15) rfl rfl rfl (want_yes rfl rfl rfl rfl) (by kernel_rfl) (fun _ _ => r_neq rfl rfl) hX52.pins ?_
        refine dr_take (i := 16) rfl rfl rfl (want_none rfl _) (by kernel_rfl) (fun _ _ => r_pickF (v := (.bool (decide (((ps.getD ((ps.length : Int) - 1).toNat default).a : Int) ≠ ((ns.length : Int) - 1))))) rfl rfl) hX52.pins ?_
        refine dr_take (i := 17) rfl rfl rfl (want_none rfl _) (by kernel_rfl) (fun _ _ => r_move (v := (.bool (decide (((ps.getD ((ps.length : Int) - 1).toNat default).a : Int) ≠ ((ns.length : Int) - 1))))) rfl) hX52.pins ?_
        refine drbd (p := ((ps.getD ((ps.length : Int) - 1).toNat default).a : Int) ≠ ((ns.length : Int) - 1)) (t := 40) rfl (fun h64 => ?_) (fun h64 => ?_)
        · skip
          refine dr_skip (i := 18) rfl rfl (want_no rfl rfl rfl rfl rfl) (by kernel_rfl) hX52.pins ?_
          refine dr_skip (i := 19) rfl rfl (want_no rfl rfl rfl rfl rfl) (by kernel_rfl) hX52.pins ?_
          refine dr_skip (i := 20) rfl rfl (want_no rfl rfl rfl rfl rfl) (by kernel_rfl) hX52.pins ?_
          refine dr_skip (i := 21) rfl rfl (want_no rfl rfl rfl rfl rfl) (by kernel_rfl) hX52.pins ?_
          refine dr_skip (i := 22) rfl rfl (want_no rfl rfl rfl rfl rfl) (by kernel_rfl) hX52.pins ?_
          refine dr_skip (i := 23) rfl rfl (want_no rfl rfl rfl rfl rfl) (by kernel_rfl) hX52.pins ?_
          refine dr_skip (i := 24) rfl rfl (want_no rfl rfl rfl rfl rfl) (by kernel_rfl) hX52.pins ?_
          refine dr_skip (i := 25) rfl rfl (want_no rfl rfl rfl rfl rfl) (by kernel_rfl) hX52.pins ?_
          refine dr_skip (i := 26) rfl rfl (want_no rfl rfl rfl rfl rfl) (by kernel_rfl) hX52.pins ?_
          refine dr_skip (i := 27) rfl rfl (want_no rfl rfl rfl rfl rfl) (by kernel_rfl) hX52.pins ?_
          refine dr_skip (i := 28) rfl rfl (want_no rfl rfl rfl rfl rfl) (by kernel_rfl) hX52.pins ?_
          refine dr_skip (i := 29) rfl rfl (want_no rfl rfl rfl rfl rfl) (by kernel_rfl) hX52.pins ?_
          refine dr_take (i := 30) rfl rfl rfl (want_none rfl _) (by kernel_rfl) (fun _ _ => r_pickT (v := (.bool true)) rfl rfl) hX52.pins ?_
          refine dr_end (by kernel_rfl) ?_
          refine s_then ?_
          refine c_ifT rfl rfl ?_
          refine s_seq ?_
          refine c_reg ?_
          refine qd rfl rfl rfl (r_assign (v := (.bool false)) rfl) ?_
          refine qd rfl rfl rfl (r_assign (v := (.bool true)) rfl) ?_
          refine qe ?_
          refine s_then ?_
          refine wp_ret ?_
          refine s_ret ?_
          refine c_ret2 (v := (.bool false)) (u := (.bool true)) rfl rfl rfl rfl rfl ?_
          obtain ⟨e1, e2⟩ := @cp_no ns bs ps ((good_eq ns).symm.trans h44) ((good_eq bs).symm.trans h49) (fun g => by have h1 := g.n; have h2 := g.la; have h3 := g.lb; rw [show ps.length - 1 = ((ps.length : Int) - 1).toNat by omega] at h2 h3; omega)
          exact ⟨_, by rw [e1, e2], hX52⟩
        · skip
          refine dr_take (i := 18) rfl rfl rfl (want_yes rfl rfl rfl rfl) (by kernel_rfl) (fun _ _ => r_fldp (k := 0) rfl Try.underlying38 rfl nz36 rfl) hX52.pins ?_
          refine dr_take (i := 19) rfl rfl rfl (want_yes rfl rfl rfl rfl) (by kernel_rfl) (fun _ hS => r_ldp1 (u := u) ag36 rfl ((Pins.of_le hS (Pin.le_trans hx42.le hx47.le)) _ _ _ (hbp38 0 _ rfl))) hX52.pins ?_
          refine dr_take (i := 20) rfl rfl rfl (want_yes rfl rfl rfl rfl) (by kernel_rfl) (fun _ _ => r_move (v := (.int .i64 (ps.length : Int))) rfl) hX52.pins ?_
          refine dr_take (i := 21) rfl rfl rfl (want_yes rfl rfl rfl rfl) (by kernel_rfl) (fun _ _ => r_sub rfl rfl (by omega)) hX52.pins ?_
          refine dr_take (i := 22) rfl rfl rfl (want_yes rfl rfl rfl rfl) (by kernel_rfl) (fun _ _ => run_idx Try.underlying36 sz71 (v := u) rfl rfl hu (by omega) (by omega)) hX52.pins ?_
          refine dr_take (i := 23) rfl rfl rfl (want_yes rfl rfl rfl rfl) (by kernel_rfl) (fun _ _ => run_fld (off := 1) Try.underlying71 rfl rfl nz3 (z := ((ps.length : Int) - 1)) (k := 0) rfl hu (by omega) (by omega)) hX52.pins ?_
          obtain ⟨cs65, hrep66, hagg67, hcell68⟩ := nm_el (j := ((ps.length : Int) - 1).toNat) default (hu.at (z := ((ps.length : Int) - 1)) (by omega) (by omega)) rfl
          obtain ⟨u69, u71, rfl, hr70, hr72⟩ := hrep66
          have hm73 := hr70.max
          have hm74 := hr72.max
          refine dr_take (i := 24) rfl rfl rfl (want_yes rfl rfl rfl rfl) (by kernel_rfl) (fun _ hS => hcell68 1 _ rfl ag3 rfl (Pins.of_le hS (Pin.le_trans (Pin.le_trans (Pin.le_trans (Pin.le_trans hle10 hle23) hle36) hx42.le) hx47.le))) hX52.pins ?_
          refine dr_take (i := 25) rfl rfl rfl (want_yes rfl rfl rfl rfl) (by kernel_rfl) (fun _ _ => r_fldp (k := 0) rfl Try.underlying34 rfl nz32 rfl) hX52.pins ?_
          refine dr_take (i := 26) rfl rfl rfl (want_yes rfl rfl rfl rfl) (by kernel_rfl) (fun _ hS => r_ldp1 (u := x) ag32 rfl ((Pins.of_le hS (Pin.le_trans (Pin.le_trans hle36 hx42.le) hx47.le)) _ _ _ (hbp25 0 _ rfl))) hX52.pins ?_
          refine dr_take (i := 27) rfl rfl rfl (want_yes rfl rfl rfl rfl) (by kernel_rfl) (fun _ _ => run_len Try.underlying32 (v := x) rfl hb) hX52.pins ?_
          refine dr_take (i := 28) rfl rfl rfl (want_yes rfl rfl rfl rfl) (by kernel_rfl) (fun _ _ => r_sub rfl rfl (by omega)) hX52.pins ?_
          refine dr_take (i := 29) rfl rfl rfl (want_yes rfl rfl rfl rfl) (by kernel_rfl) (fun _ _ => r_neq rfl rfl) hX52.pins ?_
          refine dr_take (i := 30) rfl rfl rfl (want_none rfl _) (by kernel_rfl) (fun _ _ => r_pickF (v := (.bool (decide (((ps.getD ((ps.length : Int) - 1).toNat default).b : Int) ≠ ((bs.length : Int) - 1))))) rfl rfl) hX52.pins ?_
          refine dr_end (by kernel_rfl) ?_
          refine s_then ?_
          refine c_ifd (p := ((ps.getD ((ps.length : Int) - 1).toNat default).b : Int) ≠ ((bs.length : Int) - 1)) rfl rfl (fun h75 => ?_) (fun h75 => ?_)
          · skip
            refine s_seq ?_
            refine c_reg ?_
            refine qd rfl rfl rfl (r_assign (v := (.bool false)) rfl) ?_
            refine qd rfl rfl rfl (r_assign (v := (.bool true)) rfl) ?_
            refine qe ?_
            refine s_then ?_
            refine wp_ret ?_
            refine s_ret ?_
            refine c_ret2 (v := (.bool false)) (u := (.bool true)) rfl rfl rfl rfl rfl ?_
            obtain ⟨e1, e2⟩ := @cp_no ns bs ps ((good_eq ns).symm.trans h44) ((good_eq bs).symm.trans h49) (fun g => by have h1 := g.n; have h2 := g.la; have h3 := g.lb; rw [show ps.length - 1 = ((ps.length : Int) - 1).toNat by omega] at h2 h3; omega)
            exact ⟨_, by rw [e1, e2], hX52⟩
          · skip
            refine wp_skip ?_
            refine s_then ?_
            refine s_seq ?_
            refine s_seq ?_
            refine c_reg ?_
            refine qd rfl rfl rfl (r_assign (v := (.int .i64 0)) rfl) ?_
            refine qe ?_
            refine s_then ?_
            refine s_blk ?_
            refine s_loop (fun (k : Nat) (en : Nat → Value) (W : World) => ∃ (env1 : Nat → Value) (m : Nat) (GL1 : Pin), en = (upd (upd (upd (upd (upd env1 3 (.pointer (some ⟨b1, 0, none⟩))) 4 (.pointer (some ⟨b14, 0, none⟩))) 5 (.pointer (some ⟨b27, 0, none⟩))) 8 (.int .i64 (ps.length : Int))) 9 (.int .i64 (m : Int))) ∧ k = ps.length - m ∧ Ext noS G w GL1 W ∧ Pin.le G45 GL1 ∧ (m ≤ ps.length) ∧ (∀ q, q < m → (0 ≤ (ps.getD q default).a ∧ (ps.getD q default).a < ns.length) ∧ 0 ≤ (ps.getD q default).b ∧ (ps.getD q default).b < bs.length) ∧ (∀ q, 1 ≤ q → q < m → AheadP (ps.getD (q - 1) default) (ps.getD q default))) _ ⟨_, 0, G45, (packS (x := 9) (packS (x := 8) (packS (x := 5) (packS (x := 4) (pack1 (x := 3) rfl) rfl) rfl) rfl) rfl), rfl, hX52, Pin.le_refl _, Nat.zero_le _, (fun i hi => absurd hi (Nat.not_lt_zero i)), (fun q a b => absurd b (by omega))⟩ ?_
            rintro k76 _ w77 ⟨env1, m, GL1, rfl, hk78, hX79, hlek76, hk, hrg, hst⟩
            refine s_seq ?_
            refine s_seq ?_
            refine c_reg ?_
            refine qd rfl rfl rfl (r_move (v := (.int .i64 (m : Int))) rfl) ?_
            refine qd rfl rfl rfl (r_move (v := (.int .i64 (ps.length : Int))) rfl) ?_
            refine qd rfl rfl rfl (r_lss rfl rfl) ?_
            refine qe ?_
            refine s_then ?_
            refine c_ifd (p := ((m : Int) : Int) < (ps.length : Int)) rfl rfl (fun h80 => ?_) (fun h80 => ?_)
            · skip
              refine wp_skip ?_
              refine s_then ?_
              refine s_seq ?_
              refine s_blk ?_
              refine s_seq ?_
              refine c_reg ?_
              refine qd rfl rfl rfl (r_fldp (k := 0) rfl Try.underlying38 rfl nz36 rfl) ?_
              refine qd rfl rfl rfl (r_ldp1 (u := u) ag36 rfl ((Pins.of_le hX79.pins (Pin.le_trans (Pin.le_trans hx42.le hx47.le) hlek76)) _ _ _ (hbp38 0 _ rfl))) ?_
              refine qd rfl rfl rfl (r_move (v := (.int .i64 (m : Int))) rfl) ?_
              refine qd rfl rfl rfl (run_idx Try.underlying36 sz71 (v := u) rfl rfl hu (by omega) (by omega)) ?_
              obtain ⟨cs81, hrep82, hagg83, hcell84⟩ := nm_el (j := m) default (hu.at (z := (m : Int)) (by omega) (by omega)) rfl
              obtain ⟨u85, u87, rfl, hr86, hr88⟩ := hrep82
              have hm89 := hr86.max
              have hm90 := hr88.max
              refine qd rfl rfl rfl (hagg83 ag71 sz71 rfl (Pins.of_le hX79.pins (Pin.le_trans (Pin.le_trans (Pin.le_trans (Pin.le_trans (Pin.le_trans hle10 hle23) hle36) hx42.le) hx47.le) hlek76))) ?_
              refine q1 rfl rfl rfl (o_alloc [(.int .i64 0), (.int .i64 0), (.slice none 0 0), (.slice none 0 0)] zr71 rfl hX79.pins (fun b91 w92 hk93 hb94 hp95 hl96 => ?_))
              have hX97 := hX79.step hp95 hl96
              have hlo98 : w.heap.size ≤ b91 := by have := hX79.size; omega
              refine q0 rfl rfl rfl (o_stp (cs' := [(.int .i64 ((ps.getD m default).a)), (.int .i64 ((ps.getD m default).b)), u85, u87]) (us := [(.int .i64 ((ps.getD m default).a)), (.int .i64 ((ps.getD m default).b)), u85, u87]) (v := (.agg [(.int .i64 ((ps.getD m default).a)), (.int .i64 ((ps.getD m default).b)), u85, u87].toArray)) sz71 rfl rfl rfl (ones4 (by rfl) (by rfl) hr86.one hr88.one) hX97.pins hb94 (Nat.le_of_ble_eq_true rfl) rfl (fun w99 hb100 hp101 hg102 hz103 => ?_))
              have hX104 := hX97.write hp101 hg102 ((lo_box hlo98))
              obtain ⟨G105, hle106, hX107, hbp108, hf109⟩ := hb100.shut hX104 hlo98
              refine qe ?_
              refine s_then ?_
              refine s_seq ?_
              refine c_draw (S := fun w => Pins G105 w) (last := 33) (by kernel_rfl) rfl ?_
              have hl110 : Below w99.heap.size w99 w99.drew := (Below.refl _ _).drew
              have hp111 := hX107.pins.below hl110
              have hX112 := hX107.step hp111 hl110
              refine dr_take (i := 0) rfl rfl rfl (want_none rfl _) (by kernel_rfl) (fun _ _ => r_fldp (k := 0) rfl Try.underlying71 rfl nz3 rfl) hX112.pins ?_
              refine dr_take (i := 1) rfl rfl rfl (want_none rfl _) (by kernel_rfl) (fun _ hS => r_ldp1 (u := (.int .i64 ((ps.getD m default).a))) ag3 rfl (hS _ _ _ (hbp108 0 _ rfl))) hX112.pins ?_
              refine dr_take (i := 2) rfl rfl rfl (want_none rfl _) (by kernel_rfl) (fun _ _ => r_fldp (k := 0) rfl Try.underlying34 rfl nz32 rfl) hX112.pins ?_
              refine dr_take (i := 3) rfl rfl rfl (want_none rfl _) (by kernel_rfl) (fun _ hS => r_ldp1 (u := v) ag32 rfl ((Pins.of_le hS (Pin.le_trans (Pin.le_trans (Pin.le_trans (Pin.le_trans (Pin.le_trans hle23 hle36) hx42.le) hx47.le) hlek76) hle106)) _ _ _ (hbp12 0 _ rfl))) hX112.pins ?_
              refine dr_take (i := 4) rfl rfl rfl (want_none rfl _) (by kernel_rfl) (fun _ _ => run_len Try.underlying32 (v := v) rfl ha) hX112.pins ?_
              refine dr_take (i := 5) rfl rfl rfl (want_none rfl _) (by kernel_rfl) (fun _ _ => r_sub rfl rfl (by omega)) hX112.pins ?_
              refine dr_one (i := 6) (by kernel_rfl) (drOp1 (i := 6) rfl rfl rfl (want_none rfl _) (o_call (vs := [(.int .i64 ((ps.getD m default).a)), (.int .i64 0), (.int .i64 ((ns.length : Int) - 1))]) Try.func30 nm30 rfl rfl rfl ?_))
              refine Calls.mono (l1In_spec hX112.pins) ?_
              rintro _ _ ⟨rfl, rfl⟩
              refine ⟨_, rfl, ?_⟩
              refine ⟨fun _ => hX112.pins, ?_⟩
              refine dr_take (i := 7) rfl rfl rfl (want_none rfl _) (by kernel_rfl) (fun _ _ => r_not rfl) hX112.pins ?_
              refine dr_take (i := 8) rfl rfl rfl (want_none rfl _) (by kernel_rfl) (fun _ _ => r_move (v := (.bool (!(decide ((0 : Int) ≤ ((ps.getD m default).a) ∧ ((ps.getD m default).a : Int) ≤ ((ns.length : Int) - 1)))))) rfl) hX112.pins ?_
              refine drbn (t := 72) rfl (fun h113 => ?_) (fun h113 => ?_)
              · skip
                replace h113 := of_decide_eq_true h113
                refine dr_take (i := 9) rfl rfl rfl (want_yes rfl rfl rfl rfl) (by kernel_rfl) (fun _ _ => r_fldp (k := 1) rfl Try.underlying71 rfl nz3 rfl) hX112.pins ?_
                refine dr_take (i := 10) rfl rfl rfl (want_yes rfl rfl rfl rfl) (by kernel_rfl) (fun _ hS => r_ldp1 (u := (.int .i64 ((ps.getD m default).b))) ag3 rfl (hS _ _ _ (hbp108 1 _ rfl))) hX112.pins ?_
                refine dr_take (i := 11) rfl rfl rfl (want_yes rfl rfl rfl rfl) (by kernel_rfl) (fun _ _ => r_fldp (k := 0) rfl Try.underlying34 rfl nz32 rfl) hX112.pins ?_
                refine dr_take (i := 12) rfl rfl rfl (want_yes rfl rfl rfl rfl) (by kernel_rfl) (fun _ hS => r_ldp1 (u := x) ag32 rfl ((Pins.of_le hS (Pin.le_trans (Pin.le_trans (Pin.le_trans (Pin.le_trans hle36 hx42.le) hx47.le) hlek76) hle106)) _ _ _ (hbp25 0 _ rfl))) hX112.pins ?_
                refine dr_take (i := 13) rfl rfl rfl (want_yes rfl rfl rfl rfl) (by kernel_rfl) (fun _ _ => run_len Try.underlying32 (v := x) rfl hb) hX112.pins ?_
                refine dr_take (i := 14) rfl rfl rfl (want_yes rfl rfl rfl rfl) (by kernel_rfl) (fun _ _ => r_sub rfl rfl (by omega)) hX112.pins ?_
                refine dr_one (i := 15) (by kernel_rfl) (drOp1 (i := 15) rfl rfl rfl (want_yes rfl rfl rfl rfl) (o_call (vs := [(.int .i64 ((ps.getD m default).b)), (.int .i64 0), (.int .i64 ((bs.length : Int) - 1))]) Try.func30 nm30 rfl rfl rfl ?_))
                refine Calls.mono (l1In_spec hX112.pins) ?_
                rintro _ _ ⟨rfl, rfl⟩
                refine ⟨_, rfl, ?_⟩
                refine ⟨fun _ => hX112.pins, ?_⟩
                refine dr_take (i := 16) rfl rfl rfl (want_yes rfl rfl rfl rfl) (by kernel_rfl) (fun _ _ => r_not rfl) hX112.pins ?_
                refine dr_take (i := 17) rfl rfl rfl (want_none rfl _) (by kernel_rfl) (fun _ _ => r_pickF (v := (.bool (!(decide ((0 : Int) ≤ ((ps.getD m default).b) ∧ ((ps.getD m default).b : Int) ≤ ((bs.length : Int) - 1)))))) rfl rfl) hX112.pins ?_
                refine dr_take (i := 18) rfl rfl rfl (want_none rfl _) (by kernel_rfl) (fun _ _ => r_move (v := (.bool (!(decide ((0 : Int) ≤ ((ps.getD m default).b) ∧ ((ps.getD m default).b : Int) ≤ ((bs.length : Int) - 1)))))) rfl) hX112.pins ?_
                refine drbn (t := 82) rfl (fun h114 => ?_) (fun h114 => ?_)
                · skip
                  replace h114 := of_decide_eq_true h114
                  refine dr_take (i := 19) rfl rfl rfl (want_yes rfl rfl rfl rfl) (by kernel_rfl) (fun _ _ => r_move (v := (.int .i64 (m : Int))) rfl) hX112.pins ?_
                  refine dr_take (i := 20) rfl rfl rfl (want_yes rfl rfl rfl rfl) (by kernel_rfl) (fun _ _ => r_gtr rfl rfl) hX112.pins ?_
                  refine dr_take (i := 21) rfl rfl rfl (want_yes rfl rfl rfl rfl) (by kernel_rfl) (fun _ _ => r_move (v := (.bool (decide ((0 : Int) < (m : Int))))) rfl) hX112.pins ?_
                  refine drbd (p := (0 : Int) < (m : Int)) (t := 85) rfl (fun h115 => ?_) (fun h115 => ?_)
                  · skip
                    refine dr_take (i := 22) rfl rfl rfl (want_yes rfl rfl rfl rfl) (by kernel_rfl) (fun _ _ => r_fldp (k := 0) rfl Try.underlying38 rfl nz36 rfl) hX112.pins ?_
                    refine dr_take (i := 23) rfl rfl rfl (want_yes rfl rfl rfl rfl) (by kernel_rfl) (fun _ hS => r_ldp1 (u := u) ag36 rfl ((Pins.of_le hS (Pin.le_trans (Pin.le_trans (Pin.le_trans hx42.le hx47.le) hlek76) hle106)) _ _ _ (hbp38 0 _ rfl))) hX112.pins ?_
                    refine dr_take (i := 24) rfl rfl rfl (want_yes rfl rfl rfl rfl) (by kernel_rfl) (fun _ _ => r_move (v := (.int .i64 (m : Int))) rfl) hX112.pins ?_
                    refine dr_take (i := 25) rfl rfl rfl (want_yes rfl rfl rfl rfl) (by kernel_rfl) (fun _ _ => r_sub rfl rfl (by omega)) hX112.pins ?_
                    refine dr_take (i := 26) rfl rfl rfl (want_yes rfl rfl rfl rfl) (by kernel_rfl) (fun _ _ => run_idx Try.underlying36 sz71 (v := u) rfl rfl hu (by omega) (by omega)) hX112.pins ?_
                    obtain ⟨cs116, hrep117, hagg118, hcell119⟩ := nm_el (j := ((m : Int) - 1).toNat) default (hu.at (z := ((m : Int) - 1)) (by omega) (by omega)) rfl
                    obtain ⟨u120, u122, rfl, hr121, hr123⟩ := hrep117
                    have hm124 := hr121.max
                    have hm125 := hr123.max
                    refine dr_take (i := 27) rfl rfl rfl (want_yes rfl rfl rfl rfl) (by kernel_rfl) (fun _ hS => hagg118 ag71 sz71 rfl (Pins.of_le hS (Pin.le_trans (Pin.le_trans (Pin.le_trans (Pin.le_trans (Pin.le_trans (Pin.le_trans hle10 hle23) hle36) hx42.le) hx47.le) hlek76) hle106))) hX112.pins ?_
                    refine dr_take (i := 28) rfl rfl rfl (want_yes rfl rfl rfl rfl) (by kernel_rfl) (fun _ hS => r_ldpA (cs := [(.int .i64 ((ps.getD m default).a)), (.int .i64 ((ps.getD m default).b)), u85, u87]) ag71 sz71 rfl (fun j u hj => hS _ _ _ (hbp108 _ _ (by simpa using hj)))) hX112.pins ?_
                    refine dr_one (i := 29) (by kernel_rfl) (drOp1 (i := 29) rfl rfl rfl (want_yes rfl rfl rfl rfl) (o_call (vs := [(.agg [(.int .i64 ((ps.getD ((m : Int) - 1).toNat default).a)), (.int .i64 ((ps.getD ((m : Int) - 1).toNat default).b)), u120, u122].toArray), (.agg [(.int .i64 ((ps.getD m default).a)), (.int .i64 ((ps.getD m default).b)), u85, u87].toArray)]) Try.func31 nm31 rfl rfl rfl ?_))
                    refine Calls.mono (l15Ahead_spec (c := (ps.getD ((m : Int) - 1).toNat default)) (d := (ps.getD m default)) hX112.pins ) ?_
                    rintro _ w127 ⟨G126, rfl, hx128⟩
                    refine ⟨_, rfl, ?_⟩
                    have hX129 := hX112.tr hx128
                    refine ⟨fun _ => (Pins.of_le hX129.pins hx128.le), ?_⟩
                    refine dr_take (i := 30) rfl rfl rfl (want_yes rfl rfl rfl rfl) (by kernel_rfl) (fun _ _ => r_not rfl) (Pins.of_le hX129.pins hx128.le) ?_
                    refine dr_take (i := 31) rfl rfl rfl (want_yes rfl rfl rfl rfl) (by kernel_rfl) (fun _ _ => r_pickT (v := (.bool (!(decP (AheadP (ps.getD ((m : Int) - 1).toNat default) (ps.getD m default)))))) rfl rfl) (Pins.of_le hX129.pins hx128.le) ?_
                    refine dr_take (i := 32) rfl rfl rfl (want_none rfl _) (by kernel_rfl) (fun _ _ => r_pickF (v := (.bool (!(decP (AheadP (ps.getD ((m : Int) - 1).toNat default) (ps.getD m default)))))) rfl rfl) (Pins.of_le hX129.pins hx128.le) ?_
                    refine dr_end (by kernel_rfl) ?_
                    refine s_then ?_
                    refine c_ifn rfl rfl (fun h130 => ?_) (fun h130 => ?_)
                    · skip
                      refine wp_skip ?_
                      refine s_blkN ?_
                      refine s_then ?_
                      refine c_reg ?_
                      refine qd rfl rfl rfl (r_move (v := (.int .i64 (m : Int))) rfl) ?_
                      refine qd rfl rfl rfl (r_add rfl rfl (by omega)) ?_
                      refine qd rfl rfl rfl (r_assign (v := (.int .i64 ((m : Int) + 1))) rfl) ?_
                      refine qe ?_
                      refine s_lopN ?_
                      refine ⟨_, ?_, _, rfl, _, m + 1, G126, (packS (x := 9) (packS (x := 8) (packS (x := 5) (packS (x := 4) (pack1 (x := 3) rfl) rfl) rfl) rfl) rfl), rfl, hX129, (Pin.le_trans (Pin.le_trans hlek76 hle106) hx128.le), (by omega), (fun q hq => if h3 : q = m then h3 ▸ ⟨⟨by omega, by omega⟩, ⟨by omega, by omega⟩⟩ else hrg q (by omega)), (fun q h1 h2 => if h3 : q = m then (by subst h3; have a := decP_true.1 h130; rw [show q - 1 = ((q : Int) - 1).toNat by omega]; exact a) else hst q h1 (by omega))⟩
                      omega
                    · skip
                      refine s_seq ?_
                      refine c_reg ?_
                      refine qd rfl rfl rfl (r_assign (v := (.bool false)) rfl) ?_
                      refine qd rfl rfl rfl (r_assign (v := (.bool true)) rfl) ?_
                      refine qe ?_
                      refine s_then ?_
                      refine wp_ret ?_
                      refine s_ret ?_
                      refine c_ret2 (v := (.bool false)) (u := (.bool true)) rfl rfl rfl rfl rfl ?_
                      obtain ⟨e1, e2⟩ := @cp_no ns bs ps ((good_eq ns).symm.trans h44) ((good_eq bs).symm.trans h49) (fun g => decP_false.1 h130 (by have a := g.st m (by omega) (by omega); rw [show m - 1 = ((m : Int) - 1).toNat by omega] at a; exact a))
                      exact ⟨_, by rw [e1, e2], hX129⟩
                  · skip
                    refine dr_skip (i := 22) rfl rfl (want_no rfl rfl rfl rfl rfl) (by kernel_rfl) hX112.pins ?_
                    refine dr_skip (i := 23) rfl rfl (want_no rfl rfl rfl rfl rfl) (by kernel_rfl) hX112.pins ?_
                    refine dr_skip (i := 24) rfl rfl (want_no rfl rfl rfl rfl rfl) (by kernel_rfl) hX112.pins ?_
                    refine dr_skip (i := 25) rfl rfl (want_no rfl rfl rfl rfl rfl) (by kernel_rfl) hX112.pins ?_
                    refine dr_skip (i := 26) rfl rfl (want_no rfl rfl rfl rfl rfl) (by kernel_rfl) hX112.pins ?_
                    refine dr_skip (i := 27) rfl rfl (want_no rfl rfl rfl rfl rfl) (by kernel_rfl) hX112.pins ?_
                    refine dr_skip (i := 28) rfl rfl (want_no rfl rfl rfl rfl rfl) (by kernel_rfl) hX112.pins ?_
                    refine dr_skip (i := 29) rfl rfl (want_no rfl rfl rfl rfl rfl) (by kernel_rfl) hX112.pins ?_
                    refine dr_skip (i := 30) rfl rfl (want_no rfl rfl rfl rfl rfl) (by kernel_rfl) hX112.pins ?_
                    refine dr_take (i := 31) rfl rfl rfl (want_yes rfl rfl rfl rfl) (by kernel_rfl) (fun _ _ => r_pickF (v := (.bool false)) rfl rfl) hX112.pins ?_
                    refine dr_take (i := 32) rfl rfl rfl (want_none rfl _) (by kernel_rfl) (fun _ _ => r_pickF (v := (.bool false)) rfl rfl) hX112.pins ?_
                    refine dr_end (by kernel_rfl) ?_
                    refine s_then ?_
                    refine c_ifF rfl rfl ?_
                    refine wp_skip ?_
                    refine s_blkN ?_
                    refine s_then ?_
                    refine c_reg ?_
                    refine qd rfl rfl rfl (r_move (v := (.int .i64 (m : Int))) rfl) ?_
                    refine qd rfl rfl rfl (r_add rfl rfl (by omega)) ?_
                    refine qd rfl rfl rfl (r_assign (v := (.int .i64 ((m : Int) + 1))) rfl) ?_
                    refine qe ?_
                    refine s_lopN ?_
                    refine ⟨_, ?_, _, rfl, _, m + 1, G105, (packS (x := 9) (packS (x := 8) (packS (x := 5) (packS (x := 4) (pack1 (x := 3) rfl) rfl) rfl) rfl) rfl), rfl, hX112, (Pin.le_trans hlek76 hle106), (by omega), (fun q hq => if h3 : q = m then h3 ▸ ⟨⟨by omega, by omega⟩, ⟨by omega, by omega⟩⟩ else hrg q (by omega)), (fun q h1 h2 => if h3 : q = m then (by subst h3; omega) else hst q h1 (by omega))⟩
                    omega
                · skip
                  replace h114 := of_decide_eq_false h114
                  refine dr_skip (i := 19) rfl rfl (want_no rfl rfl rfl rfl rfl) (by kernel_rfl) hX112.pins ?_
                  refine dr_skip (i := 20) rfl rfl (want_no rfl rfl rfl rfl rfl) (by kernel_rfl) hX112.pins ?_
                  refine dr_skip (i := 21) rfl rfl (want_no rfl rfl rfl rfl rfl) (by kernel_rfl) hX112.pins ?_
                  refine dr_skip (i := 22) rfl rfl (want_undef rfl rfl rfl rfl) (by kernel_rfl) hX112.pins ?_
                  refine dr_skip (i := 23) rfl rfl (want_undef rfl rfl rfl rfl) (by kernel_rfl) hX112.pins ?_
                  refine dr_skip (i := 24) rfl rfl (want_undef rfl rfl rfl rfl) (by kernel_rfl) hX112.pins ?_
                  refine dr_skip (i := 25) rfl rfl (want_undef rfl rfl rfl rfl) (by kernel_rfl) hX112.pins ?_
                  refine dr_skip (i := 26) rfl rfl (want_undef rfl rfl rfl rfl) (by kernel_rfl) hX112.pins ?_
                  refine dr_skip (i := 27) rfl rfl (want_undef rfl rfl rfl rfl) (by kernel_rfl) hX112.pins ?_
                  refine dr_skip (i := 28) rfl rfl (want_undef rfl rfl rfl rfl) (by kernel_rfl) hX112.pins ?_
                  refine dr_skip (i := 29) rfl rfl (want_undef rfl rfl rfl rfl) (by kernel_rfl) hX112.pins ?_
                  refine dr_skip (i := 30) rfl rfl (want_undef rfl rfl rfl rfl) (by kernel_rfl) hX112.pins ?_
                  refine dr_skip (i := 31) rfl rfl (want_no rfl rfl rfl rfl rfl) (by kernel_rfl) hX112.pins ?_
                  refine dr_take (i := 32) rfl rfl rfl (want_none rfl _) (by kernel_rfl) (fun _ _ => r_pickT (v := (.bool true)) rfl rfl) hX112.pins ?_
                  refine dr_end (by kernel_rfl) ?_
                  refine s_then ?_
                  refine c_ifT rfl rfl ?_
                  refine s_seq ?_
                  refine c_reg ?_
                  refine qd rfl rfl rfl (r_assign (v := (.bool false)) rfl) ?_
                  refine qd rfl rfl rfl (r_assign (v := (.bool true)) rfl) ?_
                  refine qe ?_
                  refine s_then ?_
                  refine wp_ret ?_
                  refine s_ret ?_
                  refine c_ret2 (v := (.bool false)) (u := (.bool true)) rfl rfl rfl rfl rfl ?_
                  obtain ⟨e1, e2⟩ := @cp_no ns bs ps ((good_eq ns).symm.trans h44) ((good_eq bs).symm.trans h49) (fun g => by have a := (g.ok m (by omega)).ra; have b := (g.ok m (by omega)).rb; omega)
                  exact ⟨_, by rw [e1, e2], hX112⟩
              · skip
                replace h113 := of_decide_eq_false h113
                refine dr_skip (i := 9) rfl rfl (want_no rfl rfl rfl rfl rfl) (by kernel_rfl) hX112.pins ?_
                refine dr_skip (i := 10) rfl rfl (want_no rfl rfl rfl rfl rfl) (by kernel_rfl) hX112.pins ?_
                refine dr_skip (i := 11) rfl rfl (want_no rfl rfl rfl rfl rfl) (by kernel_rfl) hX112.pins ?_
                refine dr_skip (i := 12) rfl rfl (want_no rfl rfl rfl rfl rfl) (by kernel_rfl) hX112.pins ?_
                refine dr_skip (i := 13) rfl rfl (want_no rfl rfl rfl rfl rfl) (by kernel_rfl) hX112.pins ?_
                refine dr_skip (i := 14) rfl rfl (want_no rfl rfl rfl rfl rfl) (by kernel_rfl) hX112.pins ?_
                refine dr_skip (i := 15) rfl rfl (want_no rfl rfl rfl rfl rfl) (by kernel_rfl) hX112.pins ?_
                refine dr_skip (i := 16) rfl rfl (want_no rfl rfl rfl rfl rfl) (by kernel_rfl) hX112.pins ?_
                refine dr_take (i := 17) rfl rfl rfl (want_none rfl _) (by kernel_rfl) (fun _ _ => r_pickT (v := (.bool true)) rfl rfl) hX112.pins ?_
                refine dr_take (i := 18) rfl rfl rfl (want_none rfl _) (by kernel_rfl) (fun _ _ => r_move (v := (.bool true)) rfl) hX112.pins ?_
                refine dr_skip (i := 19) rfl rfl (want_no rfl rfl rfl rfl rfl) (by kernel_rfl) hX112.pins ?_
                refine dr_skip (i := 20) rfl rfl (want_no rfl rfl rfl rfl rfl) (by kernel_rfl) hX112.pins ?_
                refine dr_skip (i := 21) rfl rfl (want_no rfl rfl rfl rfl rfl) (by kernel_rfl) hX112.pins ?_
                refine dr_skip (i := 22) rfl rfl (want_undef rfl rfl rfl rfl) (by kernel_rfl) hX112.pins ?_
                refine dr_skip (i := 23) rfl rfl (want_undef rfl rfl rfl rfl) (by kernel_rfl) hX112.pins ?_
                refine dr_skip (i := 24) rfl rfl (want_undef rfl rfl rfl rfl) (by kernel_rfl) hX112.pins ?_
                refine dr_skip (i := 25) rfl rfl (want_undef rfl rfl rfl rfl) (by kernel_rfl) hX112.pins ?_
                refine dr_skip (i := 26) rfl rfl (want_undef rfl rfl rfl rfl) (by kernel_rfl) hX112.pins ?_
                refine dr_skip (i := 27) rfl rfl (want_undef rfl rfl rfl rfl) (by kernel_rfl) hX112.pins ?_
                refine dr_skip (i := 28) rfl rfl (want_undef rfl rfl rfl rfl) (by kernel_rfl) hX112.pins ?_
                refine dr_skip (i := 29) rfl rfl (want_undef rfl rfl rfl rfl) (by kernel_rfl) hX112.pins ?_
                refine dr_skip (i := 30) rfl rfl (want_undef rfl rfl rfl rfl) (by kernel_rfl) hX112.pins ?_
                refine dr_skip (i := 31) rfl rfl (want_no rfl rfl rfl rfl rfl) (by kernel_rfl) hX112.pins ?_
                refine dr_take (i := 32) rfl rfl rfl (want_none rfl _) (by kernel_rfl) (fun _ _ => r_pickT (v := (.bool true)) rfl rfl) hX112.pins ?_
                refine dr_end (by kernel_rfl) ?_
                refine s_then ?_
                refine c_ifT rfl rfl ?_
                refine s_seq ?_
                refine c_reg ?_
                refine qd rfl rfl rfl (r_assign (v := (.bool false)) rfl) ?_
                refine qd rfl rfl rfl (r_assign (v := (.bool true)) rfl) ?_
                refine qe ?_
                refine s_then ?_
                refine wp_ret ?_
                refine s_ret ?_
                refine c_ret2 (v := (.bool false)) (u := (.bool true)) rfl rfl rfl rfl rfl ?_
                obtain ⟨e1, e2⟩ := @cp_no ns bs ps ((good_eq ns).symm.trans h44) ((good_eq bs).symm.trans h49) (fun g => by have a := (g.ok m (by omega)).ra; have b := (g.ok m (by omega)).rb; omega)
                exact ⟨_, by rw [e1, e2], hX112⟩
            · skip
              refine wp_exit ?_
              refine s_thenE ?_
              refine s_lopE ?_
              refine s_blkE ?_
              refine s_then ?_
              refine s_seq ?_
              refine s_seq ?_
              refine c_reg ?_
              refine qd rfl rfl rfl (r_assign (v := (.int .i64 0)) rfl) ?_
              refine qe ?_
              refine s_then ?_
              refine s_blk ?_
              refine s_loop (fun (k : Nat) (en : Nat → Value) (W : World) => ∃ (env1 : Nat → Value) (k2 : Nat) (GL2 : Pin), en = (upd (upd (upd (upd (upd env1 3 (.pointer (some ⟨b1, 0, none⟩))) 4 (.pointer (some ⟨b14, 0, none⟩))) 5 (.pointer (some ⟨b27, 0, none⟩))) 8 (.int .i64 (ps.length : Int))) 11 (.int .i64 (k2 : Int))) ∧ k = ps.length - k2 ∧ Ext noS G w GL2 W ∧ Pin.le GL1 GL2 ∧ (k2 ≤ ps.length) ∧ (∀ q, q < k2 → RightP ns bs ps q)) _ ⟨_, 0, GL1, (packS (x := 11) (packS (x := 8) (packS (x := 5) (packS (x := 4) (pack1 (x := 3) rfl) rfl) rfl) rfl) rfl), rfl, hX79, Pin.le_refl _, Nat.zero_le _, (fun i hi => absurd hi (Nat.not_lt_zero i))⟩ ?_
              rintro k131 _ w132 ⟨env1, k2, GL2, rfl, hk133, hX134, hlek131, hk2, hok⟩
              refine s_seq ?_
              refine s_seq ?_
              refine c_reg ?_
              refine qd rfl rfl rfl (r_move (v := (.int .i64 (k2 : Int))) rfl) ?_
              refine qd rfl rfl rfl (r_move (v := (.int .i64 (ps.length : Int))) rfl) ?_
              refine qd rfl rfl rfl (r_lss rfl rfl) ?_
              refine qe ?_
              refine s_then ?_
              refine c_ifd (p := ((k2 : Int) : Int) < (ps.length : Int)) rfl rfl (fun h135 => ?_) (fun h135 => ?_)
              · skip
                refine wp_skip ?_
                refine s_then ?_
                refine s_seq ?_
                refine s_blk ?_
                refine s_seq ?_
                refine c_reg ?_
                refine qd rfl rfl rfl (r_ldpA (cs := [v]) ag34 sz34 rfl (fun j u hj => (Pins.of_le hX134.pins (Pin.le_trans (Pin.le_trans (Pin.le_trans (Pin.le_trans (Pin.le_trans hle23 hle36) hx42.le) hx47.le) hlek76) hlek131)) _ _ _ (hbp12 _ _ (by simpa using hj)))) ?_
                refine qd rfl rfl rfl (r_ldpA (cs := [x]) ag34 sz34 rfl (fun j u hj => (Pins.of_le hX134.pins (Pin.le_trans (Pin.le_trans (Pin.le_trans (Pin.le_trans hle36 hx42.le) hx47.le) hlek76) hlek131)) _ _ _ (hbp25 _ _ (by simpa using hj)))) ?_
                refine qd rfl rfl rfl (r_ldpA (cs := [u]) ag38 sz38 rfl (fun j u hj => (Pins.of_le hX134.pins (Pin.le_trans (Pin.le_trans (Pin.le_trans hx42.le hx47.le) hlek76) hlek131)) _ _ _ (hbp38 _ _ (by simpa using hj)))) ?_
                refine qd rfl rfl rfl (r_move (v := (.int .i64 (k2 : Int))) rfl) ?_
                refine q1 rfl rfl rfl (o_call (vs := [(.agg [v].toArray), (.agg [x].toArray), (.agg [u].toArray), (.int .i64 (k2 : Int))]) Try.func32 nm32 rfl rfl rfl ?_)
                refine Calls.mono (l15Holds_spec hX134.pins (ha.mono (Pin.le_trans (Pin.le_trans (Pin.le_trans (Pin.le_trans (Pin.le_trans (Pin.le_trans hle10 hle23) hle36) hx42.le) hx47.le) hlek76) hlek131)) (hb.mono (Pin.le_trans (Pin.le_trans (Pin.le_trans (Pin.le_trans (Pin.le_trans (Pin.le_trans hle10 hle23) hle36) hx42.le) hx47.le) hlek76) hlek131)) (hu.mono (Pin.le_trans (Pin.le_trans (Pin.le_trans (Pin.le_trans (Pin.le_trans (Pin.le_trans hle10 hle23) hle36) hx42.le) hx47.le) hlek76) hlek131)) (by omega) hga hgb (hrg k2 (by omega)).1 (hrg k2 (by omega)).2) ?_
                rintro _ w137 ⟨G136, rfl, hx138⟩
                refine ⟨_, rfl, ?_⟩
                have hX139 := hX134.tr hx138
                refine qd rfl rfl rfl (r_not rfl) ?_
                refine qe ?_
                refine s_then ?_
                refine c_ifn rfl rfl (fun h140 => ?_) (fun h140 => ?_)
                · skip
                  refine wp_skip ?_
                  refine s_blkN ?_
                  refine s_then ?_
                  refine c_reg ?_
                  refine qd rfl rfl rfl (r_move (v := (.int .i64 (k2 : Int))) rfl) ?_
                  refine qd rfl rfl rfl (r_add rfl rfl (by omega)) ?_
                  refine qd rfl rfl rfl (r_assign (v := (.int .i64 ((k2 : Int) + 1))) rfl) ?_
                  refine qe ?_
                  refine s_lopN ?_
                  refine ⟨_, ?_, _, rfl, _, k2 + 1, G136, (packS (x := 11) (packS (x := 8) (packS (x := 5) (packS (x := 4) (pack1 (x := 3) rfl) rfl) rfl) rfl) rfl), rfl, hX139, (Pin.le_trans hlek131 hx138.le), (by omega), (fun q hq => if h3 : q = k2 then h3 ▸ decP_true.1 h140 else hok q (by omega))⟩
                  omega
                · skip
                  refine s_seq ?_
                  refine c_reg ?_
                  refine qd rfl rfl rfl (r_assign (v := (.bool false)) rfl) ?_
                  refine qd rfl rfl rfl (r_assign (v := (.bool true)) rfl) ?_
                  refine qe ?_
                  refine s_then ?_
                  refine wp_ret ?_
                  refine s_ret ?_
                  refine c_ret2 (v := (.bool false)) (u := (.bool true)) rfl rfl rfl rfl rfl ?_
                  obtain ⟨e1, e2⟩ := @cp_no ns bs ps ((good_eq ns).symm.trans h44) ((good_eq bs).symm.trans h49) (fun g => decP_false.1 h140 (g.ok k2 (by omega)))
                  exact ⟨_, by rw [e1, e2], hX139⟩
              · skip
                refine wp_exit ?_
                refine s_thenE ?_
                refine s_lopE ?_
                refine s_blkE ?_
                refine s_then ?_
                refine s_seq ?_
                refine c_reg ?_
                refine qd rfl rfl rfl (r_assign (v := (.bool true)) rfl) ?_
                refine qd rfl rfl rfl (r_assign (v := (.bool true)) rfl) ?_
                refine qe ?_
                refine s_then ?_
                refine wp_ret ?_
                refine s_ret ?_
                refine c_ret2 (v := (.bool true)) (u := (.bool true)) rfl rfl rfl rfl rfl ?_
                obtain ⟨e1, e2⟩ := @cp_yes ns bs ps ((good_eq ns).symm.trans h44) ((good_eq bs).symm.trans h49) ⟨⟨by omega, by omega⟩, (by rw [show ps.length - 1 = ((ps.length : Int) - 1).toNat by omega]; omega), (by rw [show ps.length - 1 = ((ps.length : Int) - 1).toNat by omega]; omega), fun q h1 h2 => hst q h1 (by omega), fun q hq => hok q (by omega)⟩
                exact ⟨_, by rw [e1, e2], hX134⟩
      · skip
        replace h53 := of_decide_eq_false h53
        refine dr_skip (i := 4) rfl rfl (want_no rfl rfl rfl rfl rfl) (by kernel_rfl) hX52.pins ?_
        refine dr_skip (i := 5) rfl rfl (want_no rfl rfl rfl rfl rfl) (by kernel_rfl) hX52.pins ?_
        refine dr_skip (i := 6) rfl rfl (want_no rfl rfl rfl rfl rfl) (by kernel_rfl) hX52.pins ?_
        refine dr_skip (i := 7) rfl rfl (want_no rfl rfl rfl rfl rfl) (by kernel_rfl) hX52.pins ?_
        refine dr_skip (i := 8) rfl rfl (want_no rfl rfl rfl rfl rfl) (by kernel_rfl) hX52.pins ?_
        refine dr_skip (i := 9) rfl rfl (want_no rfl rfl rfl rfl rfl) (by kernel_rfl) hX52.pins ?_
        refine dr_skip (i := 10) rfl rfl (want_no rfl rfl rfl rfl rfl) (by kernel_rfl) hX52.pins ?_
        refine dr_skip (i := 11) rfl rfl (want_no rfl rfl rfl rfl rfl) (by kernel_rfl) hX52.pins ?_
        refine dr_skip (i := 12) rfl rfl (want_no rfl rfl rfl rfl rfl) (by kernel_rfl) hX52.pins ?_
        refine dr_skip (i := 13) rfl rfl (want_no rfl rfl rfl rfl rfl) (by kernel_rfl) hX52.pins ?_
        refine dr_skip (i := 14) rfl rfl (want_no rfl rfl rfl rfl rfl) (by kernel_rfl) hX52.pins ?_
        refine dr_skip (i := 15) rfl rfl (want_no rfl rfl rfl rfl rfl) (by kernel_rfl) hX52.pins ?_
        refine dr_take (i := 16) rfl rfl rfl (want_none rfl _) (by kernel_rfl) (fun _ _ => r_pickT (v := (.bool true)) rfl rfl) hX52.pins ?_
        refine dr_take (i := 17) rfl rfl rfl (want_none rfl _) (by kernel_rfl) (fun _ _ => r_move (v := (.bool true)) rfl) hX52.pins ?_
        refine dr_skip (i := 18) rfl rfl (want_no rfl rfl rfl rfl rfl) (by kernel_rfl) hX52.pins ?_
        refine dr_skip (i := 19) rfl rfl (want_no rfl rfl rfl rfl rfl) (by kernel_rfl) hX52.pins ?_
        refine dr_skip (i := 20) rfl rfl (want_no rfl rfl rfl rfl rfl) (by kernel_rfl) hX52.pins ?_
        refine dr_skip (i := 21) rfl rfl (want_no rfl rfl rfl rfl rfl) (by kernel_rfl) hX52.pins ?_
        refine dr_skip (i := 22) rfl rfl (want_no rfl rfl rfl rfl rfl) (by kernel_rfl) hX52.pins ?_
        refine dr_skip (i := 23) rfl rfl (want_no rfl rfl rfl rfl rfl) (by kernel_rfl) hX52.pins ?_
        refine dr_skip (i := 24) rfl rfl (want_no rfl rfl rfl rfl rfl) (by kernel_rfl) hX52.pins ?_
        refine dr_skip (i := 25) rfl rfl (want_no rfl rfl rfl rfl rfl) (by kernel_rfl) hX52.pins ?_
        refine dr_skip (i := 26) rfl rfl (want_no rfl rfl rfl rfl rfl) (by kernel_rfl) hX52.pins ?_
        refine dr_skip (i := 27) rfl rfl (want_no rfl rfl rfl rfl rfl) (by kernel_rfl) hX52.pins ?_
        refine dr_skip (i := 28) rfl rfl (want_no rfl rfl rfl rfl rfl) (by kernel_rfl) hX52.pins ?_
        refine dr_skip (i := 29) rfl rfl (want_no rfl rfl rfl rfl rfl) (by kernel_rfl) hX52.pins ?_
        refine dr_take (i := 30) rfl rfl rfl (want_none rfl _) (by kernel_rfl) (fun _ _ => r_pickT (v := (.bool true)) rfl rfl) hX52.pins ?_
        refine dr_end (by kernel_rfl) ?_
        refine s_then ?_
        refine c_ifT rfl rfl ?_
        refine s_seq ?_
        refine c_reg ?_
        refine qd rfl rfl rfl (r_assign (v := (.bool false)) rfl) ?_
        refine qd rfl rfl rfl (r_assign (v := (.bool true)) rfl) ?_
        refine qe ?_
        refine s_then ?_
        refine wp_ret ?_
        refine s_ret ?_
        refine c_ret2 (v := (.bool false)) (u := (.bool true)) rfl rfl rfl rfl rfl ?_
        obtain ⟨e1, e2⟩ := @cp_no ns bs ps ((good_eq ns).symm.trans h44) ((good_eq bs).symm.trans h49) (fun g => by have h1 := g.n; have h2 := g.la; have h3 := g.lb; rw [show ps.length - 1 = ((ps.length : Int) - 1).toNat by omega] at h2 h3; omega)
        exact ⟨_, by rw [e1, e2], hX52⟩
    · skip
      refine s_seq ?_
      refine c_reg ?_
      refine qd rfl rfl rfl (r_assign (v := (.bool false)) rfl) ?_
      refine qd rfl rfl rfl (r_assign (v := (.bool false)) rfl) ?_
      refine qe ?_
      refine s_then ?_
      refine wp_ret ?_
      refine s_ret ?_
      refine c_ret2 (v := (.bool false)) (u := (.bool false)) rfl rfl rfl rfl rfl ?_
      obtain ⟨e1, e2⟩ := @cp_bad ns bs ps (Or.inr ((good_eq bs).symm.trans h49))
      exact ⟨_, by rw [e1, e2], hX48⟩
  · skip
    refine qs rfl rfl rfl rfl rfl rfl ?_
    refine qs rfl rfl rfl rfl rfl rfl ?_
    refine qs rfl rfl rfl rfl rfl rfl ?_
    refine qd rfl rfl rfl (r_pickT (v := (.bool true)) rfl rfl) ?_
    refine qe ?_
    refine s_then ?_
    refine c_ifT rfl rfl ?_
    refine s_seq ?_
    refine c_reg ?_
    refine qd rfl rfl rfl (r_assign (v := (.bool false)) rfl) ?_
    refine qd rfl rfl rfl (r_assign (v := (.bool false)) rfl) ?_
    refine qe ?_
    refine s_then ?_
    refine wp_ret ?_
    refine s_ret ?_
    refine c_ret2 (v := (.bool false)) (u := (.bool false)) rfl rfl rfl rfl rfl ?_
    obtain ⟨e1, e2⟩ := @cp_bad ns bs ps (Or.inl ((good_eq ns).symm.trans h44))
    exact ⟨_, by rw [e1, e2], hX43⟩

end P1
end Go.Proofs.Ytgnbnieoghnboaa
