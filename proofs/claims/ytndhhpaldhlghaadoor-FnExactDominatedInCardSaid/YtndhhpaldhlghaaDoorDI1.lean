/- Walks, printed by a program (walkgen.py) from the spec specs_ds. -/
import Derived.Test.YtndhhpaldhlghaaDoorChecked
import Derived.Test.YtndhhpaldhlghaaDoorRow
import Derived.Test.YtndhhpaldhlghaaDoorDom
import Derived.Test.YtndhhpaldhlghaaDoorShelf
import Derived.Test.YtndhhpaldhlghaaDoorB1
import Derived.Test.YtndhhpaldhlghaaDoorK1
import Derived.Test.YtndhhpaldhlghaaDoorPO1
import Derived.Test.YtndhhpaldhlghaaDoorPL1
set_option maxRecDepth 20000
set_option maxHeartbeats 2000000
namespace Go.Proofs.YtndhhpaldhlghaaDoor
namespace DI1
open Go.RowKit Go.GL Go.Proofs
open Go.Proofs.YtndhhpaldhlghaaDoor.B1
open Go.Proofs.YtndhhpaldhlghaaDoor.K1
open Go.Proofs.YtndhhpaldhlghaaDoor.PO1
open Go.Proofs.YtndhhpaldhlghaaDoor.PL1
theorem ag3 : (Tryd.prog.underlying 3).map aggD = some false := by kernel_rfl
theorem ap3 : (Tryd.prog.info? 3).map (fun i => (i.size, i.bytes, (i.zero.map (·.cells.size)))) = some (1, 8, some 1) := by kernel_rfl
theorem nm38 : (Tryd.f38.name == "runtime.NumGoroutine") = false := by kernel_rfl
theorem sz3 : (Tryd.prog.info? 3).map (·.size) = some 1 := by kernel_rfl
theorem zr3 : (Tryd.prog.info? 3).bind (·.zero) = some (.int .i64 0) := by kernel_rfl

theorem idominated_spec {p : Nat} {L R B : Value} {mm : PM} {w : World} {G : Pin} {q : PSt} {x : Value} {xs : List Int} {lf : Bool} (hP : Pins G w) (hpk : Pk 38 3 G w p L R B mm q) (hok : PoolOk q) (hx : RSl eInt G x xs) (hxl : xs.length ≤ 1048576) (hpl : ∀ i, i < xs.length → PlaceOk q (xs.getD i 0)) :
    Calls Tryd.prog 50 [(.pointer (some ⟨p, 0, none⟩)), x, (.bool lf)].toArray w fun e w' => ∃ (u : Value) (q' : PSt) (G' : Pin), e = .returned u ∧ Own eInt 3 G' w' w.heap.size u (domL (gX q xs) lf xs.length xs.length) ∧ Pk 38 3 G' w' p L R B mm q' ∧ PoolOk q' ∧ PX q q' ∧ (q'.ns = q.ns ∧ q'.bs = q.bs) ∧ Ext (inO (some mm.o)) G w G' w' := by
  refine s_enter (n := 61) Tryd.func50 Tryd.ntmps50 rfl rfl ?_
  have hX0 : Ext (inO (some mm.o)) G w G w := Ext.refl hP
  have hpin : PIn w (inP p L R B mm) p L R B mm := PIn.self
  have hml1 : (q.ns.map Nd.l).length = q.ns.length ∧ (q.ns.map Nd.r).length = q.ns.length := ⟨List.length_map .., List.length_map ..⟩
  have hml2 : q.bs.length = q.ns.length ∧ q.ns.length ≤ 1048576 := ⟨hok.ar.ok.len, hok.ar.ok.lim⟩
  refine s_seq ?_
  refine c_reg ?_
  refine qd rfl rfl rfl (r_assign (v := (.slice none 0 0)) rfl) ?_
  refine qe ?_
  refine s_then ?_
  refine s_seq ?_
  refine c_reg ?_
  refine q1 rfl rfl rfl (o_build0 (E := eInt) (e := 3) Tryd.underlying38 sz3 hX0.pins (fun u3 w4 ho5 hp6 hl7 hk8 => ?_))
  have hX9 := hX0.step hp6 hl7
  have hpk10 := hpk.below hl7 hp6
  have ha15 := hpk.new (x := u3.ownBlock) (fun k hk => by rw [hk8] at hk; cases hk; exact Nat.le_refl _)
  have ho16 : Own eInt 3 G w4 w.heap.size u3 ([]) := ho5.weaken hX0.size
  refine qd rfl rfl rfl (r_assign (v := u3) rfl) ?_
  refine qe ?_
  refine s_then ?_
  refine s_seq ?_
  refine s_seq ?_
  refine c_reg ?_
  refine qd rfl rfl rfl (r_move (v := x) rfl) ?_
  refine qd rfl rfl rfl (run_len Tryd.underlying38 (v := x) rfl hx) ?_
  refine qd rfl rfl rfl (r_move (v := (.int .i64 0)) rfl) ?_
  refine qe ?_
  refine s_then ?_
  refine s_blk ?_
  refine s_loop (fun (k : Nat) (en : Nat → Value) (W : World) => ∃ (env1 : Nat → Value) (i : Nat) (ov : Value) (out : List Int) (q20 : PSt) (GL1 : Pin), en = (upd (upd (upd (upd (upd (upd (upd (upd env1 0 (.pointer (some ⟨p, 0, none⟩))) 1 x) 2 (.bool lf)) 6 (.slice none 0 0)) 7 ov) 15 x) 16 (.int .i64 (xs.length : Int))) 17 (.int .i64 (i : Int))) ∧ k = xs.length - i ∧ Ext (inO (some mm.o)) G w GL1 W ∧ Pin.le G GL1 ∧ (i ≤ xs.length) ∧ (out = domL (gX q xs) lf xs.length i) ∧ (Own eInt 3 GL1 W w.heap.size ov (out)) ∧ (Pk 38 3 GL1 W p L R B mm q20) ∧ (PoolOk q20) ∧ (PX q q20) ∧ (q20.ns = q.ns ∧ q20.bs = q.bs) ∧ (NP p L R B mm ov.ownBlock)) _ ⟨_, 0, u3, [], q, G, (packS (x := 17) (packS (x := 16) (packS (x := 15) (packS (x := 7) (packS (x := 6) (packS (x := 2) (packS (x := 1) (pack1 (x := 0) rfl) rfl) rfl) rfl) rfl) rfl) rfl) rfl), rfl, hX9, Pin.le_refl _, Nat.zero_le _, rfl, ho16, hpk10, hok, (PX.refl _), ⟨rfl, rfl⟩, ha15⟩ ?_
  rintro k21 _ w22 ⟨env1, i, ov, out, q20, GL1, rfl, hk23, hX24, hlek21, hi, hout, hw25, hpk26, hok27, hpx28, hqn29, hnp30⟩
  have hql31 := hpx28.len
  have hml32 : (q20.ns.map Nd.l).length = q20.ns.length ∧ (q20.ns.map Nd.r).length = q20.ns.length := ⟨List.length_map .., List.length_map ..⟩
  have hml33 : q20.bs.length = q20.ns.length ∧ q20.ns.length ≤ 1048576 := ⟨hok27.ar.ok.len, hok27.ar.ok.lim⟩
  have hol : out.length ≤ i := by rw [hout]; exact (dom_len i).1
  refine s_seq ?_
  refine c_reg ?_
  refine qd rfl rfl rfl (r_lss rfl rfl) ?_
  refine qe ?_
  refine s_then ?_
  refine s_seq ?_
  refine c_ifd (p := ((i : Int) : Int) < (xs.length : Int)) rfl rfl (fun h34 => ?_) (fun h34 => ?_)
  · skip
    refine wp_skip ?_
    refine s_then ?_
    refine s_seq ?_
    refine s_blk ?_
    refine s_seq ?_
    refine c_reg ?_
    refine qd rfl rfl rfl (r_move (v := (.int .i64 (i : Int))) rfl) ?_
    refine qd rfl rfl rfl (run_idx Tryd.underlying38 sz3 (v := x) rfl rfl hx (by omega) (by omega)) ?_
    refine qd rfl rfl rfl (run_load_int (r := xs.getD i 0) rfl ag3 (z := (i : Int)) rfl hx (Pins.of_le hX24.pins hlek21) (by omega) (by omega)) ?_
    refine qd rfl rfl rfl (r_assign (v := (.int .i64 (i : Int))) rfl) ?_
    refine qd rfl rfl rfl (r_assign (v := (.int .i64 (xs.getD i 0))) rfl) ?_
    refine qe ?_
    refine s_then ?_
    refine s_seq ?_
    refine c_reg ?_
    refine qd rfl rfl rfl (r_move (v := x) rfl) ?_
    refine qd rfl rfl rfl (run_len Tryd.underlying38 (v := x) rfl hx) ?_
    refine qd rfl rfl rfl (r_move (v := (.int .i64 0)) rfl) ?_
    refine qe ?_
    refine s_then ?_
    refine s_blk ?_
    refine s_loop (fun (k : Nat) (en : Nat → Value) (W : World) => ∃ (env1 : Nat → Value) (j : Nat) (q38 : PSt) (GL2 : Pin), en = (upd (upd (upd (upd (upd (upd (upd (upd (upd (upd (upd (upd (upd env1 0 (.pointer (some ⟨p, 0, none⟩))) 1 x) 2 (.bool lf)) 6 (.slice none 0 0)) 7 ov) 8 (.int .i64 (i : Int))) 9 (.int .i64 (xs.getD i 0))) 15 x) 16 (.int .i64 (xs.length : Int))) 17 (.int .i64 (i : Int))) 22 x) 23 (.int .i64 (xs.length : Int))) 24 (.int .i64 (j : Int))) ∧ k = xs.length - j ∧ Ext (inO (some mm.o)) G w GL2 W ∧ Pin.le GL1 GL2 ∧ (j ≤ xs.length) ∧ (∀ x, x < j → ¬ domP (gX q xs) lf i x) ∧ (Own eInt 3 GL2 W w.heap.size ov (out)) ∧ (Pk 38 3 GL2 W p L R B mm q38) ∧ (PoolOk q38) ∧ (PX q20 q38) ∧ (q38.ns = q20.ns ∧ q38.bs = q20.bs)) _ ⟨_, 0, q20, GL1, (packS (x := 24) (packS (x := 23) (packS (x := 22) (packS (x := 17) (packS (x := 16) (packS (x := 15) (packS (x := 9) (packS (x := 8) (packS (x := 7) (packS (x := 6) (packS (x := 2) (packS (x := 1) (pack1 (x := 0) rfl) rfl) rfl) rfl) rfl) rfl) rfl) rfl) rfl) rfl) rfl) rfl) rfl), rfl, hX24, Pin.le_refl _, Nat.zero_le _, (fun x h => absurd h (Nat.not_lt_zero x)), hw25, hpk26, hok27, (PX.refl _), ⟨rfl, rfl⟩⟩ ?_
    rintro k39 _ w40 ⟨env1, j, q38, GL2, rfl, hk41, hX42, hlek39, hj, hnd, hw43, hpk44, hok45, hpx46, hqn47⟩
    have hql48 := hpx46.len
    have hml49 : (q38.ns.map Nd.l).length = q38.ns.length ∧ (q38.ns.map Nd.r).length = q38.ns.length := ⟨List.length_map .., List.length_map ..⟩
    have hml50 : q38.bs.length = q38.ns.length ∧ q38.ns.length ≤ 1048576 := ⟨hok45.ar.ok.len, hok45.ar.ok.lim⟩
    refine s_seq ?_
    refine c_reg ?_
    refine qd rfl rfl rfl (r_lss rfl rfl) ?_
    refine qe ?_
    refine s_then ?_
    refine s_seq ?_
    refine c_ifd (p := ((j : Int) : Int) < (xs.length : Int)) rfl rfl (fun h51 => ?_) (fun h51 => ?_)
    · skip
      refine wp_skip ?_
      refine s_then ?_
      refine s_seq ?_
      refine s_blk ?_
      refine s_seq ?_
      refine c_reg ?_
      refine qd rfl rfl rfl (r_move (v := (.int .i64 (j : Int))) rfl) ?_
      refine qd rfl rfl rfl (run_idx Tryd.underlying38 sz3 (v := x) rfl rfl hx (by omega) (by omega)) ?_
      refine qd rfl rfl rfl (run_load_int (r := xs.getD j 0) rfl ag3 (z := (j : Int)) rfl hx (Pins.of_le hX42.pins (Pin.le_trans hlek21 hlek39)) (by omega) (by omega)) ?_
      refine qd rfl rfl rfl (r_assign (v := (.int .i64 (j : Int))) rfl) ?_
      refine qd rfl rfl rfl (r_assign (v := (.int .i64 (xs.getD j 0))) rfl) ?_
      refine qe ?_
      refine s_then ?_
      refine s_seq ?_
      refine s_seq ?_
      refine c_reg ?_
      refine qd rfl rfl rfl (r_move (v := (.int .i64 (j : Int))) rfl) ?_
      refine qd rfl rfl rfl (r_move (v := (.int .i64 (i : Int))) rfl) ?_
      refine qd rfl rfl rfl (r_eql rfl rfl) ?_
      refine qe ?_
      refine s_then ?_
      refine c_ifd (p := ((j : Int) : Int) = (i : Int)) rfl rfl (fun h52 => ?_) (fun h52 => ?_)
      · skip
        refine wp_exit ?_
        refine s_thenE ?_
        refine s_blkE ?_
        refine s_then ?_
        refine c_reg ?_
        refine qd rfl rfl rfl (r_add rfl rfl (by omega)) ?_
        refine qd rfl rfl rfl (r_move (v := (.int .i64 ((j : Int) + 1))) rfl) ?_
        refine qe ?_
        refine s_lopN ?_
        refine ⟨_, ?_, _, rfl, _, j + 1, q38, GL2, (packS (x := 24) (packS (x := 23) (packS (x := 22) (packS (x := 17) (packS (x := 16) (packS (x := 15) (packS (x := 9) (packS (x := 8) (packS (x := 7) (packS (x := 6) (packS (x := 2) (packS (x := 1) (pack1 (x := 0) rfl) rfl) rfl) rfl) rfl) rfl) rfl) rfl) rfl) rfl) rfl) rfl) rfl), rfl, hX42, hlek39, (by omega), (fun x h2 => if h3 : x = j then h3 ▸ (fun p => p.1 h52) else hnd x (by omega)), hw43, hpk44, hok45, hpx46, hqn47⟩
        omega
      refine wp_skip ?_
      refine s_then ?_
      refine s_seq ?_
      refine c_reg ?_
      refine qd rfl rfl rfl (r_move (v := (.pointer (some ⟨p, 0, none⟩))) rfl) ?_
      refine qd rfl rfl rfl (r_move (v := (.int .i64 (xs.getD j 0))) rfl) ?_
      refine qd rfl rfl rfl (r_move (v := (.int .i64 (xs.getD i 0))) rfl) ?_
      refine q1 rfl rfl rfl (o_call (vs := [(.pointer (some ⟨p, 0, none⟩)), (.int .i64 (xs.getD j 0)), (.int .i64 (xs.getD i 0))]) Tryd.func38 nm38 rfl rfl rfl ?_)
      refine Calls.mono (ge_spec hX42.pins hpk44 hok45 ((hpl j (by omega)).same (ns_trans hqn29 hqn47)) ((hpl i (by omega)).same (ns_trans hqn29 hqn47))) ?_
      rintro _ w55 ⟨q53, G54, rfl, hpk56, hok57, hpx58, hqn59, hx60⟩
      refine ⟨_, rfl, ?_⟩
      have hX61 := hX42.trans hx60 (fun i hi => lo_self i hi)
      have ho62 := hw43.extS hx60 (notO (NP.ho hnp30))
      have hql63 := hpx58.len
      have hml64 : (q53.ns.map Nd.l).length = q53.ns.length ∧ (q53.ns.map Nd.r).length = q53.ns.length := ⟨List.length_map .., List.length_map ..⟩
      have hml65 : q53.bs.length = q53.ns.length ∧ q53.ns.length ≤ 1048576 := ⟨hok57.ar.ok.len, hok57.ar.ok.lim⟩
      have hql66 := congrArg List.length hqn59.1
      refine qd rfl rfl rfl (r_move (v := (.pointer (some ⟨p, 0, none⟩))) rfl) ?_
      refine qd rfl rfl rfl (r_move (v := (.int .i64 (xs.getD i 0))) rfl) ?_
      refine qd rfl rfl rfl (r_move (v := (.int .i64 (xs.getD j 0))) rfl) ?_
      refine q1 rfl rfl rfl (o_call (vs := [(.pointer (some ⟨p, 0, none⟩)), (.int .i64 (xs.getD i 0)), (.int .i64 (xs.getD j 0))]) Tryd.func38 nm38 rfl rfl rfl ?_)
      refine Calls.mono (ge_spec hX61.pins hpk56 hok57 ((hpl i (by omega)).same (ns_trans (ns_trans hqn29 hqn47) hqn59)) ((hpl j (by omega)).same (ns_trans (ns_trans hqn29 hqn47) hqn59))) ?_
      rintro _ w69 ⟨q67, G68, rfl, hpk70, hok71, hpx72, hqn73, hx74⟩
      refine ⟨_, rfl, ?_⟩
      have hX75 := hX61.trans hx74 (fun i hi => lo_self i hi)
      have ho76 := ho62.extS hx74 (notO (NP.ho hnp30))
      have hql77 := hpx72.len
      have hml78 : (q67.ns.map Nd.l).length = q67.ns.length ∧ (q67.ns.map Nd.r).length = q67.ns.length := ⟨List.length_map .., List.length_map ..⟩
      have hml79 : q67.bs.length = q67.ns.length ∧ q67.ns.length ≤ 1048576 := ⟨hok71.ar.ok.len, hok71.ar.ok.lim⟩
      have hql80 := congrArg List.length hqn73.1
      refine qd rfl rfl rfl (r_assign (v := (.bool (geB q38.ns (xs.getD j 0) (xs.getD i 0)))) rfl) ?_
      refine qd rfl rfl rfl (r_assign (v := (.bool (geB q53.ns (xs.getD i 0) (xs.getD j 0)))) rfl) ?_
      refine qe ?_
      refine s_then ?_
      refine s_seq ?_
      refine s_seq ?_
      refine c_reg ?_
      refine qd rfl rfl rfl (r_move (v := (.bool lf)) rfl) ?_
      refine qd rfl rfl rfl (r_not rfl) ?_
      refine qe ?_
      refine s_then ?_
      refine c_ifn rfl rfl (fun h81 => ?_) (fun h81 => ?_)
      · skip
        refine wp_skip ?_
        refine s_then ?_
        refine s_seq ?_
        refine c_reg ?_
        refine qd rfl rfl rfl (r_move (v := (.bool (geB q38.ns (xs.getD j 0) (xs.getD i 0)))) rfl) ?_
        refine qd rfl rfl rfl (r_move (v := (.bool (geB q38.ns (xs.getD j 0) (xs.getD i 0)))) rfl) ?_
        refine qb (t := 45) rfl (fun h82 => ?_) (fun h82 => ?_)
        · skip
          refine qdg rfl rfl rfl rfl rfl rfl (r_move (v := (.bool (geB q53.ns (xs.getD i 0) (xs.getD j 0)))) rfl) ?_
          refine qdg rfl rfl rfl rfl rfl rfl (r_not rfl) ?_
          refine qdg rfl rfl rfl rfl rfl rfl (r_move (v := (.bool (!(geB q53.ns (xs.getD i 0) (xs.getD j 0))))) rfl) ?_
          refine qbn (t := 48) rfl (fun h83 => ?_) (fun h83 => ?_)
          · skip
            refine qdg rfl rfl rfl rfl rfl rfl (r_move (v := (.int .i64 (j : Int))) rfl) ?_
            refine qdg rfl rfl rfl rfl rfl rfl (r_move (v := (.int .i64 (i : Int))) rfl) ?_
            refine qdg rfl rfl rfl rfl rfl rfl (r_lss rfl rfl) ?_
            refine qdg rfl rfl rfl rfl rfl rfl (r_pickF (v := (.bool (decide (((j : Int) : Int) < (i : Int))))) rfl rfl) ?_
            refine qd rfl rfl rfl (r_pickT (v := (.bool (decide (((j : Int) : Int) < (i : Int))))) rfl rfl) ?_
            refine qe ?_
            refine s_then ?_
            refine c_ifd (p := ((j : Int) : Int) < (i : Int)) rfl rfl (fun h84 => ?_) (fun h84 => ?_)
            · skip
              refine s_seq ?_
              refine c_reg ?_
              refine qd rfl rfl rfl (r_move (v := ov) rfl) ?_
              refine qd rfl rfl rfl (r_move (v := (.int .i64 (i : Int))) rfl) ?_
              refine q1 rfl rfl rfl (o_buildF (E := eInt) (e := 3) [(.int .i64 (i : Int))] [(i : Int)] Tryd.underlying38 sz3 zr3 (by exact reps1 (by rfl)) (ones1 (by rfl)) rfl rfl rfl rfl (by decide) hX75.pins (fun u85 w86 ho87 hp88 hl89 hk90 => ?_))
              have hX91 := hX75.step hp88 hl89
              have ho92 := ho76.below hl89
              have hpk93 := hpk70.below hl89 hp88
              have ha94 : Apart u85.ownBlock ov.ownBlock := new_ne_own hk90 ho76.lt
              have ho100 : Own eInt 3 G68 w86 w.heap.size u85 ([(i : Int)]) := ho87.weaken hX75.size
              refine q1 rfl rfl rfl (o_append (E := eInt) (v := ov) (u := u85) 8 Tryd.underlying38 ap3 (by decide) rfl rfl hX91.pins ho92 ho100.src (by first | omega | (rw [List.nil_append]; omega) | (rw [List.length_nil]; omega) | (rw [List.length_append]; omega) | (simp; done) | (simp; omega) | (simp only [List.length_append, List.length_cons, List.length_nil]; omega)) (by first | omega | (rw [List.nil_append]; omega) | (rw [List.length_nil]; omega) | (rw [List.length_append]; omega) | (simp; done) | (simp; omega) | (simp only [List.length_append, List.length_cons, List.length_nil]; omega)) (hX91.size) (fun u101 w102 ho103 hp104 hg105 hw106 => ?_))
              have hX107 := hX91.write hp104 hg105 ((lo_own ho92))
              have hpk109 := hpk93.kept hg105 hp104 hnp30
              have ha110 : Apart u85.ownBlock u101.ownBlock := app_ne_own ha94 hw106 ho100.lt
              have hnp111 := np_app hnp30 hpk93 hw106
              have hm112 : (out ++ ([(i : Int)])).length = out.length + 1 := List.length_append
              refine qd rfl rfl rfl (r_assign (v := u101) rfl) ?_
              refine qe ?_
              refine s_then ?_
              refine wp_exit ?_
              refine s_blkO rfl ?_
              refine s_thenE ?_
              refine s_lopE ?_
              refine s_blkE ?_
              refine s_blkN ?_
              refine s_then ?_
              refine c_reg ?_
              refine qd rfl rfl rfl (r_add rfl rfl (by omega)) ?_
              refine qd rfl rfl rfl (r_move (v := (.int .i64 ((i : Int) + 1))) rfl) ?_
              refine qe ?_
              refine s_lopN ?_
              refine ⟨_, ?_, _, rfl, _, i + 1, u101, out ++ ([(i : Int)]), q67, G68, (packS (x := 17) (packS (x := 16) (packS (x := 15) (packS (x := 7) (packS (x := 6) (packS (x := 2) (packS (x := 1) (pack1 (x := 0) rfl) rfl) rfl) rfl) rfl) rfl) rfl) rfl), rfl, hX107, (Pin.le_trans (Pin.le_trans (Pin.le_trans hlek21 hlek39) hx60.le) hx74.le), (by omega), (by rw [dom_hit (g := gX q xs) (lf := lf) (show j < xs.length by omega) ⟨h52, (geD_t h81).2 (decP_true.1 ((geB_same (ns_trans hqn29 hqn47)).symm.trans h82)), Or.inr h84⟩, hout]), ho103, hpk109, hok71, (PX.trans (PX.trans (PX.trans hpx28 hpx46) hpx58) hpx72), (ns_trans (ns_trans (ns_trans hqn29 hqn47) hqn59) hqn73), hnp111⟩
              omega
            refine wp_skip ?_
            refine s_blkN ?_
            refine s_then ?_
            refine c_reg ?_
            refine qd rfl rfl rfl (r_add rfl rfl (by omega)) ?_
            refine qd rfl rfl rfl (r_move (v := (.int .i64 ((j : Int) + 1))) rfl) ?_
            refine qe ?_
            refine s_lopN ?_
            refine ⟨_, ?_, _, rfl, _, j + 1, q67, G68, (packS (x := 24) (packS (x := 23) (packS (x := 22) (packS (x := 17) (packS (x := 16) (packS (x := 15) (packS (x := 9) (packS (x := 8) (packS (x := 7) (packS (x := 6) (packS (x := 2) (packS (x := 1) (pack1 (x := 0) rfl) rfl) rfl) rfl) rfl) rfl) rfl) rfl) rfl) rfl) rfl) rfl) rfl), rfl, hX75, (Pin.le_trans (Pin.le_trans hlek39 hx60.le) hx74.le), (by omega), (fun x h2 => if h3 : x = j then h3 ▸ (fun p => p.2.2.elim (fun h => h ((geD_t h81).2 (decP_true.1 ((geB_same (ns_trans (ns_trans hqn29 hqn47) hqn59)).symm.trans h83)))) h84) else hnd x (by omega)), ho76, hpk70, hok71, (PX.trans (PX.trans hpx46 hpx58) hpx72), (ns_trans (ns_trans hqn47 hqn59) hqn73)⟩
            omega
          refine qs rfl rfl rfl rfl rfl rfl ?_
          refine qs rfl rfl rfl rfl rfl rfl ?_
          refine qs rfl rfl rfl rfl rfl rfl ?_
          refine qdg rfl rfl rfl rfl rfl rfl (r_pickT (v := (.bool true)) rfl rfl) ?_
          refine qd rfl rfl rfl (r_pickT (v := (.bool true)) rfl rfl) ?_
          refine qe ?_
          refine s_then ?_
          refine c_ifT rfl rfl ?_
          refine s_seq ?_
          refine c_reg ?_
          refine qd rfl rfl rfl (r_move (v := ov) rfl) ?_
          refine qd rfl rfl rfl (r_move (v := (.int .i64 (i : Int))) rfl) ?_
          refine q1 rfl rfl rfl (o_buildF (E := eInt) (e := 3) [(.int .i64 (i : Int))] [(i : Int)] Tryd.underlying38 sz3 zr3 (by exact reps1 (by rfl)) (ones1 (by rfl)) rfl rfl rfl rfl (by decide) hX75.pins (fun u113 w114 ho115 hp116 hl117 hk118 => ?_))
          have hX119 := hX75.step hp116 hl117
          have ho120 := ho76.below hl117
          have hpk121 := hpk70.below hl117 hp116
          have ha122 : Apart u113.ownBlock ov.ownBlock := new_ne_own hk118 ho76.lt
          have ho128 : Own eInt 3 G68 w114 w.heap.size u113 ([(i : Int)]) := ho115.weaken hX75.size
          refine q1 rfl rfl rfl (o_append (E := eInt) (v := ov) (u := u113) 8 Tryd.underlying38 ap3 (by decide) rfl rfl hX119.pins ho120 ho128.src (by first | omega | (rw [List.nil_append]; omega) | (rw [List.length_nil]; omega) | (rw [List.length_append]; omega) | (simp; done) | (simp; omega) | (simp only [List.length_append, List.length_cons, List.length_nil]; omega)) (by first | omega | (rw [List.nil_append]; omega) | (rw [List.length_nil]; omega) | (rw [List.length_append]; omega) | (simp; done) | (simp; omega) | (simp only [List.length_append, List.length_cons, List.length_nil]; omega)) (hX119.size) (fun u129 w130 ho131 hp132 hg133 hw134 => ?_))
          have hX135 := hX119.write hp132 hg133 ((lo_own ho120))
          have hpk137 := hpk121.kept hg133 hp132 hnp30
          have ha138 : Apart u113.ownBlock u129.ownBlock := app_ne_own ha122 hw134 ho128.lt
          have hnp139 := np_app hnp30 hpk121 hw134
          have hm140 : (out ++ ([(i : Int)])).length = out.length + 1 := List.length_append
          refine qd rfl rfl rfl (r_assign (v := u129) rfl) ?_
          refine qe ?_
          refine s_then ?_
          refine wp_exit ?_
          refine s_blkO rfl ?_
          refine s_thenE ?_
          refine s_lopE ?_
          refine s_blkE ?_
          refine s_blkN ?_
          refine s_then ?_
          refine c_reg ?_
          refine qd rfl rfl rfl (r_add rfl rfl (by omega)) ?_
          refine qd rfl rfl rfl (r_move (v := (.int .i64 ((i : Int) + 1))) rfl) ?_
          refine qe ?_
          refine s_lopN ?_
          refine ⟨_, ?_, _, rfl, _, i + 1, u129, out ++ ([(i : Int)]), q67, G68, (packS (x := 17) (packS (x := 16) (packS (x := 15) (packS (x := 7) (packS (x := 6) (packS (x := 2) (packS (x := 1) (pack1 (x := 0) rfl) rfl) rfl) rfl) rfl) rfl) rfl) rfl), rfl, hX135, (Pin.le_trans (Pin.le_trans (Pin.le_trans hlek21 hlek39) hx60.le) hx74.le), (by omega), (by rw [dom_hit (g := gX q xs) (lf := lf) (show j < xs.length by omega) ⟨h52, (geD_t h81).2 (decP_true.1 ((geB_same (ns_trans hqn29 hqn47)).symm.trans h82)), Or.inl (fun h => (decP_false.1 ((geB_same (ns_trans (ns_trans hqn29 hqn47) hqn59)).symm.trans h83)) ((geD_t h81).1 h))⟩, hout]), ho131, hpk137, hok71, (PX.trans (PX.trans (PX.trans hpx28 hpx46) hpx58) hpx72), (ns_trans (ns_trans (ns_trans hqn29 hqn47) hqn59) hqn73), hnp139⟩
          omega
        refine qs rfl rfl rfl rfl rfl rfl ?_
        refine qs rfl rfl rfl rfl rfl rfl ?_
        refine qs rfl rfl rfl rfl rfl rfl ?_
        refine qsu rfl rfl rfl rfl rfl ?_
        refine qsu rfl rfl rfl rfl rfl ?_
        refine qsu rfl rfl rfl rfl rfl ?_
        refine qs rfl rfl rfl rfl rfl rfl ?_
        refine qd rfl rfl rfl (r_pickF (v := (.bool false)) rfl rfl) ?_
        refine qe ?_
        refine s_then ?_
        refine c_ifF rfl rfl ?_
        refine wp_skip ?_
        refine s_blkN ?_
        refine s_then ?_
        refine c_reg ?_
        refine qd rfl rfl rfl (r_add rfl rfl (by omega)) ?_
        refine qd rfl rfl rfl (r_move (v := (.int .i64 ((j : Int) + 1))) rfl) ?_
        refine qe ?_
        refine s_lopN ?_
        refine ⟨_, ?_, _, rfl, _, j + 1, q67, G68, (packS (x := 24) (packS (x := 23) (packS (x := 22) (packS (x := 17) (packS (x := 16) (packS (x := 15) (packS (x := 9) (packS (x := 8) (packS (x := 7) (packS (x := 6) (packS (x := 2) (packS (x := 1) (pack1 (x := 0) rfl) rfl) rfl) rfl) rfl) rfl) rfl) rfl) rfl) rfl) rfl) rfl) rfl), rfl, hX75, (Pin.le_trans (Pin.le_trans hlek39 hx60.le) hx74.le), (by omega), (fun x h2 => if h3 : x = j then h3 ▸ (fun p => (decP_false.1 ((geB_same (ns_trans hqn29 hqn47)).symm.trans h82)) ((geD_t h81).1 p.2.1)) else hnd x (by omega)), ho76, hpk70, hok71, (PX.trans (PX.trans hpx46 hpx58) hpx72), (ns_trans (ns_trans hqn47 hqn59) hqn73)⟩
        omega
      refine c_reg ?_
      refine qd rfl rfl rfl (r_move (v := (.bool (geB q53.ns (xs.getD i 0) (xs.getD j 0)))) rfl) ?_
      refine qd rfl rfl rfl (r_move (v := (.bool (geB q38.ns (xs.getD j 0) (xs.getD i 0)))) rfl) ?_
      refine qd rfl rfl rfl (r_assign (v := (.bool (geB q53.ns (xs.getD i 0) (xs.getD j 0)))) rfl) ?_
      refine qd rfl rfl rfl (r_assign (v := (.bool (geB q38.ns (xs.getD j 0) (xs.getD i 0)))) rfl) ?_
      refine qe ?_
      refine s_then ?_
      refine s_seq ?_
      refine c_reg ?_
      refine qd rfl rfl rfl (r_move (v := (.bool (geB q53.ns (xs.getD i 0) (xs.getD j 0)))) rfl) ?_
      refine qd rfl rfl rfl (r_move (v := (.bool (geB q53.ns (xs.getD i 0) (xs.getD j 0)))) rfl) ?_
      refine qb (t := 45) rfl (fun h141 => ?_) (fun h141 => ?_)
      · skip
        refine qdg rfl rfl rfl rfl rfl rfl (r_move (v := (.bool (geB q38.ns (xs.getD j 0) (xs.getD i 0)))) rfl) ?_
        refine qdg rfl rfl rfl rfl rfl rfl (r_not rfl) ?_
        refine qdg rfl rfl rfl rfl rfl rfl (r_move (v := (.bool (!(geB q38.ns (xs.getD j 0) (xs.getD i 0))))) rfl) ?_
        refine qbn (t := 48) rfl (fun h142 => ?_) (fun h142 => ?_)
        · skip
          refine qdg rfl rfl rfl rfl rfl rfl (r_move (v := (.int .i64 (j : Int))) rfl) ?_
          refine qdg rfl rfl rfl rfl rfl rfl (r_move (v := (.int .i64 (i : Int))) rfl) ?_
          refine qdg rfl rfl rfl rfl rfl rfl (r_lss rfl rfl) ?_
          refine qdg rfl rfl rfl rfl rfl rfl (r_pickF (v := (.bool (decide (((j : Int) : Int) < (i : Int))))) rfl rfl) ?_
          refine qd rfl rfl rfl (r_pickT (v := (.bool (decide (((j : Int) : Int) < (i : Int))))) rfl rfl) ?_
          refine qe ?_
          refine s_then ?_
          refine c_ifd (p := ((j : Int) : Int) < (i : Int)) rfl rfl (fun h143 => ?_) (fun h143 => ?_)
          · skip
            refine s_seq ?_
            refine c_reg ?_
            refine qd rfl rfl rfl (r_move (v := ov) rfl) ?_
            refine qd rfl rfl rfl (r_move (v := (.int .i64 (i : Int))) rfl) ?_
            refine q1 rfl rfl rfl (o_buildF (E := eInt) (e := 3) [(.int .i64 (i : Int))] [(i : Int)] Tryd.underlying38 sz3 zr3 (by exact reps1 (by rfl)) (ones1 (by rfl)) rfl rfl rfl rfl (by decide) hX75.pins (fun u144 w145 ho146 hp147 hl148 hk149 => ?_))
            have hX150 := hX75.step hp147 hl148
            have ho151 := ho76.below hl148
            have hpk152 := hpk70.below hl148 hp147
            have ha153 : Apart u144.ownBlock ov.ownBlock := new_ne_own hk149 ho76.lt
            have ho159 : Own eInt 3 G68 w145 w.heap.size u144 ([(i : Int)]) := ho146.weaken hX75.size
            refine q1 rfl rfl rfl (o_append (E := eInt) (v := ov) (u := u144) 8 Tryd.underlying38 ap3 (by decide) rfl rfl hX150.pins ho151 ho159.src (by first | omega | (rw [List.nil_append]; omega) | (rw [List.length_nil]; omega) | (rw [List.length_append]; omega) | (simp; done) | (simp; omega) | (simp only [List.length_append, List.length_cons, List.length_nil]; omega)) (by first | omega | (rw [List.nil_append]; omega) | (rw [List.length_nil]; omega) | (rw [List.length_append]; omega) | (simp; done) | (simp; omega) | (simp only [List.length_append, List.length_cons, List.length_nil]; omega)) (hX150.size) (fun u160 w161 ho162 hp163 hg164 hw165 => ?_))
            have hX166 := hX150.write hp163 hg164 ((lo_own ho151))
            have hpk168 := hpk152.kept hg164 hp163 hnp30
            have ha169 : Apart u144.ownBlock u160.ownBlock := app_ne_own ha153 hw165 ho159.lt
            have hnp170 := np_app hnp30 hpk152 hw165
            have hm171 : (out ++ ([(i : Int)])).length = out.length + 1 := List.length_append
            refine qd rfl rfl rfl (r_assign (v := u160) rfl) ?_
            refine qe ?_
            refine s_then ?_
            refine wp_exit ?_
            refine s_blkO rfl ?_
            refine s_thenE ?_
            refine s_lopE ?_
            refine s_blkE ?_
            refine s_blkN ?_
            refine s_then ?_
            refine c_reg ?_
            refine qd rfl rfl rfl (r_add rfl rfl (by omega)) ?_
            refine qd rfl rfl rfl (r_move (v := (.int .i64 ((i : Int) + 1))) rfl) ?_
            refine qe ?_
            refine s_lopN ?_
            refine ⟨_, ?_, _, rfl, _, i + 1, u160, out ++ ([(i : Int)]), q67, G68, (packS (x := 17) (packS (x := 16) (packS (x := 15) (packS (x := 7) (packS (x := 6) (packS (x := 2) (packS (x := 1) (pack1 (x := 0) rfl) rfl) rfl) rfl) rfl) rfl) rfl) rfl), rfl, hX166, (Pin.le_trans (Pin.le_trans (Pin.le_trans hlek21 hlek39) hx60.le) hx74.le), (by omega), (by rw [dom_hit (g := gX q xs) (lf := lf) (show j < xs.length by omega) ⟨h52, (geD_f h81).2 (decP_true.1 ((geB_same (ns_trans (ns_trans hqn29 hqn47) hqn59)).symm.trans h141)), Or.inr h143⟩, hout]), ho162, hpk168, hok71, (PX.trans (PX.trans (PX.trans hpx28 hpx46) hpx58) hpx72), (ns_trans (ns_trans (ns_trans hqn29 hqn47) hqn59) hqn73), hnp170⟩
            omega
          refine wp_skip ?_
          refine s_blkN ?_
          refine s_then ?_
          refine c_reg ?_
          refine qd rfl rfl rfl (r_add rfl rfl (by omega)) ?_
          refine qd rfl rfl rfl (r_move (v := (.int .i64 ((j : Int) + 1))) rfl) ?_
          refine qe ?_
          refine s_lopN ?_
          refine ⟨_, ?_, _, rfl, _, j + 1, q67, G68, (packS (x := 24) (packS (x := 23) (packS (x := 22) (packS (x := 17) (packS (x := 16) (packS (x := 15) (packS (x := 9) (packS (x := 8) (packS (x := 7) (packS (x := 6) (packS (x := 2) (packS (x := 1) (pack1 (x := 0) rfl) rfl) rfl) rfl) rfl) rfl) rfl) rfl) rfl) rfl) rfl) rfl) rfl), rfl, hX75, (Pin.le_trans (Pin.le_trans hlek39 hx60.le) hx74.le), (by omega), (fun x h2 => if h3 : x = j then h3 ▸ (fun p => p.2.2.elim (fun h => h ((geD_f h81).2 (decP_true.1 ((geB_same (ns_trans hqn29 hqn47)).symm.trans h142)))) h143) else hnd x (by omega)), ho76, hpk70, hok71, (PX.trans (PX.trans hpx46 hpx58) hpx72), (ns_trans (ns_trans hqn47 hqn59) hqn73)⟩
          omega
        refine qs rfl rfl rfl rfl rfl rfl ?_
        refine qs rfl rfl rfl rfl rfl rfl ?_
        refine qs rfl rfl rfl rfl rfl rfl ?_
        refine qdg rfl rfl rfl rfl rfl rfl (r_pickT (v := (.bool true)) rfl rfl) ?_
        refine qd rfl rfl rfl (r_pickT (v := (.bool true)) rfl rfl) ?_
        refine qe ?_
        refine s_then ?_
        refine c_ifT rfl rfl ?_
        refine s_seq ?_
        refine c_reg ?_
        refine qd rfl rfl rfl (r_move (v := ov) rfl) ?_
        refine qd rfl rfl rfl (r_move (v := (.int .i64 (i : Int))) rfl) ?_
        refine q1 rfl rfl rfl (o_buildF (E := eInt) (e := 3) [(.int .i64 (i : Int))] [(i : Int)] Tryd.underlying38 sz3 zr3 (by exact reps1 (by rfl)) (ones1 (by rfl)) rfl rfl rfl rfl (by decide) hX75.pins (fun u172 w173 ho174 hp175 hl176 hk177 => ?_))
        have hX178 := hX75.step hp175 hl176
        have ho179 := ho76.below hl176
        have hpk180 := hpk70.below hl176 hp175
        have ha181 : Apart u172.ownBlock ov.ownBlock := new_ne_own hk177 ho76.lt
        have ho187 : Own eInt 3 G68 w173 w.heap.size u172 ([(i : Int)]) := ho174.weaken hX75.size
        refine q1 rfl rfl rfl (o_append (E := eInt) (v := ov) (u := u172) 8 Tryd.underlying38 ap3 (by decide) rfl rfl hX178.pins ho179 ho187.src (by first | omega | (rw [List.nil_append]; omega) | (rw [List.length_nil]; omega) | (rw [List.length_append]; omega) | (simp; done) | (simp; omega) | (simp only [List.length_append, List.length_cons, List.length_nil]; omega)) (by first | omega | (rw [List.nil_append]; omega) | (rw [List.length_nil]; omega) | (rw [List.length_append]; omega) | (simp; done) | (simp; omega) | (simp only [List.length_append, List.length_cons, List.length_nil]; omega)) (hX178.size) (fun u188 w189 ho190 hp191 hg192 hw193 => ?_))
        have hX194 := hX178.write hp191 hg192 ((lo_own ho179))
        have hpk196 := hpk180.kept hg192 hp191 hnp30
        have ha197 : Apart u172.ownBlock u188.ownBlock := app_ne_own ha181 hw193 ho187.lt
        have hnp198 := np_app hnp30 hpk180 hw193
        have hm199 : (out ++ ([(i : Int)])).length = out.length + 1 := List.length_append
        refine qd rfl rfl rfl (r_assign (v := u188) rfl) ?_
        refine qe ?_
        refine s_then ?_
        refine wp_exit ?_
        refine s_blkO rfl ?_
        refine s_thenE ?_
        refine s_lopE ?_
        refine s_blkE ?_
        refine s_blkN ?_
        refine s_then ?_
        refine c_reg ?_
        refine qd rfl rfl rfl (r_add rfl rfl (by omega)) ?_
        refine qd rfl rfl rfl (r_move (v := (.int .i64 ((i : Int) + 1))) rfl) ?_
        refine qe ?_
        refine s_lopN ?_
        refine ⟨_, ?_, _, rfl, _, i + 1, u188, out ++ ([(i : Int)]), q67, G68, (packS (x := 17) (packS (x := 16) (packS (x := 15) (packS (x := 7) (packS (x := 6) (packS (x := 2) (packS (x := 1) (pack1 (x := 0) rfl) rfl) rfl) rfl) rfl) rfl) rfl) rfl), rfl, hX194, (Pin.le_trans (Pin.le_trans (Pin.le_trans hlek21 hlek39) hx60.le) hx74.le), (by omega), (by rw [dom_hit (g := gX q xs) (lf := lf) (show j < xs.length by omega) ⟨h52, (geD_f h81).2 (decP_true.1 ((geB_same (ns_trans (ns_trans hqn29 hqn47) hqn59)).symm.trans h141)), Or.inl (fun h => (decP_false.1 ((geB_same (ns_trans hqn29 hqn47)).symm.trans h142)) ((geD_f h81).1 h))⟩, hout]), ho190, hpk196, hok71, (PX.trans (PX.trans (PX.trans hpx28 hpx46) hpx58) hpx72), (ns_trans (ns_trans (ns_trans hqn29 hqn47) hqn59) hqn73), hnp198⟩
        omega
      refine qs rfl rfl rfl rfl rfl rfl ?_
      refine qs rfl rfl rfl rfl rfl rfl ?_
      refine qs rfl rfl rfl rfl rfl rfl ?_
      refine qsu rfl rfl rfl rfl rfl ?_
      refine qsu rfl rfl rfl rfl rfl ?_
      refine qsu rfl rfl rfl rfl rfl ?_
      refine qs rfl rfl rfl rfl rfl rfl ?_
      refine qd rfl rfl rfl (r_pickF (v := (.bool false)) rfl rfl) ?_
      refine qe ?_
      refine s_then ?_
      refine c_ifF rfl rfl ?_
      refine wp_skip ?_
      refine s_blkN ?_
      refine s_then ?_
      refine c_reg ?_
      refine qd rfl rfl rfl (r_add rfl rfl (by omega)) ?_
      refine qd rfl rfl rfl (r_move (v := (.int .i64 ((j : Int) + 1))) rfl) ?_
      refine qe ?_
      refine s_lopN ?_
      refine ⟨_, ?_, _, rfl, _, j + 1, q67, G68, (packS (x := 24) (packS (x := 23) (packS (x := 22) (packS (x := 17) (packS (x := 16) (packS (x := 15) (packS (x := 9) (packS (x := 8) (packS (x := 7) (packS (x := 6) (packS (x := 2) (packS (x := 1) (pack1 (x := 0) rfl) rfl) rfl) rfl) rfl) rfl) rfl) rfl) rfl) rfl) rfl) rfl) rfl), rfl, hX75, (Pin.le_trans (Pin.le_trans hlek39 hx60.le) hx74.le), (by omega), (fun x h2 => if h3 : x = j then h3 ▸ (fun p => (decP_false.1 ((geB_same (ns_trans (ns_trans hqn29 hqn47) hqn59)).symm.trans h141)) ((geD_f h81).1 p.2.1)) else hnd x (by omega)), ho76, hpk70, hok71, (PX.trans (PX.trans hpx46 hpx58) hpx72), (ns_trans (ns_trans hqn47 hqn59) hqn73)⟩
      omega
    refine wp_exit ?_
    refine s_thenE ?_
    refine s_lopE ?_
    refine s_blkE ?_
    refine s_blkN ?_
    refine s_then ?_
    refine c_reg ?_
    refine qd rfl rfl rfl (r_add rfl rfl (by omega)) ?_
    refine qd rfl rfl rfl (r_move (v := (.int .i64 ((i : Int) + 1))) rfl) ?_
    refine qe ?_
    refine s_lopN ?_
    refine ⟨_, ?_, _, rfl, _, i + 1, ov, out, q38, GL2, (packS (x := 17) (packS (x := 16) (packS (x := 15) (packS (x := 7) (packS (x := 6) (packS (x := 2) (packS (x := 1) (pack1 (x := 0) rfl) rfl) rfl) rfl) rfl) rfl) rfl) rfl), rfl, hX42, (Pin.le_trans hlek21 hlek39), (by omega), (by rw [dom_miss (fun x h => hnd x (by omega)), hout]), hw43, hpk44, hok45, (PX.trans hpx28 hpx46), (ns_trans hqn29 hqn47), hnp30⟩
    omega
  refine wp_exit ?_
  refine s_thenE ?_
  refine s_lopE ?_
  refine s_blkE ?_
  refine s_then ?_
  refine s_seq ?_
  refine c_reg ?_
  refine qd rfl rfl rfl (r_move (v := ov) rfl) ?_
  refine qd rfl rfl rfl (r_assign (v := ov) rfl) ?_
  refine qe ?_
  refine s_then ?_
  refine wp_ret ?_
  refine s_ret ?_
  refine c_ret1 (v := ov) rfl rfl rfl ?_
  have hin : i = xs.length := by omega
  rw [hin] at hout
  exact ⟨_, q20, _, rfl, (by rw [← hout]; exact hw25), hpk26, hok27, hpx28, hqn29, hX24⟩

end DI1
end Go.Proofs.YtndhhpaldhlghaaDoor
