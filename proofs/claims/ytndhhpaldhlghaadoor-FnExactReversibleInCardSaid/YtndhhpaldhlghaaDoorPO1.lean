/- Walks, printed by a program (walkgen.py) from the spec specs_po. -/
import Derived.Test.YtndhhpaldhlghaaDoorChecked
import Derived.Test.YtndhhpaldhlghaaDoorRow
import Derived.Test.YtndhhpaldhlghaaDoorPool
import Derived.Test.YtndhhpaldhlghaaDoorShelf
import Derived.Test.YtndhhpaldhlghaaDoorB1
import Derived.Test.YtndhhpaldhlghaaDoorK1
set_option maxRecDepth 20000
set_option maxHeartbeats 2000000
namespace Go.Proofs.YtndhhpaldhlghaaDoor
namespace PO1
open Go.RowKit Go.GL Go.Proofs
open Go.Proofs.YtndhhpaldhlghaaDoor.B1
open Go.Proofs.YtndhhpaldhlghaaDoor.K1
theorem ag3 : (Tryd.prog.underlying 3).map aggD = some false := by kernel_rfl
theorem ag38 : (Tryd.prog.underlying 38).map aggD = some false := by kernel_rfl
theorem ag93 : (Tryd.prog.underlying 93).map aggD = some false := by kernel_rfl
theorem ag97 : (Tryd.prog.underlying 97).map aggD = some false := by kernel_rfl
theorem ap3 : (Tryd.prog.info? 3).map (fun i => (i.size, i.bytes, (i.zero.map (·.cells.size)))) = some (1, 8, some 1) := by kernel_rfl
theorem ap38 : (Tryd.prog.info? 38).map (fun i => (i.size, i.bytes, (i.zero.map (·.cells.size)))) = some (1, 24, some 1) := by kernel_rfl
theorem ap5 : (Tryd.prog.info? 5).map (fun i => (i.size, i.bytes, (i.zero.map (·.cells.size)))) = some (1, 1, some 1) := by kernel_rfl
theorem mk5 : (Tryd.prog.info? 5).map (fun i => (i.size, i.bytes, i.zero)) = some (1, 1, some (.int .u8 0)) := by kernel_rfl
theorem nm91 : (Tryd.f91.name == "runtime.NumGoroutine") = false := by kernel_rfl
theorem nm92 : (Tryd.f92.name == "runtime.NumGoroutine") = false := by kernel_rfl
theorem nm94 : (Tryd.f94.name == "runtime.NumGoroutine") = false := by kernel_rfl
theorem nm95 : (Tryd.f95.name == "runtime.NumGoroutine") = false := by kernel_rfl
theorem nm96 : (Tryd.f96.name == "runtime.NumGoroutine") = false := by kernel_rfl
theorem nz38 : (Tryd.prog.info? 38).map (·.size == 0) = some false := by kernel_rfl
theorem nz93 : (Tryd.prog.info? 93).map (·.size == 0) = some false := by kernel_rfl
theorem nz97 : (Tryd.prog.info? 97).map (·.size == 0) = some false := by kernel_rfl
theorem sz3 : (Tryd.prog.info? 3).map (·.size) = some 1 := by kernel_rfl
theorem sz38 : (Tryd.prog.info? 38).map (·.size) = some 1 := by kernel_rfl
theorem sz5 : (Tryd.prog.info? 5).map (·.size) = some 1 := by kernel_rfl
theorem sz97 : (Tryd.prog.info? 97).map (·.size) = some 1 := by kernel_rfl
theorem zr3 : (Tryd.prog.info? 3).bind (·.zero) = some (.int .i64 0) := by kernel_rfl
theorem zr38 : (Tryd.prog.info? 38).bind (·.zero) = some (.slice none 0 0) := by kernel_rfl
theorem zr5 : (Tryd.prog.info? 5).bind (·.zero) = some (.int .u8 0) := by kernel_rfl

theorem clone_spec {w : World} {G : Pin} {v : Value} {xs : List Int} (hP : Pins G w) (hv : RSl eInt G v xs) (hs : xs.length ≤ 1048576) :
    Calls Tryd.prog 94 [v].toArray w fun e w' => ∃ (u : Value) (G' : Pin), e = .returned u ∧ Own eInt 3 G' w' w.heap.size u xs ∧ Ext noS G w G' w' := by
  refine s_enter (n := 8) Tryd.func94 Tryd.ntmps94 rfl rfl ?_
  have hX0 : Ext noS G w G w := Ext.refl hP
  refine s_seq ?_
  refine c_reg ?_
  refine qd rfl rfl rfl (r_assign (v := (.slice none 0 0)) rfl) ?_
  refine qe ?_
  refine s_then ?_
  refine s_seq ?_
  refine s_seq ?_
  refine c_reg ?_
  refine qd rfl rfl rfl (r_move (v := v) rfl) ?_
  refine qd rfl rfl rfl (r_eqlNil Tryd.underlying38 hv rfl rfl) ?_
  refine qe ?_
  refine s_then ?_
  refine c_if rfl rfl (fun h1 => ?_) (fun h1 => ?_)
  · skip
    refine s_seq ?_
    refine c_reg ?_
    refine qd rfl rfl rfl (r_assign (v := (.slice none 0 0)) rfl) ?_
    refine qe ?_
    refine s_then ?_
    refine wp_ret ?_
    refine s_ret ?_
    refine c_ret1 (v := (.slice none 0 0)) rfl rfl rfl ?_
    have hx0 := nil_of hv h1
    subst hx0
    exact ⟨_, _, rfl, Own.nil _ _ _ _ _, hX0⟩
  refine wp_skip ?_
  refine s_then ?_
  refine s_seq ?_
  refine c_reg ?_
  refine q1 rfl rfl rfl (o_build0 (E := eInt) (e := 3) Tryd.underlying38 sz3 hX0.pins (fun u2 w3 ho4 hp5 hl6 hk7 => ?_))
  have hX8 := hX0.step hp5 hl6
  have ho9 : Own eInt 3 G w3 w.heap.size u2 ([]) := ho4.weaken hX0.size
  refine qd rfl rfl rfl (r_move (v := v) rfl) ?_
  refine q1 rfl rfl rfl (o_append (E := eInt) (v := u2) (u := v) 8 Tryd.underlying38 ap3 (by decide) rfl rfl hX8.pins ho9 ((hv.mono (Pin.le_refl _)).src hX8.pins (by decide)) (by first | omega | (rw [List.nil_append]; omega) | (rw [List.length_nil]; omega) | (rw [List.length_append]; omega) | (simp; done) | (simp; omega) | (simp only [List.length_append, List.length_cons, List.length_nil]; omega)) (by first | omega | (rw [List.nil_append]; omega) | (rw [List.length_nil]; omega) | (rw [List.length_append]; omega) | (simp; done) | (simp; omega) | (simp only [List.length_append, List.length_cons, List.length_nil]; omega)) (hX8.size) (fun u10 w11 ho12 hp13 hg14 hw15 => ?_))
  have hX16 := hX8.write hp13 hg14 ((lo_own ho9))
  have hm17 : (([]) ++ xs).length = ([]).length + xs.length := List.length_append
  refine qd rfl rfl rfl (r_assign (v := u10) rfl) ?_
  refine qe ?_
  refine s_then ?_
  refine wp_ret ?_
  refine s_ret ?_
  refine c_ret1 (v := u10) rfl rfl rfl ?_
  exact ⟨_, _, rfl, ho12, hX16⟩

theorem sortI_spec {w : World} {G : Pin} {e base : Nat} {v : Value} {xs : List Int} (hP : Pins G w) (hv : Own eInt e G w base v xs) (hl : xs.length ≤ 1073741824) :
    Calls Tryd.prog 95 [v].toArray w fun en w' => ∃ G', en = .returned (.tuple #[]) ∧ Own eInt e G' w' base v (sortM xs) ∧ Ext (inO v.ownBlock) G w G' w' := by
  rcases own_cases hv with ⟨rfl, rfl⟩ | ⟨g, cap, rfl⟩
  · refine (Tryd.slices_Sort_int_none none 0 w).mono ?_
    rintro en w' ⟨rfl, rfl⟩
    exact ⟨G, rfl, by simpa [sortM] using hv, Ext.refl hP⟩
  · obtain ⟨_, h1, h2, h3⟩ := own_holds hv
    refine (Tryd.slices_Sort_int g 0 cap xs w h3 h1 (by omega)).mono ?_
    rintro en w' ⟨rfl, m, os, hw⟩
    obtain ⟨a, b, c⟩ := own_put (ys := sortM xs) hv hP hw (sortM_length xs) (List.take_length ..)
    rw [sortM_length] at a
    exact ⟨G, rfl, a, Ext.one b c⟩
theorem compactI_spec {w : World} {G : Pin} {e base : Nat} {v : Value} {xs : List Int} (hP : Pins G w) (hv : Own eInt e G w base v xs) (hl : xs.length ≤ 1073741824) :
    Calls Tryd.prog 96 [v].toArray w fun en w' => ∃ (u : Value) (G' : Pin), en = .returned u ∧ Own eInt e G' w' base u (Go.Lib.compact xs) ∧ Lo w (inO v.ownBlock) u.ownBlock ∧ Ext (inO v.ownBlock) G w G' w' := by
  rcases own_cases hv with ⟨rfl, rfl⟩ | ⟨g, cap, rfl⟩
  · refine (Tryd.slices_Compact_int_empty none 0 w).mono ?_
    rintro en w' ⟨rfl, rfl⟩
    exact ⟨_, G, rfl, hv, lo_self, Ext.refl hP⟩
  · obtain ⟨_, h1, h2, h3⟩ := own_holds hv
    refine (Tryd.slices_Compact_int g 0 cap xs w h3 (by omega) h2).mono ?_
    rintro en w' ⟨rfl, m, hw⟩
    have hcl := compact_len xs
    obtain ⟨a, b, c⟩ := own_put (os := #[]) (ys := Go.Lib.compact xs) hv hP (hw.trans (Go.Sort.grow_empty _).symm) (by simp; omega) (List.take_left ..)
    exact ⟨_, G, rfl, a, lo_self, Ext.one b c⟩

theorem distinct_spec {w : World} {G : Pin} {v : Value} {xs : List Int} (hP : Pins G w) (hv : RSl eInt G v xs) (hs : xs.length ≤ 1048576) :
    Calls Tryd.prog 91 [v].toArray w fun e w' => ∃ (u : Value) (G' : Pin), e = .returned u ∧ Own eInt 3 G' w' w.heap.size u (sortL xs) ∧ Ext noS G w G' w' := by
  refine s_enter (n := 10) Tryd.func91 Tryd.ntmps91 rfl rfl ?_
  have hX0 : Ext noS G w G w := Ext.refl hP
  refine s_seq ?_
  refine c_reg ?_
  refine qd rfl rfl rfl (r_assign (v := (.slice none 0 0)) rfl) ?_
  refine qe ?_
  refine s_then ?_
  refine s_seq ?_
  refine c_reg ?_
  refine qd rfl rfl rfl (r_move (v := v) rfl) ?_
  refine q1 rfl rfl rfl (o_call (vs := [v]) Tryd.func94 nm94 rfl rfl rfl ?_)
  refine Calls.mono (clone_spec hX0.pins hv (by omega)) ?_
  rintro _ w3 ⟨u1, G2, rfl, ho4, hx5⟩
  refine ⟨_, rfl, ?_⟩
  have hX6 := hX0.tr hx5
  have ho7 : Own eInt 3 G2 w3 w.heap.size u1 xs := ho4.weaken hX0.size
  refine qd rfl rfl rfl (r_assign (v := u1) rfl) ?_
  refine qe ?_
  refine s_then ?_
  refine s_seq ?_
  refine c_reg ?_
  refine qd rfl rfl rfl (r_move (v := u1) rfl) ?_
  refine q1 rfl rfl rfl (o_call (vs := [u1]) Tryd.func95 nm95 rfl rfl rfl ?_)
  refine Calls.mono (sortI_spec hX6.pins ho7 (by omega)) ?_
  rintro _ w9 ⟨G8, rfl, ho10, hx11⟩
  refine ⟨_, rfl, ?_⟩
  have hX12 := hX6.trans hx11 (fun i hi => (lo_own ho7) i hi)
  have hm13 := sortM_length xs
  refine qe ?_
  refine s_then ?_
  refine s_seq ?_
  refine c_reg ?_
  refine qd rfl rfl rfl (r_move (v := u1) rfl) ?_
  refine q1 rfl rfl rfl (o_call (vs := [u1]) Tryd.func96 nm96 rfl rfl rfl ?_)
  refine Calls.mono (compactI_spec hX12.pins (ho10.weaken (Nat.zero_le _)) (by omega)) ?_
  rintro _ w16 ⟨u14, G15, rfl, ho17, hlo18, hx19⟩
  refine ⟨_, rfl, ?_⟩
  have hX20 := hX12.trans hx19 (fun i hi => (lo_own ho10) i hi)
  have ho21 := ho17.up (lo := w.heap.size) (fun k hk => (hlo18 k hk).elim (fun h => Nat.le_trans hX12.size h) (fun h => (ho10.lt k h).1))
  refine qd rfl rfl rfl (r_assign (v := u14) rfl) ?_
  refine qe ?_
  refine s_then ?_
  refine wp_ret ?_
  refine s_ret ?_
  refine c_ret1 (v := u14) rfl rfl rfl ?_
  exact ⟨_, _, rfl, (by rw [← distinct_eq]; simpa using ho21), hX20⟩

theorem node_spec {w : World} {G : Pin} {p : Nat} {L R B : Value} {mm : PM} {q : PSt} (hP : Pins G w) (hpk : Pk 38 3 G w p L R B mm q) (hok : PoolOk q) {x y : Value} {xs ys : List Int} (hx : RSl eInt G x xs) (hy : RSl eInt G y ys) (hlim : q.ns.length + 1 ≤ 1048576) (hls : xs.length ≤ 1048576 ∧ ys.length ≤ 1048576) (hk1 : ∀ i, i < xs.length → 0 ≤ xs.getD i 0 ∧ xs.getD i 0 < q.ns.length) (hk2 : ∀ i, i < ys.length → 0 ≤ ys.getD i 0 ∧ ys.getD i 0 < q.ns.length) :
    Calls Tryd.prog 88 [(.pointer (some ⟨p, 0, none⟩)), x, y].toArray w fun e w' => ∃ (z : Int) (L' R' B' : Value) (q' : PSt) (G' : Pin), e = .returned (.int .i64 z) ∧ Pk 38 3 G' w' p L' R' B' mm q' ∧ PoolOk q' ∧ PX q q' ∧ PLo w p L R B mm L' R' B' ∧ Ext (inP p L R B mm) G w G' w' ∧ PlaceOk q' z ∧ pd q' z = mkG (xs.map (pd q)) (ys.map (pd q)) ∧ q'.ns.length ≤ q.ns.length + 1 := by
  refine s_enter (n := 130) Tryd.func88 Tryd.ntmps88 rfl rfl ?_
  have hX0 : Ext (inP p L R B mm) G w G w := Ext.refl hP
  have hpin : PIn w (inP p L R B mm) p L R B mm := PIn.self
  have hml1 : (q.ns.map Nd.l).length = q.ns.length ∧ (q.ns.map Nd.r).length = q.ns.length := ⟨List.length_map .., List.length_map ..⟩
  have hml2 : q.bs.length = q.ns.length ∧ q.ns.length ≤ 1048576 := ⟨hok.ar.ok.len, hok.ar.ok.lim⟩
  obtain ⟨xs2, hxs2⟩ : ∃ l, l = sortL xs := ⟨_, rfl⟩
  obtain ⟨ys2, hys2⟩ : ∃ l, l = sortL ys := ⟨_, rfl⟩
  have hb1 := sort_bounds hk1
  have hb2 := sort_bounds hk2
  rw [← hxs2] at hb1
  rw [← hys2] at hb2
  have hsl1 : xs2.length ≤ 1048576 := by rw [hxs2]; exact Nat.le_trans sort_length hls.1
  have hsl2 : ys2.length ≤ 1048576 := by rw [hys2]; exact Nat.le_trans sort_length hls.2
  refine s_seq ?_
  refine c_reg ?_
  refine qd rfl rfl rfl (r_assign (v := (.int .i64 0)) rfl) ?_
  refine qe ?_
  refine s_then ?_
  refine s_seq ?_
  refine c_reg ?_
  refine qd rfl rfl rfl (r_move (v := x) rfl) ?_
  refine q1 rfl rfl rfl (o_call (vs := [x]) Tryd.func91 nm91 rfl rfl rfl ?_)
  refine Calls.mono (distinct_spec hX0.pins hx (by omega)) ?_
  rintro _ w5 ⟨u3, G4, rfl, ho6, hx7⟩
  refine ⟨_, rfl, ?_⟩
  rw [← hxs2] at ho6
  have hX8 := hX0.tr hx7
  have hpk9 := hpk.ext hx7
  have hnp10 := hpk.new (x := u3.ownBlock) (fun k hk => (ho6.lt k hk).1)
  have ho11 : Own eInt 3 G4 w5 w.heap.size u3 xs2 := ho6.weaken hX0.size
  refine qd rfl rfl rfl (r_move (v := y) rfl) ?_
  refine q1 rfl rfl rfl (o_call (vs := [y]) Tryd.func91 nm91 rfl rfl rfl ?_)
  refine Calls.mono (distinct_spec hX8.pins (hy.mono hx7.le) (by omega)) ?_
  rintro _ w14 ⟨u12, G13, rfl, ho15, hx16⟩
  refine ⟨_, rfl, ?_⟩
  rw [← hys2] at ho15
  have hX17 := hX8.tr hx16
  have ho18 := ho11.ext hx16
  have hpk19 := hpk9.ext hx16
  have ha20 : Apart u12.ownBlock u3.ownBlock := made_ne_own ho15.lt ho11.lt
  have hnp21 := hpk9.new (x := u12.ownBlock) (fun k hk => (ho15.lt k hk).1)
  have ho22 : Own eInt 3 G13 w14 w.heap.size u12 ys2 := ho15.weaken hX8.size
  refine qd rfl rfl rfl (r_assign (v := u3) rfl) ?_
  refine qd rfl rfl rfl (r_assign (v := u12) rfl) ?_
  refine qe ?_
  refine s_then ?_
  refine s_seq ?_
  refine c_reg ?_
  refine qd rfl rfl rfl (r_move (v := u3) rfl) ?_
  refine qd rfl rfl rfl (run_len Tryd.underlying38 (v := u3) rfl ho18.read) ?_
  refine qd rfl rfl rfl (r_move (v := u12) rfl) ?_
  refine qd rfl rfl rfl (run_len Tryd.underlying38 (v := u12) rfl ho22.read) ?_
  refine qd rfl rfl rfl (r_add rfl rfl (by omega)) ?_
  refine qd rfl rfl rfl (r_mul rfl rfl (by omega)) ?_
  refine qd rfl rfl rfl (r_add rfl rfl (by omega)) ?_
  refine q1 rfl rfl rfl (o_make0 (E := eByte) Tryd.underlying113 mk5 rfl rfl hX17.pins (by omega) (by omega) (by omega) (fun u23 w24 ho25 hp26 hl27 hk28 => ?_))
  have hX29 := hX17.step hp26 hl27
  have ho30 := ho18.below hl27
  have ho31 := ho22.below hl27
  have hpk32 := hpk19.below hl27 hp26
  have ha33 : Apart u23.ownBlock u3.ownBlock := new_ne_own hk28 ho18.lt
  have ha37 : Apart u23.ownBlock u12.ownBlock := new_ne_own hk28 ho22.lt
  have ha39 := hpk19.new (x := u23.ownBlock) (fun k hk => by rw [hk28] at hk; cases hk; exact Nat.le_refl _)
  have ho40 : Own eByte 5 G13 w24 w.heap.size u23 ([]) := ho25.weaken hX17.size
  refine qd rfl rfl rfl (r_assign (v := u23) rfl) ?_
  refine qe ?_
  refine s_then ?_
  refine s_seq ?_
  refine c_reg ?_
  refine qd rfl rfl rfl (r_assign (v := (.int .i64 0)) rfl) ?_
  refine qe ?_
  refine s_then ?_
  refine s_seq ?_
  refine s_seq ?_
  refine c_reg ?_
  refine qd rfl rfl rfl (r_move (v := u3) rfl) ?_
  refine qd rfl rfl rfl (run_len Tryd.underlying38 (v := u3) rfl ho30.read) ?_
  refine qd rfl rfl rfl (r_move (v := (.int .i64 0)) rfl) ?_
  refine qe ?_
  refine s_then ?_
  refine s_blk ?_
  refine s_loop (fun (k : Nat) (en : Nat → Value) (W : World) => ∃ (env1 : Nat → Value) (i : Nat) (kva : Value) (kxa : List UInt8) (bn : Int) (GLa : Pin), en = (upd (upd (upd (upd (upd (upd (upd (upd (upd env1 0 (.pointer (some ⟨p, 0, none⟩))) 1 u3) 2 u12) 6 (.int .i64 0)) 7 kva) 8 (.int .i64 bn)) 28 u3) 29 (.int .i64 (xs2.length : Int))) 30 (.int .i64 (i : Int))) ∧ k = xs2.length - i ∧ Ext (inP p L R B mm) G w GLa W ∧ Pin.le G13 GLa ∧ (i ≤ xs2.length) ∧ (kxa = keyL (xs2.take i)) ∧ (bn = bornOf q.bs (xs2.take i) 0) ∧ (0 ≤ bn ∧ bn ≤ q.ns.length) ∧ (Own eByte 5 GLa W w.heap.size kva (kxa)) ∧ (Own eInt 3 GLa W w.heap.size u3 (xs2)) ∧ (Own eInt 3 GLa W w.heap.size u12 (ys2)) ∧ (Apart kva.ownBlock u3.ownBlock) ∧ (Apart kva.ownBlock u12.ownBlock) ∧ (Pk 38 3 GLa W p L R B mm q) ∧ (NP p L R B mm kva.ownBlock)) _ ⟨_, 0, u23, [], 0, G13, (packS (x := 30) (packS (x := 29) (packS (x := 28) (packS (x := 8) (packS (x := 7) (packS (x := 6) (packS (x := 2) (packS (x := 1) (pack1 (x := 0) rfl) rfl) rfl) rfl) rfl) rfl) rfl) rfl) rfl), rfl, hX29, Pin.le_refl _, Nat.zero_le _, (by simp [keyL]), rfl, (by omega), ho40, ho30, ho31, ha33, ha37, hpk32, ha39⟩ ?_
  rintro k45 _ w46 ⟨env1, i, kva, kxa, bn, GLa, rfl, hk47, hX48, hlek45, hji, hka, hbbn, hlbn, hw49, hw50, hw51, ha52, ha53, hpk54, hnp55⟩
  have hkla : kxa.length ≤ 117440640 := by
    have := key_bound (j := i) hb1 hok.ar.ok.lim
    rw [hka]; omega
  refine s_seq ?_
  refine c_reg ?_
  refine qd rfl rfl rfl (r_lss rfl rfl) ?_
  refine qe ?_
  refine s_then ?_
  refine s_seq ?_
  refine c_ifd (p := ((i : Int) : Int) < (xs2.length : Int)) rfl rfl (fun h56 => ?_) (fun h56 => ?_)
  · skip
    have hki := hb1 i (by omega)
    have hbk := hok.ar.ok.born (xs2.getD i 0).toNat (by omega)
    have hd13 := dig13 (n := (xs2.getD i 0).toNat) (by omega)
    refine wp_skip ?_
    refine s_then ?_
    refine s_seq ?_
    refine s_blk ?_
    refine s_seq ?_
    refine c_reg ?_
    refine qd rfl rfl rfl (run_idx Tryd.underlying38 sz3 (v := u3) rfl rfl hw50.read (by omega) (by omega)) ?_
    refine qd rfl rfl rfl (run_load_int (r := xs2.getD i 0) rfl ag3 (z := (i : Int)) rfl hw50.read (Gadd.pins hX48.pins u3) (by omega) (by omega)) ?_
    refine qd rfl rfl rfl (r_assign (v := (.int .i64 (xs2.getD i 0))) rfl) ?_
    refine qe ?_
    refine s_then ?_
    refine s_seq ?_
    refine c_reg ?_
    refine qd rfl rfl rfl (r_move (v := kva) rfl) ?_
    refine qd rfl rfl rfl (r_move (v := (.int .i64 (xs2.getD i 0))) rfl) ?_
    refine q1 rfl rfl rfl (o_call (vs := [kva, (.int .i64 (xs2.getD i 0)), (.int .i64 36)]) Tryd.func92 nm92 rfl rfl rfl ?_)
    refine Calls.mono (appendInt_spec (i := xs2.getD i 0) hX48.pins (hw49.weaken (Nat.zero_le _)) (by omega) (by omega)) ?_
    rintro _ w59 ⟨u57, G58, rfl, ho60, hlo61, hx62⟩
    refine ⟨_, rfl, ?_⟩
    have hnp63 := np_turn hnp55 hpk54 hlo61
    have hX64 := hX48.trans hx62 (fun i hi => (lo_own hw49) i hi)
    have ho65 := hw50.extS hx62 (notO ha52.symm)
    have ho66 := hw51.extS hx62 (notO ha53.symm)
    have hpk67 := hpk54.extS hx62 (fun k hk hx => hnp55 k hx hk)
    have ha68 : Apart u3.ownBlock u57.ownBlock := ap_turn hlo61 ha52.symm (own_lt hw50)
    have ha69 : Apart u12.ownBlock u57.ownBlock := ap_turn hlo61 ha53.symm (own_lt hw51)
    have ho70 := ho60.up (lo := w.heap.size) (fun k hk => (hlo61 k hk).elim (fun h => Nat.le_trans hX48.size h) (fun h => (hw49.lt k h).1))
    have hm71 : (kxa ++ dig36 (xs2.getD i 0).toNat).length = kxa.length + (dig36 (xs2.getD i 0).toNat).length := List.length_append
    refine q1 rfl rfl rfl (o_buildF (E := eByte) (e := 5) [(.int .u8 44)] [44] Tryd.underlying113 sz5 zr5 (by exact reps1 (by rfl)) (ones1 (by rfl)) rfl rfl rfl rfl (by decide) hX64.pins (fun u72 w73 ho74 hp75 hl76 hk77 => ?_))
    have hX78 := hX64.step hp75 hl76
    have ho79 := ho65.below hl76
    have ho80 := ho66.below hl76
    have ho81 := ho70.below hl76
    have hpk82 := hpk67.below hl76 hp75
    have ha88 : Apart u72.ownBlock u57.ownBlock := new_ne_own hk77 ho70.lt
    have ho91 : Own eByte 5 G58 w73 w.heap.size u72 ([44]) := ho74.weaken hX64.size
    refine q1 rfl rfl rfl (o_append (E := eByte) (v := u57) (u := u72) 1 Tryd.underlying113 ap5 (by decide) rfl rfl hX78.pins ho81 ho91.src (by first | omega | (rw [List.nil_append]; omega) | (rw [List.length_nil]; omega) | (rw [List.length_append]; omega) | (simp; done) | (simp; omega) | (simp only [List.length_append, List.length_cons, List.length_nil]; omega)) (by first | omega | (rw [List.nil_append]; omega) | (rw [List.length_nil]; omega) | (rw [List.length_append]; omega) | (simp; done) | (simp; omega) | (simp only [List.length_append, List.length_cons, List.length_nil]; omega)) (hX78.size) (fun u92 w93 ho94 hp95 hg96 hw97 => ?_))
    have hX98 := hX78.write hp95 hg96 ((lo_own ho81))
    have ho99 := ho79.keptA hg96 ha68
    have ho100 := ho80.keptA hg96 ha69
    have hpk102 := hpk82.kept hg96 hp95 hnp63
    have ha103 : Apart u3.ownBlock u92.ownBlock := app_ne_own ha68 hw97 ho79.lt
    have ha104 : Apart u12.ownBlock u92.ownBlock := app_ne_own ha69 hw97 ho80.lt
    have ha105 : Apart u72.ownBlock u92.ownBlock := app_ne_own ha88 hw97 ho91.lt
    have hnp106 := np_app hnp63 hpk82 hw97
    have hm107 : ((kxa ++ dig36 (xs2.getD i 0).toNat) ++ ([44])).length = (kxa ++ dig36 (xs2.getD i 0).toNat).length + 1 := List.length_append
    refine qd rfl rfl rfl (r_assign (v := u92) rfl) ?_
    refine qe ?_
    refine s_then ?_
    refine c_reg ?_
    refine qd rfl rfl rfl (r_move (v := (.int .i64 bn)) rfl) ?_
    refine qd rfl rfl rfl (r_move (v := (.pointer (some ⟨p, 0, none⟩))) rfl) ?_
    refine qd rfl rfl rfl (r_nil rfl) ?_
    refine qd rfl rfl rfl (r_fldp (k := 2) rfl Tryd.underlying99 rfl nz38 rfl) ?_
    refine qd rfl rfl rfl (r_ldp1 (u := B) ag38 rfl (hpk102.bx.cell (o := 2) rfl)) ?_
    refine qd rfl rfl rfl (r_move (v := (.int .i64 (xs2.getD i 0))) rfl) ?_
    refine qd rfl rfl rfl (run_idx Tryd.underlying38 sz3 (v := B) rfl rfl hpk102.ob.read (by omega) (by omega)) ?_
    refine qd rfl rfl rfl (run_load_int (r := q.bs.getD (xs2.getD i 0).toNat 0) rfl ag3 (z := (xs2.getD i 0)) rfl hpk102.ob.read (Gadd.pins hX98.pins B) (by omega) (by omega)) ?_
    refine qd rfl rfl rfl (r_add rfl rfl (by omega)) ?_
    refine qd rfl rfl rfl (r_max rfl rfl) ?_
    refine qd rfl rfl rfl (r_assign (v := (.int .i64 (max bn ((q.bs.getD (xs2.getD i 0).toNat 0) + 1)))) rfl) ?_
    refine qe ?_
    refine s_blkN ?_
    refine s_then ?_
    refine c_reg ?_
    refine qd rfl rfl rfl (r_add rfl rfl (by omega)) ?_
    refine qd rfl rfl rfl (r_move (v := (.int .i64 ((i : Int) + 1))) rfl) ?_
    refine qe ?_
    refine s_lopN ?_
    refine ⟨_, ?_, _, rfl, _, i + 1, u92, (kxa ++ dig36 (xs2.getD i 0).toNat) ++ ([44]), max bn ((q.bs.getD (xs2.getD i 0).toNat 0) + 1), G58, (packS (x := 30) (packS (x := 29) (packS (x := 28) (packS (x := 8) (packS (x := 7) (packS (x := 6) (packS (x := 2) (packS (x := 1) (pack1 (x := 0) rfl) rfl) rfl) rfl) rfl) rfl) rfl) rfl) rfl), rfl, hX98, (Pin.le_trans hlek45 hx62.le), (by omega), (by rw [key_next (by omega), hka]), (by rw [hbbn, born_next (by omega)]), (by omega), ho94, ho99, ho100, ha103.symm, ha104.symm, hpk102, hnp106⟩
    omega
  refine wp_exit ?_
  refine s_thenE ?_
  refine s_lopE ?_
  refine s_blkE ?_
  refine s_then ?_
  refine s_seq ?_
  refine c_reg ?_
  refine qd rfl rfl rfl (r_move (v := kva) rfl) ?_
  refine q1 rfl rfl rfl (o_buildF (E := eByte) (e := 5) [(.int .u8 124)] [124] Tryd.underlying113 sz5 zr5 (by exact reps1 (by rfl)) (ones1 (by rfl)) rfl rfl rfl rfl (by decide) hX48.pins (fun u108 w109 ho110 hp111 hl112 hk113 => ?_))
  have hX114 := hX48.step hp111 hl112
  have ho115 := hw49.below hl112
  have ho116 := hw50.below hl112
  have ho117 := hw51.below hl112
  have hpk118 := hpk54.below hl112 hp111
  have ha119 : Apart u108.ownBlock kva.ownBlock := new_ne_own hk113 hw49.lt
  have ho127 : Own eByte 5 GLa w109 w.heap.size u108 ([124]) := ho110.weaken hX48.size
  refine q1 rfl rfl rfl (o_append (E := eByte) (v := kva) (u := u108) 1 Tryd.underlying113 ap5 (by decide) rfl rfl hX114.pins ho115 ho127.src (by first | omega | (rw [List.nil_append]; omega) | (rw [List.length_nil]; omega) | (rw [List.length_append]; omega) | (simp; done) | (simp; omega) | (simp only [List.length_append, List.length_cons, List.length_nil]; omega)) (by first | omega | (rw [List.nil_append]; omega) | (rw [List.length_nil]; omega) | (rw [List.length_append]; omega) | (simp; done) | (simp; omega) | (simp only [List.length_append, List.length_cons, List.length_nil]; omega)) (hX114.size) (fun u128 w129 ho130 hp131 hg132 hw133 => ?_))
  have hX134 := hX114.write hp131 hg132 ((lo_own ho115))
  have ho135 := ho116.keptA hg132 ha52.symm
  have ho136 := ho117.keptA hg132 ha53.symm
  have hpk138 := hpk118.kept hg132 hp131 hnp55
  have ha139 : Apart u3.ownBlock u128.ownBlock := app_ne_own ha52.symm hw133 ho116.lt
  have ha140 : Apart u12.ownBlock u128.ownBlock := app_ne_own ha53.symm hw133 ho117.lt
  have ha141 : Apart u108.ownBlock u128.ownBlock := app_ne_own ha119 hw133 ho127.lt
  have hnp142 := np_app hnp55 hpk118 hw133
  have hm143 : (kxa ++ ([124])).length = kxa.length + 1 := List.length_append
  refine qd rfl rfl rfl (r_assign (v := u128) rfl) ?_
  refine qe ?_
  refine s_then ?_
  refine s_seq ?_
  refine s_seq ?_
  refine c_reg ?_
  rw [take_all (by omega)] at hka hbbn
  have hkk : keyL xs2 ++ [124] = kxa ++ [124] := by rw [hka]
  refine qd rfl rfl rfl (r_move (v := u12) rfl) ?_
  refine qd rfl rfl rfl (run_len Tryd.underlying38 (v := u12) rfl ho136.read) ?_
  refine qd rfl rfl rfl (r_move (v := (.int .i64 0)) rfl) ?_
  refine qe ?_
  refine s_then ?_
  refine s_blk ?_
  refine s_loop (fun (k : Nat) (en : Nat → Value) (W : World) => ∃ (env1 : Nat → Value) (i2 : Nat) (kvb : Value) (kxb : List UInt8) (bm : Int) (GLb : Pin), en = (upd (upd (upd (upd (upd (upd (upd (upd (upd env1 0 (.pointer (some ⟨p, 0, none⟩))) 1 u3) 2 u12) 6 (.int .i64 0)) 7 kvb) 8 (.int .i64 bm)) 53 u12) 54 (.int .i64 (ys2.length : Int))) 55 (.int .i64 (i2 : Int))) ∧ k = ys2.length - i2 ∧ Ext (inP p L R B mm) G w GLb W ∧ Pin.le GLa GLb ∧ (i2 ≤ ys2.length) ∧ (kxb = keyL xs2 ++ [124] ++ keyL (ys2.take i2)) ∧ (bm = bornOf q.bs (ys2.take i2) bn) ∧ (0 ≤ bm ∧ bm ≤ q.ns.length) ∧ (Own eByte 5 GLb W w.heap.size kvb (kxb)) ∧ (Own eInt 3 GLb W w.heap.size u3 (xs2)) ∧ (Own eInt 3 GLb W w.heap.size u12 (ys2)) ∧ (Apart kvb.ownBlock u3.ownBlock) ∧ (Apart kvb.ownBlock u12.ownBlock) ∧ (Pk 38 3 GLb W p L R B mm q) ∧ (NP p L R B mm kvb.ownBlock)) _ ⟨_, 0, u128, kxa ++ ([124]), bn, GLa, (packS (x := 55) (packS (x := 54) (packS (x := 53) (packS (x := 8) (packS (x := 7) (packS (x := 6) (packS (x := 2) (packS (x := 1) (pack1 (x := 0) rfl) rfl) rfl) rfl) rfl) rfl) rfl) rfl) rfl), rfl, hX134, Pin.le_refl _, Nat.zero_le _, (by rw [← hkk]; simp [keyL]), rfl, (by omega), ho130, ho135, ho136, ha139.symm, ha140.symm, hpk138, hnp142⟩ ?_
  rintro k148 _ w149 ⟨env1, i2, kvb, kxb, bm, GLb, rfl, hk150, hX151, hlek148, hji2, hkb, hbbm, hlbm, hw152, hw153, hw154, ha155, ha156, hpk157, hnp158⟩
  have hklb : kxb.length ≤ 117440640 := by
    have := key_bound (j := i2) hb2 hok.ar.ok.lim
    have h2 := key_bound (j := xs2.length) hb1 hok.ar.ok.lim; rw [hkb, List.length_append, List.length_append]; simp only [List.length_cons, List.length_nil]; rw [take_all (Nat.le_refl _)] at h2; omega
  refine s_seq ?_
  refine c_reg ?_
  refine qd rfl rfl rfl (r_lss rfl rfl) ?_
  refine qe ?_
  refine s_then ?_
  refine s_seq ?_
  refine c_ifd (p := ((i2 : Int) : Int) < (ys2.length : Int)) rfl rfl (fun h159 => ?_) (fun h159 => ?_)
  · skip
    have hki := hb2 i2 (by omega)
    have hbk := hok.ar.ok.born (ys2.getD i2 0).toNat (by omega)
    have hd13 := dig13 (n := (ys2.getD i2 0).toNat) (by omega)
    refine wp_skip ?_
    refine s_then ?_
    refine s_seq ?_
    refine s_blk ?_
    refine s_seq ?_
    refine c_reg ?_
    refine qd rfl rfl rfl (run_idx Tryd.underlying38 sz3 (v := u12) rfl rfl hw154.read (by omega) (by omega)) ?_
    refine qd rfl rfl rfl (run_load_int (r := ys2.getD i2 0) rfl ag3 (z := (i2 : Int)) rfl hw154.read (Gadd.pins hX151.pins u12) (by omega) (by omega)) ?_
    refine qd rfl rfl rfl (r_assign (v := (.int .i64 (ys2.getD i2 0))) rfl) ?_
    refine qe ?_
    refine s_then ?_
    refine s_seq ?_
    refine c_reg ?_
    refine qd rfl rfl rfl (r_move (v := kvb) rfl) ?_
    refine qd rfl rfl rfl (r_move (v := (.int .i64 (ys2.getD i2 0))) rfl) ?_
    refine q1 rfl rfl rfl (o_call (vs := [kvb, (.int .i64 (ys2.getD i2 0)), (.int .i64 36)]) Tryd.func92 nm92 rfl rfl rfl ?_)
    refine Calls.mono (appendInt_spec (i := ys2.getD i2 0) hX151.pins (hw152.weaken (Nat.zero_le _)) (by omega) (by omega)) ?_
    rintro _ w162 ⟨u160, G161, rfl, ho163, hlo164, hx165⟩
    refine ⟨_, rfl, ?_⟩
    have hnp166 := np_turn hnp158 hpk157 hlo164
    have hX167 := hX151.trans hx165 (fun i hi => (lo_own hw152) i hi)
    have ho168 := hw153.extS hx165 (notO ha155.symm)
    have ho169 := hw154.extS hx165 (notO ha156.symm)
    have hpk170 := hpk157.extS hx165 (fun k hk hx => hnp158 k hx hk)
    have ha171 : Apart u3.ownBlock u160.ownBlock := ap_turn hlo164 ha155.symm (own_lt hw153)
    have ha172 : Apart u12.ownBlock u160.ownBlock := ap_turn hlo164 ha156.symm (own_lt hw154)
    have ho173 := ho163.up (lo := w.heap.size) (fun k hk => (hlo164 k hk).elim (fun h => Nat.le_trans hX151.size h) (fun h => (hw152.lt k h).1))
    have hm174 : (kxb ++ dig36 (ys2.getD i2 0).toNat).length = kxb.length + (dig36 (ys2.getD i2 0).toNat).length := List.length_append
    refine q1 rfl rfl rfl (o_buildF (E := eByte) (e := 5) [(.int .u8 44)] [44] Tryd.underlying113 sz5 zr5 (by exact reps1 (by rfl)) (ones1 (by rfl)) rfl rfl rfl rfl (by decide) hX167.pins (fun u175 w176 ho177 hp178 hl179 hk180 => ?_))
    have hX181 := hX167.step hp178 hl179
    have ho182 := ho168.below hl179
    have ho183 := ho169.below hl179
    have ho184 := ho173.below hl179
    have hpk185 := hpk170.below hl179 hp178
    have ha191 : Apart u175.ownBlock u160.ownBlock := new_ne_own hk180 ho173.lt
    have ho194 : Own eByte 5 G161 w176 w.heap.size u175 ([44]) := ho177.weaken hX167.size
    refine q1 rfl rfl rfl (o_append (E := eByte) (v := u160) (u := u175) 1 Tryd.underlying113 ap5 (by decide) rfl rfl hX181.pins ho184 ho194.src (by first | omega | (rw [List.nil_append]; omega) | (rw [List.length_nil]; omega) | (rw [List.length_append]; omega) | (simp; done) | (simp; omega) | (simp only [List.length_append, List.length_cons, List.length_nil]; omega)) (by first | omega | (rw [List.nil_append]; omega) | (rw [List.length_nil]; omega) | (rw [List.length_append]; omega) | (simp; done) | (simp; omega) | (simp only [List.length_append, List.length_cons, List.length_nil]; omega)) (hX181.size) (fun u195 w196 ho197 hp198 hg199 hw200 => ?_))
    have hX201 := hX181.write hp198 hg199 ((lo_own ho184))
    have ho202 := ho182.keptA hg199 ha171
    have ho203 := ho183.keptA hg199 ha172
    have hpk205 := hpk185.kept hg199 hp198 hnp166
    have ha206 : Apart u3.ownBlock u195.ownBlock := app_ne_own ha171 hw200 ho182.lt
    have ha207 : Apart u12.ownBlock u195.ownBlock := app_ne_own ha172 hw200 ho183.lt
    have ha208 : Apart u175.ownBlock u195.ownBlock := app_ne_own ha191 hw200 ho194.lt
    have hnp209 := np_app hnp166 hpk185 hw200
    have hm210 : ((kxb ++ dig36 (ys2.getD i2 0).toNat) ++ ([44])).length = (kxb ++ dig36 (ys2.getD i2 0).toNat).length + 1 := List.length_append
    refine qd rfl rfl rfl (r_assign (v := u195) rfl) ?_
    refine qe ?_
    refine s_then ?_
    refine c_reg ?_
    refine qd rfl rfl rfl (r_move (v := (.int .i64 bm)) rfl) ?_
    refine qd rfl rfl rfl (r_move (v := (.pointer (some ⟨p, 0, none⟩))) rfl) ?_
    refine qd rfl rfl rfl (r_nil rfl) ?_
    refine qd rfl rfl rfl (r_fldp (k := 2) rfl Tryd.underlying99 rfl nz38 rfl) ?_
    refine qd rfl rfl rfl (r_ldp1 (u := B) ag38 rfl (hpk205.bx.cell (o := 2) rfl)) ?_
    refine qd rfl rfl rfl (r_move (v := (.int .i64 (ys2.getD i2 0))) rfl) ?_
    refine qd rfl rfl rfl (run_idx Tryd.underlying38 sz3 (v := B) rfl rfl hpk205.ob.read (by omega) (by omega)) ?_
    refine qd rfl rfl rfl (run_load_int (r := q.bs.getD (ys2.getD i2 0).toNat 0) rfl ag3 (z := (ys2.getD i2 0)) rfl hpk205.ob.read (Gadd.pins hX201.pins B) (by omega) (by omega)) ?_
    refine qd rfl rfl rfl (r_add rfl rfl (by omega)) ?_
    refine qd rfl rfl rfl (r_max rfl rfl) ?_
    refine qd rfl rfl rfl (r_assign (v := (.int .i64 (max bm ((q.bs.getD (ys2.getD i2 0).toNat 0) + 1)))) rfl) ?_
    refine qe ?_
    refine s_blkN ?_
    refine s_then ?_
    refine c_reg ?_
    refine qd rfl rfl rfl (r_add rfl rfl (by omega)) ?_
    refine qd rfl rfl rfl (r_move (v := (.int .i64 ((i2 : Int) + 1))) rfl) ?_
    refine qe ?_
    refine s_lopN ?_
    refine ⟨_, ?_, _, rfl, _, i2 + 1, u195, (kxb ++ dig36 (ys2.getD i2 0).toNat) ++ ([44]), max bm ((q.bs.getD (ys2.getD i2 0).toNat 0) + 1), G161, (packS (x := 55) (packS (x := 54) (packS (x := 53) (packS (x := 8) (packS (x := 7) (packS (x := 6) (packS (x := 2) (packS (x := 1) (pack1 (x := 0) rfl) rfl) rfl) rfl) rfl) rfl) rfl) rfl) rfl), rfl, hX201, (Pin.le_trans hlek148 hx165.le), (by omega), (by rw [key_next (by omega), hkb]; simp only [List.append_assoc]), (by rw [hbbm, born_next (by omega)]), (by omega), ho197, ho202, ho203, ha206.symm, ha207.symm, hpk205, hnp209⟩
    omega
  refine wp_exit ?_
  refine s_thenE ?_
  refine s_lopE ?_
  refine s_blkE ?_
  refine s_then ?_
  refine s_seq ?_
  refine s_seq ?_
  rw [take_all (by omega)] at hkb hbbm
  have hkey : kxb = keyN xs2 ys2 := by rw [hkb]; rfl
  have hq211 := Gadd.pins hX151.pins kvb
  have hr212 := hw152.read
  refine c_draw (S := fun wz => BxR wz p [L, R, B, (.map (some mm.f)), (.map (some mm.o)), (.map (some mm.c)), (.map (some mm.s)), (.map (some mm.n))] ∧ Pins (Gadd GLb w149 kvb) wz) (last := 12) (by kernel_rfl) rfl ?_
  have hl213 : Below w149.heap.size w149 w149.drew := (Below.refl _ _).drew
  have hp214 := hX151.pins.below hl213
  have hX215 := hX151.step hp214 hl213
  have ho216 := hw152.below hl213
  have ho217 := hw153.below hl213
  have ho218 := hw154.below hl213
  have hpk219 := hpk157.below hl213 hp214
  have hq220 := hq211.below hl213
  refine dr_take (i := 0) rfl rfl rfl (want_none rfl _) (by kernel_rfl) (fun _ _ => r_move (v := (.pointer (some ⟨p, 0, none⟩))) rfl) ⟨hpk219.bx.reads, hq220⟩ ?_
  refine dr_take (i := 1) rfl rfl rfl (want_none rfl _) (by kernel_rfl) (fun _ _ => r_nil rfl) ⟨hpk219.bx.reads, hq220⟩ ?_
  refine dr_take (i := 2) rfl rfl rfl (want_none rfl _) (by kernel_rfl) (fun _ _ => r_fldp (k := 3) rfl Tryd.underlying99 rfl nz93 rfl) ⟨hpk219.bx.reads, hq220⟩ ?_
  refine dr_take (i := 3) rfl rfl rfl (want_none rfl _) (by kernel_rfl) (fun _ hS => r_ldp1 (u := (.map (some mm.f))) ag93 rfl (hS.1 3 _ rfl)) ⟨hpk219.bx.reads, hq220⟩ ?_
  refine dr_take (i := 4) rfl rfl rfl (want_none rfl _) (by kernel_rfl) (fun _ _ => r_move (v := kvb) rfl) ⟨hpk219.bx.reads, hq220⟩ ?_
  refine dr_one (i := 5) (by kernel_rfl) (drOp1 (i := 5) rfl rfl rfl (want_none rfl _) (EO.run (r_b2s Tryd.underlying113 Tryd.underlying5 Tryd.underlying9 rfl ho216.read (Gadd.pins hX215.pins kvb)) ?_))
  refine ⟨fun _ => ⟨hpk219.bx.reads, hq220⟩, ?_⟩
  refine dr_one (i := 6) (by kernel_rfl) (drOp1 (i := 6) rfl rfl rfl (want_none rfl _) (EO.run (run_lookv_int (k := (b2s kxb)) (key_str Tryd.underlying9) Tryd.underlying93 zr3 hpk219.ff rfl rfl) ?_))
  refine ⟨fun _ => ⟨hpk219.bx.reads, hq220⟩, ?_⟩
  refine dr_take (i := 7) rfl rfl rfl (want_none rfl _) (by kernel_rfl) (fun _ _ => r_move (v := (.tuple #[(.int .i64 ((Go.GL.look q.fl (b2s kxb)).getD 0)), (.bool ((Go.GL.look q.fl (b2s kxb)).isSome))])) rfl) ⟨hpk219.bx.reads, hq220⟩ ?_
  refine dr_take (i := 8) rfl rfl rfl (want_none rfl _) (by kernel_rfl) (fun _ _ => r_extract (v := (.int .i64 ((Go.GL.look q.fl (b2s kxb)).getD 0))) rfl rfl) ⟨hpk219.bx.reads, hq220⟩ ?_
  refine dr_take (i := 9) rfl rfl rfl (want_none rfl _) (by kernel_rfl) (fun _ _ => r_extract (v := (.bool ((Go.GL.look q.fl (b2s kxb)).isSome))) rfl rfl) ⟨hpk219.bx.reads, hq220⟩ ?_
  refine dr_take (i := 10) rfl rfl rfl (want_none rfl _) (by kernel_rfl) (fun _ _ => r_assign (v := (.int .i64 ((Go.GL.look q.fl (b2s kxb)).getD 0))) rfl) ⟨hpk219.bx.reads, hq220⟩ ?_
  refine dr_take (i := 11) rfl rfl rfl (want_none rfl _) (by kernel_rfl) (fun _ _ => r_assign (v := (.bool ((Go.GL.look q.fl (b2s kxb)).isSome))) rfl) ⟨hpk219.bx.reads, hq220⟩ ?_
  refine dr_end (by kernel_rfl) ?_
  refine s_then ?_
  refine s_seq ?_
  refine c_reg ?_
  refine qd rfl rfl rfl (r_move (v := (.bool ((Go.GL.look q.fl (b2s kxb)).isSome))) rfl) ?_
  refine qe ?_
  refine s_then ?_
  refine c_if rfl rfl (fun h221 => ?_) (fun h221 => ?_)
  · skip
    refine s_seq ?_
    refine c_reg ?_
    refine qd rfl rfl rfl (r_move (v := (.int .i64 ((Go.GL.look q.fl (b2s kxb)).getD 0))) rfl) ?_
    refine qd rfl rfl rfl (r_assign (v := (.int .i64 ((Go.GL.look q.fl (b2s kxb)).getD 0))) rfl) ?_
    refine qe ?_
    refine s_then ?_
    refine wp_ret ?_
    refine s_ret ?_
    refine c_ret1 (v := (.int .i64 ((Go.GL.look q.fl (b2s kxb)).getD 0))) rfl rfl rfl ?_
    obtain ⟨z, hz⟩ := Option.isSome_iff_exists.1 h221
    have hlk := hz
    rw [hkey, hxs2, hys2] at hlk
    obtain ⟨f1, f2⟩ := lookF hok hk1 hk2 hlk
    rw [hz]
    exact ⟨z, L, R, B, q, GLb, rfl, hpk219, hok, (PX.refl _), PIn.lo hpin rfl, hX215, f1, f2, by omega⟩
  refine wp_skip ?_
  refine s_then ?_
  refine s_seq ?_
  refine c_reg ?_
  refine qd rfl rfl rfl (r_move (v := (.pointer (some ⟨p, 0, none⟩))) rfl) ?_
  refine qd rfl rfl rfl (r_nil rfl) ?_
  refine qd rfl rfl rfl (r_fldp (k := 2) rfl Tryd.underlying99 rfl nz38 rfl) ?_
  refine qd rfl rfl rfl (r_ldp1 (u := B) ag38 rfl (hpk219.bx.cell (o := 2) rfl)) ?_
  refine qd rfl rfl rfl (run_len Tryd.underlying38 (v := B) rfl hpk219.ob.read) ?_
  refine qd rfl rfl rfl (r_assign (v := (.int .i64 (q.bs.length : Int))) rfl) ?_
  refine qe ?_
  refine s_then ?_
  refine s_seq ?_
  have hnone : Go.GL.look q.fl (b2s kxb) = none := by simpa using h221
  rw [hkey, hxs2, hys2] at hnone
  have hadd := hok.add (b := bm) hlim hls hk1 hk2 hnone (by rw [hbbm, hbbn, hxs2, hys2])
  have hq222 := Gadd.pins hX215.pins kvb
  have hr223 := ho216.read
  refine c_draw (S := fun wz => BxR wz p [L, R, B, (.map (some mm.f)), (.map (some mm.o)), (.map (some mm.c)), (.map (some mm.s)), (.map (some mm.n))] ∧ Pins (Gadd GLb w149.drew kvb) wz) (last := 7) (by kernel_rfl) rfl ?_
  have hl224 : Below w149.drew.heap.size w149.drew w149.drew.drew := (Below.refl _ _).drew
  have hp225 := hX215.pins.below hl224
  have hX226 := hX215.step hp225 hl224
  have ho227 := ho216.below hl224
  have ho228 := ho217.below hl224
  have ho229 := ho218.below hl224
  have ho230 := hpk219.ol.below hl224
  have ho231 := hpk219.rr.below hl224
  have ho232 := hpk219.ob.below hl224
  have hb233 := hpk219.bx.below hl224
  have hm234 := hpk219.ff.below hl224
  have hm235 := hpk219.fo.below hl224
  have hm236 := hpk219.fc.below hl224
  have hm237 := hpk219.fs.below hl224
  have hm238 := hpk219.fn.below hl224
  have hq239 := hq222.below hl224
  refine dr_take (i := 0) rfl rfl rfl (want_none rfl _) (by kernel_rfl) (fun _ _ => r_move (v := (.pointer (some ⟨p, 0, none⟩))) rfl) ⟨hb233.reads, hq239⟩ ?_
  refine dr_take (i := 1) rfl rfl rfl (want_none rfl _) (by kernel_rfl) (fun _ _ => r_nil rfl) ⟨hb233.reads, hq239⟩ ?_
  refine dr_take (i := 2) rfl rfl rfl (want_none rfl _) (by kernel_rfl) (fun _ _ => r_fldp (k := 3) rfl Tryd.underlying99 rfl nz93 rfl) ⟨hb233.reads, hq239⟩ ?_
  refine dr_take (i := 3) rfl rfl rfl (want_none rfl _) (by kernel_rfl) (fun _ hS => r_ldp1 (u := (.map (some mm.f))) ag93 rfl (hS.1 3 _ rfl)) ⟨hb233.reads, hq239⟩ ?_
  refine dr_take (i := 4) rfl rfl rfl (want_none rfl _) (by kernel_rfl) (fun _ _ => r_move (v := kvb) rfl) ⟨hb233.reads, hq239⟩ ?_
  refine dr_take (i := 6) rfl rfl rfl (want_none rfl _) (by kernel_rfl) (fun _ _ => r_move (v := (.int .i64 (q.bs.length : Int))) rfl) ⟨hb233.reads, hq239⟩ ?_
  refine dr_one (i := 5) (by kernel_rfl) (drOp1 (i := 5) rfl rfl rfl (want_none rfl _) (EO.run (r_b2s Tryd.underlying113 Tryd.underlying5 Tryd.underlying9 rfl ho227.read (Gadd.pins hX226.pins kvb)) ?_))
  refine ⟨fun _ => ⟨hb233.reads, hq239⟩, ?_⟩
  refine dr_one (i := 7) (by kernel_rfl) (drOp0 (i := 7) rfl rfl rfl (want_none rfl _) (o_mapUpdate (val := (fun v : Int => Value.int .i64 v)) (k := (b2s kxb)) (v := (q.bs.length : Int)) (key_str Tryd.underlying9) Tryd.underlying93 rfl rfl rfl hX226.pins hm234 (fun w240 hm241 hp242 hg243 hz244 => ?_)))
  have hX245 := hX226.write hp242 hg243 ((PIn.f hpin))
  have ho246 := ho227.keptA hg243 (map_ne_own hm234 ho227).symm
  have ho247 := ho228.keptA hg243 (map_ne_own hm234 ho228).symm
  have ho248 := ho229.keptA hg243 (map_ne_own hm234 ho229).symm
  have ho249 := ho230.keptA hg243 (map_ne_own hm234 ho230).symm
  have ho250 := ho231.keptA hg243 (map_ne_own hm234 ho231).symm
  have ho251 := ho232.keptA hg243 (map_ne_own hm234 ho232).symm
  have hb252 := hb233.keptA hg243 (map_ne_box hm234 hb233).symm
  have hm253 := hm235.kept hg243 (apart_maps hpk219.df.fo).symm
  have hm254 := hm236.kept hg243 (apart_maps hpk219.df.fc).symm
  have hm255 := hm237.kept hg243 (apart_maps hpk219.df.fs).symm
  have hm256 := hm238.kept hg243 (apart_maps hpk219.df.fn).symm
  refine ⟨fun h => absurd rfl h, ?_⟩
  refine dr_end (by kernel_rfl) ?_
  refine s_then ?_
  refine s_seq ?_
  refine c_reg ?_
  refine qd rfl rfl rfl (r_move (v := (.pointer (some ⟨p, 0, none⟩))) rfl) ?_
  refine qd rfl rfl rfl (r_move (v := (.pointer (some ⟨p, 0, none⟩))) rfl) ?_
  refine qd rfl rfl rfl (r_nil rfl) ?_
  refine qd rfl rfl rfl (r_fldp (k := 0) rfl Tryd.underlying99 rfl nz97 rfl) ?_
  refine qd rfl rfl rfl (r_ldp1 (u := L) ag97 rfl (hb252.cell (o := 0) rfl)) ?_
  refine qd rfl rfl rfl (r_move (v := u3) rfl) ?_
  obtain ⟨G257, hle260, hX259, hr258, hf261⟩ := ho247.sealed hX245
  have ho262 := ho246.moreO hle260 hf261 ha155
  have ho263 := ho248.moreO hle260 hf261 ha20
  have ho264 := ho249.moreO hle260 hf261 (NP.hl hnp10).symm
  have ho265 := ho250.moreO hle260 hf261 (NP.hr hnp10).symm
  have ho266 := ho251.moreO hle260 hf261 (NP.hb hnp10).symm
  have hb267 := hb252.moreO hf261 (NP.hp hnp10).symm
  refine q1 rfl rfl rfl (o_buildF (E := (eSl eInt)) (e := 38) [u3] [xs2] Tryd.underlying97 sz38 zr38 (by exact reps1 (⟨_, rfl, hr258⟩)) (ones1 hr258.one) rfl rfl rfl rfl (by decide) hX259.pins (fun u268 w269 ho270 hp271 hl272 hk273 => ?_))
  have hX274 := hX259.step hp271 hl272
  have ho275 := ho262.below hl272
  have ho276 := ho263.below hl272
  have ho277 := ho264.below hl272
  have ho278 := ho265.below hl272
  have ho279 := ho266.below hl272
  have hb280 := hb267.below hl272
  have hm281 := hm241.below hl272
  have hm282 := hm253.below hl272
  have hm283 := hm254.below hl272
  have hm284 := hm255.below hl272
  have hm285 := hm256.below hl272
  have ha288 : Apart u268.ownBlock L.ownBlock := new_ne_own hk273 ho264.lt
  have ho292 : Own (eSl eInt) 38 G257 w269 w.heap.size u268 ([xs2]) := ho270.weaken hX259.size
  refine q1 rfl rfl rfl (o_append (E := (eSl eInt)) (v := L) (u := u268) 24 Tryd.underlying97 ap38 (by decide) rfl rfl hX274.pins ho277 ho292.src (by first | omega | (rw [List.nil_append]; omega) | (rw [List.length_nil]; omega) | (rw [List.length_append]; omega) | (simp; done) | (simp; omega) | (simp only [List.length_append, List.length_cons, List.length_nil]; omega)) (by first | omega | (rw [List.nil_append]; omega) | (rw [List.length_nil]; omega) | (rw [List.length_append]; omega) | (simp; done) | (simp; omega) | (simp only [List.length_append, List.length_cons, List.length_nil]; omega)) (Nat.zero_le _) (fun u293 w294 ho295 hp296 hg297 hw298 => ?_))
  have hX299 := hX274.write hp296 hg297 ((PIn.ll hpin))
  have ho300 := ho275.keptA hg297 (NP.hl hnp158)
  have ho301 := ho276.keptA hg297 (NP.hl hnp21)
  have ho302 := ho278.keptA hg297 hpk219.alr.symm
  have ho303 := ho279.keptA hg297 hpk219.alb.symm
  have hb305 := hb280.keptA hg297 hpk219.apl
  have hm306 := hm281.kept hg297 (map_ne_own hm281 ho277)
  have hm307 := hm282.kept hg297 (map_ne_own hm282 ho277)
  have hm308 := hm283.kept hg297 (map_ne_own hm283 ho277)
  have hm309 := hm284.kept hg297 (map_ne_own hm284 ho277)
  have hm310 := hm285.kept hg297 (map_ne_own hm285 ho277)
  have ha311 : Apart kvb.ownBlock u293.ownBlock := app_ne_own (NP.hl hnp158) hw298 ho275.lt
  have ha312 : Apart u12.ownBlock u293.ownBlock := app_ne_own (NP.hl hnp21) hw298 ho276.lt
  have ha313 : Apart R.ownBlock u293.ownBlock := app_ne_own hpk219.alr.symm hw298 ho278.lt
  have ha314 : Apart B.ownBlock u293.ownBlock := app_ne_own hpk219.alb.symm hw298 ho279.lt
  have ha315 : Apart u268.ownBlock u293.ownBlock := app_ne_own ha288 hw298 ho292.lt
  have ha316 : Apart (some p) u293.ownBlock := app_ne_box hpk219.apl hw298 hb280.lt
  have hlo317 : Lo w (inP p L R B mm) u293.ownBlock := lo_app (PIn.ll hpin) hw298 hX274.size
  have hm318 : ((q.ns.map Nd.l) ++ ([xs2])).length = (q.ns.map Nd.l).length + 1 := List.length_append
  refine qd rfl rfl rfl (r_nil rfl) ?_
  refine qd rfl rfl rfl (r_fldp (k := 0) rfl Tryd.underlying99 rfl nz97 rfl) ?_
  refine q0 rfl rfl rfl (o_stp (cs' := [u293, R, B, (.map (some mm.f)), (.map (some mm.o)), (.map (some mm.c)), (.map (some mm.s)), (.map (some mm.n))]) (us := [u293]) (v := u293) sz97 rfl rfl (cells1 ho295.one) (ones1 ho295.one) hX299.pins hb305 (Nat.le_of_ble_eq_true rfl) rfl (fun w319 hb320 hp321 hg322 hz323 => ?_))
  have hX324 := hX299.write hp321 hg322 ((PIn.lp hpin))
  have ho325 := ho300.keptA hg322 (NP.hp hnp158)
  have ho326 := ho301.keptA hg322 (NP.hp hnp21)
  have ho327 := ho302.keptA hg322 hpk219.apr.symm
  have ho328 := ho303.keptA hg322 hpk219.apb.symm
  have ho329 := ho295.keptA hg322 ha316.symm
  have hm330 := hm306.kept hg322 (map_ne_box hm306 hb305)
  have hm331 := hm307.kept hg322 (map_ne_box hm307 hb305)
  have hm332 := hm308.kept hg322 (map_ne_box hm308 hb305)
  have hm333 := hm309.kept hg322 (map_ne_box hm309 hb305)
  have hm334 := hm310.kept hg322 (map_ne_box hm310 hb305)
  refine qe ?_
  refine s_then ?_
  refine s_seq ?_
  refine c_reg ?_
  refine qd rfl rfl rfl (r_move (v := (.pointer (some ⟨p, 0, none⟩))) rfl) ?_
  refine qd rfl rfl rfl (r_move (v := (.pointer (some ⟨p, 0, none⟩))) rfl) ?_
  refine qd rfl rfl rfl (r_nil rfl) ?_
  refine qd rfl rfl rfl (r_fldp (k := 1) rfl Tryd.underlying99 rfl nz97 rfl) ?_
  refine qd rfl rfl rfl (r_ldp1 (u := R) ag97 rfl (hb320.cell (o := 1) rfl)) ?_
  refine qd rfl rfl rfl (r_move (v := u12) rfl) ?_
  obtain ⟨G335, hle338, hX337, hr336, hf339⟩ := ho326.sealed hX324
  have ho340 := ho325.moreO hle338 hf339 ha156
  have ho341 := ho327.moreO hle338 hf339 (NP.hr hnp21).symm
  have ho342 := ho328.moreO hle338 hf339 (NP.hb hnp21).symm
  have ho343 := ho329.moreO hle338 hf339 ha312.symm
  have hb344 := hb320.moreO hf339 (NP.hp hnp21).symm
  refine q1 rfl rfl rfl (o_buildF (E := (eSl eInt)) (e := 38) [u12] [ys2] Tryd.underlying97 sz38 zr38 (by exact reps1 (⟨_, rfl, hr336⟩)) (ones1 hr336.one) rfl rfl rfl rfl (by decide) hX337.pins (fun u345 w346 ho347 hp348 hl349 hk350 => ?_))
  have hX351 := hX337.step hp348 hl349
  have ho352 := ho340.below hl349
  have ho353 := ho341.below hl349
  have ho354 := ho342.below hl349
  have ho355 := ho343.below hl349
  have hb356 := hb344.below hl349
  have hm357 := hm330.below hl349
  have hm358 := hm331.below hl349
  have hm359 := hm332.below hl349
  have hm360 := hm333.below hl349
  have hm361 := hm334.below hl349
  have ha363 : Apart u345.ownBlock R.ownBlock := new_ne_own hk350 ho341.lt
  have ho367 : Own (eSl eInt) 38 G335 w346 w.heap.size u345 ([ys2]) := ho347.weaken hX337.size
  refine q1 rfl rfl rfl (o_append (E := (eSl eInt)) (v := R) (u := u345) 24 Tryd.underlying97 ap38 (by decide) rfl rfl hX351.pins ho353 ho367.src (by first | omega | (rw [List.nil_append]; omega) | (rw [List.length_nil]; omega) | (rw [List.length_append]; omega) | (simp; done) | (simp; omega) | (simp only [List.length_append, List.length_cons, List.length_nil]; omega)) (by first | omega | (rw [List.nil_append]; omega) | (rw [List.length_nil]; omega) | (rw [List.length_append]; omega) | (simp; done) | (simp; omega) | (simp only [List.length_append, List.length_cons, List.length_nil]; omega)) (Nat.zero_le _) (fun u368 w369 ho370 hp371 hg372 hw373 => ?_))
  have hX374 := hX351.write hp371 hg372 ((PIn.lr hpin))
  have ho375 := ho352.keptA hg372 (NP.hr hnp158)
  have ho376 := ho354.keptA hg372 hpk219.arb.symm
  have ho377 := ho355.keptA hg372 ha313.symm
  have hb379 := hb356.keptA hg372 hpk219.apr
  have hm380 := hm357.kept hg372 (map_ne_own hm357 ho353)
  have hm381 := hm358.kept hg372 (map_ne_own hm358 ho353)
  have hm382 := hm359.kept hg372 (map_ne_own hm359 ho353)
  have hm383 := hm360.kept hg372 (map_ne_own hm360 ho353)
  have hm384 := hm361.kept hg372 (map_ne_own hm361 ho353)
  have ha385 : Apart kvb.ownBlock u368.ownBlock := app_ne_own (NP.hr hnp158) hw373 ho352.lt
  have ha386 : Apart B.ownBlock u368.ownBlock := app_ne_own hpk219.arb.symm hw373 ho354.lt
  have ha387 : Apart u293.ownBlock u368.ownBlock := app_ne_own ha313.symm hw373 ho355.lt
  have ha388 : Apart u345.ownBlock u368.ownBlock := app_ne_own ha363 hw373 ho367.lt
  have ha389 : Apart (some p) u368.ownBlock := app_ne_box hpk219.apr hw373 hb356.lt
  have hlo390 : Lo w (inP p L R B mm) u368.ownBlock := lo_app (PIn.lr hpin) hw373 hX351.size
  have hm391 : ((q.ns.map Nd.r) ++ ([ys2])).length = (q.ns.map Nd.r).length + 1 := List.length_append
  refine qd rfl rfl rfl (r_nil rfl) ?_
  refine qd rfl rfl rfl (r_fldp (k := 1) rfl Tryd.underlying99 rfl nz97 rfl) ?_
  refine q0 rfl rfl rfl (o_stp (cs' := [u293, u368, B, (.map (some mm.f)), (.map (some mm.o)), (.map (some mm.c)), (.map (some mm.s)), (.map (some mm.n))]) (us := [u368]) (v := u368) sz97 rfl rfl (cells1 ho370.one) (ones1 ho370.one) hX374.pins hb379 (Nat.le_of_ble_eq_true rfl) rfl (fun w392 hb393 hp394 hg395 hz396 => ?_))
  have hX397 := hX374.write hp394 hg395 ((PIn.lp hpin))
  have ho398 := ho375.keptA hg395 (NP.hp hnp158)
  have ho399 := ho376.keptA hg395 hpk219.apb.symm
  have ho400 := ho377.keptA hg395 ha316.symm
  have ho401 := ho370.keptA hg395 ha389.symm
  have hm402 := hm380.kept hg395 (map_ne_box hm380 hb379)
  have hm403 := hm381.kept hg395 (map_ne_box hm381 hb379)
  have hm404 := hm382.kept hg395 (map_ne_box hm382 hb379)
  have hm405 := hm383.kept hg395 (map_ne_box hm383 hb379)
  have hm406 := hm384.kept hg395 (map_ne_box hm384 hb379)
  refine qe ?_
  refine s_then ?_
  refine s_seq ?_
  refine c_reg ?_
  refine qd rfl rfl rfl (r_move (v := (.pointer (some ⟨p, 0, none⟩))) rfl) ?_
  refine qd rfl rfl rfl (r_move (v := (.pointer (some ⟨p, 0, none⟩))) rfl) ?_
  refine qd rfl rfl rfl (r_nil rfl) ?_
  refine qd rfl rfl rfl (r_fldp (k := 2) rfl Tryd.underlying99 rfl nz38 rfl) ?_
  refine qd rfl rfl rfl (r_ldp1 (u := B) ag38 rfl (hb393.cell (o := 2) rfl)) ?_
  refine qd rfl rfl rfl (r_move (v := (.int .i64 bm)) rfl) ?_
  refine q1 rfl rfl rfl (o_buildF (E := eInt) (e := 3) [(.int .i64 bm)] [bm] Tryd.underlying38 sz3 zr3 (by exact reps1 (by rfl)) (ones1 (by rfl)) rfl rfl rfl rfl (by decide) hX397.pins (fun u407 w408 ho409 hp410 hl411 hk412 => ?_))
  have hX413 := hX397.step hp410 hl411
  have ho414 := ho398.below hl411
  have ho415 := ho399.below hl411
  have ho416 := ho400.below hl411
  have ho417 := ho401.below hl411
  have hb418 := hb393.below hl411
  have hm419 := hm402.below hl411
  have hm420 := hm403.below hl411
  have hm421 := hm404.below hl411
  have hm422 := hm405.below hl411
  have hm423 := hm406.below hl411
  have ha425 : Apart u407.ownBlock B.ownBlock := new_ne_own hk412 ho399.lt
  have ho429 : Own eInt 3 G335 w408 w.heap.size u407 ([bm]) := ho409.weaken hX397.size
  refine q1 rfl rfl rfl (o_append (E := eInt) (v := B) (u := u407) 8 Tryd.underlying38 ap3 (by decide) rfl rfl hX413.pins ho415 ho429.src (by first | omega | (rw [List.nil_append]; omega) | (rw [List.length_nil]; omega) | (rw [List.length_append]; omega) | (simp; done) | (simp; omega) | (simp only [List.length_append, List.length_cons, List.length_nil]; omega)) (by first | omega | (rw [List.nil_append]; omega) | (rw [List.length_nil]; omega) | (rw [List.length_append]; omega) | (simp; done) | (simp; omega) | (simp only [List.length_append, List.length_cons, List.length_nil]; omega)) (Nat.zero_le _) (fun u430 w431 ho432 hp433 hg434 hw435 => ?_))
  have hX436 := hX413.write hp433 hg434 ((PIn.lb hpin))
  have ho438 := ho416.keptA hg434 ha314.symm
  have ho439 := ho417.keptA hg434 ha386.symm
  have hb441 := hb418.keptA hg434 hpk219.apb
  have hm442 := hm419.kept hg434 (map_ne_own hm419 ho415)
  have hm443 := hm420.kept hg434 (map_ne_own hm420 ho415)
  have hm444 := hm421.kept hg434 (map_ne_own hm421 ho415)
  have hm445 := hm422.kept hg434 (map_ne_own hm422 ho415)
  have hm446 := hm423.kept hg434 (map_ne_own hm423 ho415)
  have ha447 : Apart kvb.ownBlock u430.ownBlock := app_ne_own (NP.hb hnp158) hw435 ho414.lt
  have ha448 : Apart u293.ownBlock u430.ownBlock := app_ne_own ha314.symm hw435 ho416.lt
  have ha449 : Apart u368.ownBlock u430.ownBlock := app_ne_own ha386.symm hw435 ho417.lt
  have ha450 : Apart u407.ownBlock u430.ownBlock := app_ne_own ha425 hw435 ho429.lt
  have ha451 : Apart (some p) u430.ownBlock := app_ne_box hpk219.apb hw435 hb418.lt
  have hlo452 : Lo w (inP p L R B mm) u430.ownBlock := lo_app (PIn.lb hpin) hw435 hX413.size
  have hm453 : (q.bs ++ ([bm])).length = q.bs.length + 1 := List.length_append
  refine qd rfl rfl rfl (r_nil rfl) ?_
  refine qd rfl rfl rfl (r_fldp (k := 2) rfl Tryd.underlying99 rfl nz38 rfl) ?_
  refine q0 rfl rfl rfl (o_stp (cs' := [u293, u368, u430, (.map (some mm.f)), (.map (some mm.o)), (.map (some mm.c)), (.map (some mm.s)), (.map (some mm.n))]) (us := [u430]) (v := u430) sz38 rfl rfl (cells1 ho432.one) (ones1 ho432.one) hX436.pins hb441 (Nat.le_of_ble_eq_true rfl) rfl (fun w454 hb455 hp456 hg457 hz458 => ?_))
  have hX459 := hX436.write hp456 hg457 ((PIn.lp hpin))
  have ho461 := ho438.keptA hg457 ha316.symm
  have ho462 := ho439.keptA hg457 ha389.symm
  have ho463 := ho432.keptA hg457 ha451.symm
  have hm464 := hm442.kept hg457 (map_ne_box hm442 hb441)
  have hm465 := hm443.kept hg457 (map_ne_box hm443 hb441)
  have hm466 := hm444.kept hg457 (map_ne_box hm444 hb441)
  have hm467 := hm445.kept hg457 (map_ne_box hm445 hb441)
  have hm468 := hm446.kept hg457 (map_ne_box hm446 hb441)
  refine qe ?_
  refine s_then ?_
  refine s_seq ?_
  refine c_reg ?_
  refine qd rfl rfl rfl (r_move (v := (.int .i64 (q.bs.length : Int))) rfl) ?_
  refine qd rfl rfl rfl (r_assign (v := (.int .i64 (q.bs.length : Int))) rfl) ?_
  refine qe ?_
  refine s_then ?_
  refine wp_ret ?_
  refine s_ret ?_
  refine c_ret1 (v := (.int .i64 (q.bs.length : Int))) rfl rfl rfl ?_
  have el : (q.ns.map Nd.l) ++ [xs2] = (addQ q xs ys bm).ns.map Nd.l := by rw [hxs2]; simp [addQ]
  have er : (q.ns.map Nd.r) ++ [ys2] = (addQ q xs ys bm).ns.map Nd.r := by rw [hys2]; simp [addQ]
  have ef : putE q.fl (b2s kxb) (q.bs.length : Int) = (addQ q xs ys bm).fl := by rw [hkey, hxs2, hys2, hok.ar.ok.len]; rfl
  have hol := ho461
  have hor := ho462
  have hff := hm464
  rw [el] at hol
  rw [er] at hor
  rw [ef] at hff
  exact ⟨(q.bs.length : Int), u293, u368, u430, addQ q xs ys bm, G335, rfl, ⟨hb455, hol, hor, ho463, hff, hm465, hm466, hm467, hm468, ha316, ha389, ha451, ha387, ha448, ha449, hpk219.df⟩, hadd.1, hadd.2.1, ⟨hlo317, hlo390, hlo452⟩, hX459, by rw [hok.ar.ok.len]; exact hadd.2.2.1, by rw [hok.ar.ok.len]; exact hadd.2.2.2.1, hadd.2.2.2.2⟩

end PO1
end Go.Proofs.YtndhhpaldhlghaaDoor
