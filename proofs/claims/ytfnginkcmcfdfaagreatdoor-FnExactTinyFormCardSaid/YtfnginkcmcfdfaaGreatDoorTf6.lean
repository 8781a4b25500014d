/- Texts of this claim in one file: PO1, PL1, PA1, SO1, OD1, FO1, NG1, NF1, SM1, MK1, TI1. -/
import Derived.Test.YtfnginkcmcfdfaaGreatDoorTf5
import Derived.Test.YtfnginkcmcfdfaaGreatDoorChecked
set_option maxRecDepth 20000
set_option maxHeartbeats 2000000
namespace Go.Proofs.YtfnginkcmcfdfaaGreatDoor
namespace PO1
open Go.RowKit Go.GL Go.Proofs
open Go.Proofs.YtfnginkcmcfdfaaGreatDoor.B1
open Go.Proofs.YtfnginkcmcfdfaaGreatDoor.K1







theorem mk5 : (Tryz.prog.info? 5).map (fun i => (i.size, i.bytes, i.zero)) = some (1, 1, some (.int .u8 0)) := by kernel_rfl















theorem clone_spec {w : World} {G : Pin} {v : Value} {xs : List Int} (hP : Pins G w) (hv : RSl eInt G v xs) (hs : xs.length ≤ 1048576) :
  Calls Tryz.prog 159 [v].toArray w fun e w' => ∃ (u : Value) (G' : Pin), e = .returned u ∧ Own eInt 3 G' w' w.heap.size u xs ∧ Ext noS G w G' w' := by
 refine zZ (n := 8) Tryz.func159 Tryz.ntmps159 rfl rfl ?_
 have hX0 : Ext noS G w G w := Ext.refl hP
 refine zD (zH ?_)
 refine qD rfl (zC (v := (.slice none 0 0)) rfl) ?_
 refine qe (zA (zD (zD (zH ?_))))
 refine qD rfl (zB (v := v) rfl) ?_
 refine qD rfl (r_eqlNil Tryz.underlying65 hv rfl rfl) ?_
 refine qe (zA ?_)
 refine c_if rfl rfl (fun h1 => ?_) (fun h1 => ?_)
 ·skip
  refine zD (zH ?_)
  refine qD rfl (zC (v := (.slice none 0 0)) rfl) ?_
  refine qe (zA ?_)
  refine wp_ret ?_
  refine zX ?_
  refine zT (v := (.slice none 0 0)) rfl rfl rfl ?_
  have hx0 := nil_of hv h1
  subst hx0
  exact ⟨_, _, rfl, Own.nil _ _ _ _ _, hX0⟩
 refine wp_skip ?_
 refine zA (zD (zH ?_))
 refine qI rfl (xH (E := eInt) (e := 3) Tryz.underlying65 sz3 hX0.pins (fun u2 w3 ho4 hp5 hl6 hk7 => ?_))
 have hX8 := hX0.step hp5 hl6
 have ho9 : Own eInt 3 G w3 w.heap.size u2 ([]) := ho4.weaken hX0.size
 refine qD rfl (zB (v := v) rfl) ?_
 refine qI rfl (yC (E := eInt) (v := u2) (u := v) 8 Tryz.underlying65 ap3 (by decide) rfl rfl hX8.pins ho9 ((hv.mono (Pin.le_refl _)).src hX8.pins (by decide)) (by first | omega | (rw [List.nil_append]; omega) | (rw [List.length_nil]; omega) | (rw [List.length_append]; omega) | (simp; done) | (simp; omega) | (simp only [List.length_append, List.length_cons, List.length_nil]; omega)) (by first | omega | (rw [List.nil_append]; omega) | (rw [List.length_nil]; omega) | (rw [List.length_append]; omega) | (simp; done) | (simp; omega) | (simp only [List.length_append, List.length_cons, List.length_nil]; omega)) (hX8.size) (fun u10 w11 ho12 hp13 hg14 hw15 => ?_))
 have hX16 := hX8.write hp13 hg14 ((yH ho9))
 have hm17 : (([]) ++ xs).length = ([]).length + xs.length := List.length_append
 refine qD rfl (zC (v := u10) rfl) ?_
 refine qe (zA ?_)
 refine wp_ret ?_
 refine zX ?_
 refine zT (v := u10) rfl rfl rfl ?_
 exact ⟨_, _, rfl, ho12, hX16⟩

theorem sortI_spec {w : World} {G : Pin} {e base : Nat} {v : Value} {xs : List Int} (hP : Pins G w) (hv : Own eInt e G w base v xs) (hl : xs.length ≤ 1073741824) :
  Calls Tryz.prog 152 [v].toArray w fun en w' => ∃ G', en = .returned (.tuple #[]) ∧ Own eInt e G' w' base v (sortM xs) ∧ Ext (inO v.ownBlock) G w G' w' := by
 rcases own_cases hv with ⟨rfl, rfl⟩ | ⟨g, cap, rfl⟩
 ·refine (Tryz.slices_Sort_int_none none 0 w).mono ?_
  rintro en w' ⟨rfl, rfl⟩
  exact ⟨G, rfl, by simpa [sortM] using hv, Ext.refl hP⟩
 ·obtain ⟨_, h1, h2, h3⟩ := own_holds hv
  refine (Tryz.slices_Sort_int g 0 cap xs w h3 h1 (by omega)).mono ?_
  rintro en w' ⟨rfl, m, os, hw⟩
  obtain ⟨a, b, c⟩ := own_put (ys := sortM xs) hv hP hw (sortM_length xs) (List.take_length ..)
  rw [sortM_length] at a
  exact ⟨G, rfl, a, Ext.one b c⟩
theorem compactI_spec {w : World} {G : Pin} {e base : Nat} {v : Value} {xs : List Int} (hP : Pins G w) (hv : Own eInt e G w base v xs) (hl : xs.length ≤ 1073741824) :
  Calls Tryz.prog 160 [v].toArray w fun en w' => ∃ (u : Value) (G' : Pin), en = .returned u ∧ Own eInt e G' w' base u (Go.Lib.compact xs) ∧ Lo w (inO v.ownBlock) u.ownBlock ∧ Ext (inO v.ownBlock) G w G' w' := by
 rcases own_cases hv with ⟨rfl, rfl⟩ | ⟨g, cap, rfl⟩
 ·refine (Tryz.slices_Compact_int_empty none 0 w).mono ?_
  rintro en w' ⟨rfl, rfl⟩
  exact ⟨_, G, rfl, hv, lo_self, Ext.refl hP⟩
 ·obtain ⟨_, h1, h2, h3⟩ := own_holds hv
  refine (Tryz.slices_Compact_int g 0 cap xs w h3 (by omega) h2).mono ?_
  rintro en w' ⟨rfl, m, hw⟩
  have hcl := compact_len xs
  obtain ⟨a, b, c⟩ := own_put (os := #[]) (ys := Go.Lib.compact xs) hv hP (hw.trans (Go.Sort.grow_empty _).symm) (by simp; omega) (List.take_left ..)
  exact ⟨_, G, rfl, a, lo_self, Ext.one b c⟩

theorem distinct_spec {w : World} {G : Pin} {v : Value} {xs : List Int} (hP : Pins G w) (hv : RSl eInt G v xs) (hs : xs.length ≤ 1048576) :
  Calls Tryz.prog 129 [v].toArray w fun e w' => ∃ (u : Value) (G' : Pin), e = .returned u ∧ Own eInt 3 G' w' w.heap.size u (sortL xs) ∧ Ext noS G w G' w' := by
 refine zZ (n := 10) Tryz.func129 Tryz.ntmps129 rfl rfl ?_
 have hX0 : Ext noS G w G w := Ext.refl hP
 refine zD (zH ?_)
 refine qD rfl (zC (v := (.slice none 0 0)) rfl) ?_
 refine qe (zA (zD (zH ?_)))
 refine qD rfl (zB (v := v) rfl) ?_
 refine qI rfl (zO (vs := [v]) Tryz.func159 nm159 rfl rfl rfl ?_)
 refine Calls.mono (clone_spec hX0.pins hv (by omega)) ?_
 rintro _ w3 ⟨u1, G2, rfl, ho4, hx5⟩
 refine ⟨_, rfl, ?_⟩
 have hX6 := hX0.tr hx5
 have ho7 : Own eInt 3 G2 w3 w.heap.size u1 xs := ho4.weaken hX0.size
 refine qD rfl (zC (v := u1) rfl) ?_
 refine qe (zA (zD (zH ?_)))
 refine qD rfl (zB (v := u1) rfl) ?_
 refine qI rfl (zO (vs := [u1]) Tryz.func152 nm152 rfl rfl rfl ?_)
 refine Calls.mono (sortI_spec hX6.pins ho7 (by omega)) ?_
 rintro _ w9 ⟨G8, rfl, ho10, hx11⟩
 refine ⟨_, rfl, ?_⟩
 have hX12 := hX6.trans hx11 (fun i hi => (yH ho7) i hi)
 have hm13 := sortM_length xs
 refine qe (zA (zD (zH ?_)))
 refine qD rfl (zB (v := u1) rfl) ?_
 refine qI rfl (zO (vs := [u1]) Tryz.func160 nm160 rfl rfl rfl ?_)
 refine Calls.mono (compactI_spec hX12.pins (ho10.weaken (Nat.zero_le _)) (by omega)) ?_
 rintro _ w16 ⟨u14, G15, rfl, ho17, hlo18, hx19⟩
 refine ⟨_, rfl, ?_⟩
 have hX20 := hX12.trans hx19 (fun i hi => (yH ho10) i hi)
 have ho21 := ho17.up (lo := w.heap.size) (fun k hk => (hlo18 k hk).elim (fun h => Nat.le_trans hX12.size h) (fun h => (ho10.lt k h).1))
 refine qD rfl (zC (v := u14) rfl) ?_
 refine qe (zA ?_)
 refine wp_ret ?_
 refine zX ?_
 refine zT (v := u14) rfl rfl rfl ?_
 exact ⟨_, _, rfl, (by rw [← distinct_eq]; simpa using ho21), hX20⟩

theorem node_spec {w : World} {G : Pin} {p : Nat} {L R B : Value} {mm : PM} {q : PSt} (hP : Pins G w) (hpk : Pk 65 3 G w p L R B mm q) (hok : PoolOk q) {x y : Value} {xs ys : List Int} (hx : RSl eInt G x xs) (hy : RSl eInt G y ys) (hlim : q.ns.length + 1 ≤ 1048576) (hls : xs.length ≤ 1048576 ∧ ys.length ≤ 1048576) (hk1 : ∀ i, i < xs.length → 0 ≤ xs.getD i 0 ∧ xs.getD i 0 < q.ns.length) (hk2 : ∀ i, i < ys.length → 0 ≤ ys.getD i 0 ∧ ys.getD i 0 < q.ns.length) :
  Calls Tryz.prog 79 [(.pointer (some ⟨p, 0, none⟩)), x, y].toArray w fun e w' => ∃ (z : Int) (L' R' B' : Value) (q' : PSt) (G' : Pin), e = .returned (.int .i64 z) ∧ Pk 65 3 G' w' p L' R' B' mm q' ∧ PoolOk q' ∧ PX q q' ∧ PLo w p L R B mm L' R' B' ∧ Ext (inP p L R B mm) G w G' w' ∧ PlaceOk q' z ∧ pd q' z = mkG (xs.map (pd q)) (ys.map (pd q)) ∧ q'.ns.length ≤ q.ns.length + 1 ∧ (q'.cm = q.cm ∧ (q'.ns.length = q.ns.length ∨ z = q.ns.length)) := by
 refine zZ (n := 130) Tryz.func79 Tryz.ntmps79 rfl rfl ?_
 have hX0 : Ext (inP p L R B mm) G w G w := Ext.refl hP
 have hpin : PIn w (inP p L R B mm) p L R B mm := PIn.self
 have hml1 : (q.ns.map Nd.l).length = q.ns.length ∧ (q.ns.map Nd.r).length = q.ns.length := ⟨List.length_map .., List.length_map ..⟩
 have hml2 : q.bs.length = q.ns.length ∧ q.ns.length ≤ 1048576 := ⟨hok.ar.ok.len, hok.ar.ok.lim⟩
 obtain ⟨xs2, hxs2⟩ : ∃ l, l = sortL xs := ⟨_, rfl⟩
 obtain ⟨ys2, hys2⟩ : ∃ l, l = sortL ys := ⟨_, rfl⟩
 have hb1 := sort_bounds hk1
 have hb2 := sort_bounds hk2
 rw [← hxs2] at hb1
 rw [← hys2] at hb2
 have hsl1 : xs2.length ≤ 1048576 := by rw [hxs2]; exact Nat.le_trans qO hls.1
 have hsl2 : ys2.length ≤ 1048576 := by rw [hys2]; exact Nat.le_trans qO hls.2
 refine zD (zH ?_)
 refine qD rfl (zC (v := (.int .i64 0)) rfl) ?_
 refine qe (zA (zD (zH ?_)))
 refine qD rfl (zB (v := x) rfl) ?_
 refine qI rfl (zO (vs := [x]) Tryz.func129 nm129 rfl rfl rfl ?_)
 refine Calls.mono (distinct_spec hX0.pins hx (by omega)) ?_
 rintro _ w5 ⟨u3, G4, rfl, ho6, hx7⟩
 refine ⟨_, rfl, ?_⟩
 rw [← hxs2] at ho6
 have hX8 := hX0.tr hx7
 have hpk9 := hpk.ext hx7
 have hnp10 := hpk.new (x := u3.ownBlock) (fun k hk => (ho6.lt k hk).1)
 have ho11 : Own eInt 3 G4 w5 w.heap.size u3 xs2 := ho6.weaken hX0.size
 refine qD rfl (zB (v := y) rfl) ?_
 refine qI rfl (zO (vs := [y]) Tryz.func129 nm129 rfl rfl rfl ?_)
 refine Calls.mono (distinct_spec hX8.pins (hy.mono hx7.le) (by omega)) ?_
 rintro _ w14 ⟨u12, G13, rfl, ho15, hx16⟩
 refine ⟨_, rfl, ?_⟩
 rw [← hys2] at ho15
 have hX17 := hX8.tr hx16
 have ho18 := ho11.ext hx16
 have hpk19 := hpk9.ext hx16
 have ha20 : Apart u12.ownBlock u3.ownBlock := zS ho15.lt ho11.lt
 have hnp21 := hpk9.new (x := u12.ownBlock) (fun k hk => (ho15.lt k hk).1)
 have ho22 : Own eInt 3 G13 w14 w.heap.size u12 ys2 := ho15.weaken hX8.size
 refine qD rfl (zC (v := u3) rfl) ?_
 refine qD rfl (zC (v := u12) rfl) ?_
 refine qe (zA (zD (zH ?_)))
 refine qD rfl (zB (v := u3) rfl) ?_
 refine qD rfl (zQ Tryz.underlying65 (v := u3) rfl ho18.read) ?_
 refine qD rfl (zB (v := u12) rfl) ?_
 refine qD rfl (zQ Tryz.underlying65 (v := u12) rfl ho22.read) ?_
 refine qD rfl (yT rfl rfl (by omega)) ?_
 refine qD rfl (r_mul rfl rfl (by omega)) ?_
 refine qD rfl (yT rfl rfl (by omega)) ?_
 refine qI rfl (o_make0 (E := eByte) Tryz.underlying132 mk5 rfl rfl hX17.pins (by omega) (by omega) (by omega) (fun u23 w24 ho25 hp26 hl27 hk28 => ?_))
 have hX29 := hX17.step hp26 hl27
 have ho30 := ho18.below hl27
 have ho31 := ho22.below hl27
 have hpk32 := hpk19.below hl27 hp26
 have ha33 : Apart u23.ownBlock u3.ownBlock := zK hk28 ho18.lt
 have ha37 : Apart u23.ownBlock u12.ownBlock := zK hk28 ho22.lt
 have ha39 := hpk19.new (x := u23.ownBlock) (fun k hk => by rw [hk28] at hk; cases hk; exact Nat.le_refl _)
 have ho40 : Own eByte 5 G13 w24 w.heap.size u23 ([]) := ho25.weaken hX17.size
 refine qD rfl (zC (v := u23) rfl) ?_
 refine qe (zA (zD (zH ?_)))
 refine qD rfl (zC (v := (.int .i64 0)) rfl) ?_
 refine qe (zA (zD (zD (zH ?_))))
 refine qD rfl (zB (v := u3) rfl) ?_
 refine qD rfl (zQ Tryz.underlying65 (v := u3) rfl ho30.read) ?_
 refine qD rfl (zB (v := (.int .i64 0)) rfl) ?_
 refine qe (zA ?_)
 refine yA ?_
 refine yS (fun (k : Nat) (en : Nat → Value) (W : World) => ∃ (env1 : Nat → Value) (i : Nat) (kva : Value) (kxa : List UInt8) (bn : Int) (GLa : Pin), en = (upd (upd (upd (upd (upd (upd (upd (upd (upd env1 0 (.pointer (some ⟨p, 0, none⟩))) 1 u3) 2 u12) 6 (.int .i64 0)) 7 kva) 8 (.int .i64 bn)) 28 u3) 29 (.int .i64 (xs2.length : Int))) 30 (.int .i64 (i : Int))) ∧ k = xs2.length - i ∧ Ext (inP p L R B mm) G w GLa W ∧ Pin.le G13 GLa ∧ (i ≤ xs2.length) ∧ (kxa = keyL (xs2.take i)) ∧ (bn = bornOf q.bs (xs2.take i) 0) ∧ (0 ≤ bn ∧ bn ≤ q.ns.length) ∧ (Own eByte 5 GLa W w.heap.size kva (kxa)) ∧ (Own eInt 3 GLa W w.heap.size u3 (xs2)) ∧ (Own eInt 3 GLa W w.heap.size u12 (ys2)) ∧ (Apart kva.ownBlock u3.ownBlock) ∧ (Apart kva.ownBlock u12.ownBlock) ∧ (Pk 65 3 GLa W p L R B mm q) ∧ (NP p L R B mm kva.ownBlock)) _ ⟨_, 0, u23, [], 0, G13, (zG (x := 30) (zG (x := 29) (zG (x := 28) (zG (x := 8) (zG (x := 7) (zG (x := 6) (zG (x := 2) (zG (x := 1) (zV (x := 0) rfl) rfl) rfl) rfl) rfl) rfl) rfl) rfl) rfl), rfl, hX29, Pin.le_refl _, Nat.zero_le _, (by simp [keyL]), rfl, (by omega), ho40, ho30, ho31, ha33, ha37, hpk32, ha39⟩ ?_
 rintro k45 _ w46 ⟨env1, i, kva, kxa, bn, GLa, rfl, hk47, hX48, hlek45, hji, hka, hbbn, hlbn, hw49, hw50, hw51, ha52, ha53, hpk54, hnp55⟩
 have hkla : kxa.length ≤ 117440640 := by
  have := key_bound (j := i) hb1 hok.ar.ok.lim
  rw [hka]; omega
 refine zD (zH ?_)
 refine qD rfl (yR rfl rfl) ?_
 refine qe (zA (zD ?_))
 refine yG (p := ((i : Int) : Int) < (xs2.length : Int)) rfl rfl (fun h56 => ?_) (fun h56 => ?_)
 ·skip
  have hki := hb1 i (by omega)
  have hbk := hok.ar.ok.born (xs2.getD i 0).toNat (by omega)
  have hd13 := dig13 (n := (xs2.getD i 0).toNat) (by omega)
  refine wp_skip ?_
  refine zA (zD ?_)
  refine yA ?_
  refine zD (zH ?_)
  refine qD rfl (zM Tryz.underlying65 sz3 (v := u3) rfl rfl hw50.read (by omega) (by omega)) ?_
  refine qD rfl (zL (r := xs2.getD i 0) rfl ag3 (z := (i : Int)) rfl hw50.read (Gadd.pins hX48.pins u3) (by omega) (by omega)) ?_
  refine qD rfl (zC (v := (.int .i64 (xs2.getD i 0))) rfl) ?_
  refine qe (zA (zD (zH ?_)))
  refine qD rfl (zB (v := kva) rfl) ?_
  refine qD rfl (zB (v := (.int .i64 (xs2.getD i 0))) rfl) ?_
  refine qI rfl (zO (vs := [kva, (.int .i64 (xs2.getD i 0)), (.int .i64 36)]) Tryz.func130 nm130 rfl rfl rfl ?_)
  refine Calls.mono (appendInt_spec (i := xs2.getD i 0) hX48.pins (hw49.weaken (Nat.zero_le _)) (by omega) (by omega)) ?_
  rintro _ w59 ⟨u57, G58, rfl, ho60, hlo61, hx62⟩
  refine ⟨_, rfl, ?_⟩
  have hnp63 := np_turn hnp55 hpk54 hlo61
  have hX64 := hX48.trans hx62 (fun i hi => (yH hw49) i hi)
  have ho65 := hw50.extS hx62 (notO ha52.symm)
  have ho66 := hw51.extS hx62 (notO ha53.symm)
  have hpk67 := hpk54.extS hx62 (fun k hk hx => hnp55 k hx hk)
  have ha68 : Apart u3.ownBlock u57.ownBlock := ap_turn hlo61 ha52.symm (xW hw50)
  have ha69 : Apart u12.ownBlock u57.ownBlock := ap_turn hlo61 ha53.symm (xW hw51)
  have ho70 := ho60.up (lo := w.heap.size) (fun k hk => (hlo61 k hk).elim (fun h => Nat.le_trans hX48.size h) (fun h => (hw49.lt k h).1))
  have hm71 : (kxa ++ dig36 (xs2.getD i 0).toNat).length = kxa.length + (dig36 (xs2.getD i 0).toNat).length := List.length_append
  refine qI rfl (yY (E := eByte) (e := 5) [(.int .u8 44)] [44] Tryz.underlying132 sz5 zr5 (by exact xV (by rfl)) (yZ (by rfl)) rfl rfl rfl rfl (by decide) hX64.pins (fun u72 w73 ho74 hp75 hl76 hk77 => ?_))
  have hX78 := hX64.step hp75 hl76
  have ho79 := ho65.below hl76
  have ho80 := ho66.below hl76
  have ho81 := ho70.below hl76
  have hpk82 := hpk67.below hl76 hp75
  have ho91 : Own eByte 5 G58 w73 w.heap.size u72 ([44]) := ho74.weaken hX64.size
  refine qI rfl (yC (E := eByte) (v := u57) (u := u72) 1 Tryz.underlying132 ap5 (by decide) rfl rfl hX78.pins ho81 ho91.src (by first | omega | (rw [List.nil_append]; omega) | (rw [List.length_nil]; omega) | (rw [List.length_append]; omega) | (simp; done) | (simp; omega) | (simp only [List.length_append, List.length_cons, List.length_nil]; omega)) (by first | omega | (rw [List.nil_append]; omega) | (rw [List.length_nil]; omega) | (rw [List.length_append]; omega) | (simp; done) | (simp; omega) | (simp only [List.length_append, List.length_cons, List.length_nil]; omega)) (hX78.size) (fun u92 w93 ho94 hp95 hg96 hw97 => ?_))
  have hX98 := hX78.write hp95 hg96 ((yH ho81))
  have ho99 := ho79.keptA hg96 ha68
  have ho100 := ho80.keptA hg96 ha69
  have hpk102 := hpk82.kept hg96 hp95 hnp63
  have ha103 : Apart u3.ownBlock u92.ownBlock := zJ ha68 hw97 ho79.lt
  have ha104 : Apart u12.ownBlock u92.ownBlock := zJ ha69 hw97 ho80.lt
  have hnp106 := np_app hnp63 hpk82 hw97
  have hm107 : ((kxa ++ dig36 (xs2.getD i 0).toNat) ++ ([44])).length = (kxa ++ dig36 (xs2.getD i 0).toNat).length + 1 := List.length_append
  refine qD rfl (zC (v := u92) rfl) ?_
  refine qe (zA (zH ?_))
  refine qD rfl (zB (v := (.int .i64 bn)) rfl) ?_
  refine qD rfl (zB (v := (.pointer (some ⟨p, 0, none⟩))) rfl) ?_
  refine qD rfl (xM rfl) ?_
  refine qD rfl (zR (k := 2) rfl Tryz.underlying72 rfl nz65 rfl) ?_
  refine qD rfl (zU (u := B) ag65 rfl (hpk102.bx.cell (o := 2) rfl)) ?_
  refine qD rfl (zB (v := (.int .i64 (xs2.getD i 0))) rfl) ?_
  refine qD rfl (zM Tryz.underlying65 sz3 (v := B) rfl rfl hpk102.ob.read (by omega) (by omega)) ?_
  refine qD rfl (zL (r := q.bs.getD (xs2.getD i 0).toNat 0) rfl ag3 (z := (xs2.getD i 0)) rfl hpk102.ob.read (Gadd.pins hX98.pins B) (by omega) (by omega)) ?_
  refine qD rfl (yT rfl rfl (by omega)) ?_
  refine qD rfl (r_max rfl rfl) ?_
  refine qD rfl (zC (v := (.int .i64 (max bn ((q.bs.getD (xs2.getD i 0).toNat 0) + 1)))) rfl) ?_
  refine qe ?_
  refine yN ?_
  refine zA (zH ?_)
  refine qD rfl (yT rfl rfl (by omega)) ?_
  refine qD rfl (zB (v := (.int .i64 ((i : Int) + 1))) rfl) ?_
  refine qe ?_
  refine yL ?_
  refine ⟨_, ?_, _, rfl, _, i + 1, u92, (kxa ++ dig36 (xs2.getD i 0).toNat) ++ ([44]), max bn ((q.bs.getD (xs2.getD i 0).toNat 0) + 1), G58, (zG (x := 30) (zG (x := 29) (zG (x := 28) (zG (x := 8) (zG (x := 7) (zG (x := 6) (zG (x := 2) (zG (x := 1) (zV (x := 0) rfl) rfl) rfl) rfl) rfl) rfl) rfl) rfl) rfl), rfl, hX98, (Pin.le_trans hlek45 hx62.le), (by omega), (by rw [key_next (by omega), hka]), (by rw [hbbn, born_next (by omega)]), (by omega), ho94, ho99, ho100, ha103.symm, ha104.symm, hpk102, hnp106⟩
  omega
 refine wp_exit ?_
 refine yD ?_
 refine yP ?_
 refine yO ?_
 refine zA (zD (zH ?_))
 refine qD rfl (zB (v := kva) rfl) ?_
 refine qI rfl (yY (E := eByte) (e := 5) [(.int .u8 124)] [124] Tryz.underlying132 sz5 zr5 (by exact xV (by rfl)) (yZ (by rfl)) rfl rfl rfl rfl (by decide) hX48.pins (fun u108 w109 ho110 hp111 hl112 hk113 => ?_))
 have hX114 := hX48.step hp111 hl112
 have ho115 := hw49.below hl112
 have ho116 := hw50.below hl112
 have ho117 := hw51.below hl112
 have hpk118 := hpk54.below hl112 hp111
 have ho127 : Own eByte 5 GLa w109 w.heap.size u108 ([124]) := ho110.weaken hX48.size
 refine qI rfl (yC (E := eByte) (v := kva) (u := u108) 1 Tryz.underlying132 ap5 (by decide) rfl rfl hX114.pins ho115 ho127.src (by first | omega | (rw [List.nil_append]; omega) | (rw [List.length_nil]; omega) | (rw [List.length_append]; omega) | (simp; done) | (simp; omega) | (simp only [List.length_append, List.length_cons, List.length_nil]; omega)) (by first | omega | (rw [List.nil_append]; omega) | (rw [List.length_nil]; omega) | (rw [List.length_append]; omega) | (simp; done) | (simp; omega) | (simp only [List.length_append, List.length_cons, List.length_nil]; omega)) (hX114.size) (fun u128 w129 ho130 hp131 hg132 hw133 => ?_))
 have hX134 := hX114.write hp131 hg132 ((yH ho115))
 have ho135 := ho116.keptA hg132 ha52.symm
 have ho136 := ho117.keptA hg132 ha53.symm
 have hpk138 := hpk118.kept hg132 hp131 hnp55
 have ha139 : Apart u3.ownBlock u128.ownBlock := zJ ha52.symm hw133 ho116.lt
 have ha140 : Apart u12.ownBlock u128.ownBlock := zJ ha53.symm hw133 ho117.lt
 have hnp142 := np_app hnp55 hpk118 hw133
 have hm143 : (kxa ++ ([124])).length = kxa.length + 1 := List.length_append
 refine qD rfl (zC (v := u128) rfl) ?_
 refine qe (zA (zD (zD (zH ?_))))
 rw [qJ (by omega)] at hka hbbn
 have hkk : keyL xs2 ++ [124] = kxa ++ [124] := by rw [hka]
 refine qD rfl (zB (v := u12) rfl) ?_
 refine qD rfl (zQ Tryz.underlying65 (v := u12) rfl ho136.read) ?_
 refine qD rfl (zB (v := (.int .i64 0)) rfl) ?_
 refine qe (zA ?_)
 refine yA ?_
 refine yS (fun (k : Nat) (en : Nat → Value) (W : World) => ∃ (env1 : Nat → Value) (i2 : Nat) (kvb : Value) (kxb : List UInt8) (bm : Int) (GLb : Pin), en = (upd (upd (upd (upd (upd (upd (upd (upd (upd env1 0 (.pointer (some ⟨p, 0, none⟩))) 1 u3) 2 u12) 6 (.int .i64 0)) 7 kvb) 8 (.int .i64 bm)) 53 u12) 54 (.int .i64 (ys2.length : Int))) 55 (.int .i64 (i2 : Int))) ∧ k = ys2.length - i2 ∧ Ext (inP p L R B mm) G w GLb W ∧ Pin.le GLa GLb ∧ (i2 ≤ ys2.length) ∧ (kxb = keyL xs2 ++ [124] ++ keyL (ys2.take i2)) ∧ (bm = bornOf q.bs (ys2.take i2) bn) ∧ (0 ≤ bm ∧ bm ≤ q.ns.length) ∧ (Own eByte 5 GLb W w.heap.size kvb (kxb)) ∧ (Own eInt 3 GLb W w.heap.size u3 (xs2)) ∧ (Own eInt 3 GLb W w.heap.size u12 (ys2)) ∧ (Apart kvb.ownBlock u3.ownBlock) ∧ (Apart kvb.ownBlock u12.ownBlock) ∧ (Pk 65 3 GLb W p L R B mm q) ∧ (NP p L R B mm kvb.ownBlock)) _ ⟨_, 0, u128, kxa ++ ([124]), bn, GLa, (zG (x := 55) (zG (x := 54) (zG (x := 53) (zG (x := 8) (zG (x := 7) (zG (x := 6) (zG (x := 2) (zG (x := 1) (zV (x := 0) rfl) rfl) rfl) rfl) rfl) rfl) rfl) rfl) rfl), rfl, hX134, Pin.le_refl _, Nat.zero_le _, (by rw [← hkk]; simp [keyL]), rfl, (by omega), ho130, ho135, ho136, ha139.symm, ha140.symm, hpk138, hnp142⟩ ?_
 rintro k148 _ w149 ⟨env1, i2, kvb, kxb, bm, GLb, rfl, hk150, hX151, hlek148, hji2, hkb, hbbm, hlbm, hw152, hw153, hw154, ha155, ha156, hpk157, hnp158⟩
 have hklb : kxb.length ≤ 117440640 := by
  have := key_bound (j := i2) hb2 hok.ar.ok.lim
  have h2 := key_bound (j := xs2.length) hb1 hok.ar.ok.lim; rw [hkb, List.length_append, List.length_append]; simp only [List.length_cons, List.length_nil]; rw [qJ (Nat.le_refl _)] at h2; omega
 refine zD (zH ?_)
 refine qD rfl (yR rfl rfl) ?_
 refine qe (zA (zD ?_))
 refine yG (p := ((i2 : Int) : Int) < (ys2.length : Int)) rfl rfl (fun h159 => ?_) (fun h159 => ?_)
 ·skip
  have hki := hb2 i2 (by omega)
  have hbk := hok.ar.ok.born (ys2.getD i2 0).toNat (by omega)
  have hd13 := dig13 (n := (ys2.getD i2 0).toNat) (by omega)
  refine wp_skip ?_
  refine zA (zD ?_)
  refine yA ?_
  refine zD (zH ?_)
  refine qD rfl (zM Tryz.underlying65 sz3 (v := u12) rfl rfl hw154.read (by omega) (by omega)) ?_
  refine qD rfl (zL (r := ys2.getD i2 0) rfl ag3 (z := (i2 : Int)) rfl hw154.read (Gadd.pins hX151.pins u12) (by omega) (by omega)) ?_
  refine qD rfl (zC (v := (.int .i64 (ys2.getD i2 0))) rfl) ?_
  refine qe (zA (zD (zH ?_)))
  refine qD rfl (zB (v := kvb) rfl) ?_
  refine qD rfl (zB (v := (.int .i64 (ys2.getD i2 0))) rfl) ?_
  refine qI rfl (zO (vs := [kvb, (.int .i64 (ys2.getD i2 0)), (.int .i64 36)]) Tryz.func130 nm130 rfl rfl rfl ?_)
  refine Calls.mono (appendInt_spec (i := ys2.getD i2 0) hX151.pins (hw152.weaken (Nat.zero_le _)) (by omega) (by omega)) ?_
  rintro _ w162 ⟨u160, G161, rfl, ho163, hlo164, hx165⟩
  refine ⟨_, rfl, ?_⟩
  have hnp166 := np_turn hnp158 hpk157 hlo164
  have hX167 := hX151.trans hx165 (fun i hi => (yH hw152) i hi)
  have ho168 := hw153.extS hx165 (notO ha155.symm)
  have ho169 := hw154.extS hx165 (notO ha156.symm)
  have hpk170 := hpk157.extS hx165 (fun k hk hx => hnp158 k hx hk)
  have ha171 : Apart u3.ownBlock u160.ownBlock := ap_turn hlo164 ha155.symm (xW hw153)
  have ha172 : Apart u12.ownBlock u160.ownBlock := ap_turn hlo164 ha156.symm (xW hw154)
  have ho173 := ho163.up (lo := w.heap.size) (fun k hk => (hlo164 k hk).elim (fun h => Nat.le_trans hX151.size h) (fun h => (hw152.lt k h).1))
  have hm174 : (kxb ++ dig36 (ys2.getD i2 0).toNat).length = kxb.length + (dig36 (ys2.getD i2 0).toNat).length := List.length_append
  refine qI rfl (yY (E := eByte) (e := 5) [(.int .u8 44)] [44] Tryz.underlying132 sz5 zr5 (by exact xV (by rfl)) (yZ (by rfl)) rfl rfl rfl rfl (by decide) hX167.pins (fun u175 w176 ho177 hp178 hl179 hk180 => ?_))
  have hX181 := hX167.step hp178 hl179
  have ho182 := ho168.below hl179
  have ho183 := ho169.below hl179
  have ho184 := ho173.below hl179
  have hpk185 := hpk170.below hl179 hp178
  have ho194 : Own eByte 5 G161 w176 w.heap.size u175 ([44]) := ho177.weaken hX167.size
  refine qI rfl (yC (E := eByte) (v := u160) (u := u175) 1 Tryz.underlying132 ap5 (by decide) rfl rfl hX181.pins ho184 ho194.src (by first | omega | (rw [List.nil_append]; omega) | (rw [List.length_nil]; omega) | (rw [List.length_append]; omega) | (simp; done) | (simp; omega) | (simp only [List.length_append, List.length_cons, List.length_nil]; omega)) (by first | omega | (rw [List.nil_append]; omega) | (rw [List.length_nil]; omega) | (rw [List.length_append]; omega) | (simp; done) | (simp; omega) | (simp only [List.length_append, List.length_cons, List.length_nil]; omega)) (hX181.size) (fun u195 w196 ho197 hp198 hg199 hw200 => ?_))
  have hX201 := hX181.write hp198 hg199 ((yH ho184))
  have ho202 := ho182.keptA hg199 ha171
  have ho203 := ho183.keptA hg199 ha172
  have hpk205 := hpk185.kept hg199 hp198 hnp166
  have ha206 : Apart u3.ownBlock u195.ownBlock := zJ ha171 hw200 ho182.lt
  have ha207 : Apart u12.ownBlock u195.ownBlock := zJ ha172 hw200 ho183.lt
  have hnp209 := np_app hnp166 hpk185 hw200
  have hm210 : ((kxb ++ dig36 (ys2.getD i2 0).toNat) ++ ([44])).length = (kxb ++ dig36 (ys2.getD i2 0).toNat).length + 1 := List.length_append
  refine qD rfl (zC (v := u195) rfl) ?_
  refine qe (zA (zH ?_))
  refine qD rfl (zB (v := (.int .i64 bm)) rfl) ?_
  refine qD rfl (zB (v := (.pointer (some ⟨p, 0, none⟩))) rfl) ?_
  refine qD rfl (xM rfl) ?_
  refine qD rfl (zR (k := 2) rfl Tryz.underlying72 rfl nz65 rfl) ?_
  refine qD rfl (zU (u := B) ag65 rfl (hpk205.bx.cell (o := 2) rfl)) ?_
  refine qD rfl (zB (v := (.int .i64 (ys2.getD i2 0))) rfl) ?_
  refine qD rfl (zM Tryz.underlying65 sz3 (v := B) rfl rfl hpk205.ob.read (by omega) (by omega)) ?_
  refine qD rfl (zL (r := q.bs.getD (ys2.getD i2 0).toNat 0) rfl ag3 (z := (ys2.getD i2 0)) rfl hpk205.ob.read (Gadd.pins hX201.pins B) (by omega) (by omega)) ?_
  refine qD rfl (yT rfl rfl (by omega)) ?_
  refine qD rfl (r_max rfl rfl) ?_
  refine qD rfl (zC (v := (.int .i64 (max bm ((q.bs.getD (ys2.getD i2 0).toNat 0) + 1)))) rfl) ?_
  refine qe ?_
  refine yN ?_
  refine zA (zH ?_)
  refine qD rfl (yT rfl rfl (by omega)) ?_
  refine qD rfl (zB (v := (.int .i64 ((i2 : Int) + 1))) rfl) ?_
  refine qe ?_
  refine yL ?_
  refine ⟨_, ?_, _, rfl, _, i2 + 1, u195, (kxb ++ dig36 (ys2.getD i2 0).toNat) ++ ([44]), max bm ((q.bs.getD (ys2.getD i2 0).toNat 0) + 1), G161, (zG (x := 55) (zG (x := 54) (zG (x := 53) (zG (x := 8) (zG (x := 7) (zG (x := 6) (zG (x := 2) (zG (x := 1) (zV (x := 0) rfl) rfl) rfl) rfl) rfl) rfl) rfl) rfl) rfl), rfl, hX201, (Pin.le_trans hlek148 hx165.le), (by omega), (by rw [key_next (by omega), hkb]; simp only [List.append_assoc]), (by rw [hbbm, born_next (by omega)]), (by omega), ho197, ho202, ho203, ha206.symm, ha207.symm, hpk205, hnp209⟩
  omega
 refine wp_exit ?_
 refine yD ?_
 refine yP ?_
 refine yO ?_
 refine zA (zD (zD ?_))
 rw [qJ (by omega)] at hkb hbbm
 have hkey : kxb = keyN xs2 ys2 := by rw [hkb]; rfl
 have hq211 := Gadd.pins hX151.pins kvb
 have hr212 := hw152.read
 refine xJ (S := fun wz => BxR wz p [L, R, B, (.map (some mm.f)), (.map (some mm.o)), (.map (some mm.c)), (.map (some mm.s)), (.map (some mm.n))] ∧ Pins (Gadd GLb w149 kvb) wz) (last := 12) (by kernel_rfl) rfl ?_
 have hl213 : Below w149.heap.size w149 w149.drew := (Below.refl _ _).drew
 have hp214 := hX151.pins.below hl213
 have hX215 := hX151.step hp214 hl213
 have ho216 := hw152.below hl213
 have ho217 := hw153.below hl213
 have ho218 := hw154.below hl213
 have hpk219 := hpk157.below hl213 hp214
 have hq220 := hq211.below hl213
 refine dT (i := 0) rfl rfl (by kernel_rfl) (fun _ _ => zB (v := (.pointer (some ⟨p, 0, none⟩))) rfl) ⟨hpk219.bx.reads, hq220⟩ ?_
 refine dT (i := 1) rfl rfl (by kernel_rfl) (fun _ _ => xM rfl) ⟨hpk219.bx.reads, hq220⟩ ?_
 refine dT (i := 2) rfl rfl (by kernel_rfl) (fun _ _ => zR (k := 3) rfl Tryz.underlying72 rfl nz67 rfl) ⟨hpk219.bx.reads, hq220⟩ ?_
 refine dT (i := 3) rfl rfl (by kernel_rfl) (fun _ hS => zU (u := (.map (some mm.f))) ag67 rfl (hS.1 3 _ rfl)) ⟨hpk219.bx.reads, hq220⟩ ?_
 refine dT (i := 4) rfl rfl (by kernel_rfl) (fun _ _ => zB (v := kvb) rfl) ⟨hpk219.bx.reads, hq220⟩ ?_
 refine zW (i := 5) (by kernel_rfl) (zY (i := 5) rfl rfl rfl (zI rfl _) (EO.run (r_b2s Tryz.underlying132 Tryz.underlying5 Tryz.underlying9 rfl ho216.read (Gadd.pins hX215.pins kvb)) ?_))
 refine ⟨fun _ => ⟨hpk219.bx.reads, hq220⟩, ?_⟩
 refine zW (i := 6) (by kernel_rfl) (zY (i := 6) rfl rfl rfl (zI rfl _) (EO.run (run_lookv_int (k := (b2s kxb)) (key_str Tryz.underlying9) Tryz.underlying67 zr3 hpk219.ff rfl rfl) ?_))
 refine ⟨fun _ => ⟨hpk219.bx.reads, hq220⟩, ?_⟩
 refine dT (i := 7) rfl rfl (by kernel_rfl) (fun _ _ => zB (v := (.tuple #[(.int .i64 ((Go.GL.look q.fl (b2s kxb)).getD 0)), (.bool ((Go.GL.look q.fl (b2s kxb)).isSome))])) rfl) ⟨hpk219.bx.reads, hq220⟩ ?_
 refine dT (i := 8) rfl rfl (by kernel_rfl) (fun _ _ => xL (v := (.int .i64 ((Go.GL.look q.fl (b2s kxb)).getD 0))) rfl rfl) ⟨hpk219.bx.reads, hq220⟩ ?_
 refine dT (i := 9) rfl rfl (by kernel_rfl) (fun _ _ => xL (v := (.bool ((Go.GL.look q.fl (b2s kxb)).isSome))) rfl rfl) ⟨hpk219.bx.reads, hq220⟩ ?_
 refine dT (i := 10) rfl rfl (by kernel_rfl) (fun _ _ => zC (v := (.int .i64 ((Go.GL.look q.fl (b2s kxb)).getD 0))) rfl) ⟨hpk219.bx.reads, hq220⟩ ?_
 refine dT (i := 11) rfl rfl (by kernel_rfl) (fun _ _ => zC (v := (.bool ((Go.GL.look q.fl (b2s kxb)).isSome))) rfl) ⟨hpk219.bx.reads, hq220⟩ ?_
 refine yX (by kernel_rfl) ?_
 refine zA (zD (zH ?_))
 refine qD rfl (zB (v := (.bool ((Go.GL.look q.fl (b2s kxb)).isSome))) rfl) ?_
 refine qe (zA ?_)
 refine c_if rfl rfl (fun h221 => ?_) (fun h221 => ?_)
 ·skip
  refine zD (zH ?_)
  refine qD rfl (zB (v := (.int .i64 ((Go.GL.look q.fl (b2s kxb)).getD 0))) rfl) ?_
  refine qD rfl (zC (v := (.int .i64 ((Go.GL.look q.fl (b2s kxb)).getD 0))) rfl) ?_
  refine qe (zA ?_)
  refine wp_ret ?_
  refine zX ?_
  refine zT (v := (.int .i64 ((Go.GL.look q.fl (b2s kxb)).getD 0))) rfl rfl rfl ?_
  obtain ⟨z, hz⟩ := Option.isSome_iff_exists.1 h221
  have hlk := hz
  rw [hkey, hxs2, hys2] at hlk
  obtain ⟨f1, f2⟩ := lookF hok hk1 hk2 hlk
  rw [hz]
  exact ⟨z, L, R, B, q, GLb, rfl, hpk219, hok, (PX.refl _), PIn.lo hpin rfl, hX215, f1, f2, by omega, rfl, Or.inl rfl⟩
 refine wp_skip ?_
 refine zA (zD (zH ?_))
 refine qD rfl (zB (v := (.pointer (some ⟨p, 0, none⟩))) rfl) ?_
 refine qD rfl (xM rfl) ?_
 refine qD rfl (zR (k := 2) rfl Tryz.underlying72 rfl nz65 rfl) ?_
 refine qD rfl (zU (u := B) ag65 rfl (hpk219.bx.cell (o := 2) rfl)) ?_
 refine qD rfl (zQ Tryz.underlying65 (v := B) rfl hpk219.ob.read) ?_
 refine qD rfl (zC (v := (.int .i64 (q.bs.length : Int))) rfl) ?_
 refine qe (zA (zD ?_))
 have hnone : Go.GL.look q.fl (b2s kxb) = none := by simpa using h221
 rw [hkey, hxs2, hys2] at hnone
 have hadd := hok.add (b := bm) hlim hls hk1 hk2 hnone (by rw [hbbm, hbbn, hxs2, hys2])
 have hq222 := Gadd.pins hX215.pins kvb
 have hr223 := ho216.read
 refine xJ (S := fun wz => BxR wz p [L, R, B, (.map (some mm.f)), (.map (some mm.o)), (.map (some mm.c)), (.map (some mm.s)), (.map (some mm.n))] ∧ Pins (Gadd GLb w149.drew kvb) wz) (last := 7) (by kernel_rfl) rfl ?_
 have hl224 : Below w149.drew.heap.size w149.drew w149.drew.drew := (Below.refl _ _).drew
 have hp225 := hX215.pins.below hl224
 have hX226 := hX215.step hp225 hl224
 have ho227 := ho216.below hl224
 have ho228 := ho217.below hl224
 have ho229 := ho218.below hl224
 have ho230 := hpk219.ol.below hl224
 have ho231 := hpk219.rr.below hl224
 have ho232 := hpk219.ob.below hl224
 have hb233 := hpk219.bx.below hl224
 have hm234 := hpk219.ff.below hl224
 have hm235 := hpk219.fo.below hl224
 have hm236 := hpk219.fc.below hl224
 have hm237 := hpk219.fs.below hl224
 have hm238 := hpk219.fn.below hl224
 have hq239 := hq222.below hl224
 refine dT (i := 0) rfl rfl (by kernel_rfl) (fun _ _ => zB (v := (.pointer (some ⟨p, 0, none⟩))) rfl) ⟨hb233.reads, hq239⟩ ?_
 refine dT (i := 1) rfl rfl (by kernel_rfl) (fun _ _ => xM rfl) ⟨hb233.reads, hq239⟩ ?_
 refine dT (i := 2) rfl rfl (by kernel_rfl) (fun _ _ => zR (k := 3) rfl Tryz.underlying72 rfl nz67 rfl) ⟨hb233.reads, hq239⟩ ?_
 refine dT (i := 3) rfl rfl (by kernel_rfl) (fun _ hS => zU (u := (.map (some mm.f))) ag67 rfl (hS.1 3 _ rfl)) ⟨hb233.reads, hq239⟩ ?_
 refine dT (i := 4) rfl rfl (by kernel_rfl) (fun _ _ => zB (v := kvb) rfl) ⟨hb233.reads, hq239⟩ ?_
 refine dT (i := 6) rfl rfl (by kernel_rfl) (fun _ _ => zB (v := (.int .i64 (q.bs.length : Int))) rfl) ⟨hb233.reads, hq239⟩ ?_
 refine zW (i := 5) (by kernel_rfl) (zY (i := 5) rfl rfl rfl (zI rfl _) (EO.run (r_b2s Tryz.underlying132 Tryz.underlying5 Tryz.underlying9 rfl ho227.read (Gadd.pins hX226.pins kvb)) ?_))
 refine ⟨fun _ => ⟨hb233.reads, hq239⟩, ?_⟩
 refine zW (i := 7) (by kernel_rfl) (drOp0 (i := 7) rfl rfl rfl (zI rfl _) (o_mapUpdate (val := (fun v : Int => Value.int .i64 v)) (k := (b2s kxb)) (v := (q.bs.length : Int)) (key_str Tryz.underlying9) Tryz.underlying67 rfl rfl rfl hX226.pins hm234 (fun w240 hm241 hp242 hg243 hz244 => ?_)))
 have hX245 := hX226.write hp242 hg243 ((PIn.f hpin))
 have ho247 := ho228.keptA hg243 (yI hm234 ho228).symm
 have ho248 := ho229.keptA hg243 (yI hm234 ho229).symm
 have ho249 := ho230.keptA hg243 (yI hm234 ho230).symm
 have ho250 := ho231.keptA hg243 (yI hm234 ho231).symm
 have ho251 := ho232.keptA hg243 (yI hm234 ho232).symm
 have hb252 := hb233.keptA hg243 (xG hm234 hb233).symm
 have hm253 := hm235.kept hg243 (apart_maps hpk219.df.fo).symm
 have hm254 := hm236.kept hg243 (apart_maps hpk219.df.fc).symm
 have hm255 := hm237.kept hg243 (apart_maps hpk219.df.fs).symm
 have hm256 := hm238.kept hg243 (apart_maps hpk219.df.fn).symm
 refine ⟨fun h => absurd rfl h, ?_⟩
 refine yX (by kernel_rfl) ?_
 refine zA (zD (zH ?_))
 refine qD rfl (zB (v := (.pointer (some ⟨p, 0, none⟩))) rfl) ?_
 refine qD rfl (zB (v := (.pointer (some ⟨p, 0, none⟩))) rfl) ?_
 refine qD rfl (xM rfl) ?_
 refine qD rfl (zR (k := 0) rfl Tryz.underlying72 rfl nz66 rfl) ?_
 refine qD rfl (zU (u := L) ag66 rfl (hb252.cell (o := 0) rfl)) ?_
 refine qD rfl (zB (v := u3) rfl) ?_
 obtain ⟨G257, hle260, hX259, hr258, hf261⟩ := ho247.sealed hX245
 have ho263 := ho248.moreO hle260 hf261 ha20
 have ho264 := ho249.moreO hle260 hf261 (NP.hl hnp10).symm
 have ho265 := ho250.moreO hle260 hf261 (NP.hr hnp10).symm
 have ho266 := ho251.moreO hle260 hf261 (NP.hb hnp10).symm
 have hb267 := hb252.moreO hf261 (NP.hp hnp10).symm
 refine qI rfl (yY (E := (eSl eInt)) (e := 65) [u3] [xs2] Tryz.underlying66 sz65 zr65 (by exact xV (⟨_, rfl, hr258⟩)) (yZ hr258.one) rfl rfl rfl rfl (by decide) hX259.pins (fun u268 w269 ho270 hp271 hl272 hk273 => ?_))
 have hX274 := hX259.step hp271 hl272
 have ho276 := ho263.below hl272
 have ho277 := ho264.below hl272
 have ho278 := ho265.below hl272
 have ho279 := ho266.below hl272
 have hb280 := hb267.below hl272
 have hm281 := hm241.below hl272
 have hm282 := hm253.below hl272
 have hm283 := hm254.below hl272
 have hm284 := hm255.below hl272
 have hm285 := hm256.below hl272
 have ho292 : Own (eSl eInt) 65 G257 w269 w.heap.size u268 ([xs2]) := ho270.weaken hX259.size
 refine qI rfl (yC (E := (eSl eInt)) (v := L) (u := u268) 24 Tryz.underlying66 ap65 (by decide) rfl rfl hX274.pins ho277 ho292.src (by first | omega | (rw [List.nil_append]; omega) | (rw [List.length_nil]; omega) | (rw [List.length_append]; omega) | (simp; done) | (simp; omega) | (simp only [List.length_append, List.length_cons, List.length_nil]; omega)) (by first | omega | (rw [List.nil_append]; omega) | (rw [List.length_nil]; omega) | (rw [List.length_append]; omega) | (simp; done) | (simp; omega) | (simp only [List.length_append, List.length_cons, List.length_nil]; omega)) (Nat.zero_le _) (fun u293 w294 ho295 hp296 hg297 hw298 => ?_))
 have hX299 := hX274.write hp296 hg297 ((PIn.ll hpin))
 have ho301 := ho276.keptA hg297 (NP.hl hnp21)
 have ho302 := ho278.keptA hg297 hpk219.alr.symm
 have ho303 := ho279.keptA hg297 hpk219.alb.symm
 have hb305 := hb280.keptA hg297 hpk219.apl
 have hm306 := hm281.kept hg297 (yI hm281 ho277)
 have hm307 := hm282.kept hg297 (yI hm282 ho277)
 have hm308 := hm283.kept hg297 (yI hm283 ho277)
 have hm309 := hm284.kept hg297 (yI hm284 ho277)
 have hm310 := hm285.kept hg297 (yI hm285 ho277)
 have ha312 : Apart u12.ownBlock u293.ownBlock := zJ (NP.hl hnp21) hw298 ho276.lt
 have ha313 : Apart R.ownBlock u293.ownBlock := zJ hpk219.alr.symm hw298 ho278.lt
 have ha314 : Apart B.ownBlock u293.ownBlock := zJ hpk219.alb.symm hw298 ho279.lt
 have ha316 : Apart (some p) u293.ownBlock := zP hpk219.apl hw298 hb280.lt
 have hlo317 : Lo w (inP p L R B mm) u293.ownBlock := lo_app (PIn.ll hpin) hw298 hX274.size
 have hm318 : ((q.ns.map Nd.l) ++ ([xs2])).length = (q.ns.map Nd.l).length + 1 := List.length_append
 refine qD rfl (xM rfl) ?_
 refine qD rfl (zR (k := 0) rfl Tryz.underlying72 rfl nz66 rfl) ?_
 refine q0 rfl rfl rfl (xF (cs' := [u293, R, B, (.map (some mm.f)), (.map (some mm.o)), (.map (some mm.c)), (.map (some mm.s)), (.map (some mm.n))]) (us := [u293]) (v := u293) sz66 rfl rfl (cells1 ho295.one) (yZ ho295.one) hX299.pins hb305 (Nat.le_of_ble_eq_true rfl) rfl (fun w319 hb320 hp321 hg322 hz323 => ?_))
 have hX324 := hX299.write hp321 hg322 ((PIn.lp hpin))
 have ho326 := ho301.keptA hg322 (NP.hp hnp21)
 have ho327 := ho302.keptA hg322 hpk219.apr.symm
 have ho328 := ho303.keptA hg322 hpk219.apb.symm
 have ho329 := ho295.keptA hg322 ha316.symm
 have hm330 := hm306.kept hg322 (xG hm306 hb305)
 have hm331 := hm307.kept hg322 (xG hm307 hb305)
 have hm332 := hm308.kept hg322 (xG hm308 hb305)
 have hm333 := hm309.kept hg322 (xG hm309 hb305)
 have hm334 := hm310.kept hg322 (xG hm310 hb305)
 refine qe (zA (zD (zH ?_)))
 refine qD rfl (zB (v := (.pointer (some ⟨p, 0, none⟩))) rfl) ?_
 refine qD rfl (zB (v := (.pointer (some ⟨p, 0, none⟩))) rfl) ?_
 refine qD rfl (xM rfl) ?_
 refine qD rfl (zR (k := 1) rfl Tryz.underlying72 rfl nz66 rfl) ?_
 refine qD rfl (zU (u := R) ag66 rfl (hb320.cell (o := 1) rfl)) ?_
 refine qD rfl (zB (v := u12) rfl) ?_
 obtain ⟨G335, hle338, hX337, hr336, hf339⟩ := ho326.sealed hX324
 have ho341 := ho327.moreO hle338 hf339 (NP.hr hnp21).symm
 have ho342 := ho328.moreO hle338 hf339 (NP.hb hnp21).symm
 have ho343 := ho329.moreO hle338 hf339 ha312.symm
 have hb344 := hb320.moreO hf339 (NP.hp hnp21).symm
 refine qI rfl (yY (E := (eSl eInt)) (e := 65) [u12] [ys2] Tryz.underlying66 sz65 zr65 (by exact xV (⟨_, rfl, hr336⟩)) (yZ hr336.one) rfl rfl rfl rfl (by decide) hX337.pins (fun u345 w346 ho347 hp348 hl349 hk350 => ?_))
 have hX351 := hX337.step hp348 hl349
 have ho353 := ho341.below hl349
 have ho354 := ho342.below hl349
 have ho355 := ho343.below hl349
 have hb356 := hb344.below hl349
 have hm357 := hm330.below hl349
 have hm358 := hm331.below hl349
 have hm359 := hm332.below hl349
 have hm360 := hm333.below hl349
 have hm361 := hm334.below hl349
 have ho367 : Own (eSl eInt) 65 G335 w346 w.heap.size u345 ([ys2]) := ho347.weaken hX337.size
 refine qI rfl (yC (E := (eSl eInt)) (v := R) (u := u345) 24 Tryz.underlying66 ap65 (by decide) rfl rfl hX351.pins ho353 ho367.src (by first | omega | (rw [List.nil_append]; omega) | (rw [List.length_nil]; omega) | (rw [List.length_append]; omega) | (simp; done) | (simp; omega) | (simp only [List.length_append, List.length_cons, List.length_nil]; omega)) (by first | omega | (rw [List.nil_append]; omega) | (rw [List.length_nil]; omega) | (rw [List.length_append]; omega) | (simp; done) | (simp; omega) | (simp only [List.length_append, List.length_cons, List.length_nil]; omega)) (Nat.zero_le _) (fun u368 w369 ho370 hp371 hg372 hw373 => ?_))
 have hX374 := hX351.write hp371 hg372 ((PIn.lr hpin))
 have ho376 := ho354.keptA hg372 hpk219.arb.symm
 have ho377 := ho355.keptA hg372 ha313.symm
 have hb379 := hb356.keptA hg372 hpk219.apr
 have hm380 := hm357.kept hg372 (yI hm357 ho353)
 have hm381 := hm358.kept hg372 (yI hm358 ho353)
 have hm382 := hm359.kept hg372 (yI hm359 ho353)
 have hm383 := hm360.kept hg372 (yI hm360 ho353)
 have hm384 := hm361.kept hg372 (yI hm361 ho353)
 have ha386 : Apart B.ownBlock u368.ownBlock := zJ hpk219.arb.symm hw373 ho354.lt
 have ha387 : Apart u293.ownBlock u368.ownBlock := zJ ha313.symm hw373 ho355.lt
 have ha389 : Apart (some p) u368.ownBlock := zP hpk219.apr hw373 hb356.lt
 have hlo390 : Lo w (inP p L R B mm) u368.ownBlock := lo_app (PIn.lr hpin) hw373 hX351.size
 have hm391 : ((q.ns.map Nd.r) ++ ([ys2])).length = (q.ns.map Nd.r).length + 1 := List.length_append
 refine qD rfl (xM rfl) ?_
 refine qD rfl (zR (k := 1) rfl Tryz.underlying72 rfl nz66 rfl) ?_
 refine q0 rfl rfl rfl (xF (cs' := [u293, u368, B, (.map (some mm.f)), (.map (some mm.o)), (.map (some mm.c)), (.map (some mm.s)), (.map (some mm.n))]) (us := [u368]) (v := u368) sz66 rfl rfl (cells1 ho370.one) (yZ ho370.one) hX374.pins hb379 (Nat.le_of_ble_eq_true rfl) rfl (fun w392 hb393 hp394 hg395 hz396 => ?_))
 have hX397 := hX374.write hp394 hg395 ((PIn.lp hpin))
 have ho399 := ho376.keptA hg395 hpk219.apb.symm
 have ho400 := ho377.keptA hg395 ha316.symm
 have ho401 := ho370.keptA hg395 ha389.symm
 have hm402 := hm380.kept hg395 (xG hm380 hb379)
 have hm403 := hm381.kept hg395 (xG hm381 hb379)
 have hm404 := hm382.kept hg395 (xG hm382 hb379)
 have hm405 := hm383.kept hg395 (xG hm383 hb379)
 have hm406 := hm384.kept hg395 (xG hm384 hb379)
 refine qe (zA (zD (zH ?_)))
 refine qD rfl (zB (v := (.pointer (some ⟨p, 0, none⟩))) rfl) ?_
 refine qD rfl (zB (v := (.pointer (some ⟨p, 0, none⟩))) rfl) ?_
 refine qD rfl (xM rfl) ?_
 refine qD rfl (zR (k := 2) rfl Tryz.underlying72 rfl nz65 rfl) ?_
 refine qD rfl (zU (u := B) ag65 rfl (hb393.cell (o := 2) rfl)) ?_
 refine qD rfl (zB (v := (.int .i64 bm)) rfl) ?_
 refine qI rfl (yY (E := eInt) (e := 3) [(.int .i64 bm)] [bm] Tryz.underlying65 sz3 zr3 (by exact xV (by rfl)) (yZ (by rfl)) rfl rfl rfl rfl (by decide) hX397.pins (fun u407 w408 ho409 hp410 hl411 hk412 => ?_))
 have hX413 := hX397.step hp410 hl411
 have ho415 := ho399.below hl411
 have ho416 := ho400.below hl411
 have ho417 := ho401.below hl411
 have hb418 := hb393.below hl411
 have hm419 := hm402.below hl411
 have hm420 := hm403.below hl411
 have hm421 := hm404.below hl411
 have hm422 := hm405.below hl411
 have hm423 := hm406.below hl411
 have ho429 : Own eInt 3 G335 w408 w.heap.size u407 ([bm]) := ho409.weaken hX397.size
 refine qI rfl (yC (E := eInt) (v := B) (u := u407) 8 Tryz.underlying65 ap3 (by decide) rfl rfl hX413.pins ho415 ho429.src (by first | omega | (rw [List.nil_append]; omega) | (rw [List.length_nil]; omega) | (rw [List.length_append]; omega) | (simp; done) | (simp; omega) | (simp only [List.length_append, List.length_cons, List.length_nil]; omega)) (by first | omega | (rw [List.nil_append]; omega) | (rw [List.length_nil]; omega) | (rw [List.length_append]; omega) | (simp; done) | (simp; omega) | (simp only [List.length_append, List.length_cons, List.length_nil]; omega)) (Nat.zero_le _) (fun u430 w431 ho432 hp433 hg434 hw435 => ?_))
 have hX436 := hX413.write hp433 hg434 ((PIn.lb hpin))
 have ho438 := ho416.keptA hg434 ha314.symm
 have ho439 := ho417.keptA hg434 ha386.symm
 have hb441 := hb418.keptA hg434 hpk219.apb
 have hm442 := hm419.kept hg434 (yI hm419 ho415)
 have hm443 := hm420.kept hg434 (yI hm420 ho415)
 have hm444 := hm421.kept hg434 (yI hm421 ho415)
 have hm445 := hm422.kept hg434 (yI hm422 ho415)
 have hm446 := hm423.kept hg434 (yI hm423 ho415)
 have ha448 : Apart u293.ownBlock u430.ownBlock := zJ ha314.symm hw435 ho416.lt
 have ha449 : Apart u368.ownBlock u430.ownBlock := zJ ha386.symm hw435 ho417.lt
 have ha451 : Apart (some p) u430.ownBlock := zP hpk219.apb hw435 hb418.lt
 have hlo452 : Lo w (inP p L R B mm) u430.ownBlock := lo_app (PIn.lb hpin) hw435 hX413.size
 have hm453 : (q.bs ++ ([bm])).length = q.bs.length + 1 := List.length_append
 refine qD rfl (xM rfl) ?_
 refine qD rfl (zR (k := 2) rfl Tryz.underlying72 rfl nz65 rfl) ?_
 refine q0 rfl rfl rfl (xF (cs' := [u293, u368, u430, (.map (some mm.f)), (.map (some mm.o)), (.map (some mm.c)), (.map (some mm.s)), (.map (some mm.n))]) (us := [u430]) (v := u430) sz65 rfl rfl (cells1 ho432.one) (yZ ho432.one) hX436.pins hb441 (Nat.le_of_ble_eq_true rfl) rfl (fun w454 hb455 hp456 hg457 hz458 => ?_))
 have hX459 := hX436.write hp456 hg457 ((PIn.lp hpin))
 have ho461 := ho438.keptA hg457 ha316.symm
 have ho462 := ho439.keptA hg457 ha389.symm
 have ho463 := ho432.keptA hg457 ha451.symm
 have hm464 := hm442.kept hg457 (xG hm442 hb441)
 have hm465 := hm443.kept hg457 (xG hm443 hb441)
 have hm466 := hm444.kept hg457 (xG hm444 hb441)
 have hm467 := hm445.kept hg457 (xG hm445 hb441)
 have hm468 := hm446.kept hg457 (xG hm446 hb441)
 refine qe (zA (zD (zH ?_)))
 refine qD rfl (zB (v := (.int .i64 (q.bs.length : Int))) rfl) ?_
 refine qD rfl (zC (v := (.int .i64 (q.bs.length : Int))) rfl) ?_
 refine qe (zA ?_)
 refine wp_ret ?_
 refine zX ?_
 refine zT (v := (.int .i64 (q.bs.length : Int))) rfl rfl rfl ?_
 have el : (q.ns.map Nd.l) ++ [xs2] = (addQ q xs ys bm).ns.map Nd.l := by rw [hxs2]; simp [addQ]
 have er : (q.ns.map Nd.r) ++ [ys2] = (addQ q xs ys bm).ns.map Nd.r := by rw [hys2]; simp [addQ]
 have ef : putE q.fl (b2s kxb) (q.bs.length : Int) = (addQ q xs ys bm).fl := by rw [hkey, hxs2, hys2, hok.ar.ok.len]; rfl
 have hol := ho461
 have hor := ho462
 have hff := hm464
 rw [el] at hol
 rw [er] at hor
 rw [ef] at hff
 exact ⟨(q.bs.length : Int), u293, u368, u430, addQ q xs ys bm, G335, rfl, ⟨hb455, hol, hor, ho463, hff, hm465, hm466, hm467, hm468, ha316, ha389, ha451, ha387, ha448, ha449, hpk219.df⟩, hadd.1, hadd.2.1, ⟨hlo317, hlo390, hlo452⟩, hX459, by rw [hok.ar.ok.len]; exact hadd.2.2.1, by rw [hok.ar.ok.len]; exact hadd.2.2.2.1, hadd.2.2.2.2, rfl, Or.inr (by omega)⟩

end PO1
end Go.Proofs.YtfnginkcmcfdfaaGreatDoor

set_option maxRecDepth 20000
set_option maxHeartbeats 2000000
namespace Go.Proofs.YtfnginkcmcfdfaaGreatDoor
namespace PL1
open Go.RowKit Go.GL Go.Proofs
open Go.Proofs.YtfnginkcmcfdfaaGreatDoor.B1
open Go.Proofs.YtfnginkcmcfdfaaGreatDoor.K1
open Go.Proofs.YtfnginkcmcfdfaaGreatDoor.PO1






theorem mk3 : (Tryz.prog.info? 3).map (fun i => (i.size, i.bytes, i.zero)) = some (1, 8, some (.int .i64 0)) := by kernel_rfl





theorem pl72 : (Tryz.prog.underlying 72).bind (placesD Tryz.prog) = some [(0, 1), (1, 1), (2, 1), (3, 1), (4, 1), (5, 1), (6, 1), (7, 1)] := by kernel_rfl






theorem newPool_spec {w : World} {G : Pin} (hP : Pins G w) :
  Calls Tryz.prog 51 [].toArray w fun e w' => ∃ (p : Nat) (mm : PM) (G' : Pin), e = .returned (.pointer (some ⟨p, 0, none⟩)) ∧ Pk 65 3 G' w' p (.slice none 0 0) (.slice none 0 0) (.slice none 0 0) mm ⟨[], [], [], [], [], [], []⟩ ∧ (∀ k, inP p (.slice none 0 0) (.slice none 0 0) (.slice none 0 0) mm k → w.heap.size ≤ k) ∧ Ext noS G w G' w' := by
 refine zZ (n := 8) Tryz.func51 Tryz.ntmps51 rfl rfl ?_
 have hX0 : Ext noS G w G w := Ext.refl hP
 refine zD (zH ?_)
 refine qD rfl (zC (v := (.pointer none)) rfl) ?_
 refine qe (zA (zD (zH ?_)))
 refine qI rfl (o_makeMap (fun k : ByteArray => Value.string k) (fun v : Int => Value.int .i64 v) hX0.pins (fun m1 w2 hk3 hm4 hp5 hl6 => ?_))
 have hX7 := hX0.step hp5 hl6
 have hlo8 : w.heap.size ≤ m1 := by have := hX0.size; omega
 refine qI rfl (o_makeMap encP2 (fun v : Bool => Value.bool v) hX7.pins (fun m9 w10 hk11 hm12 hp13 hl14 => ?_))
 have hX15 := hX7.step hp13 hl14
 have hm16 := hm4.below hl14
 have ha17 : Apart (some m9) (some m1) := zN (congrArg some hk11) hm4.lt
 have hlo18 : w.heap.size ≤ m9 := by have := hX7.size; omega
 refine qI rfl (o_makeMap (fun k : Int => Value.int .i64 k) (fun v : Int => Value.int .i64 v) hX15.pins (fun m19 w20 hk21 hm22 hp23 hl24 => ?_))
 have hX25 := hX15.step hp23 hl24
 have hm26 := hm16.below hl24
 have hm27 := hm12.below hl24
 have ha28 : Apart (some m19) (some m1) := zN (congrArg some hk21) hm16.lt
 have ha29 : Apart (some m19) (some m9) := zN (congrArg some hk21) hm12.lt
 have hlo30 : w.heap.size ≤ m19 := by have := hX15.size; omega
 refine qI rfl (o_makeMap encP2 (fun v : Int => Value.int .i64 v) hX25.pins (fun m31 w32 hk33 hm34 hp35 hl36 => ?_))
 have hX37 := hX25.step hp35 hl36
 have hm38 := hm26.below hl36
 have hm39 := hm27.below hl36
 have hm40 := hm22.below hl36
 have ha41 : Apart (some m31) (some m1) := zN (congrArg some hk33) hm26.lt
 have ha42 : Apart (some m31) (some m9) := zN (congrArg some hk33) hm27.lt
 have ha43 : Apart (some m31) (some m19) := zN (congrArg some hk33) hm22.lt
 have hlo44 : w.heap.size ≤ m31 := by have := hX25.size; omega
 refine qI rfl (o_makeMap (fun k : Int => Value.int .i64 k) (fun v : Int => Value.int .i64 v) hX37.pins (fun m45 w46 hk47 hm48 hp49 hl50 => ?_))
 have hX51 := hX37.step hp49 hl50
 have hm52 := hm38.below hl50
 have hm53 := hm39.below hl50
 have hm54 := hm40.below hl50
 have hm55 := hm34.below hl50
 have ha56 : Apart (some m45) (some m1) := zN (congrArg some hk47) hm38.lt
 have ha57 : Apart (some m45) (some m9) := zN (congrArg some hk47) hm39.lt
 have ha58 : Apart (some m45) (some m19) := zN (congrArg some hk47) hm40.lt
 have ha59 : Apart (some m45) (some m31) := zN (congrArg some hk47) hm34.lt
 have hlo60 : w.heap.size ≤ m45 := by have := hX37.size; omega
 refine qD rfl (xP [(.slice none 0 0), (.slice none 0 0), (.slice none 0 0), (.map none), (.map none), (.map none), (.map none), (.map none)] [(.slice none 0 0), (.slice none 0 0), (.slice none 0 0), (.map (some m1)), (.map (some m9)), (.map (some m19)), (.map (some m31)), (.map (some m45))] [(3, (.map (some m1)), [(.map (some m1))]), (4, (.map (some m9)), [(.map (some m9))]), (5, (.map (some m19)), [(.map (some m19))]), (6, (.map (some m31)), [(.map (some m31))]), (7, (.map (some m45)), [(.map (some m45))])] Tryz.underlying72 zr72 rfl pl72 rfl (List.forall_mem_cons.2 ⟨rfl, (List.forall_mem_cons.2 ⟨rfl, (List.forall_mem_cons.2 ⟨rfl, (List.forall_mem_cons.2 ⟨rfl, (List.forall_mem_cons.2 ⟨rfl, (fun _ h => by cases h)⟩)⟩)⟩)⟩)⟩) rfl) ?_
 refine qI rfl (xT [(.slice none 0 0), (.slice none 0 0), (.slice none 0 0), (.map (some m1)), (.map (some m9)), (.map (some m19)), (.map (some m31)), (.map (some m45))] (v := (.agg [(.slice none 0 0), (.slice none 0 0), (.slice none 0 0), (.map (some m1)), (.map (some m9)), (.map (some m19)), (.map (some m31)), (.map (some m45))].toArray)) rfl rfl hX51.pins (fun b61 w62 hk63 hb64 hp65 hl66 => ?_))
 have hX67 := hX51.step hp65 hl66
 have hm68 := hm52.below hl66
 have hm69 := hm53.below hl66
 have hm70 := hm54.below hl66
 have hm71 := hm55.below hl66
 have hm72 := hm48.below hl66
 have hlo73 : w.heap.size ≤ b61 := by have := hX51.size; omega
 refine qD rfl (zC (v := (.pointer (some ⟨b61, 0, none⟩))) rfl) ?_
 refine qe (zA ?_)
 refine wp_ret ?_
 refine zX ?_
 refine zT (v := (.pointer (some ⟨b61, 0, none⟩))) rfl rfl rfl ?_
 have hdf : PDiff ⟨m1, m9, m19, m31, m45⟩ := ⟨fun e => ha17.symm _ rfl (congrArg some e.symm), fun e => ha28.symm _ rfl (congrArg some e.symm), fun e => ha41.symm _ rfl (congrArg some e.symm), fun e => ha56.symm _ rfl (congrArg some e.symm), fun e => ha29.symm _ rfl (congrArg some e.symm), fun e => ha42.symm _ rfl (congrArg some e.symm), fun e => ha57.symm _ rfl (congrArg some e.symm), fun e => ha43.symm _ rfl (congrArg some e.symm), fun e => ha58.symm _ rfl (congrArg some e.symm), fun e => ha59.symm _ rfl (congrArg some e.symm)⟩
 have hfr : ∀ k, inP b61 (.slice none 0 0) (.slice none 0 0) (.slice none 0 0) ⟨m1, m9, m19, m31, m45⟩ k → w.heap.size ≤ k := by rintro k (rfl | hk | hk | hk | rfl | rfl | rfl | rfl | rfl) <;> first | (cases hk; done) | exact hlo73 | exact hlo8 | exact hlo18 | exact hlo30 | exact hlo44 | exact hlo60
 exact ⟨b61, ⟨m1, m9, m19, m31, m45⟩, _, rfl, ⟨hb64, (Own.nil _ _ _ _ _), (Own.nil _ _ _ _ _), (Own.nil _ _ _ _ _), hm68, hm69, hm70, hm71, hm72, apart_none.symm, apart_none.symm, apart_none.symm, apart_none, apart_none, apart_none, hdf⟩, hfr, hX67⟩

theorem renamed_spec {w : World} {G : Pin} {u v : Value} {xs ys : List Int} (hP : Pins G w) (hu : RSl eInt G u xs) (hv : RSl eInt G v ys) (hs : xs.length ≤ 1048576) (hb : ∀ i, i < xs.length → 0 ≤ xs.getD i 0 ∧ xs.getD i 0 < ys.length) :
  Calls Tryz.prog 143 [u, v].toArray w fun e w' => ∃ (u : Value) (G' : Pin), e = .returned u ∧ Own eInt 3 G' w' w.heap.size u (atL ys xs) ∧ Ext noS G w G' w' := by
 refine zZ (n := 27) Tryz.func143 Tryz.ntmps143 rfl rfl ?_
 have hX0 : Ext noS G w G w := Ext.refl hP
 have hm := hu.max
 have hal : (atL ys xs).length = xs.length := yW
 have hrl : (List.replicate xs.length (0 : Int)).length = xs.length := List.length_replicate
 refine zD (zH ?_)
 refine qD rfl (zC (v := (.slice none 0 0)) rfl) ?_
 refine qe (zA (zD (zH ?_)))
 refine qD rfl (zB (v := u) rfl) ?_
 refine qD rfl (zQ Tryz.underlying65 (v := u) rfl hu) ?_
 refine qI rfl (o_make (E := eInt) 0 8 (.int .i64 0) Tryz.underlying65 mk3 (fun _ => rfl) rfl rfl hX0.pins (by omega) (by omega) (by omega) (fun u1 w2 ho3 hp4 hl5 hk6 => ?_))
 have hX7 := hX0.step hp4 hl5
 have ho8 : Own eInt 3 G w2 w.heap.size u1 (List.replicate xs.length 0) := ho3.weaken hX0.size
 have hm9 : (List.replicate xs.length 0).length = xs.length := List.length_replicate ..
 refine qD rfl (zC (v := u1) rfl) ?_
 refine qe (zA (zD (zD (zH ?_))))
 refine qD rfl (zB (v := u) rfl) ?_
 refine qD rfl (zQ Tryz.underlying65 (v := u) rfl hu) ?_
 refine qD rfl (zB (v := (.int .i64 0)) rfl) ?_
 refine qe (zA ?_)
 refine yA ?_
 refine yS (fun (k : Nat) (en : Nat → Value) (W : World) => ∃ (env1 : Nat → Value) (j : Nat) (os : List Int), en = (upd (upd (upd (upd (upd (upd env1 1 v) 4 (.slice none 0 0)) 5 u1) 11 u) 12 (.int .i64 (xs.length : Int))) 13 (.int .i64 (j : Int))) ∧ k = xs.length - j ∧ Ext noS G w G W ∧ (j ≤ xs.length) ∧ (os = (atL ys xs).take j ++ (List.replicate xs.length 0).drop j) ∧ (os.length = xs.length) ∧ (Own eInt 3 G W w.heap.size u1 (os))) _ ⟨_, 0, List.replicate xs.length 0, (zG (x := 13) (zG (x := 12) (zG (x := 11) (zG (x := 5) (zG (x := 4) (zV (x := 1) rfl) rfl) rfl) rfl) rfl) rfl), rfl, hX7, Nat.zero_le _, rfl, hrl, ho8⟩ ?_
 rintro k10 _ w11 ⟨env1, j, os, rfl, hk12, hX13, hj, hr, hol, hw14⟩
 refine zD (zH ?_)
 refine qD rfl (yR rfl rfl) ?_
 refine qe (zA (zD ?_))
 refine yG (p := ((j : Int) : Int) < (xs.length : Int)) rfl rfl (fun h15 => ?_) (fun h15 => ?_)
 ·skip
  have hbj := hb j (by omega)
  refine wp_skip ?_
  refine zA (zD ?_)
  refine yA ?_
  refine zD (zH ?_)
  refine qD rfl (zB (v := (.int .i64 (j : Int))) rfl) ?_
  refine qD rfl (zM Tryz.underlying65 sz3 (v := u) rfl rfl hu (by omega) (by omega)) ?_
  refine qD rfl (zL (r := xs.getD j 0) rfl ag3 (z := (j : Int)) rfl hu hX13.pins (by omega) (by omega)) ?_
  refine qD rfl (zC (v := (.int .i64 (j : Int))) rfl) ?_
  refine qD rfl (zC (v := (.int .i64 (xs.getD j 0))) rfl) ?_
  refine qe (zA (zH ?_))
  refine qD rfl (zB (v := u1) rfl) ?_
  refine qD rfl (zB (v := (.int .i64 (j : Int))) rfl) ?_
  refine qD rfl (zB (v := v) rfl) ?_
  refine qD rfl (zB (v := (.int .i64 (xs.getD j 0))) rfl) ?_
  refine qD rfl (zM Tryz.underlying65 sz3 (v := v) rfl rfl hv (by omega) (by omega)) ?_
  refine qD rfl (zL (r := ys.getD (xs.getD j 0).toNat 0) rfl ag3 (z := (xs.getD j 0)) rfl hv hX13.pins (by omega) (by omega)) ?_
  refine qD rfl (zM Tryz.underlying65 sz3 (v := u1) rfl rfl hw14.read (by omega) (by omega)) ?_
  refine q0 rfl rfl rfl (o_set (E := eInt) (v := u1) (u := (.int .i64 (ys.getD (xs.getD j 0).toNat 0))) (z := (j : Int)) (ys.getD (xs.getD j 0).toNat 0) sz3 rfl rfl rfl rfl hX13.pins hw14 (by omega) (by omega) (fun w16 ho17 hp18 hg19 hz20 => ?_))
  have hX21 := hX13.write hp18 hg19 ((yH hw14))
  refine qe ?_
  refine yN ?_
  refine zA (zH ?_)
  refine qD rfl (yT rfl rfl (by omega)) ?_
  refine qD rfl (zB (v := (.int .i64 ((j : Int) + 1))) rfl) ?_
  refine qe ?_
  refine yL ?_
  refine ⟨_, ?_, _, rfl, _, j + 1, os.set j (ys.getD (xs.getD j 0).toNat 0), (zG (x := 13) (zG (x := 12) (zG (x := 11) (zG (x := 5) (zG (x := 4) (zV (x := 1) rfl) rfl) rfl) rfl) rfl) rfl), rfl, hX21, (by omega), (by rw [hr]; exact cur_set 0 (by omega) (by omega) (at_getD (by omega))), ((List.length_set ..).trans hol), ho17⟩
  omega
 refine wp_exit ?_
 refine yD ?_
 refine yP ?_
 refine yO ?_
 refine zA (zD (zH ?_))
 refine qD rfl (zB (v := u1) rfl) ?_
 refine qD rfl (zC (v := u1) rfl) ?_
 refine qe (zA ?_)
 refine wp_ret ?_
 refine zX ?_
 refine zT (v := u1) rfl rfl rfl ?_
 rw [cur_end (by omega) (by omega)] at hr
 exact ⟨_, _, rfl, (by rw [← hr]; exact hw14), hX13⟩

theorem load_spec {w : World} {G : Pin} {p : Nat} {L R B : Value} {mm : PM} {q : PSt} (hP : Pins G w) (hpk : Pk 65 3 G w p L R B mm q) (hok : PoolOk q) {x : Value} {fs : List Nd} (hx : RSl eNode G x fs) (hf : FormOk fs) (hl : q.ns.length + fs.length ≤ 1048576) :
  Calls Tryz.prog 104 [(.pointer (some ⟨p, 0, none⟩)), (.agg [x].toArray)].toArray w fun e w' => ∃ (u : Value) (ats : List Int) (L' R' B' : Value) (q' : PSt) (G' : Pin), e = .returned u ∧ Pk 65 3 G' w' p L' R' B' mm q' ∧ PoolOk q' ∧ PX q q' ∧ PLo w p L R B mm L' R' B' ∧ Ext (inP p L R B mm) G w G' w' ∧ Own eInt 3 G' w' w.heap.size u ats ∧ NP p L' R' B' mm u.ownBlock ∧ LdOk fs q q' fs.length ats := by
 refine zZ (n := 34) Tryz.func104 Tryz.ntmps104 rfl rfl ?_
 have hX0 : Ext (inP p L R B mm) G w G w := Ext.refl hP
 have hpin : PIn w (inP p L R B mm) p L R B mm := PIn.self
 have hml1 : (q.ns.map Nd.l).length = q.ns.length ∧ (q.ns.map Nd.r).length = q.ns.length := ⟨List.length_map .., List.length_map ..⟩
 have hml2 : q.bs.length = q.ns.length ∧ q.ns.length ≤ 1048576 := ⟨hok.ar.ok.len, hok.ar.ok.lim⟩
 refine zD (zH ?_)
 refine qI rfl (xT [x] (v := (.agg [x].toArray)) rfl rfl hX0.pins (fun b3 w4 hk5 hb6 hp7 hl8 => ?_))
 have hX9 := hX0.step hp7 hl8
 have hpk10 := hpk.below hl8 hp7
 have ha15 := hpk.new (x := (some b3)) (fun k hk => by rw [(congrArg some hk5)] at hk; cases hk; exact Nat.le_refl _)
 have hlo16 : w.heap.size ≤ b3 := by have := hX0.size; omega
 obtain ⟨G17, hle18, hX19, hbp20, hf21⟩ := hb6.shut hX9 hlo16
 have hpk22 := hpk10.more hle18 hf21 ha15
 refine qD rfl (zC (v := (.slice none 0 0)) rfl) ?_
 refine qe (zA (zD (zH ?_)))
 refine qD rfl (zR (k := 0) rfl Tryz.underlying32 rfl nz30 rfl) ?_
 refine qD rfl (zU (u := x) ag30 rfl (hX19.pins _ _ _ (hbp20 0 _ rfl))) ?_
 refine qD rfl (zQ Tryz.underlying30 (v := x) rfl hx) ?_
 refine qI rfl (o_make0 (E := eInt) Tryz.underlying65 mk3 rfl rfl hX19.pins (by omega) (by omega) (by omega) (fun u23 w24 ho25 hp26 hl27 hk28 => ?_))
 have hX29 := hX19.step hp26 hl27
 have hpk30 := hpk22.below hl27 hp26
 have ha35 := hpk22.new (x := u23.ownBlock) (fun k hk => by rw [hk28] at hk; cases hk; exact Nat.le_refl _)
 have ho36 : Own eInt 3 G17 w24 w.heap.size u23 ([]) := ho25.weaken hX19.size
 refine qD rfl (zC (v := u23) rfl) ?_
 refine qe (zA (zD (zD (zH ?_))))
 refine qD rfl (zR (k := 0) rfl Tryz.underlying32 rfl nz30 rfl) ?_
 refine qD rfl (zU (u := x) ag30 rfl (hX29.pins _ _ _ (hbp20 0 _ rfl))) ?_
 refine qD rfl (zQ Tryz.underlying30 (v := x) rfl hx) ?_
 refine qD rfl (zB (v := (.int .i64 0)) rfl) ?_
 refine qe (zA ?_)
 refine yA ?_
 refine yS (fun (k : Nat) (en : Nat → Value) (W : World) => ∃ (env1 : Nat → Value) (k4 : Nat) (at_ : Value) (ats : List Int) (L37 : Value) (R38 : Value) (B39 : Value) (q40 : PSt) (GL1 : Pin), en = (upd (upd (upd (upd (upd (upd env1 0 (.pointer (some ⟨p, 0, none⟩))) 4 (.slice none 0 0)) 5 at_) 13 x) 14 (.int .i64 (fs.length : Int))) 15 (.int .i64 (k4 : Int))) ∧ k = fs.length - k4 ∧ Ext (inP p L R B mm) G w GL1 W ∧ Pin.le G17 GL1 ∧ (k4 ≤ fs.length) ∧ (LdOk fs q q40 k4 ats) ∧ (Own eInt 3 GL1 W w.heap.size at_ (ats)) ∧ (Pk 65 3 GL1 W p L37 R38 B39 mm q40) ∧ (PIn w ((inP p L R B mm)) p L37 R38 B39 mm) ∧ (PoolOk q40) ∧ (PX q q40) ∧ (NP p L37 R38 B39 mm at_.ownBlock)) _ ⟨_, 0, u23, [], L, R, B, q, G17, (zG (x := 15) (zG (x := 14) (zG (x := 13) (zG (x := 5) (zG (x := 4) (zV (x := 0) rfl) rfl) rfl) rfl) rfl) rfl), rfl, hX29, Pin.le_refl _, Nat.zero_le _, LdOk.start, ho36, hpk30, hpin, hok, (PX.refl _), ha35⟩ ?_
 rintro k41 _ w42 ⟨env1, k4, at_, ats, L37, R38, B39, q40, GL1, rfl, hk43, hX44, hlek41, hk, hld, hw45, hpk46, hpin47, hok48, hpx49, hnp50⟩
 have hql51 := hpx49.len
 have hml52 : (q40.ns.map Nd.l).length = q40.ns.length ∧ (q40.ns.map Nd.r).length = q40.ns.length := ⟨List.length_map .., List.length_map ..⟩
 have hml53 : q40.bs.length = q40.ns.length ∧ q40.ns.length ≤ 1048576 := ⟨hok48.ar.ok.len, hok48.ar.ok.lim⟩
 have hal := hld.len
 have hah := hld.hi
 have hfl := hf.len
 refine zD (zH ?_)
 refine qD rfl (yR rfl rfl) ?_
 refine qe (zA (zD ?_))
 refine yG (p := ((k4 : Int) : Int) < (fs.length : Int)) rfl rfl (fun h54 => ?_) (fun h54 => ?_)
 ·skip
  have oo := xB hf.opts (show k4 < fs.length by omega)
  have hfe := hf.lens k4 (by omega)
  refine wp_skip ?_
  refine zA (zD ?_)
  refine yA ?_
  refine zD (zH ?_)
  refine qD rfl (zM Tryz.underlying30 sz99 (v := x) rfl rfl hx (by omega) (by omega)) ?_
  obtain ⟨u55, u56, hr57, hr58, hl59⟩ := qN (hx.at (z := (k4 : Int)) (by omega) (by omega)) (j := k4) rfl
  have hm60 := hr57.max
  have hm61 := hr58.max
  refine qD rfl (hl59 ag99 sz99 rfl (Pins.of_le hX44.pins (Pin.le_trans hle18 hlek41))) ?_
  refine qI rfl (xA [(.slice none 0 0), (.slice none 0 0)] zr99 rfl hX44.pins (fun b62 w63 hk64 hb65 hp66 hl67 => ?_))
  have hX68 := hX44.step hp66 hl67
  have ho69 := hw45.below hl67
  have hpk70 := hpk46.below hl67 hp66
  have ha71 : Apart (some b62) at_.ownBlock := zK (congrArg some hk64) hw45.lt
  have ha76 := hpk46.new (x := (some b62)) (fun k hk => by rw [(congrArg some hk64)] at hk; cases hk; exact Nat.le_refl _)
  have hlo77 : w.heap.size ≤ b62 := by have := hX44.size; omega
  refine q0 rfl rfl rfl (xF (cs' := [u55, u56]) (us := [u55, u56]) (v := (.agg [u55, u56].toArray)) sz99 rfl rfl rfl (ones2 hr57.one hr58.one) hX68.pins hb65 (Nat.le_of_ble_eq_true rfl) rfl (fun w78 hb79 hp80 hg81 hz82 => ?_))
  have hX83 := hX68.write hp80 hg81 ((yV hlo77))
  have ho84 := ho69.keptA hg81 ha71.symm
  have hpk85 := hpk70.kept hg81 hp80 ha76
  obtain ⟨G86, hle87, hX88, hbp89, hf90⟩ := hb79.shut hX83 hlo77
  have ho91 := ho84.moreA hle87 hf90 ha71.symm
  have hpk92 := hpk85.more hle87 hf90 ha76
  refine qe (zA ?_)
  refine xJ (S := fun wz => Pins G86 wz) (last := 14) (by kernel_rfl) rfl ?_
  have hl93 : Below w78.heap.size w78 w78.drew := (Below.refl _ _).drew
  have hp94 := hX88.pins.below hl93
  have hX95 := hX88.step hp94 hl93
  have ho96 := ho91.below hl93
  have hpk97 := hpk92.below hl93 hp94
  refine dT (i := 0) rfl rfl (by kernel_rfl) (fun _ _ => zB (v := at_) rfl) hX95.pins ?_
  refine dT (i := 1) rfl rfl (by kernel_rfl) (fun _ _ => zB (v := (.pointer (some ⟨p, 0, none⟩))) rfl) hX95.pins ?_
  refine dT (i := 2) rfl rfl (by kernel_rfl) (fun _ _ => zR (k := 0) rfl Tryz.underlying99 rfl nz65 rfl) hX95.pins ?_
  refine dT (i := 3) rfl rfl (by kernel_rfl) (fun _ hS => zU (u := u55) ag65 rfl (hS _ _ _ (hbp89 0 _ rfl))) hX95.pins ?_
  refine dT (i := 4) rfl rfl (by kernel_rfl) (fun _ _ => zB (v := at_) rfl) hX95.pins ?_
  refine dT (i := 6) rfl rfl (by kernel_rfl) (fun _ _ => zR (k := 1) rfl Tryz.underlying99 rfl nz65 rfl) hX95.pins ?_
  refine dT (i := 7) rfl rfl (by kernel_rfl) (fun _ hS => zU (u := u56) ag65 rfl (hS _ _ _ (hbp89 1 _ rfl))) hX95.pins ?_
  refine dT (i := 8) rfl rfl (by kernel_rfl) (fun _ _ => zB (v := at_) rfl) hX95.pins ?_
  refine zW (i := 5) (by kernel_rfl) (zY (i := 5) rfl rfl rfl (zI rfl _) (zO (vs := [u55, at_]) Tryz.func143 nm143 rfl rfl rfl ?_))
  refine Calls.mono (renamed_spec (Gadd.pins hX95.pins at_) ((hr57.mono (Pin.le_trans (Pin.le_trans hle18 hlek41) hle87)).mono (Gadd.le _ _ _)) ho96.read (by omega) (fun i hi => by have h7 := oo.1 _ (yU (d := (0 : Int)) hi); omega)) ?_
  rintro _ w100 ⟨u98, G99, rfl, ho101, hx102⟩
  refine ⟨_, rfl, ?_⟩
  have hx103 := deep_back hX95.pins hx102
  have ho104 := ho101.anti flat_int (Pin.le_trans (Gadd.le G86 w78.drew at_) hx102.le)
  have hX105 := hX95.step hx103.pins hx103.below
  have ho106 := ho96.below hx103.below
  have hpk107 := hpk97.below hx103.below hx103.pins
  have ha108 : Apart u98.ownBlock at_.ownBlock := zS ho104.lt ho96.lt
  have ha109 := hpk97.new (x := u98.ownBlock) (fun k hk => (ho104.lt k hk).1)
  have ho110 : Own eInt 3 G86 w100 w.heap.size u98 (atL ats ((fs.getD k4 default).l)) := ho104.weaken hX95.size
  have hm111 : (atL ats ((fs.getD k4 default).l)).length = ((fs.getD k4 default).l).length := yW
  refine ⟨fun _ => hX105.pins, ?_⟩
  refine zW (i := 9) (by kernel_rfl) (zY (i := 9) rfl rfl rfl (zI rfl _) (zO (vs := [u56, at_]) Tryz.func143 nm143 rfl rfl rfl ?_))
  refine Calls.mono (renamed_spec (Gadd.pins hX105.pins at_) ((hr58.mono (Pin.le_trans (Pin.le_trans hle18 hlek41) hle87)).mono (Gadd.le _ _ _)) ho106.read (by omega) (fun i hi => by have h7 := oo.2 _ (yU (d := (0 : Int)) hi); omega)) ?_
  rintro _ w114 ⟨u112, G113, rfl, ho115, hx116⟩
  refine ⟨_, rfl, ?_⟩
  have hx117 := deep_back hX105.pins hx116
  have ho118 := ho115.anti flat_int (Pin.le_trans (Gadd.le G86 w100 at_) hx116.le)
  have hX119 := hX105.step hx117.pins hx117.below
  have ho120 := ho106.below hx117.below
  have ho121 := ho110.below hx117.below
  have hpk122 := hpk107.below hx117.below hx117.pins
  have ha123 : Apart u112.ownBlock at_.ownBlock := zS ho118.lt ho106.lt
  have ha124 : Apart u112.ownBlock u98.ownBlock := zS ho118.lt ho110.lt
  have ha125 := hpk107.new (x := u112.ownBlock) (fun k hk => (ho118.lt k hk).1)
  have ho126 : Own eInt 3 G86 w114 w.heap.size u112 (atL ats ((fs.getD k4 default).r)) := ho118.weaken hX105.size
  have hm127 : (atL ats ((fs.getD k4 default).r)).length = ((fs.getD k4 default).r).length := yW
  refine ⟨fun _ => hX119.pins, ?_⟩
  obtain ⟨G128, hle131, hX130, hr129, hf132⟩ := ho121.sealed hX119
  have ho133 := ho120.moreO hle131 hf132 ha108.symm
  have ho134 := ho126.moreO hle131 hf132 ha124
  have hpk135 := hpk122.moreO hle131 hf132 ha109
  obtain ⟨G136, hle139, hX138, hr137, hf140⟩ := ho134.sealed hX130
  have ho141 := ho133.moreO hle139 hf140 ha123.symm
  have hpk142 := hpk135.moreO hle139 hf140 ha125
  refine zW (i := 10) (by kernel_rfl) (zY (i := 10) rfl rfl rfl (zI rfl _) (zO (vs := [(.pointer (some ⟨p, 0, none⟩)), u98, u112]) Tryz.func79 nm79 rfl rfl rfl ?_))
  refine Calls.mono (node_spec hX138.pins hpk142 hok48 (hr129.mono hle139) hr137 (by omega) ⟨by rw [yW]; omega, by rw [yW]; omega⟩ (hld.opt oo.1) (hld.opt oo.2)) ?_
  rintro _ w153 ⟨z143, L148, R149, B150, q151, G152, rfl, hpk154, hok155, hpx156, hlo157, hx158, hpl144, hpd145, hqn146, hcm147⟩
  refine ⟨_, rfl, ?_⟩
  have hX159 := hX138.trans hx158 hpin47
  have ho160 := ho141.extS hx158 hnp50
  have hnp161 := NP.call hnp50 hlo157 (xW ho141)
  have hpin162 := PIn.call hpin47 hlo157 hX138.size
  have hql163 := hpx156.len
  have hml164 : (q151.ns.map Nd.l).length = q151.ns.length ∧ (q151.ns.map Nd.r).length = q151.ns.length := ⟨List.length_map .., List.length_map ..⟩
  have hml165 : q151.bs.length = q151.ns.length ∧ q151.ns.length ≤ 1048576 := ⟨hok155.ar.ok.len, hok155.ar.ok.lim⟩
  refine ⟨fun _ => (Pins.of_le hX159.pins (Pin.le_trans (Pin.le_trans hle131 hle139) hx158.le)), ?_⟩
  refine zW (i := 11) (by kernel_rfl) (zY (i := 11) rfl rfl rfl (zI rfl _) (yY (E := eInt) (e := 3) [(.int .i64 z143)] [z143] Tryz.underlying65 sz3 zr3 (by exact xV (by rfl)) (yZ (by rfl)) rfl rfl rfl rfl (by decide) hX159.pins (fun u166 w167 ho168 hp169 hl170 hk171 => ?_)))
  have hX172 := hX159.step hp169 hl170
  have ho173 := ho160.below hl170
  have hpk174 := hpk154.below hl170 hp169
  have ho181 : Own eInt 3 G152 w167 w.heap.size u166 ([z143]) := ho168.weaken hX159.size
  refine ⟨fun _ => (Pins.of_le hX172.pins (Pin.le_trans (Pin.le_trans hle131 hle139) hx158.le)), ?_⟩
  refine zW (i := 12) (by kernel_rfl) (zY (i := 12) rfl rfl rfl (zI rfl _) (yC (E := eInt) (v := at_) (u := u166) 8 Tryz.underlying65 ap3 (by decide) rfl rfl hX172.pins ho173 ho181.src (by first | omega | (rw [List.nil_append]; omega) | (rw [List.length_nil]; omega) | (rw [List.length_append]; omega) | (simp; done) | (simp; omega) | (simp only [List.length_append, List.length_cons, List.length_nil]; omega)) (by first | omega | (rw [List.nil_append]; omega) | (rw [List.length_nil]; omega) | (rw [List.length_append]; omega) | (simp; done) | (simp; omega) | (simp only [List.length_append, List.length_cons, List.length_nil]; omega)) (hX172.size) (fun u182 w183 ho184 hp185 hg186 hw187 => ?_)))
  have hX188 := hX172.write hp185 hg186 ((yH ho173))
  have hpk190 := hpk174.kept hg186 hp185 hnp161
  have hnp192 := np_app hnp161 hpk174 hw187
  have hm193 : (ats ++ ([z143])).length = ats.length + 1 := List.length_append
  refine ⟨fun _ => (Pins.of_le hX188.pins (Pin.le_trans (Pin.le_trans hle131 hle139) hx158.le)), ?_⟩
  refine dT (i := 13) rfl rfl (by kernel_rfl) (fun _ _ => zC (v := u182) rfl) (Pins.of_le hX188.pins (Pin.le_trans (Pin.le_trans hle131 hle139) hx158.le)) ?_
  refine yX (by kernel_rfl) ?_
  refine yN ?_
  refine zA (zH ?_)
  refine qD rfl (yT rfl rfl (by omega)) ?_
  refine qD rfl (zB (v := (.int .i64 ((k4 : Int) + 1))) rfl) ?_
  refine qe ?_
  refine yL ?_
  refine ⟨_, ?_, _, rfl, _, k4 + 1, u182, ats ++ ([z143]), L148, R149, B150, q151, G152, (zG (x := 15) (zG (x := 14) (zG (x := 13) (zG (x := 5) (zG (x := 4) (zV (x := 0) rfl) rfl) rfl) rfl) rfl) rfl), rfl, hX188, (Pin.le_trans (Pin.le_trans (Pin.le_trans (Pin.le_trans hlek41 hle87) hle131) hle139) hx158.le), (by omega), (hld.step hf (by omega) hok48 hok155 hpx156 hpl144 hpd145 hqn146), ho184, hpk190, hpin162, hok155, (PX.trans hpx49 hpx156), hnp192⟩
  omega
 refine wp_exit ?_
 refine yD ?_
 refine yP ?_
 refine yO ?_
 refine zA (zD (zH ?_))
 refine qD rfl (zB (v := at_) rfl) ?_
 refine qD rfl (zC (v := at_) rfl) ?_
 refine qe (zA ?_)
 refine wp_ret ?_
 refine zX ?_
 refine zT (v := at_) rfl rfl rfl ?_
 have hkf : k4 = fs.length := by omega
 rw [hkf] at hld
 exact ⟨at_, ats, L37, R38, B39, q40, GL1, rfl, hpk46, hok48, hpx49, PIn.lo hpin47 rfl, hX44, hw45, hnp50, hld⟩

theorem root_spec {w : World} {G : Pin} {p : Nat} {L R B : Value} {mm : PM} {q : PSt} (hP : Pins G w) (hpk : Pk 65 3 G w p L R B mm q) (hok : PoolOk q) {x : Value} {fs : List Nd} (hx : RSl eNode G x fs) (hf : FormOk fs) (hl : q.ns.length + fs.length ≤ 1048576) (hf1 : 1 ≤ fs.length) :
  Calls Tryz.prog 53 [(.pointer (some ⟨p, 0, none⟩)), (.agg [x].toArray)].toArray w fun e w' => ∃ (z : Int) (L' R' B' : Value) (q' : PSt) (G' : Pin), e = .returned (.int .i64 z) ∧ Pk 65 3 G' w' p L' R' B' mm q' ∧ PoolOk q' ∧ PX q q' ∧ PLo w p L R B mm L' R' B' ∧ Ext (inP p L R B mm) G w G' w' ∧ PlaceOk q' z ∧ pd q' z = gOf fs ∧ q'.ns.length ≤ q.ns.length + fs.length := by
 refine zZ (n := 15) Tryz.func53 Tryz.ntmps53 rfl rfl ?_
 have hX0 : Ext (inP p L R B mm) G w G w := Ext.refl hP
 have hpin : PIn w (inP p L R B mm) p L R B mm := PIn.self
 have hml1 : (q.ns.map Nd.l).length = q.ns.length ∧ (q.ns.map Nd.r).length = q.ns.length := ⟨List.length_map .., List.length_map ..⟩
 have hml2 : q.bs.length = q.ns.length ∧ q.ns.length ≤ 1048576 := ⟨hok.ar.ok.len, hok.ar.ok.lim⟩
 have hfl := hf.len
 refine zD (zH ?_)
 refine qI rfl (xT [x] (v := (.agg [x].toArray)) rfl rfl hX0.pins (fun b3 w4 hk5 hb6 hp7 hl8 => ?_))
 have hX9 := hX0.step hp7 hl8
 have hpk10 := hpk.below hl8 hp7
 have ha15 := hpk.new (x := (some b3)) (fun k hk => by rw [(congrArg some hk5)] at hk; cases hk; exact Nat.le_refl _)
 have hlo16 : w.heap.size ≤ b3 := by have := hX0.size; omega
 obtain ⟨G17, hle18, hX19, hbp20, hf21⟩ := hb6.shut hX9 hlo16
 have hpk22 := hpk10.more hle18 hf21 ha15
 refine qD rfl (zC (v := (.int .i64 0)) rfl) ?_
 refine qe (zA (zD (zH ?_)))
 refine qD rfl (zB (v := (.pointer (some ⟨p, 0, none⟩))) rfl) ?_
 refine qD rfl (xD (cs := [x]) ag32 sz32 rfl (fun j u hj => hX19.pins _ _ _ (hbp20 _ _ (by simpa using hj)))) ?_
 refine qI rfl (zO (vs := [(.pointer (some ⟨p, 0, none⟩)), (.agg [x].toArray)]) Tryz.func104 nm104 rfl rfl rfl ?_)
 refine Calls.mono (load_spec hX19.pins hpk22 hok (hx.mono hle18) hf hl) ?_
 rintro _ w29 ⟨u23, ats, L24, R25, B26, q27, G28, rfl, hpk31, hok32, hpx33, hlo34, hx35, ho30, hnp37, hld36⟩
 refine ⟨_, rfl, ?_⟩
 have hX38 := hX19.trans hx35 hpin
 have hpin39 := PIn.call hpin hlo34 hX19.size
 have hql40 := hpx33.len
 have hml41 : (q27.ns.map Nd.l).length = q27.ns.length ∧ (q27.ns.map Nd.r).length = q27.ns.length := ⟨List.length_map .., List.length_map ..⟩
 have hml42 : q27.bs.length = q27.ns.length ∧ q27.ns.length ≤ 1048576 := ⟨hok32.ar.ok.len, hok32.ar.ok.lim⟩
 have ho43 := ho30.weaken hX19.size
 have hll44 := hld36.len
 refine qD rfl (zC (v := u23) rfl) ?_
 refine qe (zA (zD (zH ?_)))
 refine qD rfl (zB (v := u23) rfl) ?_
 refine qD rfl (zB (v := u23) rfl) ?_
 refine qD rfl (zQ Tryz.underlying65 (v := u23) rfl ho43.read) ?_
 refine qD rfl (r_sub rfl rfl (by omega)) ?_
 refine qD rfl (zM Tryz.underlying65 sz3 (v := u23) rfl rfl ho43.read (by omega) (by omega)) ?_
 refine qD rfl (zL (r := ats.getD ((ats.length : Int) - 1).toNat 0) rfl ag3 (z := ((ats.length : Int) - 1)) rfl ho43.read (Gadd.pins hX38.pins u23) (by omega) (by omega)) ?_
 refine qD rfl (zC (v := (.int .i64 (ats.getD ((ats.length : Int) - 1).toNat 0))) rfl) ?_
 refine qe (zA ?_)
 refine wp_ret ?_
 refine zX ?_
 refine zT (v := (.int .i64 (ats.getD ((ats.length : Int) - 1).toNat 0))) rfl rfl rfl ?_
 have hrt := hld36.root hf1
 rw [show fs.length - 1 = ((ats.length : Int) - 1).toNat by omega] at hrt
 exact ⟨_, L24, R25, B26, q27, G28, rfl, hpk31, hok32, hpx33, PIn.lo hpin39 rfl, hX38, hrt.1, hrt.2, hld36.hi⟩

end PL1
end Go.Proofs.YtfnginkcmcfdfaaGreatDoor

set_option maxRecDepth 20000
set_option maxHeartbeats 2000000
namespace Go.Proofs.YtfnginkcmcfdfaaGreatDoor
namespace PA1
open Go.RowKit Go.GL Go.Proofs










theorem parts_spec {w : World} {G : Pin} {p : Nat} {L R B : Value} {mm : PM} {q : PSt} (hP : Pins G w) (hpk : Pk 65 3 G w p L R B mm q) (hok : PoolOk q) {x : Value} {xs : List Int} (hx : RSl eInt G x xs) (hr : ∀ i, i < xs.length → PlaceOk q (xs.getD i 0)) (hxl : xs.length ≤ 1048576) :
  Calls Tryz.prog 103 [(.pointer (some ⟨p, 0, none⟩)), x].toArray w fun e w' => ∃ (u : Value) (zs : List Int) (G' : Pin), e = .returned u ∧ Own eInt 3 G' w' w.heap.size u zs ∧ PtOk q xs zs zs.length ∧ Ext noS G w G' w' := by
 refine zZ (n := 82) Tryz.func103 Tryz.ntmps103 rfl rfl ?_
 have hX0 : Ext noS G w G w := Ext.refl hP
 have hpin : PIn w (inP p L R B mm) p L R B mm := PIn.self
 have hml1 : (q.ns.map Nd.l).length = q.ns.length ∧ (q.ns.map Nd.r).length = q.ns.length := ⟨List.length_map .., List.length_map ..⟩
 have hml2 : q.bs.length = q.ns.length ∧ q.ns.length ≤ 1048576 := ⟨hok.ar.ok.len, hok.ar.ok.lim⟩
 have hm := hx.max
 refine zD (zH ?_)
 refine qD rfl (zC (v := (.slice none 0 0)) rfl) ?_
 refine qe (zA (zD (zH ?_)))
 refine qI rfl (o_makeMap (fun k : Int => Value.int .i64 k) (fun v : Bool => Value.bool v) hX0.pins (fun m3 w4 hk5 hm6 hp7 hl8 => ?_))
 have hX9 := hX0.step hp7 hl8
 have hpk10 := hpk.below hl8 hp7
 have hnp11 := hpk.new (x := some m3) (fun k hk => by cases hk; omega)
 have hlo12 : w.heap.size ≤ m3 := by have := hX0.size; omega
 refine qD rfl (zC (v := (.map (some m3))) rfl) ?_
 refine qe (zA (zD (zH ?_)))
 refine qI rfl (xH (E := eInt) (e := 3) Tryz.underlying65 sz3 hX9.pins (fun u13 w14 ho15 hp16 hl17 hk18 => ?_))
 have hX19 := hX9.step hp16 hl17
 have hm20 := hm6.below hl17
 have hpk21 := hpk10.below hl17 hp16
 have ha26 := hpk10.new (x := u13.ownBlock) (fun k hk => by rw [hk18] at hk; cases hk; exact Nat.le_refl _)
 have ho27 : Own eInt 3 G w14 w.heap.size u13 ([]) := ho15.weaken hX9.size
 refine qD rfl (zC (v := u13) rfl) ?_
 refine qe (zA (zD (zD (zH ?_))))
 refine qD rfl (zB (v := x) rfl) ?_
 refine qD rfl (zQ Tryz.underlying65 (v := x) rfl hx) ?_
 refine qD rfl (zB (v := (.int .i64 0)) rfl) ?_
 refine qe (zA ?_)
 refine yA ?_
 refine yS (fun (k : Nat) (en : Nat → Value) (W : World) => ∃ (env1 : Nat → Value) (i : Nat) (lv : Value) (ls : List Int) (sn : List (Int × Bool)) (GL1 : Pin), en = (upd (upd (upd (upd (upd (upd (upd env1 0 (.pointer (some ⟨p, 0, none⟩))) 4 (.slice none 0 0)) 5 (.map (some m3))) 6 lv) 16 x) 17 (.int .i64 (xs.length : Int))) 18 (.int .i64 (i : Int))) ∧ k = xs.length - i ∧ Ext noS G w GL1 W ∧ Pin.le G GL1 ∧ (i ≤ xs.length) ∧ (PtOk q (xs.take i) ls 0) ∧ (SnOk sn ls) ∧ (Own eInt 3 GL1 W w.heap.size lv (ls)) ∧ (Mp (fun k : Int => Value.int .i64 k) (fun v : Bool => Value.bool v) W m3 (sn)) ∧ (Pk 65 3 GL1 W p L R B mm q) ∧ (NP p L R B mm lv.ownBlock)) _ ⟨_, 0, u13, [], [], G, (zG (x := 18) (zG (x := 17) (zG (x := 16) (zG (x := 6) (zG (x := 5) (zG (x := 4) (zV (x := 0) rfl) rfl) rfl) rfl) rfl) rfl) rfl), rfl, hX19, Pin.le_refl _, Nat.zero_le _, PtOk.start, SnOk.start, ho27, hm20, hpk21, ha26⟩ ?_
 rintro k32 _ w33 ⟨env1, i, lv, ls, sn, GL1, rfl, hk34, hX35, hlek32, hi, hpt, hsn, hw36, hm37, hpk38, hnp39⟩
 have hpl0 := hpt.len
 refine zD (zH ?_)
 refine qD rfl (yR rfl rfl) ?_
 refine qe (zA (zD ?_))
 refine yG (p := ((i : Int) : Int) < (xs.length : Int)) rfl rfl (fun h40 => ?_) (fun h40 => ?_)
 ·skip
  refine wp_skip ?_
  refine zA (zD ?_)
  refine yA ?_
  refine zD (zH ?_)
  refine qD rfl (zM Tryz.underlying65 sz3 (v := x) rfl rfl hx (by omega) (by omega)) ?_
  refine qD rfl (zL (r := xs.getD i 0) rfl ag3 (z := (i : Int)) rfl hx (Pins.of_le hX35.pins hlek32) (by omega) (by omega)) ?_
  refine qD rfl (zC (v := (.int .i64 (xs.getD i 0))) rfl) ?_
  refine qe (zA (zD (zH ?_)))
  refine qD rfl (zB (v := (.map (some m3))) rfl) ?_
  refine qD rfl (zB (v := (.int .i64 (xs.getD i 0))) rfl) ?_
  refine qD rfl (run_look1_bool (k := (xs.getD i 0)) (key_int Tryz.underlying3) Tryz.underlying147 zr4 hm37 rfl rfl) ?_
  refine qD rfl (qB rfl) ?_
  refine qe (zA ?_)
  refine c_ifn rfl rfl (fun h41 => ?_) (fun h41 => ?_)
  ·skip
   refine wp_skip ?_
   refine yN ?_
   refine zA (zH ?_)
   refine qD rfl (yT rfl rfl (by omega)) ?_
   refine qD rfl (zB (v := (.int .i64 ((i : Int) + 1))) rfl) ?_
   refine qe ?_
   refine yL ?_
   refine ⟨_, ?_, _, rfl, _, i + 1, lv, ls, sn, GL1, (zG (x := 18) (zG (x := 17) (zG (x := 16) (zG (x := 6) (zG (x := 5) (zG (x := 4) (zV (x := 0) rfl) rfl) rfl) rfl) rfl) rfl) rfl), rfl, hX35, hlek32, (by omega), (hpt.rseen (by omega) (hsn.yes h41)), hsn, hw36, hm37, hpk38, hnp39⟩
   omega
  refine zD (zH ?_)
  refine qD rfl (zB (v := (.map (some m3))) rfl) ?_
  refine qD rfl (zB (v := (.int .i64 (xs.getD i 0))) rfl) ?_
  refine q0 rfl rfl rfl (o_mapUpdate (val := (fun v : Bool => Value.bool v)) (k := (xs.getD i 0)) (v := true) (key_int Tryz.underlying3) Tryz.underlying147 rfl rfl rfl hX35.pins hm37 (fun w42 hm43 hp44 hg45 hz46 => ?_))
  have hX47 := hX35.write hp44 hg45 ((yV hlo12))
  have ho48 := hw36.keptA hg45 (yI hm37 hw36).symm
  have hpk49 := hpk38.kept hg45 hp44 hnp11
  refine qe (zA (zH ?_))
  refine qD rfl (zB (v := lv) rfl) ?_
  refine qD rfl (zB (v := (.int .i64 (xs.getD i 0))) rfl) ?_
  refine qI rfl (yY (E := eInt) (e := 3) [(.int .i64 (xs.getD i 0))] [xs.getD i 0] Tryz.underlying65 sz3 zr3 (by exact xV (by rfl)) (yZ (by rfl)) rfl rfl rfl rfl (by decide) hX47.pins (fun u50 w51 ho52 hp53 hl54 hk55 => ?_))
  have hX56 := hX47.step hp53 hl54
  have ho57 := ho48.below hl54
  have hm58 := hm43.below hl54
  have hpk59 := hpk49.below hl54 hp53
  have ho66 : Own eInt 3 GL1 w51 w.heap.size u50 ([xs.getD i 0]) := ho52.weaken hX47.size
  refine qI rfl (yC (E := eInt) (v := lv) (u := u50) 8 Tryz.underlying65 ap3 (by decide) rfl rfl hX56.pins ho57 ho66.src (by first | omega | (rw [List.nil_append]; omega) | (rw [List.length_nil]; omega) | (rw [List.length_append]; omega) | (simp; done) | (simp; omega) | (simp only [List.length_append, List.length_cons, List.length_nil]; omega)) (by first | omega | (rw [List.nil_append]; omega) | (rw [List.length_nil]; omega) | (rw [List.length_append]; omega) | (simp; done) | (simp; omega) | (simp only [List.length_append, List.length_cons, List.length_nil]; omega)) (hX56.size) (fun u67 w68 ho69 hp70 hg71 hw72 => ?_))
  have hX73 := hX56.write hp70 hg71 ((yH ho57))
  have hm75 := hm58.kept hg71 (yI hm58 ho57)
  have hpk76 := hpk59.kept hg71 hp70 hnp39
  have hnp78 := np_app hnp39 hpk59 hw72
  have hm79 : (ls ++ ([xs.getD i 0])).length = ls.length + 1 := List.length_append
  refine qD rfl (zC (v := u67) rfl) ?_
  refine qe ?_
  refine yN ?_
  refine zA (zH ?_)
  refine qD rfl (yT rfl rfl (by omega)) ?_
  refine qD rfl (zB (v := (.int .i64 ((i : Int) + 1))) rfl) ?_
  refine qe ?_
  refine yL ?_
  refine ⟨_, ?_, _, rfl, _, i + 1, u67, ls ++ ([xs.getD i 0]), putE sn (xs.getD i 0) true, GL1, (zG (x := 18) (zG (x := 17) (zG (x := 16) (zG (x := 6) (zG (x := 5) (zG (x := 4) (zV (x := 0) rfl) rfl) rfl) rfl) rfl) rfl) rfl), rfl, hX73, hlek32, (by omega), (hpt.rnew (by omega) (hsn.no h41) (hr i (by omega))), hsn.put, ho69, hm75, hpk76, hnp78⟩
  omega
 refine wp_exit ?_
 refine yD ?_
 refine yP ?_
 refine yO ?_
 refine zA (zD (zD (zH ?_)))
 refine qD rfl (zC (v := (.int .i64 0)) rfl) ?_
 refine qe (zA ?_)
 refine yA ?_
 have hin : i = xs.length := by omega
 rw [hin, qJ (Nat.le_refl _)] at hpt
 refine yS (fun (k : Nat) (en : Nat → Value) (W : World) => ∃ (env1 : Nat → Value) (k2 : Nat) (lv2 : Value) (ls2 : List Int) (sn2 : List (Int × Bool)) (GL2 : Pin), en = (upd (upd (upd (upd (upd env1 0 (.pointer (some ⟨p, 0, none⟩))) 4 (.slice none 0 0)) 5 (.map (some m3))) 6 lv2) 9 (.int .i64 (k2 : Int))) ∧ k = q.ns.length - k2 ∧ Ext noS G w GL2 W ∧ Pin.le GL1 GL2 ∧ (PtOk q xs ls2 k2) ∧ (SnOk sn2 ls2) ∧ (Own eInt 3 GL2 W w.heap.size lv2 (ls2)) ∧ (Mp (fun k : Int => Value.int .i64 k) (fun v : Bool => Value.bool v) W m3 (sn2)) ∧ (Pk 65 3 GL2 W p L R B mm q) ∧ (NP p L R B mm lv2.ownBlock)) _ ⟨_, 0, lv, ls, sn, GL1, (zG (x := 9) (zG (x := 6) (zG (x := 5) (zG (x := 4) (zV (x := 0) rfl) rfl) rfl) rfl) rfl), rfl, hX35, Pin.le_refl _, hpt, hsn, hw36, hm37, hpk38, hnp39⟩ ?_
 rintro k84 _ w85 ⟨env1, k2, lv2, ls2, sn2, GL2, rfl, hk86, hX87, hlek84, hpt2, hsn2, hw88, hm89, hpk90, hnp91⟩
 have hpl2 := hpt2.len
 have hkl2 := hpt2.kl
 refine zD (zD (zH ?_))
 refine qD rfl (zB (v := (.int .i64 (k2 : Int))) rfl) ?_
 refine qD rfl (zB (v := lv2) rfl) ?_
 refine qD rfl (zQ Tryz.underlying65 (v := lv2) rfl hw88.read) ?_
 refine qD rfl (yR rfl rfl) ?_
 refine qe (zA ?_)
 refine yG (p := ((k2 : Int) : Int) < (ls2.length : Int)) rfl rfl (fun h92 => ?_) (fun h92 => ?_)
 ·skip
  have hzp := hpt2.pl _ (yU (d := (0 : Int)) (show k2 < ls2.length by omega))
  have hz0 := hzp.1
  have hz1 := hzp.2
  have holl := hok.ar.ok.lens (ls2.getD k2 0).toNat (by omega)
  refine wp_skip ?_
  refine zA (zD ?_)
  refine yA ?_
  refine zD ?_
  have hq93 := Gadd.pins hX87.pins lv2
  have hq94 := Gadd.pins hX87.pins L
  have hq95 := Gadd.pins hX87.pins R
  have hr96 := hw88.read
  have hr97 := hpk90.ol.read
  have hr98 := hpk90.rr.read
  refine xJ (S := fun wz => BxR wz p [L, R, B, (.map (some mm.f)), (.map (some mm.o)), (.map (some mm.c)), (.map (some mm.s)), (.map (some mm.n))] ∧ Pins (Gadd GL2 w85 lv2) wz ∧ Pins (Gadd GL2 w85 L) wz ∧ Pins (Gadd GL2 w85 R) wz) (last := 22) (by kernel_rfl) rfl ?_
  have hl99 : Below w85.heap.size w85 w85.drew := (Below.refl _ _).drew
  have hp100 := hX87.pins.below hl99
  have hX101 := hX87.step hp100 hl99
  have ho102 := hw88.below hl99
  have hm103 := hm89.below hl99
  have hpk104 := hpk90.below hl99 hp100
  have hq105 := hq93.below hl99
  have hq106 := hq94.below hl99
  have hq107 := hq95.below hl99
  refine dT (i := 0) rfl rfl (by kernel_rfl) (fun _ _ => zB (v := (.pointer (some ⟨p, 0, none⟩))) rfl) ⟨hpk104.bx.reads, hq105, hq106, hq107⟩ ?_
  refine dT (i := 1) rfl rfl (by kernel_rfl) (fun _ _ => xM rfl) ⟨hpk104.bx.reads, hq105, hq106, hq107⟩ ?_
  refine dT (i := 2) rfl rfl (by kernel_rfl) (fun _ _ => zR (k := 0) rfl Tryz.underlying72 rfl nz66 rfl) ⟨hpk104.bx.reads, hq105, hq106, hq107⟩ ?_
  refine dT (i := 3) rfl rfl (by kernel_rfl) (fun _ hS => zU (u := L) ag66 rfl (hS.1 0 _ rfl)) ⟨hpk104.bx.reads, hq105, hq106, hq107⟩ ?_
  refine dT (i := 4) rfl rfl (by kernel_rfl) (fun _ _ => zB (v := lv2) rfl) ⟨hpk104.bx.reads, hq105, hq106, hq107⟩ ?_
  refine dT (i := 5) rfl rfl (by kernel_rfl) (fun _ _ => zB (v := (.int .i64 (k2 : Int))) rfl) ⟨hpk104.bx.reads, hq105, hq106, hq107⟩ ?_
  refine dT (i := 6) rfl rfl (by kernel_rfl) (fun _ _ => zM Tryz.underlying65 sz3 (v := lv2) rfl rfl hr96 (by omega) (by omega)) ⟨hpk104.bx.reads, hq105, hq106, hq107⟩ ?_
  refine dT (i := 7) rfl rfl (by kernel_rfl) (fun _ hS => zL (r := ls2.getD k2 0) rfl ag3 (z := (k2 : Int)) rfl hr96 hS.2.1 (by omega) (by omega)) ⟨hpk104.bx.reads, hq105, hq106, hq107⟩ ?_
  refine dT (i := 8) rfl rfl (by kernel_rfl) (fun _ _ => zM Tryz.underlying66 sz65 (v := L) rfl rfl hr97 (by omega) (by omega)) ⟨hpk104.bx.reads, hq105, hq106, hq107⟩ ?_
  obtain ⟨u108, hr109, hl110⟩ := nm_sl (hpk90.ol.at (z := (ls2.getD k2 0)) (by omega) (by omega)) (j := (ls2.getD k2 0).toNat) rfl
  rw [mapl_getD] at hr109
  have hm111 := hr109.max
  refine dT (i := 9) rfl rfl (by kernel_rfl) (fun _ hS => hl110 ag65 rfl hS.2.2.1) ⟨hpk104.bx.reads, hq105, hq106, hq107⟩ ?_
  refine dT (i := 10) rfl rfl (by kernel_rfl) (fun _ _ => zB (v := (.pointer (some ⟨p, 0, none⟩))) rfl) ⟨hpk104.bx.reads, hq105, hq106, hq107⟩ ?_
  refine dT (i := 11) rfl rfl (by kernel_rfl) (fun _ _ => xM rfl) ⟨hpk104.bx.reads, hq105, hq106, hq107⟩ ?_
  refine dT (i := 12) rfl rfl (by kernel_rfl) (fun _ _ => zR (k := 1) rfl Tryz.underlying72 rfl nz66 rfl) ⟨hpk104.bx.reads, hq105, hq106, hq107⟩ ?_
  refine dT (i := 13) rfl rfl (by kernel_rfl) (fun _ hS => zU (u := R) ag66 rfl (hS.1 1 _ rfl)) ⟨hpk104.bx.reads, hq105, hq106, hq107⟩ ?_
  refine dT (i := 14) rfl rfl (by kernel_rfl) (fun _ _ => zB (v := lv2) rfl) ⟨hpk104.bx.reads, hq105, hq106, hq107⟩ ?_
  refine dT (i := 15) rfl rfl (by kernel_rfl) (fun _ _ => zB (v := (.int .i64 (k2 : Int))) rfl) ⟨hpk104.bx.reads, hq105, hq106, hq107⟩ ?_
  refine dT (i := 16) rfl rfl (by kernel_rfl) (fun _ _ => zM Tryz.underlying65 sz3 (v := lv2) rfl rfl hr96 (by omega) (by omega)) ⟨hpk104.bx.reads, hq105, hq106, hq107⟩ ?_
  refine dT (i := 17) rfl rfl (by kernel_rfl) (fun _ hS => zL (r := ls2.getD k2 0) rfl ag3 (z := (k2 : Int)) rfl hr96 hS.2.1 (by omega) (by omega)) ⟨hpk104.bx.reads, hq105, hq106, hq107⟩ ?_
  refine dT (i := 18) rfl rfl (by kernel_rfl) (fun _ _ => zM Tryz.underlying66 sz65 (v := R) rfl rfl hr98 (by omega) (by omega)) ⟨hpk104.bx.reads, hq105, hq106, hq107⟩ ?_
  obtain ⟨u112, hr113, hl114⟩ := nm_sl (hpk90.rr.at (z := (ls2.getD k2 0)) (by omega) (by omega)) (j := (ls2.getD k2 0).toNat) rfl
  rw [mapr_getD] at hr113
  have hm115 := hr113.max
  refine dT (i := 19) rfl rfl (by kernel_rfl) (fun _ hS => hl114 ag65 rfl hS.2.2.2) ⟨hpk104.bx.reads, hq105, hq106, hq107⟩ ?_
  refine dT (i := 20) rfl rfl (by kernel_rfl) (fun _ _ => r_buildA (m := 1) [(.slice none 0 0), (.slice none 0 0)] [u108, u112] [(0, u108, [u108]), (1, u112, [u112])] Tryz.underlying148 zr148 rfl sz65 rfl (List.forall_mem_cons.2 ⟨(xC hr109.one), (List.forall_mem_cons.2 ⟨(xC hr113.one), (fun _ h => by cases h)⟩)⟩) rfl) ⟨hpk104.bx.reads, hq105, hq106, hq107⟩ ?_
  refine dT (i := 21) rfl rfl (by kernel_rfl) (fun _ _ => zB (v := (.int .i64 0)) rfl) ⟨hpk104.bx.reads, hq105, hq106, hq107⟩ ?_
  refine yX (by kernel_rfl) ?_
  refine zA ?_
  refine yA ?_
  refine yS (fun (k : Nat) (en : Nat → Value) (W : World) => ∃ (env1 : Nat → Value) (s : Nat) (lv3 : Value) (ls3 : List Int) (sn3 : List (Int × Bool)) (GL3 : Pin), en = (upd (upd (upd (upd (upd (upd (upd env1 0 (.pointer (some ⟨p, 0, none⟩))) 4 (.slice none 0 0)) 5 (.map (some m3))) 6 lv3) 9 (.int .i64 (k2 : Int))) 59 (.agg [u108, u112].toArray)) 60 (.int .i64 (s : Int))) ∧ k = 2 - s ∧ Ext noS G w GL3 W ∧ Pin.le GL2 GL3 ∧ (s ≤ 2) ∧ (PtIn q xs ls3 k2 (ls2.getD k2 0) (dzL (q.ns.getD (ls2.getD k2 0).toNat default).l (q.ns.getD (ls2.getD k2 0).toNat default).r s)) ∧ (SnOk sn3 ls3) ∧ (Own eInt 3 GL3 W w.heap.size lv3 (ls3)) ∧ (Mp (fun k : Int => Value.int .i64 k) (fun v : Bool => Value.bool v) W m3 (sn3)) ∧ (Pk 65 3 GL3 W p L R B mm q) ∧ (NP p L R B mm lv3.ownBlock)) _ ⟨_, 0, lv2, ls2, sn2, GL2, (zG (x := 60) (zG (x := 59) (zG (x := 9) (zG (x := 6) (zG (x := 5) (zG (x := 4) (zV (x := 0) rfl) rfl) rfl) rfl) rfl) rfl) rfl), rfl, hX101, Pin.le_refl _, Nat.zero_le _, (PtIn.start hpt2 (by omega)), hsn2, ho102, hm103, hpk104, hnp91⟩ ?_
  rintro k120 _ w121 ⟨env1, s, lv3, ls3, sn3, GL3, rfl, hk122, hX123, hlek120, hs, hin3, hsn3, hw124, hm125, hpk126, hnp127⟩
  have hpl3 := hin3.ok.len
  refine zD (zH ?_)
  refine qD rfl (yR rfl rfl) ?_
  refine qe (zA (zD ?_))
  refine yG (p := ((s : Int) : Int) < 2) rfl rfl (fun h128 => ?_) (fun h128 => ?_)
  ·skip
   refine wp_skip ?_
   refine zA (zD ?_)
   refine yA ?_
   refine zD (zH ?_)
   obtain ⟨u129, hr130, hl131⟩ := name_index2 (hr109.mono hlek120) (hr113.mono hlek120) (z := (s : Int)) s (by omega) (by omega) rfl
   have hm132 := hr130.max
   refine qD rfl (hl131 Tryz.underlying148 rfl sz65 ag65 rfl rfl) ?_
   refine qD rfl (zC (v := u129) rfl) ?_
   refine qe (zA (zD (zH ?_)))
   refine qD rfl (zB (v := u129) rfl) ?_
   refine qD rfl (zQ Tryz.underlying65 (v := u129) rfl hr130) ?_
   refine qD rfl (zB (v := (.int .i64 0)) rfl) ?_
   refine qe (zA ?_)
   refine yA ?_
   refine yS (fun (k : Nat) (en : Nat → Value) (W : World) => ∃ (env1 : Nat → Value) (j : Nat) (lv4 : Value) (ls4 : List Int) (sn4 : List (Int × Bool)) (GL4 : Pin), en = (upd (upd (upd (upd (upd (upd (upd (upd (upd (upd env1 0 (.pointer (some ⟨p, 0, none⟩))) 4 (.slice none 0 0)) 5 (.map (some m3))) 6 lv4) 9 (.int .i64 (k2 : Int))) 59 (.agg [u108, u112].toArray)) 60 (.int .i64 (s : Int))) 63 u129) 64 (.int .i64 ((pick2 s ((q.ns.getD (ls2.getD k2 0).toNat default).l) ((q.ns.getD (ls2.getD k2 0).toNat default).r)).length : Int))) 65 (.int .i64 (j : Int))) ∧ k = (pick2 s (q.ns.getD (ls2.getD k2 0).toNat default).l (q.ns.getD (ls2.getD k2 0).toNat default).r).length - j ∧ Ext noS G w GL4 W ∧ Pin.le GL3 GL4 ∧ (j ≤ (pick2 s (q.ns.getD (ls2.getD k2 0).toNat default).l (q.ns.getD (ls2.getD k2 0).toNat default).r).length) ∧ (PtIn q xs ls4 k2 (ls2.getD k2 0) (dzL (q.ns.getD (ls2.getD k2 0).toNat default).l (q.ns.getD (ls2.getD k2 0).toNat default).r s ++ (pick2 s (q.ns.getD (ls2.getD k2 0).toNat default).l (q.ns.getD (ls2.getD k2 0).toNat default).r).take j)) ∧ (SnOk sn4 ls4) ∧ (Own eInt 3 GL4 W w.heap.size lv4 (ls4)) ∧ (Mp (fun k : Int => Value.int .i64 k) (fun v : Bool => Value.bool v) W m3 (sn4)) ∧ (Pk 65 3 GL4 W p L R B mm q) ∧ (NP p L R B mm lv4.ownBlock)) _ ⟨_, 0, lv3, ls3, sn3, GL3, (zG (x := 65) (zG (x := 64) (zG (x := 63) (zG (x := 60) (zG (x := 59) (zG (x := 9) (zG (x := 6) (zG (x := 5) (zG (x := 4) (zV (x := 0) rfl) rfl) rfl) rfl) rfl) rfl) rfl) rfl) rfl) rfl), rfl, hX123, Pin.le_refl _, Nat.zero_le _, (by rw [List.take_zero, List.append_nil]; exact hin3), hsn3, hw124, hm125, hpk126, hnp127⟩ ?_
   rintro k137 _ w138 ⟨env1, j, lv4, ls4, sn4, GL4, rfl, hk139, hX140, hlek137, hj, hin4, hsn4, hw141, hm142, hpk143, hnp144⟩
   have hpl5 := hin4.ok.len
   refine zD (zH ?_)
   refine qD rfl (yR rfl rfl) ?_
   refine qe (zA (zD ?_))
   refine yG (p := ((j : Int) : Int) < ((pick2 s ((q.ns.getD (ls2.getD k2 0).toNat default).l) ((q.ns.getD (ls2.getD k2 0).toNat default).r)).length : Int)) rfl rfl (fun h145 => ?_) (fun h145 => ?_)
   ·skip
    refine wp_skip ?_
    refine zA (zD ?_)
    refine yA ?_
    refine zD (zH ?_)
    refine qD rfl (zM Tryz.underlying65 sz3 (v := u129) rfl rfl hr130 (by omega) (by omega)) ?_
    refine qD rfl (zL (r := (pick2 s ((q.ns.getD (ls2.getD k2 0).toNat default).l) ((q.ns.getD (ls2.getD k2 0).toNat default).r)).getD j 0) rfl ag3 (z := (j : Int)) rfl hr130 (Pins.of_le hX140.pins hlek137) (by omega) (by omega)) ?_
    refine qD rfl (zC (v := (.int .i64 ((pick2 s ((q.ns.getD (ls2.getD k2 0).toNat default).l) ((q.ns.getD (ls2.getD k2 0).toNat default).r)).getD j 0))) rfl) ?_
    refine qe (zA (zD (zH ?_)))
    refine qD rfl (zB (v := (.map (some m3))) rfl) ?_
    refine qD rfl (zB (v := (.int .i64 ((pick2 s ((q.ns.getD (ls2.getD k2 0).toNat default).l) ((q.ns.getD (ls2.getD k2 0).toNat default).r)).getD j 0))) rfl) ?_
    refine qD rfl (run_look1_bool (k := ((pick2 s ((q.ns.getD (ls2.getD k2 0).toNat default).l) ((q.ns.getD (ls2.getD k2 0).toNat default).r)).getD j 0)) (key_int Tryz.underlying3) Tryz.underlying147 zr4 hm142 rfl rfl) ?_
    refine qD rfl (qB rfl) ?_
    refine qe (zA ?_)
    refine c_ifn rfl rfl (fun h146 => ?_) (fun h146 => ?_)
    ·skip
     refine wp_skip ?_
     refine yN ?_
     refine zA (zH ?_)
     refine qD rfl (yT rfl rfl (by omega)) ?_
     refine qD rfl (zB (v := (.int .i64 ((j : Int) + 1))) rfl) ?_
     refine qe ?_
     refine yL ?_
     refine ⟨_, ?_, _, rfl, _, j + 1, lv4, ls4, sn4, GL4, (zG (x := 65) (zG (x := 64) (zG (x := 63) (zG (x := 60) (zG (x := 59) (zG (x := 9) (zG (x := 6) (zG (x := 5) (zG (x := 4) (zV (x := 0) rfl) rfl) rfl) rfl) rfl) rfl) rfl) rfl) rfl) rfl), rfl, hX140, hlek137, (by omega), (by rw [xO _ 0 (show j < (pick2 s (q.ns.getD (ls2.getD k2 0).toNat default).l (q.ns.getD (ls2.getD k2 0).toNat default).r).length by omega), ← List.append_assoc]; exact hin4.seen (hsn4.yes h146)), hsn4, hw141, hm142, hpk143, hnp144⟩
     omega
    refine zD (zH ?_)
    refine qD rfl (zB (v := (.map (some m3))) rfl) ?_
    refine qD rfl (zB (v := (.int .i64 ((pick2 s ((q.ns.getD (ls2.getD k2 0).toNat default).l) ((q.ns.getD (ls2.getD k2 0).toNat default).r)).getD j 0))) rfl) ?_
    refine q0 rfl rfl rfl (o_mapUpdate (val := (fun v : Bool => Value.bool v)) (k := ((pick2 s ((q.ns.getD (ls2.getD k2 0).toNat default).l) ((q.ns.getD (ls2.getD k2 0).toNat default).r)).getD j 0)) (v := true) (key_int Tryz.underlying3) Tryz.underlying147 rfl rfl rfl hX140.pins hm142 (fun w147 hm148 hp149 hg150 hz151 => ?_))
    have hX152 := hX140.write hp149 hg150 ((yV hlo12))
    have ho153 := hw141.keptA hg150 (yI hm142 hw141).symm
    have hpk154 := hpk143.kept hg150 hp149 hnp11
    refine qe (zA (zH ?_))
    refine qD rfl (zB (v := lv4) rfl) ?_
    refine qD rfl (zB (v := (.int .i64 ((pick2 s ((q.ns.getD (ls2.getD k2 0).toNat default).l) ((q.ns.getD (ls2.getD k2 0).toNat default).r)).getD j 0))) rfl) ?_
    refine qI rfl (yY (E := eInt) (e := 3) [(.int .i64 ((pick2 s ((q.ns.getD (ls2.getD k2 0).toNat default).l) ((q.ns.getD (ls2.getD k2 0).toNat default).r)).getD j 0))] [(pick2 s ((q.ns.getD (ls2.getD k2 0).toNat default).l) ((q.ns.getD (ls2.getD k2 0).toNat default).r)).getD j 0] Tryz.underlying65 sz3 zr3 (by exact xV (by rfl)) (yZ (by rfl)) rfl rfl rfl rfl (by decide) hX152.pins (fun u155 w156 ho157 hp158 hl159 hk160 => ?_))
    have hX161 := hX152.step hp158 hl159
    have ho162 := ho153.below hl159
    have hm163 := hm148.below hl159
    have hpk164 := hpk154.below hl159 hp158
    have ho171 : Own eInt 3 GL4 w156 w.heap.size u155 ([(pick2 s ((q.ns.getD (ls2.getD k2 0).toNat default).l) ((q.ns.getD (ls2.getD k2 0).toNat default).r)).getD j 0]) := ho157.weaken hX152.size
    refine qI rfl (yC (E := eInt) (v := lv4) (u := u155) 8 Tryz.underlying65 ap3 (by decide) rfl rfl hX161.pins ho162 ho171.src (by first | omega | (rw [List.nil_append]; omega) | (rw [List.length_nil]; omega) | (rw [List.length_append]; omega) | (simp; done) | (simp; omega) | (simp only [List.length_append, List.length_cons, List.length_nil]; omega)) (by first | omega | (rw [List.nil_append]; omega) | (rw [List.length_nil]; omega) | (rw [List.length_append]; omega) | (simp; done) | (simp; omega) | (simp only [List.length_append, List.length_cons, List.length_nil]; omega)) (hX161.size) (fun u172 w173 ho174 hp175 hg176 hw177 => ?_))
    have hX178 := hX161.write hp175 hg176 ((yH ho162))
    have hm180 := hm163.kept hg176 (yI hm163 ho162)
    have hpk181 := hpk164.kept hg176 hp175 hnp144
    have hnp183 := np_app hnp144 hpk164 hw177
    have hm184 : (ls4 ++ ([(pick2 s ((q.ns.getD (ls2.getD k2 0).toNat default).l) ((q.ns.getD (ls2.getD k2 0).toNat default).r)).getD j 0])).length = ls4.length + 1 := List.length_append
    refine qD rfl (zC (v := u172) rfl) ?_
    refine qe ?_
    refine yN ?_
    refine zA (zH ?_)
    refine qD rfl (yT rfl rfl (by omega)) ?_
    refine qD rfl (zB (v := (.int .i64 ((j : Int) + 1))) rfl) ?_
    refine qe ?_
    refine yL ?_
    refine ⟨_, ?_, _, rfl, _, j + 1, u172, ls4 ++ ([(pick2 s ((q.ns.getD (ls2.getD k2 0).toNat default).l) ((q.ns.getD (ls2.getD k2 0).toNat default).r)).getD j 0]), putE sn4 ((pick2 s ((q.ns.getD (ls2.getD k2 0).toNat default).l) ((q.ns.getD (ls2.getD k2 0).toNat default).r)).getD j 0) true, GL4, (zG (x := 65) (zG (x := 64) (zG (x := 63) (zG (x := 60) (zG (x := 59) (zG (x := 9) (zG (x := 6) (zG (x := 5) (zG (x := 4) (zV (x := 0) rfl) rfl) rfl) rfl) rfl) rfl) rfl) rfl) rfl) rfl), rfl, hX178, hlek137, (by omega), (by rw [xO _ 0 (show j < (pick2 s (q.ns.getD (ls2.getD k2 0).toNat default).l (q.ns.getD (ls2.getD k2 0).toNat default).r).length by omega), ← List.append_assoc]; exact hin4.new hok (hsn4.no h146) (dz_in (by omega) (by omega))), hsn4.put, ho174, hm180, hpk181, hnp183⟩
    omega
   have hjn : j = (pick2 s (q.ns.getD (ls2.getD k2 0).toNat default).l (q.ns.getD (ls2.getD k2 0).toNat default).r).length := by omega
   rw [hjn, qJ (Nat.le_refl _)] at hin4
   have hin5 : PtIn q xs ls4 k2 (ls2.getD k2 0) (dzL (q.ns.getD (ls2.getD k2 0).toNat default).l (q.ns.getD (ls2.getD k2 0).toNat default).r (s + 1)) := by rw [dz_next (by omega)]; exact hin4
   refine wp_exit ?_
   refine yD ?_
   refine yP ?_
   refine yO ?_
   refine yN ?_
   refine zA (zH ?_)
   refine qD rfl (yT rfl rfl (by omega)) ?_
   refine qD rfl (zB (v := (.int .i64 ((s : Int) + 1))) rfl) ?_
   refine qe ?_
   refine yL ?_
   refine ⟨_, ?_, _, rfl, _, s + 1, lv4, ls4, sn4, GL4, (zG (x := 60) (zG (x := 59) (zG (x := 9) (zG (x := 6) (zG (x := 5) (zG (x := 4) (zV (x := 0) rfl) rfl) rfl) rfl) rfl) rfl) rfl), rfl, hX140, (Pin.le_trans hlek120 hlek137), (by omega), hin5, hsn4, hw141, hm142, hpk143, hnp144⟩
   omega
  have hs2 : s = 2 := by omega
  rw [hs2] at hin3
  have hdone := hin3.done (fun o ho => ho)
  have hpl4 := hdone.kl
  refine wp_exit ?_
  refine yD ?_
  refine yP ?_
  refine yO ?_
  refine yN ?_
  refine zA (zH ?_)
  refine qD rfl (zB (v := (.int .i64 (k2 : Int))) rfl) ?_
  refine qD rfl (yT rfl rfl (by omega)) ?_
  refine qD rfl (zC (v := (.int .i64 ((k2 : Int) + 1))) rfl) ?_
  refine qe ?_
  refine yL ?_
  refine ⟨_, ?_, _, rfl, _, k2 + 1, lv3, ls3, sn3, GL3, (zG (x := 9) (zG (x := 6) (zG (x := 5) (zG (x := 4) (zV (x := 0) rfl) rfl) rfl) rfl) rfl), rfl, hX123, (Pin.le_trans hlek84 hlek120), hdone, hsn3, hw124, hm125, hpk126, hnp127⟩
  omega
 refine wp_exit ?_
 refine yD ?_
 refine yP ?_
 refine yO ?_
 refine zA (zD (zH ?_))
 refine qD rfl (zB (v := lv2) rfl) ?_
 refine qD rfl (zC (v := lv2) rfl) ?_
 refine qe (zA ?_)
 refine wp_ret ?_
 refine zX ?_
 refine zT (v := lv2) rfl rfl rfl ?_
 have hkk : k2 = ls2.length := by omega
 rw [hkk] at hpt2
 exact ⟨_, _, _, rfl, hw88, hpt2, hX87⟩

end PA1
end Go.Proofs.YtfnginkcmcfdfaaGreatDoor

set_option maxRecDepth 20000
set_option maxHeartbeats 2000000
namespace Go.Proofs.YtfnginkcmcfdfaaGreatDoor
namespace SO1
open Go.RowKit Go.GL Go.Proofs
open Go.Proofs.YtfnginkcmcfdfaaGreatDoor.B1










theorem cmpB_spec {w : World} {G : Pin} {p : Nat} {L R B : Value} {mm : PM} {q : PSt} (hP : Pins G w) (hpk : Pk 65 3 G w p L R B mm q) (hok : PoolOk q) {bx : Nat} (hbx : BxP G bx [.pointer (some ⟨p, 0, none⟩)]) {a b : Int} (ha : PlaceOk q a) (hb : PlaceOk q b) :
  Calls Tryz.prog 116 [(.int .i64 a), (.int .i64 b), (.pointer (some ⟨bx, 0, none⟩))].toArray w fun e w' => e = .returned (.int .i64 (cmpI (bn q a) (bn q b))) ∧ ∃ n os, w' = Go.Sort.grow (w.drewN n) os := by
 refine zZ (n := 21) Tryz.func116 Tryz.ntmps116 rfl rfl ?_
 have hX0 : Ext noS G w G w := Ext.refl hP
 have hpin : PIn w (inP p L R B mm) p L R B mm := PIn.self
 have hml1 : (q.ns.map Nd.l).length = q.ns.length ∧ (q.ns.map Nd.r).length = q.ns.length := ⟨List.length_map .., List.length_map ..⟩
 have hml2 : q.bs.length = q.ns.length ∧ q.ns.length ≤ 1048576 := ⟨hok.ar.ok.len, hok.ar.ok.lim⟩
 have ha0 := ha.1
 have ha1 := ha.2
 have hb0 := hb.1
 have hb1 := hb.2
 refine zD (zH ?_)
 refine qD rfl (zC (v := (.int .i64 0)) rfl) ?_
 refine qe (zA (zD ?_))
 have hq3 := Gadd.pins hX0.pins B
 have hr4 := hpk.ob.read
 refine xJ (S := fun wz => Pins G wz ∧ BxR wz p [L, R, B, (.map (some mm.f)), (.map (some mm.o)), (.map (some mm.c)), (.map (some mm.s)), (.map (some mm.n))] ∧ Pins (Gadd G w B) wz) (last := 16) (by kernel_rfl) rfl ?_
 have hl5 : Below w.heap.size w w.drew := (Below.refl _ _).drew
 have hp6 := hX0.pins.below hl5
 have hdr7 : w.drew.drawn = w.drawn + 1 := rfl
 have hX8 := hX0.step hp6 hl5
 have hpk9 := hpk.below hl5 hp6
 have hq10 := hq3.below hl5
 refine dT (i := 0) rfl rfl (by kernel_rfl) (fun _ hS => zU (u := (.pointer (some ⟨p, 0, none⟩))) ag61 rfl (hS.1 _ _ _ (hbx 0 _ rfl))) ⟨hX8.pins, hpk9.bx.reads, hq10⟩ ?_
 refine dT (i := 1) rfl rfl (by kernel_rfl) (fun _ _ => xM rfl) ⟨hX8.pins, hpk9.bx.reads, hq10⟩ ?_
 refine dT (i := 2) rfl rfl (by kernel_rfl) (fun _ _ => zR (k := 2) rfl Tryz.underlying72 rfl nz65 rfl) ⟨hX8.pins, hpk9.bx.reads, hq10⟩ ?_
 refine dT (i := 3) rfl rfl (by kernel_rfl) (fun _ hS => zU (u := B) ag65 rfl (hS.2.1 2 _ rfl)) ⟨hX8.pins, hpk9.bx.reads, hq10⟩ ?_
 refine dT (i := 4) rfl rfl (by kernel_rfl) (fun _ _ => zB (v := (.int .i64 a)) rfl) ⟨hX8.pins, hpk9.bx.reads, hq10⟩ ?_
 refine dT (i := 5) rfl rfl (by kernel_rfl) (fun _ _ => zM Tryz.underlying65 sz3 (v := B) rfl rfl hr4 (by omega) (by omega)) ⟨hX8.pins, hpk9.bx.reads, hq10⟩ ?_
 refine dT (i := 6) rfl rfl (by kernel_rfl) (fun _ hS => zL (r := q.bs.getD (a).toNat 0) rfl ag3 (z := a) rfl hr4 hS.2.2 (by omega) (by omega)) ⟨hX8.pins, hpk9.bx.reads, hq10⟩ ?_
 refine dT (i := 7) rfl rfl (by kernel_rfl) (fun _ hS => zU (u := (.pointer (some ⟨p, 0, none⟩))) ag61 rfl (hS.1 _ _ _ (hbx 0 _ rfl))) ⟨hX8.pins, hpk9.bx.reads, hq10⟩ ?_
 refine dT (i := 8) rfl rfl (by kernel_rfl) (fun _ _ => xM rfl) ⟨hX8.pins, hpk9.bx.reads, hq10⟩ ?_
 refine dT (i := 9) rfl rfl (by kernel_rfl) (fun _ _ => zR (k := 2) rfl Tryz.underlying72 rfl nz65 rfl) ⟨hX8.pins, hpk9.bx.reads, hq10⟩ ?_
 refine dT (i := 10) rfl rfl (by kernel_rfl) (fun _ hS => zU (u := B) ag65 rfl (hS.2.1 2 _ rfl)) ⟨hX8.pins, hpk9.bx.reads, hq10⟩ ?_
 refine dT (i := 11) rfl rfl (by kernel_rfl) (fun _ _ => zB (v := (.int .i64 b)) rfl) ⟨hX8.pins, hpk9.bx.reads, hq10⟩ ?_
 refine dT (i := 12) rfl rfl (by kernel_rfl) (fun _ _ => zM Tryz.underlying65 sz3 (v := B) rfl rfl hr4 (by omega) (by omega)) ⟨hX8.pins, hpk9.bx.reads, hq10⟩ ?_
 refine dT (i := 13) rfl rfl (by kernel_rfl) (fun _ hS => zL (r := q.bs.getD (b).toNat 0) rfl ag3 (z := b) rfl hr4 hS.2.2 (by omega) (by omega)) ⟨hX8.pins, hpk9.bx.reads, hq10⟩ ?_
 refine zW (i := 14) (by kernel_rfl) (zY (i := 14) rfl rfl rfl (zI rfl _) (zO (vs := [(.int .i64 (q.bs.getD (a).toNat 0)), (.int .i64 (q.bs.getD (b).toNat 0))]) Tryz.func97 nm97 rfl rfl rfl ?_))
 refine Calls.mono (cmpCompare_spec hX8.pins) ?_
 rintro _ _ ⟨rfl, rfl⟩
 refine ⟨_, rfl, ?_⟩
 refine ⟨fun _ => ⟨hX8.pins, hpk9.bx.reads, hq10⟩, ?_⟩
 refine dT (i := 15) rfl rfl (by kernel_rfl) (fun _ _ => zC (v := (.int .i64 (cmpI (q.bs.getD (a).toNat 0) (q.bs.getD (b).toNat 0)))) rfl) ⟨hX8.pins, hpk9.bx.reads, hq10⟩ ?_
 refine yX (by kernel_rfl) ?_
 refine zA ?_
 refine wp_ret ?_
 refine zX ?_
 refine zT (v := (.int .i64 (cmpI (q.bs.getD (a).toNat 0) (q.bs.getD (b).toNat 0)))) rfl rfl rfl ?_
 exact ⟨rfl, grow_of hX8.below (by omega)⟩

theorem cmpE_spec {w : World} {G : Pin} {x y : Ent} (hP : Pins G w) (hx : EntOk G x) (hy : EntOk G y) :
  Calls Tryz.prog 119 [(.agg [(.int .i64 x.id), x.l, x.r].toArray), (.agg [(.int .i64 y.id), y.l, y.r].toArray)].toArray w fun e w' => e = .returned (.int .i64 (orL [cmpL x.nd.l y.nd.l, cmpL x.nd.r y.nd.r])) ∧ ∃ n os, w' = Go.Sort.grow (w.drewN n) os := by
 refine zZ (n := 21) Tryz.func119 Tryz.ntmps119 rfl rfl ?_
 have hX0 : Ext noS G w G w := Ext.refl hP
 refine zD (zH ?_)
 refine qI rfl (o_boxd [(.int .i64 x.id), x.l, x.r] (v := (.agg [(.int .i64 x.id), x.l, x.r].toArray)) rfl rfl hX0.pins (fun b1 w2 hdn7 hk3 hb4 hp5 hl6 => ?_))
 have hX8 := hX0.step hp5 hl6
 have hlo9 : w.heap.size ≤ b1 := by have := hX0.size; omega
 obtain ⟨G10, hle11, hX12, hbp13, hf14⟩ := hb4.shut hX8 hlo9
 refine qI rfl (o_boxd [(.int .i64 y.id), y.l, y.r] (v := (.agg [(.int .i64 y.id), y.l, y.r].toArray)) rfl rfl hX12.pins (fun b15 w16 hdn21 hk17 hb18 hp19 hl20 => ?_))
 have hX22 := hX12.step hp19 hl20
 have hlo23 : w.heap.size ≤ b15 := by have := hX12.size; omega
 obtain ⟨G24, hle25, hX26, hbp27, hf28⟩ := hb18.shut hX22 hlo23
 refine qD rfl (zC (v := (.int .i64 0)) rfl) ?_
 refine qe (zA (zD ?_))
 refine xJ (S := fun wz => Pins G24 wz) (last := 17) (by kernel_rfl) rfl ?_
 have hl29 : Below w16.heap.size w16 w16.drew := (Below.refl _ _).drew
 have hp30 := hX26.pins.below hl29
 have hdr31 : w16.drew.drawn = w16.drawn + 1 := rfl
 have hX32 := hX26.step hp30 hl29
 refine dT (i := 0) rfl rfl (by kernel_rfl) (fun _ _ => zR (k := 1) rfl Tryz.underlying124 rfl nz99 rfl) hX32.pins ?_
 refine dT (i := 1) rfl rfl (by kernel_rfl) (fun _ _ => zR (k := 1) rfl Tryz.underlying99 rfl nz65 rfl) hX32.pins ?_
 refine dT (i := 2) rfl rfl (by kernel_rfl) (fun _ hS => zU (u := x.l) ag65 rfl ((Pins.of_le hS hle25) _ _ _ (hbp13 1 _ rfl))) hX32.pins ?_
 refine dT (i := 3) rfl rfl (by kernel_rfl) (fun _ _ => zR (k := 1) rfl Tryz.underlying124 rfl nz99 rfl) hX32.pins ?_
 refine dT (i := 4) rfl rfl (by kernel_rfl) (fun _ _ => zR (k := 1) rfl Tryz.underlying99 rfl nz65 rfl) hX32.pins ?_
 refine dT (i := 5) rfl rfl (by kernel_rfl) (fun _ hS => zU (u := y.l) ag65 rfl (hS _ _ _ (hbp27 1 _ rfl))) hX32.pins ?_
 refine dT (i := 7) rfl rfl (by kernel_rfl) (fun _ _ => zR (k := 1) rfl Tryz.underlying124 rfl nz99 rfl) hX32.pins ?_
 refine dT (i := 8) rfl rfl (by kernel_rfl) (fun _ _ => zR (k := 2) rfl Tryz.underlying99 rfl nz65 rfl) hX32.pins ?_
 refine dT (i := 9) rfl rfl (by kernel_rfl) (fun _ hS => zU (u := x.r) ag65 rfl ((Pins.of_le hS hle25) _ _ _ (hbp13 2 _ rfl))) hX32.pins ?_
 refine dT (i := 10) rfl rfl (by kernel_rfl) (fun _ _ => zR (k := 1) rfl Tryz.underlying124 rfl nz99 rfl) hX32.pins ?_
 refine dT (i := 11) rfl rfl (by kernel_rfl) (fun _ _ => zR (k := 2) rfl Tryz.underlying99 rfl nz65 rfl) hX32.pins ?_
 refine dT (i := 12) rfl rfl (by kernel_rfl) (fun _ hS => zU (u := y.r) ag65 rfl (hS _ _ _ (hbp27 2 _ rfl))) hX32.pins ?_
 refine zW (i := 6) (by kernel_rfl) (zY (i := 6) rfl rfl rfl (zI rfl _) (zO (vs := [x.l, y.l]) Tryz.func98 nm98 rfl rfl rfl ?_))
 refine Calls.mono (slCompare_spec hX32.pins (hx.1.mono (Pin.le_trans hle11 hle25)) (hy.1.mono (Pin.le_trans hle11 hle25))) ?_
 rintro _ _ ⟨rfl, rfl⟩
 refine ⟨_, rfl, ?_⟩
 refine ⟨fun _ => hX32.pins, ?_⟩
 refine zW (i := 13) (by kernel_rfl) (zY (i := 13) rfl rfl rfl (zI rfl _) (zO (vs := [x.r, y.r]) Tryz.func98 nm98 rfl rfl rfl ?_))
 refine Calls.mono (slCompare_spec hX32.pins (hx.2.1.mono (Pin.le_trans hle11 hle25)) (hy.2.1.mono (Pin.le_trans hle11 hle25))) ?_
 rintro _ _ ⟨rfl, rfl⟩
 refine ⟨_, rfl, ?_⟩
 refine ⟨fun _ => hX32.pins, ?_⟩
 refine zW (i := 14) (by kernel_rfl) (zY (i := 14) rfl rfl rfl (zI rfl _) (o_buildFd (E := eInt) (e := 3) [(.int .i64 (cmpL x.nd.l y.nd.l)), (.int .i64 (cmpL x.nd.r y.nd.r))] [cmpL x.nd.l y.nd.l, cmpL x.nd.r y.nd.r] Tryz.underlying65 sz3 zr3 (by exact reps2 (by rfl) (by rfl)) (ones2 (by rfl) (by rfl)) rfl rfl rfl rfl (by decide) hX32.pins (fun u33 w34 hdn39 ho35 hp36 hl37 hk38 => ?_)))
 have hX40 := hX32.step hp36 hl37
 have ho41 : Own eInt 3 G24 w34 w.heap.size u33 ([cmpL x.nd.l y.nd.l, cmpL x.nd.r y.nd.r]) := ho35.weaken hX32.size
 refine ⟨fun _ => hX40.pins, ?_⟩
 obtain ⟨G42, hle45, hX44, hr43, hf46⟩ := ho41.sealed hX40
 refine zW (i := 15) (by kernel_rfl) (zY (i := 15) rfl rfl rfl (zI rfl _) (zO (vs := [u33]) Tryz.func96 nm96 rfl rfl rfl ?_))
 refine Calls.mono (cmpOr_spec hX44.pins hr43) ?_
 rintro _ _ ⟨rfl, rfl⟩
 refine ⟨_, rfl, ?_⟩
 refine ⟨fun _ => (Pins.of_le hX44.pins hle45), ?_⟩
 refine dT (i := 16) rfl rfl (by kernel_rfl) (fun _ _ => zC (v := (.int .i64 (orL ([cmpL x.nd.l y.nd.l, cmpL x.nd.r y.nd.r])))) rfl) (Pins.of_le hX44.pins hle45) ?_
 refine yX (by kernel_rfl) ?_
 refine zA ?_
 refine wp_ret ?_
 refine zX ?_
 refine zT (v := (.int .i64 (orL ([cmpL x.nd.l y.nd.l, cmpL x.nd.r y.nd.r])))) rfl rfl rfl ?_
 exact ⟨rfl, grow_of hX44.below (by omega)⟩

theorem sortB_spec {w : World} {G : Pin} {p : Nat} {L R B : Value} {mm : PM} {q : PSt} (hP : Pins G w) (hpk : Pk 65 3 G w p L R B mm q) (hok : PoolOk q) {bx base : Nat} (hbx : BxP G bx [.pointer (some ⟨p, 0, none⟩)]) {v : Value} {zs : List Int} (hv : Own eInt 3 G w base v zs) (hz : ∀ z ∈ zs, PlaceOk q z) (hnp : NP p L R B mm v.ownBlock) (hl : zs.length ≤ 1048576) :
  Calls Tryz.prog 115 [v, (.func (.func 116) #[] #[(.pointer (some ⟨bx, 0, none⟩))])].toArray w fun en w' => ∃ ys : List Int, en = .returned (.tuple #[]) ∧ Own eInt 3 G w' base v ys ∧ ys.Perm zs ∧ (∀ i j, i < j → j < ys.length → bn q (ys.getD i 0) ≤ bn q (ys.getD j 0)) ∧ Ext (inO v.ownBlock) G w G w' := by
 have hnone : ∀ a cap, v = .slice a 0 cap → zs = [] → Calls Tryz.prog 115 [v, (.func (.func 116) #[] #[(.pointer (some ⟨bx, 0, none⟩))])].toArray w fun en w' => ∃ ys : List Int, en = .returned (.tuple #[]) ∧ Own eInt 3 G w' base v ys ∧ ys.Perm zs ∧ (∀ i j, i < j → j < ys.length → bn q (ys.getD i 0) ≤ bn q (ys.getD j 0)) ∧ Ext (inO v.ownBlock) G w G w' := by
  rintro a cap rfl rfl
  refine (Tryz.slices_SortFunc_none (α := Int) a cap _ w).mono ?_
  rintro en w' ⟨rfl, rfl⟩
  exact ⟨[], rfl, hv, List.Perm.refl _, fun i j _ hj => absurd hj (Nat.not_lt_zero j), Ext.refl hP⟩
 rcases own_cases hv with ⟨hv0, hz0⟩ | ⟨g, cap, hvg⟩
 ·exact hnone _ _ hv0 hz0
 by_cases h0 : zs.length = 0
 ·exact hnone _ _ (by rw [hvg, h0]) (List.eq_nil_of_length_eq_zero h0)
 subst hvg
 letI : Inhabited (Plc q) := ⟨⟨zs.getD 0 0, hz _ (yU (by omega))⟩⟩
 obtain ⟨_, h1, h2, h3⟩ := own_holds hv
 obtain ⟨d, hd⟩ : ∃ d, d = (plcs q zs hz).toArray := ⟨_, rfl⟩
 have hdm : d.map (·.1) = zs.toArray := by rw [hd]; simp only [List.map_toArray]; rw [plcs_val hz]
 have hds : d.size = zs.length := by have := congrArg Array.size hdm; simpa using this
 have hH : Go.Sort.Holds (fun x : Plc q => Value.int .i64 x.1) w g 0 d := holds_map (enc' := Value.int .i64) (f := fun x : Plc q => x.1) (fun _ => rfl) (by rw [hdm]; exact h3)
 have hcmp : Go.Proofs.CmpLays1 Tryz.prog 116 #[(.pointer (some ⟨bx, 0, none⟩))] (fun x : Plc q => Value.int .i64 x.1) (cfB q) g 0 d.size w := fun m os dk hs x y => by
  have hgr : w.grownBy (Go.Proofs.sortWorld (fun x : Plc q => Value.int .i64 x.1) w g 0 m dk os) (some g) := by
   unfold Go.Proofs.sortWorld
   rw [putRow_map (enc := fun x : Plc q => Value.int .i64 x.1) (enc' := id) (f := fun x : Plc q => Value.int .i64 x.1) (fun _ => rfl)]
   exact grownBy_put
  have hx := Ext.one (hP.grown hgr (fun k hk => by cases hk; exact hv.free g rfl)) hgr
  exact cmpB_spec hx.pins (hpk.extS hx fun k hk hs => hnp k hs hk) hok hbx x.2 y.2
 have hcon := Tryz.slices_SortFunc (fun x : Plc q => Value.int .i64 x.1) (fun _ => rfl) (cfB q) (swoB q) 116 #[(.pointer (some ⟨bx, 0, none⟩))] g 0 cap d w (Go.Proofs.enters_of Tryz.func116 (by kernel_rfl) rfl) hcmp hH h1 (by omega)
 rw [hds] at hcon
 refine hcon.mono ?_
 rintro en w' ⟨rfl, d', n, os, hp, hs, hw⟩
 rw [← hds] at hp hs
 obtain ⟨hsz, hpl⟩ := perm_list hp
 have hyl : (d'.map (·.1)).toList.length = zs.length := by simp [hsz, hds]
 obtain ⟨a, b, c⟩ := own_put (w' := w') (ys := (d'.map (·.1)).toList) (d := d'.map (·.1)) (os := os) (m := n) hv hP (by rw [hw]; unfold Go.Proofs.sortWorld; rw [putRow_map (enc := fun x : Plc q => Value.int .i64 x.1) (enc' := Value.int .i64) (f := fun x : Plc q => x.1) (fun _ => rfl)]) (by simp [hsz, hds]) (List.take_length ..)
 rw [hyl] at a
 refine ⟨_, rfl, a, ?_, fun i j hij hj => ?_, Ext.one b c⟩
 ·have h5 := hpl.map (·.1)
  have e2 : d.toList.map (·.1) = zs := by rw [hd]; exact plcs_val hz
  rw [e2] at h5; simpa using h5
 ·rw [hyl] at hj
  have h5 := hs i j (Nat.zero_le _) hij (by omega)
  rw [ltB] at h5
  have g1 : ∀ i, i < zs.length → (d'.map (·.1)).toList.getD i 0 = (d'[i]!).1 := fun i hi => by
   rw [getElem!_pos d' i (by omega)]
   simp [List.getD, show i < d'.size by omega]
  rw [g1 i (by omega), g1 j hj]
  have := of_decide_eq_false h5
  omega

theorem sortE_spec {w : World} {G : Pin} {base lo hi : Nat} {v : Value} {es : List Ent} {LV : List Leaf} (hP : Pins G w) (hv : Own eEnt 124 G w base v es) (hL : Lvs 3 G w lo hi LV) (hm : ∀ x ∈ es, (x.l, x.nd.l) ∈ LV ∧ (x.r, x.nd.r) ∈ LV) (hap : ApL LV v.ownBlock) (hl : es.length ≤ 1048576) :
  Calls Tryz.prog 118 [v, (.func (.func 119) #[] #[])].toArray w fun en w' => ∃ ys : List Ent, en = .returned (.tuple #[]) ∧ Own eEnt 124 G w' base v ys ∧ ys.Perm es ∧ (∀ i j, i < j → j < ys.length → ¬ aheadI (ys.getD j default).nd (ys.getD i default).nd < 0) ∧ Ext (inO v.ownBlock) G w G w' := by
 have hnone : ∀ a cap, v = .slice a 0 cap → es = [] → Calls Tryz.prog 118 [v, (.func (.func 119) #[] #[])].toArray w fun en w' => ∃ ys : List Ent, en = .returned (.tuple #[]) ∧ Own eEnt 124 G w' base v ys ∧ ys.Perm es ∧ (∀ i j, i < j → j < ys.length → ¬ aheadI (ys.getD j default).nd (ys.getD i default).nd < 0) ∧ Ext (inO v.ownBlock) G w G w' := by
  rintro a cap rfl rfl
  refine (Tryz.slices_SortFunc_ent_none (α := Int) a cap _ w).mono ?_
  rintro en w' ⟨rfl, rfl⟩
  exact ⟨[], rfl, hv, List.Perm.refl _, fun i j _ hj => absurd hj (Nat.not_lt_zero j), Ext.refl hP⟩
 rcases own_casesF hv with ⟨hv0, hz0⟩ | ⟨g, cap, hvg⟩
 ·exact hnone _ _ hv0 hz0
 by_cases h0 : es.length = 0
 ·exact hnone _ _ (by rw [hvg, h0]) (List.eq_nil_of_length_eq_zero h0)
 subst hvg
 have hz : ∀ x ∈ es, EntOk (GLv G w LV) x := fun x hx => ⟨hL.read (hm x hx).1, hL.read (hm x hx).2, (hL.own _ (hm x hx).1).one, (hL.own _ (hm x hx).2).one⟩
 letI : Inhabited (EntS (GLv G w LV)) := ⟨⟨es.getD 0 default, hz _ (yU (by omega))⟩⟩
 obtain ⟨_, h1, cells, hcl, hr, hH0⟩ := own_cellsF hv
 obtain ⟨d, hd⟩ : ∃ d, d = (ents (GLv G w LV) es hz).toArray := ⟨_, rfl⟩
 have hdm : d.toList.map (·.1) = es := by rw [hd]; exact ents_val hz
 have hds : d.size = es.length := by have := congrArg List.length hdm; simpa using this
 have hdi : ∀ i, i < d.size → (d[i]!).1 = es.getD i default := fun i hi => by
  rw [getElem!_pos d i hi]
  have := congrArg (fun l : List Ent => l[i]?) hdm
  simp only [List.getElem?_map, Array.getElem?_toList, Array.getElem?_eq_getElem hi, Option.map_some] at this
  simp [List.getD, ← this]
 have hflat : Go.Sort.flatK (encE (G := GLv G w LV)) 3 d = cells.toArray := flatK_cells (by rw [hds]; exact hcl) fun i hi => by
  have h4 := hr i (es.getD i default) (by simp [List.getD, show i < es.length by omega])
  have h5 : (cells.drop (i * 3)).take 3 = [.int .i64 (es.getD i default).id, (es.getD i default).l, (es.getD i default).r] := h4.1
  rw [h5, ← hdi i hi]; rfl
 have hH : Go.Sort.HoldsK (encE (G := GLv G w LV)) 3 w g 0 d := by unfold Go.Sort.HoldsK; rw [hflat]; exact hH0
 have hcmp : Go.Proofs.CmpLays Tryz.prog 119 #[] (encE (G := GLv G w LV)) 3 cfE g 0 d.size w := fun m os dk hs x y => by
  have hgr : w.grownBy (Go.Proofs.sortWorldK (encE (G := GLv G w LV)) 3 w g 0 m dk os) (some g) := by
   unfold Go.Proofs.sortWorldK Go.Sort.putRowK
   exact grownBy_put
  have hpp : Pins (GLv G w LV) (Go.Proofs.sortWorldK (encE (G := GLv G w LV)) 3 w g 0 m dk os) := (GLv.pins hP).grown hgr fun k hk o u hG => by
   cases hk
   rcases hG with hG | ⟨⟨p, hp, hpo⟩, _⟩
   ·exact hv.free g rfl o u hG
   ·exact hap p hp g hpo rfl
  exact cmpE_spec hpp x.2 y.2
 have hcon := Tryz.slices_SortFunc_ent 3 (Go.GL.run_isAgg (by kernel_rfl)) (Go.GL.run_sizeOf (by kernel_rfl)) (encE (G := GLv G w LV)) (fun _ => rfl) (fun x u hu => by
  simp only [encE, List.mem_cons, List.not_mem_nil, or_false] at hu
  rcases hu with rfl | rfl | rfl
  ·rfl
  ·exact x.2.2.2.1
  ·exact x.2.2.2.2) cfE (swoE _) 119 #[] g 0 cap d w (Go.Proofs.enters_of Tryz.func119 (by kernel_rfl) rfl) hcmp hH h1 (by omega)
 rw [hds] at hcon
 refine hcon.mono ?_
 rintro en w' ⟨rfl, d', n, os, hp, hs, hw⟩
 rw [← hds] at hp hs
 obtain ⟨hsz, hpl⟩ := perm_list hp
 have hyl : (d'.toList.map (·.1)).length = es.length := by simp [hsz, hds]
 have g1 : ∀ i, i < es.length → (d'.toList.map (·.1)).getD i default = (d'[i]!).1 := fun i hi => by
  rw [getElem!_pos d' i (by omega)]
  simp [List.getD, show i < d'.size by omega]
 obtain ⟨a, b, c⟩ := own_putF (ys := d'.toList.map (·.1)) (F := Go.Sort.flatK (encE (G := GLv G w LV)) 3 d') (os := os) (m := n) hv hP hw (by rw [Go.Sort.size_flatK, hsz, hds]; rfl) hyl (fun i y hy => by
  have hi : i < es.length := by have := (List.getElem?_eq_some_iff.1 hy).1; omega
  have e1 := g1 i hi
  have e0 : (d'.toList.map (·.1)).getD i default = y := by rw [List.getD_eq_getElem?_getD, hy]; rfl
  have e2 : y = (d'[i]!).1 := e0.symm.trans e1
  have h5 := chunkK (enc := encE (G := GLv G w LV)) (k := 3) (fun _ => rfl) (d := d') (i := i) (by omega)
  refine ⟨h5.trans ?_, ?_, ?_⟩
  ·rw [e2]; rfl
  ·rw [e2]; exact (d'[i]!).2.2.2.1
  ·rw [e2]; exact (d'[i]!).2.2.2.2)
 refine ⟨_, rfl, a, ?_, fun i j hij hj => ?_, Ext.one b c⟩
 ·have h5 := hpl.map (·.1)
  rw [hdm] at h5; exact h5
 ·rw [hyl] at hj
  have h5 := hs i j (Nat.zero_le _) hij (by omega)
  rw [ltE] at h5
  rw [g1 i (by omega), g1 j hj]
  exact of_decide_eq_false h5

end SO1
end Go.Proofs.YtfnginkcmcfdfaaGreatDoor

set_option maxRecDepth 20000
set_option maxHeartbeats 2000000
namespace Go.Proofs.YtfnginkcmcfdfaaGreatDoor
namespace OD1
open Go.RowKit Go.GL Go.Proofs
open Go.Proofs.YtfnginkcmcfdfaaGreatDoor.B1
open Go.Proofs.YtfnginkcmcfdfaaGreatDoor.PO1
open Go.Proofs.YtfnginkcmcfdfaaGreatDoor.PA1
open Go.Proofs.YtfnginkcmcfdfaaGreatDoor.SO1








theorem mk3 : (Tryz.prog.info? 3).map (fun i => (i.size, i.bytes, i.zero)) = some (1, 8, some (.int .i64 0)) := by kernel_rfl
theorem mk99 : (Tryz.prog.info? 99).map (fun i => (i.size, i.bytes, i.zero)) = some (2, 48, some (.agg #[(.slice none 0 0), (.slice none 0 0)])) := by kernel_rfl









theorem pl124 : (Tryz.prog.underlying 124).bind (placesD Tryz.prog) = some [(0, 1), (1, 2)] := by kernel_rfl
theorem pl99 : (Tryz.prog.underlying 99).bind (placesD Tryz.prog) = some [(0, 1), (1, 1)] := by kernel_rfl







theorem ranked_spec {w : World} {G : Pin} {v : Value} {xs : List Int} {m : Nat} {rk : List (Int × Int)} (hP : Pins G w) (hv : RSl eInt G v xs) (hmp : Mp (fun k : Int => Value.int .i64 k) (fun v : Int => Value.int .i64 v) w m rk) (hs : xs.length ≤ 1048576) :
  Calls Tryz.prog 117 [v, (.map (some m))].toArray w fun e w' => ∃ (u : Value) (G' : Pin), e = .returned u ∧ Own eInt 3 G' w' w.heap.size u (sortM (xs.map (rkI rk))) ∧ Ext noS G w G' w' := by
 refine zZ (n := 28) Tryz.func117 Tryz.ntmps117 rfl rfl ?_
 have hX0 : Ext noS G w G w := Ext.refl hP
 have hm := hv.max
 have hal : (xs.map (rkI rk)).length = xs.length := List.length_map ..
 have hrl : (List.replicate xs.length (0 : Int)).length = xs.length := List.length_replicate
 refine zD (zH ?_)
 refine qD rfl (zC (v := (.slice none 0 0)) rfl) ?_
 refine qe (zA (zD (zH ?_)))
 refine qD rfl (zB (v := v) rfl) ?_
 refine qD rfl (zQ Tryz.underlying65 (v := v) rfl hv) ?_
 refine qI rfl (o_make (E := eInt) 0 8 (.int .i64 0) Tryz.underlying65 mk3 (fun _ => rfl) rfl rfl hX0.pins (by omega) (by omega) (by omega) (fun u1 w2 ho3 hp4 hl5 hk6 => ?_))
 have hX7 := hX0.step hp4 hl5
 have hm8 := hmp.below hl5
 have ho9 : Own eInt 3 G w2 w.heap.size u1 (List.replicate xs.length 0) := ho3.weaken hX0.size
 have hm10 : (List.replicate xs.length 0).length = xs.length := List.length_replicate ..
 refine qD rfl (zC (v := u1) rfl) ?_
 refine qe (zA (zD (zD (zH ?_))))
 refine qD rfl (zB (v := v) rfl) ?_
 refine qD rfl (zQ Tryz.underlying65 (v := v) rfl hv) ?_
 refine qD rfl (zB (v := (.int .i64 0)) rfl) ?_
 refine qe (zA ?_)
 refine yA ?_
 refine yS (fun (k : Nat) (en : Nat → Value) (W : World) => ∃ (env1 : Nat → Value) (j : Nat) (os : List Int), en = (upd (upd (upd (upd (upd (upd env1 1 (.map (some m))) 4 (.slice none 0 0)) 5 u1) 11 v) 12 (.int .i64 (xs.length : Int))) 13 (.int .i64 (j : Int))) ∧ k = xs.length - j ∧ Ext noS G w G W ∧ (j ≤ xs.length) ∧ (os = (xs.map (rkI rk)).take j ++ (List.replicate xs.length 0).drop j) ∧ (os.length = xs.length) ∧ (Own eInt 3 G W w.heap.size u1 (os)) ∧ (Mp (fun k : Int => Value.int .i64 k) (fun v : Int => Value.int .i64 v) W m (rk))) _ ⟨_, 0, List.replicate xs.length 0, (zG (x := 13) (zG (x := 12) (zG (x := 11) (zG (x := 5) (zG (x := 4) (zV (x := 1) rfl) rfl) rfl) rfl) rfl) rfl), rfl, hX7, Nat.zero_le _, rfl, hrl, ho9, hm8⟩ ?_
 rintro k11 _ w12 ⟨env1, j, os, rfl, hk13, hX14, hj, hr, hol, hw15, hm16⟩
 refine zD (zH ?_)
 refine qD rfl (yR rfl rfl) ?_
 refine qe (zA (zD ?_))
 refine yG (p := ((j : Int) : Int) < (xs.length : Int)) rfl rfl (fun h17 => ?_) (fun h17 => ?_)
 ·skip
  refine wp_skip ?_
  refine zA (zD ?_)
  refine yA ?_
  refine zD (zH ?_)
  refine qD rfl (zB (v := (.int .i64 (j : Int))) rfl) ?_
  refine qD rfl (zM Tryz.underlying65 sz3 (v := v) rfl rfl hv (by omega) (by omega)) ?_
  refine qD rfl (zL (r := xs.getD j 0) rfl ag3 (z := (j : Int)) rfl hv hX14.pins (by omega) (by omega)) ?_
  refine qD rfl (zC (v := (.int .i64 (j : Int))) rfl) ?_
  refine qD rfl (zC (v := (.int .i64 (xs.getD j 0))) rfl) ?_
  refine qe (zA (zH ?_))
  refine qD rfl (zB (v := u1) rfl) ?_
  refine qD rfl (zB (v := (.int .i64 (j : Int))) rfl) ?_
  refine qD rfl (zB (v := (.map (some m))) rfl) ?_
  refine qD rfl (zB (v := (.int .i64 (xs.getD j 0))) rfl) ?_
  refine qD rfl (run_look1_int (k := (xs.getD j 0)) (key_int Tryz.underlying3) Tryz.underlying69 zr3 hm16 rfl rfl) ?_
  refine qD rfl (zM Tryz.underlying65 sz3 (v := u1) rfl rfl hw15.read (by omega) (by omega)) ?_
  refine q0 rfl rfl rfl (o_set (E := eInt) (v := u1) (u := (.int .i64 ((Go.GL.look rk (xs.getD j 0)).getD 0))) (z := (j : Int)) ((Go.GL.look rk (xs.getD j 0)).getD 0) sz3 rfl rfl rfl rfl hX14.pins hw15 (by omega) (by omega) (fun w18 ho19 hp20 hg21 hz22 => ?_))
  have hX23 := hX14.write hp20 hg21 ((yH hw15))
  have hm24 := hm16.kept hg21 (yI hm16 hw15)
  refine qe ?_
  refine yN ?_
  refine zA (zH ?_)
  refine qD rfl (yT rfl rfl (by omega)) ?_
  refine qD rfl (zB (v := (.int .i64 ((j : Int) + 1))) rfl) ?_
  refine qe ?_
  refine yL ?_
  refine ⟨_, ?_, _, rfl, _, j + 1, (os).set j ((Go.GL.look rk (xs.getD j 0)).getD 0), (zG (x := 13) (zG (x := 12) (zG (x := 11) (zG (x := 5) (zG (x := 4) (zV (x := 1) rfl) rfl) rfl) rfl) rfl) rfl), rfl, hX23, (by omega), (by rw [hr]; exact cur_set 0 (by omega) (by omega) (rk_getD (by omega))), ((List.length_set ..).trans hol), ho19, hm24⟩
  omega
 refine wp_exit ?_
 refine yD ?_
 refine yP ?_
 refine yO ?_
 refine zA (zD (zH ?_))
 refine qD rfl (zB (v := u1) rfl) ?_
 refine qI rfl (zO (vs := [u1]) Tryz.func152 nm152 rfl rfl rfl ?_)
 refine Calls.mono (sortI_spec hX14.pins hw15 (by omega)) ?_
 rintro _ w26 ⟨G25, rfl, ho27, hx28⟩
 refine ⟨_, rfl, ?_⟩
 have hX29 := hX14.trans hx28 (fun i hi => (yH hw15) i hi)
 have hm31 := sortM_length os
 refine qe (zA (zD (zH ?_)))
 refine qD rfl (zB (v := u1) rfl) ?_
 refine qD rfl (zC (v := u1) rfl) ?_
 refine qe (zA ?_)
 refine wp_ret ?_
 refine zX ?_
 refine zT (v := u1) rfl rfl rfl ?_
 rw [cur_end (by omega) (by omega)] at hr
 exact ⟨_, _, rfl, (by rw [← hr]; exact ho27), hX29⟩

theorem order_spec {w : World} {G : Pin} {p : Nat} {L R B : Value} {mm : PM} {q : PSt} (hP : Pins G w) (hpk : Pk 65 3 G w p L R B mm q) (hok : PoolOk q) {x : Value} {xs : List Int} (hx : RSl eInt G x xs) (hr : ∀ i, i < xs.length → PlaceOk q (xs.getD i 0)) (hxl : xs.length ≤ 1048576) :
  Calls Tryz.prog 66 [(.pointer (some ⟨p, 0, none⟩)), x].toArray w fun e w' => ∃ (u v : Value) (ls : List Int) (ns : List Nd) (zs : List Int) (G' : Pin), e = .returned (.tuple #[u, v]) ∧ Own eInt 3 G' w' w.heap.size u ls ∧ DForm 99 3 G' w' w.heap.size w'.heap.size v ns ∧ OrI q zs ls ls.length ns ∧ PtOk q xs zs zs.length ∧ Ext noS G w G' w' := by
 refine zZ (n := 122) Tryz.func66 Tryz.ntmps66 rfl rfl ?_
 have hX0 : Ext noS G w G w := Ext.refl hP
 have hpin : PIn w (inP p L R B mm) p L R B mm := PIn.self
 have hml1 : (q.ns.map Nd.l).length = q.ns.length ∧ (q.ns.map Nd.r).length = q.ns.length := ⟨List.length_map .., List.length_map ..⟩
 have hml2 : q.bs.length = q.ns.length ∧ q.ns.length ≤ 1048576 := ⟨hok.ar.ok.len, hok.ar.ok.lim⟩
 have hlv0 : Lvs 3 G w w.heap.size w.heap.size [] := Lvs.nil
 have hm := hx.max
 refine zD (zH ?_)
 refine qI rfl (xT [(.pointer (some ⟨p, 0, none⟩))] (v := (.pointer (some ⟨p, 0, none⟩))) rfl rfl hX0.pins (fun b3 w4 hk5 hb6 hp7 hl8 => ?_))
 have hX9 := hX0.step hp7 hl8
 have hlv10 := (hlv0.below hl8).top
 have hpk11 := hpk.below hl8 hp7
 have ha16 : ApL [] (some b3) := ApL.fresh hlv0 (fun k hk => by rw [(congrArg some hk5)] at hk; cases hk; exact Nat.le_refl _)
 have ha17 := hpk.new (x := (some b3)) (fun k hk => by rw [(congrArg some hk5)] at hk; cases hk; exact Nat.le_refl _)
 have hlo18 : w.heap.size ≤ b3 := by have := hX0.size; omega
 obtain ⟨G19, hle20, hX21, hbp22, hf23⟩ := hb6.shut hX9 hlo18
 have hlv24 := hlv10.more hle20 hf23 ha16
 have hpk25 := hpk11.more hle20 hf23 ha17
 refine qD rfl (zC (v := (.slice none 0 0)) rfl) ?_
 refine qD rfl (zC (v := (.slice none 0 0)) rfl) ?_
 refine qe (zA (zD (zH ?_)))
 refine qD rfl (zU (u := (.pointer (some ⟨p, 0, none⟩))) ag61 rfl (hX21.pins _ _ _ (hbp22 0 _ rfl))) ?_
 refine qD rfl (zB (v := x) rfl) ?_
 refine qI rfl (zO (vs := [(.pointer (some ⟨p, 0, none⟩)), x]) Tryz.func103 nm103 rfl rfl rfl ?_)
 refine Calls.mono (parts_spec hX21.pins hpk25 hok (hx.mono hle20) hr hxl) ?_
 rintro _ w29 ⟨u26, zs27, G28, rfl, ho30, hpt31, hx32⟩
 refine ⟨_, rfl, ?_⟩
 have hX33 := hX21.tr hx32
 have hlv34 := (hlv24.ext hx32).top
 have hpk35 := hpk25.ext hx32
 have ha36 : ApL [] u26.ownBlock := ApL.fresh hlv24 (fun k hk => (ho30.lt k hk).1)
 have hnp37 := hpk25.new (x := u26.ownBlock) (fun k hk => (ho30.lt k hk).1)
 have ho38 : Own eInt 3 G28 w29 w.heap.size u26 zs27 := ho30.weaken hX21.size
 have hql39 := hpt31.len
 refine qD rfl (zC (v := u26) rfl) ?_
 refine qe (zA (zD (zH ?_)))
 refine qD rfl (zB (v := u26) rfl) ?_
 refine qD rfl (r_makeFunc [(.pointer (some ⟨b3, 0, none⟩))] rfl) ?_
 refine qI rfl (zO (vs := [u26, (.func (.func 116) #[] #[(.pointer (some ⟨b3, 0, none⟩))])]) Tryz.func115 nm115 rfl rfl rfl ?_)
 refine Calls.mono (sortB_spec hX33.pins hpk35 hok (hbp22.mono hx32.le) ho38 hpt31.pl hnp37 (by omega)) ?_
 rintro _ w41 ⟨ys40, rfl, ho42, hperm43, hsrt44, hx45⟩
 refine ⟨_, rfl, ?_⟩
 have hX46 := hX33.trans hx45 (fun i hi => (yH ho38) i hi)
 have hlv47 := Lvs.turned hlv34 hx45 ha36
 have hpk48 := hpk35.extS hx45 (fun k hk hx => hnp37 k hx hk)
 have hm49 := hperm43.length_eq
 refine qe (zA (zD (zH ?_)))
 refine qI rfl (o_makeMap (fun k : Int => Value.int .i64 k) (fun v : Int => Value.int .i64 v) hX46.pins (fun m50 w51 hk52 hm53 hp54 hl55 => ?_))
 have hX56 := hX46.step hp54 hl55
 have ho57 := ho42.below hl55
 have hlv58 := (hlv47.below hl55).top
 have hpk59 := hpk48.below hl55 hp54
 have hnp60 := hpk48.new (x := some m50) (fun k hk => by cases hk; omega)
 have hlo61 : w.heap.size ≤ m50 := by have := hX46.size; omega
 refine qD rfl (zC (v := (.map (some m50))) rfl) ?_
 refine qe (zA (zD (zH ?_)))
 refine qD rfl (zB (v := u26) rfl) ?_
 refine qD rfl (zQ Tryz.underlying65 (v := u26) rfl ho57.read) ?_
 refine qI rfl (o_make0 (E := eVal2) Tryz.underlying30 mk99 rfl rfl hX56.pins (by omega) (by omega) (by omega) (fun u62 w63 ho64 hp65 hl66 hk67 => ?_))
 have hX68 := hX56.step hp65 hl66
 have ho69 := ho57.below hl66
 have hlv70 := (hlv58.below hl66).top
 have hm71 := hm53.below hl66
 have hpk72 := hpk59.below hl66 hp65
 have ha73 : Apart u62.ownBlock u26.ownBlock := zK hk67 ho57.lt
 have ha78 : ApL [] u62.ownBlock := ApL.fresh hlv58 (fun k hk => by rw [hk67] at hk; cases hk; exact Nat.le_refl _)
 have ha79 := hpk59.new (x := u62.ownBlock) (fun k hk => by rw [hk67] at hk; cases hk; exact Nat.le_refl _)
 have ho80 : Own eVal2 99 G28 w63 w.heap.size u62 ([]) := ho64.weaken hX56.size
 refine qD rfl (zC (v := u62) rfl) ?_
 refine qe (zA (zD (zD (zH ?_))))
 refine qD rfl (zC (v := (.int .i64 0)) rfl) ?_
 refine qe (zA ?_)
 refine yA ?_
 refine yS (fun (k : Nat) (en : Nat → Value) (W : World) => ∃ (env1 : Nat → Value) (n : Nat) (nv : Value) (done : List Ent) (ps : List (Value × Value)) (rk : List (Int × Int)) (LV : List Leaf) (ls : List Int) (GL1 : Pin), en = (upd (upd (upd (upd (upd (upd (upd env1 2 (.pointer (some ⟨b3, 0, none⟩))) 4 (.slice none 0 0)) 5 (.slice none 0 0)) 6 u26) 7 (.map (some m50))) 8 nv) 9 (.int .i64 (n : Int))) ∧ k = ls.length - n ∧ Ext noS G w GL1 W ∧ Pin.le G28 GL1 ∧ (OrI q zs27 ls n (done.map Ent.nd)) ∧ (RkOk ls n rk) ∧ (LV.Perm (lvE done)) ∧ (ps = done.map Ent.pr) ∧ (Own eInt 3 GL1 W w.heap.size u26 (ls)) ∧ (Own eVal2 99 GL1 W w.heap.size nv (ps)) ∧ (Apart u26.ownBlock nv.ownBlock) ∧ (Lvs 3 GL1 W w.heap.size W.heap.size LV) ∧ (ApL LV u26.ownBlock) ∧ (ApL LV nv.ownBlock) ∧ (Mp (fun k : Int => Value.int .i64 k) (fun v : Int => Value.int .i64 v) W m50 (rk)) ∧ (Pk 65 3 GL1 W p L R B mm q) ∧ (NP p L R B mm nv.ownBlock)) _ ⟨_, 0, u62, [], [], [], [], ys40, G28, (zG (x := 9) (zG (x := 8) (zG (x := 7) (zG (x := 6) (zG (x := 5) (zG (x := 4) (zV (x := 2) rfl) rfl) rfl) rfl) rfl) rfl) rfl), rfl, hX68, Pin.le_refl _, (OrI.start hperm43 hsrt44), (fun i hi => absurd hi (Nat.not_lt_zero i)), (List.Perm.refl _), rfl, ho69, ho80, ha73.symm, hlv70, ha36, ha78, hm71, hpk72, ha79⟩ ?_
 rintro k85 _ w86 ⟨env1, n, nv, done, ps, rk, LV, ls, GL1, rfl, hk87, hX88, hlek85, hor, hrk, hLV, hps, hw89, hw90, ha91, hlv92, ha93, ha94, hm95, hpk96, hnp97⟩
 have hll := hor.perm.length_eq
 have hnl := hor.nl
 have hdl : done.length = n := by have := hor.len; simpa using this
 have hpsl : ps.length = n := by rw [hps, List.length_map]; exact hdl
 have hplk : ∀ i, i < ls.length → 0 ≤ ls.getD i 0 ∧ ls.getD i 0 < q.ns.length := fun i hi => hpt31.pl _ (hor.mem.1 (yU hi))
 refine zD (zD (zH ?_))
 refine qD rfl (zB (v := (.int .i64 (n : Int))) rfl) ?_
 refine qD rfl (zB (v := u26) rfl) ?_
 refine qD rfl (zQ Tryz.underlying65 (v := u26) rfl hw89.read) ?_
 refine qD rfl (yR rfl rfl) ?_
 refine qe (zA ?_)
 refine yG (p := ((n : Int) : Int) < (ls.length : Int)) rfl rfl (fun h98 => ?_) (fun h98 => ?_)
 ·skip
  have hzn := hplk n (by omega)
  refine wp_skip ?_
  refine zA ?_
  refine yA ?_
  refine zD (zH ?_)
  refine qI rfl (xH (E := eEnt) (e := 124) Tryz.underlying121 sz124 hX88.pins (fun u99 w100 ho101 hp102 hl103 hk104 => ?_))
  have hX105 := hX88.step hp102 hl103
  have ho106 := hw89.below hl103
  have ho107 := hw90.below hl103
  have hlv108 := (hlv92.below hl103).top
  have hm109 := hm95.below hl103
  have hpk110 := hpk96.below hl103 hp102
  have ha111 : Apart u99.ownBlock u26.ownBlock := zK hk104 hw89.lt
  have ha112 : Apart u99.ownBlock nv.ownBlock := zK hk104 hw90.lt
  have ha117 : ApL LV u99.ownBlock := ApL.fresh hlv92 (fun k hk => by rw [hk104] at hk; cases hk; exact Nat.le_refl _)
  have ha118 := hpk96.new (x := u99.ownBlock) (fun k hk => by rw [hk104] at hk; cases hk; exact Nat.le_refl _)
  have ho119 : Own eEnt 124 GL1 w100 w.heap.size u99 ([]) := ho101.weaken hX88.size
  refine qD rfl (zC (v := u99) rfl) ?_
  refine qe (zA (zD (zD (zH ?_))))
  refine qD rfl (zB (v := (.int .i64 (n : Int))) rfl) ?_
  refine qD rfl (zC (v := (.int .i64 (n : Int))) rfl) ?_
  refine qe (zA ?_)
  refine yA ?_
  refine c_cutE (fun (en : Nat → Value) (W : World) => ∃ (env1 : Nat → Value) (kk : Nat) (gv : Value) (gs : List Ent) (LV2 : List Leaf) (GL2 : Pin), en = (upd (upd (upd (upd (upd (upd (upd (upd (upd env1 2 (.pointer (some ⟨b3, 0, none⟩))) 4 (.slice none 0 0)) 5 (.slice none 0 0)) 6 u26) 7 (.map (some m50))) 8 nv) 9 (.int .i64 (n : Int))) 10 gv) 11 (.int .i64 (kk : Int))) ∧ Ext noS G w GL2 W ∧ Pin.le GL1 GL2 ∧ (kk = n + gs.length) ∧ (GrI q ls n (gs.map Ent.gn)) ∧ (LV2.Perm (lvE done ++ lvE gs)) ∧ (n + gs.length = ls.length ∨ bn q (ls.getD (n + gs.length) 0) ≠ bn q (ls.getD n 0)) ∧ (Own eEnt 124 GL2 W w.heap.size gv (gs)) ∧ (Own eInt 3 GL2 W w.heap.size u26 (ls)) ∧ (Own eVal2 99 GL2 W w.heap.size nv (ps)) ∧ (Apart gv.ownBlock u26.ownBlock) ∧ (Apart gv.ownBlock nv.ownBlock) ∧ (Lvs 3 GL2 W w.heap.size W.heap.size LV2) ∧ (ApL LV2 gv.ownBlock) ∧ (ApL LV2 u26.ownBlock) ∧ (ApL LV2 nv.ownBlock) ∧ (Mp (fun k : Int => Value.int .i64 k) (fun v : Int => Value.int .i64 v) W m50 (rk)) ∧ (Pk 65 3 GL2 W p L R B mm q) ∧ (NP p L R B mm gv.ownBlock)) 2 ?_ ?_
  ·rintro _ w125 ⟨env1, kk, gv, gs, LV2, GL2, rfl, hX127, hlek124, hkk, hgr, hLV2, hend, hw128, hw129, hw130, ha131, ha132, hlv133, ha134, ha135, ha136, hm137, hpk138, hnp139⟩
   have hgl := hgr.le
   rw [List.length_map] at hgl
   have hg1 : 0 < gs.length := Nat.pos_of_ne_zero fun h => hend.elim (fun e => by omega) (fun e => by rw [h] at e; exact e rfl)
   refine yO ?_
   refine zA (zD (zH ?_))
   refine qD rfl (zB (v := gv) rfl) ?_
   refine qI rfl (zO (vs := [gv, (.func (.func 119) #[] #[])]) Tryz.func118 nm118 rfl rfl rfl ?_)
   refine Calls.mono (sortE_spec hX127.pins hw128 hlv133 (fun x hx => ⟨hLV2.mem_iff.2 (List.mem_append_right _ (lvE_mem hx).1), hLV2.mem_iff.2 (List.mem_append_right _ (lvE_mem hx).2)⟩) ha134 (by omega)) ?_
   rintro _ w141 ⟨gs140, rfl, ho142, hperm143, hasc144, hx145⟩
   refine ⟨_, rfl, ?_⟩
   have hX146 := hX127.trans hx145 (fun i hi => (yH hw128) i hi)
   have ho147 := hw129.extS hx145 (notO ha131.symm)
   have ho148 := hw130.extS hx145 (notO ha132.symm)
   have hlv149 := Lvs.turned hlv133 hx145 ha134
   have hm150 := hm137.extS hx145 (notOb (yI hm137 hw128))
   have hpk151 := hpk138.extS hx145 (fun k hk hx => hnp139 k hx hk)
   have hm152 := hperm143.length_eq
   refine qe (zA (zD (zD (zH ?_))))
   refine qD rfl (zB (v := gv) rfl) ?_
   refine qD rfl (zQ Tryz.underlying121 (v := gv) rfl ho142.read) ?_
   refine qD rfl (zB (v := (.int .i64 0)) rfl) ?_
   refine qe (zA ?_)
   refine yA ?_
   have hgp : (gs140.map Ent.gn).Perm (gs.map Ent.gn) := hperm143.map _
   have hgl2 : n + gs140.length ≤ ls.length := by omega
   have hRl : (regroup ls n (gs140.map Ent.gn)).length = ls.length := regroup_length (by rw [List.length_map]; omega)
   have hRn : (regroup ls n (gs140.map Ent.gn)).Nodup := (regroup_perm hgr hgp).nodup_iff.2 (hor.perm.nodup_iff.2 hpt31.nd)
   refine yS (fun (k : Nat) (en : Nat → Value) (W : World) => ∃ (env1 : Nat → Value) (j : Nat) (nv3 : Value) (ls3 : List Int) (ps3 : List (Value × Value)) (rk3 : List (Int × Int)) (GL3 : Pin), en = (upd (upd (upd (upd (upd (upd (upd (upd (upd (upd (upd env1 2 (.pointer (some ⟨b3, 0, none⟩))) 4 (.slice none 0 0)) 5 (.slice none 0 0)) 6 u26) 7 (.map (some m50))) 8 nv3) 9 (.int .i64 (n : Int))) 10 gv) 90 gv) 91 (.int .i64 (gs140.length : Int))) 92 (.int .i64 (j : Int))) ∧ k = gs140.length - j ∧ Ext noS G w GL3 W ∧ Pin.le GL2 GL3 ∧ (j ≤ gs140.length) ∧ (ls3 = ls.take n ++ (gs140.take j).map Ent.id ++ ls.drop (n + j)) ∧ (RkOk (regroup ls n (gs140.map Ent.gn)) (n + j) rk3) ∧ (ps3 = (done ++ gs140.take j).map Ent.pr) ∧ (Own eInt 3 GL3 W w.heap.size u26 (ls3)) ∧ (Own eVal2 99 GL3 W w.heap.size nv3 (ps3)) ∧ (Own eEnt 124 GL3 W w.heap.size gv (gs140)) ∧ (Apart u26.ownBlock nv3.ownBlock) ∧ (Apart nv3.ownBlock gv.ownBlock) ∧ (Lvs 3 GL3 W w.heap.size W.heap.size LV2) ∧ (ApL LV2 u26.ownBlock) ∧ (ApL LV2 nv3.ownBlock) ∧ (ApL LV2 gv.ownBlock) ∧ (Mp (fun k : Int => Value.int .i64 k) (fun v : Int => Value.int .i64 v) W m50 (rk3)) ∧ (Pk 65 3 GL3 W p L R B mm q) ∧ (NP p L R B mm nv3.ownBlock)) _ ⟨_, 0, nv, ls, ps, rk, GL2, (zG (x := 92) (zG (x := 91) (zG (x := 90) (zG (x := 10) (zG (x := 9) (zG (x := 8) (zG (x := 7) (zG (x := 6) (zG (x := 5) (zG (x := 4) (zV (x := 2) rfl) rfl) rfl) rfl) rfl) rfl) rfl) rfl) rfl) rfl) rfl), rfl, hX146, Pin.le_refl _, Nat.zero_le _, (by simp), (hrk.reg hgl2), (by rw [List.take_zero, List.append_nil]; exact hps), ho147, ho148, ho142, ha91, ha132.symm, hlv149, ha135, ha136, ha134, hm150, hpk151, hnp97⟩ ?_
   rintro k157 _ w158 ⟨env1, j, nv3, ls3, ps3, rk3, GL3, rfl, hk159, hX160, hlek157, hj, hls3, hrk3, hps3, hw161, hw162, hw163, ha164, ha165, hlv166, ha167, ha168, ha169, hm170, hpk171, hnp172⟩
   have hl3 : ls3.length = ls.length := by rw [hls3]; simp; omega
   have hps3l : ps3.length = n + j := by rw [hps3]; simp; omega
   refine zD (zH ?_)
   refine qD rfl (yR rfl rfl) ?_
   refine qe (zA (zD ?_))
   refine yG (p := ((j : Int) : Int) < (gs140.length : Int)) rfl rfl (fun h173 => ?_) (fun h173 => ?_)
   ·skip
    refine wp_skip ?_
    refine zA (zD ?_)
    refine yA ?_
    refine zD (zH ?_)
    refine qD rfl (zB (v := (.int .i64 (j : Int))) rfl) ?_
    refine qD rfl (zM Tryz.underlying121 sz124 (v := gv) rfl rfl hw163.read (by omega) (by omega)) ?_
    obtain ⟨cs174, hrep175, hagg176, hcell177⟩ := nm_el (j := j) default (hw163.at (z := (j : Int)) (by omega) (by omega)) rfl
    obtain ⟨rfl, hone178, hone179⟩ := hrep175
    refine qD rfl (hagg176 ag124 sz124 rfl (Gadd.pins hX160.pins gv)) ?_
    refine qI rfl (xA [(.int .i64 0), (.slice none 0 0), (.slice none 0 0)] zr124 rfl hX160.pins (fun b180 w181 hk182 hb183 hp184 hl185 => ?_))
    have hX186 := hX160.step hp184 hl185
    have ho187 := hw161.below hl185
    have ho188 := hw162.below hl185
    have ho189 := hw163.below hl185
    have hlv190 := (hlv166.below hl185).top
    have hm191 := hm170.below hl185
    have hpk192 := hpk171.below hl185 hp184
    have ha193 : Apart (some b180) u26.ownBlock := zK (congrArg some hk182) hw161.lt
    have ha194 : Apart (some b180) nv3.ownBlock := zK (congrArg some hk182) hw162.lt
    have ha195 : Apart (some b180) gv.ownBlock := zK (congrArg some hk182) hw163.lt
    have ha200 : ApL LV2 (some b180) := ApL.fresh hlv166 (fun k hk => by rw [(congrArg some hk182)] at hk; cases hk; exact Nat.le_refl _)
    have ha201 := hpk171.new (x := (some b180)) (fun k hk => by rw [(congrArg some hk182)] at hk; cases hk; exact Nat.le_refl _)
    have hlo202 : w.heap.size ≤ b180 := by have := hX160.size; omega
    refine qD rfl (zC (v := (.int .i64 (j : Int))) rfl) ?_
    refine q0 rfl rfl rfl (xF (cs' := [(.int .i64 ((gs140.getD j default).id)), (gs140.getD j default).l, (gs140.getD j default).r]) (us := [(.int .i64 ((gs140.getD j default).id)), (gs140.getD j default).l, (gs140.getD j default).r]) (v := (.agg [(.int .i64 ((gs140.getD j default).id)), (gs140.getD j default).l, (gs140.getD j default).r].toArray)) sz124 rfl rfl rfl (ones3 (by rfl) hone178 hone179) hX186.pins hb183 (Nat.le_of_ble_eq_true rfl) rfl (fun w203 hb204 hp205 hg206 hz207 => ?_))
    have hX208 := hX186.write hp205 hg206 ((yV hlo202))
    have ho209 := ho187.keptA hg206 ha193.symm
    have ho210 := ho188.keptA hg206 ha194.symm
    have ho211 := ho189.keptA hg206 ha195.symm
    have hlv212 := (hlv190.kept hg206 ha200).top
    have hm213 := hm191.kept hg206 (xG hm191 hb183)
    have hpk214 := hpk192.kept hg206 hp205 ha201
    obtain ⟨G215, hle216, hX217, hbp218, hf219⟩ := hb204.shut hX208 hlo202
    have ho220 := ho209.moreA hle216 hf219 ha193.symm
    have ho221 := ho210.moreA hle216 hf219 ha194.symm
    have ho222 := ho211.moreA hle216 hf219 ha195.symm
    have hlv223 := hlv212.more hle216 hf219 ha200
    have hpk224 := hpk214.more hle216 hf219 ha201
    refine qe (zA (zD (zH ?_)))
    refine qD rfl (zB (v := u26) rfl) ?_
    refine qD rfl (zB (v := (.int .i64 (n : Int))) rfl) ?_
    refine qD rfl (zB (v := (.int .i64 (j : Int))) rfl) ?_
    refine qD rfl (yT rfl rfl (by omega)) ?_
    refine qD rfl (zR (k := 0) rfl Tryz.underlying124 rfl nz3 rfl) ?_
    refine qD rfl (zU (u := (.int .i64 ((gs140.getD j default).id))) ag3 rfl (hX217.pins _ _ _ (hbp218 0 _ rfl))) ?_
    refine qD rfl (zM Tryz.underlying65 sz3 (v := u26) rfl rfl ho220.read (by omega) (by omega)) ?_
    refine q0 rfl rfl rfl (o_set (E := eInt) (v := u26) (u := (.int .i64 ((gs140.getD j default).id))) (z := ((n : Int) + (j : Int))) ((gs140.getD j default).id) sz3 rfl rfl rfl rfl hX217.pins ho220 (by omega) (by omega) (fun w225 ho226 hp227 hg228 hz229 => ?_))
    have hX230 := hX217.write hp227 hg228 ((yH ho220))
    have ho231 := ho221.keptA hg228 ha164.symm
    have ho232 := ho222.keptA hg228 ha131
    have hlv233 := (hlv223.kept hg228 ha167).top
    have hm234 := hm213.kept hg228 (yI hm213 ho220)
    have hpk235 := hpk224.kept hg228 hp227 hnp37
    refine qe (zA (zD (zH ?_)))
    refine qD rfl (zB (v := (.map (some m50))) rfl) ?_
    refine qD rfl (zR (k := 0) rfl Tryz.underlying124 rfl nz3 rfl) ?_
    refine qD rfl (zU (u := (.int .i64 ((gs140.getD j default).id))) ag3 rfl (hX230.pins _ _ _ (hbp218 0 _ rfl))) ?_
    refine qD rfl (zB (v := (.int .i64 (n : Int))) rfl) ?_
    refine qD rfl (zB (v := (.int .i64 (j : Int))) rfl) ?_
    refine qD rfl (yT rfl rfl (by omega)) ?_
    refine q0 rfl rfl rfl (o_mapUpdate (val := (fun v : Int => Value.int .i64 v)) (k := ((gs140.getD j default).id)) (v := ((n : Int) + (j : Int))) (key_int Tryz.underlying3) Tryz.underlying69 rfl rfl rfl hX230.pins hm234 (fun w236 hm237 hp238 hg239 hz240 => ?_))
    have hX241 := hX230.write hp238 hg239 ((yV hlo61))
    have ho242 := ho226.keptA hg239 (yI hm234 ho226).symm
    have ho243 := ho231.keptA hg239 (yI hm234 ho231).symm
    have ho244 := ho232.keptA hg239 (yI hm234 ho232).symm
    have hlv245 := (hlv233.kept hg239 (fun p hp => (yI hm234 (hlv233.own p hp)).symm)).top
    have hpk246 := hpk235.kept hg239 hp238 hnp60
    refine qe (zA (zH ?_))
    refine qD rfl (zB (v := nv3) rfl) ?_
    refine qD rfl (zR (k := 1) rfl Tryz.underlying124 rfl nz99 rfl) ?_
    refine qD rfl (xD (cs := [(gs140.getD j default).l, (gs140.getD j default).r]) ag99 sz99 rfl (fun j u hj => hX241.pins _ _ _ (hbp218 _ _ (by rw [Nat.add_comm]; simpa using hj)))) ?_
    refine qI rfl (qK (E := eVal2) (e := 99) [(gs140.getD j default).l, (gs140.getD j default).r] (((gs140.getD j default).l, (gs140.getD j default).r) : Value × Value) Tryz.underlying30 sz99 zr99 ⟨rfl, hone178, hone179⟩ rfl (by decide) hX241.pins (fun u247 w248 ho249 hp250 hl251 hk252 => ?_))
    have hX253 := hX241.step hp250 hl251
    have ho254 := ho242.below hl251
    have ho255 := ho243.below hl251
    have ho256 := ho244.below hl251
    have hlv257 := (hlv245.below hl251).top
    have hm258 := hm237.below hl251
    have hpk259 := hpk246.below hl251 hp250
    have ho269 : Own eVal2 99 G215 w248 w.heap.size u247 ([(((gs140.getD j default).l, (gs140.getD j default).r) : Value × Value)]) := ho249.weaken hX241.size
    refine qI rfl (yC (E := eVal2) (v := nv3) (u := u247) 48 Tryz.underlying30 ap99 (by decide) rfl rfl hX253.pins ho255 ho269.src (by first | omega | (rw [List.nil_append]; omega) | (rw [List.length_nil]; omega) | (rw [List.length_append]; omega) | (simp; done) | (simp; omega) | (simp only [List.length_append, List.length_cons, List.length_nil]; omega)) (by first | omega | (rw [List.nil_append]; omega) | (rw [List.length_nil]; omega) | (rw [List.length_append]; omega) | (simp; done) | (simp; omega) | (simp only [List.length_append, List.length_cons, List.length_nil]; omega)) (hX253.size) (fun u270 w271 ho272 hp273 hg274 hw275 => ?_))
    have hX276 := hX253.write hp273 hg274 ((yH ho255))
    have ho277 := ho254.keptA hg274 ha164
    have ho278 := ho256.keptA hg274 ha165.symm
    have hlv280 := (hlv257.kept hg274 ha168).top
    have hm281 := hm258.kept hg274 (yI hm258 ho255)
    have hpk282 := hpk259.kept hg274 hp273 hnp172
    have ha283 : Apart u26.ownBlock u270.ownBlock := zJ ha164 hw275 ho254.lt
    have ha284 : Apart gv.ownBlock u270.ownBlock := zJ ha165.symm hw275 ho256.lt
    have ha286 : ApL LV2 u270.ownBlock := ApL.app hlv257 ha168 hw275
    have hnp287 := np_app hnp172 hpk259 hw275
    have hm288 : (ps3 ++ ([(((gs140.getD j default).l, (gs140.getD j default).r) : Value × Value)])).length = ps3.length + 1 := List.length_append
    refine qD rfl (zC (v := u270) rfl) ?_
    refine qe ?_
    refine yN ?_
    refine zA (zH ?_)
    refine qD rfl (yT rfl rfl (by omega)) ?_
    refine qD rfl (zB (v := (.int .i64 ((j : Int) + 1))) rfl) ?_
    refine qe ?_
    refine yL ?_
    refine ⟨_, ?_, _, rfl, _, j + 1, u270, (ls3).set ((n : Int) + (j : Int)).toNat ((gs140.getD j default).id), ps3 ++ ([(((gs140.getD j default).l, (gs140.getD j default).r) : Value × Value)]), putE rk3 ((gs140.getD j default).id) ((n : Int) + (j : Int)), G215, (zG (x := 92) (zG (x := 91) (zG (x := 90) (zG (x := 10) (zG (x := 9) (zG (x := 8) (zG (x := 7) (zG (x := 6) (zG (x := 5) (zG (x := 4) (zV (x := 2) rfl) rfl) rfl) rfl) rfl) rfl) rfl) rfl) rfl) rfl) rfl), rfl, hX276, (Pin.le_trans hlek157 hle216), (by omega), (by rw [hls3, show ((n : Int) + (j : Int)).toNat = n + j by omega]; exact reg_step (by omega) (by omega)), (hrk3.ent hRn hgl2 (by omega)), (by rw [hps3, xO _ default (by omega), ← List.append_assoc, List.map_append (l₁ := done ++ _)]; rfl), ho277, ho272, ho278, ha283, ha284.symm, hlv280, ha167, ha286, ha169, hm281, hpk282, hnp287⟩
    omega
   refine wp_exit ?_
   refine yD ?_
   refine yP ?_
   refine yO ?_
   refine zA (zH ?_)
   refine qD rfl (zB (v := (.int .i64 (n : Int))) rfl) ?_
   refine qD rfl (zB (v := gv) rfl) ?_
   refine qD rfl (zQ Tryz.underlying121 (v := gv) rfl hw163.read) ?_
   refine qD rfl (yT rfl rfl (by omega)) ?_
   refine qD rfl (zC (v := (.int .i64 ((n : Int) + (gs140.length : Int)))) rfl) ?_
   refine qe ?_
   refine yN ?_
   refine yL ?_
   have hjn : j = gs140.length := by omega
   rw [hjn, reg_end] at hls3
   rw [hjn] at hrk3 hps3
   rw [List.take_length] at hps3
   have hls3l : ls3.length = ls.length := by rw [hls3]; exact hRl
   refine ⟨_, ?_, _, rfl, _, n + gs140.length, nv3, done ++ gs140, ps3, rk3, LV2, ls3, GL3, (zG (x := 9) (zG (x := 8) (zG (x := 7) (zG (x := 6) (zG (x := 5) (zG (x := 4) (zV (x := 2) rfl) rfl) rfl) rfl) rfl) rfl) rfl), rfl, hX160, (Pin.le_trans (Pin.le_trans hlek85 hlek124) hlek157), (by rw [hls3]; exact hor.ents hok hpt31 hgr (by omega) hend hperm143 hasc144), (by rw [hls3]; exact hrk3), (hLV2.trans (by rw [lvE_app]; exact List.Perm.append_left _ (lvE_perm hperm143.symm))), hps3, hw161, hw162, ha164, hlv166, ha167, ha168, hm170, hpk171, hnp172⟩
   omega
  ·skip
   refine yS (fun (k : Nat) (en : Nat → Value) (W : World) => ∃ (env1 : Nat → Value) (kk : Nat) (gv : Value) (gs : List Ent) (LV2 : List Leaf) (GL2 : Pin), en = (upd (upd (upd (upd (upd (upd (upd (upd (upd env1 2 (.pointer (some ⟨b3, 0, none⟩))) 4 (.slice none 0 0)) 5 (.slice none 0 0)) 6 u26) 7 (.map (some m50))) 8 nv) 9 (.int .i64 (n : Int))) 10 gv) 11 (.int .i64 (kk : Int))) ∧ k = ls.length - kk ∧ Ext noS G w GL2 W ∧ Pin.le GL1 GL2 ∧ (kk = n + gs.length) ∧ (GrI q ls n (gs.map Ent.gn)) ∧ (LV2.Perm (lvE done ++ lvE gs)) ∧ (Own eEnt 124 GL2 W w.heap.size gv (gs)) ∧ (Own eInt 3 GL2 W w.heap.size u26 (ls)) ∧ (Own eVal2 99 GL2 W w.heap.size nv (ps)) ∧ (Apart gv.ownBlock u26.ownBlock) ∧ (Apart gv.ownBlock nv.ownBlock) ∧ (Lvs 3 GL2 W w.heap.size W.heap.size LV2) ∧ (ApL LV2 gv.ownBlock) ∧ (ApL LV2 u26.ownBlock) ∧ (ApL LV2 nv.ownBlock) ∧ (Mp (fun k : Int => Value.int .i64 k) (fun v : Int => Value.int .i64 v) W m50 (rk)) ∧ (Pk 65 3 GL2 W p L R B mm q) ∧ (NP p L R B mm gv.ownBlock)) _ ⟨_, n, u99, [], LV, GL1, (zG (x := 11) (zG (x := 10) (zG (x := 9) (zG (x := 8) (zG (x := 7) (zG (x := 6) (zG (x := 5) (zG (x := 4) (zV (x := 2) rfl) rfl) rfl) rfl) rfl) rfl) rfl) rfl) rfl), rfl, hX105, Pin.le_refl _, rfl, (GrI.start hor), (by simpa [lvE] using hLV), ho119, ho106, ho107, ha111, ha112, hlv108, ha117, ha93, ha94, hm109, hpk110, ha118⟩ ?_
   rintro k124 _ w125 ⟨env1, kk, gv, gs, LV2, GL2, rfl, hk126, hX127, hlek124, hkk, hgr, hLV2, hw128, hw129, hw130, ha131, ha132, hlv133, ha134, ha135, ha136, hm137, hpk138, hnp139⟩
   have hgl := hgr.le
   rw [List.length_map] at hgl
   refine zD (zD ?_)
   have hq289 := Gadd.pins hX127.pins u26
   have hq290 := Gadd.pins hX127.pins B
   have hr291 := hw129.read
   have hr292 := hpk138.ob.read
   refine xJ (S := fun wz => Pins (Gadd GL2 w125 u26) wz ∧ Pins GL2 wz ∧ BxR wz p [L, R, B, (.map (some mm.f)), (.map (some mm.o)), (.map (some mm.c)), (.map (some mm.s)), (.map (some mm.n))] ∧ Pins (Gadd GL2 w125 B) wz) (last := 27) (by kernel_rfl) rfl ?_
   have hl293 : Below w125.heap.size w125 w125.drew := (Below.refl _ _).drew
   have hp294 := hX127.pins.below hl293
   have hX295 := hX127.step hp294 hl293
   have ho296 := hw128.below hl293
   have ho297 := hw129.below hl293
   have ho298 := hw130.below hl293
   have hlv299 := (hlv133.below hl293).top
   have hm300 := hm137.below hl293
   have hpk301 := hpk138.below hl293 hp294
   have hq302 := hq289.below hl293
   have hq303 := hq290.below hl293
   refine dT (i := 0) rfl rfl (by kernel_rfl) (fun _ _ => zB (v := (.int .i64 (kk : Int))) rfl) ⟨hq302, hX295.pins, hpk301.bx.reads, hq303⟩ ?_
   refine dT (i := 1) rfl rfl (by kernel_rfl) (fun _ _ => zB (v := u26) rfl) ⟨hq302, hX295.pins, hpk301.bx.reads, hq303⟩ ?_
   refine dT (i := 2) rfl rfl (by kernel_rfl) (fun _ _ => zQ Tryz.underlying65 (v := u26) rfl hr291) ⟨hq302, hX295.pins, hpk301.bx.reads, hq303⟩ ?_
   refine dT (i := 3) rfl rfl (by kernel_rfl) (fun _ _ => yR rfl rfl) ⟨hq302, hX295.pins, hpk301.bx.reads, hq303⟩ ?_
   refine dT (i := 4) rfl rfl (by kernel_rfl) (fun _ _ => zB (v := (.bool (decide (((kk : Int) : Int) < (ls.length : Int))))) rfl) ⟨hq302, hX295.pins, hpk301.bx.reads, hq303⟩ ?_
   refine drbd (p := ((kk : Int) : Int) < (ls.length : Int)) (t := 35) rfl (fun h304 => ?_) (fun h304 => ?_)
   ·skip
    have hzk := hplk kk (by omega)
    have hollk := hok.ar.ok.lens (ls.getD kk 0).toNat (by omega)
    refine yM (i := 5) rfl rfl rfl (yE rfl rfl rfl rfl) (by kernel_rfl) (fun _ hS => zU (u := (.pointer (some ⟨p, 0, none⟩))) ag61 rfl ((Pins.of_le hS.2.1 (Pin.le_trans (Pin.le_trans hx32.le hlek85) hlek124)) _ _ _ (hbp22 0 _ rfl))) ⟨hq302, hX295.pins, hpk301.bx.reads, hq303⟩ ?_
    refine yM (i := 6) rfl rfl rfl (yE rfl rfl rfl rfl) (by kernel_rfl) (fun _ _ => xM rfl) ⟨hq302, hX295.pins, hpk301.bx.reads, hq303⟩ ?_
    refine yM (i := 7) rfl rfl rfl (yE rfl rfl rfl rfl) (by kernel_rfl) (fun _ _ => zR (k := 2) rfl Tryz.underlying72 rfl nz65 rfl) ⟨hq302, hX295.pins, hpk301.bx.reads, hq303⟩ ?_
    refine yM (i := 8) rfl rfl rfl (yE rfl rfl rfl rfl) (by kernel_rfl) (fun _ hS => zU (u := B) ag65 rfl (hS.2.2.1 2 _ rfl)) ⟨hq302, hX295.pins, hpk301.bx.reads, hq303⟩ ?_
    refine yM (i := 9) rfl rfl rfl (yE rfl rfl rfl rfl) (by kernel_rfl) (fun _ _ => zB (v := u26) rfl) ⟨hq302, hX295.pins, hpk301.bx.reads, hq303⟩ ?_
    refine yM (i := 10) rfl rfl rfl (yE rfl rfl rfl rfl) (by kernel_rfl) (fun _ _ => zB (v := (.int .i64 (kk : Int))) rfl) ⟨hq302, hX295.pins, hpk301.bx.reads, hq303⟩ ?_
    refine yM (i := 11) rfl rfl rfl (yE rfl rfl rfl rfl) (by kernel_rfl) (fun _ _ => zM Tryz.underlying65 sz3 (v := u26) rfl rfl hr291 (by omega) (by omega)) ⟨hq302, hX295.pins, hpk301.bx.reads, hq303⟩ ?_
    refine yM (i := 12) rfl rfl rfl (yE rfl rfl rfl rfl) (by kernel_rfl) (fun _ hS => zL (r := ls.getD kk 0) rfl ag3 (z := (kk : Int)) rfl hr291 hS.1 (by omega) (by omega)) ⟨hq302, hX295.pins, hpk301.bx.reads, hq303⟩ ?_
    refine yM (i := 13) rfl rfl rfl (yE rfl rfl rfl rfl) (by kernel_rfl) (fun _ _ => zM Tryz.underlying65 sz3 (v := B) rfl rfl hr292 (by omega) (by omega)) ⟨hq302, hX295.pins, hpk301.bx.reads, hq303⟩ ?_
    refine yM (i := 14) rfl rfl rfl (yE rfl rfl rfl rfl) (by kernel_rfl) (fun _ hS => zL (r := q.bs.getD (ls.getD kk 0).toNat 0) rfl ag3 (z := (ls.getD kk 0)) rfl hr292 hS.2.2.2 (by omega) (by omega)) ⟨hq302, hX295.pins, hpk301.bx.reads, hq303⟩ ?_
    refine yM (i := 15) rfl rfl rfl (yE rfl rfl rfl rfl) (by kernel_rfl) (fun _ hS => zU (u := (.pointer (some ⟨p, 0, none⟩))) ag61 rfl ((Pins.of_le hS.2.1 (Pin.le_trans (Pin.le_trans hx32.le hlek85) hlek124)) _ _ _ (hbp22 0 _ rfl))) ⟨hq302, hX295.pins, hpk301.bx.reads, hq303⟩ ?_
    refine yM (i := 16) rfl rfl rfl (yE rfl rfl rfl rfl) (by kernel_rfl) (fun _ _ => xM rfl) ⟨hq302, hX295.pins, hpk301.bx.reads, hq303⟩ ?_
    refine yM (i := 17) rfl rfl rfl (yE rfl rfl rfl rfl) (by kernel_rfl) (fun _ _ => zR (k := 2) rfl Tryz.underlying72 rfl nz65 rfl) ⟨hq302, hX295.pins, hpk301.bx.reads, hq303⟩ ?_
    refine yM (i := 18) rfl rfl rfl (yE rfl rfl rfl rfl) (by kernel_rfl) (fun _ hS => zU (u := B) ag65 rfl (hS.2.2.1 2 _ rfl)) ⟨hq302, hX295.pins, hpk301.bx.reads, hq303⟩ ?_
    refine yM (i := 19) rfl rfl rfl (yE rfl rfl rfl rfl) (by kernel_rfl) (fun _ _ => zB (v := u26) rfl) ⟨hq302, hX295.pins, hpk301.bx.reads, hq303⟩ ?_
    refine yM (i := 20) rfl rfl rfl (yE rfl rfl rfl rfl) (by kernel_rfl) (fun _ _ => zB (v := (.int .i64 (n : Int))) rfl) ⟨hq302, hX295.pins, hpk301.bx.reads, hq303⟩ ?_
    refine yM (i := 21) rfl rfl rfl (yE rfl rfl rfl rfl) (by kernel_rfl) (fun _ _ => zM Tryz.underlying65 sz3 (v := u26) rfl rfl hr291 (by omega) (by omega)) ⟨hq302, hX295.pins, hpk301.bx.reads, hq303⟩ ?_
    refine yM (i := 22) rfl rfl rfl (yE rfl rfl rfl rfl) (by kernel_rfl) (fun _ hS => zL (r := ls.getD n 0) rfl ag3 (z := (n : Int)) rfl hr291 hS.1 (by omega) (by omega)) ⟨hq302, hX295.pins, hpk301.bx.reads, hq303⟩ ?_
    refine yM (i := 23) rfl rfl rfl (yE rfl rfl rfl rfl) (by kernel_rfl) (fun _ _ => zM Tryz.underlying65 sz3 (v := B) rfl rfl hr292 (by omega) (by omega)) ⟨hq302, hX295.pins, hpk301.bx.reads, hq303⟩ ?_
    refine yM (i := 24) rfl rfl rfl (yE rfl rfl rfl rfl) (by kernel_rfl) (fun _ hS => zL (r := q.bs.getD (ls.getD n 0).toNat 0) rfl ag3 (z := (ls.getD n 0)) rfl hr292 hS.2.2.2 (by omega) (by omega)) ⟨hq302, hX295.pins, hpk301.bx.reads, hq303⟩ ?_
    refine yM (i := 25) rfl rfl rfl (yE rfl rfl rfl rfl) (by kernel_rfl) (fun _ _ => r_eql rfl rfl) ⟨hq302, hX295.pins, hpk301.bx.reads, hq303⟩ ?_
    refine dT (i := 26) rfl rfl (by kernel_rfl) (fun _ _ => xQ (v := (.bool (decide ((q.bs.getD (ls.getD kk 0).toNat 0 : Int) = (q.bs.getD (ls.getD n 0).toNat 0))))) rfl rfl) ⟨hq302, hX295.pins, hpk301.bx.reads, hq303⟩ ?_
    refine yX (by kernel_rfl) ?_
    refine zA ?_
    refine yG (p := (q.bs.getD (ls.getD kk 0).toNat 0 : Int) = (q.bs.getD (ls.getD n 0).toNat 0)) rfl rfl (fun h305 => ?_) (fun h305 => ?_)
    ·skip
     refine wp_skip ?_
     refine zA (zD ?_)
     refine yA ?_
     refine zD (zH ?_)
     refine qD rfl (zB (v := u26) rfl) ?_
     refine qD rfl (zB (v := (.int .i64 (kk : Int))) rfl) ?_
     refine qD rfl (zM Tryz.underlying65 sz3 (v := u26) rfl rfl ho297.read (by omega) (by omega)) ?_
     refine qD rfl (zL (r := ls.getD kk 0) rfl ag3 (z := (kk : Int)) rfl ho297.read (Gadd.pins hX295.pins u26) (by omega) (by omega)) ?_
     refine qD rfl (zC (v := (.int .i64 (ls.getD kk 0))) rfl) ?_
     refine qe (zA ?_)
     have hq306 := Gadd.pins hX295.pins L
     have hq307 := Gadd.pins hX295.pins R
     have hr308 := hpk301.ol.read
     have hr309 := hpk301.rr.read
     refine xJ (S := fun wz => Pins GL2 wz ∧ BxR wz p [L, R, B, (.map (some mm.f)), (.map (some mm.o)), (.map (some mm.c)), (.map (some mm.s)), (.map (some mm.n))] ∧ Pins (Gadd GL2 w125.drew L) wz ∧ Pins (Gadd GL2 w125.drew R) wz) (last := 25) (by kernel_rfl) rfl ?_
     have hl310 : Below w125.drew.heap.size w125.drew w125.drew.drew := (Below.refl _ _).drew
     have hp311 := hX295.pins.below hl310
     have hX312 := hX295.step hp311 hl310
     have ho313 := ho296.below hl310
     have ho314 := ho297.below hl310
     have ho315 := ho298.below hl310
     have hlv316 := (hlv299.below hl310).top
     have hm317 := hm300.below hl310
     have hpk318 := hpk301.below hl310 hp311
     have hq319 := hq306.below hl310
     have hq320 := hq307.below hl310
     refine dT (i := 0) rfl rfl (by kernel_rfl) (fun _ _ => zB (v := gv) rfl) ⟨hX312.pins, hpk318.bx.reads, hq319, hq320⟩ ?_
     refine dT (i := 1) rfl rfl (by kernel_rfl) (fun _ _ => zB (v := (.int .i64 (ls.getD kk 0))) rfl) ⟨hX312.pins, hpk318.bx.reads, hq319, hq320⟩ ?_
     refine dT (i := 2) rfl rfl (by kernel_rfl) (fun _ hS => zU (u := (.pointer (some ⟨p, 0, none⟩))) ag61 rfl ((Pins.of_le hS.1 (Pin.le_trans (Pin.le_trans hx32.le hlek85) hlek124)) _ _ _ (hbp22 0 _ rfl))) ⟨hX312.pins, hpk318.bx.reads, hq319, hq320⟩ ?_
     refine dT (i := 3) rfl rfl (by kernel_rfl) (fun _ _ => xM rfl) ⟨hX312.pins, hpk318.bx.reads, hq319, hq320⟩ ?_
     refine dT (i := 4) rfl rfl (by kernel_rfl) (fun _ _ => zR (k := 0) rfl Tryz.underlying72 rfl nz66 rfl) ⟨hX312.pins, hpk318.bx.reads, hq319, hq320⟩ ?_
     refine dT (i := 5) rfl rfl (by kernel_rfl) (fun _ hS => zU (u := L) ag66 rfl (hS.2.1 0 _ rfl)) ⟨hX312.pins, hpk318.bx.reads, hq319, hq320⟩ ?_
     refine dT (i := 6) rfl rfl (by kernel_rfl) (fun _ _ => zB (v := (.int .i64 (ls.getD kk 0))) rfl) ⟨hX312.pins, hpk318.bx.reads, hq319, hq320⟩ ?_
     refine dT (i := 7) rfl rfl (by kernel_rfl) (fun _ _ => zM Tryz.underlying66 sz65 (v := L) rfl rfl hr308 (by omega) (by omega)) ⟨hX312.pins, hpk318.bx.reads, hq319, hq320⟩ ?_
     obtain ⟨u321, hr322, hl323⟩ := nm_sl (hpk301.ol.at (z := (ls.getD kk 0)) (by omega) (by omega)) (j := (ls.getD kk 0).toNat) rfl
     rw [mapl_getD] at hr322
     have hm324 := hr322.max
     refine dT (i := 8) rfl rfl (by kernel_rfl) (fun _ hS => hl323 ag65 rfl hS.2.2.1) ⟨hX312.pins, hpk318.bx.reads, hq319, hq320⟩ ?_
     refine dT (i := 9) rfl rfl (by kernel_rfl) (fun _ _ => zB (v := (.map (some m50))) rfl) ⟨hX312.pins, hpk318.bx.reads, hq319, hq320⟩ ?_
     refine dT (i := 11) rfl rfl (by kernel_rfl) (fun _ hS => zU (u := (.pointer (some ⟨p, 0, none⟩))) ag61 rfl ((Pins.of_le hS.1 (Pin.le_trans (Pin.le_trans hx32.le hlek85) hlek124)) _ _ _ (hbp22 0 _ rfl))) ⟨hX312.pins, hpk318.bx.reads, hq319, hq320⟩ ?_
     refine dT (i := 12) rfl rfl (by kernel_rfl) (fun _ _ => xM rfl) ⟨hX312.pins, hpk318.bx.reads, hq319, hq320⟩ ?_
     refine dT (i := 13) rfl rfl (by kernel_rfl) (fun _ _ => zR (k := 1) rfl Tryz.underlying72 rfl nz66 rfl) ⟨hX312.pins, hpk318.bx.reads, hq319, hq320⟩ ?_
     refine dT (i := 14) rfl rfl (by kernel_rfl) (fun _ hS => zU (u := R) ag66 rfl (hS.2.1 1 _ rfl)) ⟨hX312.pins, hpk318.bx.reads, hq319, hq320⟩ ?_
     refine dT (i := 15) rfl rfl (by kernel_rfl) (fun _ _ => zB (v := (.int .i64 (ls.getD kk 0))) rfl) ⟨hX312.pins, hpk318.bx.reads, hq319, hq320⟩ ?_
     refine dT (i := 16) rfl rfl (by kernel_rfl) (fun _ _ => zM Tryz.underlying66 sz65 (v := R) rfl rfl hr309 (by omega) (by omega)) ⟨hX312.pins, hpk318.bx.reads, hq319, hq320⟩ ?_
     obtain ⟨u325, hr326, hl327⟩ := nm_sl (hpk301.rr.at (z := (ls.getD kk 0)) (by omega) (by omega)) (j := (ls.getD kk 0).toNat) rfl
     rw [mapr_getD] at hr326
     have hm328 := hr326.max
     refine dT (i := 17) rfl rfl (by kernel_rfl) (fun _ hS => hl327 ag65 rfl hS.2.2.2) ⟨hX312.pins, hpk318.bx.reads, hq319, hq320⟩ ?_
     refine dT (i := 18) rfl rfl (by kernel_rfl) (fun _ _ => zB (v := (.map (some m50))) rfl) ⟨hX312.pins, hpk318.bx.reads, hq319, hq320⟩ ?_
     refine zW (i := 10) (by kernel_rfl) (zY (i := 10) rfl rfl rfl (zI rfl _) (zO (vs := [u321, (.map (some m50))]) Tryz.func117 nm117 rfl rfl rfl ?_))
     refine Calls.mono (ranked_spec hX312.pins hr322 hm317 (by omega)) ?_
     rintro _ w331 ⟨u329, G330, rfl, ho332, hx333⟩
     refine ⟨_, rfl, ?_⟩
     have hX334 := hX312.tr hx333
     have ho335 := ho313.ext hx333
     have ho336 := ho314.ext hx333
     have ho337 := ho315.ext hx333
     have hlv338 := (hlv316.ext hx333).top
     have hm339 := hm317.below hx333.below
     have hpk340 := hpk318.ext hx333
     have ha341 : Apart u329.ownBlock gv.ownBlock := zS ho332.lt ho313.lt
     have ha342 : Apart u329.ownBlock u26.ownBlock := zS ho332.lt ho314.lt
     have ha343 : Apart u329.ownBlock nv.ownBlock := zS ho332.lt ho315.lt
     have ha344 : ApL LV2 u329.ownBlock := ApL.fresh hlv316 (fun k hk => (ho332.lt k hk).1)
     have ho346 : Own eInt 3 G330 w331 w.heap.size u329 (sortM (((q.ns.getD (ls.getD kk 0).toNat default).l).map (rkI rk))) := ho332.weaken hX312.size
     have hq347 := hq319.below hx333.below
     have hq348 := hq320.below hx333.below
     refine ⟨fun _ => ⟨(Pins.of_le hX334.pins hx333.le), hpk340.bx.reads, hq347, hq348⟩, ?_⟩
     refine zW (i := 19) (by kernel_rfl) (zY (i := 19) rfl rfl rfl (zI rfl _) (zO (vs := [u325, (.map (some m50))]) Tryz.func117 nm117 rfl rfl rfl ?_))
     refine Calls.mono (ranked_spec hX334.pins (hr326.mono hx333.le) hm339 (by omega)) ?_
     rintro _ w351 ⟨u349, G350, rfl, ho352, hx353⟩
     refine ⟨_, rfl, ?_⟩
     have hX354 := hX334.tr hx353
     have ho355 := ho335.ext hx353
     have ho356 := ho336.ext hx353
     have ho357 := ho337.ext hx353
     have ho358 := ho346.ext hx353
     have hlv359 := (hlv338.ext hx353).top
     have hm360 := hm339.below hx353.below
     have hpk361 := hpk340.ext hx353
     have ha362 : Apart u349.ownBlock gv.ownBlock := zS ho352.lt ho335.lt
     have ha363 : Apart u349.ownBlock u26.ownBlock := zS ho352.lt ho336.lt
     have ha364 : Apart u349.ownBlock nv.ownBlock := zS ho352.lt ho337.lt
     have ha365 : Apart u349.ownBlock u329.ownBlock := zS ho352.lt ho346.lt
     have ha366 : ApL LV2 u349.ownBlock := ApL.fresh hlv338 (fun k hk => (ho352.lt k hk).1)
     have ho368 : Own eInt 3 G350 w351 w.heap.size u349 (sortM (((q.ns.getD (ls.getD kk 0).toNat default).r).map (rkI rk))) := ho352.weaken hX334.size
     have hq369 := hq347.below hx353.below
     have hq370 := hq348.below hx353.below
     refine ⟨fun _ => ⟨(Pins.of_le hX354.pins (Pin.le_trans hx333.le hx353.le)), hpk361.bx.reads, hq369, hq370⟩, ?_⟩
     refine dT (i := 20) rfl rfl (by kernel_rfl) (fun _ _ => xP [(.slice none 0 0), (.slice none 0 0)] [u329, u349] [(0, u329, [u329]), (1, u349, [u349])] Tryz.underlying99 zr99 rfl pl99 rfl (List.forall_mem_cons.2 ⟨(xC ho358.one), (List.forall_mem_cons.2 ⟨(xC ho368.one), (fun _ h => by cases h)⟩)⟩) rfl) ⟨(Pins.of_le hX354.pins (Pin.le_trans hx333.le hx353.le)), hpk361.bx.reads, hq369, hq370⟩ ?_
     refine dT (i := 21) rfl rfl (by kernel_rfl) (fun _ _ => xP [(.int .i64 0), (.slice none 0 0), (.slice none 0 0)] [(.int .i64 (ls.getD kk 0)), u329, u349] [(0, (.int .i64 (ls.getD kk 0)), [(.int .i64 (ls.getD kk 0))]), (1, (.agg [u329, u349].toArray), [u329, u349])] Tryz.underlying124 zr124 rfl pl124 rfl (List.forall_mem_cons.2 ⟨rfl, (List.forall_mem_cons.2 ⟨rfl, (fun _ h => by cases h)⟩)⟩) rfl) ⟨(Pins.of_le hX354.pins (Pin.le_trans hx333.le hx353.le)), hpk361.bx.reads, hq369, hq370⟩ ?_
     refine zW (i := 22) (by kernel_rfl) (zY (i := 22) rfl rfl rfl (zI rfl _) (qK (E := eEnt) (e := 124) [(.int .i64 (ls.getD kk 0)), u329, u349] (⟨ls.getD kk 0, u329, u349, ⟨sortM (((q.ns.getD (ls.getD kk 0).toNat default).l).map (rkI rk)), sortM (((q.ns.getD (ls.getD kk 0).toNat default).r).map (rkI rk))⟩⟩ : Ent) Tryz.underlying121 sz124 zr124 ⟨rfl, ho358.one, ho368.one⟩ rfl (by decide) hX354.pins (fun u371 w372 ho373 hp374 hl375 hk376 => ?_)))
     have hX377 := hX354.step hp374 hl375
     have ho378 := ho355.below hl375
     have ho379 := ho356.below hl375
     have ho380 := ho357.below hl375
     have ho381 := ho358.below hl375
     have ho382 := ho368.below hl375
     have hlv383 := (hlv359.below hl375).top
     have hm384 := hm360.below hl375
     have hpk385 := hpk361.below hl375 hp374
     have ho397 : Own eEnt 124 G350 w372 w.heap.size u371 ([(⟨ls.getD kk 0, u329, u349, ⟨sortM (((q.ns.getD (ls.getD kk 0).toNat default).l).map (rkI rk)), sortM (((q.ns.getD (ls.getD kk 0).toNat default).r).map (rkI rk))⟩⟩ : Ent)]) := ho373.weaken hX354.size
     have hq398 := hq369.below hl375
     have hq399 := hq370.below hl375
     refine ⟨fun _ => ⟨(Pins.of_le hX377.pins (Pin.le_trans hx333.le hx353.le)), hpk385.bx.reads, hq398, hq399⟩, ?_⟩
     refine zW (i := 23) (by kernel_rfl) (zY (i := 23) rfl rfl rfl (zI rfl _) (yC (E := eEnt) (v := gv) (u := u371) 56 Tryz.underlying121 ap124 (by decide) rfl rfl hX377.pins ho378 ho397.src (by first | omega | (rw [List.nil_append]; omega) | (rw [List.length_nil]; omega) | (rw [List.length_append]; omega) | (simp; done) | (simp; omega) | (simp only [List.length_append, List.length_cons, List.length_nil]; omega)) (by first | omega | (rw [List.nil_append]; omega) | (rw [List.length_nil]; omega) | (rw [List.length_append]; omega) | (simp; done) | (simp; omega) | (simp only [List.length_append, List.length_cons, List.length_nil]; omega)) (hX377.size) (fun u400 w401 ho402 hp403 hg404 hw405 => ?_)))
     have hX406 := hX377.write hp403 hg404 ((yH ho378))
     have ho407 := ho379.keptA hg404 ha131.symm
     have ho408 := ho380.keptA hg404 ha132.symm
     have ho409 := ho381.keptA hg404 ha341
     have ho410 := ho382.keptA hg404 ha362
     have hlv412 := (hlv383.kept hg404 ha134).top
     have hm413 := hm384.kept hg404 (yI hm384 ho378)
     have hpk414 := hpk385.kept hg404 hp403 hnp139
     have ha415 : Apart u26.ownBlock u400.ownBlock := zJ ha131.symm hw405 ho379.lt
     have ha416 : Apart nv.ownBlock u400.ownBlock := zJ ha132.symm hw405 ho380.lt
     have ha417 : Apart u329.ownBlock u400.ownBlock := zJ ha341 hw405 ho381.lt
     have ha418 : Apart u349.ownBlock u400.ownBlock := zJ ha362 hw405 ho382.lt
     have ha420 : ApL LV2 u400.ownBlock := ApL.app hlv383 ha134 hw405
     have hnp421 := np_app hnp139 hpk385 hw405
     have hm422 : (gs ++ ([(⟨ls.getD kk 0, u329, u349, ⟨sortM (((q.ns.getD (ls.getD kk 0).toNat default).l).map (rkI rk)), sortM (((q.ns.getD (ls.getD kk 0).toNat default).r).map (rkI rk))⟩⟩ : Ent)])).length = gs.length + 1 := List.length_append
     have hq423 := Gadd.turn hq398 (Pins.of_le hX406.pins (Pin.le_trans hx333.le hx353.le)) (Ext.one hp403 hg404) (notO (NP.hl hnp139).symm)
     have hq424 := Gadd.turn hq399 (Pins.of_le hX406.pins (Pin.le_trans hx333.le hx353.le)) (Ext.one hp403 hg404) (notO (NP.hr hnp139).symm)
     refine ⟨fun _ => ⟨(Pins.of_le hX406.pins (Pin.le_trans hx333.le hx353.le)), hpk414.bx.reads, hq423, hq424⟩, ?_⟩
     refine dT (i := 24) rfl rfl (by kernel_rfl) (fun _ _ => zC (v := u400) rfl) ⟨(Pins.of_le hX406.pins (Pin.le_trans hx333.le hx353.le)), hpk414.bx.reads, hq423, hq424⟩ ?_
     refine yX (by kernel_rfl) ?_
     refine yN ?_
     refine zA (zH ?_)
     refine qD rfl (zB (v := (.int .i64 (kk : Int))) rfl) ?_
     refine qD rfl (yT rfl rfl (by omega)) ?_
     refine qD rfl (zC (v := (.int .i64 ((kk : Int) + 1))) rfl) ?_
     refine qe ?_
     refine yL ?_
     have hlv425 := hlv412.add ho409 ha344
     have ha426 : ApL (LV2 ++ [(u329, sortM (((q.ns.getD (ls.getD kk 0).toNat default).l).map (rkI rk)))]) u26.ownBlock := ha135.add ha342
     have ha427 : ApL (LV2 ++ [(u329, sortM (((q.ns.getD (ls.getD kk 0).toNat default).l).map (rkI rk)))]) nv.ownBlock := ha136.add ha343
     have ha428 : ApL (LV2 ++ [(u329, sortM (((q.ns.getD (ls.getD kk 0).toNat default).l).map (rkI rk)))]) u349.ownBlock := ha366.add ha365.symm
     have ha429 : ApL (LV2 ++ [(u329, sortM (((q.ns.getD (ls.getD kk 0).toNat default).l).map (rkI rk)))]) u400.ownBlock := ha420.add ha417
     have hlv430 := hlv425.add ho410 ha428
     have ha431 : ApL ((LV2 ++ [(u329, sortM (((q.ns.getD (ls.getD kk 0).toNat default).l).map (rkI rk)))]) ++ [(u349, sortM (((q.ns.getD (ls.getD kk 0).toNat default).r).map (rkI rk)))]) u26.ownBlock := ha426.add ha363
     have ha432 : ApL ((LV2 ++ [(u329, sortM (((q.ns.getD (ls.getD kk 0).toNat default).l).map (rkI rk)))]) ++ [(u349, sortM (((q.ns.getD (ls.getD kk 0).toNat default).r).map (rkI rk)))]) nv.ownBlock := ha427.add ha364
     have ha433 : ApL ((LV2 ++ [(u329, sortM (((q.ns.getD (ls.getD kk 0).toNat default).l).map (rkI rk)))]) ++ [(u349, sortM (((q.ns.getD (ls.getD kk 0).toNat default).r).map (rkI rk)))]) u400.ownBlock := ha429.add ha418
     refine ⟨_, ?_, _, rfl, _, kk + 1, u400, gs ++ ([(⟨ls.getD kk 0, u329, u349, ⟨sortM (((q.ns.getD (ls.getD kk 0).toNat default).l).map (rkI rk)), sortM (((q.ns.getD (ls.getD kk 0).toNat default).r).map (rkI rk))⟩⟩ : Ent)]), (LV2 ++ [(u329, sortM (((q.ns.getD (ls.getD kk 0).toNat default).l).map (rkI rk)))]) ++ [(u349, sortM (((q.ns.getD (ls.getD kk 0).toNat default).r).map (rkI rk)))], G350, (zG (x := 11) (zG (x := 10) (zG (x := 9) (zG (x := 8) (zG (x := 7) (zG (x := 6) (zG (x := 5) (zG (x := 4) (zV (x := 2) rfl) rfl) rfl) rfl) rfl) rfl) rfl) rfl) rfl), rfl, hX406, (Pin.le_trans (Pin.le_trans hlek124 hx333.le) hx353.le), (by rw [List.length_append]; simp; omega), (hgr.ent hor hok hpt31 hrk hkk (by omega) h305), (by rw [lvE_app, ← List.append_assoc, List.append_assoc LV2]; exact hLV2.append_right _), ho402, ho407, ho408, ha415.symm, ha416.symm, hlv430, ha433, ha431, ha432, hm413, hpk414, hnp421⟩
     omega
    refine wp_exit ?_
    refine yD ?_
    refine yP ?_
    exact cutE_in ⟨_, kk, gv, gs, LV2, GL2, (zG (x := 11) (zG (x := 10) (zG (x := 9) (zG (x := 8) (zG (x := 7) (zG (x := 6) (zG (x := 5) (zG (x := 4) (zV (x := 2) rfl) rfl) rfl) rfl) rfl) rfl) rfl) rfl) rfl), hX295, hlek124, hkk, hgr, hLV2, (Or.inr (by rw [← hkk]; exact h305)), ho296, ho297, ho298, ha131, ha132, hlv299, ha134, ha135, ha136, hm300, hpk301, hnp139⟩
   refine yF (i := 5) rfl rfl (yK rfl rfl rfl rfl rfl) (by kernel_rfl) ⟨hq302, hX295.pins, hpk301.bx.reads, hq303⟩ ?_
   refine yF (i := 6) rfl rfl (yK rfl rfl rfl rfl rfl) (by kernel_rfl) ⟨hq302, hX295.pins, hpk301.bx.reads, hq303⟩ ?_
   refine yF (i := 7) rfl rfl (yK rfl rfl rfl rfl rfl) (by kernel_rfl) ⟨hq302, hX295.pins, hpk301.bx.reads, hq303⟩ ?_
   refine yF (i := 8) rfl rfl (yK rfl rfl rfl rfl rfl) (by kernel_rfl) ⟨hq302, hX295.pins, hpk301.bx.reads, hq303⟩ ?_
   refine yF (i := 9) rfl rfl (yK rfl rfl rfl rfl rfl) (by kernel_rfl) ⟨hq302, hX295.pins, hpk301.bx.reads, hq303⟩ ?_
   refine yF (i := 10) rfl rfl (yK rfl rfl rfl rfl rfl) (by kernel_rfl) ⟨hq302, hX295.pins, hpk301.bx.reads, hq303⟩ ?_
   refine yF (i := 11) rfl rfl (yK rfl rfl rfl rfl rfl) (by kernel_rfl) ⟨hq302, hX295.pins, hpk301.bx.reads, hq303⟩ ?_
   refine yF (i := 12) rfl rfl (yK rfl rfl rfl rfl rfl) (by kernel_rfl) ⟨hq302, hX295.pins, hpk301.bx.reads, hq303⟩ ?_
   refine yF (i := 13) rfl rfl (yK rfl rfl rfl rfl rfl) (by kernel_rfl) ⟨hq302, hX295.pins, hpk301.bx.reads, hq303⟩ ?_
   refine yF (i := 14) rfl rfl (yK rfl rfl rfl rfl rfl) (by kernel_rfl) ⟨hq302, hX295.pins, hpk301.bx.reads, hq303⟩ ?_
   refine yF (i := 15) rfl rfl (yK rfl rfl rfl rfl rfl) (by kernel_rfl) ⟨hq302, hX295.pins, hpk301.bx.reads, hq303⟩ ?_
   refine yF (i := 16) rfl rfl (yK rfl rfl rfl rfl rfl) (by kernel_rfl) ⟨hq302, hX295.pins, hpk301.bx.reads, hq303⟩ ?_
   refine yF (i := 17) rfl rfl (yK rfl rfl rfl rfl rfl) (by kernel_rfl) ⟨hq302, hX295.pins, hpk301.bx.reads, hq303⟩ ?_
   refine yF (i := 18) rfl rfl (yK rfl rfl rfl rfl rfl) (by kernel_rfl) ⟨hq302, hX295.pins, hpk301.bx.reads, hq303⟩ ?_
   refine yF (i := 19) rfl rfl (yK rfl rfl rfl rfl rfl) (by kernel_rfl) ⟨hq302, hX295.pins, hpk301.bx.reads, hq303⟩ ?_
   refine yF (i := 20) rfl rfl (yK rfl rfl rfl rfl rfl) (by kernel_rfl) ⟨hq302, hX295.pins, hpk301.bx.reads, hq303⟩ ?_
   refine yF (i := 21) rfl rfl (yK rfl rfl rfl rfl rfl) (by kernel_rfl) ⟨hq302, hX295.pins, hpk301.bx.reads, hq303⟩ ?_
   refine yF (i := 22) rfl rfl (yK rfl rfl rfl rfl rfl) (by kernel_rfl) ⟨hq302, hX295.pins, hpk301.bx.reads, hq303⟩ ?_
   refine yF (i := 23) rfl rfl (yK rfl rfl rfl rfl rfl) (by kernel_rfl) ⟨hq302, hX295.pins, hpk301.bx.reads, hq303⟩ ?_
   refine yF (i := 24) rfl rfl (yK rfl rfl rfl rfl rfl) (by kernel_rfl) ⟨hq302, hX295.pins, hpk301.bx.reads, hq303⟩ ?_
   refine yF (i := 25) rfl rfl (yK rfl rfl rfl rfl rfl) (by kernel_rfl) ⟨hq302, hX295.pins, hpk301.bx.reads, hq303⟩ ?_
   refine dT (i := 26) rfl rfl (by kernel_rfl) (fun _ _ => xI (v := (.bool false)) rfl rfl) ⟨hq302, hX295.pins, hpk301.bx.reads, hq303⟩ ?_
   refine yX (by kernel_rfl) ?_
   refine zA ?_
   refine qR rfl rfl ?_
   refine wp_exit ?_
   refine yD ?_
   refine yP ?_
   exact cutE_in ⟨_, kk, gv, gs, LV2, GL2, (zG (x := 11) (zG (x := 10) (zG (x := 9) (zG (x := 8) (zG (x := 7) (zG (x := 6) (zG (x := 5) (zG (x := 4) (zV (x := 2) rfl) rfl) rfl) rfl) rfl) rfl) rfl) rfl) rfl), hX295, hlek124, hkk, hgr, hLV2, (Or.inl (by omega)), ho296, ho297, ho298, ha131, ha132, hlv299, ha134, ha135, ha136, hm300, hpk301, hnp139⟩
 refine wp_exit ?_
 refine yD ?_
 refine yP ?_
 refine yO ?_
 refine zA (zD (zH ?_))
 refine qD rfl (zB (v := u26) rfl) ?_
 refine qD rfl (zB (v := nv) rfl) ?_
 refine qD rfl (zC (v := u26) rfl) ?_
 refine qD rfl (zC (v := nv) rfl) ?_
 refine qe (zA ?_)
 refine wp_ret ?_
 refine zX ?_
 refine c_ret2 (v := u26) (u := nv) rfl rfl rfl rfl rfl ?_
 have hnn : n = ls.length := by omega
 rw [hnn] at hor
 have hon := hw90
 rw [hps] at hon
 have hlv := hlv92.perm hLV
 have hap := ha94.perm hLV
 rw [lvE_lvN] at hlv hap
 exact ⟨_, _, ls, done.map Ent.nd, zs27, _, rfl, hw89, ⟨done.map Ent.pr, by rw [List.length_map, List.length_map], hon, fun k hk => (hon.lt k hk).2, hlv, hap⟩, hor, hpt31, hX88⟩

end OD1
end Go.Proofs.YtfnginkcmcfdfaaGreatDoor

set_option maxRecDepth 20000
set_option maxHeartbeats 2000000
namespace Go.Proofs.YtfnginkcmcfdfaaGreatDoor
namespace FO1
open Go.RowKit Go.GL Go.Proofs
open Go.Proofs.YtfnginkcmcfdfaaGreatDoor.B1
open Go.Proofs.YtfnginkcmcfdfaaGreatDoor.PO1
open Go.Proofs.YtfnginkcmcfdfaaGreatDoor.PA1
open Go.Proofs.YtfnginkcmcfdfaaGreatDoor.SO1
open Go.Proofs.YtfnginkcmcfdfaaGreatDoor.OD1






theorem pl32 : (Tryz.prog.underlying 32).bind (placesD Tryz.prog) = some [(0, 1)] := by kernel_rfl






theorem form_spec {w : World} {G : Pin} {p : Nat} {L R B : Value} {mm : PM} {q : PSt} (hP : Pins G w) (hpk : Pk 65 3 G w p L R B mm q) (hok : PoolOk q) {i : Int} (hi : PlaceOk q i) :
  Calls Tryz.prog 59 [(.pointer (some ⟨p, 0, none⟩)), (.int .i64 i)].toArray w fun e w' => ∃ (u : Value) (G' : Pin), e = .returned (.tuple #[(.agg [u].toArray), .bool (fitB (pd q i))]) ∧ DForm 99 3 G' w' w.heap.size w'.heap.size u (frmG (pd q i)) ∧ Ext noS G w G' w' := by
 refine zZ (n := 44) Tryz.func59 Tryz.ntmps59 rfl rfl ?_
 have hX0 : Ext noS G w G w := Ext.refl hP
 have hpin : PIn w (inP p L R B mm) p L R B mm := PIn.self
 have hml1 : (q.ns.map Nd.l).length = q.ns.length ∧ (q.ns.map Nd.r).length = q.ns.length := ⟨List.length_map .., List.length_map ..⟩
 have hml2 : q.bs.length = q.ns.length ∧ q.ns.length ≤ 1048576 := ⟨hok.ar.ok.len, hok.ar.ok.lim⟩
 have hi0 := hi.1
 have hi1 := hi.2
 have hone1 := place_one hi
 refine zD (zH ?_)
 refine qI rfl (xA [(.slice none 0 0)] zr32 rfl hX0.pins (fun b3 w4 hk5 hb6 hp7 hl8 => ?_))
 have hX9 := hX0.step hp7 hl8
 have hpk10 := hpk.below hl8 hp7
 have hlo16 : w.heap.size ≤ b3 := by have := hX0.size; omega
 refine qD rfl (zC (v := (.bool false)) rfl) ?_
 refine qe (zA (zD (zD (zH ?_))))
 refine qD rfl (zB (v := (.pointer (some ⟨p, 0, none⟩))) rfl) ?_
 refine qD rfl (zB (v := (.int .i64 i)) rfl) ?_
 refine qI rfl (yY (E := eInt) (e := 3) [(.int .i64 i)] [i] Tryz.underlying65 sz3 zr3 (by exact xV (by rfl)) (yZ (by rfl)) rfl rfl rfl rfl (by decide) hX9.pins (fun u17 w18 ho19 hp20 hl21 hk22 => ?_))
 have hX23 := hX9.step hp20 hl21
 have hb24 := hb6.below hl21
 have hpk25 := hpk10.below hl21 hp20
 have ha30 : Apart u17.ownBlock (some b3) := zN hk22 hb6.lt
 have ha31 := hpk10.new (x := u17.ownBlock) (fun k hk => by rw [hk22] at hk; cases hk; exact Nat.le_refl _)
 have ho32 : Own eInt 3 G w18 w.heap.size u17 ([i]) := ho19.weaken hX9.size
 obtain ⟨G40, hle43, hX42, hr41, hf44⟩ := ho32.sealed hX23
 have hb45 := hb24.moreO hf44 ha30.symm
 have hpk46 := hpk25.moreO hle43 hf44 ha31
 refine qI rfl (zO (vs := [(.pointer (some ⟨p, 0, none⟩)), u17]) Tryz.func103 nm103 rfl rfl rfl ?_)
 refine Calls.mono (parts_spec hX42.pins hpk46 hok hr41 hone1 (by simp)) ?_
 rintro _ w36 ⟨u33, zs34, G35, rfl, ho37, hpt38, hx39⟩
 refine ⟨_, rfl, ?_⟩
 have hX47 := hX42.tr hx39
 have hb48 := hb45.ext hx39
 have hpk49 := hpk46.ext hx39
 have ho52 : Own eInt 3 G35 w36 w.heap.size u33 zs34 := ho37.weaken hX42.size
 have hql53 := hpt38.len
 have hfl := form_len hok hi hpt38
 refine qD rfl (zQ Tryz.underlying65 (v := u33) rfl ho52.read) ?_
 refine qD rfl (r_gtr rfl rfl) ?_
 refine qe (zA ?_)
 refine yG (p := (120 : Int) < (zs34.length : Int)) rfl rfl (fun h54 => ?_) (fun h54 => ?_)
 ·skip
  refine zD (zH ?_)
  refine qD rfl (xP [(.slice none 0 0)] [(.slice none 0 0)] [] Tryz.underlying32 zr32 rfl pl32 rfl (fun _ h => by cases h) rfl) ?_
  refine q0 rfl rfl rfl (xF (cs' := [(.slice none 0 0)]) (us := [(.slice none 0 0)]) (v := (.agg [(.slice none 0 0)].toArray)) sz32 rfl rfl rfl (yZ (by rfl)) hX47.pins hb48 (Nat.le_of_ble_eq_true rfl) rfl (fun w55 hb56 hp57 hg58 hz59 => ?_))
  have hX60 := hX47.write hp57 hg58 ((yV hlo16))
  refine qD rfl (zC (v := (.bool false)) rfl) ?_
  refine qe (zA ?_)
  refine wp_ret ?_
  refine zX ?_
  refine c_retct (cs := [(.slice none 0 0)]) (v := (.bool false)) rfl rfl rfl rfl rfl ag32 sz32 (fun j u hj => by rw [Nat.zero_add]; exact hb56.cell hj) ?_
  have hfb : fitB (pd q i) = false := fit_long (by omega)
  rw [hfb, frm_no hfb]
  exact ⟨_, _, rfl, DForm.nil, hX60⟩
 refine wp_skip ?_
 refine zA (zD (zH ?_))
 refine qD rfl (zB (v := (.pointer (some ⟨p, 0, none⟩))) rfl) ?_
 refine qD rfl (zB (v := (.int .i64 i)) rfl) ?_
 refine qI rfl (yY (E := eInt) (e := 3) [(.int .i64 i)] [i] Tryz.underlying65 sz3 zr3 (by exact xV (by rfl)) (yZ (by rfl)) rfl rfl rfl rfl (by decide) hX47.pins (fun u63 w64 ho65 hp66 hl67 hk68 => ?_))
 have hX69 := hX47.step hp66 hl67
 have hb71 := hb48.below hl67
 have hpk72 := hpk49.below hl67 hp66
 have ha77 : Apart u63.ownBlock (some b3) := zN hk68 hb48.lt
 have ha79 := hpk49.new (x := u63.ownBlock) (fun k hk => by rw [hk68] at hk; cases hk; exact Nat.le_refl _)
 have ho80 : Own eInt 3 G35 w64 w.heap.size u63 ([i]) := ho65.weaken hX47.size
 obtain ⟨G99, hle102, hX101, hr100, hf103⟩ := ho80.sealed hX69
 have hb105 := hb71.moreO hf103 ha77.symm
 have hpk106 := hpk72.moreO hle102 hf103 ha79
 refine qI rfl (zO (vs := [(.pointer (some ⟨p, 0, none⟩)), u63]) Tryz.func66 nm66 rfl rfl rfl ?_)
 refine Calls.mono (order_spec hX101.pins hpk106 hok hr100 hone1 (by simp)) ?_
 rintro _ w87 ⟨u81, v82, ls83, ns84, zs85, G86, rfl, ho88, hd89, hor90, hpt91, hx92⟩
 refine ⟨_, rfl, ?_⟩
 have hX107 := hX101.tr hx92
 have hb109 := hb105.ext hx92
 have hpk110 := hpk106.ext hx92
 have hfo := hor90.form hok hpt91
 obtain ⟨ps93, hpl94, ho95, hlt96, hlv97, hap98⟩ := hd89.ex
 have ho116 := ho95.weaken hX101.size
 have hlv117 := (hlv97.weaken hX101.size (Nat.le_refl _)).top
 have ha118 : Apart (some b3) v82.ownBlock := (yB ho95.lt hb105.lt).symm
 have ha119 : ApL (lvN ps93 ns84) (some b3) := fun p hp => yB (hlv97.own p hp).lt hb105.lt
 refine qD rfl (zB (v := (.tuple #[u81, v82])) rfl) ?_
 refine qD rfl (xL (v := u81) rfl rfl) ?_
 refine qD rfl (xL (v := v82) rfl rfl) ?_
 refine qD rfl (zC (v := u81) rfl) ?_
 refine qD rfl (zC (v := v82) rfl) ?_
 refine qe (zA (zD (zD (zH ?_))))
 refine qD rfl (zB (v := v82) rfl) ?_
 refine qD rfl (zQ Tryz.underlying30 (v := v82) rfl ho116.read) ?_
 refine qD rfl (zB (v := (.int .i64 0)) rfl) ?_
 refine qe (zA ?_)
 refine yA ?_
 have hlo := hfo.1.lo
 have hlf := hfo.eq
 rw [hlf] at hfl
 refine yS (fun (k : Nat) (en : Nat → Value) (W : World) => ∃ (env1 : Nat → Value) (j : Nat) (GL1 : Pin), en = (upd (upd (upd (upd (upd env1 4 (.pointer (some ⟨b3, 0, none⟩))) 7 v82) 24 v82) 25 (.int .i64 (ps93.length : Int))) 26 (.int .i64 (j : Int))) ∧ k = ns84.length - j ∧ Ext noS G w GL1 W ∧ Pin.le G86 GL1 ∧ (j ≤ ns84.length) ∧ (∀ k, k < j → (ns84.getD k default).l.length ≤ 24 ∧ (ns84.getD k default).r.length ≤ 24) ∧ (Own eVal2 99 GL1 W w.heap.size v82 (ps93)) ∧ (Bx GL1 W b3 [(.slice none 0 0)]) ∧ (Lvs 3 GL1 W w.heap.size W.heap.size (lvN ps93 ns84)) ∧ (ApL (lvN ps93 ns84) v82.ownBlock) ∧ (ApL (lvN ps93 ns84) (some b3)) ∧ (Pk 65 3 GL1 W p L R B mm q)) _ ⟨_, 0, G86, (zG (x := 26) (zG (x := 25) (zG (x := 24) (zG (x := 7) (zV (x := 4) rfl) rfl) rfl) rfl) rfl), rfl, hX107, Pin.le_refl _, Nat.zero_le _, (fun k hk => absurd hk (Nat.not_lt_zero k)), ho116, hb109, hlv117, hap98, ha119, hpk110⟩ ?_
 rintro k124 _ w125 ⟨env1, j, GL1, rfl, hk126, hX127, hlek124, hj, hop, hw128, hw129, hlv130, ha131, ha132, hpk133⟩
 refine zD (zH ?_)
 refine qD rfl (yR rfl rfl) ?_
 refine qe (zA (zD ?_))
 refine yG (p := ((j : Int) : Int) < (ps93.length : Int)) rfl rfl (fun h134 => ?_) (fun h134 => ?_)
 ·skip
  refine wp_skip ?_
  refine zA (zD ?_)
  refine yA ?_
  refine zD (zH ?_)
  refine qD rfl (zM Tryz.underlying30 sz99 (v := v82) rfl rfl hw128.read (by omega) (by omega)) ?_
  obtain ⟨cs135, hrep136, hagg137, hcell138⟩ := nm_el (j := j) default (hw128.at (z := (j : Int)) (by omega) (by omega)) rfl
  obtain ⟨rfl, hone139, hone140⟩ := hrep136
  refine qD rfl (hagg137 ag99 sz99 rfl (Gadd.pins hX127.pins v82)) ?_
  refine qI rfl (xA [(.slice none 0 0), (.slice none 0 0)] zr99 rfl hX127.pins (fun b141 w142 hk143 hb144 hp145 hl146 => ?_))
  have hX147 := hX127.step hp145 hl146
  have ho148 := hw128.below hl146
  have hb149 := hw129.below hl146
  have hlv150 := (hlv130.below hl146).top
  have hpk151 := hpk133.below hl146 hp145
  have ha152 : Apart (some b141) v82.ownBlock := zK (congrArg some hk143) hw128.lt
  have ha156 : Apart (some b141) (some b3) := zN (congrArg some hk143) hw129.lt
  have ha158 : ApL (lvN ps93 ns84) (some b141) := ApL.fresh hlv130 (fun k hk => by rw [(congrArg some hk143)] at hk; cases hk; exact Nat.le_refl _)
  have ha159 := hpk133.new (x := (some b141)) (fun k hk => by rw [(congrArg some hk143)] at hk; cases hk; exact Nat.le_refl _)
  have hlo160 : w.heap.size ≤ b141 := by have := hX127.size; omega
  refine q0 rfl rfl rfl (xF (cs' := [(ps93.getD j default).1, (ps93.getD j default).2]) (us := [(ps93.getD j default).1, (ps93.getD j default).2]) (v := (.agg [(ps93.getD j default).1, (ps93.getD j default).2].toArray)) sz99 rfl rfl rfl (ones2 hone139 hone140) hX147.pins hb144 (Nat.le_of_ble_eq_true rfl) rfl (fun w161 hb162 hp163 hg164 hz165 => ?_))
  have hX166 := hX147.write hp163 hg164 ((yV hlo160))
  have ho167 := ho148.keptA hg164 ha152.symm
  have hb168 := hb149.keptA hg164 ha156.symm
  have hlv169 := (hlv150.kept hg164 ha158).top
  have hpk170 := hpk151.kept hg164 hp163 ha159
  obtain ⟨G171, hle172, hX173, hbp174, hf175⟩ := hb162.shut hX166 hlo160
  have ho176 := ho167.moreA hle172 hf175 ha152.symm
  have hb177 := hb168.moreA hf175 ha156.symm
  have hlv178 := hlv169.more hle172 hf175 ha158
  have hpk179 := hpk170.more hle172 hf175 ha159
  refine qe (zA (zD (zH ?_)))
  have hpj : ps93[j]? = some (ps93.getD j default) := by simp [List.getD, show j < ps93.length by omega]
  have hnj : ns84[j]? = some (ns84.getD j default) := by simp [List.getD, show j < ns84.length by omega]
  have hr180 := (hlv178.own _ (lvN_mem hpj hnj).1).read
  have hr181 := (hlv178.own _ (lvN_mem hpj hnj).2).read
  refine qD rfl (zR (k := 0) rfl Tryz.underlying99 rfl nz65 rfl) ?_
  refine qD rfl (zU (u := (ps93.getD j default).1) ag65 rfl (hX173.pins _ _ _ (hbp174 0 _ rfl))) ?_
  refine qD rfl (zQ Tryz.underlying65 (v := (ps93.getD j default).1) rfl hr180) ?_
  refine qD rfl (r_gtr rfl rfl) ?_
  refine qD rfl (zB (v := (.bool (decide ((24 : Int) < (((ns84.getD j default).l).length : Int))))) rfl) ?_
  refine qbd (p := (24 : Int) < (((ns84.getD j default).l).length : Int)) (t := 34) rfl (fun h182 => ?_) (fun h182 => ?_)
  ·skip
   refine qs rfl rfl rfl rfl rfl rfl ?_
   refine qs rfl rfl rfl rfl rfl rfl ?_
   refine qs rfl rfl rfl rfl rfl rfl ?_
   refine qs rfl rfl rfl rfl rfl rfl ?_
   refine qD rfl (xQ (v := (.bool true)) rfl rfl) ?_
   refine qe (zA ?_)
   refine c_ifT rfl rfl ?_
   refine zD (zH ?_)
   refine qD rfl (xP [(.slice none 0 0)] [(.slice none 0 0)] [] Tryz.underlying32 zr32 rfl pl32 rfl (fun _ h => by cases h) rfl) ?_
   refine q0 rfl rfl rfl (xF (cs' := [(.slice none 0 0)]) (us := [(.slice none 0 0)]) (v := (.agg [(.slice none 0 0)].toArray)) sz32 rfl rfl rfl (yZ (by rfl)) hX173.pins hb177 (Nat.le_of_ble_eq_true rfl) rfl (fun w183 hb184 hp185 hg186 hz187 => ?_))
   have hX188 := hX173.write hp185 hg186 ((yV hlo16))
   refine qD rfl (zC (v := (.bool false)) rfl) ?_
   refine qe (zA ?_)
   refine wp_ret ?_
   refine zX ?_
   refine c_retct (cs := [(.slice none 0 0)]) (v := (.bool false)) rfl rfl rfl rfl rfl ag32 sz32 (fun j u hj => by rw [Nat.zero_add]; exact hb184.cell hj) ?_
   have hfb : fitB (pd q i) = false := fit_opt hfo (k := j) (by omega) (by omega)
   rw [hfb, frm_no hfb]
   exact ⟨_, _, rfl, DForm.nil, hX188⟩
  refine qdg rfl rfl rfl rfl rfl rfl (zR (k := 1) rfl Tryz.underlying99 rfl nz65 rfl) ?_
  refine qdg rfl rfl rfl rfl rfl rfl (zU (u := (ps93.getD j default).2) ag65 rfl (hX173.pins _ _ _ (hbp174 1 _ rfl))) ?_
  refine qdg rfl rfl rfl rfl rfl rfl (zQ Tryz.underlying65 (v := (ps93.getD j default).2) rfl hr181) ?_
  refine qdg rfl rfl rfl rfl rfl rfl (r_gtr rfl rfl) ?_
  refine qD rfl (xI (v := (.bool (decide ((24 : Int) < (((ns84.getD j default).r).length : Int))))) rfl rfl) ?_
  refine qe (zA ?_)
  refine yG (p := (24 : Int) < (((ns84.getD j default).r).length : Int)) rfl rfl (fun h192 => ?_) (fun h192 => ?_)
  ·skip
   refine zD (zH ?_)
   refine qD rfl (xP [(.slice none 0 0)] [(.slice none 0 0)] [] Tryz.underlying32 zr32 rfl pl32 rfl (fun _ h => by cases h) rfl) ?_
   refine q0 rfl rfl rfl (xF (cs' := [(.slice none 0 0)]) (us := [(.slice none 0 0)]) (v := (.agg [(.slice none 0 0)].toArray)) sz32 rfl rfl rfl (yZ (by rfl)) hX173.pins hb177 (Nat.le_of_ble_eq_true rfl) rfl (fun w193 hb194 hp195 hg196 hz197 => ?_))
   have hX198 := hX173.write hp195 hg196 ((yV hlo16))
   refine qD rfl (zC (v := (.bool false)) rfl) ?_
   refine qe (zA ?_)
   refine wp_ret ?_
   refine zX ?_
   refine c_retct (cs := [(.slice none 0 0)]) (v := (.bool false)) rfl rfl rfl rfl rfl ag32 sz32 (fun j u hj => by rw [Nat.zero_add]; exact hb194.cell hj) ?_
   have hfb : fitB (pd q i) = false := fit_opt hfo (k := j) (by omega) (by omega)
   rw [hfb, frm_no hfb]
   exact ⟨_, _, rfl, DForm.nil, hX198⟩
  refine wp_skip ?_
  refine yN ?_
  refine zA (zH ?_)
  refine qD rfl (yT rfl rfl (by omega)) ?_
  refine qD rfl (zB (v := (.int .i64 ((j : Int) + 1))) rfl) ?_
  refine qe ?_
  refine yL ?_
  refine ⟨_, ?_, _, rfl, _, j + 1, G171, (zG (x := 26) (zG (x := 25) (zG (x := 24) (zG (x := 7) (zV (x := 4) rfl) rfl) rfl) rfl) rfl), rfl, hX173, (Pin.le_trans hlek124 hle172), (by omega), (fun k hk => if h : k = j then h ▸ (by omega) else hop k (by omega)), ho176, hb177, hlv178, ha131, ha132, hpk179⟩
  omega
 refine wp_exit ?_
 refine yD ?_
 refine yP ?_
 refine yO ?_
 refine zA (zD (zH ?_))
 refine qD rfl (zB (v := v82) rfl) ?_
 refine qD rfl (xP [(.slice none 0 0)] [v82] [(0, v82, [v82])] Tryz.underlying32 zr32 rfl pl32 rfl (List.forall_mem_cons.2 ⟨(xC hw128.one), (fun _ h => by cases h)⟩) rfl) ?_
 refine q0 rfl rfl rfl (xF (cs' := [v82]) (us := [v82]) (v := (.agg [v82].toArray)) sz32 rfl rfl rfl (yZ hw128.one) hX127.pins hw129 (Nat.le_of_ble_eq_true rfl) rfl (fun w202 hb203 hp204 hg205 hz206 => ?_))
 have hX207 := hX127.write hp204 hg205 ((yV hlo16))
 have ho208 := hw128.keptA hg205 ha118.symm
 have hlv209 := (hlv130.kept hg205 ha132).top
 refine qD rfl (zC (v := (.bool true)) rfl) ?_
 refine qe (zA ?_)
 refine wp_ret ?_
 refine zX ?_
 refine c_retct (cs := [v82]) (v := (.bool true)) rfl rfl rfl rfl rfl ag32 sz32 (fun j u hj => by rw [Nat.zero_add]; exact hb203.cell hj) ?_
 have hfb : fitB (pd q i) = true := fit_yes hfo (by omega) (fun k hk => hop k (by omega))
 rw [hfb, frm_yes hfo hfb]
 exact ⟨_, _, rfl, ⟨ps93, hpl94, ho208, (fun k hk => (ho208.lt k hk).2), hlv209, ha131⟩, hX207⟩

end FO1
end Go.Proofs.YtfnginkcmcfdfaaGreatDoor

set_option maxRecDepth 20000
set_option maxHeartbeats 2000000
namespace Go.Proofs.YtfnginkcmcfdfaaGreatDoor
namespace NG1
open Go.RowKit Go.GL Go.Proofs
open Go.Proofs.YtfnginkcmcfdfaaGreatDoor.B1
open Go.Proofs.YtfnginkcmcfdfaaGreatDoor.K1
open Go.Proofs.YtfnginkcmcfdfaaGreatDoor.PO1
open Go.Proofs.YtfnginkcmcfdfaaGreatDoor.PL1












def NegP (m p : Nat) (mm : PM) : Prop := ∀ {w : World} {G : Pin} {L R B : Value} {q : PSt} {f : Int} {qz : PSt} {S : List Nat} (_ : Pins G w) (_ : Pk 65 3 G w p L R B mm q) (_ : PoolOk q) (_ : PlaceOk q f) (_ : Bud qz q S) (_ : ∀ x, SubG (pd q f) x → negG x ∈ S), f.toNat < m →
  Calls Tryz.prog 82 [(.pointer (some ⟨p, 0, none⟩)), (.int .i64 f)].toArray w fun e w' => ∃ (z : Int) (L' R' B' : Value) (q' : PSt) (G' : Pin), e = .returned (.int .i64 z) ∧ Pk 65 3 G' w' p L' R' B' mm q' ∧ PoolOk q' ∧ PX q q' ∧ PLo w p L R B mm L' R' B' ∧ Ext (inP p L R B mm) G w G' w' ∧ PlaceOk q' z ∧ pd q' z = negG (pd q f) ∧ Bud qz q' S

theorem neg_step {w : World} {G : Pin} {L R B : Value} {q : PSt} {f : Int} {p : Nat} {mm : PM} {qz : PSt} {S : List Nat} {m : Nat} (hP : Pins G w) (hpk : Pk 65 3 G w p L R B mm q) (hok : PoolOk q) (hf : PlaceOk q f) (hbd : Bud qz q S) (hS : ∀ x, SubG (pd q f) x → negG x ∈ S) (ih : NegP m p mm) (hm : f.toNat < m + 1) :
  Calls Tryz.prog 82 [(.pointer (some ⟨p, 0, none⟩)), (.int .i64 f)].toArray w fun e w' => ∃ (z : Int) (L' R' B' : Value) (q' : PSt) (G' : Pin), e = .returned (.int .i64 z) ∧ Pk 65 3 G' w' p L' R' B' mm q' ∧ PoolOk q' ∧ PX q q' ∧ PLo w p L R B mm L' R' B' ∧ Ext (inP p L R B mm) G w G' w' ∧ PlaceOk q' z ∧ pd q' z = negG (pd q f) ∧ Bud qz q' S := by
 refine zZ (n := 76) Tryz.func82 Tryz.ntmps82 rfl rfl ?_
 have hX0 : Ext (inP p L R B mm) G w G w := Ext.refl hP
 have hpin : PIn w (inP p L R B mm) p L R B mm := PIn.self
 have hml1 : (q.ns.map Nd.l).length = q.ns.length ∧ (q.ns.map Nd.r).length = q.ns.length := ⟨List.length_map .., List.length_map ..⟩
 have hml2 : q.bs.length = q.ns.length ∧ q.ns.length ≤ 1048576 := ⟨hok.ar.ok.len, hok.ar.ok.lim⟩
 have hf0 := hf.1
 have hf1 := hf.2
 have hol0 := hok.ar.ok.lens (f).toNat (by omega)
 refine zD (zH ?_)
 refine qD rfl (zC (v := (.int .i64 0)) rfl) ?_
 refine qe (zA (zD (zD (zH ?_))))
 refine qD rfl (zB (v := (.pointer (some ⟨p, 0, none⟩))) rfl) ?_
 refine qD rfl (xM rfl) ?_
 refine qD rfl (zR (k := 7) rfl Tryz.underlying72 rfl nz69 rfl) ?_
 refine qD rfl (zU (u := (.map (some mm.n))) ag69 rfl (hpk.bx.cell (o := 7) rfl)) ?_
 refine qD rfl (zB (v := (.int .i64 f)) rfl) ?_
 refine qD rfl (run_lookv_int (k := f) (key_int Tryz.underlying3) Tryz.underlying69 zr3 hpk.fn rfl rfl) ?_
 refine qD rfl (zB (v := (.tuple #[(.int .i64 ((Go.GL.look q.gm f).getD 0)), (.bool ((Go.GL.look q.gm f).isSome))])) rfl) ?_
 refine qD rfl (xL (v := (.int .i64 ((Go.GL.look q.gm f).getD 0))) rfl rfl) ?_
 refine qD rfl (xL (v := (.bool ((Go.GL.look q.gm f).isSome))) rfl rfl) ?_
 refine qD rfl (zC (v := (.int .i64 ((Go.GL.look q.gm f).getD 0))) rfl) ?_
 refine qD rfl (zC (v := (.bool ((Go.GL.look q.gm f).isSome))) rfl) ?_
 refine qe (zA (zD (zH ?_)))
 refine qD rfl (zB (v := (.bool ((Go.GL.look q.gm f).isSome))) rfl) ?_
 refine qe (zA ?_)
 refine c_if rfl rfl (fun h3 => ?_) (fun h3 => ?_)
 ·skip
  refine zD (zH ?_)
  refine qD rfl (zB (v := (.int .i64 ((Go.GL.look q.gm f).getD 0))) rfl) ?_
  refine qD rfl (zC (v := (.int .i64 ((Go.GL.look q.gm f).getD 0))) rfl) ?_
  refine qe (zA ?_)
  refine wp_ret ?_
  refine zX ?_
  refine zT (v := (.int .i64 ((Go.GL.look q.gm f).getD 0))) rfl rfl rfl ?_
  obtain ⟨z, hz⟩ := Option.isSome_iff_exists.1 h3
  obtain ⟨_, f1, f2⟩ := hok.neg f z hz
  rw [hz]
  exact ⟨z, L, R, B, q, G, rfl, hpk, hok, (PX.refl _), PIn.lo hpin rfl, hX0, f1, f2, hbd⟩
 refine wp_skip ?_
 refine zA (zD (zH ?_))
 refine qI rfl (xH (E := eInt) (e := 3) Tryz.underlying65 sz3 hX0.pins (fun u4 w5 ho6 hp7 hl8 hk9 => ?_))
 have hX10 := hX0.step hp7 hl8
 have hpk11 := hpk.below hl8 hp7
 have ha16 := hpk.new (x := u4.ownBlock) (fun k hk => by rw [hk9] at hk; cases hk; exact Nat.le_refl _)
 have ho17 : Own eInt 3 G w5 w.heap.size u4 ([]) := ho6.weaken hX0.size
 refine qI rfl (xH (E := eInt) (e := 3) Tryz.underlying65 sz3 hX10.pins (fun u18 w19 ho20 hp21 hl22 hk23 => ?_))
 have hX24 := hX10.step hp21 hl22
 have ho25 := ho17.below hl22
 have hpk26 := hpk11.below hl22 hp21
 have ha30 : Apart u18.ownBlock u4.ownBlock := zK hk23 ho17.lt
 have ha32 := hpk11.new (x := u18.ownBlock) (fun k hk => by rw [hk23] at hk; cases hk; exact Nat.le_refl _)
 have ho33 : Own eInt 3 G w19 w.heap.size u18 ([]) := ho20.weaken hX10.size
 refine qD rfl (zC (v := u4) rfl) ?_
 refine qD rfl (zC (v := u18) rfl) ?_
 refine qe (zA (zD (zD (zH ?_))))
 refine qD rfl (zB (v := (.pointer (some ⟨p, 0, none⟩))) rfl) ?_
 refine qD rfl (xM rfl) ?_
 refine qD rfl (zR (k := 1) rfl Tryz.underlying72 rfl nz66 rfl) ?_
 refine qD rfl (zU (u := R) ag66 rfl (hpk26.bx.cell (o := 1) rfl)) ?_
 refine qD rfl (zB (v := (.int .i64 f)) rfl) ?_
 refine qD rfl (zM Tryz.underlying66 sz65 (v := R) rfl rfl hpk26.rr.read (by omega) (by omega)) ?_
 obtain ⟨u34, hr35, hl36⟩ := nm_sl (hpk26.rr.at (z := f) (by omega) (by omega)) (j := (f).toNat) rfl
 rw [mapr_getD] at hr35
 have hm37 := hr35.max
 refine qD rfl (hl36 ag65 rfl (Gadd.pins hX24.pins R)) ?_
 refine qD rfl (zQ Tryz.underlying65 (v := u34) rfl hr35) ?_
 refine qD rfl (zB (v := (.int .i64 0)) rfl) ?_
 refine qe (zA ?_)
 refine yA ?_
 refine yS (fun (k : Nat) (en : Nat → Value) (W : World) => ∃ (env1 : Nat → Value) (j1 : Nat) (lv1 : Value) (ls1 : List Int) (L38 : Value) (R39 : Value) (B40 : Value) (q41 : PSt) (GL1 : Pin), en = (upd (upd (upd (upd (upd (upd (upd (upd env1 0 (.pointer (some ⟨p, 0, none⟩))) 1 (.int .i64 f)) 4 (.int .i64 0)) 7 lv1) 8 u18) 33 u34) 34 (.int .i64 (((q.ns.getD (f).toNat default).r).length : Int))) 35 (.int .i64 (j1 : Int))) ∧ k = (q.ns.getD (f).toNat default).r.length - j1 ∧ Ext (inP p L R B mm) G w GL1 W ∧ Pin.le G GL1 ∧ (j1 ≤ (q.ns.getD (f).toNat default).r.length) ∧ (GsOk q41 ls1 ([] ++ ((q.ns.getD (f).toNat default).r.take j1).map fun o => negG (pd q o))) ∧ (Bud qz q41 S) ∧ (Own eInt 3 GL1 W w.heap.size lv1 (ls1)) ∧ (Own eInt 3 GL1 W w.heap.size u18 ([])) ∧ (Apart lv1.ownBlock u18.ownBlock) ∧ (Pk 65 3 GL1 W p L38 R39 B40 mm q41) ∧ (PIn w ((inP p L R B mm)) p L38 R39 B40 mm) ∧ (PoolOk q41) ∧ (PX q q41) ∧ (NP p L38 R39 B40 mm lv1.ownBlock) ∧ (NP p L38 R39 B40 mm u18.ownBlock)) _ ⟨_, 0, u4, [], L, R, B, q, G, (zG (x := 35) (zG (x := 34) (zG (x := 33) (zG (x := 8) (zG (x := 7) (zG (x := 4) (zG (x := 1) (zV (x := 0) rfl) rfl) rfl) rfl) rfl) rfl) rfl) rfl), rfl, hX24, Pin.le_refl _, Nat.zero_le _, GsOk.nil, hbd, ho25, ho33, ha30.symm, hpk26, hpin, hok, (PX.refl _), ha16, ha32⟩ ?_
 rintro k42 _ w43 ⟨env1, j1, lv1, ls1, L38, R39, B40, q41, GL1, rfl, hk44, hX45, hlek42, hkj1, hg1, hbuj1, hw46, hw47, ha48, hpk49, hpin50, hok51, hpx52, hnp53, hnp54⟩
 have hql55 := hpx52.len
 have hml56 : (q41.ns.map Nd.l).length = q41.ns.length ∧ (q41.ns.map Nd.r).length = q41.ns.length := ⟨List.length_map .., List.length_map ..⟩
 have hml57 : q41.bs.length = q41.ns.length ∧ q41.ns.length ≤ 1048576 := ⟨hok51.ar.ok.len, hok51.ar.ok.lim⟩
 have hglj1 := hg1.lenj hkj1
 rw [List.length_nil] at hglj1
 refine zD (zH ?_)
 refine qD rfl (yR rfl rfl) ?_
 refine qe (zA (zD ?_))
 refine yG (p := ((j1 : Int) : Int) < (((q.ns.getD (f).toNat default).r).length : Int)) rfl rfl (fun h58 => ?_) (fun h58 => ?_)
 ·skip
  have hmj : (q.ns.getD (f).toNat default).r.getD j1 0 ∈ (q.ns.getD (f).toNat default).r := yU (show j1 < (q.ns.getD (f).toNat default).r.length by omega)
  have hoj := (opts_place hok hf).2 _ hmj
  have hoj1 := hoj.1
  have hoz := ((xB hok.ar.opts (show (f).toNat < q.ns.length by omega)).2 _ hmj).2
  have hsb := sub_r hok hf hmj
  refine wp_skip ?_
  refine zA (zD ?_)
  refine yA ?_
  refine zD (zH ?_)
  refine qD rfl (zM Tryz.underlying65 sz3 (v := u34) rfl rfl hr35 (by omega) (by omega)) ?_
  refine qD rfl (zL (r := ((q.ns.getD (f).toNat default).r).getD j1 0) rfl ag3 (z := (j1 : Int)) rfl hr35 (Pins.of_le hX45.pins hlek42) (by omega) (by omega)) ?_
  refine qD rfl (zC (v := (.int .i64 (((q.ns.getD (f).toNat default).r).getD j1 0))) rfl) ?_
  refine qe (zA (zH ?_))
  refine qD rfl (zB (v := lv1) rfl) ?_
  refine qD rfl (zB (v := (.pointer (some ⟨p, 0, none⟩))) rfl) ?_
  refine qD rfl (zB (v := (.int .i64 (((q.ns.getD (f).toNat default).r).getD j1 0))) rfl) ?_
  refine qI rfl (zO (vs := [(.pointer (some ⟨p, 0, none⟩)), (.int .i64 (((q.ns.getD (f).toNat default).r).getD j1 0))]) Tryz.func82 nm82 rfl rfl rfl ?_)
  refine Calls.mono (ih hX45.pins hpk49 hok51 (hpx52.place hoj) hbuj1 (fun x hx => hS x (hsb.trans (by rw [hpx52.pd hok hok51 hoj] at hx; exact hx))) (by omega)) ?_
  rintro _ w68 ⟨z59, L63, R64, B65, q66, G67, rfl, hpk69, hok70, hpx71, hlo72, hx73, hpl60, hpd61, hbu62⟩
  refine ⟨_, rfl, ?_⟩
  have hX74 := hX45.trans hx73 hpin50
  have ho75 := hw46.extS hx73 hnp53
  have hnp76 := NP.call hnp53 hlo72 (xW hw46)
  have ho77 := hw47.extS hx73 hnp54
  have hnp78 := NP.call hnp54 hlo72 (xW hw47)
  have hpin79 := PIn.call hpin50 hlo72 hX45.size
  have hql80 := hpx71.len
  have hml81 : (q66.ns.map Nd.l).length = q66.ns.length ∧ (q66.ns.map Nd.r).length = q66.ns.length := ⟨List.length_map .., List.length_map ..⟩
  have hml82 : q66.bs.length = q66.ns.length ∧ q66.ns.length ≤ 1048576 := ⟨hok70.ar.ok.len, hok70.ar.ok.lim⟩
  refine qI rfl (yY (E := eInt) (e := 3) [(.int .i64 z59)] [z59] Tryz.underlying65 sz3 zr3 (by exact xV (by rfl)) (yZ (by rfl)) rfl rfl rfl rfl (by decide) hX74.pins (fun u83 w84 ho85 hp86 hl87 hk88 => ?_))
  have hX89 := hX74.step hp86 hl87
  have ho90 := ho75.below hl87
  have ho91 := ho77.below hl87
  have hpk92 := hpk69.below hl87 hp86
  have ho100 : Own eInt 3 G67 w84 w.heap.size u83 ([z59]) := ho85.weaken hX74.size
  refine qI rfl (yC (E := eInt) (v := lv1) (u := u83) 8 Tryz.underlying65 ap3 (by decide) rfl rfl hX89.pins ho90 ho100.src (by first | omega | (rw [List.nil_append]; omega) | (rw [List.length_nil]; omega) | (rw [List.length_append]; omega) | (simp; done) | (simp; omega) | (simp only [List.length_append, List.length_cons, List.length_nil]; omega)) (by first | omega | (rw [List.nil_append]; omega) | (rw [List.length_nil]; omega) | (rw [List.length_append]; omega) | (simp; done) | (simp; omega) | (simp only [List.length_append, List.length_cons, List.length_nil]; omega)) (hX89.size) (fun u101 w102 ho103 hp104 hg105 hw106 => ?_))
  have hX107 := hX89.write hp104 hg105 ((yH ho90))
  have ho108 := ho91.keptA hg105 ha48.symm
  have hpk110 := hpk92.kept hg105 hp104 hnp76
  have ha111 : Apart u18.ownBlock u101.ownBlock := zJ ha48.symm hw106 ho91.lt
  have hnp113 := np_app hnp76 hpk92 hw106
  have hm114 : (ls1 ++ ([z59])).length = ls1.length + 1 := List.length_append
  refine qD rfl (zC (v := u101) rfl) ?_
  refine qe ?_
  refine yN ?_
  refine zA (zH ?_)
  refine qD rfl (yT rfl rfl (by omega)) ?_
  refine qD rfl (zB (v := (.int .i64 ((j1 : Int) + 1))) rfl) ?_
  refine qe ?_
  refine yL ?_
  refine ⟨_, ?_, _, rfl, _, j1 + 1, u101, ls1 ++ ([z59]), L63, R64, B65, q66, G67, (zG (x := 35) (zG (x := 34) (zG (x := 33) (zG (x := 8) (zG (x := 7) (zG (x := 4) (zG (x := 1) (zV (x := 0) rfl) rfl) rfl) rfl) rfl) rfl) rfl) rfl), rfl, hX107, (Pin.le_trans hlek42 hx73.le), (by omega), (hg1.next hpx71 hok51 hok70 hpl60 (by omega) (hpd61.trans (by rw [hpx52.pd hok hok51 hoj]))), hbu62, ho103, ho108, ha111.symm, hpk110, hpin79, hok70, (PX.trans hpx52 hpx71), hnp113, hnp78⟩
  omega
 refine wp_exit ?_
 refine yD ?_
 refine yP ?_
 refine yO ?_
 refine zA (zD (zD (zH ?_)))
 refine qD rfl (zB (v := (.pointer (some ⟨p, 0, none⟩))) rfl) ?_
 refine qD rfl (xM rfl) ?_
 refine qD rfl (zR (k := 0) rfl Tryz.underlying72 rfl nz66 rfl) ?_
 refine qD rfl (zU (u := L38) ag66 rfl (hpk49.bx.cell (o := 0) rfl)) ?_
 refine qD rfl (zB (v := (.int .i64 f)) rfl) ?_
 refine qD rfl (zM Tryz.underlying66 sz65 (v := L38) rfl rfl hpk49.ol.read (by omega) (by omega)) ?_
 obtain ⟨u115, hr116, hl117⟩ := nm_sl (hpk49.ol.at (z := f) (by omega) (by omega)) (j := (f).toNat) rfl
 rw [mapl_getD] at hr116
 have hm118 := hr116.max
 refine qD rfl (hl117 ag65 rfl (Gadd.pins hX45.pins L38)) ?_
 refine qD rfl (zQ Tryz.underlying65 (v := u115) rfl hr116) ?_
 refine qD rfl (zB (v := (.int .i64 0)) rfl) ?_
 refine qe (zA ?_)
 refine yA ?_
 have hold : q41.ns.getD (f).toNat default = q.ns.getD (f).toNat default := hpx52.old _ (by omega)
 have holdl : (q41.ns.getD (f).toNat default).l.length = (q.ns.getD (f).toNat default).l.length := by rw [hold]
 rw [hold] at hr116
 have hj1 : j1 = (q.ns.getD (f).toNat default).r.length := by omega
 have hg1d := hg1.done hj1
 refine yS (fun (k : Nat) (en : Nat → Value) (W : World) => ∃ (env1 : Nat → Value) (j2 : Nat) (lv2 : Value) (ls2 : List Int) (L119 : Value) (R120 : Value) (B121 : Value) (q122 : PSt) (GL2 : Pin), en = (upd (upd (upd (upd (upd (upd (upd (upd env1 0 (.pointer (some ⟨p, 0, none⟩))) 1 (.int .i64 f)) 4 (.int .i64 0)) 7 lv1) 8 lv2) 52 u115) 53 (.int .i64 (((q41.ns.getD (f).toNat default).l).length : Int))) 54 (.int .i64 (j2 : Int))) ∧ k = (q.ns.getD (f).toNat default).l.length - j2 ∧ Ext (inP p L R B mm) G w GL2 W ∧ Pin.le GL1 GL2 ∧ (j2 ≤ (q.ns.getD (f).toNat default).l.length) ∧ (GsOk q122 ls2 ([] ++ ((q.ns.getD (f).toNat default).l.take j2).map fun o => negG (pd q o))) ∧ (Bud qz q122 S) ∧ (GsOk q122 ls1 ([] ++ (q.ns.getD (f).toNat default).r.map fun o => negG (pd q o))) ∧ (Own eInt 3 GL2 W w.heap.size lv2 (ls2)) ∧ (Own eInt 3 GL2 W w.heap.size lv1 (ls1)) ∧ (Apart lv2.ownBlock lv1.ownBlock) ∧ (Pk 65 3 GL2 W p L119 R120 B121 mm q122) ∧ (PIn w ((inP p L R B mm)) p L119 R120 B121 mm) ∧ (PoolOk q122) ∧ (PX q41 q122) ∧ (NP p L119 R120 B121 mm lv2.ownBlock) ∧ (NP p L119 R120 B121 mm lv1.ownBlock)) _ ⟨_, 0, u18, [], L38, R39, B40, q41, GL1, (zG (x := 54) (zG (x := 53) (zG (x := 52) (zG (x := 8) (zG (x := 7) (zG (x := 4) (zG (x := 1) (zV (x := 0) rfl) rfl) rfl) rfl) rfl) rfl) rfl) rfl), rfl, hX45, Pin.le_refl _, Nat.zero_le _, GsOk.nil, hbuj1, hg1d, hw47, hw46, ha48.symm, hpk49, hpin50, hok51, (PX.refl _), hnp54, hnp53⟩ ?_
 rintro k123 _ w124 ⟨env1, j2, lv2, ls2, L119, R120, B121, q122, GL2, rfl, hk125, hX126, hlek123, hkj2, hg2, hbuj2, hg1e, hw127, hw128, ha129, hpk130, hpin131, hok132, hpx133, hnp134, hnp135⟩
 have hql136 := hpx133.len
 have hml137 : (q122.ns.map Nd.l).length = q122.ns.length ∧ (q122.ns.map Nd.r).length = q122.ns.length := ⟨List.length_map .., List.length_map ..⟩
 have hml138 : q122.bs.length = q122.ns.length ∧ q122.ns.length ≤ 1048576 := ⟨hok132.ar.ok.len, hok132.ar.ok.lim⟩
 have hglj2 := hg2.lenj hkj2
 rw [List.length_nil] at hglj2
 refine zD (zH ?_)
 refine qD rfl (yR rfl rfl) ?_
 refine qe (zA (zD ?_))
 refine yG (p := ((j2 : Int) : Int) < (((q41.ns.getD (f).toNat default).l).length : Int)) rfl rfl (fun h139 => ?_) (fun h139 => ?_)
 ·skip
  have hmj : (q.ns.getD (f).toNat default).l.getD j2 0 ∈ (q.ns.getD (f).toNat default).l := yU (show j2 < (q.ns.getD (f).toNat default).l.length by omega)
  have hoj := (opts_place hok hf).1 _ hmj
  have hoj1 := hoj.1
  have hoz := ((xB hok.ar.opts (show (f).toNat < q.ns.length by omega)).1 _ hmj).2
  have hsb := sub_l hok hf hmj
  refine wp_skip ?_
  refine zA (zD ?_)
  refine yA ?_
  refine zD (zH ?_)
  refine qD rfl (zM Tryz.underlying65 sz3 (v := u115) rfl rfl hr116 (by omega) (by omega)) ?_
  refine qD rfl (zL (r := ((q.ns.getD (f).toNat default).l).getD j2 0) rfl ag3 (z := (j2 : Int)) rfl hr116 (Pins.of_le hX126.pins hlek123) (by omega) (by omega)) ?_
  refine qD rfl (zC (v := (.int .i64 (((q.ns.getD (f).toNat default).l).getD j2 0))) rfl) ?_
  refine qe (zA (zH ?_))
  refine qD rfl (zB (v := lv2) rfl) ?_
  refine qD rfl (zB (v := (.pointer (some ⟨p, 0, none⟩))) rfl) ?_
  refine qD rfl (zB (v := (.int .i64 (((q.ns.getD (f).toNat default).l).getD j2 0))) rfl) ?_
  refine qI rfl (zO (vs := [(.pointer (some ⟨p, 0, none⟩)), (.int .i64 (((q.ns.getD (f).toNat default).l).getD j2 0))]) Tryz.func82 nm82 rfl rfl rfl ?_)
  refine Calls.mono (ih hX126.pins hpk130 hok132 ((PX.trans hpx52 hpx133).place hoj) hbuj2 (fun x hx => hS x (hsb.trans (by rw [(PX.trans hpx52 hpx133).pd hok hok132 hoj] at hx; exact hx))) (by omega)) ?_
  rintro _ w149 ⟨z140, L144, R145, B146, q147, G148, rfl, hpk150, hok151, hpx152, hlo153, hx154, hpl141, hpd142, hbu143⟩
  refine ⟨_, rfl, ?_⟩
  have hX155 := hX126.trans hx154 hpin131
  have ho156 := hw127.extS hx154 hnp134
  have hnp157 := NP.call hnp134 hlo153 (xW hw127)
  have ho158 := hw128.extS hx154 hnp135
  have hnp159 := NP.call hnp135 hlo153 (xW hw128)
  have hpin160 := PIn.call hpin131 hlo153 hX126.size
  have hql161 := hpx152.len
  have hml162 : (q147.ns.map Nd.l).length = q147.ns.length ∧ (q147.ns.map Nd.r).length = q147.ns.length := ⟨List.length_map .., List.length_map ..⟩
  have hml163 : q147.bs.length = q147.ns.length ∧ q147.ns.length ≤ 1048576 := ⟨hok151.ar.ok.len, hok151.ar.ok.lim⟩
  refine qI rfl (yY (E := eInt) (e := 3) [(.int .i64 z140)] [z140] Tryz.underlying65 sz3 zr3 (by exact xV (by rfl)) (yZ (by rfl)) rfl rfl rfl rfl (by decide) hX155.pins (fun u164 w165 ho166 hp167 hl168 hk169 => ?_))
  have hX170 := hX155.step hp167 hl168
  have ho171 := ho156.below hl168
  have ho172 := ho158.below hl168
  have hpk173 := hpk150.below hl168 hp167
  have ho181 : Own eInt 3 G148 w165 w.heap.size u164 ([z140]) := ho166.weaken hX155.size
  refine qI rfl (yC (E := eInt) (v := lv2) (u := u164) 8 Tryz.underlying65 ap3 (by decide) rfl rfl hX170.pins ho171 ho181.src (by first | omega | (rw [List.nil_append]; omega) | (rw [List.length_nil]; omega) | (rw [List.length_append]; omega) | (simp; done) | (simp; omega) | (simp only [List.length_append, List.length_cons, List.length_nil]; omega)) (by first | omega | (rw [List.nil_append]; omega) | (rw [List.length_nil]; omega) | (rw [List.length_append]; omega) | (simp; done) | (simp; omega) | (simp only [List.length_append, List.length_cons, List.length_nil]; omega)) (hX170.size) (fun u182 w183 ho184 hp185 hg186 hw187 => ?_))
  have hX188 := hX170.write hp185 hg186 ((yH ho171))
  have ho189 := ho172.keptA hg186 ha129.symm
  have hpk191 := hpk173.kept hg186 hp185 hnp157
  have ha192 : Apart lv1.ownBlock u182.ownBlock := zJ ha129.symm hw187 ho172.lt
  have hnp194 := np_app hnp157 hpk173 hw187
  have hm195 : (ls2 ++ ([z140])).length = ls2.length + 1 := List.length_append
  refine qD rfl (zC (v := u182) rfl) ?_
  refine qe ?_
  refine yN ?_
  refine zA (zH ?_)
  refine qD rfl (yT rfl rfl (by omega)) ?_
  refine qD rfl (zB (v := (.int .i64 ((j2 : Int) + 1))) rfl) ?_
  refine qe ?_
  refine yL ?_
  refine ⟨_, ?_, _, rfl, _, j2 + 1, u182, ls2 ++ ([z140]), L144, R145, B146, q147, G148, (zG (x := 54) (zG (x := 53) (zG (x := 52) (zG (x := 8) (zG (x := 7) (zG (x := 4) (zG (x := 1) (zV (x := 0) rfl) rfl) rfl) rfl) rfl) rfl) rfl) rfl), rfl, hX188, (Pin.le_trans hlek123 hx154.le), (by omega), (hg2.next hpx152 hok132 hok151 hpl141 (by omega) (hpd142.trans (by rw [(PX.trans hpx52 hpx133).pd hok hok132 hoj]))), hbu143, (hg1e.px hpx152 hok132 hok151), ho184, ho189, ha192.symm, hpk191, hpin160, hok151, (PX.trans hpx133 hpx152), hnp194, hnp159⟩
  omega
 refine wp_exit ?_
 refine yD ?_
 refine yP ?_
 refine yO ?_
 refine zA (zD (zH ?_))
 refine qD rfl (zB (v := (.pointer (some ⟨p, 0, none⟩))) rfl) ?_
 refine qD rfl (zB (v := lv1) rfl) ?_
 refine qD rfl (zB (v := lv2) rfl) ?_
 obtain ⟨G196, hle199, hX198, hr197, hf200⟩ := hw128.sealed hX126
 have ho201 := hw127.moreO hle199 hf200 ha129
 have hpk202 := hpk130.moreO hle199 hf200 hnp135
 obtain ⟨G203, hle206, hX205, hr204, hf207⟩ := ho201.sealed hX198
 have hpk208 := hpk202.moreO hle206 hf207 hnp134
 have hj2 : j2 = (q.ns.getD (f).toNat default).l.length := by omega
 have hg2d := hg2.done hj2
 have hl1 := hg1e.len
 have hl2 := hg2d.len
 rw [List.nil_append, List.length_map] at hl1 hl2
 refine qI rfl (zO (vs := [(.pointer (some ⟨p, 0, none⟩)), lv1, lv2]) Tryz.func79 nm79 rfl rfl rfl ?_)
 refine Calls.mono (node_spec hX205.pins hpk208 hok132 (hr197.mono hle206) hr204 (hbuj2.room hok132) ⟨by omega, by omega⟩ (qP hg1e.pl) (qP hg2d.pl)) ?_
 rintro _ w219 ⟨z209, L214, R215, B216, q217, G218, rfl, hpk220, hok221, hpx222, hlo223, hx224, hpl210, hpd211, hqn212, hcm213⟩
 refine ⟨_, rfl, ?_⟩
 have hX225 := hX205.trans hx224 hpin131
 have hpin226 := PIn.call hpin131 hlo223 hX205.size
 have hql227 := hpx222.len
 have hml228 : (q217.ns.map Nd.l).length = q217.ns.length ∧ (q217.ns.map Nd.r).length = q217.ns.length := ⟨List.length_map .., List.length_map ..⟩
 have hml229 : q217.bs.length = q217.ns.length ∧ q217.ns.length ≤ 1048576 := ⟨hok221.ar.ok.len, hok221.ar.ok.lim⟩
 have hng : pd q217 z209 = negG (pd q f) := by rw [hpd211, hg1e.eq, hg2d.eq, List.nil_append, List.nil_append]; exact neg_node hok hf
 have hbn := hbuj2.node hok132 hok221 hpx222 hqn212 hcm213.2 (by rw [hng]; exact hS _ .self)
 have hf4 := (PX.trans (PX.trans hpx52 hpx133) hpx222).place hf
 have hpf4 := (PX.trans (PX.trans hpx52 hpx133) hpx222).pd hok hok221 hf
 refine qD rfl (zC (v := (.int .i64 z209)) rfl) ?_
 refine qe (zA (zD (zH ?_)))
 refine qD rfl (zB (v := (.pointer (some ⟨p, 0, none⟩))) rfl) ?_
 refine qD rfl (xM rfl) ?_
 refine qD rfl (zR (k := 7) rfl Tryz.underlying72 rfl nz69 rfl) ?_
 refine qD rfl (zU (u := (.map (some mm.n))) ag69 rfl (hpk220.bx.cell (o := 7) rfl)) ?_
 refine qD rfl (zB (v := (.int .i64 f)) rfl) ?_
 refine qD rfl (zB (v := (.int .i64 z209)) rfl) ?_
 refine q0 rfl rfl rfl (o_mapUpdate (val := (fun v : Int => Value.int .i64 v)) (k := f) (v := z209) (key_int Tryz.underlying3) Tryz.underlying69 rfl rfl rfl hX225.pins hpk220.fn (fun w230 hm231 hp232 hg233 hz234 => ?_))
 have hX236 := hX225.trans (Ext.one hp232 hg233) (fun i hi => (PIn.n hpin226) i hi)
 have hpk235 := hpk220.setN (Ext.one hp232 hg233) hm231
 have hok239 := PoolOk.setN hok221 hf4 hpl210 (by rw [hng, hpf4])
 obtain ⟨q237, hq238⟩ : ∃ q, q = ({ q217 with gm := putE q217.gm f z209 } : PSt) := ⟨_, rfl⟩
 rw [← hq238] at hpk235 hok239
 have hq238n : q237.ns = q217.ns ∧ q237.bs = q217.bs := by rw [hq238]; exact ⟨rfl, rfl⟩
 have hq238x : PX q217 q237 := by rw [hq238]; exact ⟨Nat.le_refl _, fun _ _ => rfl, fun _ h => h⟩
 have hml240 : (q237.ns.map Nd.l).length = q237.ns.length ∧ (q237.ns.map Nd.r).length = q237.ns.length := ⟨List.length_map .., List.length_map ..⟩
 have hml241 : q237.bs.length = q237.ns.length ∧ q237.ns.length ≤ 1048576 := ⟨hok239.ar.ok.len, hok239.ar.ok.lim⟩
 have hql242 := hq238x.len
 refine qe (zA (zD (zH ?_)))
 refine qD rfl (zB (v := (.int .i64 z209)) rfl) ?_
 refine qD rfl (zC (v := (.int .i64 z209)) rfl) ?_
 refine qe (zA ?_)
 refine wp_ret ?_
 refine zX ?_
 refine zT (v := (.int .i64 z209)) rfl rfl rfl ?_
 exact ⟨_, L214, R215, B216, q237, G218, rfl, hpk235, hok239, (PX.trans (PX.trans (PX.trans hpx52 hpx133) hpx222) hq238x), PIn.lo hpin226 rfl, hX236, hpl210.same hq238n, (by rw [pd_same hq238n]; exact hng), hbn.same hq238x hq238n⟩

theorem neg_all {p : Nat} {mm : PM} : ∀ m, NegP m p mm
 | 0 => fun _ _ _ _ _ _ h => absurd h (Nat.not_lt_zero _)
 | m + 1 => fun hP hpk hok hf hb hS hm => neg_step hP hpk hok hf hb hS (neg_all m) hm
theorem neg_spec {w : World} {G : Pin} {L R B : Value} {q : PSt} {f : Int} {p : Nat} {mm : PM} {qz : PSt} {S : List Nat} (hP : Pins G w) (hpk : Pk 65 3 G w p L R B mm q) (hok : PoolOk q) (hf : PlaceOk q f) (hbd : Bud qz q S) (hS : ∀ x, SubG (pd q f) x → negG x ∈ S) :
  Calls Tryz.prog 82 [(.pointer (some ⟨p, 0, none⟩)), (.int .i64 f)].toArray w fun e w' => ∃ (z : Int) (L' R' B' : Value) (q' : PSt) (G' : Pin), e = .returned (.int .i64 z) ∧ Pk 65 3 G' w' p L' R' B' mm q' ∧ PoolOk q' ∧ PX q q' ∧ PLo w p L R B mm L' R' B' ∧ Ext (inP p L R B mm) G w G' w' ∧ PlaceOk q' z ∧ pd q' z = negG (pd q f) ∧ Bud qz q' S :=
 neg_all _ hP hpk hok hf hbd hS (Nat.lt_succ_self _)

end NG1
end Go.Proofs.YtfnginkcmcfdfaaGreatDoor

set_option maxRecDepth 20000
set_option maxHeartbeats 2000000
namespace Go.Proofs.YtfnginkcmcfdfaaGreatDoor
namespace NF1
open Go.RowKit Go.GL Go.Proofs
open Go.Proofs.YtfnginkcmcfdfaaGreatDoor.B1
open Go.Proofs.YtfnginkcmcfdfaaGreatDoor.C1
open Go.Proofs.YtfnginkcmcfdfaaGreatDoor.D1
open Go.Proofs.YtfnginkcmcfdfaaGreatDoor.E1
open Go.Proofs.YtfnginkcmcfdfaaGreatDoor.K1
open Go.Proofs.YtfnginkcmcfdfaaGreatDoor.PO1
open Go.Proofs.YtfnginkcmcfdfaaGreatDoor.PL1
open Go.Proofs.YtfnginkcmcfdfaaGreatDoor.PA1
open Go.Proofs.YtfnginkcmcfdfaaGreatDoor.SO1
open Go.Proofs.YtfnginkcmcfdfaaGreatDoor.OD1
open Go.Proofs.YtfnginkcmcfdfaaGreatDoor.FO1
open Go.Proofs.YtfnginkcmcfdfaaGreatDoor.NG1










theorem pl102 : (Tryz.prog.underlying 102).bind (placesD Tryz.prog) = some [(0, 1), (1, 1)] := by kernel_rfl






theorem l5Neg_spec {w : World} {G : Pin} {v : Value} {fs : List Nd} (hP : Pins G w) (hv : RSl eNode G v fs) (hf : FormOk fs) (h1 : 1 ≤ fs.length ∧ fs.length ≤ 524288) :
  Calls Tryz.prog 81 [(.agg [v].toArray)].toArray w fun e w' => ∃ (u : Value) (G' : Pin), e = .returned (.agg [u].toArray) ∧ RSl eNode G' u (formG (negG (gOf fs))) ∧ Ext noS G w G' w' := by
 refine zZ (n := 45) Tryz.func81 Tryz.ntmps81 rfl rfl ?_
 have hX0 : Ext noS G w G w := Ext.refl hP
 have hm := hv.max
 have hfl := hf.len
 refine zD (zH ?_)
 refine qI rfl (xT [v] (v := (.agg [v].toArray)) rfl rfl hX0.pins (fun b1 w2 hk3 hb4 hp5 hl6 => ?_))
 have hX7 := hX0.step hp5 hl6
 have hlo8 : w.heap.size ≤ b1 := by have := hX0.size; omega
 obtain ⟨G9, hle10, hX11, hbp12, hf13⟩ := hb4.shut hX7 hlo8
 refine qI rfl (xA [(.slice none 0 0)] zr32 rfl hX11.pins (fun b14 w15 hk16 hb17 hp18 hl19 => ?_))
 have hX20 := hX11.step hp18 hl19
 have hlo21 : w.heap.size ≤ b14 := by have := hX11.size; omega
 refine qe (zA (zD (zH ?_)))
 refine qD rfl (xP [(.slice none 0 0), (.slice none 0 0)] [(.slice none 0 0), (.slice none 0 0)] [] Tryz.underlying102 zr102 rfl pl102 rfl (fun _ h => by cases h) rfl) ?_
 refine qI rfl (xT [(.slice none 0 0), (.slice none 0 0)] (v := (.agg [(.slice none 0 0), (.slice none 0 0)].toArray)) rfl rfl hX20.pins (fun b22 w23 hk24 hb25 hp26 hl27 => ?_))
 have hX28 := hX20.step hp26 hl27
 have hb29 := hb17.below hl27
 have ha30 : Apart (some b22) (some b14) := zN (congrArg some hk24) hb17.lt
 have hlo31 : w.heap.size ≤ b22 := by have := hX20.size; omega
 refine qD rfl (zC (v := (.pointer (some ⟨b22, 0, none⟩))) rfl) ?_
 refine qe (zA (zD (zH ?_)))
 refine qI rfl (xH (E := eInt) (e := 3) Tryz.underlying65 sz3 hX28.pins (fun u32 w33 ho34 hp35 hl36 hk37 => ?_))
 have hX38 := hX28.step hp35 hl36
 have hb39 := hb29.below hl36
 have hb40 := hb25.below hl36
 have ha41 : Apart u32.ownBlock (some b14) := zN hk37 hb29.lt
 have ha42 : Apart u32.ownBlock (some b22) := zN hk37 hb25.lt
 have ho43 : Own eInt 3 G9 w33 w.heap.size u32 ([]) := ho34.weaken hX28.size
 refine qD rfl (zC (v := u32) rfl) ?_
 refine qe (zA (zD (zD (zH ?_))))
 refine qD rfl (zC (v := (.int .i64 0)) rfl) ?_
 refine qe (zA ?_)
 refine yA ?_
 refine yS (fun (k : Nat) (en : Nat → Value) (W : World) => ∃ (env1 : Nat → Value) (k5 : Nat) (at_ : Value) (ats : List Int) (u2 : Value) (v2 : Value) (ns2 : List Nd) (bs2 : List Int) (GL1 : Pin), en = (upd (upd (upd (upd (upd env1 1 (.pointer (some ⟨b1, 0, none⟩))) 2 (.pointer (some ⟨b14, 0, none⟩))) 3 (.pointer (some ⟨b22, 0, none⟩))) 4 at_) 5 (.int .i64 (k5 : Int))) ∧ k = fs.length - k5 ∧ Ext noS G w GL1 W ∧ Pin.le G9 GL1 ∧ (k5 ≤ fs.length) ∧ (PoolOk (bkq ns2 bs2)) ∧ (NkOk (bkq ns2 bs2) ats k5 (fun i => negG (den fs i))) ∧ (ns2.length ≤ k5) ∧ (Own eInt 3 GL1 W w.heap.size at_ (ats)) ∧ (Own eNode 99 GL1 W 0 u2 (ns2)) ∧ (Own eInt 3 GL1 W 0 v2 (bs2)) ∧ (Bx GL1 W b14 [(.slice none 0 0)]) ∧ (Bx GL1 W b22 [u2, v2]) ∧ (Apart at_.ownBlock u2.ownBlock) ∧ (Apart at_.ownBlock v2.ownBlock) ∧ (Apart at_.ownBlock (some b14)) ∧ (Apart at_.ownBlock (some b22)) ∧ (Apart u2.ownBlock v2.ownBlock) ∧ (Apart u2.ownBlock (some b14)) ∧ (Apart u2.ownBlock (some b22)) ∧ (Apart v2.ownBlock (some b14)) ∧ (Apart v2.ownBlock (some b22)) ∧ (Lo w noS u2.ownBlock) ∧ (Lo w noS v2.ownBlock)) _ ⟨_, 0, u32, [], (.slice none 0 0), (.slice none 0 0), [], [], G9, (zG (x := 5) (zG (x := 4) (zG (x := 3) (zG (x := 2) (zV (x := 1) rfl) rfl) rfl) rfl) rfl), rfl, hX38, Pin.le_refl _, Nat.zero_le _, (bkq_ok Ar.empty), NkOk.start, Nat.le_refl 0, ho43, (Own.nil _ _ _ _ _), (Own.nil _ _ _ _ _), hb39, hb40, apart_none.symm, apart_none.symm, ha41, ha42, apart_none, apart_none, apart_none, apart_none, apart_none, (lo_none _ _), (lo_none _ _)⟩ ?_
 rintro k44 _ w45 ⟨env1, k5, at_, ats, u2, v2, ns2, bs2, GL1, rfl, hk46, hX47, hlek44, hk5, hokb, hnk, hbl, hw48, hw49, hw50, hw51, hw52, ha53, ha54, ha55, ha56, ha57, ha58, ha59, ha60, ha61, hlo62, hlo63⟩
 have hnl := hnk.len
 refine zD (zD (zH ?_))
 refine qD rfl (zB (v := (.int .i64 (k5 : Int))) rfl) ?_
 refine qD rfl (zR (k := 0) rfl Tryz.underlying32 rfl nz30 rfl) ?_
 refine qD rfl (zU (u := v) ag30 rfl ((Pins.of_le hX47.pins hlek44) _ _ _ (hbp12 0 _ rfl))) ?_
 refine qD rfl (zQ Tryz.underlying30 (v := v) rfl hv) ?_
 refine qD rfl (yR rfl rfl) ?_
 refine qe (zA ?_)
 refine yG (p := ((k5 : Int) : Int) < (fs.length : Int)) rfl rfl (fun h64 => ?_) (fun h64 => ?_)
 ·skip
  have oo := xB hf.opts (show k5 < fs.length by omega)
  have hfe := hf.lens k5 (by omega)
  have hol := hnk.opts oo.1
  have hor := hnk.opts oo.2
  have hil : ∀ i, i < (fs.getD k5 default).l.length → 0 ≤ (fs.getD k5 default).l.getD i 0 ∧ (fs.getD k5 default).l.getD i 0 < ats.length := fun i hi => by have h := oo.1 _ (yU (d := (0 : Int)) hi); omega
  have hir : ∀ i, i < (fs.getD k5 default).r.length → 0 ≤ (fs.getD k5 default).r.getD i 0 ∧ (fs.getD k5 default).r.getD i 0 < ats.length := fun i hi => by have h := oo.2 _ (yU (d := (0 : Int)) hi); omega
  have hpt := bk_put (xs := atL ats (fs.getD k5 default).r) (ys := atL ats (fs.getD k5 default).l) hokb (by omega) ⟨by rw [yW]; omega, by rw [yW]; omega⟩ hor.1 hol.1
  refine wp_skip ?_
  refine zA (zD ?_)
  refine yA ?_
  refine xJ (S := fun wz => Pins GL1 wz) (last := 22) (by kernel_rfl) rfl ?_
  have hl65 : Below w45.heap.size w45 w45.drew := (Below.refl _ _).drew
  have hp66 := hX47.pins.below hl65
  have hX67 := hX47.step hp66 hl65
  have ho68 := hw48.below hl65
  have ho69 := hw49.below hl65
  have ho70 := hw50.below hl65
  have hb71 := hw51.below hl65
  have hb72 := hw52.below hl65
  refine dT (i := 0) rfl rfl (by kernel_rfl) (fun _ _ => zB (v := at_) rfl) hX67.pins ?_
  refine dT (i := 1) rfl rfl (by kernel_rfl) (fun _ _ => zB (v := (.pointer (some ⟨b22, 0, none⟩))) rfl) hX67.pins ?_
  refine dT (i := 2) rfl rfl (by kernel_rfl) (fun _ _ => zB (v := at_) rfl) hX67.pins ?_
  refine dT (i := 3) rfl rfl (by kernel_rfl) (fun _ _ => zR (k := 0) rfl Tryz.underlying32 rfl nz30 rfl) hX67.pins ?_
  refine dT (i := 4) rfl rfl (by kernel_rfl) (fun _ hS => zU (u := v) ag30 rfl ((Pins.of_le hS hlek44) _ _ _ (hbp12 0 _ rfl))) hX67.pins ?_
  refine dT (i := 5) rfl rfl (by kernel_rfl) (fun _ _ => zB (v := (.int .i64 (k5 : Int))) rfl) hX67.pins ?_
  refine dT (i := 6) rfl rfl (by kernel_rfl) (fun _ _ => zM Tryz.underlying30 sz99 (v := v) rfl rfl hv (by omega) (by omega)) hX67.pins ?_
  refine dT (i := 7) rfl rfl (by kernel_rfl) (fun _ _ => xK (off := 1) Tryz.underlying99 rfl rfl nz65 (z := (k5 : Int)) (k := 0) rfl hv (by omega) (by omega)) hX67.pins ?_
  obtain ⟨u73, hr74, hl75⟩ := nm_nr (hv.at (z := (k5 : Int)) (by omega) (by omega)) (j := k5) rfl
  have hm76 := hr74.max
  refine dT (i := 8) rfl rfl (by kernel_rfl) (fun _ hS => hl75 ag65 rfl (Pins.of_le hS (Pin.le_trans hle10 hlek44))) hX67.pins ?_
  refine dT (i := 10) rfl rfl (by kernel_rfl) (fun _ _ => zB (v := at_) rfl) hX67.pins ?_
  refine dT (i := 11) rfl rfl (by kernel_rfl) (fun _ _ => zR (k := 0) rfl Tryz.underlying32 rfl nz30 rfl) hX67.pins ?_
  refine dT (i := 12) rfl rfl (by kernel_rfl) (fun _ hS => zU (u := v) ag30 rfl ((Pins.of_le hS hlek44) _ _ _ (hbp12 0 _ rfl))) hX67.pins ?_
  refine dT (i := 13) rfl rfl (by kernel_rfl) (fun _ _ => zB (v := (.int .i64 (k5 : Int))) rfl) hX67.pins ?_
  refine dT (i := 14) rfl rfl (by kernel_rfl) (fun _ _ => zM Tryz.underlying30 sz99 (v := v) rfl rfl hv (by omega) (by omega)) hX67.pins ?_
  refine dT (i := 15) rfl rfl (by kernel_rfl) (fun _ _ => xK (off := 0) Tryz.underlying99 rfl rfl nz65 (z := (k5 : Int)) (k := 0) rfl hv (by omega) (by omega)) hX67.pins ?_
  obtain ⟨u77, hr78, hl79⟩ := nm_nl (hv.at (z := (k5 : Int)) (by omega) (by omega)) (j := k5) rfl
  have hm80 := hr78.max
  refine dT (i := 16) rfl rfl (by kernel_rfl) (fun _ hS => hl79 ag65 rfl (Pins.of_le hS (Pin.le_trans hle10 hlek44))) hX67.pins ?_
  refine zW (i := 9) (by kernel_rfl) (zY (i := 9) rfl rfl rfl (zI rfl _) (zO (vs := [at_, u73]) Tryz.func127 nm127 rfl rfl rfl ?_))
  refine Calls.mono (qC hX67.pins (Gadd.pins hX67.pins at_) ho68.read (hr74.mono (Pin.le_trans hle10 hlek44)) (by omega) hir) ?_
  rintro _ w83 ⟨u81, G82, rfl, ho84, hx85⟩
  refine ⟨_, rfl, ?_⟩
  have hX86 := hX67.tr hx85
  have ho87 := ho68.ext hx85
  have ho88 := ho69.ext hx85
  have ho89 := ho70.ext hx85
  have hb90 := hb71.ext hx85
  have hb91 := hb72.ext hx85
  have ha92 : Apart u81.ownBlock at_.ownBlock := zS ho84.lt ho68.lt
  have ha93 : Apart u81.ownBlock u2.ownBlock := zS ho84.lt ho69.lt
  have ha94 : Apart u81.ownBlock v2.ownBlock := zS ho84.lt ho70.lt
  have ha95 : Apart u81.ownBlock (some b14) := yB ho84.lt hb71.lt
  have ha96 : Apart u81.ownBlock (some b22) := yB ho84.lt hb72.lt
  have ho97 : Own eInt 3 G82 w83 w.heap.size u81 (atL ats ((fs.getD k5 default).r)) := ho84.weaken hX67.size
  refine ⟨fun _ => (Pins.of_le hX86.pins hx85.le), ?_⟩
  refine zW (i := 17) (by kernel_rfl) (zY (i := 17) rfl rfl rfl (zI rfl _) (zO (vs := [at_, u77]) Tryz.func127 nm127 rfl rfl rfl ?_))
  refine Calls.mono (qC hX86.pins (Gadd.pins hX86.pins at_) ho87.read (hr78.mono (Pin.le_trans (Pin.le_trans hle10 hlek44) hx85.le)) (by omega) hil) ?_
  rintro _ w100 ⟨u98, G99, rfl, ho101, hx102⟩
  refine ⟨_, rfl, ?_⟩
  have hX103 := hX86.tr hx102
  have ho104 := ho87.ext hx102
  have ho105 := ho88.ext hx102
  have ho106 := ho89.ext hx102
  have ho107 := ho97.ext hx102
  have hb108 := hb90.ext hx102
  have hb109 := hb91.ext hx102
  have ha110 : Apart u98.ownBlock at_.ownBlock := zS ho101.lt ho87.lt
  have ha111 : Apart u98.ownBlock u2.ownBlock := zS ho101.lt ho88.lt
  have ha112 : Apart u98.ownBlock v2.ownBlock := zS ho101.lt ho89.lt
  have ha113 : Apart u98.ownBlock u81.ownBlock := zS ho101.lt ho97.lt
  have ha114 : Apart u98.ownBlock (some b14) := yB ho101.lt hb90.lt
  have ha115 : Apart u98.ownBlock (some b22) := yB ho101.lt hb91.lt
  have ho116 : Own eInt 3 G99 w100 w.heap.size u98 (atL ats ((fs.getD k5 default).l)) := ho101.weaken hX86.size
  refine ⟨fun _ => (Pins.of_le hX103.pins (Pin.le_trans hx85.le hx102.le)), ?_⟩
  obtain ⟨G117, hle120, hX119, hr118, hf121⟩ := ho107.sealed hX103
  have ho122 := ho104.moreO hle120 hf121 ha92.symm
  have ho123 := ho105.moreO hle120 hf121 ha93.symm
  have ho124 := ho106.moreO hle120 hf121 ha94.symm
  have ho125 := ho116.moreO hle120 hf121 ha113
  have hb126 := hb108.moreO hf121 ha95.symm
  have hb127 := hb109.moreO hf121 ha96.symm
  obtain ⟨G128, hle131, hX130, hr129, hf132⟩ := ho125.sealed hX119
  have ho133 := ho122.moreO hle131 hf132 ha110.symm
  have ho134 := ho123.moreO hle131 hf132 ha111.symm
  have ho135 := ho124.moreO hle131 hf132 ha112.symm
  have hb136 := hb126.moreO hf132 ha114.symm
  have hb137 := hb127.moreO hf132 ha115.symm
  refine zW (i := 18) (by kernel_rfl) (zY (i := 18) rfl rfl rfl (zI rfl _) (zO (vs := [(.pointer (some ⟨b22, 0, none⟩)), u81, u98]) Tryz.func112 nm112 rfl rfl rfl ?_))
  refine Calls.mono (put_spec hX130.pins ⟨hb137, ho134, ho135, ha59.symm, ha61.symm, ha57⟩ hokb.ar.ok (hr118.mono hle131) hr129 ⟨by rw [yW]; omega, by rw [yW]; omega⟩ (qP hor.1) (qP hol.1)) ?_
  rintro _ w141 ⟨u138, v139, G140, rfl, hbk142, hx143, hlu144, hlv145⟩
  refine ⟨_, rfl, ?_⟩
  have hin148 : ∀ i, inS b22 u2 v2 i → w.heap.size ≤ i ∨ noS i := inS_lo (yV hlo31) hlo62 hlo63
  have hX149 := hX130.trans hx143 hin148
  have hn150 := notS (u := u2) (v := v2) ha56 ha53 ha54
  have ho151 := ho133.extS hx143 hn150
  have ha152 : Apart at_.ownBlock u138.ownBlock := xX hlu144 hn150 (xW ho133)
  have ha153 : Apart at_.ownBlock v139.ownBlock := xX hlv145 hn150 (xW ho133)
  have hn154 := notS (u := u2) (v := v2) ha30.symm ha58.symm ha60.symm
  have ho155 := hb136.extS hx143 (notSb hn154)
  have ha156 : Apart (some b14) u138.ownBlock := xX hlu144 hn154 (box_lt hb136)
  have ha157 : Apart (some b14) v139.ownBlock := xX hlv145 hn154 (box_lt hb136)
  have hb158 := hbk142.bx
  have ho159 := hbk142.ou
  have ho160 := hbk142.ov
  have ha161 := hbk142.abu
  have ha162 := hbk142.abv
  have ha163 := hbk142.auv
  have hlo164 := qG hlu144 hin148 hX130.size
  have hlo165 := qG hlv145 hin148 hX130.size
  refine ⟨fun _ => (Pins.of_le hX149.pins (Pin.le_trans (Pin.le_trans (Pin.le_trans (Pin.le_trans hx85.le hx102.le) hle120) hle131) hx143.le)), ?_⟩
  refine zW (i := 19) (by kernel_rfl) (zY (i := 19) rfl rfl rfl (zI rfl _) (yY (E := eInt) (e := 3) [(.int .i64 (putK ns2 bs2 (atL ats ((fs.getD k5 default).r)) (atL ats ((fs.getD k5 default).l))))] [putK ns2 bs2 (atL ats ((fs.getD k5 default).r)) (atL ats ((fs.getD k5 default).l))] Tryz.underlying65 sz3 zr3 (by exact xV (by rfl)) (yZ (by rfl)) rfl rfl rfl rfl (by decide) hX149.pins (fun u166 w167 ho168 hp169 hl170 hk171 => ?_)))
  have hX172 := hX149.step hp169 hl170
  have ho173 := ho151.below hl170
  have ho174 := ho159.below hl170
  have ho175 := ho160.below hl170
  have hb176 := ho155.below hl170
  have hb177 := hb158.below hl170
  have ho183 : Own eInt 3 G140 w167 w.heap.size u166 ([putK ns2 bs2 (atL ats ((fs.getD k5 default).r)) (atL ats ((fs.getD k5 default).l))]) := ho168.weaken hX149.size
  refine ⟨fun _ => (Pins.of_le hX172.pins (Pin.le_trans (Pin.le_trans (Pin.le_trans (Pin.le_trans hx85.le hx102.le) hle120) hle131) hx143.le)), ?_⟩
  refine zW (i := 20) (by kernel_rfl) (zY (i := 20) rfl rfl rfl (zI rfl _) (yC (E := eInt) (v := at_) (u := u166) 8 Tryz.underlying65 ap3 (by decide) rfl rfl hX172.pins ho173 ho183.src (by first | omega | (rw [List.nil_append]; omega) | (rw [List.length_nil]; omega) | (rw [List.length_append]; omega) | (simp; done) | (simp; omega) | (simp only [List.length_append, List.length_cons, List.length_nil]; omega)) (by first | omega | (rw [List.nil_append]; omega) | (rw [List.length_nil]; omega) | (rw [List.length_append]; omega) | (simp; done) | (simp; omega) | (simp only [List.length_append, List.length_cons, List.length_nil]; omega)) (hX172.size) (fun u184 w185 ho186 hp187 hg188 hw189 => ?_)))
  have hX190 := hX172.write hp187 hg188 ((yH ho173))
  have ho191 := ho174.keptA hg188 ha152.symm
  have ho192 := ho175.keptA hg188 ha153.symm
  have hb194 := hb176.keptA hg188 ha55.symm
  have hb195 := hb177.keptA hg188 ha56.symm
  have ha196 : Apart u138.ownBlock u184.ownBlock := zJ ha152.symm hw189 ho174.lt
  have ha197 : Apart v139.ownBlock u184.ownBlock := zJ ha153.symm hw189 ho175.lt
  have ha199 : Apart (some b14) u184.ownBlock := zP ha55.symm hw189 hb176.lt
  have ha200 : Apart (some b22) u184.ownBlock := zP ha56.symm hw189 hb177.lt
  have hm201 : (ats ++ ([putK ns2 bs2 (atL ats ((fs.getD k5 default).r)) (atL ats ((fs.getD k5 default).l))])).length = ats.length + 1 := List.length_append
  refine ⟨fun _ => (Pins.of_le hX190.pins (Pin.le_trans (Pin.le_trans (Pin.le_trans (Pin.le_trans hx85.le hx102.le) hle120) hle131) hx143.le)), ?_⟩
  refine dT (i := 21) rfl rfl (by kernel_rfl) (fun _ _ => zC (v := u184) rfl) (Pins.of_le hX190.pins (Pin.le_trans (Pin.le_trans (Pin.le_trans (Pin.le_trans hx85.le hx102.le) hle120) hle131) hx143.le)) ?_
  refine yX (by kernel_rfl) ?_
  refine yN ?_
  refine zA (zH ?_)
  refine qD rfl (zB (v := (.int .i64 (k5 : Int))) rfl) ?_
  refine qD rfl (yT rfl rfl (by omega)) ?_
  refine qD rfl (zC (v := (.int .i64 ((k5 : Int) + 1))) rfl) ?_
  refine qe ?_
  refine yL ?_
  refine ⟨_, ?_, _, rfl, _, k5 + 1, u184, ats ++ ([putK ns2 bs2 (atL ats ((fs.getD k5 default).r)) (atL ats ((fs.getD k5 default).l))]), u138, v139, putN ns2 bs2 (atL ats ((fs.getD k5 default).r)) (atL ats ((fs.getD k5 default).l)), putB ns2 bs2 (atL ats ((fs.getD k5 default).r)) (atL ats ((fs.getD k5 default).l)), G140, (zG (x := 5) (zG (x := 4) (zG (x := 3) (zG (x := 2) (zV (x := 1) rfl) rfl) rfl) rfl) rfl), rfl, hX190, (Pin.le_trans (Pin.le_trans (Pin.le_trans (Pin.le_trans (Pin.le_trans hlek44 hx85.le) hx102.le) hle120) hle131) hx143.le), (by omega), hpt.ok, (hnk.snoc hpt.px hokb hpt.ok hpt.pl (hpt.pd.trans (by rw [hor.2, hol.2]; exact neg_den hf.opts (by omega)))), (by have := hpt.len; omega), ho186, ho191, ho192, hb194, hb195, ha196.symm, ha197.symm, ha199.symm, ha200.symm, ha163, ha156.symm, ha161.symm, ha157.symm, ha162.symm, hlo164, hlo165⟩
  omega
 refine wp_exit ?_
 refine yD ?_
 refine yP ?_
 refine yO ?_
 refine zA (zD (zH ?_))
 have hkn : k5 = fs.length := by omega
 have hrt := hnk.at_ (i := fs.length - 1) (by omega)
 rw [show fs.length - 1 = ((ats.length : Int) - 1).toNat by omega] at hrt
 have hgo : negG (den fs ((ats.length : Int) - 1).toNat) = negG (gOf fs) := by unfold gOf; rw [show ((ats.length : Int) - 1).toNat = fs.length - 1 by omega]
 rw [hgo] at hrt
 refine qD rfl (zB (v := (.pointer (some ⟨b22, 0, none⟩))) rfl) ?_
 refine qD rfl (zB (v := at_) rfl) ?_
 refine qD rfl (zB (v := at_) rfl) ?_
 refine qD rfl (zQ Tryz.underlying65 (v := at_) rfl hw48.read) ?_
 refine qD rfl (r_sub rfl rfl (by omega)) ?_
 refine qD rfl (zM Tryz.underlying65 sz3 (v := at_) rfl rfl hw48.read (by omega) (by omega)) ?_
 refine qD rfl (zL (r := ats.getD ((ats.length : Int) - 1).toNat 0) rfl ag3 (z := ((ats.length : Int) - 1)) rfl hw48.read (Gadd.pins hX47.pins at_) (by omega) (by omega)) ?_
 refine qI rfl (zO (vs := [(.pointer (some ⟨b22, 0, none⟩)), (.int .i64 (ats.getD ((ats.length : Int) - 1).toNat 0))]) Tryz.func90 nm90 rfl rfl rfl ?_)
 refine Calls.mono (form_spec hX47.pins ⟨hw52, hw49, hw50, ha59.symm, ha61.symm, ha57⟩ hokb.ar.ok hrt.1) ?_
 rintro _ w204 ⟨u202, G203, rfl, hr205, hx206⟩
 refine ⟨_, rfl, ?_⟩
 have hX207 := hX47.tr hx206
 have hb211 := hw51.ext hx206
 refine q0 rfl rfl rfl (xF (cs' := [u202]) (us := [u202]) (v := (.agg [u202].toArray)) sz32 rfl rfl rfl (yZ hr205.one) hX207.pins hb211 (Nat.le_of_ble_eq_true rfl) rfl (fun w213 hb214 hp215 hg216 hz217 => ?_))
 have hX218 := hX207.write hp215 hg216 ((yV hlo21))
 refine qe (zA ?_)
 refine wp_ret ?_
 refine zX ?_
 refine c_retc (cs := [u202]) rfl rfl rfl ag32 sz32 (fun j u hj => by rw [Nat.zero_add]; exact hb214.cell hj) ?_
 exact ⟨_, _, rfl, (by rw [← hrt.2, ← book_form hokb hrt.1]; exact hr205), hX218⟩

end NF1
end Go.Proofs.YtfnginkcmcfdfaaGreatDoor

set_option maxRecDepth 20000
set_option maxHeartbeats 2000000
namespace Go.Proofs.YtfnginkcmcfdfaaGreatDoor
namespace SM1
open Go.RowKit Go.GL Go.Proofs
open Go.Proofs.YtfnginkcmcfdfaaGreatDoor.B1
open Go.Proofs.YtfnginkcmcfdfaaGreatDoor.C1
open Go.Proofs.YtfnginkcmcfdfaaGreatDoor.D1
open Go.Proofs.YtfnginkcmcfdfaaGreatDoor.E1
open Go.Proofs.YtfnginkcmcfdfaaGreatDoor.K1
open Go.Proofs.YtfnginkcmcfdfaaGreatDoor.PO1
open Go.Proofs.YtfnginkcmcfdfaaGreatDoor.PL1
open Go.Proofs.YtfnginkcmcfdfaaGreatDoor.PA1
open Go.Proofs.YtfnginkcmcfdfaaGreatDoor.SO1
open Go.Proofs.YtfnginkcmcfdfaaGreatDoor.OD1
open Go.Proofs.YtfnginkcmcfdfaaGreatDoor.FO1
open Go.Proofs.YtfnginkcmcfdfaaGreatDoor.NG1
open Go.Proofs.YtfnginkcmcfdfaaGreatDoor.NF1


theorem pl32 : (Tryz.prog.underlying 32).bind (placesD Tryz.prog) = some [(0, 1)] := by kernel_rfl


theorem l3If_spec {w : World} {G : Pin} {v : Value} {fs : List Nd} (hP : Pins G w) (hv : RSl eNode G v fs) :
  Calls Tryz.prog 57 [(.agg [v].toArray)].toArray w fun e w' => ∃ (u : Value) (G' : Pin), e = .returned (.tuple #[(.agg [u].toArray), .bool (decP (FitsP fs))]) ∧ RSl eNode G' u (ifF fs) ∧ Ext noS G w G' w' := by
 refine zZ (n := 9) Tryz.func57 Tryz.ntmps57 rfl rfl ?_
 have hX0 : Ext noS G w G w := Ext.refl hP
 refine zD (zH ?_)
 refine qI rfl (xT [v] (v := (.agg [v].toArray)) rfl rfl hX0.pins (fun b1 w2 hk3 hb4 hp5 hl6 => ?_))
 have hX7 := hX0.step hp5 hl6
 have hlo8 : w.heap.size ≤ b1 := by have := hX0.size; omega
 obtain ⟨G9, hle10, hX11, hbp12, hf13⟩ := hb4.shut hX7 hlo8
 refine qI rfl (xA [(.slice none 0 0)] zr32 rfl hX11.pins (fun b14 w15 hk16 hb17 hp18 hl19 => ?_))
 have hX20 := hX11.step hp18 hl19
 have hlo21 : w.heap.size ≤ b14 := by have := hX11.size; omega
 refine qD rfl (zC (v := (.bool false)) rfl) ?_
 refine qe (zA (zD (zD (zH ?_))))
 refine qD rfl (xD (cs := [v]) ag32 sz32 rfl (fun j u hj => hX20.pins _ _ _ (hbp12 _ _ (by simpa using hj)))) ?_
 refine qI rfl (zO (vs := [(.agg [v].toArray)]) Tryz.func88 nm88 rfl rfl rfl ?_)
 refine Calls.mono (l3Fits_spec hX20.pins (hv.mono hle10)) ?_
 rintro _ w23 ⟨G22, rfl, hx24⟩
 refine ⟨_, rfl, ?_⟩
 have hX25 := hX20.tr hx24
 have hb26 := hb17.ext hx24
 refine qD rfl (qB rfl) ?_
 refine qe (zA ?_)
 refine c_ifn rfl rfl (fun h27 => ?_) (fun h27 => ?_)
 ·skip
  refine wp_skip ?_
  refine zA (zD (zH ?_))
  refine qD rfl (xD (cs := [v]) ag32 sz32 rfl (fun j u hj => (Pins.of_le hX25.pins hx24.le) _ _ _ (hbp12 _ _ (by simpa using hj)))) ?_
  refine q0 rfl rfl rfl (xF (cs' := [v]) (us := [v]) (v := (.agg [v].toArray)) sz32 rfl rfl rfl (yZ hv.one) hX25.pins hb26 (Nat.le_of_ble_eq_true rfl) rfl (fun w28 hb29 hp30 hg31 hz32 => ?_))
  have hX33 := hX25.write hp30 hg31 ((yV hlo21))
  refine qD rfl (zC (v := (.bool true)) rfl) ?_
  refine qe (zA ?_)
  refine wp_ret ?_
  refine zX ?_
  refine c_retct (cs := [v]) (v := (.bool true)) rfl rfl rfl rfl rfl ag32 sz32 (fun j u hj => by rw [Nat.zero_add]; exact hb29.cell hj) ?_
  exact ⟨_, _, congrArg (fun z => Ending.returned (Value.tuple #[(.agg [v].toArray), Value.bool z])) (h27).symm, (by unfold ifF; rw [h27]; exact (hv.mono (Pin.le_trans hle10 hx24.le))), hX33⟩
 refine zD (zH ?_)
 refine qD rfl (xP [(.slice none 0 0)] [(.slice none 0 0)] [] Tryz.underlying32 zr32 rfl pl32 rfl (fun _ h => by cases h) rfl) ?_
 refine q0 rfl rfl rfl (xF (cs' := [(.slice none 0 0)]) (us := [(.slice none 0 0)]) (v := (.agg [(.slice none 0 0)].toArray)) sz32 rfl rfl rfl (yZ (by rfl)) hX25.pins hb26 (Nat.le_of_ble_eq_true rfl) rfl (fun w34 hb35 hp36 hg37 hz38 => ?_))
 have hX39 := hX25.write hp36 hg37 ((yV hlo21))
 refine qD rfl (zC (v := (.bool false)) rfl) ?_
 refine qe (zA ?_)
 refine wp_ret ?_
 refine zX ?_
 refine c_retct (cs := [(.slice none 0 0)]) (v := (.bool false)) rfl rfl rfl rfl rfl ag32 sz32 (fun j u hj => by rw [Nat.zero_add]; exact hb35.cell hj) ?_
 exact ⟨_, _, congrArg (fun z => Ending.returned (Value.tuple #[(.agg [(.slice none 0 0)].toArray), Value.bool z])) (h27).symm, (by unfold ifF; rw [h27]; exact qQ _ _), hX39⟩

end SM1
end Go.Proofs.YtfnginkcmcfdfaaGreatDoor

set_option maxRecDepth 20000
set_option maxHeartbeats 2000000
namespace Go.Proofs.YtfnginkcmcfdfaaGreatDoor
namespace MK1
open Go.RowKit Go.GL Go.Proofs
open Go.Proofs.YtfnginkcmcfdfaaGreatDoor.B1
open Go.Proofs.YtfnginkcmcfdfaaGreatDoor.C1
open Go.Proofs.YtfnginkcmcfdfaaGreatDoor.D1
open Go.Proofs.YtfnginkcmcfdfaaGreatDoor.E1
open Go.Proofs.YtfnginkcmcfdfaaGreatDoor.K1
open Go.Proofs.YtfnginkcmcfdfaaGreatDoor.PO1
open Go.Proofs.YtfnginkcmcfdfaaGreatDoor.PL1
open Go.Proofs.YtfnginkcmcfdfaaGreatDoor.PA1
open Go.Proofs.YtfnginkcmcfdfaaGreatDoor.SO1
open Go.Proofs.YtfnginkcmcfdfaaGreatDoor.OD1
open Go.Proofs.YtfnginkcmcfdfaaGreatDoor.FO1
open Go.Proofs.YtfnginkcmcfdfaaGreatDoor.NG1
open Go.Proofs.YtfnginkcmcfdfaaGreatDoor.NF1
open Go.Proofs.YtfnginkcmcfdfaaGreatDoor.SM1





theorem pl102 : (Tryz.prog.underlying 102).bind (placesD Tryz.prog) = some [(0, 1), (1, 1)] := by kernel_rfl





theorem l3Make_spec {w : World} {G : Pin} {u v : Value} {fs gs : List (List Nd)} (hP : Pins G w) (hu : RSl (eSl eNode) G u fs) (hv : RSl (eSl eNode) G v gs) (hfa : AllW fs) (hga : AllW gs) :
  Calls Tryz.prog 63 [u, v].toArray w fun e w' => ∃ (u : Value) (G' : Pin), e = .returned (.agg [u].toArray) ∧ RSl eNode G' u (formG (mkGm fs gs)) ∧ Ext noS G w G' w' := by
 refine zZ (n := 50) Tryz.func63 Tryz.ntmps63 rfl rfl ?_
 have hX0 : Ext noS G w G w := Ext.refl hP
 have hmu := hu.max
 have hmv := hv.max
 have hfle := hfa.len
 have hgle := hga.len
 refine zD (zH ?_)
 refine qI rfl (xA [(.slice none 0 0)] zr32 rfl hX0.pins (fun b1 w2 hk3 hb4 hp5 hl6 => ?_))
 have hX7 := hX0.step hp5 hl6
 have hlo8 : w.heap.size ≤ b1 := by have := hX0.size; omega
 refine qe (zA (zD (zH ?_)))
 refine qD rfl (xP [(.slice none 0 0), (.slice none 0 0)] [(.slice none 0 0), (.slice none 0 0)] [] Tryz.underlying102 zr102 rfl pl102 rfl (fun _ h => by cases h) rfl) ?_
 refine qI rfl (xT [(.slice none 0 0), (.slice none 0 0)] (v := (.agg [(.slice none 0 0), (.slice none 0 0)].toArray)) rfl rfl hX7.pins (fun b9 w10 hk11 hb12 hp13 hl14 => ?_))
 have hX15 := hX7.step hp13 hl14
 have hb16 := hb4.below hl14
 have ha17 : Apart (some b9) (some b1) := zN (congrArg some hk11) hb4.lt
 have hlo18 : w.heap.size ≤ b9 := by have := hX7.size; omega
 refine qD rfl (zC (v := (.pointer (some ⟨b9, 0, none⟩))) rfl) ?_
 refine qe (zA (zD (zH ?_)))
 refine qI rfl (xH (E := eInt) (e := 3) Tryz.underlying65 sz3 hX15.pins (fun u19 w20 ho21 hp22 hl23 hk24 => ?_))
 have hX25 := hX15.step hp22 hl23
 have hb26 := hb16.below hl23
 have hb27 := hb12.below hl23
 have ha28 : Apart u19.ownBlock (some b1) := zN hk24 hb16.lt
 have ha29 : Apart u19.ownBlock (some b9) := zN hk24 hb12.lt
 have ho30 : Own eInt 3 G w20 w.heap.size u19 ([]) := ho21.weaken hX15.size
 refine qI rfl (xH (E := eInt) (e := 3) Tryz.underlying65 sz3 hX25.pins (fun u31 w32 ho33 hp34 hl35 hk36 => ?_))
 have hX37 := hX25.step hp34 hl35
 have ho38 := ho30.below hl35
 have hb39 := hb26.below hl35
 have hb40 := hb27.below hl35
 have ha41 : Apart u31.ownBlock u19.ownBlock := zK hk36 ho30.lt
 have ha42 : Apart u31.ownBlock (some b1) := zN hk36 hb26.lt
 have ha43 : Apart u31.ownBlock (some b9) := zN hk36 hb27.lt
 have ho44 : Own eInt 3 G w32 w.heap.size u31 ([]) := ho33.weaken hX25.size
 refine qD rfl (zC (v := u19) rfl) ?_
 refine qD rfl (zC (v := u31) rfl) ?_
 refine qe (zA (zD (zD (zH ?_))))
 refine qD rfl (zC (v := (.int .i64 0)) rfl) ?_
 refine qe (zA ?_)
 refine yA ?_
 refine yS (fun (k : Nat) (en : Nat → Value) (W : World) => ∃ (env1 : Nat → Value) (i5 : Nat) (atA : Value) (atsA : List Int) (uA : Value) (vA : Value) (nsA : List Nd) (bsA : List Int) (GLA : Pin), en = (upd (upd (upd (upd (upd (upd (upd env1 0 u) 1 v) 4 (.pointer (some ⟨b1, 0, none⟩))) 5 (.pointer (some ⟨b9, 0, none⟩))) 6 atA) 7 u31) 8 (.int .i64 (i5 : Int))) ∧ k = fs.length - i5 ∧ Ext noS G w GLA W ∧ Pin.le G GLA ∧ (i5 ≤ fs.length) ∧ (PoolOk (bkq nsA bsA)) ∧ (GsOk (bkq nsA bsA) atsA ((fs.take i5).map gOf)) ∧ (nsA.length ≤ 1000 * i5) ∧ (Own eInt 3 GLA W w.heap.size atA (atsA)) ∧ (Own eNode 99 GLA W 0 uA (nsA)) ∧ (Own eInt 3 GLA W 0 vA (bsA)) ∧ (Own eInt 3 GLA W w.heap.size u31 ([])) ∧ (Bx GLA W b1 [(.slice none 0 0)]) ∧ (Bx GLA W b9 [uA, vA]) ∧ (Apart atA.ownBlock uA.ownBlock) ∧ (Apart atA.ownBlock vA.ownBlock) ∧ (Apart atA.ownBlock u31.ownBlock) ∧ (Apart atA.ownBlock (some b1)) ∧ (Apart atA.ownBlock (some b9)) ∧ (Apart uA.ownBlock vA.ownBlock) ∧ (Apart uA.ownBlock u31.ownBlock) ∧ (Apart uA.ownBlock (some b1)) ∧ (Apart uA.ownBlock (some b9)) ∧ (Apart vA.ownBlock u31.ownBlock) ∧ (Apart vA.ownBlock (some b1)) ∧ (Apart vA.ownBlock (some b9)) ∧ (Lo w noS uA.ownBlock) ∧ (Lo w noS vA.ownBlock)) _ ⟨_, 0, u19, [], (.slice none 0 0), (.slice none 0 0), [], [], G, (zG (x := 8) (zG (x := 7) (zG (x := 6) (zG (x := 5) (zG (x := 4) (zG (x := 1) (zV (x := 0) rfl) rfl) rfl) rfl) rfl) rfl) rfl), rfl, hX37, Pin.le_refl _, Nat.zero_le _, (bkq_ok Ar.empty), GsOk.nil, (by simp), ho38, (Own.nil _ _ _ _ _), (Own.nil _ _ _ _ _), ho44, hb39, hb40, apart_none.symm, apart_none.symm, ha41.symm, ha28, ha29, apart_none, apart_none, apart_none, apart_none, apart_none, apart_none, apart_none, (lo_none _ _), (lo_none _ _)⟩ ?_
 rintro k45 _ w46 ⟨env1, i5, atA, atsA, uA, vA, nsA, bsA, GLA, rfl, hk47, hX48, hlek45, hki5, hokA, hgsA, hblA, hw49, hw50, hw51, hw52, hw53, hw54, ha55, ha56, ha57, ha58, ha59, ha60, ha61, ha62, ha63, ha64, ha65, ha66, hlo67, hlo68⟩
 have hglA := hgsA.len
 rw [List.length_map, List.length_take] at hglA
 refine zD (zD (zH ?_))
 refine qD rfl (zB (v := (.int .i64 (i5 : Int))) rfl) ?_
 refine qD rfl (zB (v := u) rfl) ?_
 refine qD rfl (zQ Tryz.underlying79 (v := u) rfl hu) ?_
 refine qD rfl (yR rfl rfl) ?_
 refine qe (zA ?_)
 refine yG (p := ((i5 : Int) : Int) < (fs.length : Int)) rfl rfl (fun h69 => ?_) (fun h69 => ?_)
 ·skip
  have hgd := hfa.ok i5 (by omega)
  have hgdl := hgd.2.1
  have hgdh := hgd.2.2
  have hrk := bk_root (fs := fs.getD i5 []) hokA hgd.1 (by omega) (by omega)
  refine wp_skip ?_
  refine zA (zD ?_)
  refine yA ?_
  refine zH ?_
  refine qD rfl (zB (v := atA) rfl) ?_
  refine qD rfl (zB (v := (.pointer (some ⟨b9, 0, none⟩))) rfl) ?_
  refine qD rfl (zB (v := u) rfl) ?_
  refine qD rfl (zB (v := (.int .i64 (i5 : Int))) rfl) ?_
  refine qD rfl (zM Tryz.underlying79 sz32 (v := u) rfl rfl hu (by omega) (by omega)) ?_
  obtain ⟨u70, hr71, hl72⟩ := nm_form (hu.at (z := (i5 : Int)) (by omega) (by omega)) (j := i5) rfl
  have hm73 := hr71.max
  refine qD rfl (hl72 ag32 sz32 rfl (Pins.of_le hX48.pins hlek45)) ?_
  refine qI rfl (zO (vs := [(.pointer (some ⟨b9, 0, none⟩)), (.agg [u70].toArray)]) Tryz.func91 nm91 rfl rfl rfl ?_)
  refine Calls.mono (root_spec hX48.pins ⟨hw54, hw50, hw51, ha63.symm, ha66.symm, ha60⟩ hokA.ar.ok (hr71.mono hlek45) ⟨hgd.1, hgdl⟩ (by first | omega | (simp; omega))) ?_
  rintro _ w77 ⟨u74, v75, G76, rfl, hbk78, hx79, hlu80, hlv81⟩
  refine ⟨_, rfl, ?_⟩
  have hin84 : ∀ i, inS b9 uA vA i → w.heap.size ≤ i ∨ noS i := inS_lo (yV hlo18) hlo67 hlo68
  have hX85 := hX48.trans hx79 hin84
  have hn86 := notS (u := uA) (v := vA) ha59 ha55 ha56
  have ho87 := hw49.extS hx79 hn86
  have ha88 : Apart atA.ownBlock u74.ownBlock := xX hlu80 hn86 (xW hw49)
  have ha89 : Apart atA.ownBlock v75.ownBlock := xX hlv81 hn86 (xW hw49)
  have hn90 := notS (u := uA) (v := vA) ha43 ha61.symm ha64.symm
  have ho91 := hw52.extS hx79 hn90
  have ha92 : Apart u31.ownBlock u74.ownBlock := xX hlu80 hn90 (xW hw52)
  have ha93 : Apart u31.ownBlock v75.ownBlock := xX hlv81 hn90 (xW hw52)
  have hn94 := notS (u := uA) (v := vA) ha17.symm ha62.symm ha65.symm
  have ho95 := hw53.extS hx79 (notSb hn94)
  have ha96 : Apart (some b1) u74.ownBlock := xX hlu80 hn94 (box_lt hw53)
  have ha97 : Apart (some b1) v75.ownBlock := xX hlv81 hn94 (box_lt hw53)
  have hb98 := hbk78.bx
  have ho99 := hbk78.ou
  have ho100 := hbk78.ov
  have ha101 := hbk78.abu
  have ha102 := hbk78.abv
  have ha103 := hbk78.auv
  have hlo104 := qG hlu80 hin84 hX48.size
  have hlo105 := qG hlv81 hin84 hX48.size
  refine qI rfl (yY (E := eInt) (e := 3) [(.int .i64 (rootM nsA bsA (fs.getD i5 [])))] [rootM nsA bsA (fs.getD i5 [])] Tryz.underlying65 sz3 zr3 (by exact xV (by rfl)) (yZ (by rfl)) rfl rfl rfl rfl (by decide) hX85.pins (fun u106 w107 ho108 hp109 hl110 hk111 => ?_))
  have hX112 := hX85.step hp109 hl110
  have ho113 := ho87.below hl110
  have ho114 := ho91.below hl110
  have ho115 := ho99.below hl110
  have ho116 := ho100.below hl110
  have hb117 := ho95.below hl110
  have hb118 := hb98.below hl110
  have ho125 : Own eInt 3 G76 w107 w.heap.size u106 ([rootM nsA bsA (fs.getD i5 [])]) := ho108.weaken hX85.size
  refine qI rfl (yC (E := eInt) (v := atA) (u := u106) 8 Tryz.underlying65 ap3 (by decide) rfl rfl hX112.pins ho113 ho125.src (by first | omega | (rw [List.nil_append]; omega) | (rw [List.length_nil]; omega) | (rw [List.length_append]; omega) | (simp; done) | (simp; omega) | (simp only [List.length_append, List.length_cons, List.length_nil]; omega)) (by first | omega | (rw [List.nil_append]; omega) | (rw [List.length_nil]; omega) | (rw [List.length_append]; omega) | (simp; done) | (simp; omega) | (simp only [List.length_append, List.length_cons, List.length_nil]; omega)) (hX112.size) (fun u126 w127 ho128 hp129 hg130 hw131 => ?_))
  have hX132 := hX112.write hp129 hg130 ((yH ho113))
  have ho133 := ho114.keptA hg130 ha57.symm
  have ho134 := ho115.keptA hg130 ha88.symm
  have ho135 := ho116.keptA hg130 ha89.symm
  have hb137 := hb117.keptA hg130 ha58.symm
  have hb138 := hb118.keptA hg130 ha59.symm
  have ha139 : Apart u31.ownBlock u126.ownBlock := zJ ha57.symm hw131 ho114.lt
  have ha140 : Apart u74.ownBlock u126.ownBlock := zJ ha88.symm hw131 ho115.lt
  have ha141 : Apart v75.ownBlock u126.ownBlock := zJ ha89.symm hw131 ho116.lt
  have ha143 : Apart (some b1) u126.ownBlock := zP ha58.symm hw131 hb117.lt
  have ha144 : Apart (some b9) u126.ownBlock := zP ha59.symm hw131 hb118.lt
  have hm145 : (atsA ++ ([rootM nsA bsA (fs.getD i5 [])])).length = atsA.length + 1 := List.length_append
  refine qD rfl (zC (v := u126) rfl) ?_
  refine qe ?_
  refine yN ?_
  refine zA (zH ?_)
  refine qD rfl (zB (v := (.int .i64 (i5 : Int))) rfl) ?_
  refine qD rfl (yT rfl rfl (by omega)) ?_
  refine qD rfl (zC (v := (.int .i64 ((i5 : Int) + 1))) rfl) ?_
  refine qe ?_
  refine yL ?_
  refine ⟨_, ?_, _, rfl, _, i5 + 1, u126, atsA ++ ([rootM nsA bsA (fs.getD i5 [])]), u74, v75, (addM nsA bsA (fs.getD i5 [])).2.1, (addM nsA bsA (fs.getD i5 [])).2.2, G76, (zG (x := 8) (zG (x := 7) (zG (x := 6) (zG (x := 5) (zG (x := 4) (zG (x := 1) (zV (x := 0) rfl) rfl) rfl) rfl) rfl) rfl) rfl), rfl, hX132, (Pin.le_trans hlek45 hx79.le), (by omega), hrk.ok, (by rw [take_map (by omega)]; exact (hgsA.px hrk.px hokA hrk.ok).snoc hrk.pl hrk.pd), (by have h8 := hrk.len; have h9 := hgd.2.2; omega), ho128, ho134, ho135, ho133, hb137, hb138, ha140.symm, ha141.symm, ha139.symm, ha143.symm, ha144.symm, ha103, ha92.symm, ha96.symm, ha101.symm, ha93.symm, ha97.symm, ha102.symm, hlo104, hlo105⟩
  omega
 refine wp_exit ?_
 refine yD ?_
 refine yP ?_
 refine yO ?_
 refine zA (zD (zD (zH ?_)))
 refine qD rfl (zC (v := (.int .i64 0)) rfl) ?_
 refine qe (zA ?_)
 refine yA ?_
 have hi5n : i5 = fs.length := by omega
 have hgsF : GsOk (bkq nsA bsA) atsA (fs.map gOf) := by rw [hi5n, List.take_length] at hgsA; exact hgsA
 refine yS (fun (k : Nat) (en : Nat → Value) (W : World) => ∃ (env1 : Nat → Value) (j5 : Nat) (atB : Value) (atsB : List Int) (uB : Value) (vB : Value) (nsB : List Nd) (bsB : List Int) (GLB : Pin), en = (upd (upd (upd (upd (upd (upd env1 1 v) 4 (.pointer (some ⟨b1, 0, none⟩))) 5 (.pointer (some ⟨b9, 0, none⟩))) 6 atA) 7 atB) 9 (.int .i64 (j5 : Int))) ∧ k = gs.length - j5 ∧ Ext noS G w GLB W ∧ Pin.le GLA GLB ∧ (j5 ≤ gs.length) ∧ (PoolOk (bkq nsB bsB)) ∧ (GsOk (bkq nsB bsB) atsB ((gs.take j5).map gOf)) ∧ (nsB.length ≤ 100000 + 1000 * j5) ∧ (GsOk (bkq nsB bsB) atsA (fs.map gOf)) ∧ (Own eInt 3 GLB W w.heap.size atB (atsB)) ∧ (Own eNode 99 GLB W 0 uB (nsB)) ∧ (Own eInt 3 GLB W 0 vB (bsB)) ∧ (Own eInt 3 GLB W w.heap.size atA (atsA)) ∧ (Bx GLB W b1 [(.slice none 0 0)]) ∧ (Bx GLB W b9 [uB, vB]) ∧ (Apart atB.ownBlock uB.ownBlock) ∧ (Apart atB.ownBlock vB.ownBlock) ∧ (Apart atB.ownBlock atA.ownBlock) ∧ (Apart atB.ownBlock (some b1)) ∧ (Apart atB.ownBlock (some b9)) ∧ (Apart uB.ownBlock vB.ownBlock) ∧ (Apart uB.ownBlock atA.ownBlock) ∧ (Apart uB.ownBlock (some b1)) ∧ (Apart uB.ownBlock (some b9)) ∧ (Apart vB.ownBlock atA.ownBlock) ∧ (Apart vB.ownBlock (some b1)) ∧ (Apart vB.ownBlock (some b9)) ∧ (Lo w noS uB.ownBlock) ∧ (Lo w noS vB.ownBlock)) _ ⟨_, 0, u31, [], uA, vA, nsA, bsA, GLA, (zG (x := 9) (zG (x := 7) (zG (x := 6) (zG (x := 5) (zG (x := 4) (zV (x := 1) rfl) rfl) rfl) rfl) rfl) rfl), rfl, hX48, Pin.le_refl _, Nat.zero_le _, hokA, GsOk.nil, (by omega), hgsF, hw52, hw50, hw51, hw49, hw53, hw54, ha61.symm, ha64.symm, ha57.symm, ha42, ha43, ha60, ha55.symm, ha62, ha63, ha56.symm, ha65, ha66, hlo67, hlo68⟩ ?_
 rintro k146 _ w147 ⟨env1, j5, atB, atsB, uB, vB, nsB, bsB, GLB, rfl, hk148, hX149, hlek146, hkj5, hokB, hgsB, hblB, hgsL, hw150, hw151, hw152, hw153, hw154, hw155, ha156, ha157, ha158, ha159, ha160, ha161, ha162, ha163, ha164, ha165, ha166, ha167, hlo168, hlo169⟩
 have hglB := hgsB.len
 rw [List.length_map, List.length_take] at hglB
 refine zD (zD (zH ?_))
 refine qD rfl (zB (v := (.int .i64 (j5 : Int))) rfl) ?_
 refine qD rfl (zB (v := v) rfl) ?_
 refine qD rfl (zQ Tryz.underlying79 (v := v) rfl hv) ?_
 refine qD rfl (yR rfl rfl) ?_
 refine qe (zA ?_)
 refine yG (p := ((j5 : Int) : Int) < (gs.length : Int)) rfl rfl (fun h170 => ?_) (fun h170 => ?_)
 ·skip
  have hgd := hga.ok j5 (by omega)
  have hgdl := hgd.2.1
  have hgdh := hgd.2.2
  have hrk := bk_root (fs := gs.getD j5 []) hokB hgd.1 (by omega) (by omega)
  refine wp_skip ?_
  refine zA (zD ?_)
  refine yA ?_
  refine zH ?_
  refine qD rfl (zB (v := atB) rfl) ?_
  refine qD rfl (zB (v := (.pointer (some ⟨b9, 0, none⟩))) rfl) ?_
  refine qD rfl (zB (v := v) rfl) ?_
  refine qD rfl (zB (v := (.int .i64 (j5 : Int))) rfl) ?_
  refine qD rfl (zM Tryz.underlying79 sz32 (v := v) rfl rfl hv (by omega) (by omega)) ?_
  obtain ⟨u171, hr172, hl173⟩ := nm_form (hv.at (z := (j5 : Int)) (by omega) (by omega)) (j := j5) rfl
  have hm174 := hr172.max
  refine qD rfl (hl173 ag32 sz32 rfl (Pins.of_le hX149.pins (Pin.le_trans hlek45 hlek146))) ?_
  refine qI rfl (zO (vs := [(.pointer (some ⟨b9, 0, none⟩)), (.agg [u171].toArray)]) Tryz.func91 nm91 rfl rfl rfl ?_)
  refine Calls.mono (root_spec hX149.pins ⟨hw155, hw151, hw152, ha164.symm, ha167.symm, ha161⟩ hokB.ar.ok (hr172.mono (Pin.le_trans hlek45 hlek146)) ⟨hgd.1, hgdl⟩ (by first | omega | (simp; omega))) ?_
  rintro _ w178 ⟨u175, v176, G177, rfl, hbk179, hx180, hlu181, hlv182⟩
  refine ⟨_, rfl, ?_⟩
  have hin185 : ∀ i, inS b9 uB vB i → w.heap.size ≤ i ∨ noS i := inS_lo (yV hlo18) hlo168 hlo169
  have hX186 := hX149.trans hx180 hin185
  have hn187 := notS (u := uB) (v := vB) ha160 ha156 ha157
  have ho188 := hw150.extS hx180 hn187
  have ha189 : Apart atB.ownBlock u175.ownBlock := xX hlu181 hn187 (xW hw150)
  have ha190 : Apart atB.ownBlock v176.ownBlock := xX hlv182 hn187 (xW hw150)
  have hn191 := notS (u := uB) (v := vB) ha59 ha162.symm ha165.symm
  have ho192 := hw153.extS hx180 hn191
  have ha193 : Apart atA.ownBlock u175.ownBlock := xX hlu181 hn191 (xW hw153)
  have ha194 : Apart atA.ownBlock v176.ownBlock := xX hlv182 hn191 (xW hw153)
  have hn195 := notS (u := uB) (v := vB) ha17.symm ha163.symm ha166.symm
  have ho196 := hw154.extS hx180 (notSb hn195)
  have ha197 : Apart (some b1) u175.ownBlock := xX hlu181 hn195 (box_lt hw154)
  have ha198 : Apart (some b1) v176.ownBlock := xX hlv182 hn195 (box_lt hw154)
  have hb199 := hbk179.bx
  have ho200 := hbk179.ou
  have ho201 := hbk179.ov
  have ha202 := hbk179.abu
  have ha203 := hbk179.abv
  have ha204 := hbk179.auv
  have hlo205 := qG hlu181 hin185 hX149.size
  have hlo206 := qG hlv182 hin185 hX149.size
  refine qI rfl (yY (E := eInt) (e := 3) [(.int .i64 (rootM nsB bsB (gs.getD j5 [])))] [rootM nsB bsB (gs.getD j5 [])] Tryz.underlying65 sz3 zr3 (by exact xV (by rfl)) (yZ (by rfl)) rfl rfl rfl rfl (by decide) hX186.pins (fun u207 w208 ho209 hp210 hl211 hk212 => ?_))
  have hX213 := hX186.step hp210 hl211
  have ho214 := ho188.below hl211
  have ho215 := ho192.below hl211
  have ho216 := ho200.below hl211
  have ho217 := ho201.below hl211
  have hb218 := ho196.below hl211
  have hb219 := hb199.below hl211
  have ho226 : Own eInt 3 G177 w208 w.heap.size u207 ([rootM nsB bsB (gs.getD j5 [])]) := ho209.weaken hX186.size
  refine qI rfl (yC (E := eInt) (v := atB) (u := u207) 8 Tryz.underlying65 ap3 (by decide) rfl rfl hX213.pins ho214 ho226.src (by first | omega | (rw [List.nil_append]; omega) | (rw [List.length_nil]; omega) | (rw [List.length_append]; omega) | (simp; done) | (simp; omega) | (simp only [List.length_append, List.length_cons, List.length_nil]; omega)) (by first | omega | (rw [List.nil_append]; omega) | (rw [List.length_nil]; omega) | (rw [List.length_append]; omega) | (simp; done) | (simp; omega) | (simp only [List.length_append, List.length_cons, List.length_nil]; omega)) (hX213.size) (fun u227 w228 ho229 hp230 hg231 hw232 => ?_))
  have hX233 := hX213.write hp230 hg231 ((yH ho214))
  have ho234 := ho215.keptA hg231 ha158.symm
  have ho235 := ho216.keptA hg231 ha189.symm
  have ho236 := ho217.keptA hg231 ha190.symm
  have hb238 := hb218.keptA hg231 ha159.symm
  have hb239 := hb219.keptA hg231 ha160.symm
  have ha240 : Apart atA.ownBlock u227.ownBlock := zJ ha158.symm hw232 ho215.lt
  have ha241 : Apart u175.ownBlock u227.ownBlock := zJ ha189.symm hw232 ho216.lt
  have ha242 : Apart v176.ownBlock u227.ownBlock := zJ ha190.symm hw232 ho217.lt
  have ha244 : Apart (some b1) u227.ownBlock := zP ha159.symm hw232 hb218.lt
  have ha245 : Apart (some b9) u227.ownBlock := zP ha160.symm hw232 hb219.lt
  have hm246 : (atsB ++ ([rootM nsB bsB (gs.getD j5 [])])).length = atsB.length + 1 := List.length_append
  refine qD rfl (zC (v := u227) rfl) ?_
  refine qe ?_
  refine yN ?_
  refine zA (zH ?_)
  refine qD rfl (zB (v := (.int .i64 (j5 : Int))) rfl) ?_
  refine qD rfl (yT rfl rfl (by omega)) ?_
  refine qD rfl (zC (v := (.int .i64 ((j5 : Int) + 1))) rfl) ?_
  refine qe ?_
  refine yL ?_
  refine ⟨_, ?_, _, rfl, _, j5 + 1, u227, atsB ++ ([rootM nsB bsB (gs.getD j5 [])]), u175, v176, (addM nsB bsB (gs.getD j5 [])).2.1, (addM nsB bsB (gs.getD j5 [])).2.2, G177, (zG (x := 9) (zG (x := 7) (zG (x := 6) (zG (x := 5) (zG (x := 4) (zV (x := 1) rfl) rfl) rfl) rfl) rfl) rfl), rfl, hX233, (Pin.le_trans hlek146 hx180.le), (by omega), hrk.ok, (by rw [take_map (by omega)]; exact (hgsB.px hrk.px hokB hrk.ok).snoc hrk.pl hrk.pd), (by have h8 := hrk.len; have h9 := hgd.2.2; omega), (hgsL.px hrk.px hokB hrk.ok), ho229, ho235, ho236, ho234, hb238, hb239, ha241.symm, ha242.symm, ha240.symm, ha244.symm, ha245.symm, ha204, ha193.symm, ha197.symm, ha202.symm, ha194.symm, ha198.symm, ha203.symm, hlo205, hlo206⟩
  omega
 refine wp_exit ?_
 refine yD ?_
 refine yP ?_
 refine yO ?_
 refine zA (zD (zH ?_))
 have hj5n : j5 = gs.length := by omega
 have hgsR : GsOk (bkq nsB bsB) atsB (gs.map gOf) := by rw [hj5n, List.take_length] at hgsB; exact hgsB
 have hl1 := hgsL.len
 have hl2 := hgsR.len
 rw [List.length_map] at hl1 hl2
 have hpt := bk_put (xs := atsA) (ys := atsB) hokB (by omega) ⟨by omega, by omega⟩ hgsL.pl hgsR.pl
 have hpd := hpt.pd
 rw [hgsL.eq, hgsR.eq] at hpd
 refine qD rfl (zB (v := (.pointer (some ⟨b9, 0, none⟩))) rfl) ?_
 refine qD rfl (zB (v := (.pointer (some ⟨b9, 0, none⟩))) rfl) ?_
 refine qD rfl (zB (v := atA) rfl) ?_
 refine qD rfl (zB (v := atB) rfl) ?_
 obtain ⟨G247, hle250, hX249, hr248, hf251⟩ := hw153.sealed hX149
 have ho252 := hw150.moreO hle250 hf251 ha158
 have ho253 := hw151.moreO hle250 hf251 ha162
 have ho254 := hw152.moreO hle250 hf251 ha165
 have hb255 := hw154.moreO hf251 ha58.symm
 have hb256 := hw155.moreO hf251 ha59.symm
 obtain ⟨G257, hle260, hX259, hr258, hf261⟩ := ho252.sealed hX249
 have ho262 := ho253.moreO hle260 hf261 ha156.symm
 have ho263 := ho254.moreO hle260 hf261 ha157.symm
 have hb264 := hb255.moreO hf261 ha159.symm
 have hb265 := hb256.moreO hf261 ha160.symm
 refine qI rfl (zO (vs := [(.pointer (some ⟨b9, 0, none⟩)), atA, atB]) Tryz.func112 nm112 rfl rfl rfl ?_)
 refine Calls.mono (put_spec hX259.pins ⟨hb265, ho262, ho263, ha164.symm, ha167.symm, ha161⟩ hokB.ar.ok (hr248.mono hle260) hr258 ⟨by omega, by omega⟩ (qP hgsL.pl) (qP hgsR.pl)) ?_
 rintro _ w269 ⟨u266, v267, G268, rfl, hbk270, hx271, hlu272, hlv273⟩
 refine ⟨_, rfl, ?_⟩
 have hin276 : ∀ i, inS b9 uB vB i → w.heap.size ≤ i ∨ noS i := inS_lo (yV hlo18) hlo168 hlo169
 have hX277 := hX259.trans hx271 hin276
 have hn278 := notS (u := uB) (v := vB) ha17.symm ha163.symm ha166.symm
 have ho279 := hb264.extS hx271 (notSb hn278)
 have hb282 := hbk270.bx
 have ho283 := hbk270.ou
 have ho284 := hbk270.ov
 have ha285 := hbk270.abu
 have ha286 := hbk270.abv
 have ha287 := hbk270.auv
 have hlo288 := qG hlu272 hin276 hX259.size
 have hlo289 := qG hlv273 hin276 hX259.size
 refine qI rfl (zO (vs := [(.pointer (some ⟨b9, 0, none⟩)), (.int .i64 (putK nsB bsB atsA atsB))]) Tryz.func90 nm90 rfl rfl rfl ?_)
 refine Calls.mono (form_spec hX277.pins ⟨hb282, ho283, ho284, ha285, ha286, ha287⟩ hpt.ok.ar.ok hpt.pl) ?_
 rintro _ w292 ⟨u290, G291, rfl, hr293, hx294⟩
 refine ⟨_, rfl, ?_⟩
 have hX295 := hX277.tr hx294
 have hb298 := ho279.ext hx294
 refine q0 rfl rfl rfl (xF (cs' := [u290]) (us := [u290]) (v := (.agg [u290].toArray)) sz32 rfl rfl rfl (yZ hr293.one) hX295.pins hb298 (Nat.le_of_ble_eq_true rfl) rfl (fun w300 hb301 hp302 hg303 hz304 => ?_))
 have hX305 := hX295.write hp302 hg303 ((yV hlo8))
 refine qe (zA ?_)
 refine wp_ret ?_
 refine zX ?_
 refine c_retc (cs := [u290]) rfl rfl rfl ag32 sz32 (fun j u hj => by rw [Nat.zero_add]; exact hb301.cell hj) ?_
 exact ⟨_, _, rfl, (by rw [show mkGm fs gs = _ from hpd.symm, ← book_form hpt.ok hpt.pl]; exact hr293), hX305⟩

end MK1
end Go.Proofs.YtfnginkcmcfdfaaGreatDoor

set_option maxRecDepth 20000
set_option maxHeartbeats 2000000
namespace Go.Proofs.YtfnginkcmcfdfaaGreatDoor
namespace TI1
open Go.RowKit Go.GL Go.Proofs
open Go.Proofs.YtfnginkcmcfdfaaGreatDoor.B1
open Go.Proofs.YtfnginkcmcfdfaaGreatDoor.C1
open Go.Proofs.YtfnginkcmcfdfaaGreatDoor.D1
open Go.Proofs.YtfnginkcmcfdfaaGreatDoor.E1
open Go.Proofs.YtfnginkcmcfdfaaGreatDoor.K1
open Go.Proofs.YtfnginkcmcfdfaaGreatDoor.PO1
open Go.Proofs.YtfnginkcmcfdfaaGreatDoor.PL1
open Go.Proofs.YtfnginkcmcfdfaaGreatDoor.PA1
open Go.Proofs.YtfnginkcmcfdfaaGreatDoor.SO1
open Go.Proofs.YtfnginkcmcfdfaaGreatDoor.OD1
open Go.Proofs.YtfnginkcmcfdfaaGreatDoor.FO1
open Go.Proofs.YtfnginkcmcfdfaaGreatDoor.NG1
open Go.Proofs.YtfnginkcmcfdfaaGreatDoor.NF1
open Go.Proofs.YtfnginkcmcfdfaaGreatDoor.SM1
open Go.Proofs.YtfnginkcmcfdfaaGreatDoor.MK1






theorem pl32 : (Tryz.prog.underlying 32).bind (placesD Tryz.prog) = some [(0, 1)] := by kernel_rfl
theorem pl99 : (Tryz.prog.underlying 99).bind (placesD Tryz.prog) = some [(0, 1), (1, 1)] := by kernel_rfl




theorem l5Zero_spec {w : World} {G : Pin} (hP : Pins G w) :
  Calls Tryz.prog 80 [].toArray w fun e w' => ∃ (u : Value) (G' : Pin), e = .returned (.agg [u].toArray) ∧ RSl eNode G' u zF ∧ Ext noS G w G' w' := by
 refine zZ (n := 4) Tryz.func80 Tryz.ntmps80 rfl rfl ?_
 have hX0 : Ext noS G w G w := Ext.refl hP
 refine zD (zH ?_)
 refine qI rfl (xA [(.slice none 0 0)] zr32 rfl hX0.pins (fun b1 w2 hk3 hb4 hp5 hl6 => ?_))
 have hX7 := hX0.step hp5 hl6
 have hlo8 : w.heap.size ≤ b1 := by have := hX0.size; omega
 refine qe (zA (zD (zH ?_)))
 refine qD rfl (xP [(.slice none 0 0), (.slice none 0 0)] [(.slice none 0 0), (.slice none 0 0)] [] Tryz.underlying99 zr99 rfl pl99 rfl (fun _ h => by cases h) rfl) ?_
 refine qI rfl (qK (E := eNode) (e := 99) [(.slice none 0 0), (.slice none 0 0)] (⟨[], []⟩ : Nd) Tryz.underlying30 sz99 zr99 ⟨_, _, rfl, (qQ _ _), (qQ _ _)⟩ rfl (by decide) hX7.pins (fun u9 w10 ho11 hp12 hl13 hk14 => ?_))
 have hX15 := hX7.step hp12 hl13
 have hb16 := hb4.below hl13
 have ha17 : Apart u9.ownBlock (some b1) := zN hk14 hb4.lt
 have ho18 : Own eNode 99 G w10 w.heap.size u9 ([(⟨[], []⟩ : Nd)]) := ho11.weaken hX7.size
 refine qD rfl (xP [(.slice none 0 0)] [u9] [(0, u9, [u9])] Tryz.underlying32 zr32 rfl pl32 rfl (List.forall_mem_cons.2 ⟨(xC ho18.one), (fun _ h => by cases h)⟩) rfl) ?_
 refine q0 rfl rfl rfl (xF (cs' := [u9]) (us := [u9]) (v := (.agg [u9].toArray)) sz32 rfl rfl rfl (yZ ho18.one) hX15.pins hb16 (Nat.le_of_ble_eq_true rfl) rfl (fun w19 hb20 hp21 hg22 hz23 => ?_))
 have hX24 := hX15.write hp21 hg22 ((yV hlo8))
 have ho25 := ho18.keptA hg22 ha17
 refine qe (zA ?_)
 refine wp_ret ?_
 refine zX ?_
 refine c_retc (cs := [u9]) rfl rfl rfl ag32 sz32 (fun j u hj => by rw [Nat.zero_add]; exact hb20.cell hj) ?_
 obtain ⟨G26, hle29, hX28, hr27, hf30⟩ := ho25.sealed hX24
 exact ⟨_, _, rfl, hr27, hX28⟩

theorem sTinyForm_spec {w : World} {G : Pin} {v : Value} {fs : List Nd} (hP : Pins G w) (hv : RSl eNode G v fs) :
  Calls Tryz.prog 40 [(.agg [v].toArray)].toArray w fun e w' => ∃ (u : Value) (G' : Pin), e = .returned (.tuple #[(.agg [u].toArray), .bool (tinB fs)]) ∧ RSl eNode G' u (tinF fs) ∧ Ext noS G w G' w' := by
 refine zZ (n := 22) Tryz.func40 Tryz.ntmps40 rfl rfl ?_
 have hX0 : Ext noS G w G w := Ext.refl hP
 refine zD (zH ?_)
 refine qI rfl (xT [v] (v := (.agg [v].toArray)) rfl rfl hX0.pins (fun b1 w2 hk3 hb4 hp5 hl6 => ?_))
 have hX7 := hX0.step hp5 hl6
 have hlo8 : w.heap.size ≤ b1 := by have := hX0.size; omega
 obtain ⟨G9, hle10, hX11, hbp12, hf13⟩ := hb4.shut hX7 hlo8
 refine qI rfl (xA [(.slice none 0 0)] zr32 rfl hX11.pins (fun b14 w15 hk16 hb17 hp18 hl19 => ?_))
 have hX20 := hX11.step hp18 hl19
 have hlo21 : w.heap.size ≤ b14 := by have := hX11.size; omega
 refine qD rfl (zC (v := (.bool false)) rfl) ?_
 refine qe (zA (zD (zD (zH ?_))))
 refine qD rfl (xD (cs := [v]) ag32 sz32 rfl (fun j u hj => hX20.pins _ _ _ (hbp12 _ _ (by simpa using hj)))) ?_
 refine qI rfl (zO (vs := [(.agg [v].toArray)]) Tryz.func47 nm47 rfl rfl rfl ?_)
 refine Calls.mono (l3Good_spec hX20.pins (hv.mono hle10)) ?_
 rintro _ w23 ⟨G22, rfl, hx24⟩
 refine ⟨_, rfl, ?_⟩
 have hX25 := hX20.tr hx24
 have hb26 := hb17.ext hx24
 refine qD rfl (qB rfl) ?_
 refine qe (zA ?_)
 refine c_ifn rfl rfl (fun h27 => ?_) (fun h27 => ?_)
 ·skip
  refine wp_skip ?_
  refine zA (zD (zH ?_))
  have hgb : goodB fs = true := (good_eq fs).symm.trans h27
  have hga := goodB_true.1 hgb
  have hgl := hga.lo
  have hgh := hga.hi
  refine qI rfl (zO (vs := []) Tryz.func80 nm80 rfl rfl rfl ?_)
  refine Calls.mono (l5Zero_spec hX25.pins ) ?_
  rintro _ w30 ⟨u28, G29, rfl, hr31, hx32⟩
  refine ⟨_, rfl, ?_⟩
  have hX33 := hX25.tr hx32
  have hb34 := hb26.ext hx32
  refine qI rfl (qK (E := (eSl eNode)) (e := 32) [u28] zF Tryz.underlying79 sz32 zr32 ⟨_, rfl, hr31⟩ rfl (by decide) hX33.pins (fun u35 w36 ho37 hp38 hl39 hk40 => ?_))
  have hX41 := hX33.step hp38 hl39
  have hb42 := hb34.below hl39
  have ha43 : Apart u35.ownBlock (some b14) := zN hk40 hb34.lt
  have ho44 : Own (eSl eNode) 32 G29 w36 w.heap.size u35 ([zF]) := ho37.weaken hX33.size
  refine qD rfl (zC (v := u35) rfl) ?_
  refine qe (zA (zD (zH ?_)))
  refine qD rfl (zB (v := u35) rfl) ?_
  refine qD rfl (zB (v := u35) rfl) ?_
  refine qD rfl (xD (cs := [v]) ag32 sz32 rfl (fun j u hj => (Pins.of_le hX41.pins (Pin.le_trans hx24.le hx32.le)) _ _ _ (hbp12 _ _ (by simpa using hj)))) ?_
  refine qI rfl (zO (vs := [(.agg [v].toArray)]) Tryz.func81 nm81 rfl rfl rfl ?_)
  refine Calls.mono (l5Neg_spec hX41.pins (hv.mono (Pin.le_trans (Pin.le_trans hle10 hx24.le) hx32.le)) (good_form hga) ⟨by omega, by omega⟩) ?_
  rintro _ w47 ⟨u45, G46, rfl, hr48, hx49⟩
  refine ⟨_, rfl, ?_⟩
  have hX50 := hX41.tr hx49
  have ho51 := ho44.ext hx49
  have hb52 := hb42.ext hx49
  refine qI rfl (qK (E := (eSl eNode)) (e := 32) [u45] (formG (negG (gOf fs))) Tryz.underlying79 sz32 zr32 ⟨_, rfl, hr48⟩ rfl (by decide) hX50.pins (fun u53 w54 ho55 hp56 hl57 hk58 => ?_))
  have hX59 := hX50.step hp56 hl57
  have ho60 := ho51.below hl57
  have hb61 := hb52.below hl57
  have ha62 : Apart u53.ownBlock u35.ownBlock := zK hk58 ho51.lt
  have ha63 : Apart u53.ownBlock (some b14) := zN hk58 hb52.lt
  have ho64 : Own (eSl eNode) 32 G46 w54 w.heap.size u53 ([formG (negG (gOf fs))]) := ho55.weaken hX50.size
  obtain ⟨G65, hle68, hX67, hr66, hf69⟩ := ho60.sealed hX59
  have ho70 := ho64.moreO hle68 hf69 ha62
  have hb71 := hb61.moreO hf69 ha43.symm
  obtain ⟨G72, hle75, hX74, hr73, hf76⟩ := ho70.sealed hX67
  have hb77 := hb71.moreO hf76 ha63.symm
  refine qI rfl (zO (vs := [u35, u53]) Tryz.func63 nm63 rfl rfl rfl ?_)
  refine Calls.mono (l3Make_spec hX74.pins (hr66.mono hle75) hr73 zF_w (tin_neg hga)) ?_
  rintro _ w80 ⟨u78, G79, rfl, hr81, hx82⟩
  refine ⟨_, rfl, ?_⟩
  have hX83 := hX74.tr hx82
  have hb84 := hb77.ext hx82
  refine qI rfl (qK (E := (eSl eNode)) (e := 32) [u78] (formG (mkGm ([zF]) ([formG (negG (gOf fs))]))) Tryz.underlying79 sz32 zr32 ⟨_, rfl, hr81⟩ rfl (by decide) hX83.pins (fun u85 w86 ho87 hp88 hl89 hk90 => ?_))
  have hX91 := hX83.step hp88 hl89
  have hb92 := hb84.below hl89
  have ha93 : Apart u85.ownBlock (some b14) := zN hk90 hb84.lt
  have ho94 : Own (eSl eNode) 32 G79 w86 w.heap.size u85 ([formG (mkGm ([zF]) ([formG (negG (gOf fs))]))]) := ho87.weaken hX83.size
  obtain ⟨G95, hle98, hX97, hr96, hf99⟩ := ho94.sealed hX91
  have hb100 := hb92.moreO hf99 ha93.symm
  refine qI rfl (zO (vs := [u35, u85]) Tryz.func63 nm63 rfl rfl rfl ?_)
  refine Calls.mono (l3Make_spec hX97.pins (hr66.mono (Pin.le_trans (Pin.le_trans hle75 hx82.le) hle98)) hr96 zF_w (tin_a hga).1) ?_
  rintro _ w103 ⟨u101, G102, rfl, hr104, hx105⟩
  refine ⟨_, rfl, ?_⟩
  have hX106 := hX97.tr hx105
  have hb107 := hb100.ext hx105
  refine qI rfl (zO (vs := [(.agg [u101].toArray)]) Tryz.func57 nm57 rfl rfl rfl ?_)
  refine Calls.mono (l3If_spec hX106.pins hr104) ?_
  rintro _ w110 ⟨u108, G109, rfl, hr111, hx112⟩
  refine ⟨_, rfl, ?_⟩
  have hX113 := hX106.tr hx112
  have hb114 := hb107.ext hx112
  refine qD rfl (xL (v := (.agg [u108].toArray)) rfl rfl) ?_
  refine qD rfl (xL (v := (.bool (decP (FitsP (formG (mkGm ([zF]) ([formG (mkGm ([zF]) ([formG (negG (gOf fs))]))]))))))) rfl rfl) ?_
  refine q0 rfl rfl rfl (xF (cs' := [u108]) (us := [u108]) (v := (.agg [u108].toArray)) sz32 rfl rfl rfl (yZ hr111.one) hX113.pins hb114 (Nat.le_of_ble_eq_true rfl) rfl (fun w115 hb116 hp117 hg118 hz119 => ?_))
  have hX120 := hX113.write hp117 hg118 ((yV hlo21))
  refine qD rfl (zC (v := (.bool (decP (FitsP (formG (mkGm ([zF]) ([formG (mkGm ([zF]) ([formG (negG (gOf fs))]))]))))))) rfl) ?_
  refine qe (zA ?_)
  refine wp_ret ?_
  refine zX ?_
  refine c_retct (cs := [u108]) (v := (.bool (decP (FitsP (formG (mkGm ([zF]) ([formG (mkGm ([zF]) ([formG (negG (gOf fs))]))]))))))) rfl rfl rfl rfl rfl ag32 sz32 (fun j u hj => by rw [Nat.zero_add]; exact hb116.cell hj) ?_
  obtain ⟨e1, e2⟩ := tin_yes hgb
  rw [e1, e2]
  exact ⟨_, _, rfl, hr111, hX120⟩
 refine zD (zH ?_)
 refine qD rfl (xP [(.slice none 0 0)] [(.slice none 0 0)] [] Tryz.underlying32 zr32 rfl pl32 rfl (fun _ h => by cases h) rfl) ?_
 refine q0 rfl rfl rfl (xF (cs' := [(.slice none 0 0)]) (us := [(.slice none 0 0)]) (v := (.agg [(.slice none 0 0)].toArray)) sz32 rfl rfl rfl (yZ (by rfl)) hX25.pins hb26 (Nat.le_of_ble_eq_true rfl) rfl (fun w121 hb122 hp123 hg124 hz125 => ?_))
 have hX126 := hX25.write hp123 hg124 ((yV hlo21))
 refine qD rfl (zC (v := (.bool false)) rfl) ?_
 refine qe (zA ?_)
 refine wp_ret ?_
 refine zX ?_
 refine c_retct (cs := [(.slice none 0 0)]) (v := (.bool false)) rfl rfl rfl rfl rfl ag32 sz32 (fun j u hj => by rw [Nat.zero_add]; exact hb122.cell hj) ?_
 have hgb : goodB fs = false := (good_eq fs).symm.trans h27
 obtain ⟨e1, e2⟩ := tin_no hgb
 rw [e1, e2]
 exact ⟨_, _, rfl, (qQ _ _), hX126⟩

end TI1
end Go.Proofs.YtfnginkcmcfdfaaGreatDoor
