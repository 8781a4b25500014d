/- Texts of this claim in one file: PO1, PL1, PA1, DI1, RI1, CN1, CN2, CN3, CN4, AS2. -/
import Derived.Test.YtfnginkcmcfdfaaGreatDoorSf5
import Derived.Test.YtfnginkcmcfdfaaGreatDoorChecked
set_option maxRecDepth 20000
set_option maxHeartbeats 2000000
namespace Go.Proofs.YtfnginkcmcfdfaaGreatDoor
namespace PO1
open Go.RowKit Go.GL Go.Proofs
open Go.Proofs.YtfnginkcmcfdfaaGreatDoor.B1
open Go.Proofs.YtfnginkcmcfdfaaGreatDoor.K1







theorem mk5 : (Tryz.prog.info? 5).map (fun i => (i.size, i.bytes, i.zero)) = some (1, 1, some (.int .u8 0)) := by kernel_rfl















theorem clone_spec {w : World} {G : Pin} {v : Value} {xs : List Int} (hP : Pins G w) (hv : RSl eInt G v xs) (hs : xs.length ≤ 1048576) :
  Calls Tryz.prog 159 [v].toArray w fun e w' => ∃ (u : Value) (G' : Pin), e = .returned u ∧ Own eInt 3 G' w' w.heap.size u xs ∧ Ext noS G w G' w' := by
 refine yE (n := 8) Tryz.func159 Tryz.ntmps159 rfl rfl ?_
 have hX0 : Ext noS G w G w := Ext.refl hP
 refine zE (zF ?_)
 refine qD rfl (zC (v := (.slice none 0 0)) rfl) ?_
 refine qe (zB (zE (zE (zF ?_))))
 refine qD rfl (zA (v := v) rfl) ?_
 refine qD rfl (r_eqlNil Tryz.underlying65 hv rfl rfl) ?_
 refine qe (zB ?_)
 refine c_if rfl rfl (fun h1 => ?_) (fun h1 => ?_)
 ·skip
  refine zE (zF ?_)
  refine qD rfl (zC (v := (.slice none 0 0)) rfl) ?_
  refine qe (zB ?_)
  refine wp_ret ?_
  refine zW ?_
  refine zS (v := (.slice none 0 0)) rfl rfl rfl ?_
  have hx0 := nil_of hv h1
  subst hx0
  exact ⟨_, _, rfl, Own.nil _ _ _ _ _, hX0⟩
 refine wp_skip ?_
 refine zB (zE (zF ?_))
 refine qI rfl (yX (E := eInt) (e := 3) Tryz.underlying65 sz3 hX0.pins (fun u2 w3 ho4 hp5 hl6 hk7 => ?_))
 have hX8 := hX0.step hp5 hl6
 have ho9 : Own eInt 3 G w3 w.heap.size u2 ([]) := ho4.weaken hX0.size
 refine qD rfl (zA (v := v) rfl) ?_
 refine qI rfl (zX (E := eInt) (v := u2) (u := v) 8 Tryz.underlying65 ap3 (by decide) rfl rfl hX8.pins ho9 ((hv.mono (Pin.le_refl _)).src hX8.pins (by decide)) (by first | omega | (rw [List.nil_append]; omega) | (rw [List.length_nil]; omega) | (rw [List.length_append]; omega) | (simp; done) | (simp; omega) | (simp only [List.length_append, List.length_cons, List.length_nil]; omega)) (by first | omega | (rw [List.nil_append]; omega) | (rw [List.length_nil]; omega) | (rw [List.length_append]; omega) | (simp; done) | (simp; omega) | (simp only [List.length_append, List.length_cons, List.length_nil]; omega)) (hX8.size) (fun u10 w11 ho12 hp13 hg14 hw15 => ?_))
 have hX16 := hX8.write hp13 hg14 ((yG ho9))
 have hm17 : (([]) ++ xs).length = ([]).length + xs.length := List.length_append
 refine qD rfl (zC (v := u10) rfl) ?_
 refine qe (zB ?_)
 refine wp_ret ?_
 refine zW ?_
 refine zS (v := u10) rfl rfl rfl ?_
 exact ⟨_, _, rfl, ho12, hX16⟩

theorem sortI_spec {w : World} {G : Pin} {e base : Nat} {v : Value} {xs : List Int} (hP : Pins G w) (hv : Own eInt e G w base v xs) (hl : xs.length ≤ 1073741824) :
  Calls Tryz.prog 152 [v].toArray w fun en w' => ∃ G', en = .returned (.tuple #[]) ∧ Own eInt e G' w' base v (sortM xs) ∧ Ext (inO v.ownBlock) G w G' w' := by
 rcases own_cases hv with ⟨rfl, rfl⟩ | ⟨g, cap, rfl⟩
 ·refine (Tryz.slices_Sort_int_none none 0 w).mono ?_
  rintro en w' ⟨rfl, rfl⟩
  exact ⟨G, rfl, by simpa [sortM] using hv, Ext.refl hP⟩
 ·obtain ⟨_, h1, h2, h3⟩ := own_holds hv
  refine (Tryz.slices_Sort_int g 0 cap xs w h3 h1 (by omega)).mono ?_
  rintro en w' ⟨rfl, m, os, hw⟩
  obtain ⟨a, b, c⟩ := own_put (ys := sortM xs) hv hP hw (sortM_length xs) (List.take_length ..)
  rw [sortM_length] at a
  exact ⟨G, rfl, a, Ext.one b c⟩
theorem compactI_spec {w : World} {G : Pin} {e base : Nat} {v : Value} {xs : List Int} (hP : Pins G w) (hv : Own eInt e G w base v xs) (hl : xs.length ≤ 1073741824) :
  Calls Tryz.prog 160 [v].toArray w fun en w' => ∃ (u : Value) (G' : Pin), en = .returned u ∧ Own eInt e G' w' base u (Go.Lib.compact xs) ∧ Lo w (inO v.ownBlock) u.ownBlock ∧ Ext (inO v.ownBlock) G w G' w' := by
 rcases own_cases hv with ⟨rfl, rfl⟩ | ⟨g, cap, rfl⟩
 ·refine (Tryz.slices_Compact_int_empty none 0 w).mono ?_
  rintro en w' ⟨rfl, rfl⟩
  exact ⟨_, G, rfl, hv, xQ, Ext.refl hP⟩
 ·obtain ⟨_, h1, h2, h3⟩ := own_holds hv
  refine (Tryz.slices_Compact_int g 0 cap xs w h3 (by omega) h2).mono ?_
  rintro en w' ⟨rfl, m, hw⟩
  have hcl := compact_len xs
  obtain ⟨a, b, c⟩ := own_put (os := #[]) (ys := Go.Lib.compact xs) hv hP (hw.trans (Go.Sort.grow_empty _).symm) (by simp; omega) (List.take_left ..)
  exact ⟨_, G, rfl, a, xQ, Ext.one b c⟩

theorem distinct_spec {w : World} {G : Pin} {v : Value} {xs : List Int} (hP : Pins G w) (hv : RSl eInt G v xs) (hs : xs.length ≤ 1048576) :
  Calls Tryz.prog 129 [v].toArray w fun e w' => ∃ (u : Value) (G' : Pin), e = .returned u ∧ Own eInt 3 G' w' w.heap.size u (sortL xs) ∧ Ext noS G w G' w' := by
 refine yE (n := 10) Tryz.func129 Tryz.ntmps129 rfl rfl ?_
 have hX0 : Ext noS G w G w := Ext.refl hP
 refine zE (zF ?_)
 refine qD rfl (zC (v := (.slice none 0 0)) rfl) ?_
 refine qe (zB (zE (zF ?_)))
 refine qD rfl (zA (v := v) rfl) ?_
 refine qI rfl (zN (vs := [v]) Tryz.func159 nm159 rfl rfl rfl ?_)
 refine Calls.mono (clone_spec hX0.pins hv (by omega)) ?_
 rintro _ w3 ⟨u1, G2, rfl, ho4, hx5⟩
 refine ⟨_, rfl, ?_⟩
 have hX6 := hX0.tr hx5
 have ho7 : Own eInt 3 G2 w3 w.heap.size u1 xs := ho4.weaken hX0.size
 refine qD rfl (zC (v := u1) rfl) ?_
 refine qe (zB (zE (zF ?_)))
 refine qD rfl (zA (v := u1) rfl) ?_
 refine qI rfl (zN (vs := [u1]) Tryz.func152 nm152 rfl rfl rfl ?_)
 refine Calls.mono (sortI_spec hX6.pins ho7 (by omega)) ?_
 rintro _ w9 ⟨G8, rfl, ho10, hx11⟩
 refine ⟨_, rfl, ?_⟩
 have hX12 := hX6.trans hx11 (fun i hi => (yG ho7) i hi)
 have hm13 := sortM_length xs
 refine qe (zB (zE (zF ?_)))
 refine qD rfl (zA (v := u1) rfl) ?_
 refine qI rfl (zN (vs := [u1]) Tryz.func160 nm160 rfl rfl rfl ?_)
 refine Calls.mono (compactI_spec hX12.pins (ho10.weaken (Nat.zero_le _)) (by omega)) ?_
 rintro _ w16 ⟨u14, G15, rfl, ho17, hlo18, hx19⟩
 refine ⟨_, rfl, ?_⟩
 have hX20 := hX12.trans hx19 (fun i hi => (yG ho10) i hi)
 have ho21 := ho17.up (lo := w.heap.size) (fun k hk => (hlo18 k hk).elim (fun h => Nat.le_trans hX12.size h) (fun h => (ho10.lt k h).1))
 refine qD rfl (zC (v := u14) rfl) ?_
 refine qe (zB ?_)
 refine wp_ret ?_
 refine zW ?_
 refine zS (v := u14) rfl rfl rfl ?_
 exact ⟨_, _, rfl, (by rw [← distinct_eq]; simpa using ho21), hX20⟩

theorem node_spec {w : World} {G : Pin} {p : Nat} {L R B : Value} {mm : PM} {q : PSt} (hP : Pins G w) (hpk : Pk 65 3 G w p L R B mm q) (hok : PoolOk q) {x y : Value} {xs ys : List Int} (hx : RSl eInt G x xs) (hy : RSl eInt G y ys) (hlim : q.ns.length + 1 ≤ 1048576) (hls : xs.length ≤ 1048576 ∧ ys.length ≤ 1048576) (hk1 : ∀ i, i < xs.length → 0 ≤ xs.getD i 0 ∧ xs.getD i 0 < q.ns.length) (hk2 : ∀ i, i < ys.length → 0 ≤ ys.getD i 0 ∧ ys.getD i 0 < q.ns.length) :
  Calls Tryz.prog 79 [(.pointer (some ⟨p, 0, none⟩)), x, y].toArray w fun e w' => ∃ (z : Int) (L' R' B' : Value) (q' : PSt) (G' : Pin), e = .returned (.int .i64 z) ∧ Pk 65 3 G' w' p L' R' B' mm q' ∧ PoolOk q' ∧ PX q q' ∧ PLo w p L R B mm L' R' B' ∧ Ext (inP p L R B mm) G w G' w' ∧ PlaceOk q' z ∧ pd q' z = mkG (xs.map (pd q)) (ys.map (pd q)) ∧ q'.ns.length ≤ q.ns.length + 1 ∧ (q'.cm = q.cm ∧ (q'.ns.length = q.ns.length ∨ z = q.ns.length)) := by
 refine yE (n := 130) Tryz.func79 Tryz.ntmps79 rfl rfl ?_
 have hX0 : Ext (inP p L R B mm) G w G w := Ext.refl hP
 have hpin : PIn w (inP p L R B mm) p L R B mm := PIn.self
 have hml1 : (q.ns.map Nd.l).length = q.ns.length ∧ (q.ns.map Nd.r).length = q.ns.length := ⟨List.length_map .., List.length_map ..⟩
 have hml2 : q.bs.length = q.ns.length ∧ q.ns.length ≤ 1048576 := ⟨hok.ar.ok.len, hok.ar.ok.lim⟩
 obtain ⟨xs2, hxs2⟩ : ∃ l, l = sortL xs := ⟨_, rfl⟩
 obtain ⟨ys2, hys2⟩ : ∃ l, l = sortL ys := ⟨_, rfl⟩
 have hb1 := sort_bounds hk1
 have hb2 := sort_bounds hk2
 rw [← hxs2] at hb1
 rw [← hys2] at hb2
 have hsl1 : xs2.length ≤ 1048576 := by rw [hxs2]; exact Nat.le_trans qF hls.1
 have hsl2 : ys2.length ≤ 1048576 := by rw [hys2]; exact Nat.le_trans qF hls.2
 refine zE (zF ?_)
 refine qD rfl (zC (v := (.int .i64 0)) rfl) ?_
 refine qe (zB (zE (zF ?_)))
 refine qD rfl (zA (v := x) rfl) ?_
 refine qI rfl (zN (vs := [x]) Tryz.func129 nm129 rfl rfl rfl ?_)
 refine Calls.mono (distinct_spec hX0.pins hx (by omega)) ?_
 rintro _ w5 ⟨u3, G4, rfl, ho6, hx7⟩
 refine ⟨_, rfl, ?_⟩
 rw [← hxs2] at ho6
 have hX8 := hX0.tr hx7
 have hpk9 := hpk.ext hx7
 have hnp10 := hpk.new (x := u3.ownBlock) (fun k hk => (ho6.lt k hk).1)
 have ho11 : Own eInt 3 G4 w5 w.heap.size u3 xs2 := ho6.weaken hX0.size
 refine qD rfl (zA (v := y) rfl) ?_
 refine qI rfl (zN (vs := [y]) Tryz.func129 nm129 rfl rfl rfl ?_)
 refine Calls.mono (distinct_spec hX8.pins (hy.mono hx7.le) (by omega)) ?_
 rintro _ w14 ⟨u12, G13, rfl, ho15, hx16⟩
 refine ⟨_, rfl, ?_⟩
 rw [← hys2] at ho15
 have hX17 := hX8.tr hx16
 have ho18 := ho11.ext hx16
 have hpk19 := hpk9.ext hx16
 have ha20 : Apart u12.ownBlock u3.ownBlock := zT ho15.lt ho11.lt
 have hnp21 := hpk9.new (x := u12.ownBlock) (fun k hk => (ho15.lt k hk).1)
 have ho22 : Own eInt 3 G13 w14 w.heap.size u12 ys2 := ho15.weaken hX8.size
 refine qD rfl (zC (v := u3) rfl) ?_
 refine qD rfl (zC (v := u12) rfl) ?_
 refine qe (zB (zE (zF ?_)))
 refine qD rfl (zA (v := u3) rfl) ?_
 refine qD rfl (zO Tryz.underlying65 (v := u3) rfl ho18.read) ?_
 refine qD rfl (zA (v := u12) rfl) ?_
 refine qD rfl (zO Tryz.underlying65 (v := u12) rfl ho22.read) ?_
 refine qD rfl (yJ rfl rfl (by omega)) ?_
 refine qD rfl (r_mul rfl rfl (by omega)) ?_
 refine qD rfl (yJ rfl rfl (by omega)) ?_
 refine qI rfl (o_make0 (E := eByte) Tryz.underlying132 mk5 rfl rfl hX17.pins (by omega) (by omega) (by omega) (fun u23 w24 ho25 hp26 hl27 hk28 => ?_))
 have hX29 := hX17.step hp26 hl27
 have ho30 := ho18.below hl27
 have ho31 := ho22.below hl27
 have hpk32 := hpk19.below hl27 hp26
 have ha33 : Apart u23.ownBlock u3.ownBlock := zJ hk28 ho18.lt
 have ha37 : Apart u23.ownBlock u12.ownBlock := zJ hk28 ho22.lt
 have ha39 := hpk19.new (x := u23.ownBlock) (fun k hk => by rw [hk28] at hk; cases hk; exact Nat.le_refl _)
 have ho40 : Own eByte 5 G13 w24 w.heap.size u23 ([]) := ho25.weaken hX17.size
 refine qD rfl (zC (v := u23) rfl) ?_
 refine qe (zB (zE (zF ?_)))
 refine qD rfl (zC (v := (.int .i64 0)) rfl) ?_
 refine qe (zB (zE (zE (zF ?_))))
 refine qD rfl (zA (v := u3) rfl) ?_
 refine qD rfl (zO Tryz.underlying65 (v := u3) rfl ho30.read) ?_
 refine qD rfl (zA (v := (.int .i64 0)) rfl) ?_
 refine qe (zB ?_)
 refine yB ?_
 refine yM (fun (k : Nat) (en : Nat → Value) (W : World) => ∃ (env1 : Nat → Value) (i : Nat) (kva : Value) (kxa : List UInt8) (bn : Int) (GLa : Pin), en = (upd (upd (upd (upd (upd (upd (upd (upd (upd env1 0 (.pointer (some ⟨p, 0, none⟩))) 1 u3) 2 u12) 6 (.int .i64 0)) 7 kva) 8 (.int .i64 bn)) 28 u3) 29 (.int .i64 (xs2.length : Int))) 30 (.int .i64 (i : Int))) ∧ k = xs2.length - i ∧ Ext (inP p L R B mm) G w GLa W ∧ Pin.le G13 GLa ∧ (i ≤ xs2.length) ∧ (kxa = keyL (xs2.take i)) ∧ (bn = bornOf q.bs (xs2.take i) 0) ∧ (0 ≤ bn ∧ bn ≤ q.ns.length) ∧ (Own eByte 5 GLa W w.heap.size kva (kxa)) ∧ (Own eInt 3 GLa W w.heap.size u3 (xs2)) ∧ (Own eInt 3 GLa W w.heap.size u12 (ys2)) ∧ (Apart kva.ownBlock u3.ownBlock) ∧ (Apart kva.ownBlock u12.ownBlock) ∧ (Pk 65 3 GLa W p L R B mm q) ∧ (NP p L R B mm kva.ownBlock)) _ ⟨_, 0, u23, [], 0, G13, (zD (x := 30) (zD (x := 29) (zD (x := 28) (zD (x := 8) (zD (x := 7) (zD (x := 6) (zD (x := 2) (zD (x := 1) (zR (x := 0) rfl) rfl) rfl) rfl) rfl) rfl) rfl) rfl) rfl), rfl, hX29, Pin.le_refl _, Nat.zero_le _, (by simp [keyL]), rfl, (by omega), ho40, ho30, ho31, ha33, ha37, hpk32, ha39⟩ ?_
 rintro k45 _ w46 ⟨env1, i, kva, kxa, bn, GLa, rfl, hk47, hX48, hlek45, hji, hka, hbbn, hlbn, hw49, hw50, hw51, ha52, ha53, hpk54, hnp55⟩
 have hkla : kxa.length ≤ 117440640 := by
  have := key_bound (j := i) hb1 hok.ar.ok.lim
  rw [hka]; omega
 refine zE (zF ?_)
 refine qD rfl (yO rfl rfl) ?_
 refine qe (zB (zE ?_))
 refine yH (p := ((i : Int) : Int) < (xs2.length : Int)) rfl rfl (fun h56 => ?_) (fun h56 => ?_)
 ·skip
  have hki := hb1 i (by omega)
  have hbk := hok.ar.ok.born (xs2.getD i 0).toNat (by omega)
  have hd13 := dig13 (n := (xs2.getD i 0).toNat) (by omega)
  refine wp_skip ?_
  refine zB (zE ?_)
  refine yB ?_
  refine zE (zF ?_)
  refine qD rfl (zK Tryz.underlying65 sz3 (v := u3) rfl rfl hw50.read (by omega) (by omega)) ?_
  refine qD rfl (zI (r := xs2.getD i 0) rfl ag3 (z := (i : Int)) rfl hw50.read (Gadd.pins hX48.pins u3) (by omega) (by omega)) ?_
  refine qD rfl (zC (v := (.int .i64 (xs2.getD i 0))) rfl) ?_
  refine qe (zB (zE (zF ?_)))
  refine qD rfl (zA (v := kva) rfl) ?_
  refine qD rfl (zA (v := (.int .i64 (xs2.getD i 0))) rfl) ?_
  refine qI rfl (zN (vs := [kva, (.int .i64 (xs2.getD i 0)), (.int .i64 36)]) Tryz.func130 nm130 rfl rfl rfl ?_)
  refine Calls.mono (appendInt_spec (i := xs2.getD i 0) hX48.pins (hw49.weaken (Nat.zero_le _)) (by omega) (by omega)) ?_
  rintro _ w59 ⟨u57, G58, rfl, ho60, hlo61, hx62⟩
  refine ⟨_, rfl, ?_⟩
  have hnp63 := np_turn hnp55 hpk54 hlo61
  have hX64 := hX48.trans hx62 (fun i hi => (yG hw49) i hi)
  have ho65 := hw50.extS hx62 (notO ha52.symm)
  have ho66 := hw51.extS hx62 (notO ha53.symm)
  have hpk67 := hpk54.extS hx62 (fun k hk hx => hnp55 k hx hk)
  have ha68 : Apart u3.ownBlock u57.ownBlock := ap_turn hlo61 ha52.symm (xW hw50)
  have ha69 : Apart u12.ownBlock u57.ownBlock := ap_turn hlo61 ha53.symm (xW hw51)
  have ho70 := ho60.up (lo := w.heap.size) (fun k hk => (hlo61 k hk).elim (fun h => Nat.le_trans hX48.size h) (fun h => (hw49.lt k h).1))
  have hm71 : (kxa ++ dig36 (xs2.getD i 0).toNat).length = kxa.length + (dig36 (xs2.getD i 0).toNat).length := List.length_append
  refine qI rfl (yQ (E := eByte) (e := 5) [(.int .u8 44)] [44] Tryz.underlying132 sz5 zr5 (by exact xL (by rfl)) (xA (by rfl)) rfl rfl rfl rfl (by decide) hX64.pins (fun u72 w73 ho74 hp75 hl76 hk77 => ?_))
  have hX78 := hX64.step hp75 hl76
  have ho79 := ho65.below hl76
  have ho80 := ho66.below hl76
  have ho81 := ho70.below hl76
  have hpk82 := hpk67.below hl76 hp75
  have ho91 : Own eByte 5 G58 w73 w.heap.size u72 ([44]) := ho74.weaken hX64.size
  refine qI rfl (zX (E := eByte) (v := u57) (u := u72) 1 Tryz.underlying132 ap5 (by decide) rfl rfl hX78.pins ho81 ho91.src (by first | omega | (rw [List.nil_append]; omega) | (rw [List.length_nil]; omega) | (rw [List.length_append]; omega) | (simp; done) | (simp; omega) | (simp only [List.length_append, List.length_cons, List.length_nil]; omega)) (by first | omega | (rw [List.nil_append]; omega) | (rw [List.length_nil]; omega) | (rw [List.length_append]; omega) | (simp; done) | (simp; omega) | (simp only [List.length_append, List.length_cons, List.length_nil]; omega)) (hX78.size) (fun u92 w93 ho94 hp95 hg96 hw97 => ?_))
  have hX98 := hX78.write hp95 hg96 ((yG ho81))
  have ho99 := ho79.keptA hg96 ha68
  have ho100 := ho80.keptA hg96 ha69
  have hpk102 := hpk82.kept hg96 hp95 hnp63
  have ha103 : Apart u3.ownBlock u92.ownBlock := zH ha68 hw97 ho79.lt
  have ha104 : Apart u12.ownBlock u92.ownBlock := zH ha69 hw97 ho80.lt
  have hnp106 := qP hnp63 hpk82 hw97
  have hm107 : ((kxa ++ dig36 (xs2.getD i 0).toNat) ++ ([44])).length = (kxa ++ dig36 (xs2.getD i 0).toNat).length + 1 := List.length_append
  refine qD rfl (zC (v := u92) rfl) ?_
  refine qe (zB (zF ?_))
  refine qD rfl (zA (v := (.int .i64 bn)) rfl) ?_
  refine qD rfl (zA (v := (.pointer (some ⟨p, 0, none⟩))) rfl) ?_
  refine qD rfl (yP rfl) ?_
  refine qD rfl (zL (k := 2) rfl Tryz.underlying72 rfl nz65 rfl) ?_
  refine qD rfl (zQ (u := B) ag65 rfl (hpk102.bx.cell (o := 2) rfl)) ?_
  refine qD rfl (zA (v := (.int .i64 (xs2.getD i 0))) rfl) ?_
  refine qD rfl (zK Tryz.underlying65 sz3 (v := B) rfl rfl hpk102.ob.read (by omega) (by omega)) ?_
  refine qD rfl (zI (r := q.bs.getD (xs2.getD i 0).toNat 0) rfl ag3 (z := (xs2.getD i 0)) rfl hpk102.ob.read (Gadd.pins hX98.pins B) (by omega) (by omega)) ?_
  refine qD rfl (yJ rfl rfl (by omega)) ?_
  refine qD rfl (r_max rfl rfl) ?_
  refine qD rfl (zC (v := (.int .i64 (max bn ((q.bs.getD (xs2.getD i 0).toNat 0) + 1)))) rfl) ?_
  refine qe ?_
  refine yC ?_
  refine zB (zF ?_)
  refine qD rfl (yJ rfl rfl (by omega)) ?_
  refine qD rfl (zA (v := (.int .i64 ((i : Int) + 1))) rfl) ?_
  refine qe ?_
  refine yA ?_
  refine ⟨_, ?_, _, rfl, _, i + 1, u92, (kxa ++ dig36 (xs2.getD i 0).toNat) ++ ([44]), max bn ((q.bs.getD (xs2.getD i 0).toNat 0) + 1), G58, (zD (x := 30) (zD (x := 29) (zD (x := 28) (zD (x := 8) (zD (x := 7) (zD (x := 6) (zD (x := 2) (zD (x := 1) (zR (x := 0) rfl) rfl) rfl) rfl) rfl) rfl) rfl) rfl) rfl), rfl, hX98, (Pin.le_trans hlek45 hx62.le), (by omega), (by rw [key_next (by omega), hka]), (by rw [hbbn, born_next (by omega)]), (by omega), ho94, ho99, ho100, ha103.symm, ha104.symm, hpk102, hnp106⟩
  omega
 refine wp_exit ?_
 refine zZ ?_
 refine yK ?_
 refine yI ?_
 refine zB (zE (zF ?_))
 refine qD rfl (zA (v := kva) rfl) ?_
 refine qI rfl (yQ (E := eByte) (e := 5) [(.int .u8 124)] [124] Tryz.underlying132 sz5 zr5 (by exact xL (by rfl)) (xA (by rfl)) rfl rfl rfl rfl (by decide) hX48.pins (fun u108 w109 ho110 hp111 hl112 hk113 => ?_))
 have hX114 := hX48.step hp111 hl112
 have ho115 := hw49.below hl112
 have ho116 := hw50.below hl112
 have ho117 := hw51.below hl112
 have hpk118 := hpk54.below hl112 hp111
 have ho127 : Own eByte 5 GLa w109 w.heap.size u108 ([124]) := ho110.weaken hX48.size
 refine qI rfl (zX (E := eByte) (v := kva) (u := u108) 1 Tryz.underlying132 ap5 (by decide) rfl rfl hX114.pins ho115 ho127.src (by first | omega | (rw [List.nil_append]; omega) | (rw [List.length_nil]; omega) | (rw [List.length_append]; omega) | (simp; done) | (simp; omega) | (simp only [List.length_append, List.length_cons, List.length_nil]; omega)) (by first | omega | (rw [List.nil_append]; omega) | (rw [List.length_nil]; omega) | (rw [List.length_append]; omega) | (simp; done) | (simp; omega) | (simp only [List.length_append, List.length_cons, List.length_nil]; omega)) (hX114.size) (fun u128 w129 ho130 hp131 hg132 hw133 => ?_))
 have hX134 := hX114.write hp131 hg132 ((yG ho115))
 have ho135 := ho116.keptA hg132 ha52.symm
 have ho136 := ho117.keptA hg132 ha53.symm
 have hpk138 := hpk118.kept hg132 hp131 hnp55
 have ha139 : Apart u3.ownBlock u128.ownBlock := zH ha52.symm hw133 ho116.lt
 have ha140 : Apart u12.ownBlock u128.ownBlock := zH ha53.symm hw133 ho117.lt
 have hnp142 := qP hnp55 hpk118 hw133
 have hm143 : (kxa ++ ([124])).length = kxa.length + 1 := List.length_append
 refine qD rfl (zC (v := u128) rfl) ?_
 refine qe (zB (zE (zE (zF ?_))))
 rw [qX (by omega)] at hka hbbn
 have hkk : keyL xs2 ++ [124] = kxa ++ [124] := by rw [hka]
 refine qD rfl (zA (v := u12) rfl) ?_
 refine qD rfl (zO Tryz.underlying65 (v := u12) rfl ho136.read) ?_
 refine qD rfl (zA (v := (.int .i64 0)) rfl) ?_
 refine qe (zB ?_)
 refine yB ?_
 refine yM (fun (k : Nat) (en : Nat → Value) (W : World) => ∃ (env1 : Nat → Value) (i2 : Nat) (kvb : Value) (kxb : List UInt8) (bm : Int) (GLb : Pin), en = (upd (upd (upd (upd (upd (upd (upd (upd (upd env1 0 (.pointer (some ⟨p, 0, none⟩))) 1 u3) 2 u12) 6 (.int .i64 0)) 7 kvb) 8 (.int .i64 bm)) 53 u12) 54 (.int .i64 (ys2.length : Int))) 55 (.int .i64 (i2 : Int))) ∧ k = ys2.length - i2 ∧ Ext (inP p L R B mm) G w GLb W ∧ Pin.le GLa GLb ∧ (i2 ≤ ys2.length) ∧ (kxb = keyL xs2 ++ [124] ++ keyL (ys2.take i2)) ∧ (bm = bornOf q.bs (ys2.take i2) bn) ∧ (0 ≤ bm ∧ bm ≤ q.ns.length) ∧ (Own eByte 5 GLb W w.heap.size kvb (kxb)) ∧ (Own eInt 3 GLb W w.heap.size u3 (xs2)) ∧ (Own eInt 3 GLb W w.heap.size u12 (ys2)) ∧ (Apart kvb.ownBlock u3.ownBlock) ∧ (Apart kvb.ownBlock u12.ownBlock) ∧ (Pk 65 3 GLb W p L R B mm q) ∧ (NP p L R B mm kvb.ownBlock)) _ ⟨_, 0, u128, kxa ++ ([124]), bn, GLa, (zD (x := 55) (zD (x := 54) (zD (x := 53) (zD (x := 8) (zD (x := 7) (zD (x := 6) (zD (x := 2) (zD (x := 1) (zR (x := 0) rfl) rfl) rfl) rfl) rfl) rfl) rfl) rfl) rfl), rfl, hX134, Pin.le_refl _, Nat.zero_le _, (by rw [← hkk]; simp [keyL]), rfl, (by omega), ho130, ho135, ho136, ha139.symm, ha140.symm, hpk138, hnp142⟩ ?_
 rintro k148 _ w149 ⟨env1, i2, kvb, kxb, bm, GLb, rfl, hk150, hX151, hlek148, hji2, hkb, hbbm, hlbm, hw152, hw153, hw154, ha155, ha156, hpk157, hnp158⟩
 have hklb : kxb.length ≤ 117440640 := by
  have := key_bound (j := i2) hb2 hok.ar.ok.lim
  have h2 := key_bound (j := xs2.length) hb1 hok.ar.ok.lim; rw [hkb, List.length_append, List.length_append]; simp only [List.length_cons, List.length_nil]; rw [qX (Nat.le_refl _)] at h2; omega
 refine zE (zF ?_)
 refine qD rfl (yO rfl rfl) ?_
 refine qe (zB (zE ?_))
 refine yH (p := ((i2 : Int) : Int) < (ys2.length : Int)) rfl rfl (fun h159 => ?_) (fun h159 => ?_)
 ·skip
  have hki := hb2 i2 (by omega)
  have hbk := hok.ar.ok.born (ys2.getD i2 0).toNat (by omega)
  have hd13 := dig13 (n := (ys2.getD i2 0).toNat) (by omega)
  refine wp_skip ?_
  refine zB (zE ?_)
  refine yB ?_
  refine zE (zF ?_)
  refine qD rfl (zK Tryz.underlying65 sz3 (v := u12) rfl rfl hw154.read (by omega) (by omega)) ?_
  refine qD rfl (zI (r := ys2.getD i2 0) rfl ag3 (z := (i2 : Int)) rfl hw154.read (Gadd.pins hX151.pins u12) (by omega) (by omega)) ?_
  refine qD rfl (zC (v := (.int .i64 (ys2.getD i2 0))) rfl) ?_
  refine qe (zB (zE (zF ?_)))
  refine qD rfl (zA (v := kvb) rfl) ?_
  refine qD rfl (zA (v := (.int .i64 (ys2.getD i2 0))) rfl) ?_
  refine qI rfl (zN (vs := [kvb, (.int .i64 (ys2.getD i2 0)), (.int .i64 36)]) Tryz.func130 nm130 rfl rfl rfl ?_)
  refine Calls.mono (appendInt_spec (i := ys2.getD i2 0) hX151.pins (hw152.weaken (Nat.zero_le _)) (by omega) (by omega)) ?_
  rintro _ w162 ⟨u160, G161, rfl, ho163, hlo164, hx165⟩
  refine ⟨_, rfl, ?_⟩
  have hnp166 := np_turn hnp158 hpk157 hlo164
  have hX167 := hX151.trans hx165 (fun i hi => (yG hw152) i hi)
  have ho168 := hw153.extS hx165 (notO ha155.symm)
  have ho169 := hw154.extS hx165 (notO ha156.symm)
  have hpk170 := hpk157.extS hx165 (fun k hk hx => hnp158 k hx hk)
  have ha171 : Apart u3.ownBlock u160.ownBlock := ap_turn hlo164 ha155.symm (xW hw153)
  have ha172 : Apart u12.ownBlock u160.ownBlock := ap_turn hlo164 ha156.symm (xW hw154)
  have ho173 := ho163.up (lo := w.heap.size) (fun k hk => (hlo164 k hk).elim (fun h => Nat.le_trans hX151.size h) (fun h => (hw152.lt k h).1))
  have hm174 : (kxb ++ dig36 (ys2.getD i2 0).toNat).length = kxb.length + (dig36 (ys2.getD i2 0).toNat).length := List.length_append
  refine qI rfl (yQ (E := eByte) (e := 5) [(.int .u8 44)] [44] Tryz.underlying132 sz5 zr5 (by exact xL (by rfl)) (xA (by rfl)) rfl rfl rfl rfl (by decide) hX167.pins (fun u175 w176 ho177 hp178 hl179 hk180 => ?_))
  have hX181 := hX167.step hp178 hl179
  have ho182 := ho168.below hl179
  have ho183 := ho169.below hl179
  have ho184 := ho173.below hl179
  have hpk185 := hpk170.below hl179 hp178
  have ho194 : Own eByte 5 G161 w176 w.heap.size u175 ([44]) := ho177.weaken hX167.size
  refine qI rfl (zX (E := eByte) (v := u160) (u := u175) 1 Tryz.underlying132 ap5 (by decide) rfl rfl hX181.pins ho184 ho194.src (by first | omega | (rw [List.nil_append]; omega) | (rw [List.length_nil]; omega) | (rw [List.length_append]; omega) | (simp; done) | (simp; omega) | (simp only [List.length_append, List.length_cons, List.length_nil]; omega)) (by first | omega | (rw [List.nil_append]; omega) | (rw [List.length_nil]; omega) | (rw [List.length_append]; omega) | (simp; done) | (simp; omega) | (simp only [List.length_append, List.length_cons, List.length_nil]; omega)) (hX181.size) (fun u195 w196 ho197 hp198 hg199 hw200 => ?_))
  have hX201 := hX181.write hp198 hg199 ((yG ho184))
  have ho202 := ho182.keptA hg199 ha171
  have ho203 := ho183.keptA hg199 ha172
  have hpk205 := hpk185.kept hg199 hp198 hnp166
  have ha206 : Apart u3.ownBlock u195.ownBlock := zH ha171 hw200 ho182.lt
  have ha207 : Apart u12.ownBlock u195.ownBlock := zH ha172 hw200 ho183.lt
  have hnp209 := qP hnp166 hpk185 hw200
  have hm210 : ((kxb ++ dig36 (ys2.getD i2 0).toNat) ++ ([44])).length = (kxb ++ dig36 (ys2.getD i2 0).toNat).length + 1 := List.length_append
  refine qD rfl (zC (v := u195) rfl) ?_
  refine qe (zB (zF ?_))
  refine qD rfl (zA (v := (.int .i64 bm)) rfl) ?_
  refine qD rfl (zA (v := (.pointer (some ⟨p, 0, none⟩))) rfl) ?_
  refine qD rfl (yP rfl) ?_
  refine qD rfl (zL (k := 2) rfl Tryz.underlying72 rfl nz65 rfl) ?_
  refine qD rfl (zQ (u := B) ag65 rfl (hpk205.bx.cell (o := 2) rfl)) ?_
  refine qD rfl (zA (v := (.int .i64 (ys2.getD i2 0))) rfl) ?_
  refine qD rfl (zK Tryz.underlying65 sz3 (v := B) rfl rfl hpk205.ob.read (by omega) (by omega)) ?_
  refine qD rfl (zI (r := q.bs.getD (ys2.getD i2 0).toNat 0) rfl ag3 (z := (ys2.getD i2 0)) rfl hpk205.ob.read (Gadd.pins hX201.pins B) (by omega) (by omega)) ?_
  refine qD rfl (yJ rfl rfl (by omega)) ?_
  refine qD rfl (r_max rfl rfl) ?_
  refine qD rfl (zC (v := (.int .i64 (max bm ((q.bs.getD (ys2.getD i2 0).toNat 0) + 1)))) rfl) ?_
  refine qe ?_
  refine yC ?_
  refine zB (zF ?_)
  refine qD rfl (yJ rfl rfl (by omega)) ?_
  refine qD rfl (zA (v := (.int .i64 ((i2 : Int) + 1))) rfl) ?_
  refine qe ?_
  refine yA ?_
  refine ⟨_, ?_, _, rfl, _, i2 + 1, u195, (kxb ++ dig36 (ys2.getD i2 0).toNat) ++ ([44]), max bm ((q.bs.getD (ys2.getD i2 0).toNat 0) + 1), G161, (zD (x := 55) (zD (x := 54) (zD (x := 53) (zD (x := 8) (zD (x := 7) (zD (x := 6) (zD (x := 2) (zD (x := 1) (zR (x := 0) rfl) rfl) rfl) rfl) rfl) rfl) rfl) rfl) rfl), rfl, hX201, (Pin.le_trans hlek148 hx165.le), (by omega), (by rw [key_next (by omega), hkb]; simp only [List.append_assoc]), (by rw [hbbm, born_next (by omega)]), (by omega), ho197, ho202, ho203, ha206.symm, ha207.symm, hpk205, hnp209⟩
  omega
 refine wp_exit ?_
 refine zZ ?_
 refine yK ?_
 refine yI ?_
 refine zB (zE (zE ?_))
 rw [qX (by omega)] at hkb hbbm
 have hkey : kxb = keyN xs2 ys2 := by rw [hkb]; rfl
 have hq211 := Gadd.pins hX151.pins kvb
 have hr212 := hw152.read
 refine xE (S := fun wz => BxR wz p [L, R, B, (.map (some mm.f)), (.map (some mm.o)), (.map (some mm.c)), (.map (some mm.s)), (.map (some mm.n))] ∧ Pins (Gadd GLb w149 kvb) wz) (last := 12) (by kernel_rfl) rfl ?_
 have hl213 : Below w149.heap.size w149 w149.drew := (Below.refl _ _).drew
 have hp214 := hX151.pins.below hl213
 have hX215 := hX151.step hp214 hl213
 have ho216 := hw152.below hl213
 have ho217 := hw153.below hl213
 have ho218 := hw154.below hl213
 have hpk219 := hpk157.below hl213 hp214
 have hq220 := hq211.below hl213
 refine dT (i := 0) rfl rfl (by kernel_rfl) (fun _ _ => zA (v := (.pointer (some ⟨p, 0, none⟩))) rfl) ⟨hpk219.bx.reads, hq220⟩ ?_
 refine dT (i := 1) rfl rfl (by kernel_rfl) (fun _ _ => yP rfl) ⟨hpk219.bx.reads, hq220⟩ ?_
 refine dT (i := 2) rfl rfl (by kernel_rfl) (fun _ _ => zL (k := 3) rfl Tryz.underlying72 rfl nz67 rfl) ⟨hpk219.bx.reads, hq220⟩ ?_
 refine dT (i := 3) rfl rfl (by kernel_rfl) (fun _ hS => zQ (u := (.map (some mm.f))) ag67 rfl (hS.1 3 _ rfl)) ⟨hpk219.bx.reads, hq220⟩ ?_
 refine dT (i := 4) rfl rfl (by kernel_rfl) (fun _ _ => zA (v := kvb) rfl) ⟨hpk219.bx.reads, hq220⟩ ?_
 refine zV (i := 5) (by kernel_rfl) (yD (i := 5) rfl rfl rfl (zG rfl _) (EO.run (r_b2s Tryz.underlying132 Tryz.underlying5 Tryz.underlying9 rfl ho216.read (Gadd.pins hX215.pins kvb)) ?_))
 refine ⟨fun _ => ⟨hpk219.bx.reads, hq220⟩, ?_⟩
 refine zV (i := 6) (by kernel_rfl) (yD (i := 6) rfl rfl rfl (zG rfl _) (EO.run (run_lookv_int (k := (b2s kxb)) (key_str Tryz.underlying9) Tryz.underlying67 zr3 hpk219.ff rfl rfl) ?_))
 refine ⟨fun _ => ⟨hpk219.bx.reads, hq220⟩, ?_⟩
 refine dT (i := 7) rfl rfl (by kernel_rfl) (fun _ _ => zA (v := (.tuple #[(.int .i64 ((Go.GL.look q.fl (b2s kxb)).getD 0)), (.bool ((Go.GL.look q.fl (b2s kxb)).isSome))])) rfl) ⟨hpk219.bx.reads, hq220⟩ ?_
 refine dT (i := 8) rfl rfl (by kernel_rfl) (fun _ _ => xS (v := (.int .i64 ((Go.GL.look q.fl (b2s kxb)).getD 0))) rfl rfl) ⟨hpk219.bx.reads, hq220⟩ ?_
 refine dT (i := 9) rfl rfl (by kernel_rfl) (fun _ _ => xS (v := (.bool ((Go.GL.look q.fl (b2s kxb)).isSome))) rfl rfl) ⟨hpk219.bx.reads, hq220⟩ ?_
 refine dT (i := 10) rfl rfl (by kernel_rfl) (fun _ _ => zC (v := (.int .i64 ((Go.GL.look q.fl (b2s kxb)).getD 0))) rfl) ⟨hpk219.bx.reads, hq220⟩ ?_
 refine dT (i := 11) rfl rfl (by kernel_rfl) (fun _ _ => zC (v := (.bool ((Go.GL.look q.fl (b2s kxb)).isSome))) rfl) ⟨hpk219.bx.reads, hq220⟩ ?_
 refine yT (by kernel_rfl) ?_
 refine zB (zE (zF ?_))
 refine qD rfl (zA (v := (.bool ((Go.GL.look q.fl (b2s kxb)).isSome))) rfl) ?_
 refine qe (zB ?_)
 refine c_if rfl rfl (fun h221 => ?_) (fun h221 => ?_)
 ·skip
  refine zE (zF ?_)
  refine qD rfl (zA (v := (.int .i64 ((Go.GL.look q.fl (b2s kxb)).getD 0))) rfl) ?_
  refine qD rfl (zC (v := (.int .i64 ((Go.GL.look q.fl (b2s kxb)).getD 0))) rfl) ?_
  refine qe (zB ?_)
  refine wp_ret ?_
  refine zW ?_
  refine zS (v := (.int .i64 ((Go.GL.look q.fl (b2s kxb)).getD 0))) rfl rfl rfl ?_
  obtain ⟨z, hz⟩ := Option.isSome_iff_exists.1 h221
  have hlk := hz
  rw [hkey, hxs2, hys2] at hlk
  obtain ⟨f1, f2⟩ := lookF hok hk1 hk2 hlk
  rw [hz]
  exact ⟨z, L, R, B, q, GLb, rfl, hpk219, hok, (PX.refl _), PIn.lo hpin rfl, hX215, f1, f2, by omega, rfl, Or.inl rfl⟩
 refine wp_skip ?_
 refine zB (zE (zF ?_))
 refine qD rfl (zA (v := (.pointer (some ⟨p, 0, none⟩))) rfl) ?_
 refine qD rfl (yP rfl) ?_
 refine qD rfl (zL (k := 2) rfl Tryz.underlying72 rfl nz65 rfl) ?_
 refine qD rfl (zQ (u := B) ag65 rfl (hpk219.bx.cell (o := 2) rfl)) ?_
 refine qD rfl (zO Tryz.underlying65 (v := B) rfl hpk219.ob.read) ?_
 refine qD rfl (zC (v := (.int .i64 (q.bs.length : Int))) rfl) ?_
 refine qe (zB (zE ?_))
 have hnone : Go.GL.look q.fl (b2s kxb) = none := by simpa using h221
 rw [hkey, hxs2, hys2] at hnone
 have hadd := hok.add (b := bm) hlim hls hk1 hk2 hnone (by rw [hbbm, hbbn, hxs2, hys2])
 have hq222 := Gadd.pins hX215.pins kvb
 have hr223 := ho216.read
 refine xE (S := fun wz => BxR wz p [L, R, B, (.map (some mm.f)), (.map (some mm.o)), (.map (some mm.c)), (.map (some mm.s)), (.map (some mm.n))] ∧ Pins (Gadd GLb w149.drew kvb) wz) (last := 7) (by kernel_rfl) rfl ?_
 have hl224 : Below w149.drew.heap.size w149.drew w149.drew.drew := (Below.refl _ _).drew
 have hp225 := hX215.pins.below hl224
 have hX226 := hX215.step hp225 hl224
 have ho227 := ho216.below hl224
 have ho228 := ho217.below hl224
 have ho229 := ho218.below hl224
 have ho230 := hpk219.ol.below hl224
 have ho231 := hpk219.rr.below hl224
 have ho232 := hpk219.ob.below hl224
 have hb233 := hpk219.bx.below hl224
 have hm234 := hpk219.ff.below hl224
 have hm235 := hpk219.fo.below hl224
 have hm236 := hpk219.fc.below hl224
 have hm237 := hpk219.fs.below hl224
 have hm238 := hpk219.fn.below hl224
 have hq239 := hq222.below hl224
 refine dT (i := 0) rfl rfl (by kernel_rfl) (fun _ _ => zA (v := (.pointer (some ⟨p, 0, none⟩))) rfl) ⟨hb233.reads, hq239⟩ ?_
 refine dT (i := 1) rfl rfl (by kernel_rfl) (fun _ _ => yP rfl) ⟨hb233.reads, hq239⟩ ?_
 refine dT (i := 2) rfl rfl (by kernel_rfl) (fun _ _ => zL (k := 3) rfl Tryz.underlying72 rfl nz67 rfl) ⟨hb233.reads, hq239⟩ ?_
 refine dT (i := 3) rfl rfl (by kernel_rfl) (fun _ hS => zQ (u := (.map (some mm.f))) ag67 rfl (hS.1 3 _ rfl)) ⟨hb233.reads, hq239⟩ ?_
 refine dT (i := 4) rfl rfl (by kernel_rfl) (fun _ _ => zA (v := kvb) rfl) ⟨hb233.reads, hq239⟩ ?_
 refine dT (i := 6) rfl rfl (by kernel_rfl) (fun _ _ => zA (v := (.int .i64 (q.bs.length : Int))) rfl) ⟨hb233.reads, hq239⟩ ?_
 refine zV (i := 5) (by kernel_rfl) (yD (i := 5) rfl rfl rfl (zG rfl _) (EO.run (r_b2s Tryz.underlying132 Tryz.underlying5 Tryz.underlying9 rfl ho227.read (Gadd.pins hX226.pins kvb)) ?_))
 refine ⟨fun _ => ⟨hb233.reads, hq239⟩, ?_⟩
 refine zV (i := 7) (by kernel_rfl) (drOp0 (i := 7) rfl rfl rfl (zG rfl _) (qB (val := (fun v : Int => Value.int .i64 v)) (k := (b2s kxb)) (v := (q.bs.length : Int)) (key_str Tryz.underlying9) Tryz.underlying67 rfl rfl rfl hX226.pins hm234 (fun w240 hm241 hp242 hg243 hz244 => ?_)))
 have hX245 := hX226.write hp242 hg243 ((PIn.f hpin))
 have ho247 := ho228.keptA hg243 (zY hm234 ho228).symm
 have ho248 := ho229.keptA hg243 (zY hm234 ho229).symm
 have ho249 := ho230.keptA hg243 (zY hm234 ho230).symm
 have ho250 := ho231.keptA hg243 (zY hm234 ho231).symm
 have ho251 := ho232.keptA hg243 (zY hm234 ho232).symm
 have hb252 := hb233.keptA hg243 (yN hm234 hb233).symm
 have hm253 := hm235.kept hg243 (qT hpk219.df.fo).symm
 have hm254 := hm236.kept hg243 (qT hpk219.df.fc).symm
 have hm255 := hm237.kept hg243 (qT hpk219.df.fs).symm
 have hm256 := hm238.kept hg243 (qT hpk219.df.fn).symm
 refine ⟨fun h => absurd rfl h, ?_⟩
 refine yT (by kernel_rfl) ?_
 refine zB (zE (zF ?_))
 refine qD rfl (zA (v := (.pointer (some ⟨p, 0, none⟩))) rfl) ?_
 refine qD rfl (zA (v := (.pointer (some ⟨p, 0, none⟩))) rfl) ?_
 refine qD rfl (yP rfl) ?_
 refine qD rfl (zL (k := 0) rfl Tryz.underlying72 rfl nz66 rfl) ?_
 refine qD rfl (zQ (u := L) ag66 rfl (hb252.cell (o := 0) rfl)) ?_
 refine qD rfl (zA (v := u3) rfl) ?_
 obtain ⟨G257, hle260, hX259, hr258, hf261⟩ := ho247.sealed hX245
 have ho263 := ho248.moreO hle260 hf261 ha20
 have ho264 := ho249.moreO hle260 hf261 (NP.hl hnp10).symm
 have ho265 := ho250.moreO hle260 hf261 (NP.hr hnp10).symm
 have ho266 := ho251.moreO hle260 hf261 (NP.hb hnp10).symm
 have hb267 := hb252.moreO hf261 (NP.hp hnp10).symm
 refine qI rfl (yQ (E := (eSl eInt)) (e := 65) [u3] [xs2] Tryz.underlying66 sz65 zr65 (by exact xL (⟨_, rfl, hr258⟩)) (xA hr258.one) rfl rfl rfl rfl (by decide) hX259.pins (fun u268 w269 ho270 hp271 hl272 hk273 => ?_))
 have hX274 := hX259.step hp271 hl272
 have ho276 := ho263.below hl272
 have ho277 := ho264.below hl272
 have ho278 := ho265.below hl272
 have ho279 := ho266.below hl272
 have hb280 := hb267.below hl272
 have hm281 := hm241.below hl272
 have hm282 := hm253.below hl272
 have hm283 := hm254.below hl272
 have hm284 := hm255.below hl272
 have hm285 := hm256.below hl272
 have ho292 : Own (eSl eInt) 65 G257 w269 w.heap.size u268 ([xs2]) := ho270.weaken hX259.size
 refine qI rfl (zX (E := (eSl eInt)) (v := L) (u := u268) 24 Tryz.underlying66 ap65 (by decide) rfl rfl hX274.pins ho277 ho292.src (by first | omega | (rw [List.nil_append]; omega) | (rw [List.length_nil]; omega) | (rw [List.length_append]; omega) | (simp; done) | (simp; omega) | (simp only [List.length_append, List.length_cons, List.length_nil]; omega)) (by first | omega | (rw [List.nil_append]; omega) | (rw [List.length_nil]; omega) | (rw [List.length_append]; omega) | (simp; done) | (simp; omega) | (simp only [List.length_append, List.length_cons, List.length_nil]; omega)) (Nat.zero_le _) (fun u293 w294 ho295 hp296 hg297 hw298 => ?_))
 have hX299 := hX274.write hp296 hg297 ((PIn.ll hpin))
 have ho301 := ho276.keptA hg297 (NP.hl hnp21)
 have ho302 := ho278.keptA hg297 hpk219.alr.symm
 have ho303 := ho279.keptA hg297 hpk219.alb.symm
 have hb305 := hb280.keptA hg297 hpk219.apl
 have hm306 := hm281.kept hg297 (zY hm281 ho277)
 have hm307 := hm282.kept hg297 (zY hm282 ho277)
 have hm308 := hm283.kept hg297 (zY hm283 ho277)
 have hm309 := hm284.kept hg297 (zY hm284 ho277)
 have hm310 := hm285.kept hg297 (zY hm285 ho277)
 have ha312 : Apart u12.ownBlock u293.ownBlock := zH (NP.hl hnp21) hw298 ho276.lt
 have ha313 : Apart R.ownBlock u293.ownBlock := zH hpk219.alr.symm hw298 ho278.lt
 have ha314 : Apart B.ownBlock u293.ownBlock := zH hpk219.alb.symm hw298 ho279.lt
 have ha316 : Apart (some p) u293.ownBlock := zM hpk219.apl hw298 hb280.lt
 have hlo317 : Lo w (inP p L R B mm) u293.ownBlock := lo_app (PIn.ll hpin) hw298 hX274.size
 have hm318 : ((q.ns.map Nd.l) ++ ([xs2])).length = (q.ns.map Nd.l).length + 1 := List.length_append
 refine qD rfl (yP rfl) ?_
 refine qD rfl (zL (k := 0) rfl Tryz.underlying72 rfl nz66 rfl) ?_
 refine q0 rfl rfl rfl (xP (cs' := [u293, R, B, (.map (some mm.f)), (.map (some mm.o)), (.map (some mm.c)), (.map (some mm.s)), (.map (some mm.n))]) (us := [u293]) (v := u293) sz66 rfl rfl (cells1 ho295.one) (xA ho295.one) hX299.pins hb305 (Nat.le_of_ble_eq_true rfl) rfl (fun w319 hb320 hp321 hg322 hz323 => ?_))
 have hX324 := hX299.write hp321 hg322 ((PIn.lp hpin))
 have ho326 := ho301.keptA hg322 (NP.hp hnp21)
 have ho327 := ho302.keptA hg322 hpk219.apr.symm
 have ho328 := ho303.keptA hg322 hpk219.apb.symm
 have ho329 := ho295.keptA hg322 ha316.symm
 have hm330 := hm306.kept hg322 (yN hm306 hb305)
 have hm331 := hm307.kept hg322 (yN hm307 hb305)
 have hm332 := hm308.kept hg322 (yN hm308 hb305)
 have hm333 := hm309.kept hg322 (yN hm309 hb305)
 have hm334 := hm310.kept hg322 (yN hm310 hb305)
 refine qe (zB (zE (zF ?_)))
 refine qD rfl (zA (v := (.pointer (some ⟨p, 0, none⟩))) rfl) ?_
 refine qD rfl (zA (v := (.pointer (some ⟨p, 0, none⟩))) rfl) ?_
 refine qD rfl (yP rfl) ?_
 refine qD rfl (zL (k := 1) rfl Tryz.underlying72 rfl nz66 rfl) ?_
 refine qD rfl (zQ (u := R) ag66 rfl (hb320.cell (o := 1) rfl)) ?_
 refine qD rfl (zA (v := u12) rfl) ?_
 obtain ⟨G335, hle338, hX337, hr336, hf339⟩ := ho326.sealed hX324
 have ho341 := ho327.moreO hle338 hf339 (NP.hr hnp21).symm
 have ho342 := ho328.moreO hle338 hf339 (NP.hb hnp21).symm
 have ho343 := ho329.moreO hle338 hf339 ha312.symm
 have hb344 := hb320.moreO hf339 (NP.hp hnp21).symm
 refine qI rfl (yQ (E := (eSl eInt)) (e := 65) [u12] [ys2] Tryz.underlying66 sz65 zr65 (by exact xL (⟨_, rfl, hr336⟩)) (xA hr336.one) rfl rfl rfl rfl (by decide) hX337.pins (fun u345 w346 ho347 hp348 hl349 hk350 => ?_))
 have hX351 := hX337.step hp348 hl349
 have ho353 := ho341.below hl349
 have ho354 := ho342.below hl349
 have ho355 := ho343.below hl349
 have hb356 := hb344.below hl349
 have hm357 := hm330.below hl349
 have hm358 := hm331.below hl349
 have hm359 := hm332.below hl349
 have hm360 := hm333.below hl349
 have hm361 := hm334.below hl349
 have ho367 : Own (eSl eInt) 65 G335 w346 w.heap.size u345 ([ys2]) := ho347.weaken hX337.size
 refine qI rfl (zX (E := (eSl eInt)) (v := R) (u := u345) 24 Tryz.underlying66 ap65 (by decide) rfl rfl hX351.pins ho353 ho367.src (by first | omega | (rw [List.nil_append]; omega) | (rw [List.length_nil]; omega) | (rw [List.length_append]; omega) | (simp; done) | (simp; omega) | (simp only [List.length_append, List.length_cons, List.length_nil]; omega)) (by first | omega | (rw [List.nil_append]; omega) | (rw [List.length_nil]; omega) | (rw [List.length_append]; omega) | (simp; done) | (simp; omega) | (simp only [List.length_append, List.length_cons, List.length_nil]; omega)) (Nat.zero_le _) (fun u368 w369 ho370 hp371 hg372 hw373 => ?_))
 have hX374 := hX351.write hp371 hg372 ((PIn.lr hpin))
 have ho376 := ho354.keptA hg372 hpk219.arb.symm
 have ho377 := ho355.keptA hg372 ha313.symm
 have hb379 := hb356.keptA hg372 hpk219.apr
 have hm380 := hm357.kept hg372 (zY hm357 ho353)
 have hm381 := hm358.kept hg372 (zY hm358 ho353)
 have hm382 := hm359.kept hg372 (zY hm359 ho353)
 have hm383 := hm360.kept hg372 (zY hm360 ho353)
 have hm384 := hm361.kept hg372 (zY hm361 ho353)
 have ha386 : Apart B.ownBlock u368.ownBlock := zH hpk219.arb.symm hw373 ho354.lt
 have ha387 : Apart u293.ownBlock u368.ownBlock := zH ha313.symm hw373 ho355.lt
 have ha389 : Apart (some p) u368.ownBlock := zM hpk219.apr hw373 hb356.lt
 have hlo390 : Lo w (inP p L R B mm) u368.ownBlock := lo_app (PIn.lr hpin) hw373 hX351.size
 have hm391 : ((q.ns.map Nd.r) ++ ([ys2])).length = (q.ns.map Nd.r).length + 1 := List.length_append
 refine qD rfl (yP rfl) ?_
 refine qD rfl (zL (k := 1) rfl Tryz.underlying72 rfl nz66 rfl) ?_
 refine q0 rfl rfl rfl (xP (cs' := [u293, u368, B, (.map (some mm.f)), (.map (some mm.o)), (.map (some mm.c)), (.map (some mm.s)), (.map (some mm.n))]) (us := [u368]) (v := u368) sz66 rfl rfl (cells1 ho370.one) (xA ho370.one) hX374.pins hb379 (Nat.le_of_ble_eq_true rfl) rfl (fun w392 hb393 hp394 hg395 hz396 => ?_))
 have hX397 := hX374.write hp394 hg395 ((PIn.lp hpin))
 have ho399 := ho376.keptA hg395 hpk219.apb.symm
 have ho400 := ho377.keptA hg395 ha316.symm
 have ho401 := ho370.keptA hg395 ha389.symm
 have hm402 := hm380.kept hg395 (yN hm380 hb379)
 have hm403 := hm381.kept hg395 (yN hm381 hb379)
 have hm404 := hm382.kept hg395 (yN hm382 hb379)
 have hm405 := hm383.kept hg395 (yN hm383 hb379)
 have hm406 := hm384.kept hg395 (yN hm384 hb379)
 refine qe (zB (zE (zF ?_)))
 refine qD rfl (zA (v := (.pointer (some ⟨p, 0, none⟩))) rfl) ?_
 refine qD rfl (zA (v := (.pointer (some ⟨p, 0, none⟩))) rfl) ?_
 refine qD rfl (yP rfl) ?_
 refine qD rfl (zL (k := 2) rfl Tryz.underlying72 rfl nz65 rfl) ?_
 refine qD rfl (zQ (u := B) ag65 rfl (hb393.cell (o := 2) rfl)) ?_
 refine qD rfl (zA (v := (.int .i64 bm)) rfl) ?_
 refine qI rfl (yQ (E := eInt) (e := 3) [(.int .i64 bm)] [bm] Tryz.underlying65 sz3 zr3 (by exact xL (by rfl)) (xA (by rfl)) rfl rfl rfl rfl (by decide) hX397.pins (fun u407 w408 ho409 hp410 hl411 hk412 => ?_))
 have hX413 := hX397.step hp410 hl411
 have ho415 := ho399.below hl411
 have ho416 := ho400.below hl411
 have ho417 := ho401.below hl411
 have hb418 := hb393.below hl411
 have hm419 := hm402.below hl411
 have hm420 := hm403.below hl411
 have hm421 := hm404.below hl411
 have hm422 := hm405.below hl411
 have hm423 := hm406.below hl411
 have ho429 : Own eInt 3 G335 w408 w.heap.size u407 ([bm]) := ho409.weaken hX397.size
 refine qI rfl (zX (E := eInt) (v := B) (u := u407) 8 Tryz.underlying65 ap3 (by decide) rfl rfl hX413.pins ho415 ho429.src (by first | omega | (rw [List.nil_append]; omega) | (rw [List.length_nil]; omega) | (rw [List.length_append]; omega) | (simp; done) | (simp; omega) | (simp only [List.length_append, List.length_cons, List.length_nil]; omega)) (by first | omega | (rw [List.nil_append]; omega) | (rw [List.length_nil]; omega) | (rw [List.length_append]; omega) | (simp; done) | (simp; omega) | (simp only [List.length_append, List.length_cons, List.length_nil]; omega)) (Nat.zero_le _) (fun u430 w431 ho432 hp433 hg434 hw435 => ?_))
 have hX436 := hX413.write hp433 hg434 ((PIn.lb hpin))
 have ho438 := ho416.keptA hg434 ha314.symm
 have ho439 := ho417.keptA hg434 ha386.symm
 have hb441 := hb418.keptA hg434 hpk219.apb
 have hm442 := hm419.kept hg434 (zY hm419 ho415)
 have hm443 := hm420.kept hg434 (zY hm420 ho415)
 have hm444 := hm421.kept hg434 (zY hm421 ho415)
 have hm445 := hm422.kept hg434 (zY hm422 ho415)
 have hm446 := hm423.kept hg434 (zY hm423 ho415)
 have ha448 : Apart u293.ownBlock u430.ownBlock := zH ha314.symm hw435 ho416.lt
 have ha449 : Apart u368.ownBlock u430.ownBlock := zH ha386.symm hw435 ho417.lt
 have ha451 : Apart (some p) u430.ownBlock := zM hpk219.apb hw435 hb418.lt
 have hlo452 : Lo w (inP p L R B mm) u430.ownBlock := lo_app (PIn.lb hpin) hw435 hX413.size
 have hm453 : (q.bs ++ ([bm])).length = q.bs.length + 1 := List.length_append
 refine qD rfl (yP rfl) ?_
 refine qD rfl (zL (k := 2) rfl Tryz.underlying72 rfl nz65 rfl) ?_
 refine q0 rfl rfl rfl (xP (cs' := [u293, u368, u430, (.map (some mm.f)), (.map (some mm.o)), (.map (some mm.c)), (.map (some mm.s)), (.map (some mm.n))]) (us := [u430]) (v := u430) sz65 rfl rfl (cells1 ho432.one) (xA ho432.one) hX436.pins hb441 (Nat.le_of_ble_eq_true rfl) rfl (fun w454 hb455 hp456 hg457 hz458 => ?_))
 have hX459 := hX436.write hp456 hg457 ((PIn.lp hpin))
 have ho461 := ho438.keptA hg457 ha316.symm
 have ho462 := ho439.keptA hg457 ha389.symm
 have ho463 := ho432.keptA hg457 ha451.symm
 have hm464 := hm442.kept hg457 (yN hm442 hb441)
 have hm465 := hm443.kept hg457 (yN hm443 hb441)
 have hm466 := hm444.kept hg457 (yN hm444 hb441)
 have hm467 := hm445.kept hg457 (yN hm445 hb441)
 have hm468 := hm446.kept hg457 (yN hm446 hb441)
 refine qe (zB (zE (zF ?_)))
 refine qD rfl (zA (v := (.int .i64 (q.bs.length : Int))) rfl) ?_
 refine qD rfl (zC (v := (.int .i64 (q.bs.length : Int))) rfl) ?_
 refine qe (zB ?_)
 refine wp_ret ?_
 refine zW ?_
 refine zS (v := (.int .i64 (q.bs.length : Int))) rfl rfl rfl ?_
 have el : (q.ns.map Nd.l) ++ [xs2] = (addQ q xs ys bm).ns.map Nd.l := by rw [hxs2]; simp [addQ]
 have er : (q.ns.map Nd.r) ++ [ys2] = (addQ q xs ys bm).ns.map Nd.r := by rw [hys2]; simp [addQ]
 have ef : putE q.fl (b2s kxb) (q.bs.length : Int) = (addQ q xs ys bm).fl := by rw [hkey, hxs2, hys2, hok.ar.ok.len]; rfl
 have hol := ho461
 have hor := ho462
 have hff := hm464
 rw [el] at hol
 rw [er] at hor
 rw [ef] at hff
 exact ⟨(q.bs.length : Int), u293, u368, u430, addQ q xs ys bm, G335, rfl, ⟨hb455, hol, hor, ho463, hff, hm465, hm466, hm467, hm468, ha316, ha389, ha451, ha387, ha448, ha449, hpk219.df⟩, hadd.1, hadd.2.1, ⟨hlo317, hlo390, hlo452⟩, hX459, by rw [hok.ar.ok.len]; exact hadd.2.2.1, by rw [hok.ar.ok.len]; exact hadd.2.2.2.1, hadd.2.2.2.2, rfl, Or.inr (by omega)⟩

end PO1
end Go.Proofs.YtfnginkcmcfdfaaGreatDoor

set_option maxRecDepth 20000
set_option maxHeartbeats 2000000
namespace Go.Proofs.YtfnginkcmcfdfaaGreatDoor
namespace PL1
open Go.RowKit Go.GL Go.Proofs
open Go.Proofs.YtfnginkcmcfdfaaGreatDoor.B1
open Go.Proofs.YtfnginkcmcfdfaaGreatDoor.K1
open Go.Proofs.YtfnginkcmcfdfaaGreatDoor.PO1









theorem mk3 : (Tryz.prog.info? 3).map (fun i => (i.size, i.bytes, i.zero)) = some (1, 8, some (.int .i64 0)) := by kernel_rfl








theorem pl72 : (Tryz.prog.underlying 72).bind (placesD Tryz.prog) = some [(0, 1), (1, 1), (2, 1), (3, 1), (4, 1), (5, 1), (6, 1), (7, 1)] := by kernel_rfl










theorem newPool_spec {w : World} {G : Pin} (hP : Pins G w) :
  Calls Tryz.prog 51 [].toArray w fun e w' => ∃ (p : Nat) (mm : PM) (G' : Pin), e = .returned (.pointer (some ⟨p, 0, none⟩)) ∧ Pk 65 3 G' w' p (.slice none 0 0) (.slice none 0 0) (.slice none 0 0) mm ⟨[], [], [], [], [], [], []⟩ ∧ (∀ k, inP p (.slice none 0 0) (.slice none 0 0) (.slice none 0 0) mm k → w.heap.size ≤ k) ∧ Ext noS G w G' w' := by
 refine yE (n := 8) Tryz.func51 Tryz.ntmps51 rfl rfl ?_
 have hX0 : Ext noS G w G w := Ext.refl hP
 refine zE (zF ?_)
 refine qD rfl (zC (v := (.pointer none)) rfl) ?_
 refine qe (zB (zE (zF ?_)))
 refine qI rfl (o_makeMap (fun k : ByteArray => Value.string k) (fun v : Int => Value.int .i64 v) hX0.pins (fun m1 w2 hk3 hm4 hp5 hl6 => ?_))
 have hX7 := hX0.step hp5 hl6
 have hlo8 : w.heap.size ≤ m1 := by have := hX0.size; omega
 refine qI rfl (o_makeMap encP2 (fun v : Bool => Value.bool v) hX7.pins (fun m9 w10 hk11 hm12 hp13 hl14 => ?_))
 have hX15 := hX7.step hp13 hl14
 have hm16 := hm4.below hl14
 have ha17 : Apart (some m9) (some m1) := zP (congrArg some hk11) hm4.lt
 have hlo18 : w.heap.size ≤ m9 := by have := hX7.size; omega
 refine qI rfl (o_makeMap (fun k : Int => Value.int .i64 k) (fun v : Int => Value.int .i64 v) hX15.pins (fun m19 w20 hk21 hm22 hp23 hl24 => ?_))
 have hX25 := hX15.step hp23 hl24
 have hm26 := hm16.below hl24
 have hm27 := hm12.below hl24
 have ha28 : Apart (some m19) (some m1) := zP (congrArg some hk21) hm16.lt
 have ha29 : Apart (some m19) (some m9) := zP (congrArg some hk21) hm12.lt
 have hlo30 : w.heap.size ≤ m19 := by have := hX15.size; omega
 refine qI rfl (o_makeMap encP2 (fun v : Int => Value.int .i64 v) hX25.pins (fun m31 w32 hk33 hm34 hp35 hl36 => ?_))
 have hX37 := hX25.step hp35 hl36
 have hm38 := hm26.below hl36
 have hm39 := hm27.below hl36
 have hm40 := hm22.below hl36
 have ha41 : Apart (some m31) (some m1) := zP (congrArg some hk33) hm26.lt
 have ha42 : Apart (some m31) (some m9) := zP (congrArg some hk33) hm27.lt
 have ha43 : Apart (some m31) (some m19) := zP (congrArg some hk33) hm22.lt
 have hlo44 : w.heap.size ≤ m31 := by have := hX25.size; omega
 refine qI rfl (o_makeMap (fun k : Int => Value.int .i64 k) (fun v : Int => Value.int .i64 v) hX37.pins (fun m45 w46 hk47 hm48 hp49 hl50 => ?_))
 have hX51 := hX37.step hp49 hl50
 have hm52 := hm38.below hl50
 have hm53 := hm39.below hl50
 have hm54 := hm40.below hl50
 have hm55 := hm34.below hl50
 have ha56 : Apart (some m45) (some m1) := zP (congrArg some hk47) hm38.lt
 have ha57 : Apart (some m45) (some m9) := zP (congrArg some hk47) hm39.lt
 have ha58 : Apart (some m45) (some m19) := zP (congrArg some hk47) hm40.lt
 have ha59 : Apart (some m45) (some m31) := zP (congrArg some hk47) hm34.lt
 have hlo60 : w.heap.size ≤ m45 := by have := hX37.size; omega
 refine qD rfl (qV [(.slice none 0 0), (.slice none 0 0), (.slice none 0 0), (.map none), (.map none), (.map none), (.map none), (.map none)] [(.slice none 0 0), (.slice none 0 0), (.slice none 0 0), (.map (some m1)), (.map (some m9)), (.map (some m19)), (.map (some m31)), (.map (some m45))] [(3, (.map (some m1)), [(.map (some m1))]), (4, (.map (some m9)), [(.map (some m9))]), (5, (.map (some m19)), [(.map (some m19))]), (6, (.map (some m31)), [(.map (some m31))]), (7, (.map (some m45)), [(.map (some m45))])] Tryz.underlying72 zr72 rfl pl72 rfl (List.forall_mem_cons.2 ⟨rfl, (List.forall_mem_cons.2 ⟨rfl, (List.forall_mem_cons.2 ⟨rfl, (List.forall_mem_cons.2 ⟨rfl, (List.forall_mem_cons.2 ⟨rfl, (fun _ h => by cases h)⟩)⟩)⟩)⟩)⟩) rfl) ?_
 refine qI rfl (qC [(.slice none 0 0), (.slice none 0 0), (.slice none 0 0), (.map (some m1)), (.map (some m9)), (.map (some m19)), (.map (some m31)), (.map (some m45))] (v := (.agg [(.slice none 0 0), (.slice none 0 0), (.slice none 0 0), (.map (some m1)), (.map (some m9)), (.map (some m19)), (.map (some m31)), (.map (some m45))].toArray)) rfl rfl hX51.pins (fun b61 w62 hk63 hb64 hp65 hl66 => ?_))
 have hX67 := hX51.step hp65 hl66
 have hm68 := hm52.below hl66
 have hm69 := hm53.below hl66
 have hm70 := hm54.below hl66
 have hm71 := hm55.below hl66
 have hm72 := hm48.below hl66
 have hlo73 : w.heap.size ≤ b61 := by have := hX51.size; omega
 refine qD rfl (zC (v := (.pointer (some ⟨b61, 0, none⟩))) rfl) ?_
 refine qe (zB ?_)
 refine wp_ret ?_
 refine zW ?_
 refine zS (v := (.pointer (some ⟨b61, 0, none⟩))) rfl rfl rfl ?_
 have hdf : PDiff ⟨m1, m9, m19, m31, m45⟩ := ⟨fun e => ha17.symm _ rfl (congrArg some e.symm), fun e => ha28.symm _ rfl (congrArg some e.symm), fun e => ha41.symm _ rfl (congrArg some e.symm), fun e => ha56.symm _ rfl (congrArg some e.symm), fun e => ha29.symm _ rfl (congrArg some e.symm), fun e => ha42.symm _ rfl (congrArg some e.symm), fun e => ha57.symm _ rfl (congrArg some e.symm), fun e => ha43.symm _ rfl (congrArg some e.symm), fun e => ha58.symm _ rfl (congrArg some e.symm), fun e => ha59.symm _ rfl (congrArg some e.symm)⟩
 have hfr : ∀ k, inP b61 (.slice none 0 0) (.slice none 0 0) (.slice none 0 0) ⟨m1, m9, m19, m31, m45⟩ k → w.heap.size ≤ k := by rintro k (rfl | hk | hk | hk | rfl | rfl | rfl | rfl | rfl) <;> first | (cases hk; done) | exact hlo73 | exact hlo8 | exact hlo18 | exact hlo30 | exact hlo44 | exact hlo60
 exact ⟨b61, ⟨m1, m9, m19, m31, m45⟩, _, rfl, ⟨hb64, (Own.nil _ _ _ _ _), (Own.nil _ _ _ _ _), (Own.nil _ _ _ _ _), hm68, hm69, hm70, hm71, hm72, apart_none.symm, apart_none.symm, apart_none.symm, apart_none, apart_none, apart_none, hdf⟩, hfr, hX67⟩

theorem renamed_spec {w : World} {G : Pin} {u v : Value} {xs ys : List Int} (hP : Pins G w) (hu : RSl eInt G u xs) (hv : RSl eInt G v ys) (hs : xs.length ≤ 1048576) (hb : ∀ i, i < xs.length → 0 ≤ xs.getD i 0 ∧ xs.getD i 0 < ys.length) :
  Calls Tryz.prog 143 [u, v].toArray w fun e w' => ∃ (u : Value) (G' : Pin), e = .returned u ∧ Own eInt 3 G' w' w.heap.size u (atL ys xs) ∧ Ext noS G w G' w' := by
 refine yE (n := 27) Tryz.func143 Tryz.ntmps143 rfl rfl ?_
 have hX0 : Ext noS G w G w := Ext.refl hP
 have hm := hu.max
 have hal : (atL ys xs).length = xs.length := xC
 have hrl : (List.replicate xs.length (0 : Int)).length = xs.length := List.length_replicate
 refine zE (zF ?_)
 refine qD rfl (zC (v := (.slice none 0 0)) rfl) ?_
 refine qe (zB (zE (zF ?_)))
 refine qD rfl (zA (v := u) rfl) ?_
 refine qD rfl (zO Tryz.underlying65 (v := u) rfl hu) ?_
 refine qI rfl (o_make (E := eInt) 0 8 (.int .i64 0) Tryz.underlying65 mk3 (fun _ => rfl) rfl rfl hX0.pins (by omega) (by omega) (by omega) (fun u1 w2 ho3 hp4 hl5 hk6 => ?_))
 have hX7 := hX0.step hp4 hl5
 have ho8 : Own eInt 3 G w2 w.heap.size u1 (List.replicate xs.length 0) := ho3.weaken hX0.size
 have hm9 : (List.replicate xs.length 0).length = xs.length := List.length_replicate ..
 refine qD rfl (zC (v := u1) rfl) ?_
 refine qe (zB (zE (zE (zF ?_))))
 refine qD rfl (zA (v := u) rfl) ?_
 refine qD rfl (zO Tryz.underlying65 (v := u) rfl hu) ?_
 refine qD rfl (zA (v := (.int .i64 0)) rfl) ?_
 refine qe (zB ?_)
 refine yB ?_
 refine yM (fun (k : Nat) (en : Nat → Value) (W : World) => ∃ (env1 : Nat → Value) (j : Nat) (os : List Int), en = (upd (upd (upd (upd (upd (upd env1 1 v) 4 (.slice none 0 0)) 5 u1) 11 u) 12 (.int .i64 (xs.length : Int))) 13 (.int .i64 (j : Int))) ∧ k = xs.length - j ∧ Ext noS G w G W ∧ (j ≤ xs.length) ∧ (os = (atL ys xs).take j ++ (List.replicate xs.length 0).drop j) ∧ (os.length = xs.length) ∧ (Own eInt 3 G W w.heap.size u1 (os))) _ ⟨_, 0, List.replicate xs.length 0, (zD (x := 13) (zD (x := 12) (zD (x := 11) (zD (x := 5) (zD (x := 4) (zR (x := 1) rfl) rfl) rfl) rfl) rfl) rfl), rfl, hX7, Nat.zero_le _, rfl, hrl, ho8⟩ ?_
 rintro k10 _ w11 ⟨env1, j, os, rfl, hk12, hX13, hj, hr, hol, hw14⟩
 refine zE (zF ?_)
 refine qD rfl (yO rfl rfl) ?_
 refine qe (zB (zE ?_))
 refine yH (p := ((j : Int) : Int) < (xs.length : Int)) rfl rfl (fun h15 => ?_) (fun h15 => ?_)
 ·skip
  have hbj := hb j (by omega)
  refine wp_skip ?_
  refine zB (zE ?_)
  refine yB ?_
  refine zE (zF ?_)
  refine qD rfl (zA (v := (.int .i64 (j : Int))) rfl) ?_
  refine qD rfl (zK Tryz.underlying65 sz3 (v := u) rfl rfl hu (by omega) (by omega)) ?_
  refine qD rfl (zI (r := xs.getD j 0) rfl ag3 (z := (j : Int)) rfl hu hX13.pins (by omega) (by omega)) ?_
  refine qD rfl (zC (v := (.int .i64 (j : Int))) rfl) ?_
  refine qD rfl (zC (v := (.int .i64 (xs.getD j 0))) rfl) ?_
  refine qe (zB (zF ?_))
  refine qD rfl (zA (v := u1) rfl) ?_
  refine qD rfl (zA (v := (.int .i64 (j : Int))) rfl) ?_
  refine qD rfl (zA (v := v) rfl) ?_
  refine qD rfl (zA (v := (.int .i64 (xs.getD j 0))) rfl) ?_
  refine qD rfl (zK Tryz.underlying65 sz3 (v := v) rfl rfl hv (by omega) (by omega)) ?_
  refine qD rfl (zI (r := ys.getD (xs.getD j 0).toNat 0) rfl ag3 (z := (xs.getD j 0)) rfl hv hX13.pins (by omega) (by omega)) ?_
  refine qD rfl (zK Tryz.underlying65 sz3 (v := u1) rfl rfl hw14.read (by omega) (by omega)) ?_
  refine q0 rfl rfl rfl (o_set (E := eInt) (v := u1) (u := (.int .i64 (ys.getD (xs.getD j 0).toNat 0))) (z := (j : Int)) (ys.getD (xs.getD j 0).toNat 0) sz3 rfl rfl rfl rfl hX13.pins hw14 (by omega) (by omega) (fun w16 ho17 hp18 hg19 hz20 => ?_))
  have hX21 := hX13.write hp18 hg19 ((yG hw14))
  refine qe ?_
  refine yC ?_
  refine zB (zF ?_)
  refine qD rfl (yJ rfl rfl (by omega)) ?_
  refine qD rfl (zA (v := (.int .i64 ((j : Int) + 1))) rfl) ?_
  refine qe ?_
  refine yA ?_
  refine ⟨_, ?_, _, rfl, _, j + 1, os.set j (ys.getD (xs.getD j 0).toNat 0), (zD (x := 13) (zD (x := 12) (zD (x := 11) (zD (x := 5) (zD (x := 4) (zR (x := 1) rfl) rfl) rfl) rfl) rfl) rfl), rfl, hX21, (by omega), (by rw [hr]; exact cur_set 0 (by omega) (by omega) (at_getD (by omega))), ((List.length_set ..).trans hol), ho17⟩
  omega
 refine wp_exit ?_
 refine zZ ?_
 refine yK ?_
 refine yI ?_
 refine zB (zE (zF ?_))
 refine qD rfl (zA (v := u1) rfl) ?_
 refine qD rfl (zC (v := u1) rfl) ?_
 refine qe (zB ?_)
 refine wp_ret ?_
 refine zW ?_
 refine zS (v := u1) rfl rfl rfl ?_
 rw [cur_end (by omega) (by omega)] at hr
 exact ⟨_, _, rfl, (by rw [← hr]; exact hw14), hX13⟩

theorem load_spec {w : World} {G : Pin} {p : Nat} {L R B : Value} {mm : PM} {q : PSt} (hP : Pins G w) (hpk : Pk 65 3 G w p L R B mm q) (hok : PoolOk q) {x : Value} {fs : List Nd} (hx : RSl eNode G x fs) (hf : FormOk fs) (hl : q.ns.length + fs.length ≤ 1048576) :
  Calls Tryz.prog 104 [(.pointer (some ⟨p, 0, none⟩)), (.agg [x].toArray)].toArray w fun e w' => ∃ (u : Value) (ats : List Int) (L' R' B' : Value) (q' : PSt) (G' : Pin), e = .returned u ∧ Pk 65 3 G' w' p L' R' B' mm q' ∧ PoolOk q' ∧ PX q q' ∧ PLo w p L R B mm L' R' B' ∧ Ext (inP p L R B mm) G w G' w' ∧ Own eInt 3 G' w' w.heap.size u ats ∧ NP p L' R' B' mm u.ownBlock ∧ LdOk fs q q' fs.length ats := by
 refine yE (n := 34) Tryz.func104 Tryz.ntmps104 rfl rfl ?_
 have hX0 : Ext (inP p L R B mm) G w G w := Ext.refl hP
 have hpin : PIn w (inP p L R B mm) p L R B mm := PIn.self
 have hml1 : (q.ns.map Nd.l).length = q.ns.length ∧ (q.ns.map Nd.r).length = q.ns.length := ⟨List.length_map .., List.length_map ..⟩
 have hml2 : q.bs.length = q.ns.length ∧ q.ns.length ≤ 1048576 := ⟨hok.ar.ok.len, hok.ar.ok.lim⟩
 refine zE (zF ?_)
 refine qI rfl (qC [x] (v := (.agg [x].toArray)) rfl rfl hX0.pins (fun b3 w4 hk5 hb6 hp7 hl8 => ?_))
 have hX9 := hX0.step hp7 hl8
 have hpk10 := hpk.below hl8 hp7
 have ha15 := hpk.new (x := (some b3)) (fun k hk => by rw [(congrArg some hk5)] at hk; cases hk; exact Nat.le_refl _)
 have hlo16 : w.heap.size ≤ b3 := by have := hX0.size; omega
 obtain ⟨G17, hle18, hX19, hbp20, hf21⟩ := hb6.shut hX9 hlo16
 have hpk22 := hpk10.more hle18 hf21 ha15
 refine qD rfl (zC (v := (.slice none 0 0)) rfl) ?_
 refine qe (zB (zE (zF ?_)))
 refine qD rfl (zL (k := 0) rfl Tryz.underlying32 rfl nz30 rfl) ?_
 refine qD rfl (zQ (u := x) ag30 rfl (hX19.pins _ _ _ (hbp20 0 _ rfl))) ?_
 refine qD rfl (zO Tryz.underlying30 (v := x) rfl hx) ?_
 refine qI rfl (o_make0 (E := eInt) Tryz.underlying65 mk3 rfl rfl hX19.pins (by omega) (by omega) (by omega) (fun u23 w24 ho25 hp26 hl27 hk28 => ?_))
 have hX29 := hX19.step hp26 hl27
 have hpk30 := hpk22.below hl27 hp26
 have ha35 := hpk22.new (x := u23.ownBlock) (fun k hk => by rw [hk28] at hk; cases hk; exact Nat.le_refl _)
 have ho36 : Own eInt 3 G17 w24 w.heap.size u23 ([]) := ho25.weaken hX19.size
 refine qD rfl (zC (v := u23) rfl) ?_
 refine qe (zB (zE (zE (zF ?_))))
 refine qD rfl (zL (k := 0) rfl Tryz.underlying32 rfl nz30 rfl) ?_
 refine qD rfl (zQ (u := x) ag30 rfl (hX29.pins _ _ _ (hbp20 0 _ rfl))) ?_
 refine qD rfl (zO Tryz.underlying30 (v := x) rfl hx) ?_
 refine qD rfl (zA (v := (.int .i64 0)) rfl) ?_
 refine qe (zB ?_)
 refine yB ?_
 refine yM (fun (k : Nat) (en : Nat → Value) (W : World) => ∃ (env1 : Nat → Value) (k4 : Nat) (at_ : Value) (ats : List Int) (L37 : Value) (R38 : Value) (B39 : Value) (q40 : PSt) (GL1 : Pin), en = (upd (upd (upd (upd (upd (upd env1 0 (.pointer (some ⟨p, 0, none⟩))) 4 (.slice none 0 0)) 5 at_) 13 x) 14 (.int .i64 (fs.length : Int))) 15 (.int .i64 (k4 : Int))) ∧ k = fs.length - k4 ∧ Ext (inP p L R B mm) G w GL1 W ∧ Pin.le G17 GL1 ∧ (k4 ≤ fs.length) ∧ (LdOk fs q q40 k4 ats) ∧ (Own eInt 3 GL1 W w.heap.size at_ (ats)) ∧ (Pk 65 3 GL1 W p L37 R38 B39 mm q40) ∧ (PIn w ((inP p L R B mm)) p L37 R38 B39 mm) ∧ (PoolOk q40) ∧ (PX q q40) ∧ (NP p L37 R38 B39 mm at_.ownBlock)) _ ⟨_, 0, u23, [], L, R, B, q, G17, (zD (x := 15) (zD (x := 14) (zD (x := 13) (zD (x := 5) (zD (x := 4) (zR (x := 0) rfl) rfl) rfl) rfl) rfl) rfl), rfl, hX29, Pin.le_refl _, Nat.zero_le _, LdOk.start, ho36, hpk30, hpin, hok, (PX.refl _), ha35⟩ ?_
 rintro k41 _ w42 ⟨env1, k4, at_, ats, L37, R38, B39, q40, GL1, rfl, hk43, hX44, hlek41, hk, hld, hw45, hpk46, hpin47, hok48, hpx49, hnp50⟩
 have hql51 := hpx49.len
 have hml52 : (q40.ns.map Nd.l).length = q40.ns.length ∧ (q40.ns.map Nd.r).length = q40.ns.length := ⟨List.length_map .., List.length_map ..⟩
 have hml53 : q40.bs.length = q40.ns.length ∧ q40.ns.length ≤ 1048576 := ⟨hok48.ar.ok.len, hok48.ar.ok.lim⟩
 have hal := hld.len
 have hah := hld.hi
 have hfl := hf.len
 refine zE (zF ?_)
 refine qD rfl (yO rfl rfl) ?_
 refine qe (zB (zE ?_))
 refine yH (p := ((k4 : Int) : Int) < (fs.length : Int)) rfl rfl (fun h54 => ?_) (fun h54 => ?_)
 ·skip
  have oo := xG hf.opts (show k4 < fs.length by omega)
  have hfe := hf.lens k4 (by omega)
  refine wp_skip ?_
  refine zB (zE ?_)
  refine yB ?_
  refine zE (zF ?_)
  refine qD rfl (zK Tryz.underlying30 sz99 (v := x) rfl rfl hx (by omega) (by omega)) ?_
  obtain ⟨u55, u56, hr57, hr58, hl59⟩ := jA (hx.at (z := (k4 : Int)) (by omega) (by omega)) (j := k4) rfl
  have hm60 := hr57.max
  have hm61 := hr58.max
  refine qD rfl (hl59 ag99 sz99 rfl (Pins.of_le hX44.pins (Pin.le_trans hle18 hlek41))) ?_
  refine qI rfl (xK [(.slice none 0 0), (.slice none 0 0)] zr99 rfl hX44.pins (fun b62 w63 hk64 hb65 hp66 hl67 => ?_))
  have hX68 := hX44.step hp66 hl67
  have ho69 := hw45.below hl67
  have hpk70 := hpk46.below hl67 hp66
  have ha71 : Apart (some b62) at_.ownBlock := zJ (congrArg some hk64) hw45.lt
  have ha76 := hpk46.new (x := (some b62)) (fun k hk => by rw [(congrArg some hk64)] at hk; cases hk; exact Nat.le_refl _)
  have hlo77 : w.heap.size ≤ b62 := by have := hX44.size; omega
  refine q0 rfl rfl rfl (xP (cs' := [u55, u56]) (us := [u55, u56]) (v := (.agg [u55, u56].toArray)) sz99 rfl rfl rfl (ones2 hr57.one hr58.one) hX68.pins hb65 (Nat.le_of_ble_eq_true rfl) rfl (fun w78 hb79 hp80 hg81 hz82 => ?_))
  have hX83 := hX68.write hp80 hg81 ((xI hlo77))
  have ho84 := ho69.keptA hg81 ha71.symm
  have hpk85 := hpk70.kept hg81 hp80 ha76
  obtain ⟨G86, hle87, hX88, hbp89, hf90⟩ := hb79.shut hX83 hlo77
  have ho91 := ho84.moreA hle87 hf90 ha71.symm
  have hpk92 := hpk85.more hle87 hf90 ha76
  refine qe (zB ?_)
  refine xE (S := fun wz => Pins G86 wz) (last := 14) (by kernel_rfl) rfl ?_
  have hl93 : Below w78.heap.size w78 w78.drew := (Below.refl _ _).drew
  have hp94 := hX88.pins.below hl93
  have hX95 := hX88.step hp94 hl93
  have ho96 := ho91.below hl93
  have hpk97 := hpk92.below hl93 hp94
  refine dT (i := 0) rfl rfl (by kernel_rfl) (fun _ _ => zA (v := at_) rfl) hX95.pins ?_
  refine dT (i := 1) rfl rfl (by kernel_rfl) (fun _ _ => zA (v := (.pointer (some ⟨p, 0, none⟩))) rfl) hX95.pins ?_
  refine dT (i := 2) rfl rfl (by kernel_rfl) (fun _ _ => zL (k := 0) rfl Tryz.underlying99 rfl nz65 rfl) hX95.pins ?_
  refine dT (i := 3) rfl rfl (by kernel_rfl) (fun _ hS => zQ (u := u55) ag65 rfl (hS _ _ _ (hbp89 0 _ rfl))) hX95.pins ?_
  refine dT (i := 4) rfl rfl (by kernel_rfl) (fun _ _ => zA (v := at_) rfl) hX95.pins ?_
  refine dT (i := 6) rfl rfl (by kernel_rfl) (fun _ _ => zL (k := 1) rfl Tryz.underlying99 rfl nz65 rfl) hX95.pins ?_
  refine dT (i := 7) rfl rfl (by kernel_rfl) (fun _ hS => zQ (u := u56) ag65 rfl (hS _ _ _ (hbp89 1 _ rfl))) hX95.pins ?_
  refine dT (i := 8) rfl rfl (by kernel_rfl) (fun _ _ => zA (v := at_) rfl) hX95.pins ?_
  refine zV (i := 5) (by kernel_rfl) (yD (i := 5) rfl rfl rfl (zG rfl _) (zN (vs := [u55, at_]) Tryz.func143 nm143 rfl rfl rfl ?_))
  refine Calls.mono (renamed_spec (Gadd.pins hX95.pins at_) ((hr57.mono (Pin.le_trans (Pin.le_trans hle18 hlek41) hle87)).mono (Gadd.le _ _ _)) ho96.read (by omega) (fun i hi => by have h7 := oo.1 _ (yL (d := (0 : Int)) hi); omega)) ?_
  rintro _ w100 ⟨u98, G99, rfl, ho101, hx102⟩
  refine ⟨_, rfl, ?_⟩
  have hx103 := deep_back hX95.pins hx102
  have ho104 := ho101.anti flat_int (Pin.le_trans (Gadd.le G86 w78.drew at_) hx102.le)
  have hX105 := hX95.step hx103.pins hx103.below
  have ho106 := ho96.below hx103.below
  have hpk107 := hpk97.below hx103.below hx103.pins
  have ha108 : Apart u98.ownBlock at_.ownBlock := zT ho104.lt ho96.lt
  have ha109 := hpk97.new (x := u98.ownBlock) (fun k hk => (ho104.lt k hk).1)
  have ho110 : Own eInt 3 G86 w100 w.heap.size u98 (atL ats ((fs.getD k4 default).l)) := ho104.weaken hX95.size
  have hm111 : (atL ats ((fs.getD k4 default).l)).length = ((fs.getD k4 default).l).length := xC
  refine ⟨fun _ => hX105.pins, ?_⟩
  refine zV (i := 9) (by kernel_rfl) (yD (i := 9) rfl rfl rfl (zG rfl _) (zN (vs := [u56, at_]) Tryz.func143 nm143 rfl rfl rfl ?_))
  refine Calls.mono (renamed_spec (Gadd.pins hX105.pins at_) ((hr58.mono (Pin.le_trans (Pin.le_trans hle18 hlek41) hle87)).mono (Gadd.le _ _ _)) ho106.read (by omega) (fun i hi => by have h7 := oo.2 _ (yL (d := (0 : Int)) hi); omega)) ?_
  rintro _ w114 ⟨u112, G113, rfl, ho115, hx116⟩
  refine ⟨_, rfl, ?_⟩
  have hx117 := deep_back hX105.pins hx116
  have ho118 := ho115.anti flat_int (Pin.le_trans (Gadd.le G86 w100 at_) hx116.le)
  have hX119 := hX105.step hx117.pins hx117.below
  have ho120 := ho106.below hx117.below
  have ho121 := ho110.below hx117.below
  have hpk122 := hpk107.below hx117.below hx117.pins
  have ha123 : Apart u112.ownBlock at_.ownBlock := zT ho118.lt ho106.lt
  have ha124 : Apart u112.ownBlock u98.ownBlock := zT ho118.lt ho110.lt
  have ha125 := hpk107.new (x := u112.ownBlock) (fun k hk => (ho118.lt k hk).1)
  have ho126 : Own eInt 3 G86 w114 w.heap.size u112 (atL ats ((fs.getD k4 default).r)) := ho118.weaken hX105.size
  have hm127 : (atL ats ((fs.getD k4 default).r)).length = ((fs.getD k4 default).r).length := xC
  refine ⟨fun _ => hX119.pins, ?_⟩
  obtain ⟨G128, hle131, hX130, hr129, hf132⟩ := ho121.sealed hX119
  have ho133 := ho120.moreO hle131 hf132 ha108.symm
  have ho134 := ho126.moreO hle131 hf132 ha124
  have hpk135 := hpk122.moreO hle131 hf132 ha109
  obtain ⟨G136, hle139, hX138, hr137, hf140⟩ := ho134.sealed hX130
  have ho141 := ho133.moreO hle139 hf140 ha123.symm
  have hpk142 := hpk135.moreO hle139 hf140 ha125
  refine zV (i := 10) (by kernel_rfl) (yD (i := 10) rfl rfl rfl (zG rfl _) (zN (vs := [(.pointer (some ⟨p, 0, none⟩)), u98, u112]) Tryz.func79 nm79 rfl rfl rfl ?_))
  refine Calls.mono (node_spec hX138.pins hpk142 hok48 (hr129.mono hle139) hr137 (by omega) ⟨by rw [xC]; omega, by rw [xC]; omega⟩ (hld.opt oo.1) (hld.opt oo.2)) ?_
  rintro _ w153 ⟨z143, L148, R149, B150, q151, G152, rfl, hpk154, hok155, hpx156, hlo157, hx158, hpl144, hpd145, hqn146, hcm147⟩
  refine ⟨_, rfl, ?_⟩
  have hX159 := hX138.trans hx158 hpin47
  have ho160 := ho141.extS hx158 hnp50
  have hnp161 := NP.call hnp50 hlo157 (xW ho141)
  have hpin162 := PIn.call hpin47 hlo157 hX138.size
  have hql163 := hpx156.len
  have hml164 : (q151.ns.map Nd.l).length = q151.ns.length ∧ (q151.ns.map Nd.r).length = q151.ns.length := ⟨List.length_map .., List.length_map ..⟩
  have hml165 : q151.bs.length = q151.ns.length ∧ q151.ns.length ≤ 1048576 := ⟨hok155.ar.ok.len, hok155.ar.ok.lim⟩
  refine ⟨fun _ => (Pins.of_le hX159.pins (Pin.le_trans (Pin.le_trans hle131 hle139) hx158.le)), ?_⟩
  refine zV (i := 11) (by kernel_rfl) (yD (i := 11) rfl rfl rfl (zG rfl _) (yQ (E := eInt) (e := 3) [(.int .i64 z143)] [z143] Tryz.underlying65 sz3 zr3 (by exact xL (by rfl)) (xA (by rfl)) rfl rfl rfl rfl (by decide) hX159.pins (fun u166 w167 ho168 hp169 hl170 hk171 => ?_)))
  have hX172 := hX159.step hp169 hl170
  have ho173 := ho160.below hl170
  have hpk174 := hpk154.below hl170 hp169
  have ho181 : Own eInt 3 G152 w167 w.heap.size u166 ([z143]) := ho168.weaken hX159.size
  refine ⟨fun _ => (Pins.of_le hX172.pins (Pin.le_trans (Pin.le_trans hle131 hle139) hx158.le)), ?_⟩
  refine zV (i := 12) (by kernel_rfl) (yD (i := 12) rfl rfl rfl (zG rfl _) (zX (E := eInt) (v := at_) (u := u166) 8 Tryz.underlying65 ap3 (by decide) rfl rfl hX172.pins ho173 ho181.src (by first | omega | (rw [List.nil_append]; omega) | (rw [List.length_nil]; omega) | (rw [List.length_append]; omega) | (simp; done) | (simp; omega) | (simp only [List.length_append, List.length_cons, List.length_nil]; omega)) (by first | omega | (rw [List.nil_append]; omega) | (rw [List.length_nil]; omega) | (rw [List.length_append]; omega) | (simp; done) | (simp; omega) | (simp only [List.length_append, List.length_cons, List.length_nil]; omega)) (hX172.size) (fun u182 w183 ho184 hp185 hg186 hw187 => ?_)))
  have hX188 := hX172.write hp185 hg186 ((yG ho173))
  have hpk190 := hpk174.kept hg186 hp185 hnp161
  have hnp192 := qP hnp161 hpk174 hw187
  have hm193 : (ats ++ ([z143])).length = ats.length + 1 := List.length_append
  refine ⟨fun _ => (Pins.of_le hX188.pins (Pin.le_trans (Pin.le_trans hle131 hle139) hx158.le)), ?_⟩
  refine dT (i := 13) rfl rfl (by kernel_rfl) (fun _ _ => zC (v := u182) rfl) (Pins.of_le hX188.pins (Pin.le_trans (Pin.le_trans hle131 hle139) hx158.le)) ?_
  refine yT (by kernel_rfl) ?_
  refine yC ?_
  refine zB (zF ?_)
  refine qD rfl (yJ rfl rfl (by omega)) ?_
  refine qD rfl (zA (v := (.int .i64 ((k4 : Int) + 1))) rfl) ?_
  refine qe ?_
  refine yA ?_
  refine ⟨_, ?_, _, rfl, _, k4 + 1, u182, ats ++ ([z143]), L148, R149, B150, q151, G152, (zD (x := 15) (zD (x := 14) (zD (x := 13) (zD (x := 5) (zD (x := 4) (zR (x := 0) rfl) rfl) rfl) rfl) rfl) rfl), rfl, hX188, (Pin.le_trans (Pin.le_trans (Pin.le_trans (Pin.le_trans hlek41 hle87) hle131) hle139) hx158.le), (by omega), (hld.step hf (by omega) hok48 hok155 hpx156 hpl144 hpd145 hqn146), ho184, hpk190, hpin162, hok155, (PX.trans hpx49 hpx156), hnp192⟩
  omega
 refine wp_exit ?_
 refine zZ ?_
 refine yK ?_
 refine yI ?_
 refine zB (zE (zF ?_))
 refine qD rfl (zA (v := at_) rfl) ?_
 refine qD rfl (zC (v := at_) rfl) ?_
 refine qe (zB ?_)
 refine wp_ret ?_
 refine zW ?_
 refine zS (v := at_) rfl rfl rfl ?_
 have hkf : k4 = fs.length := by omega
 rw [hkf] at hld
 exact ⟨at_, ats, L37, R38, B39, q40, GL1, rfl, hpk46, hok48, hpx49, PIn.lo hpin47 rfl, hX44, hw45, hnp50, hld⟩

theorem root_spec {w : World} {G : Pin} {p : Nat} {L R B : Value} {mm : PM} {q : PSt} (hP : Pins G w) (hpk : Pk 65 3 G w p L R B mm q) (hok : PoolOk q) {x : Value} {fs : List Nd} (hx : RSl eNode G x fs) (hf : FormOk fs) (hl : q.ns.length + fs.length ≤ 1048576) (hf1 : 1 ≤ fs.length) :
  Calls Tryz.prog 53 [(.pointer (some ⟨p, 0, none⟩)), (.agg [x].toArray)].toArray w fun e w' => ∃ (z : Int) (L' R' B' : Value) (q' : PSt) (G' : Pin), e = .returned (.int .i64 z) ∧ Pk 65 3 G' w' p L' R' B' mm q' ∧ PoolOk q' ∧ PX q q' ∧ PLo w p L R B mm L' R' B' ∧ Ext (inP p L R B mm) G w G' w' ∧ PlaceOk q' z ∧ pd q' z = gOf fs ∧ q'.ns.length ≤ q.ns.length + fs.length := by
 refine yE (n := 15) Tryz.func53 Tryz.ntmps53 rfl rfl ?_
 have hX0 : Ext (inP p L R B mm) G w G w := Ext.refl hP
 have hpin : PIn w (inP p L R B mm) p L R B mm := PIn.self
 have hml1 : (q.ns.map Nd.l).length = q.ns.length ∧ (q.ns.map Nd.r).length = q.ns.length := ⟨List.length_map .., List.length_map ..⟩
 have hml2 : q.bs.length = q.ns.length ∧ q.ns.length ≤ 1048576 := ⟨hok.ar.ok.len, hok.ar.ok.lim⟩
 have hfl := hf.len
 refine zE (zF ?_)
 refine qI rfl (qC [x] (v := (.agg [x].toArray)) rfl rfl hX0.pins (fun b3 w4 hk5 hb6 hp7 hl8 => ?_))
 have hX9 := hX0.step hp7 hl8
 have hpk10 := hpk.below hl8 hp7
 have ha15 := hpk.new (x := (some b3)) (fun k hk => by rw [(congrArg some hk5)] at hk; cases hk; exact Nat.le_refl _)
 have hlo16 : w.heap.size ≤ b3 := by have := hX0.size; omega
 obtain ⟨G17, hle18, hX19, hbp20, hf21⟩ := hb6.shut hX9 hlo16
 have hpk22 := hpk10.more hle18 hf21 ha15
 refine qD rfl (zC (v := (.int .i64 0)) rfl) ?_
 refine qe (zB (zE (zF ?_)))
 refine qD rfl (zA (v := (.pointer (some ⟨p, 0, none⟩))) rfl) ?_
 refine qD rfl (xN (cs := [x]) ag32 sz32 rfl (fun j u hj => hX19.pins _ _ _ (hbp20 _ _ (by simpa using hj)))) ?_
 refine qI rfl (zN (vs := [(.pointer (some ⟨p, 0, none⟩)), (.agg [x].toArray)]) Tryz.func104 nm104 rfl rfl rfl ?_)
 refine Calls.mono (load_spec hX19.pins hpk22 hok (hx.mono hle18) hf hl) ?_
 rintro _ w29 ⟨u23, ats, L24, R25, B26, q27, G28, rfl, hpk31, hok32, hpx33, hlo34, hx35, ho30, hnp37, hld36⟩
 refine ⟨_, rfl, ?_⟩
 have hX38 := hX19.trans hx35 hpin
 have hpin39 := PIn.call hpin hlo34 hX19.size
 have hql40 := hpx33.len
 have hml41 : (q27.ns.map Nd.l).length = q27.ns.length ∧ (q27.ns.map Nd.r).length = q27.ns.length := ⟨List.length_map .., List.length_map ..⟩
 have hml42 : q27.bs.length = q27.ns.length ∧ q27.ns.length ≤ 1048576 := ⟨hok32.ar.ok.len, hok32.ar.ok.lim⟩
 have ho43 := ho30.weaken hX19.size
 have hll44 := hld36.len
 refine qD rfl (zC (v := u23) rfl) ?_
 refine qe (zB (zE (zF ?_)))
 refine qD rfl (zA (v := u23) rfl) ?_
 refine qD rfl (zA (v := u23) rfl) ?_
 refine qD rfl (zO Tryz.underlying65 (v := u23) rfl ho43.read) ?_
 refine qD rfl (qQ rfl rfl (by omega)) ?_
 refine qD rfl (zK Tryz.underlying65 sz3 (v := u23) rfl rfl ho43.read (by omega) (by omega)) ?_
 refine qD rfl (zI (r := ats.getD ((ats.length : Int) - 1).toNat 0) rfl ag3 (z := ((ats.length : Int) - 1)) rfl ho43.read (Gadd.pins hX38.pins u23) (by omega) (by omega)) ?_
 refine qD rfl (zC (v := (.int .i64 (ats.getD ((ats.length : Int) - 1).toNat 0))) rfl) ?_
 refine qe (zB ?_)
 refine wp_ret ?_
 refine zW ?_
 refine zS (v := (.int .i64 (ats.getD ((ats.length : Int) - 1).toNat 0))) rfl rfl rfl ?_
 have hrt := hld36.root hf1
 rw [show fs.length - 1 = ((ats.length : Int) - 1).toNat by omega] at hrt
 exact ⟨_, L24, R25, B26, q27, G28, rfl, hpk31, hok32, hpx33, PIn.lo hpin39 rfl, hX38, hrt.1, hrt.2, hld36.hi⟩

def GeP (m : Nat) (p : Nat) (L R B : Value) (mm : PM) : Prop := ∀ {w : World} {G : Pin} {q : PSt} {a b : Int} (_ : Pins G w) (_ : Pk 65 3 G w p L R B mm q) (_ : PoolOk q) (_ : PlaceOk q a) (_ : PlaceOk q b), a.toNat + b.toNat < m →
  Calls Tryz.prog 54 [(.pointer (some ⟨p, 0, none⟩)), (.int .i64 a), (.int .i64 b)].toArray w fun e w' => ∃ (q' : PSt) (G' : Pin), e = .returned (.bool (geB q.ns a b)) ∧ Pk 65 3 G' w' p L R B mm q' ∧ PoolOk q' ∧ PX q q' ∧ (q'.ns = q.ns ∧ q'.bs = q.bs) ∧ Ext (inO (some mm.o)) G w G' w'

theorem ge_step {p : Nat} {L R B : Value} {mm : PM} {m : Nat} {w : World} {G : Pin} {q : PSt} {a b : Int} (hP : Pins G w) (hpk : Pk 65 3 G w p L R B mm q) (hok : PoolOk q) (ha : PlaceOk q a) (hb : PlaceOk q b) (ih : GeP m p L R B mm) (hm : a.toNat + b.toNat < m + 1) :
  Calls Tryz.prog 54 [(.pointer (some ⟨p, 0, none⟩)), (.int .i64 a), (.int .i64 b)].toArray w fun e w' => ∃ (q' : PSt) (G' : Pin), e = .returned (.bool (geB q.ns a b)) ∧ Pk 65 3 G' w' p L R B mm q' ∧ PoolOk q' ∧ PX q q' ∧ (q'.ns = q.ns ∧ q'.bs = q.bs) ∧ Ext (inO (some mm.o)) G w G' w' := by
 refine yE (n := 74) Tryz.func54 Tryz.ntmps54 rfl rfl ?_
 have hX0 : Ext (inO (some mm.o)) G w G w := Ext.refl hP
 have hpin : PIn w (inP p L R B mm) p L R B mm := PIn.self
 have hml1 : (q.ns.map Nd.l).length = q.ns.length ∧ (q.ns.map Nd.r).length = q.ns.length := ⟨List.length_map .., List.length_map ..⟩
 have hml2 : q.bs.length = q.ns.length ∧ q.ns.length ≤ 1048576 := ⟨hok.ar.ok.len, hok.ar.ok.lim⟩
 have ha0 := ha.1
 have ha1 := ha.2
 have hb0 := hb.1
 have hb1 := hb.2
 refine zE (zF ?_)
 refine qD rfl (zC (v := (.bool false)) rfl) ?_
 refine qe (zB (zE (zE (zF ?_))))
 refine qD rfl (zA (v := (.int .i64 a)) rfl) ?_
 refine qD rfl (zA (v := (.int .i64 b)) rfl) ?_
 refine qD rfl (r_eql rfl rfl) ?_
 refine qe (zB ?_)
 refine yH (p := (a : Int) = b) rfl rfl (fun h3 => ?_) (fun h3 => ?_)
 ·skip
  refine zE (zF ?_)
  refine qD rfl (zC (v := (.bool true)) rfl) ?_
  refine qe (zB ?_)
  refine wp_ret ?_
  refine zW ?_
  refine zS (v := (.bool true)) rfl rfl rfl ?_
  exact ⟨q, _, congrArg (fun z => Ending.returned (Value.bool z)) (by rw [h3]; exact geB_refl.symm), hpk, hok, (PX.refl _), ⟨rfl, rfl⟩, hX0⟩
 refine wp_skip ?_
 refine zB (zE (zF ?_))
 refine qD rfl (zA (v := (.int .i64 a)) rfl) ?_
 refine qD rfl (zA (v := (.int .i64 b)) rfl) ?_
 refine qD rfl (r_buildA (m := 1) [(.int .i64 0), (.int .i64 0)] [(.int .i64 a), (.int .i64 b)] [(0, (.int .i64 a), [(.int .i64 a)]), (1, (.int .i64 b), [(.int .i64 b)])] Tryz.underlying114 zr114 rfl sz3 rfl (List.forall_mem_cons.2 ⟨rfl, (List.forall_mem_cons.2 ⟨rfl, (fun _ h => by cases h)⟩)⟩) rfl) ?_
 refine qI rfl (xK [(.int .i64 0), (.int .i64 0)] zr114 rfl hX0.pins (fun b4 w5 hk6 hb7 hp8 hl9 => ?_))
 have hX10 := hX0.step hp8 hl9
 have hpk11 := hpk.below hl9 hp8
 have ha16 := hpk.new (x := (some b4)) (fun k hk => by rw [(congrArg some hk6)] at hk; cases hk; exact Nat.le_refl _)
 have hlo17 : w.heap.size ≤ b4 := by have := hX0.size; omega
 refine q0 rfl rfl rfl (xP (cs' := [(.int .i64 a), (.int .i64 b)]) (us := [(.int .i64 a), (.int .i64 b)]) (v := (.agg [(.int .i64 a), (.int .i64 b)].toArray)) sz114 rfl rfl rfl (ones2 (by rfl) (by rfl)) hX10.pins hb7 (Nat.le_of_ble_eq_true rfl) rfl (fun w18 hb19 hp20 hg21 hz22 => ?_))
 have hX23 := hX10.write hp20 hg21 ((xI hlo17))
 have hpk24 := hpk11.kept hg21 hp20 ha16
 obtain ⟨G25, hle26, hX27, hbp28, hf29⟩ := hb19.shut hX23 hlo17
 have hpk30 := hpk24.more hle26 hf29 ha16
 refine qe (zB (zE (zE ?_)))
 refine xE (S := fun wz => BxR wz p [L, R, B, (.map (some mm.f)), (.map (some mm.o)), (.map (some mm.c)), (.map (some mm.s)), (.map (some mm.n))] ∧ Pins G25 wz) (last := 11) (by kernel_rfl) rfl ?_
 have hl31 : Below w18.heap.size w18 w18.drew := (Below.refl _ _).drew
 have hp32 := hX27.pins.below hl31
 have hX33 := hX27.step hp32 hl31
 have hpk34 := hpk30.below hl31 hp32
 refine dT (i := 0) rfl rfl (by kernel_rfl) (fun _ _ => zA (v := (.pointer (some ⟨p, 0, none⟩))) rfl) ⟨hpk34.bx.reads, hX33.pins⟩ ?_
 refine dT (i := 1) rfl rfl (by kernel_rfl) (fun _ _ => yP rfl) ⟨hpk34.bx.reads, hX33.pins⟩ ?_
 refine dT (i := 2) rfl rfl (by kernel_rfl) (fun _ _ => zL (k := 4) rfl Tryz.underlying72 rfl nz68 rfl) ⟨hpk34.bx.reads, hX33.pins⟩ ?_
 refine dT (i := 3) rfl rfl (by kernel_rfl) (fun _ hS => zQ (u := (.map (some mm.o))) ag68 rfl (hS.1 4 _ rfl)) ⟨hpk34.bx.reads, hX33.pins⟩ ?_
 refine dT (i := 4) rfl rfl (by kernel_rfl) (fun _ hS => xN (cs := [(.int .i64 a), (.int .i64 b)]) ag114 sz114 rfl (fun j u hj => hS.2 _ _ _ (hbp28 _ _ (by simpa using hj)))) ⟨hpk34.bx.reads, hX33.pins⟩ ?_
 refine zV (i := 5) (by kernel_rfl) (yD (i := 5) rfl rfl rfl (zG rfl _) (EO.run (run_lookv_bool (k := ((a, b) : Int × Int)) (key_pair Tryz.underlying114 Tryz.underlying3 sz3) Tryz.underlying68 zr4 hpk34.fo rfl rfl) ?_))
 refine ⟨fun _ => ⟨hpk34.bx.reads, hX33.pins⟩, ?_⟩
 refine dT (i := 6) rfl rfl (by kernel_rfl) (fun _ _ => zA (v := (.tuple #[(.bool ((Go.GL.look q.om ((a, b) : Int × Int)).getD false)), (.bool ((Go.GL.look q.om ((a, b) : Int × Int)).isSome))])) rfl) ⟨hpk34.bx.reads, hX33.pins⟩ ?_
 refine dT (i := 7) rfl rfl (by kernel_rfl) (fun _ _ => xS (v := (.bool ((Go.GL.look q.om ((a, b) : Int × Int)).getD false))) rfl rfl) ⟨hpk34.bx.reads, hX33.pins⟩ ?_
 refine dT (i := 8) rfl rfl (by kernel_rfl) (fun _ _ => xS (v := (.bool ((Go.GL.look q.om ((a, b) : Int × Int)).isSome))) rfl rfl) ⟨hpk34.bx.reads, hX33.pins⟩ ?_
 refine dT (i := 9) rfl rfl (by kernel_rfl) (fun _ _ => zC (v := (.bool ((Go.GL.look q.om ((a, b) : Int × Int)).getD false))) rfl) ⟨hpk34.bx.reads, hX33.pins⟩ ?_
 refine dT (i := 10) rfl rfl (by kernel_rfl) (fun _ _ => zC (v := (.bool ((Go.GL.look q.om ((a, b) : Int × Int)).isSome))) rfl) ⟨hpk34.bx.reads, hX33.pins⟩ ?_
 refine yT (by kernel_rfl) ?_
 refine zB (zE (zF ?_))
 refine qD rfl (zA (v := (.bool ((Go.GL.look q.om ((a, b) : Int × Int)).isSome))) rfl) ?_
 refine qe (zB ?_)
 refine c_if rfl rfl (fun h35 => ?_) (fun h35 => ?_)
 ·skip
  refine zE (zF ?_)
  refine qD rfl (zA (v := (.bool ((Go.GL.look q.om ((a, b) : Int × Int)).getD false))) rfl) ?_
  refine qD rfl (zC (v := (.bool ((Go.GL.look q.om ((a, b) : Int × Int)).getD false))) rfl) ?_
  refine qe (zB ?_)
  refine wp_ret ?_
  refine zW ?_
  refine zS (v := (.bool ((Go.GL.look q.om ((a, b) : Int × Int)).getD false))) rfl rfl rfl ?_
  obtain ⟨z, hz⟩ := Option.isSome_iff_exists.1 h35
  exact ⟨q, _, congrArg (fun z => Ending.returned (Value.bool z)) (by rw [hz]; exact (hok.ord _ _ _ hz).2.2), hpk34, hok, (PX.refl _), ⟨rfl, rfl⟩, hX33⟩
 refine wp_skip ?_
 refine zB (zE (zF ?_))
 refine qD rfl (zC (v := (.bool true)) rfl) ?_
 refine qe (zB (zE (zE (zF ?_))))
 refine qD rfl (zA (v := (.pointer (some ⟨p, 0, none⟩))) rfl) ?_
 refine qD rfl (yP rfl) ?_
 refine qD rfl (zL (k := 1) rfl Tryz.underlying72 rfl nz66 rfl) ?_
 refine qD rfl (zQ (u := R) ag66 rfl (hpk34.bx.cell (o := 1) rfl)) ?_
 refine qD rfl (zA (v := (.int .i64 a)) rfl) ?_
 refine qD rfl (zK Tryz.underlying66 sz65 (v := R) rfl rfl hpk34.rr.read (by omega) (by omega)) ?_
 obtain ⟨u36, hr37, hl38⟩ := nm_sl (hpk34.rr.at (z := a) (by omega) (by omega)) (j := (a).toNat) rfl
 rw [mapr_getD] at hr37
 have hm39 := hr37.max
 refine qD rfl (hl38 ag65 rfl (Gadd.pins hX33.pins R)) ?_
 refine qD rfl (zO Tryz.underlying65 (v := u36) rfl hr37) ?_
 refine qD rfl (zA (v := (.int .i64 0)) rfl) ?_
 refine qe (zB ?_)
 refine yB ?_
 have lx44 : (q.ns.getD (a).toNat default).r = (q.ns.getD (a).toNat default).r := rfl
 refine yM (fun (k : Nat) (en : Nat → Value) (W : World) => ∃ (env1 : Nat → Value) (i : Nat) (q43 : PSt) (GLr : Pin), en = (upd (upd (upd (upd (upd (upd (upd (upd (upd env1 0 (.pointer (some ⟨p, 0, none⟩))) 1 (.int .i64 a)) 2 (.int .i64 b)) 6 (.bool false)) 7 (.pointer (some ⟨b4, 0, none⟩))) 10 (.bool true)) 38 u36) 39 (.int .i64 (((q.ns.getD (a).toNat default).r).length : Int))) 40 (.int .i64 (i : Int))) ∧ k = (q.ns.getD (a).toNat default).r.length - i ∧ Ext (inO (some mm.o)) G w GLr W ∧ Pin.le G25 GLr ∧ (i ≤ (q.ns.getD (a).toNat default).r.length) ∧ (∀ x, x < i → geB q.ns b ((q.ns.getD (a).toNat default).r.getD x 0) = false) ∧ (Pk 65 3 GLr W p L R B mm q43) ∧ (PoolOk q43) ∧ (PX q q43) ∧ (q43.ns = q.ns ∧ q43.bs = q.bs)) _ ⟨_, 0, q, G25, (zD (x := 40) (zD (x := 39) (zD (x := 38) (zD (x := 10) (zD (x := 7) (zD (x := 6) (zD (x := 2) (zD (x := 1) (zR (x := 0) rfl) rfl) rfl) rfl) rfl) rfl) rfl) rfl) rfl), rfl, hX33, Pin.le_refl _, Nat.zero_le _, (fun q hq => absurd hq (Nat.not_lt_zero q)), hpk34, hok, (PX.refl _), ⟨rfl, rfl⟩⟩ ?_
 rintro k45 _ w46 ⟨env1, i, q43, GLr, rfl, hk47, hX48, hlek45, hji, hpr, hpk49, hok50, hpx51, hqn52⟩
 have hql53 := hpx51.len
 have hml54 : (q43.ns.map Nd.l).length = q43.ns.length ∧ (q43.ns.map Nd.r).length = q43.ns.length := ⟨List.length_map .., List.length_map ..⟩
 have hml55 : q43.bs.length = q43.ns.length ∧ q43.ns.length ≤ 1048576 := ⟨hok50.ar.ok.len, hok50.ar.ok.lim⟩
 have hlnr := congrArg List.length lx44
 refine zE (zF ?_)
 refine qD rfl (yO rfl rfl) ?_
 refine qe (zB (zE ?_))
 refine yH (p := ((i : Int) : Int) < (((q.ns.getD (a).toNat default).r).length : Int)) rfl rfl (fun h56 => ?_) (fun h56 => ?_)
 ·skip
  have hki := (xG hok.ar.opts (show (a).toNat < q.ns.length by omega)).2 _ (yL (d := (0 : Int)) (show i < (q.ns.getD (a).toNat default).r.length by omega))
  rw [← lx44] at hki
  refine wp_skip ?_
  refine zB (zE ?_)
  refine yB ?_
  refine zE (zF ?_)
  refine qD rfl (zK Tryz.underlying65 sz3 (v := u36) rfl rfl hr37 (by omega) (by omega)) ?_
  refine qD rfl (zI (r := ((q.ns.getD (a).toNat default).r).getD i 0) rfl ag3 (z := (i : Int)) rfl hr37 (Pins.of_le hX48.pins hlek45) (by omega) (by omega)) ?_
  refine qD rfl (zC (v := (.int .i64 (((q.ns.getD (a).toNat default).r).getD i 0))) rfl) ?_
  refine qe (zB (zE (zF ?_)))
  refine qD rfl (zA (v := (.pointer (some ⟨p, 0, none⟩))) rfl) ?_
  refine qD rfl (zA (v := (.int .i64 b)) rfl) ?_
  refine qD rfl (zA (v := (.int .i64 (((q.ns.getD (a).toNat default).r).getD i 0))) rfl) ?_
  refine qI rfl (zN (vs := [(.pointer (some ⟨p, 0, none⟩)), (.int .i64 b), (.int .i64 (((q.ns.getD (a).toNat default).r).getD i 0))]) Tryz.func54 nm54 rfl rfl rfl ?_)
  refine Calls.mono (ih hX48.pins hpk49 hok50 ⟨by omega, by omega⟩ ⟨by omega, by omega⟩ (by omega)) ?_
  rintro _ w59 ⟨q57, G58, rfl, hpk60, hok61, hpx62, hqn63, hx64⟩
  refine ⟨_, rfl, ?_⟩
  have hX65 := hX48.trans hx64 (fun i hi => xQ i hi)
  have hql66 := hpx62.len
  have hml67 : (q57.ns.map Nd.l).length = q57.ns.length ∧ (q57.ns.map Nd.r).length = q57.ns.length := ⟨List.length_map .., List.length_map ..⟩
  have hml68 : q57.bs.length = q57.ns.length ∧ q57.ns.length ≤ 1048576 := ⟨hok61.ar.ok.len, hok61.ar.ok.lim⟩
  have hql69 := congrArg List.length hqn63.1
  refine qe (zB ?_)
  refine c_if rfl rfl (fun h70 => ?_) (fun h70 => ?_)
  ·skip
   refine zE (zF ?_)
   refine qD rfl (zC (v := (.bool false)) rfl) ?_
   refine qe (zB ?_)
   refine wp_exit ?_
   refine s_blkO rfl ?_
   refine zZ ?_
   refine yK ?_
   refine yI ?_
   refine zB (zE (zE (zF ?_)))
   refine qD rfl (zA (v := (.bool false)) rfl) ?_
   refine qe (zB ?_)
   refine xX rfl rfl ?_
   refine wp_skip ?_
   refine zB (zE ?_)
   refine xE (S := fun wz => BxR wz p [L, R, B, (.map (some mm.f)), (.map (some mm.o)), (.map (some mm.c)), (.map (some mm.s)), (.map (some mm.n))] ∧ Pins G58 wz) (last := 6) (by kernel_rfl) rfl ?_
   have hl71 : Below w59.heap.size w59 w59.drew := (Below.refl _ _).drew
   have hp72 := hX65.pins.below hl71
   have hX73 := hX65.step hp72 hl71
   have hpk74 := hpk60.below hl71 hp72
   refine dT (i := 0) rfl rfl (by kernel_rfl) (fun _ _ => zA (v := (.pointer (some ⟨p, 0, none⟩))) rfl) ⟨hpk74.bx.reads, hX73.pins⟩ ?_
   refine dT (i := 1) rfl rfl (by kernel_rfl) (fun _ _ => yP rfl) ⟨hpk74.bx.reads, hX73.pins⟩ ?_
   refine dT (i := 2) rfl rfl (by kernel_rfl) (fun _ _ => zL (k := 4) rfl Tryz.underlying72 rfl nz68 rfl) ⟨hpk74.bx.reads, hX73.pins⟩ ?_
   refine dT (i := 3) rfl rfl (by kernel_rfl) (fun _ hS => zQ (u := (.map (some mm.o))) ag68 rfl (hS.1 4 _ rfl)) ⟨hpk74.bx.reads, hX73.pins⟩ ?_
   refine dT (i := 4) rfl rfl (by kernel_rfl) (fun _ hS => xN (cs := [(.int .i64 a), (.int .i64 b)]) ag114 sz114 rfl (fun j u hj => (Pins.of_le hS.2 (Pin.le_trans hlek45 hx64.le)) _ _ _ (hbp28 _ _ (by simpa using hj)))) ⟨hpk74.bx.reads, hX73.pins⟩ ?_
   refine dT (i := 5) rfl rfl (by kernel_rfl) (fun _ _ => zA (v := (.bool false)) rfl) ⟨hpk74.bx.reads, hX73.pins⟩ ?_
   refine zV (i := 6) (by kernel_rfl) (drOp0 (i := 6) rfl rfl rfl (zG rfl _) (qB (val := (fun v : Bool => Value.bool v)) (k := ((a, b) : Int × Int)) (v := false) (key_pair Tryz.underlying114 Tryz.underlying3 sz3) Tryz.underlying68 rfl rfl rfl hX73.pins hpk74.fo (fun w75 hm76 hp77 hg78 hz79 => ?_)))
   have hX81 := hX73.trans (Ext.one hp77 hg78) (fun i hi => xQ i hi)
   have hpk80 := hpk74.setO (Ext.one hp77 hg78) hm76
   have hgv : geB q.ns a b = false := geB_no_right hok.ar.opts ha (i := i) (by omega) (by rw [← lx44, ← xO hqn52]; exact h70)
   have hok84 := PoolOk.setO hok61 (ha.same (zU hqn52 hqn63)) (hb.same (zU hqn52 hqn63)) (setO_ok (zU hqn52 hqn63) hgv)
   obtain ⟨q82, hq83⟩ : ∃ q, q = ({ q57 with om := putE q57.om ((a, b) : Int × Int) false } : PSt) := ⟨_, rfl⟩
   rw [← hq83] at hpk80 hok84
   have hq83n : q82.ns = q57.ns ∧ q82.bs = q57.bs := by rw [hq83]; exact ⟨rfl, rfl⟩
   have hq83x : PX q57 q82 := by rw [hq83]; exact ⟨Nat.le_refl _, fun _ _ => rfl, fun _ h => h⟩
   have hml85 : (q82.ns.map Nd.l).length = q82.ns.length ∧ (q82.ns.map Nd.r).length = q82.ns.length := ⟨List.length_map .., List.length_map ..⟩
   have hml86 : q82.bs.length = q82.ns.length ∧ q82.ns.length ≤ 1048576 := ⟨hok84.ar.ok.len, hok84.ar.ok.lim⟩
   have hql87 := hq83x.len
   refine ⟨fun h => absurd rfl h, ?_⟩
   refine yT (by kernel_rfl) ?_
   refine zB (zE (zF ?_))
   refine qD rfl (zA (v := (.bool false)) rfl) ?_
   refine qD rfl (zC (v := (.bool false)) rfl) ?_
   refine qe (zB ?_)
   refine wp_ret ?_
   refine zW ?_
   refine zS (v := (.bool false)) rfl rfl rfl ?_
   exact ⟨q82, _, congrArg (fun z => Ending.returned (Value.bool z)) (hgv.symm), hpk80, hok84, (PX.trans (PX.trans hpx51 hpx62) hq83x), (zU (zU hqn52 hqn63) hq83n), hX81⟩
  refine wp_skip ?_
  refine yC ?_
  refine zB (zF ?_)
  refine qD rfl (yJ rfl rfl (by omega)) ?_
  refine qD rfl (zA (v := (.int .i64 ((i : Int) + 1))) rfl) ?_
  refine qe ?_
  refine yA ?_
  refine ⟨_, ?_, _, rfl, _, i + 1, q57, G58, (zD (x := 40) (zD (x := 39) (zD (x := 38) (zD (x := 10) (zD (x := 7) (zD (x := 6) (zD (x := 2) (zD (x := 1) (zR (x := 0) rfl) rfl) rfl) rfl) rfl) rfl) rfl) rfl) rfl), rfl, hX65, (Pin.le_trans hlek45 hx64.le), (by omega), (fun x h2 => if h3 : x = i then h3 ▸ (by rw [← lx44, ← xO hqn52]; exact h70) else hpr x (by omega)), hpk60, hok61, (PX.trans hpx51 hpx62), (zU hqn52 hqn63)⟩
  omega
 refine wp_exit ?_
 refine zZ ?_
 refine yK ?_
 refine yI ?_
 refine zB (zE (zE (zF ?_)))
 refine qD rfl (zA (v := (.bool true)) rfl) ?_
 refine qe (zB ?_)
 refine c_ifT rfl rfl ?_
 refine zE (zF ?_)
 refine qD rfl (zA (v := (.pointer (some ⟨p, 0, none⟩))) rfl) ?_
 refine qD rfl (yP rfl) ?_
 refine qD rfl (zL (k := 0) rfl Tryz.underlying72 rfl nz66 rfl) ?_
 refine qD rfl (zQ (u := L) ag66 rfl (hpk49.bx.cell (o := 0) rfl)) ?_
 refine qD rfl (zA (v := (.int .i64 b)) rfl) ?_
 refine qD rfl (zK Tryz.underlying66 sz65 (v := L) rfl rfl hpk49.ol.read (by omega) (by omega)) ?_
 obtain ⟨u88, hr89, hl90⟩ := nm_sl (hpk49.ol.at (z := b) (by omega) (by omega)) (j := (b).toNat) rfl
 rw [mapl_getD] at hr89
 have hm91 := hr89.max
 refine qD rfl (hl90 ag65 rfl (Gadd.pins hX48.pins L)) ?_
 refine qD rfl (zO Tryz.underlying65 (v := u88) rfl hr89) ?_
 refine qD rfl (zA (v := (.int .i64 0)) rfl) ?_
 refine qe (zB ?_)
 refine yB ?_
 have lx96 : (q43.ns.getD (b).toNat default).l = (q.ns.getD (b).toNat default).l := by rw [hqn52.1]
 refine yM (fun (k : Nat) (en : Nat → Value) (W : World) => ∃ (env1 : Nat → Value) (i2 : Nat) (q95 : PSt) (GLl : Pin), en = (upd (upd (upd (upd (upd (upd (upd (upd env1 0 (.pointer (some ⟨p, 0, none⟩))) 1 (.int .i64 a)) 6 (.bool false)) 7 (.pointer (some ⟨b4, 0, none⟩))) 10 (.bool true)) 56 u88) 57 (.int .i64 (((q43.ns.getD (b).toNat default).l).length : Int))) 58 (.int .i64 (i2 : Int))) ∧ k = (q.ns.getD (b).toNat default).l.length - i2 ∧ Ext (inO (some mm.o)) G w GLl W ∧ Pin.le GLr GLl ∧ (i2 ≤ (q.ns.getD (b).toNat default).l.length) ∧ (∀ x, x < i2 → geB q.ns ((q.ns.getD (b).toNat default).l.getD x 0) a = false) ∧ (Pk 65 3 GLl W p L R B mm q95) ∧ (PoolOk q95) ∧ (PX q43 q95) ∧ (q95.ns = q43.ns ∧ q95.bs = q43.bs)) _ ⟨_, 0, q43, GLr, (zD (x := 58) (zD (x := 57) (zD (x := 56) (zD (x := 10) (zD (x := 7) (zD (x := 6) (zD (x := 1) (zR (x := 0) rfl) rfl) rfl) rfl) rfl) rfl) rfl) rfl), rfl, hX48, Pin.le_refl _, Nat.zero_le _, (fun q hq => absurd hq (Nat.not_lt_zero q)), hpk49, hok50, (PX.refl _), ⟨rfl, rfl⟩⟩ ?_
 rintro k97 _ w98 ⟨env1, i2, q95, GLl, rfl, hk99, hX100, hlek97, hji2, hpl, hpk101, hok102, hpx103, hqn104⟩
 have hql105 := hpx103.len
 have hml106 : (q95.ns.map Nd.l).length = q95.ns.length ∧ (q95.ns.map Nd.r).length = q95.ns.length := ⟨List.length_map .., List.length_map ..⟩
 have hml107 : q95.bs.length = q95.ns.length ∧ q95.ns.length ≤ 1048576 := ⟨hok102.ar.ok.len, hok102.ar.ok.lim⟩
 have hlnl := congrArg List.length lx96
 refine zE (zF ?_)
 refine qD rfl (yO rfl rfl) ?_
 refine qe (zB (zE ?_))
 refine yH (p := ((i2 : Int) : Int) < (((q43.ns.getD (b).toNat default).l).length : Int)) rfl rfl (fun h108 => ?_) (fun h108 => ?_)
 ·skip
  have hki := (xG hok.ar.opts (show (b).toNat < q.ns.length by omega)).1 _ (yL (d := (0 : Int)) (show i2 < (q.ns.getD (b).toNat default).l.length by omega))
  rw [← lx96] at hki
  refine wp_skip ?_
  refine zB (zE ?_)
  refine yB ?_
  refine zE (zF ?_)
  refine qD rfl (zK Tryz.underlying65 sz3 (v := u88) rfl rfl hr89 (by omega) (by omega)) ?_
  refine qD rfl (zI (r := ((q43.ns.getD (b).toNat default).l).getD i2 0) rfl ag3 (z := (i2 : Int)) rfl hr89 (Pins.of_le hX100.pins hlek97) (by omega) (by omega)) ?_
  refine qD rfl (zC (v := (.int .i64 (((q43.ns.getD (b).toNat default).l).getD i2 0))) rfl) ?_
  refine qe (zB (zE (zF ?_)))
  refine qD rfl (zA (v := (.pointer (some ⟨p, 0, none⟩))) rfl) ?_
  refine qD rfl (zA (v := (.int .i64 (((q43.ns.getD (b).toNat default).l).getD i2 0))) rfl) ?_
  refine qD rfl (zA (v := (.int .i64 a)) rfl) ?_
  refine qI rfl (zN (vs := [(.pointer (some ⟨p, 0, none⟩)), (.int .i64 (((q43.ns.getD (b).toNat default).l).getD i2 0)), (.int .i64 a)]) Tryz.func54 nm54 rfl rfl rfl ?_)
  refine Calls.mono (ih hX100.pins hpk101 hok102 ⟨by omega, by omega⟩ ⟨by omega, by omega⟩ (by omega)) ?_
  rintro _ w111 ⟨q109, G110, rfl, hpk112, hok113, hpx114, hqn115, hx116⟩
  refine ⟨_, rfl, ?_⟩
  have hX117 := hX100.trans hx116 (fun i hi => xQ i hi)
  have hql118 := hpx114.len
  have hml119 : (q109.ns.map Nd.l).length = q109.ns.length ∧ (q109.ns.map Nd.r).length = q109.ns.length := ⟨List.length_map .., List.length_map ..⟩
  have hml120 : q109.bs.length = q109.ns.length ∧ q109.ns.length ≤ 1048576 := ⟨hok113.ar.ok.len, hok113.ar.ok.lim⟩
  have hql121 := congrArg List.length hqn115.1
  refine qe (zB ?_)
  refine c_if rfl rfl (fun h122 => ?_) (fun h122 => ?_)
  ·skip
   refine zE (zF ?_)
   refine qD rfl (zC (v := (.bool false)) rfl) ?_
   refine qe (zB ?_)
   refine wp_exit ?_
   refine s_blkO rfl ?_
   refine zZ ?_
   refine yK ?_
   refine yI ?_
   refine zB (zE ?_)
   refine xE (S := fun wz => BxR wz p [L, R, B, (.map (some mm.f)), (.map (some mm.o)), (.map (some mm.c)), (.map (some mm.s)), (.map (some mm.n))] ∧ Pins G110 wz) (last := 6) (by kernel_rfl) rfl ?_
   have hl123 : Below w111.heap.size w111 w111.drew := (Below.refl _ _).drew
   have hp124 := hX117.pins.below hl123
   have hX125 := hX117.step hp124 hl123
   have hpk126 := hpk112.below hl123 hp124
   refine dT (i := 0) rfl rfl (by kernel_rfl) (fun _ _ => zA (v := (.pointer (some ⟨p, 0, none⟩))) rfl) ⟨hpk126.bx.reads, hX125.pins⟩ ?_
   refine dT (i := 1) rfl rfl (by kernel_rfl) (fun _ _ => yP rfl) ⟨hpk126.bx.reads, hX125.pins⟩ ?_
   refine dT (i := 2) rfl rfl (by kernel_rfl) (fun _ _ => zL (k := 4) rfl Tryz.underlying72 rfl nz68 rfl) ⟨hpk126.bx.reads, hX125.pins⟩ ?_
   refine dT (i := 3) rfl rfl (by kernel_rfl) (fun _ hS => zQ (u := (.map (some mm.o))) ag68 rfl (hS.1 4 _ rfl)) ⟨hpk126.bx.reads, hX125.pins⟩ ?_
   refine dT (i := 4) rfl rfl (by kernel_rfl) (fun _ hS => xN (cs := [(.int .i64 a), (.int .i64 b)]) ag114 sz114 rfl (fun j u hj => (Pins.of_le hS.2 (Pin.le_trans (Pin.le_trans hlek45 hlek97) hx116.le)) _ _ _ (hbp28 _ _ (by simpa using hj)))) ⟨hpk126.bx.reads, hX125.pins⟩ ?_
   refine dT (i := 5) rfl rfl (by kernel_rfl) (fun _ _ => zA (v := (.bool false)) rfl) ⟨hpk126.bx.reads, hX125.pins⟩ ?_
   refine zV (i := 6) (by kernel_rfl) (drOp0 (i := 6) rfl rfl rfl (zG rfl _) (qB (val := (fun v : Bool => Value.bool v)) (k := ((a, b) : Int × Int)) (v := false) (key_pair Tryz.underlying114 Tryz.underlying3 sz3) Tryz.underlying68 rfl rfl rfl hX125.pins hpk126.fo (fun w127 hm128 hp129 hg130 hz131 => ?_)))
   have hX133 := hX125.trans (Ext.one hp129 hg130) (fun i hi => xQ i hi)
   have hpk132 := hpk126.setO (Ext.one hp129 hg130) hm128
   have hgv : geB q.ns a b = false := geB_no_left hok.ar.opts hb (i := i2) (by omega) (by rw [← lx96, ← xO (zU hqn52 hqn104)]; exact h122)
   have hok136 := PoolOk.setO hok113 (ha.same (zU (zU hqn52 hqn104) hqn115)) (hb.same (zU (zU hqn52 hqn104) hqn115)) (setO_ok (zU (zU hqn52 hqn104) hqn115) hgv)
   obtain ⟨q134, hq135⟩ : ∃ q, q = ({ q109 with om := putE q109.om ((a, b) : Int × Int) false } : PSt) := ⟨_, rfl⟩
   rw [← hq135] at hpk132 hok136
   have hq135n : q134.ns = q109.ns ∧ q134.bs = q109.bs := by rw [hq135]; exact ⟨rfl, rfl⟩
   have hq135x : PX q109 q134 := by rw [hq135]; exact ⟨Nat.le_refl _, fun _ _ => rfl, fun _ h => h⟩
   have hml137 : (q134.ns.map Nd.l).length = q134.ns.length ∧ (q134.ns.map Nd.r).length = q134.ns.length := ⟨List.length_map .., List.length_map ..⟩
   have hml138 : q134.bs.length = q134.ns.length ∧ q134.ns.length ≤ 1048576 := ⟨hok136.ar.ok.len, hok136.ar.ok.lim⟩
   have hql139 := hq135x.len
   refine ⟨fun h => absurd rfl h, ?_⟩
   refine yT (by kernel_rfl) ?_
   refine zB (zE (zF ?_))
   refine qD rfl (zA (v := (.bool false)) rfl) ?_
   refine qD rfl (zC (v := (.bool false)) rfl) ?_
   refine qe (zB ?_)
   refine wp_ret ?_
   refine zW ?_
   refine zS (v := (.bool false)) rfl rfl rfl ?_
   exact ⟨q134, _, congrArg (fun z => Ending.returned (Value.bool z)) (hgv.symm), hpk132, hok136, (PX.trans (PX.trans (PX.trans hpx51 hpx103) hpx114) hq135x), (zU (zU (zU hqn52 hqn104) hqn115) hq135n), hX133⟩
  refine wp_skip ?_
  refine yC ?_
  refine zB (zF ?_)
  refine qD rfl (yJ rfl rfl (by omega)) ?_
  refine qD rfl (zA (v := (.int .i64 ((i2 : Int) + 1))) rfl) ?_
  refine qe ?_
  refine yA ?_
  refine ⟨_, ?_, _, rfl, _, i2 + 1, q109, G110, (zD (x := 58) (zD (x := 57) (zD (x := 56) (zD (x := 10) (zD (x := 7) (zD (x := 6) (zD (x := 1) (zR (x := 0) rfl) rfl) rfl) rfl) rfl) rfl) rfl) rfl), rfl, hX117, (Pin.le_trans hlek97 hx116.le), (by omega), (fun x h2 => if h3 : x = i2 then h3 ▸ (by rw [← lx96, ← xO (zU hqn52 hqn104)]; exact h122) else hpl x (by omega)), hpk112, hok113, (PX.trans hpx103 hpx114), (zU hqn104 hqn115)⟩
  omega
 refine wp_exit ?_
 refine zZ ?_
 refine yK ?_
 refine yI ?_
 refine zB (zE ?_)
 refine xE (S := fun wz => BxR wz p [L, R, B, (.map (some mm.f)), (.map (some mm.o)), (.map (some mm.c)), (.map (some mm.s)), (.map (some mm.n))] ∧ Pins GLl wz) (last := 6) (by kernel_rfl) rfl ?_
 have hl140 : Below w98.heap.size w98 w98.drew := (Below.refl _ _).drew
 have hp141 := hX100.pins.below hl140
 have hX142 := hX100.step hp141 hl140
 have hpk143 := hpk101.below hl140 hp141
 refine dT (i := 0) rfl rfl (by kernel_rfl) (fun _ _ => zA (v := (.pointer (some ⟨p, 0, none⟩))) rfl) ⟨hpk143.bx.reads, hX142.pins⟩ ?_
 refine dT (i := 1) rfl rfl (by kernel_rfl) (fun _ _ => yP rfl) ⟨hpk143.bx.reads, hX142.pins⟩ ?_
 refine dT (i := 2) rfl rfl (by kernel_rfl) (fun _ _ => zL (k := 4) rfl Tryz.underlying72 rfl nz68 rfl) ⟨hpk143.bx.reads, hX142.pins⟩ ?_
 refine dT (i := 3) rfl rfl (by kernel_rfl) (fun _ hS => zQ (u := (.map (some mm.o))) ag68 rfl (hS.1 4 _ rfl)) ⟨hpk143.bx.reads, hX142.pins⟩ ?_
 refine dT (i := 4) rfl rfl (by kernel_rfl) (fun _ hS => xN (cs := [(.int .i64 a), (.int .i64 b)]) ag114 sz114 rfl (fun j u hj => (Pins.of_le hS.2 (Pin.le_trans hlek45 hlek97)) _ _ _ (hbp28 _ _ (by simpa using hj)))) ⟨hpk143.bx.reads, hX142.pins⟩ ?_
 refine dT (i := 5) rfl rfl (by kernel_rfl) (fun _ _ => zA (v := (.bool true)) rfl) ⟨hpk143.bx.reads, hX142.pins⟩ ?_
 refine zV (i := 6) (by kernel_rfl) (drOp0 (i := 6) rfl rfl rfl (zG rfl _) (qB (val := (fun v : Bool => Value.bool v)) (k := ((a, b) : Int × Int)) (v := true) (key_pair Tryz.underlying114 Tryz.underlying3 sz3) Tryz.underlying68 rfl rfl rfl hX142.pins hpk143.fo (fun w144 hm145 hp146 hg147 hz148 => ?_)))
 have hX150 := hX142.trans (Ext.one hp146 hg147) (fun i hi => xQ i hi)
 have hpk149 := hpk143.setO (Ext.one hp146 hg147) hm145
 have hgv : geB q.ns a b = true := geB_yes hok.ar.opts ha hb (fun i hi => hpr i (by omega)) (fun i hi => hpl i (by omega))
 have hok153 := PoolOk.setO hok102 (ha.same (zU hqn52 hqn104)) (hb.same (zU hqn52 hqn104)) (setO_ok (zU hqn52 hqn104) hgv)
 obtain ⟨q151, hq152⟩ : ∃ q, q = ({ q95 with om := putE q95.om ((a, b) : Int × Int) true } : PSt) := ⟨_, rfl⟩
 rw [← hq152] at hpk149 hok153
 have hq152n : q151.ns = q95.ns ∧ q151.bs = q95.bs := by rw [hq152]; exact ⟨rfl, rfl⟩
 have hq152x : PX q95 q151 := by rw [hq152]; exact ⟨Nat.le_refl _, fun _ _ => rfl, fun _ h => h⟩
 have hml154 : (q151.ns.map Nd.l).length = q151.ns.length ∧ (q151.ns.map Nd.r).length = q151.ns.length := ⟨List.length_map .., List.length_map ..⟩
 have hml155 : q151.bs.length = q151.ns.length ∧ q151.ns.length ≤ 1048576 := ⟨hok153.ar.ok.len, hok153.ar.ok.lim⟩
 have hql156 := hq152x.len
 refine ⟨fun h => absurd rfl h, ?_⟩
 refine yT (by kernel_rfl) ?_
 refine zB (zE (zF ?_))
 refine qD rfl (zA (v := (.bool true)) rfl) ?_
 refine qD rfl (zC (v := (.bool true)) rfl) ?_
 refine qe (zB ?_)
 refine wp_ret ?_
 refine zW ?_
 refine zS (v := (.bool true)) rfl rfl rfl ?_
 exact ⟨q151, _, congrArg (fun z => Ending.returned (Value.bool z)) (hgv.symm), hpk149, hok153, (PX.trans (PX.trans hpx51 hpx103) hq152x), (zU (zU hqn52 hqn104) hq152n), hX150⟩

theorem geP_all {p : Nat} {L R B : Value} {mm : PM} : ∀ m, GeP m p L R B mm
 | 0 => fun _ _ _ _ _ h => absurd h (Nat.not_lt_zero _)
 | m + 1 => fun hP hpk hok ha hb hm => ge_step hP hpk hok ha hb (geP_all m) hm
theorem ge_spec {p : Nat} {L R B : Value} {mm : PM} {w : World} {G : Pin} {q : PSt} {a b : Int} (hP : Pins G w) (hpk : Pk 65 3 G w p L R B mm q) (hok : PoolOk q) (ha : PlaceOk q a) (hb : PlaceOk q b) :
  Calls Tryz.prog 54 [(.pointer (some ⟨p, 0, none⟩)), (.int .i64 a), (.int .i64 b)].toArray w fun e w' => ∃ (q' : PSt) (G' : Pin), e = .returned (.bool (geB q.ns a b)) ∧ Pk 65 3 G' w' p L R B mm q' ∧ PoolOk q' ∧ PX q q' ∧ (q'.ns = q.ns ∧ q'.bs = q.bs) ∧ Ext (inO (some mm.o)) G w G' w' :=
 geP_all _ hP hpk hok ha hb (Nat.lt_succ_self _)

end PL1
end Go.Proofs.YtfnginkcmcfdfaaGreatDoor

set_option maxRecDepth 20000
set_option maxHeartbeats 2000000
namespace Go.Proofs.YtfnginkcmcfdfaaGreatDoor
namespace PA1
open Go.RowKit Go.GL Go.Proofs
end PA1
end Go.Proofs.YtfnginkcmcfdfaaGreatDoor

set_option maxRecDepth 20000
set_option maxHeartbeats 2000000
namespace Go.Proofs.YtfnginkcmcfdfaaGreatDoor
namespace DI1
open Go.RowKit Go.GL Go.Proofs
open Go.Proofs.YtfnginkcmcfdfaaGreatDoor.B1
open Go.Proofs.YtfnginkcmcfdfaaGreatDoor.K1
open Go.Proofs.YtfnginkcmcfdfaaGreatDoor.PO1
open Go.Proofs.YtfnginkcmcfdfaaGreatDoor.PL1





theorem idominated_spec {p : Nat} {L R B : Value} {mm : PM} {w : World} {G : Pin} {q : PSt} {x : Value} {xs : List Int} {lf : Bool} (hP : Pins G w) (hpk : Pk 65 3 G w p L R B mm q) (hok : PoolOk q) (hx : RSl eInt G x xs) (hxl : xs.length ≤ 1048576) (hpl : ∀ i, i < xs.length → PlaceOk q (xs.getD i 0)) :
  Calls Tryz.prog 190 [(.pointer (some ⟨p, 0, none⟩)), x, (.bool lf)].toArray w fun e w' => ∃ (u : Value) (q' : PSt) (G' : Pin), e = .returned u ∧ Own eInt 3 G' w' w.heap.size u (domL (gX q xs) lf xs.length xs.length) ∧ Pk 65 3 G' w' p L R B mm q' ∧ PoolOk q' ∧ PX q q' ∧ (q'.ns = q.ns ∧ q'.bs = q.bs) ∧ Ext (inO (some mm.o)) G w G' w' := by
 refine yE (n := 61) Tryz.func190 Tryz.ntmps190 rfl rfl ?_
 have hX0 : Ext (inO (some mm.o)) G w G w := Ext.refl hP
 have hpin : PIn w (inP p L R B mm) p L R B mm := PIn.self
 have hml1 : (q.ns.map Nd.l).length = q.ns.length ∧ (q.ns.map Nd.r).length = q.ns.length := ⟨List.length_map .., List.length_map ..⟩
 have hml2 : q.bs.length = q.ns.length ∧ q.ns.length ≤ 1048576 := ⟨hok.ar.ok.len, hok.ar.ok.lim⟩
 refine zE (zF ?_)
 refine qD rfl (zC (v := (.slice none 0 0)) rfl) ?_
 refine qe (zB (zE (zF ?_)))
 refine qI rfl (yX (E := eInt) (e := 3) Tryz.underlying65 sz3 hX0.pins (fun u3 w4 ho5 hp6 hl7 hk8 => ?_))
 have hX9 := hX0.step hp6 hl7
 have hpk10 := hpk.below hl7 hp6
 have ha15 := hpk.new (x := u3.ownBlock) (fun k hk => by rw [hk8] at hk; cases hk; exact Nat.le_refl _)
 have ho16 : Own eInt 3 G w4 w.heap.size u3 ([]) := ho5.weaken hX0.size
 refine qD rfl (zC (v := u3) rfl) ?_
 refine qe (zB (zE (zE (zF ?_))))
 refine qD rfl (zA (v := x) rfl) ?_
 refine qD rfl (zO Tryz.underlying65 (v := x) rfl hx) ?_
 refine qD rfl (zA (v := (.int .i64 0)) rfl) ?_
 refine qe (zB ?_)
 refine yB ?_
 refine yM (fun (k : Nat) (en : Nat → Value) (W : World) => ∃ (env1 : Nat → Value) (i : Nat) (ov : Value) (out : List Int) (q20 : PSt) (GL1 : Pin), en = (upd (upd (upd (upd (upd (upd (upd (upd env1 0 (.pointer (some ⟨p, 0, none⟩))) 1 x) 2 (.bool lf)) 6 (.slice none 0 0)) 7 ov) 15 x) 16 (.int .i64 (xs.length : Int))) 17 (.int .i64 (i : Int))) ∧ k = xs.length - i ∧ Ext (inO (some mm.o)) G w GL1 W ∧ Pin.le G GL1 ∧ (i ≤ xs.length) ∧ (out = domL (gX q xs) lf xs.length i) ∧ (Own eInt 3 GL1 W w.heap.size ov (out)) ∧ (Pk 65 3 GL1 W p L R B mm q20) ∧ (PoolOk q20) ∧ (PX q q20) ∧ (q20.ns = q.ns ∧ q20.bs = q.bs) ∧ (NP p L R B mm ov.ownBlock)) _ ⟨_, 0, u3, [], q, G, (zD (x := 17) (zD (x := 16) (zD (x := 15) (zD (x := 7) (zD (x := 6) (zD (x := 2) (zD (x := 1) (zR (x := 0) rfl) rfl) rfl) rfl) rfl) rfl) rfl) rfl), rfl, hX9, Pin.le_refl _, Nat.zero_le _, rfl, ho16, hpk10, hok, (PX.refl _), ⟨rfl, rfl⟩, ha15⟩ ?_
 rintro k21 _ w22 ⟨env1, i, ov, out, q20, GL1, rfl, hk23, hX24, hlek21, hi, hout, hw25, hpk26, hok27, hpx28, hqn29, hnp30⟩
 have hql31 := hpx28.len
 have hml32 : (q20.ns.map Nd.l).length = q20.ns.length ∧ (q20.ns.map Nd.r).length = q20.ns.length := ⟨List.length_map .., List.length_map ..⟩
 have hml33 : q20.bs.length = q20.ns.length ∧ q20.ns.length ≤ 1048576 := ⟨hok27.ar.ok.len, hok27.ar.ok.lim⟩
 have hol : out.length ≤ i := by rw [hout]; exact (dom_len i).1
 refine zE (zF ?_)
 refine qD rfl (yO rfl rfl) ?_
 refine qe (zB (zE ?_))
 refine yH (p := ((i : Int) : Int) < (xs.length : Int)) rfl rfl (fun h34 => ?_) (fun h34 => ?_)
 ·skip
  refine wp_skip ?_
  refine zB (zE ?_)
  refine yB ?_
  refine zE (zF ?_)
  refine qD rfl (zA (v := (.int .i64 (i : Int))) rfl) ?_
  refine qD rfl (zK Tryz.underlying65 sz3 (v := x) rfl rfl hx (by omega) (by omega)) ?_
  refine qD rfl (zI (r := xs.getD i 0) rfl ag3 (z := (i : Int)) rfl hx (Pins.of_le hX24.pins hlek21) (by omega) (by omega)) ?_
  refine qD rfl (zC (v := (.int .i64 (i : Int))) rfl) ?_
  refine qD rfl (zC (v := (.int .i64 (xs.getD i 0))) rfl) ?_
  refine qe (zB (zE (zF ?_)))
  refine qD rfl (zA (v := x) rfl) ?_
  refine qD rfl (zO Tryz.underlying65 (v := x) rfl hx) ?_
  refine qD rfl (zA (v := (.int .i64 0)) rfl) ?_
  refine qe (zB ?_)
  refine yB ?_
  refine yM (fun (k : Nat) (en : Nat → Value) (W : World) => ∃ (env1 : Nat → Value) (j : Nat) (q38 : PSt) (GL2 : Pin), en = (upd (upd (upd (upd (upd (upd (upd (upd (upd (upd (upd (upd (upd env1 0 (.pointer (some ⟨p, 0, none⟩))) 1 x) 2 (.bool lf)) 6 (.slice none 0 0)) 7 ov) 8 (.int .i64 (i : Int))) 9 (.int .i64 (xs.getD i 0))) 15 x) 16 (.int .i64 (xs.length : Int))) 17 (.int .i64 (i : Int))) 22 x) 23 (.int .i64 (xs.length : Int))) 24 (.int .i64 (j : Int))) ∧ k = xs.length - j ∧ Ext (inO (some mm.o)) G w GL2 W ∧ Pin.le GL1 GL2 ∧ (j ≤ xs.length) ∧ (∀ x, x < j → ¬ domP (gX q xs) lf i x) ∧ (Own eInt 3 GL2 W w.heap.size ov (out)) ∧ (Pk 65 3 GL2 W p L R B mm q38) ∧ (PoolOk q38) ∧ (PX q20 q38) ∧ (q38.ns = q20.ns ∧ q38.bs = q20.bs)) _ ⟨_, 0, q20, GL1, (zD (x := 24) (zD (x := 23) (zD (x := 22) (zD (x := 17) (zD (x := 16) (zD (x := 15) (zD (x := 9) (zD (x := 8) (zD (x := 7) (zD (x := 6) (zD (x := 2) (zD (x := 1) (zR (x := 0) rfl) rfl) rfl) rfl) rfl) rfl) rfl) rfl) rfl) rfl) rfl) rfl) rfl), rfl, hX24, Pin.le_refl _, Nat.zero_le _, (fun x h => absurd h (Nat.not_lt_zero x)), hw25, hpk26, hok27, (PX.refl _), ⟨rfl, rfl⟩⟩ ?_
  rintro k39 _ w40 ⟨env1, j, q38, GL2, rfl, hk41, hX42, hlek39, hj, hnd, hw43, hpk44, hok45, hpx46, hqn47⟩
  have hql48 := hpx46.len
  have hml49 : (q38.ns.map Nd.l).length = q38.ns.length ∧ (q38.ns.map Nd.r).length = q38.ns.length := ⟨List.length_map .., List.length_map ..⟩
  have hml50 : q38.bs.length = q38.ns.length ∧ q38.ns.length ≤ 1048576 := ⟨hok45.ar.ok.len, hok45.ar.ok.lim⟩
  refine zE (zF ?_)
  refine qD rfl (yO rfl rfl) ?_
  refine qe (zB (zE ?_))
  refine yH (p := ((j : Int) : Int) < (xs.length : Int)) rfl rfl (fun h51 => ?_) (fun h51 => ?_)
  ·skip
   refine wp_skip ?_
   refine zB (zE ?_)
   refine yB ?_
   refine zE (zF ?_)
   refine qD rfl (zA (v := (.int .i64 (j : Int))) rfl) ?_
   refine qD rfl (zK Tryz.underlying65 sz3 (v := x) rfl rfl hx (by omega) (by omega)) ?_
   refine qD rfl (zI (r := xs.getD j 0) rfl ag3 (z := (j : Int)) rfl hx (Pins.of_le hX42.pins (Pin.le_trans hlek21 hlek39)) (by omega) (by omega)) ?_
   refine qD rfl (zC (v := (.int .i64 (j : Int))) rfl) ?_
   refine qD rfl (zC (v := (.int .i64 (xs.getD j 0))) rfl) ?_
   refine qe (zB (zE (zE (zF ?_))))
   refine qD rfl (zA (v := (.int .i64 (j : Int))) rfl) ?_
   refine qD rfl (zA (v := (.int .i64 (i : Int))) rfl) ?_
   refine qD rfl (r_eql rfl rfl) ?_
   refine qe (zB ?_)
   refine yH (p := ((j : Int) : Int) = (i : Int)) rfl rfl (fun h52 => ?_) (fun h52 => ?_)
   ·skip
    refine wp_exit ?_
    refine zZ ?_
    refine yI ?_
    refine zB (zF ?_)
    refine qD rfl (yJ rfl rfl (by omega)) ?_
    refine qD rfl (zA (v := (.int .i64 ((j : Int) + 1))) rfl) ?_
    refine qe ?_
    refine yA ?_
    refine ⟨_, ?_, _, rfl, _, j + 1, q38, GL2, (zD (x := 24) (zD (x := 23) (zD (x := 22) (zD (x := 17) (zD (x := 16) (zD (x := 15) (zD (x := 9) (zD (x := 8) (zD (x := 7) (zD (x := 6) (zD (x := 2) (zD (x := 1) (zR (x := 0) rfl) rfl) rfl) rfl) rfl) rfl) rfl) rfl) rfl) rfl) rfl) rfl) rfl), rfl, hX42, hlek39, (by omega), (fun x h2 => if h3 : x = j then h3 ▸ (fun p => p.1 h52) else hnd x (by omega)), hw43, hpk44, hok45, hpx46, hqn47⟩
    omega
   refine wp_skip ?_
   refine zB (zE (zF ?_))
   refine qD rfl (zA (v := (.pointer (some ⟨p, 0, none⟩))) rfl) ?_
   refine qD rfl (zA (v := (.int .i64 (xs.getD j 0))) rfl) ?_
   refine qD rfl (zA (v := (.int .i64 (xs.getD i 0))) rfl) ?_
   refine qI rfl (zN (vs := [(.pointer (some ⟨p, 0, none⟩)), (.int .i64 (xs.getD j 0)), (.int .i64 (xs.getD i 0))]) Tryz.func54 nm54 rfl rfl rfl ?_)
   refine Calls.mono (ge_spec hX42.pins hpk44 hok45 ((hpl j (by omega)).same (zU hqn29 hqn47)) ((hpl i (by omega)).same (zU hqn29 hqn47))) ?_
   rintro _ w55 ⟨q53, G54, rfl, hpk56, hok57, hpx58, hqn59, hx60⟩
   refine ⟨_, rfl, ?_⟩
   have hX61 := hX42.trans hx60 (fun i hi => xQ i hi)
   have ho62 := hw43.extS hx60 (notO (NP.ho hnp30))
   have hql63 := hpx58.len
   have hml64 : (q53.ns.map Nd.l).length = q53.ns.length ∧ (q53.ns.map Nd.r).length = q53.ns.length := ⟨List.length_map .., List.length_map ..⟩
   have hml65 : q53.bs.length = q53.ns.length ∧ q53.ns.length ≤ 1048576 := ⟨hok57.ar.ok.len, hok57.ar.ok.lim⟩
   have hql66 := congrArg List.length hqn59.1
   refine qD rfl (zA (v := (.pointer (some ⟨p, 0, none⟩))) rfl) ?_
   refine qD rfl (zA (v := (.int .i64 (xs.getD i 0))) rfl) ?_
   refine qD rfl (zA (v := (.int .i64 (xs.getD j 0))) rfl) ?_
   refine qI rfl (zN (vs := [(.pointer (some ⟨p, 0, none⟩)), (.int .i64 (xs.getD i 0)), (.int .i64 (xs.getD j 0))]) Tryz.func54 nm54 rfl rfl rfl ?_)
   refine Calls.mono (ge_spec hX61.pins hpk56 hok57 ((hpl i (by omega)).same (zU (zU hqn29 hqn47) hqn59)) ((hpl j (by omega)).same (zU (zU hqn29 hqn47) hqn59))) ?_
   rintro _ w69 ⟨q67, G68, rfl, hpk70, hok71, hpx72, hqn73, hx74⟩
   refine ⟨_, rfl, ?_⟩
   have hX75 := hX61.trans hx74 (fun i hi => xQ i hi)
   have ho76 := ho62.extS hx74 (notO (NP.ho hnp30))
   have hql77 := hpx72.len
   have hml78 : (q67.ns.map Nd.l).length = q67.ns.length ∧ (q67.ns.map Nd.r).length = q67.ns.length := ⟨List.length_map .., List.length_map ..⟩
   have hml79 : q67.bs.length = q67.ns.length ∧ q67.ns.length ≤ 1048576 := ⟨hok71.ar.ok.len, hok71.ar.ok.lim⟩
   have hql80 := congrArg List.length hqn73.1
   refine qD rfl (zC (v := (.bool (geB q38.ns (xs.getD j 0) (xs.getD i 0)))) rfl) ?_
   refine qD rfl (zC (v := (.bool (geB q53.ns (xs.getD i 0) (xs.getD j 0)))) rfl) ?_
   refine qe (zB (zE (zE (zF ?_))))
   refine qD rfl (zA (v := (.bool lf)) rfl) ?_
   refine qD rfl (xV rfl) ?_
   refine qe (zB ?_)
   refine c_ifn rfl rfl (fun h81 => ?_) (fun h81 => ?_)
   ·skip
    refine wp_skip ?_
    refine zB (zE (zF ?_))
    refine qD rfl (zA (v := (.bool (geB q38.ns (xs.getD j 0) (xs.getD i 0)))) rfl) ?_
    refine qD rfl (zA (v := (.bool (geB q38.ns (xs.getD j 0) (xs.getD i 0)))) rfl) ?_
    refine qb (t := 45) rfl (fun h82 => ?_) (fun h82 => ?_)
    ·skip
     refine qdg rfl rfl rfl rfl rfl rfl (zA (v := (.bool (geB q53.ns (xs.getD i 0) (xs.getD j 0)))) rfl) ?_
     refine qdg rfl rfl rfl rfl rfl rfl (xV rfl) ?_
     refine qdg rfl rfl rfl rfl rfl rfl (zA (v := (.bool (!(geB q53.ns (xs.getD i 0) (xs.getD j 0))))) rfl) ?_
     refine qbn (t := 48) rfl (fun h83 => ?_) (fun h83 => ?_)
     ·skip
      refine qdg rfl rfl rfl rfl rfl rfl (zA (v := (.int .i64 (j : Int))) rfl) ?_
      refine qdg rfl rfl rfl rfl rfl rfl (zA (v := (.int .i64 (i : Int))) rfl) ?_
      refine qdg rfl rfl rfl rfl rfl rfl (yO rfl rfl) ?_
      refine qdg rfl rfl rfl rfl rfl rfl (yU (v := (.bool (decide (((j : Int) : Int) < (i : Int))))) rfl rfl) ?_
      refine qD rfl (yZ (v := (.bool (decide (((j : Int) : Int) < (i : Int))))) rfl rfl) ?_
      refine qe (zB ?_)
      refine yH (p := ((j : Int) : Int) < (i : Int)) rfl rfl (fun h84 => ?_) (fun h84 => ?_)
      ·skip
       refine zE (zF ?_)
       refine qD rfl (zA (v := ov) rfl) ?_
       refine qD rfl (zA (v := (.int .i64 (i : Int))) rfl) ?_
       refine qI rfl (yQ (E := eInt) (e := 3) [(.int .i64 (i : Int))] [(i : Int)] Tryz.underlying65 sz3 zr3 (by exact xL (by rfl)) (xA (by rfl)) rfl rfl rfl rfl (by decide) hX75.pins (fun u85 w86 ho87 hp88 hl89 hk90 => ?_))
       have hX91 := hX75.step hp88 hl89
       have ho92 := ho76.below hl89
       have hpk93 := hpk70.below hl89 hp88
       have ho100 : Own eInt 3 G68 w86 w.heap.size u85 ([(i : Int)]) := ho87.weaken hX75.size
       refine qI rfl (zX (E := eInt) (v := ov) (u := u85) 8 Tryz.underlying65 ap3 (by decide) rfl rfl hX91.pins ho92 ho100.src (by first | omega | (rw [List.nil_append]; omega) | (rw [List.length_nil]; omega) | (rw [List.length_append]; omega) | (simp; done) | (simp; omega) | (simp only [List.length_append, List.length_cons, List.length_nil]; omega)) (by first | omega | (rw [List.nil_append]; omega) | (rw [List.length_nil]; omega) | (rw [List.length_append]; omega) | (simp; done) | (simp; omega) | (simp only [List.length_append, List.length_cons, List.length_nil]; omega)) (hX91.size) (fun u101 w102 ho103 hp104 hg105 hw106 => ?_))
       have hX107 := hX91.write hp104 hg105 ((yG ho92))
       have hpk109 := hpk93.kept hg105 hp104 hnp30
       have hnp111 := qP hnp30 hpk93 hw106
       have hm112 : (out ++ ([(i : Int)])).length = out.length + 1 := List.length_append
       refine qD rfl (zC (v := u101) rfl) ?_
       refine qe (zB ?_)
       refine wp_exit ?_
       refine s_blkO rfl ?_
       refine zZ ?_
       refine yK ?_
       refine yI ?_
       refine yC ?_
       refine zB (zF ?_)
       refine qD rfl (yJ rfl rfl (by omega)) ?_
       refine qD rfl (zA (v := (.int .i64 ((i : Int) + 1))) rfl) ?_
       refine qe ?_
       refine yA ?_
       refine ⟨_, ?_, _, rfl, _, i + 1, u101, out ++ ([(i : Int)]), q67, G68, (zD (x := 17) (zD (x := 16) (zD (x := 15) (zD (x := 7) (zD (x := 6) (zD (x := 2) (zD (x := 1) (zR (x := 0) rfl) rfl) rfl) rfl) rfl) rfl) rfl) rfl), rfl, hX107, (Pin.le_trans (Pin.le_trans (Pin.le_trans hlek21 hlek39) hx60.le) hx74.le), (by omega), (by rw [dom_hit (g := gX q xs) (lf := lf) (show j < xs.length by omega) ⟨h52, (geD_t h81).2 (decP_true.1 ((xO (zU hqn29 hqn47)).symm.trans h82)), Or.inr h84⟩, hout]), ho103, hpk109, hok71, (PX.trans (PX.trans (PX.trans hpx28 hpx46) hpx58) hpx72), (zU (zU (zU hqn29 hqn47) hqn59) hqn73), hnp111⟩
       omega
      refine wp_skip ?_
      refine yC ?_
      refine zB (zF ?_)
      refine qD rfl (yJ rfl rfl (by omega)) ?_
      refine qD rfl (zA (v := (.int .i64 ((j : Int) + 1))) rfl) ?_
      refine qe ?_
      refine yA ?_
      refine ⟨_, ?_, _, rfl, _, j + 1, q67, G68, (zD (x := 24) (zD (x := 23) (zD (x := 22) (zD (x := 17) (zD (x := 16) (zD (x := 15) (zD (x := 9) (zD (x := 8) (zD (x := 7) (zD (x := 6) (zD (x := 2) (zD (x := 1) (zR (x := 0) rfl) rfl) rfl) rfl) rfl) rfl) rfl) rfl) rfl) rfl) rfl) rfl) rfl), rfl, hX75, (Pin.le_trans (Pin.le_trans hlek39 hx60.le) hx74.le), (by omega), (fun x h2 => if h3 : x = j then h3 ▸ (fun p => p.2.2.elim (fun h => h ((geD_t h81).2 (decP_true.1 ((xO (zU (zU hqn29 hqn47) hqn59)).symm.trans h83)))) h84) else hnd x (by omega)), ho76, hpk70, hok71, (PX.trans (PX.trans hpx46 hpx58) hpx72), (zU (zU hqn47 hqn59) hqn73)⟩
      omega
     refine qs rfl rfl rfl rfl rfl rfl ?_
     refine qs rfl rfl rfl rfl rfl rfl ?_
     refine qs rfl rfl rfl rfl rfl rfl ?_
     refine qdg rfl rfl rfl rfl rfl rfl (yZ (v := (.bool true)) rfl rfl) ?_
     refine qD rfl (yZ (v := (.bool true)) rfl rfl) ?_
     refine qe (zB ?_)
     refine c_ifT rfl rfl ?_
     refine zE (zF ?_)
     refine qD rfl (zA (v := ov) rfl) ?_
     refine qD rfl (zA (v := (.int .i64 (i : Int))) rfl) ?_
     refine qI rfl (yQ (E := eInt) (e := 3) [(.int .i64 (i : Int))] [(i : Int)] Tryz.underlying65 sz3 zr3 (by exact xL (by rfl)) (xA (by rfl)) rfl rfl rfl rfl (by decide) hX75.pins (fun u113 w114 ho115 hp116 hl117 hk118 => ?_))
     have hX119 := hX75.step hp116 hl117
     have ho120 := ho76.below hl117
     have hpk121 := hpk70.below hl117 hp116
     have ho128 : Own eInt 3 G68 w114 w.heap.size u113 ([(i : Int)]) := ho115.weaken hX75.size
     refine qI rfl (zX (E := eInt) (v := ov) (u := u113) 8 Tryz.underlying65 ap3 (by decide) rfl rfl hX119.pins ho120 ho128.src (by first | omega | (rw [List.nil_append]; omega) | (rw [List.length_nil]; omega) | (rw [List.length_append]; omega) | (simp; done) | (simp; omega) | (simp only [List.length_append, List.length_cons, List.length_nil]; omega)) (by first | omega | (rw [List.nil_append]; omega) | (rw [List.length_nil]; omega) | (rw [List.length_append]; omega) | (simp; done) | (simp; omega) | (simp only [List.length_append, List.length_cons, List.length_nil]; omega)) (hX119.size) (fun u129 w130 ho131 hp132 hg133 hw134 => ?_))
     have hX135 := hX119.write hp132 hg133 ((yG ho120))
     have hpk137 := hpk121.kept hg133 hp132 hnp30
     have hnp139 := qP hnp30 hpk121 hw134
     have hm140 : (out ++ ([(i : Int)])).length = out.length + 1 := List.length_append
     refine qD rfl (zC (v := u129) rfl) ?_
     refine qe (zB ?_)
     refine wp_exit ?_
     refine s_blkO rfl ?_
     refine zZ ?_
     refine yK ?_
     refine yI ?_
     refine yC ?_
     refine zB (zF ?_)
     refine qD rfl (yJ rfl rfl (by omega)) ?_
     refine qD rfl (zA (v := (.int .i64 ((i : Int) + 1))) rfl) ?_
     refine qe ?_
     refine yA ?_
     refine ⟨_, ?_, _, rfl, _, i + 1, u129, out ++ ([(i : Int)]), q67, G68, (zD (x := 17) (zD (x := 16) (zD (x := 15) (zD (x := 7) (zD (x := 6) (zD (x := 2) (zD (x := 1) (zR (x := 0) rfl) rfl) rfl) rfl) rfl) rfl) rfl) rfl), rfl, hX135, (Pin.le_trans (Pin.le_trans (Pin.le_trans hlek21 hlek39) hx60.le) hx74.le), (by omega), (by rw [dom_hit (g := gX q xs) (lf := lf) (show j < xs.length by omega) ⟨h52, (geD_t h81).2 (decP_true.1 ((xO (zU hqn29 hqn47)).symm.trans h82)), Or.inl (fun h => (decP_false.1 ((xO (zU (zU hqn29 hqn47) hqn59)).symm.trans h83)) ((geD_t h81).1 h))⟩, hout]), ho131, hpk137, hok71, (PX.trans (PX.trans (PX.trans hpx28 hpx46) hpx58) hpx72), (zU (zU (zU hqn29 hqn47) hqn59) hqn73), hnp139⟩
     omega
    refine qs rfl rfl rfl rfl rfl rfl ?_
    refine qs rfl rfl rfl rfl rfl rfl ?_
    refine qs rfl rfl rfl rfl rfl rfl ?_
    refine qsu rfl rfl rfl rfl rfl ?_
    refine qsu rfl rfl rfl rfl rfl ?_
    refine qsu rfl rfl rfl rfl rfl ?_
    refine qs rfl rfl rfl rfl rfl rfl ?_
    refine qD rfl (yU (v := (.bool false)) rfl rfl) ?_
    refine qe (zB ?_)
    refine xX rfl rfl ?_
    refine wp_skip ?_
    refine yC ?_
    refine zB (zF ?_)
    refine qD rfl (yJ rfl rfl (by omega)) ?_
    refine qD rfl (zA (v := (.int .i64 ((j : Int) + 1))) rfl) ?_
    refine qe ?_
    refine yA ?_
    refine ⟨_, ?_, _, rfl, _, j + 1, q67, G68, (zD (x := 24) (zD (x := 23) (zD (x := 22) (zD (x := 17) (zD (x := 16) (zD (x := 15) (zD (x := 9) (zD (x := 8) (zD (x := 7) (zD (x := 6) (zD (x := 2) (zD (x := 1) (zR (x := 0) rfl) rfl) rfl) rfl) rfl) rfl) rfl) rfl) rfl) rfl) rfl) rfl) rfl), rfl, hX75, (Pin.le_trans (Pin.le_trans hlek39 hx60.le) hx74.le), (by omega), (fun x h2 => if h3 : x = j then h3 ▸ (fun p => (decP_false.1 ((xO (zU hqn29 hqn47)).symm.trans h82)) ((geD_t h81).1 p.2.1)) else hnd x (by omega)), ho76, hpk70, hok71, (PX.trans (PX.trans hpx46 hpx58) hpx72), (zU (zU hqn47 hqn59) hqn73)⟩
    omega
   refine zF ?_
   refine qD rfl (zA (v := (.bool (geB q53.ns (xs.getD i 0) (xs.getD j 0)))) rfl) ?_
   refine qD rfl (zA (v := (.bool (geB q38.ns (xs.getD j 0) (xs.getD i 0)))) rfl) ?_
   refine qD rfl (zC (v := (.bool (geB q53.ns (xs.getD i 0) (xs.getD j 0)))) rfl) ?_
   refine qD rfl (zC (v := (.bool (geB q38.ns (xs.getD j 0) (xs.getD i 0)))) rfl) ?_
   refine qe (zB (zE (zF ?_)))
   refine qD rfl (zA (v := (.bool (geB q53.ns (xs.getD i 0) (xs.getD j 0)))) rfl) ?_
   refine qD rfl (zA (v := (.bool (geB q53.ns (xs.getD i 0) (xs.getD j 0)))) rfl) ?_
   refine qb (t := 45) rfl (fun h141 => ?_) (fun h141 => ?_)
   ·skip
    refine qdg rfl rfl rfl rfl rfl rfl (zA (v := (.bool (geB q38.ns (xs.getD j 0) (xs.getD i 0)))) rfl) ?_
    refine qdg rfl rfl rfl rfl rfl rfl (xV rfl) ?_
    refine qdg rfl rfl rfl rfl rfl rfl (zA (v := (.bool (!(geB q38.ns (xs.getD j 0) (xs.getD i 0))))) rfl) ?_
    refine qbn (t := 48) rfl (fun h142 => ?_) (fun h142 => ?_)
    ·skip
     refine qdg rfl rfl rfl rfl rfl rfl (zA (v := (.int .i64 (j : Int))) rfl) ?_
     refine qdg rfl rfl rfl rfl rfl rfl (zA (v := (.int .i64 (i : Int))) rfl) ?_
     refine qdg rfl rfl rfl rfl rfl rfl (yO rfl rfl) ?_
     refine qdg rfl rfl rfl rfl rfl rfl (yU (v := (.bool (decide (((j : Int) : Int) < (i : Int))))) rfl rfl) ?_
     refine qD rfl (yZ (v := (.bool (decide (((j : Int) : Int) < (i : Int))))) rfl rfl) ?_
     refine qe (zB ?_)
     refine yH (p := ((j : Int) : Int) < (i : Int)) rfl rfl (fun h143 => ?_) (fun h143 => ?_)
     ·skip
      refine zE (zF ?_)
      refine qD rfl (zA (v := ov) rfl) ?_
      refine qD rfl (zA (v := (.int .i64 (i : Int))) rfl) ?_
      refine qI rfl (yQ (E := eInt) (e := 3) [(.int .i64 (i : Int))] [(i : Int)] Tryz.underlying65 sz3 zr3 (by exact xL (by rfl)) (xA (by rfl)) rfl rfl rfl rfl (by decide) hX75.pins (fun u144 w145 ho146 hp147 hl148 hk149 => ?_))
      have hX150 := hX75.step hp147 hl148
      have ho151 := ho76.below hl148
      have hpk152 := hpk70.below hl148 hp147
      have ho159 : Own eInt 3 G68 w145 w.heap.size u144 ([(i : Int)]) := ho146.weaken hX75.size
      refine qI rfl (zX (E := eInt) (v := ov) (u := u144) 8 Tryz.underlying65 ap3 (by decide) rfl rfl hX150.pins ho151 ho159.src (by first | omega | (rw [List.nil_append]; omega) | (rw [List.length_nil]; omega) | (rw [List.length_append]; omega) | (simp; done) | (simp; omega) | (simp only [List.length_append, List.length_cons, List.length_nil]; omega)) (by first | omega | (rw [List.nil_append]; omega) | (rw [List.length_nil]; omega) | (rw [List.length_append]; omega) | (simp; done) | (simp; omega) | (simp only [List.length_append, List.length_cons, List.length_nil]; omega)) (hX150.size) (fun u160 w161 ho162 hp163 hg164 hw165 => ?_))
      have hX166 := hX150.write hp163 hg164 ((yG ho151))
      have hpk168 := hpk152.kept hg164 hp163 hnp30
      have hnp170 := qP hnp30 hpk152 hw165
      have hm171 : (out ++ ([(i : Int)])).length = out.length + 1 := List.length_append
      refine qD rfl (zC (v := u160) rfl) ?_
      refine qe (zB ?_)
      refine wp_exit ?_
      refine s_blkO rfl ?_
      refine zZ ?_
      refine yK ?_
      refine yI ?_
      refine yC ?_
      refine zB (zF ?_)
      refine qD rfl (yJ rfl rfl (by omega)) ?_
      refine qD rfl (zA (v := (.int .i64 ((i : Int) + 1))) rfl) ?_
      refine qe ?_
      refine yA ?_
      refine ⟨_, ?_, _, rfl, _, i + 1, u160, out ++ ([(i : Int)]), q67, G68, (zD (x := 17) (zD (x := 16) (zD (x := 15) (zD (x := 7) (zD (x := 6) (zD (x := 2) (zD (x := 1) (zR (x := 0) rfl) rfl) rfl) rfl) rfl) rfl) rfl) rfl), rfl, hX166, (Pin.le_trans (Pin.le_trans (Pin.le_trans hlek21 hlek39) hx60.le) hx74.le), (by omega), (by rw [dom_hit (g := gX q xs) (lf := lf) (show j < xs.length by omega) ⟨h52, (geD_f h81).2 (decP_true.1 ((xO (zU (zU hqn29 hqn47) hqn59)).symm.trans h141)), Or.inr h143⟩, hout]), ho162, hpk168, hok71, (PX.trans (PX.trans (PX.trans hpx28 hpx46) hpx58) hpx72), (zU (zU (zU hqn29 hqn47) hqn59) hqn73), hnp170⟩
      omega
     refine wp_skip ?_
     refine yC ?_
     refine zB (zF ?_)
     refine qD rfl (yJ rfl rfl (by omega)) ?_
     refine qD rfl (zA (v := (.int .i64 ((j : Int) + 1))) rfl) ?_
     refine qe ?_
     refine yA ?_
     refine ⟨_, ?_, _, rfl, _, j + 1, q67, G68, (zD (x := 24) (zD (x := 23) (zD (x := 22) (zD (x := 17) (zD (x := 16) (zD (x := 15) (zD (x := 9) (zD (x := 8) (zD (x := 7) (zD (x := 6) (zD (x := 2) (zD (x := 1) (zR (x := 0) rfl) rfl) rfl) rfl) rfl) rfl) rfl) rfl) rfl) rfl) rfl) rfl) rfl), rfl, hX75, (Pin.le_trans (Pin.le_trans hlek39 hx60.le) hx74.le), (by omega), (fun x h2 => if h3 : x = j then h3 ▸ (fun p => p.2.2.elim (fun h => h ((geD_f h81).2 (decP_true.1 ((xO (zU hqn29 hqn47)).symm.trans h142)))) h143) else hnd x (by omega)), ho76, hpk70, hok71, (PX.trans (PX.trans hpx46 hpx58) hpx72), (zU (zU hqn47 hqn59) hqn73)⟩
     omega
    refine qs rfl rfl rfl rfl rfl rfl ?_
    refine qs rfl rfl rfl rfl rfl rfl ?_
    refine qs rfl rfl rfl rfl rfl rfl ?_
    refine qdg rfl rfl rfl rfl rfl rfl (yZ (v := (.bool true)) rfl rfl) ?_
    refine qD rfl (yZ (v := (.bool true)) rfl rfl) ?_
    refine qe (zB ?_)
    refine c_ifT rfl rfl ?_
    refine zE (zF ?_)
    refine qD rfl (zA (v := ov) rfl) ?_
    refine qD rfl (zA (v := (.int .i64 (i : Int))) rfl) ?_
    refine qI rfl (yQ (E := eInt) (e := 3) [(.int .i64 (i : Int))] [(i : Int)] Tryz.underlying65 sz3 zr3 (by exact xL (by rfl)) (xA (by rfl)) rfl rfl rfl rfl (by decide) hX75.pins (fun u172 w173 ho174 hp175 hl176 hk177 => ?_))
    have hX178 := hX75.step hp175 hl176
    have ho179 := ho76.below hl176
    have hpk180 := hpk70.below hl176 hp175
    have ho187 : Own eInt 3 G68 w173 w.heap.size u172 ([(i : Int)]) := ho174.weaken hX75.size
    refine qI rfl (zX (E := eInt) (v := ov) (u := u172) 8 Tryz.underlying65 ap3 (by decide) rfl rfl hX178.pins ho179 ho187.src (by first | omega | (rw [List.nil_append]; omega) | (rw [List.length_nil]; omega) | (rw [List.length_append]; omega) | (simp; done) | (simp; omega) | (simp only [List.length_append, List.length_cons, List.length_nil]; omega)) (by first | omega | (rw [List.nil_append]; omega) | (rw [List.length_nil]; omega) | (rw [List.length_append]; omega) | (simp; done) | (simp; omega) | (simp only [List.length_append, List.length_cons, List.length_nil]; omega)) (hX178.size) (fun u188 w189 ho190 hp191 hg192 hw193 => ?_))
    have hX194 := hX178.write hp191 hg192 ((yG ho179))
    have hpk196 := hpk180.kept hg192 hp191 hnp30
    have hnp198 := qP hnp30 hpk180 hw193
    have hm199 : (out ++ ([(i : Int)])).length = out.length + 1 := List.length_append
    refine qD rfl (zC (v := u188) rfl) ?_
    refine qe (zB ?_)
    refine wp_exit ?_
    refine s_blkO rfl ?_
    refine zZ ?_
    refine yK ?_
    refine yI ?_
    refine yC ?_
    refine zB (zF ?_)
    refine qD rfl (yJ rfl rfl (by omega)) ?_
    refine qD rfl (zA (v := (.int .i64 ((i : Int) + 1))) rfl) ?_
    refine qe ?_
    refine yA ?_
    refine ⟨_, ?_, _, rfl, _, i + 1, u188, out ++ ([(i : Int)]), q67, G68, (zD (x := 17) (zD (x := 16) (zD (x := 15) (zD (x := 7) (zD (x := 6) (zD (x := 2) (zD (x := 1) (zR (x := 0) rfl) rfl) rfl) rfl) rfl) rfl) rfl) rfl), rfl, hX194, (Pin.le_trans (Pin.le_trans (Pin.le_trans hlek21 hlek39) hx60.le) hx74.le), (by omega), (by rw [dom_hit (g := gX q xs) (lf := lf) (show j < xs.length by omega) ⟨h52, (geD_f h81).2 (decP_true.1 ((xO (zU (zU hqn29 hqn47) hqn59)).symm.trans h141)), Or.inl (fun h => (decP_false.1 ((xO (zU hqn29 hqn47)).symm.trans h142)) ((geD_f h81).1 h))⟩, hout]), ho190, hpk196, hok71, (PX.trans (PX.trans (PX.trans hpx28 hpx46) hpx58) hpx72), (zU (zU (zU hqn29 hqn47) hqn59) hqn73), hnp198⟩
    omega
   refine qs rfl rfl rfl rfl rfl rfl ?_
   refine qs rfl rfl rfl rfl rfl rfl ?_
   refine qs rfl rfl rfl rfl rfl rfl ?_
   refine qsu rfl rfl rfl rfl rfl ?_
   refine qsu rfl rfl rfl rfl rfl ?_
   refine qsu rfl rfl rfl rfl rfl ?_
   refine qs rfl rfl rfl rfl rfl rfl ?_
   refine qD rfl (yU (v := (.bool false)) rfl rfl) ?_
   refine qe (zB ?_)
   refine xX rfl rfl ?_
   refine wp_skip ?_
   refine yC ?_
   refine zB (zF ?_)
   refine qD rfl (yJ rfl rfl (by omega)) ?_
   refine qD rfl (zA (v := (.int .i64 ((j : Int) + 1))) rfl) ?_
   refine qe ?_
   refine yA ?_
   refine ⟨_, ?_, _, rfl, _, j + 1, q67, G68, (zD (x := 24) (zD (x := 23) (zD (x := 22) (zD (x := 17) (zD (x := 16) (zD (x := 15) (zD (x := 9) (zD (x := 8) (zD (x := 7) (zD (x := 6) (zD (x := 2) (zD (x := 1) (zR (x := 0) rfl) rfl) rfl) rfl) rfl) rfl) rfl) rfl) rfl) rfl) rfl) rfl) rfl), rfl, hX75, (Pin.le_trans (Pin.le_trans hlek39 hx60.le) hx74.le), (by omega), (fun x h2 => if h3 : x = j then h3 ▸ (fun p => (decP_false.1 ((xO (zU (zU hqn29 hqn47) hqn59)).symm.trans h141)) ((geD_f h81).1 p.2.1)) else hnd x (by omega)), ho76, hpk70, hok71, (PX.trans (PX.trans hpx46 hpx58) hpx72), (zU (zU hqn47 hqn59) hqn73)⟩
   omega
  refine wp_exit ?_
  refine zZ ?_
  refine yK ?_
  refine yI ?_
  refine yC ?_
  refine zB (zF ?_)
  refine qD rfl (yJ rfl rfl (by omega)) ?_
  refine qD rfl (zA (v := (.int .i64 ((i : Int) + 1))) rfl) ?_
  refine qe ?_
  refine yA ?_
  refine ⟨_, ?_, _, rfl, _, i + 1, ov, out, q38, GL2, (zD (x := 17) (zD (x := 16) (zD (x := 15) (zD (x := 7) (zD (x := 6) (zD (x := 2) (zD (x := 1) (zR (x := 0) rfl) rfl) rfl) rfl) rfl) rfl) rfl) rfl), rfl, hX42, (Pin.le_trans hlek21 hlek39), (by omega), (by rw [dom_miss (fun x h => hnd x (by omega)), hout]), hw43, hpk44, hok45, (PX.trans hpx28 hpx46), (zU hqn29 hqn47), hnp30⟩
  omega
 refine wp_exit ?_
 refine zZ ?_
 refine yK ?_
 refine yI ?_
 refine zB (zE (zF ?_))
 refine qD rfl (zA (v := ov) rfl) ?_
 refine qD rfl (zC (v := ov) rfl) ?_
 refine qe (zB ?_)
 refine wp_ret ?_
 refine zW ?_
 refine zS (v := ov) rfl rfl rfl ?_
 have hin : i = xs.length := by omega
 rw [hin] at hout
 exact ⟨_, q20, _, rfl, (by rw [← hout]; exact hw25), hpk26, hok27, hpx28, hqn29, hX24⟩

end DI1
end Go.Proofs.YtfnginkcmcfdfaaGreatDoor

set_option maxRecDepth 20000
set_option maxHeartbeats 2000000
namespace Go.Proofs.YtfnginkcmcfdfaaGreatDoor
namespace RI1
open Go.RowKit Go.GL Go.Proofs
open Go.Proofs.YtfnginkcmcfdfaaGreatDoor.B1
open Go.Proofs.YtfnginkcmcfdfaaGreatDoor.K1
open Go.Proofs.YtfnginkcmcfdfaaGreatDoor.PO1
open Go.Proofs.YtfnginkcmcfdfaaGreatDoor.PL1



theorem through_spec {p : Nat} {L R B : Value} {mm : PM} {w : World} {G : Pin} {q : PSt} {f c : Int} {x : Value} {xs : List Int} {lf : Bool} (hP : Pins G w) (hpk : Pk 65 3 G w p L R B mm q) (hok : PoolOk q) (hf : PlaceOk q f) (hc : PlaceOk q c) (hx : RSl eInt G x xs) (hxs : xs = (if lf = true then (q.ns.getD (c).toNat default).r else (q.ns.getD (c).toNat default).l)) (hxp : ∀ z ∈ xs, PlaceOk q z) :
  Calls Tryz.prog 188 [(.pointer (some ⟨p, 0, none⟩)), (.int .i64 f), (.int .i64 c), (.bool lf), x].toArray w fun e w' => ∃ (t : Int) (q' : PSt) (G' : Pin), e = .returned (.int .i64 t) ∧ thrP q.ns lf f c t ∧ Pk 65 3 G' w' p L R B mm q' ∧ PoolOk q' ∧ PX q q' ∧ (q'.ns = q.ns ∧ q'.bs = q.bs) ∧ Ext (inO (some mm.o)) G w G' w' := by
 refine yE (n := 38) Tryz.func188 Tryz.ntmps188 rfl rfl ?_
 have hX0 : Ext (inO (some mm.o)) G w G w := Ext.refl hP
 have hpin : PIn w (inP p L R B mm) p L R B mm := PIn.self
 have hml1 : (q.ns.map Nd.l).length = q.ns.length ∧ (q.ns.map Nd.r).length = q.ns.length := ⟨List.length_map .., List.length_map ..⟩
 have hml2 : q.bs.length = q.ns.length ∧ q.ns.length ≤ 1048576 := ⟨hok.ar.ok.len, hok.ar.ok.lim⟩
 have hm := hx.max
 refine zE (zF ?_)
 refine qD rfl (zC (v := (.int .i64 0)) rfl) ?_
 refine qe (zB (zE (zE (zF ?_))))
 refine qD rfl (zA (v := x) rfl) ?_
 refine qD rfl (zO Tryz.underlying65 (v := x) rfl hx) ?_
 refine qD rfl (zA (v := (.int .i64 0)) rfl) ?_
 refine qe (zB ?_)
 refine yB ?_
 refine yM (fun (k : Nat) (en : Nat → Value) (W : World) => ∃ (env1 : Nat → Value) (i : Nat) (q6 : PSt) (GL1 : Pin), en = (upd (upd (upd (upd (upd (upd env1 0 (.pointer (some ⟨p, 0, none⟩))) 1 (.int .i64 f)) 3 (.bool lf)) 13 x) 14 (.int .i64 (xs.length : Int))) 15 (.int .i64 (i : Int))) ∧ k = xs.length - i ∧ Ext (inO (some mm.o)) G w GL1 W ∧ Pin.le G GL1 ∧ (i ≤ xs.length) ∧ (lf = true → ∀ x, x < i → geB q.ns f (xs.getD x 0) = false) ∧ (lf = false → ∀ x, x < i → geB q.ns (xs.getD x 0) f = false) ∧ (Pk 65 3 GL1 W p L R B mm q6) ∧ (PoolOk q6) ∧ (PX q q6) ∧ (q6.ns = q.ns ∧ q6.bs = q.bs)) _ ⟨_, 0, q, G, (zD (x := 15) (zD (x := 14) (zD (x := 13) (zD (x := 3) (zD (x := 1) (zR (x := 0) rfl) rfl) rfl) rfl) rfl) rfl), rfl, hX0, Pin.le_refl _, Nat.zero_le _, (fun _ x h => absurd h (Nat.not_lt_zero x)), (fun _ x h => absurd h (Nat.not_lt_zero x)), hpk, hok, (PX.refl _), ⟨rfl, rfl⟩⟩ ?_
 rintro k7 _ w8 ⟨env1, i, q6, GL1, rfl, hk9, hX10, hlek7, hi, hpt, hpf, hpk11, hok12, hpx13, hqn14⟩
 have hql15 := hpx13.len
 have hml16 : (q6.ns.map Nd.l).length = q6.ns.length ∧ (q6.ns.map Nd.r).length = q6.ns.length := ⟨List.length_map .., List.length_map ..⟩
 have hml17 : q6.bs.length = q6.ns.length ∧ q6.ns.length ≤ 1048576 := ⟨hok12.ar.ok.len, hok12.ar.ok.lim⟩
 refine zE (zF ?_)
 refine qD rfl (yO rfl rfl) ?_
 refine qe (zB (zE ?_))
 refine yH (p := ((i : Int) : Int) < (xs.length : Int)) rfl rfl (fun h18 => ?_) (fun h18 => ?_)
 ·skip
  refine wp_skip ?_
  refine zB (zE ?_)
  refine yB ?_
  refine zE (zF ?_)
  refine qD rfl (zK Tryz.underlying65 sz3 (v := x) rfl rfl hx (by omega) (by omega)) ?_
  refine qD rfl (zI (r := xs.getD i 0) rfl ag3 (z := (i : Int)) rfl hx (Pins.of_le hX10.pins hlek7) (by omega) (by omega)) ?_
  refine qD rfl (zC (v := (.int .i64 (xs.getD i 0))) rfl) ?_
  refine qe (zB (zE (zF ?_)))
  refine qD rfl (zA (v := (.bool lf)) rfl) ?_
  refine qD rfl (zA (v := (.bool lf)) rfl) ?_
  refine qb (t := 20) rfl (fun h19 => ?_) (fun h19 => ?_)
  ·skip
   refine qdg rfl rfl rfl rfl rfl rfl (zA (v := (.pointer (some ⟨p, 0, none⟩))) rfl) ?_
   refine qdg rfl rfl rfl rfl rfl rfl (zA (v := (.int .i64 f)) rfl) ?_
   refine qdg rfl rfl rfl rfl rfl rfl (zA (v := (.int .i64 (xs.getD i 0))) rfl) ?_
   refine q1g rfl rfl rfl rfl rfl rfl (zN (vs := [(.pointer (some ⟨p, 0, none⟩)), (.int .i64 f), (.int .i64 (xs.getD i 0))]) Tryz.func54 nm54 rfl rfl rfl ?_)
   refine Calls.mono (ge_spec hX10.pins hpk11 hok12 (hf.same hqn14) ((hxp _ (yL (d := (0 : Int)) (show i < xs.length by omega))).same hqn14)) ?_
   rintro _ w22 ⟨q20, G21, rfl, hpk23, hok24, hpx25, hqn26, hx27⟩
   refine ⟨_, rfl, ?_⟩
   have hX28 := hX10.trans hx27 (fun i hi => xQ i hi)
   have hql29 := hpx25.len
   have hml30 : (q20.ns.map Nd.l).length = q20.ns.length ∧ (q20.ns.map Nd.r).length = q20.ns.length := ⟨List.length_map .., List.length_map ..⟩
   have hml31 : q20.bs.length = q20.ns.length ∧ q20.ns.length ≤ 1048576 := ⟨hok24.ar.ok.len, hok24.ar.ok.lim⟩
   have hql32 := congrArg List.length hqn26.1
   refine qD rfl (yZ (v := (.bool (geB q6.ns f (xs.getD i 0)))) rfl rfl) ?_
   refine qD rfl (zA (v := (.bool (geB q6.ns f (xs.getD i 0)))) rfl) ?_
   refine qb (t := 26) rfl (fun h33 => ?_) (fun h33 => ?_)
   ·skip
    refine qs rfl rfl rfl rfl rfl rfl ?_
    refine qs rfl rfl rfl rfl rfl rfl ?_
    refine qs rfl rfl rfl rfl rfl rfl ?_
    refine qsu rfl rfl rfl rfl rfl ?_
    refine qsu rfl rfl rfl rfl rfl ?_
    refine qsu rfl rfl rfl rfl rfl ?_
    refine qsu rfl rfl rfl rfl rfl ?_
    refine qs rfl rfl rfl rfl rfl rfl ?_
    refine qD rfl (yZ (v := (.bool true)) rfl rfl) ?_
    refine qe (zB ?_)
    refine c_ifT rfl rfl ?_
    refine zE (zF ?_)
    refine qD rfl (zA (v := (.int .i64 (xs.getD i 0))) rfl) ?_
    refine qD rfl (zC (v := (.int .i64 (xs.getD i 0))) rfl) ?_
    refine qe (zB ?_)
    refine wp_ret ?_
    refine zW ?_
    refine zS (v := (.int .i64 (xs.getD i 0))) rfl rfl rfl ?_
    have hmem : xs.getD i 0 ∈ xs := yL (show i < xs.length by omega)
    rw [h19, if_pos rfl] at hxs
    exact ⟨_, q20, _, rfl, thr_hit hok.ar.opts hc (Or.inl ⟨h19, hxs ▸ hmem, ((xO hqn14).symm.trans h33)⟩), hpk23, hok24, (PX.trans hpx13 hpx25), (zU hqn14 hqn26), hX28⟩
   refine qdg rfl rfl rfl rfl rfl rfl (zA (v := (.bool lf)) rfl) ?_
   refine qdg rfl rfl rfl rfl rfl rfl (xV rfl) ?_
   refine qdg rfl rfl rfl rfl rfl rfl (zA (v := (.bool (!lf))) rfl) ?_
   refine qbn (t := 29) rfl (fun h34 => ?_) (fun h34 => ?_)
   ·skip
    refine qs rfl rfl rfl rfl rfl rfl ?_
    refine qs rfl rfl rfl rfl rfl rfl ?_
    refine qs rfl rfl rfl rfl rfl rfl ?_
    refine qs rfl rfl rfl rfl rfl rfl ?_
    refine qdg rfl rfl rfl rfl rfl rfl (yU (v := (.bool false)) rfl rfl) ?_
    refine qD rfl (yU (v := (.bool false)) rfl rfl) ?_
    refine qe (zB ?_)
    refine xX rfl rfl ?_
    refine wp_skip ?_
    refine yC ?_
    refine zB (zF ?_)
    refine qD rfl (yJ rfl rfl (by omega)) ?_
    refine qD rfl (zA (v := (.int .i64 ((i : Int) + 1))) rfl) ?_
    refine qe ?_
    refine yA ?_
    refine ⟨_, ?_, _, rfl, _, i + 1, q20, G21, (zD (x := 15) (zD (x := 14) (zD (x := 13) (zD (x := 3) (zD (x := 1) (zR (x := 0) rfl) rfl) rfl) rfl) rfl) rfl), rfl, hX28, (Pin.le_trans hlek7 hx27.le), (by omega), (fun hl x h2 => if h3 : x = i then h3 ▸ ((xO hqn14).symm.trans h33) else hpt hl x (by omega)), (fun hl => absurd (h19.symm.trans hl) (by decide)), hpk23, hok24, (PX.trans hpx13 hpx25), (zU hqn14 hqn26)⟩
    omega
   refine qdg rfl rfl rfl rfl rfl rfl (zA (v := (.pointer (some ⟨p, 0, none⟩))) rfl) ?_
   refine qdg rfl rfl rfl rfl rfl rfl (zA (v := (.int .i64 (xs.getD i 0))) rfl) ?_
   refine qdg rfl rfl rfl rfl rfl rfl (zA (v := (.int .i64 f)) rfl) ?_
   refine q1g rfl rfl rfl rfl rfl rfl (zN (vs := [(.pointer (some ⟨p, 0, none⟩)), (.int .i64 (xs.getD i 0)), (.int .i64 f)]) Tryz.func54 nm54 rfl rfl rfl ?_)
   refine Calls.mono (ge_spec hX28.pins hpk23 hok24 ((hxp _ (yL (d := (0 : Int)) (show i < xs.length by omega))).same (zU hqn14 hqn26)) (hf.same (zU hqn14 hqn26))) ?_
   rintro _ w37 ⟨q35, G36, rfl, hpk38, hok39, hpx40, hqn41, hx42⟩
   refine ⟨_, rfl, ?_⟩
   have hX43 := hX28.trans hx42 (fun i hi => xQ i hi)
   have hql44 := hpx40.len
   have hml45 : (q35.ns.map Nd.l).length = q35.ns.length ∧ (q35.ns.map Nd.r).length = q35.ns.length := ⟨List.length_map .., List.length_map ..⟩
   have hml46 : q35.bs.length = q35.ns.length ∧ q35.ns.length ≤ 1048576 := ⟨hok39.ar.ok.len, hok39.ar.ok.lim⟩
   have hql47 := congrArg List.length hqn41.1
   refine qdg rfl rfl rfl rfl rfl rfl (yZ (v := (.bool (geB q20.ns (xs.getD i 0) f))) rfl rfl) ?_
   refine qD rfl (yU (v := (.bool (geB q20.ns (xs.getD i 0) f))) rfl rfl) ?_
   refine qe (zB ?_)
   refine c_if rfl rfl (fun h48 => ?_) (fun h48 => ?_)
   ·skip
    refine zE (zF ?_)
    refine qD rfl (zA (v := (.int .i64 (xs.getD i 0))) rfl) ?_
    refine qD rfl (zC (v := (.int .i64 (xs.getD i 0))) rfl) ?_
    refine qe (zB ?_)
    refine wp_ret ?_
    refine zW ?_
    refine zS (v := (.int .i64 (xs.getD i 0))) rfl rfl rfl ?_
    exact (absurd (h34.symm.trans h19) Bool.false_ne_true)
   refine wp_skip ?_
   refine yC ?_
   refine zB (zF ?_)
   refine qD rfl (yJ rfl rfl (by omega)) ?_
   refine qD rfl (zA (v := (.int .i64 ((i : Int) + 1))) rfl) ?_
   refine qe ?_
   refine yA ?_
   refine ⟨_, ?_, _, rfl, _, i + 1, q35, G36, (zD (x := 15) (zD (x := 14) (zD (x := 13) (zD (x := 3) (zD (x := 1) (zR (x := 0) rfl) rfl) rfl) rfl) rfl) rfl), rfl, hX43, (Pin.le_trans (Pin.le_trans hlek7 hx27.le) hx42.le), (by omega), (absurd (h34.symm.trans h19) Bool.false_ne_true), (absurd (h34.symm.trans h19) Bool.false_ne_true), hpk38, hok39, (PX.trans (PX.trans hpx13 hpx25) hpx40), (zU (zU hqn14 hqn26) hqn41)⟩
   omega
  refine qs rfl rfl rfl rfl rfl rfl ?_
  refine qs rfl rfl rfl rfl rfl rfl ?_
  refine qs rfl rfl rfl rfl rfl rfl ?_
  refine qs rfl rfl rfl rfl rfl rfl ?_
  refine qD rfl (yU (v := (.bool false)) rfl rfl) ?_
  refine qD rfl (zA (v := (.bool false)) rfl) ?_
  refine qdg rfl rfl rfl rfl rfl rfl (zA (v := (.bool lf)) rfl) ?_
  refine qdg rfl rfl rfl rfl rfl rfl (xV rfl) ?_
  refine qdg rfl rfl rfl rfl rfl rfl (zA (v := (.bool (!lf))) rfl) ?_
  refine qbn (t := 29) rfl (fun h49 => ?_) (fun h49 => ?_)
  ·skip
   refine qs rfl rfl rfl rfl rfl rfl ?_
   refine qs rfl rfl rfl rfl rfl rfl ?_
   refine qs rfl rfl rfl rfl rfl rfl ?_
   refine qs rfl rfl rfl rfl rfl rfl ?_
   refine qdg rfl rfl rfl rfl rfl rfl (yU (v := (.bool false)) rfl rfl) ?_
   refine qD rfl (yU (v := (.bool false)) rfl rfl) ?_
   refine qe (zB ?_)
   refine xX rfl rfl ?_
   refine wp_skip ?_
   refine yC ?_
   refine zB (zF ?_)
   refine qD rfl (yJ rfl rfl (by omega)) ?_
   refine qD rfl (zA (v := (.int .i64 ((i : Int) + 1))) rfl) ?_
   refine qe ?_
   refine yA ?_
   refine ⟨_, ?_, _, rfl, _, i + 1, q6, GL1, (zD (x := 15) (zD (x := 14) (zD (x := 13) (zD (x := 3) (zD (x := 1) (zR (x := 0) rfl) rfl) rfl) rfl) rfl) rfl), rfl, hX10, hlek7, (by omega), (absurd (h19.symm.trans h49) Bool.false_ne_true), (absurd (h19.symm.trans h49) Bool.false_ne_true), hpk11, hok12, hpx13, hqn14⟩
   omega
  refine qdg rfl rfl rfl rfl rfl rfl (zA (v := (.pointer (some ⟨p, 0, none⟩))) rfl) ?_
  refine qdg rfl rfl rfl rfl rfl rfl (zA (v := (.int .i64 (xs.getD i 0))) rfl) ?_
  refine qdg rfl rfl rfl rfl rfl rfl (zA (v := (.int .i64 f)) rfl) ?_
  refine q1g rfl rfl rfl rfl rfl rfl (zN (vs := [(.pointer (some ⟨p, 0, none⟩)), (.int .i64 (xs.getD i 0)), (.int .i64 f)]) Tryz.func54 nm54 rfl rfl rfl ?_)
  refine Calls.mono (ge_spec hX10.pins hpk11 hok12 ((hxp _ (yL (d := (0 : Int)) (show i < xs.length by omega))).same hqn14) (hf.same hqn14)) ?_
  rintro _ w52 ⟨q50, G51, rfl, hpk53, hok54, hpx55, hqn56, hx57⟩
  refine ⟨_, rfl, ?_⟩
  have hX58 := hX10.trans hx57 (fun i hi => xQ i hi)
  have hql59 := hpx55.len
  have hml60 : (q50.ns.map Nd.l).length = q50.ns.length ∧ (q50.ns.map Nd.r).length = q50.ns.length := ⟨List.length_map .., List.length_map ..⟩
  have hml61 : q50.bs.length = q50.ns.length ∧ q50.ns.length ≤ 1048576 := ⟨hok54.ar.ok.len, hok54.ar.ok.lim⟩
  have hql62 := congrArg List.length hqn56.1
  refine qdg rfl rfl rfl rfl rfl rfl (yZ (v := (.bool (geB q6.ns (xs.getD i 0) f))) rfl rfl) ?_
  refine qD rfl (yU (v := (.bool (geB q6.ns (xs.getD i 0) f))) rfl rfl) ?_
  refine qe (zB ?_)
  refine c_if rfl rfl (fun h63 => ?_) (fun h63 => ?_)
  ·skip
   refine zE (zF ?_)
   refine qD rfl (zA (v := (.int .i64 (xs.getD i 0))) rfl) ?_
   refine qD rfl (zC (v := (.int .i64 (xs.getD i 0))) rfl) ?_
   refine qe (zB ?_)
   refine wp_ret ?_
   refine zW ?_
   refine zS (v := (.int .i64 (xs.getD i 0))) rfl rfl rfl ?_
   have hmem : xs.getD i 0 ∈ xs := yL (show i < xs.length by omega)
   rw [h19, if_neg Bool.false_ne_true] at hxs
   exact ⟨_, q50, _, rfl, thr_hit hok.ar.opts hc (Or.inr ⟨h19, hxs ▸ hmem, ((xO hqn14).symm.trans h63)⟩), hpk53, hok54, (PX.trans hpx13 hpx55), (zU hqn14 hqn56), hX58⟩
  refine wp_skip ?_
  refine yC ?_
  refine zB (zF ?_)
  refine qD rfl (yJ rfl rfl (by omega)) ?_
  refine qD rfl (zA (v := (.int .i64 ((i : Int) + 1))) rfl) ?_
  refine qe ?_
  refine yA ?_
  refine ⟨_, ?_, _, rfl, _, i + 1, q50, G51, (zD (x := 15) (zD (x := 14) (zD (x := 13) (zD (x := 3) (zD (x := 1) (zR (x := 0) rfl) rfl) rfl) rfl) rfl) rfl), rfl, hX58, (Pin.le_trans hlek7 hx57.le), (by omega), (fun hl => absurd (h19.symm.trans hl) (by decide)), (fun hl x h2 => if h3 : x = i then h3 ▸ ((xO hqn14).symm.trans h63) else hpf hl x (by omega)), hpk53, hok54, (PX.trans hpx13 hpx55), (zU hqn14 hqn56)⟩
  omega
 refine wp_exit ?_
 refine zZ ?_
 refine yK ?_
 refine yI ?_
 refine zB (zE (zF ?_))
 refine qD rfl (zC (v := (.int .i64 (-1))) rfl) ?_
 refine qe (zB ?_)
 refine wp_ret ?_
 refine zW ?_
 refine zS (v := (.int .i64 (-1))) rfl rfl rfl ?_
 have hii : i = xs.length := by omega
 refine ⟨_, q6, _, rfl, ?_, hpk11, hok12, hpx13, hqn14, hX10⟩
 cases hlf : lf
 ·rw [hlf, if_neg Bool.false_ne_true] at hxs
  exact thr_none_f hok.ar.opts hc (fun k hk => by rw [← hxs] at hk ⊢; exact hpf hlf k (by omega))
 ·rw [hlf, if_pos rfl] at hxs
  exact thr_none_t hok.ar.opts hc (fun k hk => by rw [← hxs] at hk ⊢; exact hpt hlf k (by omega))

end RI1
end Go.Proofs.YtfnginkcmcfdfaaGreatDoor

set_option maxRecDepth 20000
set_option maxHeartbeats 2000000
namespace Go.Proofs.YtfnginkcmcfdfaaGreatDoor
namespace CN1
open Go.RowKit Go.GL Go.Proofs
open Go.Proofs.YtfnginkcmcfdfaaGreatDoor.B1
open Go.Proofs.YtfnginkcmcfdfaaGreatDoor.K1
open Go.Proofs.YtfnginkcmcfdfaaGreatDoor.PO1
open Go.Proofs.YtfnginkcmcfdfaaGreatDoor.PL1
open Go.Proofs.YtfnginkcmcfdfaaGreatDoor.DI1
open Go.Proofs.YtfnginkcmcfdfaaGreatDoor.RI1




theorem without_spec {w : World} {G : Pin} {x y : Value} {xs D : List Int} (hP : Pins G w) (hx : RSl eInt G x xs) (hy : RSl eInt G y D) (hxl : xs.length ≤ 1048576) (hpw : D.Pairwise (· < ·)) (hD0 : ∀ z ∈ D, 0 ≤ z) :
  Calls Tryz.prog 189 [x, y].toArray w fun e w' => ∃ (u : Value) (G' : Pin), e = .returned u ∧ Own eInt 3 G' w' w.heap.size u (woL xs D xs.length) ∧ Ext noS G w G' w' := by
 refine yE (n := 34) Tryz.func189 Tryz.ntmps189 rfl rfl ?_
 have hX0 : Ext noS G w G w := Ext.refl hP
 have hm := hx.max
 have hm2 := hy.max
 refine zE (zF ?_)
 refine qD rfl (zC (v := (.slice none 0 0)) rfl) ?_
 refine qe (zB (zE (zF ?_)))
 refine qI rfl (yX (E := eInt) (e := 3) Tryz.underlying65 sz3 hX0.pins (fun u1 w2 ho3 hp4 hl5 hk6 => ?_))
 have hX7 := hX0.step hp4 hl5
 have ho8 : Own eInt 3 G w2 w.heap.size u1 ([]) := ho3.weaken hX0.size
 refine qD rfl (zC (v := u1) rfl) ?_
 refine qe (zB (zE (zE (zF ?_))))
 refine qD rfl (zA (v := x) rfl) ?_
 refine qD rfl (zO Tryz.underlying65 (v := x) rfl hx) ?_
 refine qD rfl (zA (v := (.int .i64 0)) rfl) ?_
 refine qe (zB ?_)
 refine yB ?_
 refine yM (fun (k : Nat) (en : Nat → Value) (W : World) => ∃ (env1 : Nat → Value) (i : Nat) (pv : Value) (ds : List Int) (ov : Value) (out : List Int) (GL1 : Pin), en = (upd (upd (upd (upd (upd (upd env1 1 pv) 4 (.slice none 0 0)) 5 ov) 9 x) 10 (.int .i64 (xs.length : Int))) 11 (.int .i64 (i : Int))) ∧ k = xs.length - i ∧ Ext noS G w GL1 W ∧ Pin.le G GL1 ∧ (i ≤ xs.length) ∧ (WoOk D ds i) ∧ (out = woL xs D i) ∧ (Own eInt 3 GL1 W w.heap.size ov (out)) ∧ (RSl eInt GL1 pv (ds))) _ ⟨_, 0, y, D, u1, [], G, (zD (x := 11) (zD (x := 10) (zD (x := 9) (zD (x := 5) (zD (x := 4) (zR (x := 1) rfl) rfl) rfl) rfl) rfl) rfl), rfl, hX7, Pin.le_refl _, Nat.zero_le _, (WoOk.start hpw hD0), rfl, ho8, hy⟩ ?_
 rintro k9 _ w10 ⟨env1, i, pv, ds, ov, out, GL1, rfl, hk11, hX12, hlek9, hi, hwo, hout, hw13, hr14⟩
 have hol : out.length ≤ i := by rw [hout]; exact wo_len i
 refine zE (zF ?_)
 refine qD rfl (yO rfl rfl) ?_
 refine qe (zB (zE ?_))
 refine yH (p := ((i : Int) : Int) < (xs.length : Int)) rfl rfl (fun h15 => ?_) (fun h15 => ?_)
 ·skip
  refine wp_skip ?_
  refine zB (zE ?_)
  refine yB ?_
  refine zE (zF ?_)
  refine qD rfl (zA (v := (.int .i64 (i : Int))) rfl) ?_
  refine qD rfl (zK Tryz.underlying65 sz3 (v := x) rfl rfl hx (by omega) (by omega)) ?_
  refine qD rfl (zI (r := xs.getD i 0) rfl ag3 (z := (i : Int)) rfl hx (Pins.of_le hX12.pins hlek9) (by omega) (by omega)) ?_
  refine qD rfl (zC (v := (.int .i64 (i : Int))) rfl) ?_
  refine qD rfl (zC (v := (.int .i64 (xs.getD i 0))) rfl) ?_
  refine qe (zB (zE (zE (zF ?_))))
  refine qD rfl (zA (v := pv) rfl) ?_
  refine qD rfl (zO Tryz.underlying65 (v := pv) rfl hr14) ?_
  refine qD rfl (r_gtr rfl rfl) ?_
  refine qD rfl (zA (v := (.bool (decide ((0 : Int) < (ds.length : Int))))) rfl) ?_
  refine qbd (p := (0 : Int) < (ds.length : Int)) (t := 19) rfl (fun h16 => ?_) (fun h16 => ?_)
  ·skip
   refine qdg rfl rfl rfl rfl rfl rfl (zA (v := pv) rfl) ?_
   refine qdg rfl rfl rfl rfl rfl rfl (zK Tryz.underlying65 sz3 (v := pv) rfl rfl hr14 (by omega) (by omega)) ?_
   refine qdg rfl rfl rfl rfl rfl rfl (zI (r := ds.getD 0 0) rfl ag3 (z := 0) rfl hr14 hX12.pins (by omega) (by omega)) ?_
   refine qdg rfl rfl rfl rfl rfl rfl (zA (v := (.int .i64 (i : Int))) rfl) ?_
   refine qdg rfl rfl rfl rfl rfl rfl (r_eql rfl rfl) ?_
   refine qD rfl (yZ (v := (.bool (decide ((ds.getD 0 0 : Int) = (i : Int))))) rfl rfl) ?_
   refine qe (zB ?_)
   refine yH (p := (ds.getD 0 0 : Int) = (i : Int)) rfl rfl (fun h17 => ?_) (fun h17 => ?_)
   ·skip
    refine zE (zF ?_)
    refine qD rfl (zA (v := pv) rfl) ?_
    obtain ⟨u18, hr19, hl20⟩ := qJ hr14 (lo := (some (1))) (hi := none) (1) (ds.length) (Or.inr ⟨_, rfl, (by omega), rfl⟩) (Or.inl ⟨rfl, rfl⟩) (by omega) (by omega)
    refine qD rfl (hl20 Tryz.underlying65 sz3 rfl rfl rfl) ?_
    refine qD rfl (zC (v := u18) rfl) ?_
    refine qe (zB ?_)
    refine wp_exit ?_
    refine zZ ?_
    refine yI ?_
    refine zB (zF ?_)
    refine qD rfl (yJ rfl rfl (by omega)) ?_
    refine qD rfl (zA (v := (.int .i64 ((i : Int) + 1))) rfl) ?_
    refine qe ?_
    refine yA ?_
    refine ⟨_, ?_, _, rfl, _, i + 1, u18, (ds.take ds.length).drop 1, ov, out, GL1, (zD (x := 11) (zD (x := 10) (zD (x := 9) (zD (x := 5) (zD (x := 4) (zR (x := 1) rfl) rfl) rfl) rfl) rfl) rfl), rfl, hX12, hlek9, (by omega), (by rw [List.take_length]; exact (hwo.hit (by omega) h17).1), (by rw [show woL xs D (i + 1) = woL xs D i from if_pos (hwo.hit (by omega) h17).2, hout]), hw13, hr19⟩
    omega
   refine wp_skip ?_
   refine zB (zF ?_)
   refine qD rfl (zA (v := ov) rfl) ?_
   refine qD rfl (zA (v := (.int .i64 (xs.getD i 0))) rfl) ?_
   refine qI rfl (yQ (E := eInt) (e := 3) [(.int .i64 (xs.getD i 0))] [xs.getD i 0] Tryz.underlying65 sz3 zr3 (by exact xL (by rfl)) (xA (by rfl)) rfl rfl rfl rfl (by decide) hX12.pins (fun u21 w22 ho23 hp24 hl25 hk26 => ?_))
   have hX27 := hX12.step hp24 hl25
   have ho28 := hw13.below hl25
   have ho30 : Own eInt 3 GL1 w22 w.heap.size u21 ([xs.getD i 0]) := ho23.weaken hX12.size
   refine qI rfl (zX (E := eInt) (v := ov) (u := u21) 8 Tryz.underlying65 ap3 (by decide) rfl rfl hX27.pins ho28 ho30.src (by first | omega | (rw [List.nil_append]; omega) | (rw [List.length_nil]; omega) | (rw [List.length_append]; omega) | (simp; done) | (simp; omega) | (simp only [List.length_append, List.length_cons, List.length_nil]; omega)) (by first | omega | (rw [List.nil_append]; omega) | (rw [List.length_nil]; omega) | (rw [List.length_append]; omega) | (simp; done) | (simp; omega) | (simp only [List.length_append, List.length_cons, List.length_nil]; omega)) (hX27.size) (fun u31 w32 ho33 hp34 hg35 hw36 => ?_))
   have hX37 := hX27.write hp34 hg35 ((yG ho28))
   have hm40 : (out ++ ([xs.getD i 0])).length = out.length + 1 := List.length_append
   refine qD rfl (zC (v := u31) rfl) ?_
   refine qe ?_
   refine yC ?_
   refine zB (zF ?_)
   refine qD rfl (yJ rfl rfl (by omega)) ?_
   refine qD rfl (zA (v := (.int .i64 ((i : Int) + 1))) rfl) ?_
   refine qe ?_
   refine yA ?_
   refine ⟨_, ?_, _, rfl, _, i + 1, pv, ds, u31, out ++ ([xs.getD i 0]), GL1, (zD (x := 11) (zD (x := 10) (zD (x := 9) (zD (x := 5) (zD (x := 4) (zR (x := 1) rfl) rfl) rfl) rfl) rfl) rfl), rfl, hX37, hlek9, (by omega), (hwo.miss (Or.inr h17)).1, (by rw [show woL xs D (i + 1) = woL xs D i ++ [xs.getD i 0] from if_neg (hwo.miss (Or.inr h17)).2, hout]), ho33, hr14⟩
   omega
  refine qs rfl rfl rfl rfl rfl rfl ?_
  refine qs rfl rfl rfl rfl rfl rfl ?_
  refine qs rfl rfl rfl rfl rfl rfl ?_
  refine qs rfl rfl rfl rfl rfl rfl ?_
  refine qs rfl rfl rfl rfl rfl rfl ?_
  refine qD rfl (yU (v := (.bool false)) rfl rfl) ?_
  refine qe (zB ?_)
  refine xX rfl rfl ?_
  refine wp_skip ?_
  refine zB (zF ?_)
  refine qD rfl (zA (v := ov) rfl) ?_
  refine qD rfl (zA (v := (.int .i64 (xs.getD i 0))) rfl) ?_
  refine qI rfl (yQ (E := eInt) (e := 3) [(.int .i64 (xs.getD i 0))] [xs.getD i 0] Tryz.underlying65 sz3 zr3 (by exact xL (by rfl)) (xA (by rfl)) rfl rfl rfl rfl (by decide) hX12.pins (fun u41 w42 ho43 hp44 hl45 hk46 => ?_))
  have hX47 := hX12.step hp44 hl45
  have ho48 := hw13.below hl45
  have ho50 : Own eInt 3 GL1 w42 w.heap.size u41 ([xs.getD i 0]) := ho43.weaken hX12.size
  refine qI rfl (zX (E := eInt) (v := ov) (u := u41) 8 Tryz.underlying65 ap3 (by decide) rfl rfl hX47.pins ho48 ho50.src (by first | omega | (rw [List.nil_append]; omega) | (rw [List.length_nil]; omega) | (rw [List.length_append]; omega) | (simp; done) | (simp; omega) | (simp only [List.length_append, List.length_cons, List.length_nil]; omega)) (by first | omega | (rw [List.nil_append]; omega) | (rw [List.length_nil]; omega) | (rw [List.length_append]; omega) | (simp; done) | (simp; omega) | (simp only [List.length_append, List.length_cons, List.length_nil]; omega)) (hX47.size) (fun u51 w52 ho53 hp54 hg55 hw56 => ?_))
  have hX57 := hX47.write hp54 hg55 ((yG ho48))
  have hm60 : (out ++ ([xs.getD i 0])).length = out.length + 1 := List.length_append
  refine qD rfl (zC (v := u51) rfl) ?_
  refine qe ?_
  refine yC ?_
  refine zB (zF ?_)
  refine qD rfl (yJ rfl rfl (by omega)) ?_
  refine qD rfl (zA (v := (.int .i64 ((i : Int) + 1))) rfl) ?_
  refine qe ?_
  refine yA ?_
  refine ⟨_, ?_, _, rfl, _, i + 1, pv, ds, u51, out ++ ([xs.getD i 0]), GL1, (zD (x := 11) (zD (x := 10) (zD (x := 9) (zD (x := 5) (zD (x := 4) (zR (x := 1) rfl) rfl) rfl) rfl) rfl) rfl), rfl, hX57, hlek9, (by omega), (hwo.miss (Or.inl (by omega))).1, (by rw [show woL xs D (i + 1) = woL xs D i ++ [xs.getD i 0] from if_neg (hwo.miss (Or.inl (by omega))).2, hout]), ho53, hr14⟩
  omega
 refine wp_exit ?_
 refine zZ ?_
 refine yK ?_
 refine yI ?_
 refine zB (zE (zF ?_))
 refine qD rfl (zA (v := ov) rfl) ?_
 refine qD rfl (zC (v := ov) rfl) ?_
 refine qe (zB ?_)
 refine wp_ret ?_
 refine zW ?_
 refine zS (v := ov) rfl rfl rfl ?_
 have hin : i = xs.length := by omega
 rw [hin] at hout
 exact ⟨_, _, rfl, (by rw [← hout]; exact hw13), hX12⟩

def CanP (N m p : Nat) (mm : PM) : Prop := ∀ {w : World} {G : Pin} {L R B : Value} {q : PSt} {f : Int} (_ : Pins G w) (_ : Pk 65 3 G w p L R B mm q) (_ : PoolOk q) (_ : PlaceOk q f) (_ : f < (N : Int)) (_ : q.ns.length + unc q N < 1048576), f.toNat < m →
  Calls Tryz.prog 124 [(.pointer (some ⟨p, 0, none⟩)), (.int .i64 f)].toArray w fun e w' => ∃ (z : Int) (L' R' B' : Value) (q' : PSt) (G' : Pin), e = .returned (.int .i64 z) ∧ Pk 65 3 G' w' p L' R' B' mm q' ∧ PoolOk q' ∧ PX q q' ∧ PLo w p L R B mm L' R' B' ∧ Ext (inP p L R B mm) G w G' w' ∧ PlaceOk q' z ∧ CanonG (pd q' z) ∧ eqG (pd q' z) (pd q' f) ∧ q'.ns.length + unc q' N ≤ q.ns.length + unc q N

end CN1
end Go.Proofs.YtfnginkcmcfdfaaGreatDoor

set_option maxRecDepth 20000
set_option maxHeartbeats 2000000
namespace Go.Proofs.YtfnginkcmcfdfaaGreatDoor
namespace CN2
open Go.RowKit Go.GL Go.Proofs
open Go.Proofs.YtfnginkcmcfdfaaGreatDoor.B1
open Go.Proofs.YtfnginkcmcfdfaaGreatDoor.K1
open Go.Proofs.YtfnginkcmcfdfaaGreatDoor.PO1
open Go.Proofs.YtfnginkcmcfdfaaGreatDoor.PL1
open Go.Proofs.YtfnginkcmcfdfaaGreatDoor.DI1
open Go.Proofs.YtfnginkcmcfdfaaGreatDoor.RI1
open Go.Proofs.YtfnginkcmcfdfaaGreatDoor.CN1













theorem reduced_t {w : World} {G : Pin} {L R B : Value} {q : PSt} {f : Int} {p : Nat} {mm : PM} {N m : Nat} (hP : Pins G w) (hpk : Pk 65 3 G w p L R B mm q) (hok : PoolOk q) (hf : PlaceOk q f) (hfN : f < (N : Int)) (hbud : q.ns.length + unc q N < 1048576) (ih : CanP N m p mm) (hm : f.toNat < m + 1) :
  Calls Tryz.prog 154 [(.pointer (some ⟨p, 0, none⟩)), (.int .i64 f), (.bool true)].toArray w fun e w' => ∃ (u : Value) (zs : List Int) (L' R' B' : Value) (q' : PSt) (G' : Pin), e = .returned u ∧ Pk 65 3 G' w' p L' R' B' mm q' ∧ PoolOk q' ∧ PX q q' ∧ PLo w p L R B mm L' R' B' ∧ Ext (inP p L R B mm) G w G' w' ∧ Own eInt 3 G' w' w.heap.size u zs ∧ NP p L' R' B' mm u.ownBlock ∧ ReOk q' true f zs ∧ q'.ns.length + unc q' N ≤ q.ns.length + unc q N := by
 refine yE (n := 120) Tryz.func154 Tryz.ntmps154 rfl rfl ?_
 have hX0 : Ext (inP p L R B mm) G w G w := Ext.refl hP
 have hpin : PIn w (inP p L R B mm) p L R B mm := PIn.self
 have hml1 : (q.ns.map Nd.l).length = q.ns.length ∧ (q.ns.map Nd.r).length = q.ns.length := ⟨List.length_map .., List.length_map ..⟩
 have hml2 : q.bs.length = q.ns.length ∧ q.ns.length ≤ 1048576 := ⟨hok.ar.ok.len, hok.ar.ok.lim⟩
 have hf0 := hf.1
 have hf1 := hf.2
 have hol0 := ol_len hok (lf := true) hf
 have hol1 : (q.ns.getD (f).toNat default).l.length ≤ 1048576 := hol0
 refine zE (zF ?_)
 refine qD rfl (zC (v := (.slice none 0 0)) rfl) ?_
 refine qe (zB (zE (zF ?_)))
 refine qI rfl (yX (E := eInt) (e := 3) Tryz.underlying65 sz3 hX0.pins (fun u3 w4 ho5 hp6 hl7 hk8 => ?_))
 have hX9 := hX0.step hp6 hl7
 have hpk10 := hpk.below hl7 hp6
 have ha15 := hpk.new (x := u3.ownBlock) (fun k hk => by rw [hk8] at hk; cases hk; exact Nat.le_refl _)
 have ho16 : Own eInt 3 G w4 w.heap.size u3 ([]) := ho5.weaken hX0.size
 refine qI rfl (o_makeMap (fun k : Int => Value.int .i64 k) (fun v : Bool => Value.bool v) hX9.pins (fun m17 w18 hk19 hm20 hp21 hl22 => ?_))
 have hX23 := hX9.step hp21 hl22
 have ho24 := ho16.below hl22
 have hpk25 := hpk10.below hl22 hp21
 have hnp26 := hpk10.new (x := some m17) (fun k hk => by cases hk; omega)
 have hlo27 : w.heap.size ≤ m17 := by have := hX9.size; omega
 refine qI rfl (yX (E := eInt) (e := 3) Tryz.underlying65 sz3 hX23.pins (fun u28 w29 ho30 hp31 hl32 hk33 => ?_))
 have hX34 := hX23.step hp31 hl32
 have ho35 := ho24.below hl32
 have hm36 := hm20.below hl32
 have hpk37 := hpk25.below hl32 hp31
 have ha38 : Apart u28.ownBlock u3.ownBlock := zJ hk33 ho24.lt
 have ha43 := hpk25.new (x := u28.ownBlock) (fun k hk => by rw [hk33] at hk; cases hk; exact Nat.le_refl _)
 have ho44 : Own eInt 3 G w29 w.heap.size u28 ([]) := ho30.weaken hX23.size
 refine qD rfl (zC (v := u3) rfl) ?_
 refine qD rfl (zC (v := (.map (some m17))) rfl) ?_
 refine qD rfl (zC (v := u28) rfl) ?_
 refine qe (zB (zE (zF ?_)))
 refine qD rfl (zA (v := (.pointer (some ⟨p, 0, none⟩))) rfl) ?_
 refine qD rfl (yP rfl) ?_
 refine qD rfl (zL (k := 1) rfl Tryz.underlying72 rfl nz66 rfl) ?_
 refine qD rfl (zQ (u := R) ag66 rfl (hpk37.bx.cell (o := 1) rfl)) ?_
 refine qD rfl (zA (v := (.int .i64 f)) rfl) ?_
 refine qD rfl (zK Tryz.underlying66 sz65 (v := R) rfl rfl hpk37.rr.read (by omega) (by omega)) ?_
 obtain ⟨u45, hr46, hl47⟩ := nm_sl (hpk37.rr.at (z := f) (by omega) (by omega)) (j := (f).toNat) rfl
 rw [mapr_getD] at hr46
 have hm48 := hr46.max
 refine qD rfl (hl47 ag65 rfl (Gadd.pins hX34.pins R)) ?_
 refine qD rfl (zC (v := u45) rfl) ?_
 refine qe (zB (zE (zE (zF ?_))))
 refine qD rfl (zA (v := (.bool true)) rfl) ?_
 refine qe (zB ?_)
 refine c_ifT rfl rfl ?_
 refine zF ?_
 refine qD rfl (zA (v := (.pointer (some ⟨p, 0, none⟩))) rfl) ?_
 refine qD rfl (yP rfl) ?_
 refine qD rfl (zL (k := 0) rfl Tryz.underlying72 rfl nz66 rfl) ?_
 refine qD rfl (zQ (u := L) ag66 rfl (hpk37.bx.cell (o := 0) rfl)) ?_
 refine qD rfl (zA (v := (.int .i64 f)) rfl) ?_
 refine qD rfl (zK Tryz.underlying66 sz65 (v := L) rfl rfl hpk37.ol.read (by omega) (by omega)) ?_
 obtain ⟨u49, hr50, hl51⟩ := nm_sl (hpk37.ol.at (z := f) (by omega) (by omega)) (j := (f).toNat) rfl
 rw [mapl_getD] at hr50
 have hm52 := hr50.max
 refine qD rfl (hl51 ag65 rfl (Gadd.pins hX34.pins L)) ?_
 refine qD rfl (zC (v := u49) rfl) ?_
 refine qe (zB (zE (zE (zF ?_))))
 refine qD rfl (zA (v := u49) rfl) ?_
 refine qD rfl (zO Tryz.underlying65 (v := u49) rfl hr50) ?_
 refine qD rfl (zA (v := (.int .i64 0)) rfl) ?_
 refine qe (zB ?_)
 refine yB ?_
 refine yM (fun (k : Nat) (en : Nat → Value) (W : World) => ∃ (env1 : Nat → Value) (j : Nat) (qv : Value) (qs : List Int) (L53 : Value) (R54 : Value) (B55 : Value) (q56 : PSt) (GL1 : Pin), en = (upd (upd (upd (upd (upd (upd (upd (upd (upd (upd env1 0 (.pointer (some ⟨p, 0, none⟩))) 1 (.int .i64 f)) 2 (.bool true)) 6 (.slice none 0 0)) 7 qv) 8 (.map (some m17))) 9 u28) 34 u49) 35 (.int .i64 (((q.ns.getD (f).toNat default).l).length : Int))) 36 (.int .i64 (j : Int))) ∧ k = (q.ns.getD (f).toNat default).l.length - j ∧ Ext (inP p L R B mm) G w GL1 W ∧ Pin.le G GL1 ∧ (j ≤ (q.ns.getD (f).toNat default).l.length) ∧ (QOk q q56 (q.ns.getD (f).toNat default).l qs j) ∧ (q56.ns.length + unc q56 N ≤ q.ns.length + unc q N) ∧ (Own eInt 3 GL1 W w.heap.size qv (qs)) ∧ (Own eInt 3 GL1 W w.heap.size u28 ([])) ∧ (Apart qv.ownBlock u28.ownBlock) ∧ (Mp (fun k : Int => Value.int .i64 k) (fun v : Bool => Value.bool v) W m17 ([])) ∧ (Pk 65 3 GL1 W p L53 R54 B55 mm q56) ∧ (PIn w ((inP p L R B mm)) p L53 R54 B55 mm) ∧ (PoolOk q56) ∧ (PX q q56) ∧ (NP p L53 R54 B55 mm qv.ownBlock) ∧ (NP p L53 R54 B55 mm u28.ownBlock) ∧ (NP p L53 R54 B55 mm (some m17))) _ ⟨_, 0, u3, [], L, R, B, q, G, (zD (x := 36) (zD (x := 35) (zD (x := 34) (zD (x := 9) (zD (x := 8) (zD (x := 7) (zD (x := 6) (zD (x := 2) (zD (x := 1) (zR (x := 0) rfl) rfl) rfl) rfl) rfl) rfl) rfl) rfl) rfl) rfl), rfl, hX34, Pin.le_refl _, Nat.zero_le _, QOk.start, Nat.le_refl _, ho35, ho44, ha38.symm, hm36, hpk37, hpin, hok, (PX.refl _), ha15, ha43, hnp26⟩ ?_
 rintro k57 _ w58 ⟨env1, j, qv, qs, L53, R54, B55, q56, GL1, rfl, hk59, hX60, hlek57, hj, hqo, hbu, hw61, hw62, ha63, hm64, hpk65, hpin66, hok67, hpx68, hnp69, hnp70, hnp71⟩
 have hql72 := hpx68.len
 have hml73 : (q56.ns.map Nd.l).length = q56.ns.length ∧ (q56.ns.map Nd.r).length = q56.ns.length := ⟨List.length_map .., List.length_map ..⟩
 have hml74 : q56.bs.length = q56.ns.length ∧ q56.ns.length ≤ 1048576 := ⟨hok67.ar.ok.len, hok67.ar.ok.lim⟩
 have hql1 := hqo.len
 refine zE (zF ?_)
 refine qD rfl (yO rfl rfl) ?_
 refine qe (zB (zE ?_))
 refine yH (p := ((j : Int) : Int) < (((q.ns.getD (f).toNat default).l).length : Int)) rfl rfl (fun h75 => ?_) (fun h75 => ?_)
 ·skip
  have hmj : (q.ns.getD (f).toNat default).l.getD j 0 ∈ (q.ns.getD (f).toNat default).l := yL (show j < (q.ns.getD (f).toNat default).l.length by omega)
  have hoj := (jB hok hf).1 _ hmj
  have hoj1 := hoj.1
  have hoz := ((xG hok.ar.opts (show (f).toNat < q.ns.length by omega)).1 _ hmj).2
  refine wp_skip ?_
  refine zB (zE ?_)
  refine yB ?_
  refine zE (zF ?_)
  refine qD rfl (zK Tryz.underlying65 sz3 (v := u49) rfl rfl hr50 (by omega) (by omega)) ?_
  refine qD rfl (zI (r := ((q.ns.getD (f).toNat default).l).getD j 0) rfl ag3 (z := (j : Int)) rfl hr50 (Pins.of_le hX60.pins hlek57) (by omega) (by omega)) ?_
  refine qD rfl (zC (v := (.int .i64 (((q.ns.getD (f).toNat default).l).getD j 0))) rfl) ?_
  refine qe (zB (zF ?_))
  refine qD rfl (zA (v := qv) rfl) ?_
  refine qD rfl (zA (v := (.pointer (some ⟨p, 0, none⟩))) rfl) ?_
  refine qD rfl (zA (v := (.int .i64 (((q.ns.getD (f).toNat default).l).getD j 0))) rfl) ?_
  refine qI rfl (zN (vs := [(.pointer (some ⟨p, 0, none⟩)), (.int .i64 (((q.ns.getD (f).toNat default).l).getD j 0))]) Tryz.func124 nm124 rfl rfl rfl ?_)
  refine Calls.mono (ih hX60.pins hpk65 hok67 (hpx68.place hoj) (by omega) (by omega) (by omega)) ?_
  rintro _ w86 ⟨z76, L81, R82, B83, q84, G85, rfl, hpk87, hok88, hpx89, hlo90, hx91, hpl77, hcg78, heq79, hbu80⟩
  refine ⟨_, rfl, ?_⟩
  have hX92 := hX60.trans hx91 hpin66
  have ho93 := hw61.extS hx91 hnp69
  have hnp94 := NP.call hnp69 hlo90 (xW hw61)
  have ho95 := hw62.extS hx91 hnp70
  have hnp96 := NP.call hnp70 hlo90 (xW hw62)
  have hm97 := hm64.extS hx91 (NP.notb hnp71)
  have hnp98 := NP.call hnp71 hlo90 (fun j hj => by cases hj; exact hm64.lt)
  have hpin99 := PIn.call hpin66 hlo90 hX60.size
  have hql100 := hpx89.len
  have hml101 : (q84.ns.map Nd.l).length = q84.ns.length ∧ (q84.ns.map Nd.r).length = q84.ns.length := ⟨List.length_map .., List.length_map ..⟩
  have hml102 : q84.bs.length = q84.ns.length ∧ q84.ns.length ≤ 1048576 := ⟨hok88.ar.ok.len, hok88.ar.ok.lim⟩
  refine qI rfl (yQ (E := eInt) (e := 3) [(.int .i64 z76)] [z76] Tryz.underlying65 sz3 zr3 (by exact xL (by rfl)) (xA (by rfl)) rfl rfl rfl rfl (by decide) hX92.pins (fun u103 w104 ho105 hp106 hl107 hk108 => ?_))
  have hX109 := hX92.step hp106 hl107
  have ho110 := ho93.below hl107
  have ho111 := ho95.below hl107
  have hm112 := hm97.below hl107
  have hpk113 := hpk87.below hl107 hp106
  have ho121 : Own eInt 3 G85 w104 w.heap.size u103 ([z76]) := ho105.weaken hX92.size
  refine qI rfl (zX (E := eInt) (v := qv) (u := u103) 8 Tryz.underlying65 ap3 (by decide) rfl rfl hX109.pins ho110 ho121.src (by first | omega | (rw [List.nil_append]; omega) | (rw [List.length_nil]; omega) | (rw [List.length_append]; omega) | (simp; done) | (simp; omega) | (simp only [List.length_append, List.length_cons, List.length_nil]; omega)) (by first | omega | (rw [List.nil_append]; omega) | (rw [List.length_nil]; omega) | (rw [List.length_append]; omega) | (simp; done) | (simp; omega) | (simp only [List.length_append, List.length_cons, List.length_nil]; omega)) (hX109.size) (fun u122 w123 ho124 hp125 hg126 hw127 => ?_))
  have hX128 := hX109.write hp125 hg126 ((yG ho110))
  have ho129 := ho111.keptA hg126 ha63.symm
  have hm131 := hm112.kept hg126 (zY hm112 ho110)
  have hpk132 := hpk113.kept hg126 hp125 hnp94
  have ha133 : Apart u28.ownBlock u122.ownBlock := zH ha63.symm hw127 ho111.lt
  have hnp135 := qP hnp94 hpk113 hw127
  have hm136 : (qs ++ ([z76])).length = qs.length + 1 := List.length_append
  refine qD rfl (zC (v := u122) rfl) ?_
  refine qe ?_
  refine yC ?_
  refine zB (zF ?_)
  refine qD rfl (yJ rfl rfl (by omega)) ?_
  refine qD rfl (zA (v := (.int .i64 ((j : Int) + 1))) rfl) ?_
  refine qe ?_
  refine yA ?_
  refine ⟨_, ?_, _, rfl, _, j + 1, u122, qs ++ ([z76]), L81, R82, B83, q84, G85, (zD (x := 36) (zD (x := 35) (zD (x := 34) (zD (x := 9) (zD (x := 8) (zD (x := 7) (zD (x := 6) (zD (x := 2) (zD (x := 1) (zR (x := 0) rfl) rfl) rfl) rfl) rfl) rfl) rfl) rfl) rfl) rfl), rfl, hX128, (Pin.le_trans hlek57 hx91.le), (by omega), (hqo.step hok hok67 hok88 hpx68 hpx89 hoj hpl77 hcg78 heq79), (by have := hbu80; omega), ho124, ho129, ha133.symm, hm131, hpk132, hpin99, hok88, (PX.trans hpx68 hpx89), hnp135, hnp96, hnp98⟩
  omega
 refine wp_exit ?_
 refine zZ ?_
 refine yK ?_
 refine yI ?_
 refine zB (zE ?_)
 refine yB ?_
 have hjn : j = (q.ns.getD (f).toNat default).l.length := by omega
 rw [hjn] at hqo
 have hrd0 : RdW q56 true (pd q56 f) qs [] [] := by rw [hpx68.pd hok hok67 hf]; exact hqo.rd (lf := true) hok hf (by unfold ol; rw [if_pos rfl])
 have hq2l := hqo.len
 have hf2 := hpx68.place hf
 refine yM (fun (k : Nat) (en : Nat → Value) (W : World) => ∃ (env1 : Nat → Value) (wv : Value) (wl : List Int) (kv : Value) (kept : List Int) (sn : List (Int × Bool)) (ss : List Int) (q140 : PSt) (GL2 : Pin), en = (upd (upd (upd (upd (upd (upd (upd env1 0 (.pointer (some ⟨p, 0, none⟩))) 1 (.int .i64 f)) 2 (.bool true)) 6 (.slice none 0 0)) 7 wv) 8 (.map (some m17))) 9 kv) ∧ k = (q56.ns.length - ss.length) * 1048577 + wl.length ∧ Ext (inP p L R B mm) G w GL2 W ∧ Pin.le GL1 GL2 ∧ (RdW q56 true (pd q56 f) wl ss kept) ∧ (SnOk sn ss) ∧ (wl.length ≤ 1048576 + 1048576 * ss.length) ∧ (Own eInt 3 GL2 W w.heap.size wv (wl)) ∧ (Own eInt 3 GL2 W w.heap.size kv (kept)) ∧ (Apart wv.ownBlock kv.ownBlock) ∧ (Mp (fun k : Int => Value.int .i64 k) (fun v : Bool => Value.bool v) W m17 (sn)) ∧ (Pk 65 3 GL2 W p L53 R54 B55 mm q140) ∧ (PoolOk q140) ∧ (PX q56 q140) ∧ (q140.ns = q56.ns ∧ q140.bs = q56.bs) ∧ (NP p L53 R54 B55 mm wv.ownBlock) ∧ (NP p L53 R54 B55 mm kv.ownBlock)) _ ⟨_, qv, qs, u28, [], [], [], q56, GL1, (zD (x := 9) (zD (x := 8) (zD (x := 7) (zD (x := 6) (zD (x := 2) (zD (x := 1) (zR (x := 0) rfl) rfl) rfl) rfl) rfl) rfl) rfl), rfl, hX60, Pin.le_refl _, hrd0, SnOk.start, (by simp; omega), hw61, hw62, ha63, hm64, hpk65, hok67, (PX.refl _), ⟨rfl, rfl⟩, hnp69, hnp70⟩ ?_
 rintro k141 _ w142 ⟨env1, wv, wl, kv, kept, sn, ss, q140, GL2, rfl, hk143, hX144, hlek141, hrd, hsn, hwl, hw145, hw146, ha147, hm148, hpk149, hok150, hpx151, hqn152, hnp153, hnp154⟩
 have hql155 := hpx151.len
 have hml156 : (q140.ns.map Nd.l).length = q140.ns.length ∧ (q140.ns.map Nd.r).length = q140.ns.length := ⟨List.length_map .., List.length_map ..⟩
 have hml157 : q140.bs.length = q140.ns.length ∧ q140.ns.length ≤ 1048576 := ⟨hok150.ar.ok.len, hok150.ar.ok.lim⟩
 have hrl := hrd.len
 refine zE (zE (zF ?_))
 refine qD rfl (zA (v := wv) rfl) ?_
 refine qD rfl (zO Tryz.underlying65 (v := wv) rfl hw145.read) ?_
 refine qD rfl (r_gtr rfl rfl) ?_
 refine qe (zB ?_)
 refine yH (p := (0 : Int) < (wl.length : Int)) rfl rfl (fun h158 => ?_) (fun h158 => ?_)
 ·skip
  have hpm : ((wl.length : Int) - 1).toNat + 1 = wl.length := by omega
  have hpa := hrd.at_ hpm
  have hpa1 := hpa.1
  have hpa2 := hpa.2
  refine wp_skip ?_
  refine zB ?_
  refine yB ?_
  refine zE (zF ?_)
  refine qD rfl (zA (v := wv) rfl) ?_
  refine qD rfl (zA (v := wv) rfl) ?_
  refine qD rfl (zO Tryz.underlying65 (v := wv) rfl hw145.read) ?_
  refine qD rfl (qQ rfl rfl (by omega)) ?_
  refine qD rfl (zK Tryz.underlying65 sz3 (v := wv) rfl rfl hw145.read (by omega) (by omega)) ?_
  refine qD rfl (zI (r := wl.getD ((wl.length : Int) - 1).toNat 0) rfl ag3 (z := ((wl.length : Int) - 1)) rfl hw145.read (Gadd.pins hX144.pins wv) (by omega) (by omega)) ?_
  refine qD rfl (zC (v := (.int .i64 (wl.getD ((wl.length : Int) - 1).toNat 0))) rfl) ?_
  refine qe (zB (zE (zF ?_)))
  refine qD rfl (zA (v := wv) rfl) ?_
  refine qD rfl (zA (v := wv) rfl) ?_
  refine qD rfl (zO Tryz.underlying65 (v := wv) rfl hw145.read) ?_
  refine qD rfl (qQ rfl rfl (by omega)) ?_
  obtain ⟨u159, ho160, hb161, hl162⟩ := own_cut hw145 (((wl.length : Int) - 1).toNat) ((wl.length : Int) - 1) (by omega) rfl (by omega) (by omega)
  have ha163 : Apart u159.ownBlock kv.ownBlock := by rw [hb161]; exact ha147
  have hnp164 := (show NP _ _ _ _ _ u159.ownBlock by rw [hb161]; exact hnp153)
  refine qD rfl (hl162 Tryz.underlying65 sz3 rfl rfl rfl) ?_
  refine qD rfl (zC (v := u159) rfl) ?_
  refine qe (zB (zE (zE (zF ?_))))
  refine qD rfl (zA (v := (.map (some m17))) rfl) ?_
  refine qD rfl (zA (v := (.int .i64 (wl.getD ((wl.length : Int) - 1).toNat 0))) rfl) ?_
  refine qD rfl (run_look1_bool (k := (wl.getD ((wl.length : Int) - 1).toNat 0)) (key_int Tryz.underlying3) Tryz.underlying147 zr4 hm148 rfl rfl) ?_
  refine qe (zB ?_)
  refine c_if rfl rfl (fun h165 => ?_) (fun h165 => ?_)
  ·skip
   refine wp_exit ?_
   refine zZ ?_
   refine yI ?_
   refine yA ?_
   have htl : (wl.take ((wl.length : Int) - 1).toNat).length = ((wl.length : Int) - 1).toNat := by rw [List.length_take]; omega
   refine ⟨_, ?_, _, rfl, _, u159, wl.take ((wl.length : Int) - 1).toNat, kv, kept, sn, ss, q140, GL2, (zD (x := 9) (zD (x := 8) (zD (x := 7) (zD (x := 6) (zD (x := 2) (zD (x := 1) (zR (x := 0) rfl) rfl) rfl) rfl) rfl) rfl) rfl), rfl, hX144, hlek141, ((hrd.pop hpm).seen (hsn.yes h165)), hsn, (by omega), ho160, hw146, ha163, hm148, hpk149, hok150, hpx151, hqn152, hnp164, hnp154⟩
   omega
  refine wp_skip ?_
  refine zB (zE (zF ?_))
  refine qD rfl (zA (v := (.map (some m17))) rfl) ?_
  refine qD rfl (zA (v := (.int .i64 (wl.getD ((wl.length : Int) - 1).toNat 0))) rfl) ?_
  refine q0 rfl rfl rfl (qB (val := (fun v : Bool => Value.bool v)) (k := (wl.getD ((wl.length : Int) - 1).toNat 0)) (v := true) (key_int Tryz.underlying3) Tryz.underlying147 rfl rfl rfl hX144.pins hm148 (fun w166 hm167 hp168 hg169 hz170 => ?_))
  have hX171 := hX144.write hp168 hg169 ((xI hlo27))
  have ho172 := hw146.keptA hg169 (zY hm148 hw146).symm
  have ho173 := ho160.keptA hg169 (zY hm148 ho160).symm
  have hpk174 := hpk149.kept hg169 hp168 hnp71
  refine qe (zB (zE (zF ?_)))
  refine qD rfl (zA (v := (.pointer (some ⟨p, 0, none⟩))) rfl) ?_
  refine qD rfl (yP rfl) ?_
  refine qD rfl (zL (k := 0) rfl Tryz.underlying72 rfl nz66 rfl) ?_
  refine qD rfl (zQ (u := L53) ag66 rfl (hpk174.bx.cell (o := 0) rfl)) ?_
  refine qD rfl (zA (v := (.int .i64 (wl.getD ((wl.length : Int) - 1).toNat 0))) rfl) ?_
  refine qD rfl (zK Tryz.underlying66 sz65 (v := L53) rfl rfl hpk174.ol.read (by omega) (by omega)) ?_
  obtain ⟨u175, hr176, hl177⟩ := nm_sl (hpk174.ol.at (z := (wl.getD ((wl.length : Int) - 1).toNat 0)) (by omega) (by omega)) (j := (wl.getD ((wl.length : Int) - 1).toNat 0).toNat) rfl
  rw [mapl_getD] at hr176
  have hm178 := hr176.max
  refine qD rfl (hl177 ag65 rfl (Gadd.pins hX171.pins L53)) ?_
  refine qD rfl (zC (v := u175) rfl) ?_
  refine qe (zB (zE (zE (zF ?_))))
  refine qD rfl (zA (v := (.bool true)) rfl) ?_
  refine qe (zB ?_)
  refine c_ifT rfl rfl ?_
  refine zF ?_
  refine qD rfl (zA (v := (.pointer (some ⟨p, 0, none⟩))) rfl) ?_
  refine qD rfl (yP rfl) ?_
  refine qD rfl (zL (k := 1) rfl Tryz.underlying72 rfl nz66 rfl) ?_
  refine qD rfl (zQ (u := R54) ag66 rfl (hpk174.bx.cell (o := 1) rfl)) ?_
  refine qD rfl (zA (v := (.int .i64 (wl.getD ((wl.length : Int) - 1).toNat 0))) rfl) ?_
  refine qD rfl (zK Tryz.underlying66 sz65 (v := R54) rfl rfl hpk174.rr.read (by omega) (by omega)) ?_
  obtain ⟨u179, hr180, hl181⟩ := nm_sl (hpk174.rr.at (z := (wl.getD ((wl.length : Int) - 1).toNat 0)) (by omega) (by omega)) (j := (wl.getD ((wl.length : Int) - 1).toNat 0).toNat) rfl
  rw [mapr_getD] at hr180
  have hm182 := hr180.max
  refine qD rfl (hl181 ag65 rfl (Gadd.pins hX171.pins R54)) ?_
  refine qD rfl (zC (v := u179) rfl) ?_
  refine qe (zB (zE (zF ?_)))
  refine qD rfl (zA (v := (.pointer (some ⟨p, 0, none⟩))) rfl) ?_
  refine qD rfl (zA (v := (.int .i64 f)) rfl) ?_
  refine qD rfl (zA (v := (.int .i64 (wl.getD ((wl.length : Int) - 1).toNat 0))) rfl) ?_
  refine qD rfl (zA (v := (.bool true)) rfl) ?_
  refine qD rfl (zA (v := u179) rfl) ?_
  refine qI rfl (zN (vs := [(.pointer (some ⟨p, 0, none⟩)), (.int .i64 f), (.int .i64 (wl.getD ((wl.length : Int) - 1).toNat 0)), (.bool true), u179]) Tryz.func188 nm188 rfl rfl rfl ?_)
  refine Calls.mono (through_spec hX171.pins hpk174 hok150 (lf := true) (hf2.same hqn152) (hpa.same hqn152) hr180 (by rw [if_pos rfl]) (jB hok150 (hpa.same hqn152)).2) ?_
  rintro _ w186 ⟨t183, q184, G185, rfl, hthr187, hpk188, hok189, hpx190, hqn191, hx192⟩
  refine ⟨_, rfl, ?_⟩
  have hX193 := hX171.trans hx192 (fun i hi => (PIn.o hpin66) i hi)
  have ho194 := ho172.extS hx192 (notO (NP.ho hnp154))
  have ho195 := ho173.extS hx192 (notO (NP.ho hnp164))
  have hm196 := hm167.extS hx192 (qE (NP.ho hnp71))
  have hql197 := hpx190.len
  have hml198 : (q184.ns.map Nd.l).length = q184.ns.length ∧ (q184.ns.map Nd.r).length = q184.ns.length := ⟨List.length_map .., List.length_map ..⟩
  have hml199 : q184.bs.length = q184.ns.length ∧ q184.ns.length ≤ 1048576 := ⟨hok189.ar.ok.len, hok189.ar.ok.lim⟩
  have hql200 := congrArg List.length hqn191.1
  have hthr201 := thr_same hqn152 hthr187
  refine qD rfl (zC (v := (.int .i64 t183)) rfl) ?_
  refine qe (zB ?_)
  refine yB ?_
  refine zE (zF ?_)
  refine qD rfl (zA (v := (.int .i64 t183)) rfl) ?_
  refine qD rfl (yO rfl rfl) ?_
  refine qD rfl (zC (v := (.bool (decide ((t183 : Int) < 0)))) rfl) ?_
  refine qe (zB ?_)
  refine yH (p := (t183 : Int) < 0) rfl rfl (fun h202 => ?_) (fun h202 => ?_)
  ·skip
   refine zF ?_
   refine qD rfl (zA (v := kv) rfl) ?_
   refine qD rfl (zA (v := (.int .i64 (wl.getD ((wl.length : Int) - 1).toNat 0))) rfl) ?_
   refine qI rfl (yQ (E := eInt) (e := 3) [(.int .i64 (wl.getD ((wl.length : Int) - 1).toNat 0))] [wl.getD ((wl.length : Int) - 1).toNat 0] Tryz.underlying65 sz3 zr3 (by exact xL (by rfl)) (xA (by rfl)) rfl rfl rfl rfl (by decide) hX193.pins (fun u203 w204 ho205 hp206 hl207 hk208 => ?_))
   have hX209 := hX193.step hp206 hl207
   have ho210 := ho194.below hl207
   have ho211 := ho195.below hl207
   have hm212 := hm196.below hl207
   have hpk213 := hpk188.below hl207 hp206
   have ho221 : Own eInt 3 G185 w204 w.heap.size u203 ([wl.getD ((wl.length : Int) - 1).toNat 0]) := ho205.weaken hX193.size
   refine qI rfl (zX (E := eInt) (v := kv) (u := u203) 8 Tryz.underlying65 ap3 (by decide) rfl rfl hX209.pins ho210 ho221.src (by first | omega | (rw [List.nil_append]; omega) | (rw [List.length_nil]; omega) | (rw [List.length_append]; omega) | (simp; done) | (simp; omega) | (simp only [List.length_append, List.length_cons, List.length_nil]; omega)) (by first | omega | (rw [List.nil_append]; omega) | (rw [List.length_nil]; omega) | (rw [List.length_append]; omega) | (simp; done) | (simp; omega) | (simp only [List.length_append, List.length_cons, List.length_nil]; omega)) (hX209.size) (fun u222 w223 ho224 hp225 hg226 hw227 => ?_))
   have hX228 := hX209.write hp225 hg226 ((yG ho210))
   have ho229 := ho211.keptA hg226 ha163
   have hm231 := hm212.kept hg226 (zY hm212 ho210)
   have hpk232 := hpk213.kept hg226 hp225 hnp154
   have ha233 : Apart u159.ownBlock u222.ownBlock := zH ha163 hw227 ho211.lt
   have hnp235 := qP hnp154 hpk213 hw227
   have hm236 : (kept ++ ([wl.getD ((wl.length : Int) - 1).toNat 0])).length = kept.length + 1 := List.length_append
   refine qD rfl (zC (v := u222) rfl) ?_
   refine qe ?_
   refine yC ?_
   refine yC ?_
   refine yA ?_
   have htl : (wl.take ((wl.length : Int) - 1).toNat).length = ((wl.length : Int) - 1).toNat := by rw [List.length_take]; omega
   have hrd2 := (hrd.pop hpm).kept (hsn.no h165) (thr_no hthr201 h202)
   have hcl := hrd2.len
   have hsl : (ss ++ [(wl.getD ((wl.length : Int) - 1).toNat 0)]).length = ss.length + 1 := by rw [List.length_append]; rfl
   refine ⟨_, ?_, _, rfl, _, u159, wl.take ((wl.length : Int) - 1).toNat, u222, kept ++ [(wl.getD ((wl.length : Int) - 1).toNat 0)], putE sn (wl.getD ((wl.length : Int) - 1).toNat 0) true, ss ++ [(wl.getD ((wl.length : Int) - 1).toNat 0)], q184, G185, (zD (x := 9) (zD (x := 8) (zD (x := 7) (zD (x := 6) (zD (x := 2) (zD (x := 1) (zR (x := 0) rfl) rfl) rfl) rfl) rfl) rfl) rfl), rfl, hX228, (Pin.le_trans hlek141 hx192.le), hrd2, hsn.put, (by omega), ho229, ho224, ha233, hm231, hpk232, hok189, (PX.trans hpx151 hpx190), (zU hqn152 hqn191), hnp164, hnp235⟩
   omega
  refine zE (zF ?_)
  refine qD rfl (zA (v := (.bool true)) rfl) ?_
  refine qD rfl (zC (v := (.bool true)) rfl) ?_
  refine qe (zB ?_)
  refine c_ifT rfl rfl ?_
  refine zF ?_
  have hti := thr_info hok67 hpa hthr201 (by omega)
  have hti1 := hti.1.1
  have hti2 := hti.1.2
  have hot := ol_len hok67 (lf := true) hti.1
  have hoe : (q184.ns.getD (t183).toNat default).l = ol q56 true t183 := by rw [(zU hqn152 hqn191).1]; unfold ol; rw [if_pos rfl]
  have hot2 : (q184.ns.getD (t183).toNat default).l.length ≤ 1048576 := by rw [hoe]; exact hot
  have htl0 : (wl.take ((wl.length : Int) - 1).toNat).length = ((wl.length : Int) - 1).toNat := by rw [List.length_take]; omega
  refine qD rfl (zA (v := u159) rfl) ?_
  refine qD rfl (zA (v := (.pointer (some ⟨p, 0, none⟩))) rfl) ?_
  refine qD rfl (yP rfl) ?_
  refine qD rfl (zL (k := 0) rfl Tryz.underlying72 rfl nz66 rfl) ?_
  refine qD rfl (zQ (u := L53) ag66 rfl (hpk188.bx.cell (o := 0) rfl)) ?_
  refine qD rfl (zA (v := (.int .i64 t183)) rfl) ?_
  refine qD rfl (zK Tryz.underlying66 sz65 (v := L53) rfl rfl hpk188.ol.read (by omega) (by omega)) ?_
  obtain ⟨u237, hr238, hl239⟩ := nm_sl (hpk188.ol.at (z := t183) (by omega) (by omega)) (j := (t183).toNat) rfl
  rw [mapl_getD] at hr238
  have hm240 := hr238.max
  refine qD rfl (hl239 ag65 rfl (Gadd.pins hX193.pins L53)) ?_
  refine qI rfl (zX (E := eInt) (v := u159) (u := u237) 8 Tryz.underlying65 ap3 (by decide) rfl rfl hX193.pins ho195 ((hr238.mono (Pin.le_refl _)).src hX193.pins (by decide)) (by first | omega | (rw [List.nil_append]; omega) | (rw [List.length_nil]; omega) | (rw [List.length_append]; omega) | (simp; done) | (simp; omega) | (simp only [List.length_append, List.length_cons, List.length_nil]; omega)) (by first | omega | (rw [List.nil_append]; omega) | (rw [List.length_nil]; omega) | (rw [List.length_append]; omega) | (simp; done) | (simp; omega) | (simp only [List.length_append, List.length_cons, List.length_nil]; omega)) (hX193.size) (fun u241 w242 ho243 hp244 hg245 hw246 => ?_))
  have hX247 := hX193.write hp244 hg245 ((yG ho195))
  have ho248 := ho194.keptA hg245 ha163.symm
  have hm249 := hm196.kept hg245 (zY hm196 ho195)
  have hpk250 := hpk188.kept hg245 hp244 hnp164
  have ha251 : Apart kv.ownBlock u241.ownBlock := zH ha163.symm hw246 ho194.lt
  have hnp252 := qP hnp164 hpk188 hw246
  have hm253 : ((wl.take (((wl.length : Int) - 1).toNat)) ++ ((q184.ns.getD (t183).toNat default).l)).length = (wl.take (((wl.length : Int) - 1).toNat)).length + ((q184.ns.getD (t183).toNat default).l).length := List.length_append
  refine qD rfl (zC (v := u241) rfl) ?_
  refine qe ?_
  refine yC ?_
  refine yC ?_
  refine yA ?_
  have htl : (wl.take ((wl.length : Int) - 1).toNat).length = ((wl.length : Int) - 1).toNat := by rw [List.length_take]; omega
  have hrd2 := (hrd.pop hpm).pass_on hok67 (hsn.no h165) hti.1 hti.2.1 hti.2.2
  have hcl := hrd2.len
  have hsl : (ss ++ [(wl.getD ((wl.length : Int) - 1).toNat 0)]).length = ss.length + 1 := by rw [List.length_append]; rfl
  have hal : ((wl.take (((wl.length : Int) - 1).toNat)) ++ ((q184.ns.getD (t183).toNat default).l)).length = ((wl.length : Int) - 1).toNat + (q184.ns.getD (t183).toNat default).l.length := by rw [List.length_append, htl]
  rw [← hoe] at hrd2
  refine ⟨_, ?_, _, rfl, _, u241, (wl.take (((wl.length : Int) - 1).toNat)) ++ ((q184.ns.getD (t183).toNat default).l), kv, kept, putE sn (wl.getD ((wl.length : Int) - 1).toNat 0) true, ss ++ [(wl.getD ((wl.length : Int) - 1).toNat 0)], q184, G185, (zD (x := 9) (zD (x := 8) (zD (x := 7) (zD (x := 6) (zD (x := 2) (zD (x := 1) (zR (x := 0) rfl) rfl) rfl) rfl) rfl) rfl) rfl), rfl, hX247, (Pin.le_trans hlek141 hx192.le), hrd2, hsn.put, (by omega), ho243, ho248, ha251.symm, hm249, hpk250, hok189, (PX.trans hpx151 hpx190), (zU hqn152 hqn191), hnp252, hnp154⟩
  omega
 refine wp_exit ?_
 refine zZ ?_
 refine yK ?_
 refine yI ?_
 refine zB (zE (zF ?_))
 refine qD rfl (zA (v := kv) rfl) ?_
 refine qD rfl (zA (v := (.pointer (some ⟨p, 0, none⟩))) rfl) ?_
 refine qD rfl (zA (v := kv) rfl) ?_
 refine qD rfl (zA (v := (.bool true)) rfl) ?_
 obtain ⟨G254, hle257, hX256, hr255, hf258⟩ := hw146.sealed hX144
 have hpk260 := hpk149.moreO hle257 hf258 hnp154
 refine qI rfl (zN (vs := [(.pointer (some ⟨p, 0, none⟩)), kv, (.bool true)]) Tryz.func190 nm190 rfl rfl rfl ?_)
 refine Calls.mono (idominated_spec hX256.pins hpk260 hok150 (lf := true) hr255 (by omega) (fun i hi => ((hrd.all _ (Or.inr ((hrd.keep _).1 (yL hi)).1)).1).same hqn152)) ?_
 rintro _ w264 ⟨u261, q262, G263, rfl, ho265, hpk266, hok267, hpx268, hqn269, hx270⟩
 refine ⟨_, rfl, ?_⟩
 have hnp271 := hpk260.new (x := u261.ownBlock) (fun k hk => (ho265.lt k hk).1)
 have hX272 := hX256.trans hx270 (fun i hi => (PIn.o hpin66) i hi)
 have hql275 := hpx268.len
 have hml276 : (q262.ns.map Nd.l).length = q262.ns.length ∧ (q262.ns.map Nd.r).length = q262.ns.length := ⟨List.length_map .., List.length_map ..⟩
 have hml277 : q262.bs.length = q262.ns.length ∧ q262.ns.length ≤ 1048576 := ⟨hok267.ar.ok.len, hok267.ar.ok.lim⟩
 have hql278 := congrArg List.length hqn269.1
 have ho280 := ho265.weaken hX256.size
 obtain ⟨G281, hle284, hX283, hr282, hf285⟩ := ho280.sealed hX272
 have hpk287 := hpk266.moreO hle284 hf285 hnp271
 refine qI rfl (zN (vs := [kv, u261]) Tryz.func189 nm189 rfl rfl rfl ?_)
 refine Calls.mono (without_spec hX283.pins (hr255.mono (Pin.le_trans hx270.le hle284)) hr282 (by omega) (dom_pw _) (fun z hz => by obtain ⟨k, _, e, _⟩ := (dom_mem _).1 hz; omega)) ?_
 rintro _ w290 ⟨u288, G289, rfl, ho291, hx292⟩
 refine ⟨_, rfl, ?_⟩
 have hX293 := hX283.tr hx292
 have hpk296 := hpk287.ext hx292
 have hnp298 := hpk287.new (x := u288.ownBlock) (fun k hk => (ho291.lt k hk).1)
 have ho299 : Own eInt 3 G289 w290 w.heap.size u288 (woL kept (domL (gX q140 kept) true kept.length kept.length) kept.length) := ho291.weaken hX283.size
 refine qD rfl (zC (v := u288) rfl) ?_
 refine qe (zB ?_)
 refine wp_ret ?_
 refine zW ?_
 refine zS (v := u288) rfl rfl rfl ?_
 have hwz : wl = [] := List.eq_nil_of_length_eq_zero (by omega)
 rw [hwz] at hrd
 have hre := (re_done hok150 (hrd.same hqn152) (qW hqn152).symm).same hqn269
 have hul := unc_px (PX.trans hpx151 hpx268) N
 exact ⟨u288, _, L53, R54, B55, q262, G289, rfl, hpk296, hok267, (PX.trans (PX.trans hpx68 hpx151) hpx268), PIn.lo hpin66 rfl, hX293, ho299, hnp298, hre, (by have := congrArg List.length ((zU hqn152 hqn269)).1; omega)⟩

end CN2
end Go.Proofs.YtfnginkcmcfdfaaGreatDoor

set_option maxRecDepth 20000
set_option maxHeartbeats 2000000
namespace Go.Proofs.YtfnginkcmcfdfaaGreatDoor
namespace CN3
open Go.RowKit Go.GL Go.Proofs
open Go.Proofs.YtfnginkcmcfdfaaGreatDoor.B1
open Go.Proofs.YtfnginkcmcfdfaaGreatDoor.K1
open Go.Proofs.YtfnginkcmcfdfaaGreatDoor.PO1
open Go.Proofs.YtfnginkcmcfdfaaGreatDoor.PL1
open Go.Proofs.YtfnginkcmcfdfaaGreatDoor.DI1
open Go.Proofs.YtfnginkcmcfdfaaGreatDoor.RI1
open Go.Proofs.YtfnginkcmcfdfaaGreatDoor.CN1













theorem reduced_f {w : World} {G : Pin} {L R B : Value} {q : PSt} {f : Int} {p : Nat} {mm : PM} {N m : Nat} (hP : Pins G w) (hpk : Pk 65 3 G w p L R B mm q) (hok : PoolOk q) (hf : PlaceOk q f) (hfN : f < (N : Int)) (hbud : q.ns.length + unc q N < 1048576) (ih : CanP N m p mm) (hm : f.toNat < m + 1) :
  Calls Tryz.prog 154 [(.pointer (some ⟨p, 0, none⟩)), (.int .i64 f), (.bool false)].toArray w fun e w' => ∃ (u : Value) (zs : List Int) (L' R' B' : Value) (q' : PSt) (G' : Pin), e = .returned u ∧ Pk 65 3 G' w' p L' R' B' mm q' ∧ PoolOk q' ∧ PX q q' ∧ PLo w p L R B mm L' R' B' ∧ Ext (inP p L R B mm) G w G' w' ∧ Own eInt 3 G' w' w.heap.size u zs ∧ NP p L' R' B' mm u.ownBlock ∧ ReOk q' false f zs ∧ q'.ns.length + unc q' N ≤ q.ns.length + unc q N := by
 refine yE (n := 120) Tryz.func154 Tryz.ntmps154 rfl rfl ?_
 have hX0 : Ext (inP p L R B mm) G w G w := Ext.refl hP
 have hpin : PIn w (inP p L R B mm) p L R B mm := PIn.self
 have hml1 : (q.ns.map Nd.l).length = q.ns.length ∧ (q.ns.map Nd.r).length = q.ns.length := ⟨List.length_map .., List.length_map ..⟩
 have hml2 : q.bs.length = q.ns.length ∧ q.ns.length ≤ 1048576 := ⟨hok.ar.ok.len, hok.ar.ok.lim⟩
 have hf0 := hf.1
 have hf1 := hf.2
 have hol0 := ol_len hok (lf := false) hf
 have hol1 : (q.ns.getD (f).toNat default).r.length ≤ 1048576 := hol0
 refine zE (zF ?_)
 refine qD rfl (zC (v := (.slice none 0 0)) rfl) ?_
 refine qe (zB (zE (zF ?_)))
 refine qI rfl (yX (E := eInt) (e := 3) Tryz.underlying65 sz3 hX0.pins (fun u3 w4 ho5 hp6 hl7 hk8 => ?_))
 have hX9 := hX0.step hp6 hl7
 have hpk10 := hpk.below hl7 hp6
 have ha15 := hpk.new (x := u3.ownBlock) (fun k hk => by rw [hk8] at hk; cases hk; exact Nat.le_refl _)
 have ho16 : Own eInt 3 G w4 w.heap.size u3 ([]) := ho5.weaken hX0.size
 refine qI rfl (o_makeMap (fun k : Int => Value.int .i64 k) (fun v : Bool => Value.bool v) hX9.pins (fun m17 w18 hk19 hm20 hp21 hl22 => ?_))
 have hX23 := hX9.step hp21 hl22
 have ho24 := ho16.below hl22
 have hpk25 := hpk10.below hl22 hp21
 have hnp26 := hpk10.new (x := some m17) (fun k hk => by cases hk; omega)
 have hlo27 : w.heap.size ≤ m17 := by have := hX9.size; omega
 refine qI rfl (yX (E := eInt) (e := 3) Tryz.underlying65 sz3 hX23.pins (fun u28 w29 ho30 hp31 hl32 hk33 => ?_))
 have hX34 := hX23.step hp31 hl32
 have ho35 := ho24.below hl32
 have hm36 := hm20.below hl32
 have hpk37 := hpk25.below hl32 hp31
 have ha38 : Apart u28.ownBlock u3.ownBlock := zJ hk33 ho24.lt
 have ha43 := hpk25.new (x := u28.ownBlock) (fun k hk => by rw [hk33] at hk; cases hk; exact Nat.le_refl _)
 have ho44 : Own eInt 3 G w29 w.heap.size u28 ([]) := ho30.weaken hX23.size
 refine qD rfl (zC (v := u3) rfl) ?_
 refine qD rfl (zC (v := (.map (some m17))) rfl) ?_
 refine qD rfl (zC (v := u28) rfl) ?_
 refine qe (zB (zE (zF ?_)))
 refine qD rfl (zA (v := (.pointer (some ⟨p, 0, none⟩))) rfl) ?_
 refine qD rfl (yP rfl) ?_
 refine qD rfl (zL (k := 1) rfl Tryz.underlying72 rfl nz66 rfl) ?_
 refine qD rfl (zQ (u := R) ag66 rfl (hpk37.bx.cell (o := 1) rfl)) ?_
 refine qD rfl (zA (v := (.int .i64 f)) rfl) ?_
 refine qD rfl (zK Tryz.underlying66 sz65 (v := R) rfl rfl hpk37.rr.read (by omega) (by omega)) ?_
 obtain ⟨u45, hr46, hl47⟩ := nm_sl (hpk37.rr.at (z := f) (by omega) (by omega)) (j := (f).toNat) rfl
 rw [mapr_getD] at hr46
 have hm48 := hr46.max
 refine qD rfl (hl47 ag65 rfl (Gadd.pins hX34.pins R)) ?_
 refine qD rfl (zC (v := u45) rfl) ?_
 refine qe (zB (zE (zE (zF ?_))))
 refine qD rfl (zA (v := (.bool false)) rfl) ?_
 refine qe (zB ?_)
 refine xX rfl rfl ?_
 refine wp_skip ?_
 refine zB (zE (zE (zF ?_)))
 refine qD rfl (zA (v := u45) rfl) ?_
 refine qD rfl (zO Tryz.underlying65 (v := u45) rfl hr46) ?_
 refine qD rfl (zA (v := (.int .i64 0)) rfl) ?_
 refine qe (zB ?_)
 refine yB ?_
 refine yM (fun (k : Nat) (en : Nat → Value) (W : World) => ∃ (env1 : Nat → Value) (j : Nat) (qv : Value) (qs : List Int) (L49 : Value) (R50 : Value) (B51 : Value) (q52 : PSt) (GL1 : Pin), en = (upd (upd (upd (upd (upd (upd (upd (upd (upd (upd env1 0 (.pointer (some ⟨p, 0, none⟩))) 1 (.int .i64 f)) 2 (.bool false)) 6 (.slice none 0 0)) 7 qv) 8 (.map (some m17))) 9 u28) 34 u45) 35 (.int .i64 (((q.ns.getD (f).toNat default).r).length : Int))) 36 (.int .i64 (j : Int))) ∧ k = (q.ns.getD (f).toNat default).r.length - j ∧ Ext (inP p L R B mm) G w GL1 W ∧ Pin.le G GL1 ∧ (j ≤ (q.ns.getD (f).toNat default).r.length) ∧ (QOk q q52 (q.ns.getD (f).toNat default).r qs j) ∧ (q52.ns.length + unc q52 N ≤ q.ns.length + unc q N) ∧ (Own eInt 3 GL1 W w.heap.size qv (qs)) ∧ (Own eInt 3 GL1 W w.heap.size u28 ([])) ∧ (Apart qv.ownBlock u28.ownBlock) ∧ (Mp (fun k : Int => Value.int .i64 k) (fun v : Bool => Value.bool v) W m17 ([])) ∧ (Pk 65 3 GL1 W p L49 R50 B51 mm q52) ∧ (PIn w ((inP p L R B mm)) p L49 R50 B51 mm) ∧ (PoolOk q52) ∧ (PX q q52) ∧ (NP p L49 R50 B51 mm qv.ownBlock) ∧ (NP p L49 R50 B51 mm u28.ownBlock) ∧ (NP p L49 R50 B51 mm (some m17))) _ ⟨_, 0, u3, [], L, R, B, q, G, (zD (x := 36) (zD (x := 35) (zD (x := 34) (zD (x := 9) (zD (x := 8) (zD (x := 7) (zD (x := 6) (zD (x := 2) (zD (x := 1) (zR (x := 0) rfl) rfl) rfl) rfl) rfl) rfl) rfl) rfl) rfl) rfl), rfl, hX34, Pin.le_refl _, Nat.zero_le _, QOk.start, Nat.le_refl _, ho35, ho44, ha38.symm, hm36, hpk37, hpin, hok, (PX.refl _), ha15, ha43, hnp26⟩ ?_
 rintro k53 _ w54 ⟨env1, j, qv, qs, L49, R50, B51, q52, GL1, rfl, hk55, hX56, hlek53, hj, hqo, hbu, hw57, hw58, ha59, hm60, hpk61, hpin62, hok63, hpx64, hnp65, hnp66, hnp67⟩
 have hql68 := hpx64.len
 have hml69 : (q52.ns.map Nd.l).length = q52.ns.length ∧ (q52.ns.map Nd.r).length = q52.ns.length := ⟨List.length_map .., List.length_map ..⟩
 have hml70 : q52.bs.length = q52.ns.length ∧ q52.ns.length ≤ 1048576 := ⟨hok63.ar.ok.len, hok63.ar.ok.lim⟩
 have hql1 := hqo.len
 refine zE (zF ?_)
 refine qD rfl (yO rfl rfl) ?_
 refine qe (zB (zE ?_))
 refine yH (p := ((j : Int) : Int) < (((q.ns.getD (f).toNat default).r).length : Int)) rfl rfl (fun h71 => ?_) (fun h71 => ?_)
 ·skip
  have hmj : (q.ns.getD (f).toNat default).r.getD j 0 ∈ (q.ns.getD (f).toNat default).r := yL (show j < (q.ns.getD (f).toNat default).r.length by omega)
  have hoj := (jB hok hf).2 _ hmj
  have hoj1 := hoj.1
  have hoz := ((xG hok.ar.opts (show (f).toNat < q.ns.length by omega)).2 _ hmj).2
  refine wp_skip ?_
  refine zB (zE ?_)
  refine yB ?_
  refine zE (zF ?_)
  refine qD rfl (zK Tryz.underlying65 sz3 (v := u45) rfl rfl hr46 (by omega) (by omega)) ?_
  refine qD rfl (zI (r := ((q.ns.getD (f).toNat default).r).getD j 0) rfl ag3 (z := (j : Int)) rfl hr46 (Pins.of_le hX56.pins hlek53) (by omega) (by omega)) ?_
  refine qD rfl (zC (v := (.int .i64 (((q.ns.getD (f).toNat default).r).getD j 0))) rfl) ?_
  refine qe (zB (zF ?_))
  refine qD rfl (zA (v := qv) rfl) ?_
  refine qD rfl (zA (v := (.pointer (some ⟨p, 0, none⟩))) rfl) ?_
  refine qD rfl (zA (v := (.int .i64 (((q.ns.getD (f).toNat default).r).getD j 0))) rfl) ?_
  refine qI rfl (zN (vs := [(.pointer (some ⟨p, 0, none⟩)), (.int .i64 (((q.ns.getD (f).toNat default).r).getD j 0))]) Tryz.func124 nm124 rfl rfl rfl ?_)
  refine Calls.mono (ih hX56.pins hpk61 hok63 (hpx64.place hoj) (by omega) (by omega) (by omega)) ?_
  rintro _ w82 ⟨z72, L77, R78, B79, q80, G81, rfl, hpk83, hok84, hpx85, hlo86, hx87, hpl73, hcg74, heq75, hbu76⟩
  refine ⟨_, rfl, ?_⟩
  have hX88 := hX56.trans hx87 hpin62
  have ho89 := hw57.extS hx87 hnp65
  have hnp90 := NP.call hnp65 hlo86 (xW hw57)
  have ho91 := hw58.extS hx87 hnp66
  have hnp92 := NP.call hnp66 hlo86 (xW hw58)
  have hm93 := hm60.extS hx87 (NP.notb hnp67)
  have hnp94 := NP.call hnp67 hlo86 (fun j hj => by cases hj; exact hm60.lt)
  have hpin95 := PIn.call hpin62 hlo86 hX56.size
  have hql96 := hpx85.len
  have hml97 : (q80.ns.map Nd.l).length = q80.ns.length ∧ (q80.ns.map Nd.r).length = q80.ns.length := ⟨List.length_map .., List.length_map ..⟩
  have hml98 : q80.bs.length = q80.ns.length ∧ q80.ns.length ≤ 1048576 := ⟨hok84.ar.ok.len, hok84.ar.ok.lim⟩
  refine qI rfl (yQ (E := eInt) (e := 3) [(.int .i64 z72)] [z72] Tryz.underlying65 sz3 zr3 (by exact xL (by rfl)) (xA (by rfl)) rfl rfl rfl rfl (by decide) hX88.pins (fun u99 w100 ho101 hp102 hl103 hk104 => ?_))
  have hX105 := hX88.step hp102 hl103
  have ho106 := ho89.below hl103
  have ho107 := ho91.below hl103
  have hm108 := hm93.below hl103
  have hpk109 := hpk83.below hl103 hp102
  have ho117 : Own eInt 3 G81 w100 w.heap.size u99 ([z72]) := ho101.weaken hX88.size
  refine qI rfl (zX (E := eInt) (v := qv) (u := u99) 8 Tryz.underlying65 ap3 (by decide) rfl rfl hX105.pins ho106 ho117.src (by first | omega | (rw [List.nil_append]; omega) | (rw [List.length_nil]; omega) | (rw [List.length_append]; omega) | (simp; done) | (simp; omega) | (simp only [List.length_append, List.length_cons, List.length_nil]; omega)) (by first | omega | (rw [List.nil_append]; omega) | (rw [List.length_nil]; omega) | (rw [List.length_append]; omega) | (simp; done) | (simp; omega) | (simp only [List.length_append, List.length_cons, List.length_nil]; omega)) (hX105.size) (fun u118 w119 ho120 hp121 hg122 hw123 => ?_))
  have hX124 := hX105.write hp121 hg122 ((yG ho106))
  have ho125 := ho107.keptA hg122 ha59.symm
  have hm127 := hm108.kept hg122 (zY hm108 ho106)
  have hpk128 := hpk109.kept hg122 hp121 hnp90
  have ha129 : Apart u28.ownBlock u118.ownBlock := zH ha59.symm hw123 ho107.lt
  have hnp131 := qP hnp90 hpk109 hw123
  have hm132 : (qs ++ ([z72])).length = qs.length + 1 := List.length_append
  refine qD rfl (zC (v := u118) rfl) ?_
  refine qe ?_
  refine yC ?_
  refine zB (zF ?_)
  refine qD rfl (yJ rfl rfl (by omega)) ?_
  refine qD rfl (zA (v := (.int .i64 ((j : Int) + 1))) rfl) ?_
  refine qe ?_
  refine yA ?_
  refine ⟨_, ?_, _, rfl, _, j + 1, u118, qs ++ ([z72]), L77, R78, B79, q80, G81, (zD (x := 36) (zD (x := 35) (zD (x := 34) (zD (x := 9) (zD (x := 8) (zD (x := 7) (zD (x := 6) (zD (x := 2) (zD (x := 1) (zR (x := 0) rfl) rfl) rfl) rfl) rfl) rfl) rfl) rfl) rfl) rfl), rfl, hX124, (Pin.le_trans hlek53 hx87.le), (by omega), (hqo.step hok hok63 hok84 hpx64 hpx85 hoj hpl73 hcg74 heq75), (by have := hbu76; omega), ho120, ho125, ha129.symm, hm127, hpk128, hpin95, hok84, (PX.trans hpx64 hpx85), hnp131, hnp92, hnp94⟩
  omega
 refine wp_exit ?_
 refine zZ ?_
 refine yK ?_
 refine yI ?_
 refine zB (zE ?_)
 refine yB ?_
 have hjn : j = (q.ns.getD (f).toNat default).r.length := by omega
 rw [hjn] at hqo
 have hrd0 : RdW q52 false (pd q52 f) qs [] [] := by rw [hpx64.pd hok hok63 hf]; exact hqo.rd (lf := false) hok hf (by unfold ol; rw [if_neg Bool.false_ne_true])
 have hq2l := hqo.len
 have hf2 := hpx64.place hf
 refine yM (fun (k : Nat) (en : Nat → Value) (W : World) => ∃ (env1 : Nat → Value) (wv : Value) (wl : List Int) (kv : Value) (kept : List Int) (sn : List (Int × Bool)) (ss : List Int) (q136 : PSt) (GL2 : Pin), en = (upd (upd (upd (upd (upd (upd (upd env1 0 (.pointer (some ⟨p, 0, none⟩))) 1 (.int .i64 f)) 2 (.bool false)) 6 (.slice none 0 0)) 7 wv) 8 (.map (some m17))) 9 kv) ∧ k = (q52.ns.length - ss.length) * 1048577 + wl.length ∧ Ext (inP p L R B mm) G w GL2 W ∧ Pin.le GL1 GL2 ∧ (RdW q52 false (pd q52 f) wl ss kept) ∧ (SnOk sn ss) ∧ (wl.length ≤ 1048576 + 1048576 * ss.length) ∧ (Own eInt 3 GL2 W w.heap.size wv (wl)) ∧ (Own eInt 3 GL2 W w.heap.size kv (kept)) ∧ (Apart wv.ownBlock kv.ownBlock) ∧ (Mp (fun k : Int => Value.int .i64 k) (fun v : Bool => Value.bool v) W m17 (sn)) ∧ (Pk 65 3 GL2 W p L49 R50 B51 mm q136) ∧ (PoolOk q136) ∧ (PX q52 q136) ∧ (q136.ns = q52.ns ∧ q136.bs = q52.bs) ∧ (NP p L49 R50 B51 mm wv.ownBlock) ∧ (NP p L49 R50 B51 mm kv.ownBlock)) _ ⟨_, qv, qs, u28, [], [], [], q52, GL1, (zD (x := 9) (zD (x := 8) (zD (x := 7) (zD (x := 6) (zD (x := 2) (zD (x := 1) (zR (x := 0) rfl) rfl) rfl) rfl) rfl) rfl) rfl), rfl, hX56, Pin.le_refl _, hrd0, SnOk.start, (by simp; omega), hw57, hw58, ha59, hm60, hpk61, hok63, (PX.refl _), ⟨rfl, rfl⟩, hnp65, hnp66⟩ ?_
 rintro k137 _ w138 ⟨env1, wv, wl, kv, kept, sn, ss, q136, GL2, rfl, hk139, hX140, hlek137, hrd, hsn, hwl, hw141, hw142, ha143, hm144, hpk145, hok146, hpx147, hqn148, hnp149, hnp150⟩
 have hql151 := hpx147.len
 have hml152 : (q136.ns.map Nd.l).length = q136.ns.length ∧ (q136.ns.map Nd.r).length = q136.ns.length := ⟨List.length_map .., List.length_map ..⟩
 have hml153 : q136.bs.length = q136.ns.length ∧ q136.ns.length ≤ 1048576 := ⟨hok146.ar.ok.len, hok146.ar.ok.lim⟩
 have hrl := hrd.len
 refine zE (zE (zF ?_))
 refine qD rfl (zA (v := wv) rfl) ?_
 refine qD rfl (zO Tryz.underlying65 (v := wv) rfl hw141.read) ?_
 refine qD rfl (r_gtr rfl rfl) ?_
 refine qe (zB ?_)
 refine yH (p := (0 : Int) < (wl.length : Int)) rfl rfl (fun h154 => ?_) (fun h154 => ?_)
 ·skip
  have hpm : ((wl.length : Int) - 1).toNat + 1 = wl.length := by omega
  have hpa := hrd.at_ hpm
  have hpa1 := hpa.1
  have hpa2 := hpa.2
  refine wp_skip ?_
  refine zB ?_
  refine yB ?_
  refine zE (zF ?_)
  refine qD rfl (zA (v := wv) rfl) ?_
  refine qD rfl (zA (v := wv) rfl) ?_
  refine qD rfl (zO Tryz.underlying65 (v := wv) rfl hw141.read) ?_
  refine qD rfl (qQ rfl rfl (by omega)) ?_
  refine qD rfl (zK Tryz.underlying65 sz3 (v := wv) rfl rfl hw141.read (by omega) (by omega)) ?_
  refine qD rfl (zI (r := wl.getD ((wl.length : Int) - 1).toNat 0) rfl ag3 (z := ((wl.length : Int) - 1)) rfl hw141.read (Gadd.pins hX140.pins wv) (by omega) (by omega)) ?_
  refine qD rfl (zC (v := (.int .i64 (wl.getD ((wl.length : Int) - 1).toNat 0))) rfl) ?_
  refine qe (zB (zE (zF ?_)))
  refine qD rfl (zA (v := wv) rfl) ?_
  refine qD rfl (zA (v := wv) rfl) ?_
  refine qD rfl (zO Tryz.underlying65 (v := wv) rfl hw141.read) ?_
  refine qD rfl (qQ rfl rfl (by omega)) ?_
  obtain ⟨u155, ho156, hb157, hl158⟩ := own_cut hw141 (((wl.length : Int) - 1).toNat) ((wl.length : Int) - 1) (by omega) rfl (by omega) (by omega)
  have ha159 : Apart u155.ownBlock kv.ownBlock := by rw [hb157]; exact ha143
  have hnp160 := (show NP _ _ _ _ _ u155.ownBlock by rw [hb157]; exact hnp149)
  refine qD rfl (hl158 Tryz.underlying65 sz3 rfl rfl rfl) ?_
  refine qD rfl (zC (v := u155) rfl) ?_
  refine qe (zB (zE (zE (zF ?_))))
  refine qD rfl (zA (v := (.map (some m17))) rfl) ?_
  refine qD rfl (zA (v := (.int .i64 (wl.getD ((wl.length : Int) - 1).toNat 0))) rfl) ?_
  refine qD rfl (run_look1_bool (k := (wl.getD ((wl.length : Int) - 1).toNat 0)) (key_int Tryz.underlying3) Tryz.underlying147 zr4 hm144 rfl rfl) ?_
  refine qe (zB ?_)
  refine c_if rfl rfl (fun h161 => ?_) (fun h161 => ?_)
  ·skip
   refine wp_exit ?_
   refine zZ ?_
   refine yI ?_
   refine yA ?_
   have htl : (wl.take ((wl.length : Int) - 1).toNat).length = ((wl.length : Int) - 1).toNat := by rw [List.length_take]; omega
   refine ⟨_, ?_, _, rfl, _, u155, wl.take ((wl.length : Int) - 1).toNat, kv, kept, sn, ss, q136, GL2, (zD (x := 9) (zD (x := 8) (zD (x := 7) (zD (x := 6) (zD (x := 2) (zD (x := 1) (zR (x := 0) rfl) rfl) rfl) rfl) rfl) rfl) rfl), rfl, hX140, hlek137, ((hrd.pop hpm).seen (hsn.yes h161)), hsn, (by omega), ho156, hw142, ha159, hm144, hpk145, hok146, hpx147, hqn148, hnp160, hnp150⟩
   omega
  refine wp_skip ?_
  refine zB (zE (zF ?_))
  refine qD rfl (zA (v := (.map (some m17))) rfl) ?_
  refine qD rfl (zA (v := (.int .i64 (wl.getD ((wl.length : Int) - 1).toNat 0))) rfl) ?_
  refine q0 rfl rfl rfl (qB (val := (fun v : Bool => Value.bool v)) (k := (wl.getD ((wl.length : Int) - 1).toNat 0)) (v := true) (key_int Tryz.underlying3) Tryz.underlying147 rfl rfl rfl hX140.pins hm144 (fun w162 hm163 hp164 hg165 hz166 => ?_))
  have hX167 := hX140.write hp164 hg165 ((xI hlo27))
  have ho168 := hw142.keptA hg165 (zY hm144 hw142).symm
  have ho169 := ho156.keptA hg165 (zY hm144 ho156).symm
  have hpk170 := hpk145.kept hg165 hp164 hnp67
  refine qe (zB (zE (zF ?_)))
  refine qD rfl (zA (v := (.pointer (some ⟨p, 0, none⟩))) rfl) ?_
  refine qD rfl (yP rfl) ?_
  refine qD rfl (zL (k := 0) rfl Tryz.underlying72 rfl nz66 rfl) ?_
  refine qD rfl (zQ (u := L49) ag66 rfl (hpk170.bx.cell (o := 0) rfl)) ?_
  refine qD rfl (zA (v := (.int .i64 (wl.getD ((wl.length : Int) - 1).toNat 0))) rfl) ?_
  refine qD rfl (zK Tryz.underlying66 sz65 (v := L49) rfl rfl hpk170.ol.read (by omega) (by omega)) ?_
  obtain ⟨u171, hr172, hl173⟩ := nm_sl (hpk170.ol.at (z := (wl.getD ((wl.length : Int) - 1).toNat 0)) (by omega) (by omega)) (j := (wl.getD ((wl.length : Int) - 1).toNat 0).toNat) rfl
  rw [mapl_getD] at hr172
  have hm174 := hr172.max
  refine qD rfl (hl173 ag65 rfl (Gadd.pins hX167.pins L49)) ?_
  refine qD rfl (zC (v := u171) rfl) ?_
  refine qe (zB (zE (zE (zF ?_))))
  refine qD rfl (zA (v := (.bool false)) rfl) ?_
  refine qe (zB ?_)
  refine xX rfl rfl ?_
  refine wp_skip ?_
  refine zB (zE (zF ?_))
  refine qD rfl (zA (v := (.pointer (some ⟨p, 0, none⟩))) rfl) ?_
  refine qD rfl (zA (v := (.int .i64 f)) rfl) ?_
  refine qD rfl (zA (v := (.int .i64 (wl.getD ((wl.length : Int) - 1).toNat 0))) rfl) ?_
  refine qD rfl (zA (v := (.bool false)) rfl) ?_
  refine qD rfl (zA (v := u171) rfl) ?_
  refine qI rfl (zN (vs := [(.pointer (some ⟨p, 0, none⟩)), (.int .i64 f), (.int .i64 (wl.getD ((wl.length : Int) - 1).toNat 0)), (.bool false), u171]) Tryz.func188 nm188 rfl rfl rfl ?_)
  refine Calls.mono (through_spec hX167.pins hpk170 hok146 (lf := false) (hf2.same hqn148) (hpa.same hqn148) hr172 (by rw [if_neg Bool.false_ne_true]) (jB hok146 (hpa.same hqn148)).1) ?_
  rintro _ w178 ⟨t175, q176, G177, rfl, hthr179, hpk180, hok181, hpx182, hqn183, hx184⟩
  refine ⟨_, rfl, ?_⟩
  have hX185 := hX167.trans hx184 (fun i hi => (PIn.o hpin62) i hi)
  have ho186 := ho168.extS hx184 (notO (NP.ho hnp150))
  have ho187 := ho169.extS hx184 (notO (NP.ho hnp160))
  have hm188 := hm163.extS hx184 (qE (NP.ho hnp67))
  have hql189 := hpx182.len
  have hml190 : (q176.ns.map Nd.l).length = q176.ns.length ∧ (q176.ns.map Nd.r).length = q176.ns.length := ⟨List.length_map .., List.length_map ..⟩
  have hml191 : q176.bs.length = q176.ns.length ∧ q176.ns.length ≤ 1048576 := ⟨hok181.ar.ok.len, hok181.ar.ok.lim⟩
  have hql192 := congrArg List.length hqn183.1
  have hthr193 := thr_same hqn148 hthr179
  refine qD rfl (zC (v := (.int .i64 t175)) rfl) ?_
  refine qe (zB ?_)
  refine yB ?_
  refine zE (zF ?_)
  refine qD rfl (zA (v := (.int .i64 t175)) rfl) ?_
  refine qD rfl (yO rfl rfl) ?_
  refine qD rfl (zC (v := (.bool (decide ((t175 : Int) < 0)))) rfl) ?_
  refine qe (zB ?_)
  refine yH (p := (t175 : Int) < 0) rfl rfl (fun h194 => ?_) (fun h194 => ?_)
  ·skip
   refine zF ?_
   refine qD rfl (zA (v := kv) rfl) ?_
   refine qD rfl (zA (v := (.int .i64 (wl.getD ((wl.length : Int) - 1).toNat 0))) rfl) ?_
   refine qI rfl (yQ (E := eInt) (e := 3) [(.int .i64 (wl.getD ((wl.length : Int) - 1).toNat 0))] [wl.getD ((wl.length : Int) - 1).toNat 0] Tryz.underlying65 sz3 zr3 (by exact xL (by rfl)) (xA (by rfl)) rfl rfl rfl rfl (by decide) hX185.pins (fun u195 w196 ho197 hp198 hl199 hk200 => ?_))
   have hX201 := hX185.step hp198 hl199
   have ho202 := ho186.below hl199
   have ho203 := ho187.below hl199
   have hm204 := hm188.below hl199
   have hpk205 := hpk180.below hl199 hp198
   have ho213 : Own eInt 3 G177 w196 w.heap.size u195 ([wl.getD ((wl.length : Int) - 1).toNat 0]) := ho197.weaken hX185.size
   refine qI rfl (zX (E := eInt) (v := kv) (u := u195) 8 Tryz.underlying65 ap3 (by decide) rfl rfl hX201.pins ho202 ho213.src (by first | omega | (rw [List.nil_append]; omega) | (rw [List.length_nil]; omega) | (rw [List.length_append]; omega) | (simp; done) | (simp; omega) | (simp only [List.length_append, List.length_cons, List.length_nil]; omega)) (by first | omega | (rw [List.nil_append]; omega) | (rw [List.length_nil]; omega) | (rw [List.length_append]; omega) | (simp; done) | (simp; omega) | (simp only [List.length_append, List.length_cons, List.length_nil]; omega)) (hX201.size) (fun u214 w215 ho216 hp217 hg218 hw219 => ?_))
   have hX220 := hX201.write hp217 hg218 ((yG ho202))
   have ho221 := ho203.keptA hg218 ha159
   have hm223 := hm204.kept hg218 (zY hm204 ho202)
   have hpk224 := hpk205.kept hg218 hp217 hnp150
   have ha225 : Apart u155.ownBlock u214.ownBlock := zH ha159 hw219 ho203.lt
   have hnp227 := qP hnp150 hpk205 hw219
   have hm228 : (kept ++ ([wl.getD ((wl.length : Int) - 1).toNat 0])).length = kept.length + 1 := List.length_append
   refine qD rfl (zC (v := u214) rfl) ?_
   refine qe ?_
   refine yC ?_
   refine yC ?_
   refine yA ?_
   have htl : (wl.take ((wl.length : Int) - 1).toNat).length = ((wl.length : Int) - 1).toNat := by rw [List.length_take]; omega
   have hrd2 := (hrd.pop hpm).kept (hsn.no h161) (thr_no hthr193 h194)
   have hcl := hrd2.len
   have hsl : (ss ++ [(wl.getD ((wl.length : Int) - 1).toNat 0)]).length = ss.length + 1 := by rw [List.length_append]; rfl
   refine ⟨_, ?_, _, rfl, _, u155, wl.take ((wl.length : Int) - 1).toNat, u214, kept ++ [(wl.getD ((wl.length : Int) - 1).toNat 0)], putE sn (wl.getD ((wl.length : Int) - 1).toNat 0) true, ss ++ [(wl.getD ((wl.length : Int) - 1).toNat 0)], q176, G177, (zD (x := 9) (zD (x := 8) (zD (x := 7) (zD (x := 6) (zD (x := 2) (zD (x := 1) (zR (x := 0) rfl) rfl) rfl) rfl) rfl) rfl) rfl), rfl, hX220, (Pin.le_trans hlek137 hx184.le), hrd2, hsn.put, (by omega), ho221, ho216, ha225, hm223, hpk224, hok181, (PX.trans hpx147 hpx182), (zU hqn148 hqn183), hnp160, hnp227⟩
   omega
  refine zE (zF ?_)
  refine qD rfl (zA (v := (.bool false)) rfl) ?_
  refine qD rfl (zC (v := (.bool false)) rfl) ?_
  refine qe (zB ?_)
  refine xX rfl rfl ?_
  refine zF ?_
  have hti := thr_info hok63 hpa hthr193 (by omega)
  have hti1 := hti.1.1
  have hti2 := hti.1.2
  have hot := ol_len hok63 (lf := false) hti.1
  have hoe : (q176.ns.getD (t175).toNat default).r = ol q52 false t175 := by rw [(zU hqn148 hqn183).1]; unfold ol; rw [if_neg Bool.false_ne_true]
  have hot2 : (q176.ns.getD (t175).toNat default).r.length ≤ 1048576 := by rw [hoe]; exact hot
  have htl0 : (wl.take ((wl.length : Int) - 1).toNat).length = ((wl.length : Int) - 1).toNat := by rw [List.length_take]; omega
  refine qD rfl (zA (v := u155) rfl) ?_
  refine qD rfl (zA (v := (.pointer (some ⟨p, 0, none⟩))) rfl) ?_
  refine qD rfl (yP rfl) ?_
  refine qD rfl (zL (k := 1) rfl Tryz.underlying72 rfl nz66 rfl) ?_
  refine qD rfl (zQ (u := R50) ag66 rfl (hpk180.bx.cell (o := 1) rfl)) ?_
  refine qD rfl (zA (v := (.int .i64 t175)) rfl) ?_
  refine qD rfl (zK Tryz.underlying66 sz65 (v := R50) rfl rfl hpk180.rr.read (by omega) (by omega)) ?_
  obtain ⟨u229, hr230, hl231⟩ := nm_sl (hpk180.rr.at (z := t175) (by omega) (by omega)) (j := (t175).toNat) rfl
  rw [mapr_getD] at hr230
  have hm232 := hr230.max
  refine qD rfl (hl231 ag65 rfl (Gadd.pins hX185.pins R50)) ?_
  refine qI rfl (zX (E := eInt) (v := u155) (u := u229) 8 Tryz.underlying65 ap3 (by decide) rfl rfl hX185.pins ho187 ((hr230.mono (Pin.le_refl _)).src hX185.pins (by decide)) (by first | omega | (rw [List.nil_append]; omega) | (rw [List.length_nil]; omega) | (rw [List.length_append]; omega) | (simp; done) | (simp; omega) | (simp only [List.length_append, List.length_cons, List.length_nil]; omega)) (by first | omega | (rw [List.nil_append]; omega) | (rw [List.length_nil]; omega) | (rw [List.length_append]; omega) | (simp; done) | (simp; omega) | (simp only [List.length_append, List.length_cons, List.length_nil]; omega)) (hX185.size) (fun u233 w234 ho235 hp236 hg237 hw238 => ?_))
  have hX239 := hX185.write hp236 hg237 ((yG ho187))
  have ho240 := ho186.keptA hg237 ha159.symm
  have hm241 := hm188.kept hg237 (zY hm188 ho187)
  have hpk242 := hpk180.kept hg237 hp236 hnp160
  have ha243 : Apart kv.ownBlock u233.ownBlock := zH ha159.symm hw238 ho186.lt
  have hnp244 := qP hnp160 hpk180 hw238
  have hm245 : ((wl.take (((wl.length : Int) - 1).toNat)) ++ ((q176.ns.getD (t175).toNat default).r)).length = (wl.take (((wl.length : Int) - 1).toNat)).length + ((q176.ns.getD (t175).toNat default).r).length := List.length_append
  refine qD rfl (zC (v := u233) rfl) ?_
  refine qe ?_
  refine yC ?_
  refine yC ?_
  refine yA ?_
  have htl : (wl.take ((wl.length : Int) - 1).toNat).length = ((wl.length : Int) - 1).toNat := by rw [List.length_take]; omega
  have hrd2 := (hrd.pop hpm).pass_on hok63 (hsn.no h161) hti.1 hti.2.1 hti.2.2
  have hcl := hrd2.len
  have hsl : (ss ++ [(wl.getD ((wl.length : Int) - 1).toNat 0)]).length = ss.length + 1 := by rw [List.length_append]; rfl
  have hal : ((wl.take (((wl.length : Int) - 1).toNat)) ++ ((q176.ns.getD (t175).toNat default).r)).length = ((wl.length : Int) - 1).toNat + (q176.ns.getD (t175).toNat default).r.length := by rw [List.length_append, htl]
  rw [← hoe] at hrd2
  refine ⟨_, ?_, _, rfl, _, u233, (wl.take (((wl.length : Int) - 1).toNat)) ++ ((q176.ns.getD (t175).toNat default).r), kv, kept, putE sn (wl.getD ((wl.length : Int) - 1).toNat 0) true, ss ++ [(wl.getD ((wl.length : Int) - 1).toNat 0)], q176, G177, (zD (x := 9) (zD (x := 8) (zD (x := 7) (zD (x := 6) (zD (x := 2) (zD (x := 1) (zR (x := 0) rfl) rfl) rfl) rfl) rfl) rfl) rfl), rfl, hX239, (Pin.le_trans hlek137 hx184.le), hrd2, hsn.put, (by omega), ho235, ho240, ha243.symm, hm241, hpk242, hok181, (PX.trans hpx147 hpx182), (zU hqn148 hqn183), hnp244, hnp150⟩
  omega
 refine wp_exit ?_
 refine zZ ?_
 refine yK ?_
 refine yI ?_
 refine zB (zE (zF ?_))
 refine qD rfl (zA (v := kv) rfl) ?_
 refine qD rfl (zA (v := (.pointer (some ⟨p, 0, none⟩))) rfl) ?_
 refine qD rfl (zA (v := kv) rfl) ?_
 refine qD rfl (zA (v := (.bool false)) rfl) ?_
 obtain ⟨G246, hle249, hX248, hr247, hf250⟩ := hw142.sealed hX140
 have hpk252 := hpk145.moreO hle249 hf250 hnp150
 refine qI rfl (zN (vs := [(.pointer (some ⟨p, 0, none⟩)), kv, (.bool false)]) Tryz.func190 nm190 rfl rfl rfl ?_)
 refine Calls.mono (idominated_spec hX248.pins hpk252 hok146 (lf := false) hr247 (by omega) (fun i hi => ((hrd.all _ (Or.inr ((hrd.keep _).1 (yL hi)).1)).1).same hqn148)) ?_
 rintro _ w256 ⟨u253, q254, G255, rfl, ho257, hpk258, hok259, hpx260, hqn261, hx262⟩
 refine ⟨_, rfl, ?_⟩
 have hnp263 := hpk252.new (x := u253.ownBlock) (fun k hk => (ho257.lt k hk).1)
 have hX264 := hX248.trans hx262 (fun i hi => (PIn.o hpin62) i hi)
 have hql267 := hpx260.len
 have hml268 : (q254.ns.map Nd.l).length = q254.ns.length ∧ (q254.ns.map Nd.r).length = q254.ns.length := ⟨List.length_map .., List.length_map ..⟩
 have hml269 : q254.bs.length = q254.ns.length ∧ q254.ns.length ≤ 1048576 := ⟨hok259.ar.ok.len, hok259.ar.ok.lim⟩
 have hql270 := congrArg List.length hqn261.1
 have ho272 := ho257.weaken hX248.size
 obtain ⟨G273, hle276, hX275, hr274, hf277⟩ := ho272.sealed hX264
 have hpk279 := hpk258.moreO hle276 hf277 hnp263
 refine qI rfl (zN (vs := [kv, u253]) Tryz.func189 nm189 rfl rfl rfl ?_)
 refine Calls.mono (without_spec hX275.pins (hr247.mono (Pin.le_trans hx262.le hle276)) hr274 (by omega) (dom_pw _) (fun z hz => by obtain ⟨k, _, e, _⟩ := (dom_mem _).1 hz; omega)) ?_
 rintro _ w282 ⟨u280, G281, rfl, ho283, hx284⟩
 refine ⟨_, rfl, ?_⟩
 have hX285 := hX275.tr hx284
 have hpk288 := hpk279.ext hx284
 have hnp290 := hpk279.new (x := u280.ownBlock) (fun k hk => (ho283.lt k hk).1)
 have ho291 : Own eInt 3 G281 w282 w.heap.size u280 (woL kept (domL (gX q136 kept) false kept.length kept.length) kept.length) := ho283.weaken hX275.size
 refine qD rfl (zC (v := u280) rfl) ?_
 refine qe (zB ?_)
 refine wp_ret ?_
 refine zW ?_
 refine zS (v := u280) rfl rfl rfl ?_
 have hwz : wl = [] := List.eq_nil_of_length_eq_zero (by omega)
 rw [hwz] at hrd
 have hre := (re_done hok146 (hrd.same hqn148) (qW hqn148).symm).same hqn261
 have hul := unc_px (PX.trans hpx147 hpx260) N
 exact ⟨u280, _, L49, R50, B51, q254, G281, rfl, hpk288, hok259, (PX.trans (PX.trans hpx64 hpx147) hpx260), PIn.lo hpin62 rfl, hX285, ho291, hnp290, hre, (by have := congrArg List.length ((zU hqn148 hqn261)).1; omega)⟩

end CN3
end Go.Proofs.YtfnginkcmcfdfaaGreatDoor

set_option maxRecDepth 20000
set_option maxHeartbeats 2000000
namespace Go.Proofs.YtfnginkcmcfdfaaGreatDoor
namespace CN4
open Go.RowKit Go.GL Go.Proofs
open Go.Proofs.YtfnginkcmcfdfaaGreatDoor.B1
open Go.Proofs.YtfnginkcmcfdfaaGreatDoor.K1
open Go.Proofs.YtfnginkcmcfdfaaGreatDoor.PO1
open Go.Proofs.YtfnginkcmcfdfaaGreatDoor.PL1
open Go.Proofs.YtfnginkcmcfdfaaGreatDoor.DI1
open Go.Proofs.YtfnginkcmcfdfaaGreatDoor.RI1
open Go.Proofs.YtfnginkcmcfdfaaGreatDoor.CN1
open Go.Proofs.YtfnginkcmcfdfaaGreatDoor.CN2
open Go.Proofs.YtfnginkcmcfdfaaGreatDoor.CN3





theorem canon_step {w : World} {G : Pin} {L R B : Value} {q : PSt} {f : Int} {p : Nat} {mm : PM} {N m : Nat} (hP : Pins G w) (hpk : Pk 65 3 G w p L R B mm q) (hok : PoolOk q) (hf : PlaceOk q f) (hfN : f < (N : Int)) (hbud : q.ns.length + unc q N < 1048576) (ih : CanP N m p mm) (hm : f.toNat < m + 1) :
  Calls Tryz.prog 124 [(.pointer (some ⟨p, 0, none⟩)), (.int .i64 f)].toArray w fun e w' => ∃ (z : Int) (L' R' B' : Value) (q' : PSt) (G' : Pin), e = .returned (.int .i64 z) ∧ Pk 65 3 G' w' p L' R' B' mm q' ∧ PoolOk q' ∧ PX q q' ∧ PLo w p L R B mm L' R' B' ∧ Ext (inP p L R B mm) G w G' w' ∧ PlaceOk q' z ∧ CanonG (pd q' z) ∧ eqG (pd q' z) (pd q' f) ∧ q'.ns.length + unc q' N ≤ q.ns.length + unc q N := by
 refine yE (n := 40) Tryz.func124 Tryz.ntmps124 rfl rfl ?_
 have hX0 : Ext (inP p L R B mm) G w G w := Ext.refl hP
 have hpin : PIn w (inP p L R B mm) p L R B mm := PIn.self
 have hml1 : (q.ns.map Nd.l).length = q.ns.length ∧ (q.ns.map Nd.r).length = q.ns.length := ⟨List.length_map .., List.length_map ..⟩
 have hml2 : q.bs.length = q.ns.length ∧ q.ns.length ≤ 1048576 := ⟨hok.ar.ok.len, hok.ar.ok.lim⟩
 have hf0 := hf.1
 have hf1 := hf.2
 refine zE (zF ?_)
 refine qD rfl (zC (v := (.int .i64 0)) rfl) ?_
 refine qe (zB (zE (zE (zF ?_))))
 refine qD rfl (zA (v := (.pointer (some ⟨p, 0, none⟩))) rfl) ?_
 refine qD rfl (yP rfl) ?_
 refine qD rfl (zL (k := 5) rfl Tryz.underlying72 rfl nz69 rfl) ?_
 refine qD rfl (zQ (u := (.map (some mm.c))) ag69 rfl (hpk.bx.cell (o := 5) rfl)) ?_
 refine qD rfl (zA (v := (.int .i64 f)) rfl) ?_
 refine qD rfl (run_lookv_int (k := f) (key_int Tryz.underlying3) Tryz.underlying69 zr3 hpk.fc rfl rfl) ?_
 refine qD rfl (zA (v := (.tuple #[(.int .i64 ((Go.GL.look q.cm f).getD 0)), (.bool ((Go.GL.look q.cm f).isSome))])) rfl) ?_
 refine qD rfl (xS (v := (.int .i64 ((Go.GL.look q.cm f).getD 0))) rfl rfl) ?_
 refine qD rfl (xS (v := (.bool ((Go.GL.look q.cm f).isSome))) rfl rfl) ?_
 refine qD rfl (zC (v := (.int .i64 ((Go.GL.look q.cm f).getD 0))) rfl) ?_
 refine qD rfl (zC (v := (.bool ((Go.GL.look q.cm f).isSome))) rfl) ?_
 refine qe (zB (zE (zF ?_)))
 refine qD rfl (zA (v := (.bool ((Go.GL.look q.cm f).isSome))) rfl) ?_
 refine qe (zB ?_)
 refine c_if rfl rfl (fun h3 => ?_) (fun h3 => ?_)
 ·skip
  refine zE (zF ?_)
  refine qD rfl (zA (v := (.int .i64 ((Go.GL.look q.cm f).getD 0))) rfl) ?_
  refine qD rfl (zC (v := (.int .i64 ((Go.GL.look q.cm f).getD 0))) rfl) ?_
  refine qe (zB ?_)
  refine wp_ret ?_
  refine zW ?_
  refine zS (v := (.int .i64 ((Go.GL.look q.cm f).getD 0))) rfl rfl rfl ?_
  obtain ⟨z, hz⟩ := Option.isSome_iff_exists.1 h3
  obtain ⟨_, f1, f2, f3⟩ := hok.can f z hz
  rw [hz]
  exact ⟨z, L, R, B, q, G, rfl, hpk, hok, (PX.refl _), PIn.lo hpin rfl, hX0, f1, f2, f3, Nat.le_refl _⟩
 refine wp_skip ?_
 refine zB (zE (zF ?_))
 refine qD rfl (zA (v := (.pointer (some ⟨p, 0, none⟩))) rfl) ?_
 refine qD rfl (zA (v := (.pointer (some ⟨p, 0, none⟩))) rfl) ?_
 refine qD rfl (zA (v := (.int .i64 f)) rfl) ?_
 refine qI rfl (zN (vs := [(.pointer (some ⟨p, 0, none⟩)), (.int .i64 f), (.bool true)]) Tryz.func154 nm154 rfl rfl rfl ?_)
 refine Calls.mono (reduced_t (N := N) (m := m) hX0.pins hpk hok ((PX.refl _).place hf) hfN (by omega) ih hm) ?_
 rintro _ w11 ⟨u4, zs5, L6, R7, B8, q9, G10, rfl, hpk13, hok14, hpx15, hlo16, hx17, ho12, hnp19, hre18, hbu20⟩
 refine ⟨_, rfl, ?_⟩
 have hX21 := hX0.trans hx17 hpin
 have hpin22 := PIn.call hpin hlo16 hX0.size
 have hql23 := hpx15.len
 have hml24 : (q9.ns.map Nd.l).length = q9.ns.length ∧ (q9.ns.map Nd.r).length = q9.ns.length := ⟨List.length_map .., List.length_map ..⟩
 have hml25 : q9.bs.length = q9.ns.length ∧ q9.ns.length ≤ 1048576 := ⟨hok14.ar.ok.len, hok14.ar.ok.lim⟩
 have ho26 := ho12.weaken hX0.size
 have hzl27 := hre18.len
 refine qD rfl (zA (v := (.pointer (some ⟨p, 0, none⟩))) rfl) ?_
 refine qD rfl (zA (v := (.int .i64 f)) rfl) ?_
 refine qI rfl (zN (vs := [(.pointer (some ⟨p, 0, none⟩)), (.int .i64 f), (.bool false)]) Tryz.func154 nm154 rfl rfl rfl ?_)
 refine Calls.mono (reduced_f (N := N) (m := m) hX21.pins hpk13 hok14 (hpx15.place hf) hfN (by omega) ih hm) ?_
 rintro _ w35 ⟨u28, zs29, L30, R31, B32, q33, G34, rfl, hpk37, hok38, hpx39, hlo40, hx41, ho36, hnp43, hre42, hbu44⟩
 refine ⟨_, rfl, ?_⟩
 have hX45 := hX21.trans hx41 hpin22
 have ho46 := ho26.extS hx41 hnp19
 have hnp47 := NP.call hnp19 hlo40 (xW ho26)
 have hpin48 := PIn.call hpin22 hlo40 hX21.size
 have hql49 := hpx39.len
 have hml50 : (q33.ns.map Nd.l).length = q33.ns.length ∧ (q33.ns.map Nd.r).length = q33.ns.length := ⟨List.length_map .., List.length_map ..⟩
 have hml51 : q33.bs.length = q33.ns.length ∧ q33.ns.length ≤ 1048576 := ⟨hok38.ar.ok.len, hok38.ar.ok.lim⟩
 have ha52 : Apart u28.ownBlock u4.ownBlock := zT ho36.lt ho26.lt
 have ho53 := ho36.weaken hX21.size
 have hzl54 := hre42.len
 obtain ⟨G55, hle58, hX57, hr56, hf59⟩ := ho46.sealed hX45
 have ho60 := ho53.moreO hle58 hf59 ha52
 have hpk61 := hpk37.moreO hle58 hf59 hnp47
 obtain ⟨G62, hle65, hX64, hr63, hf66⟩ := ho60.sealed hX57
 have hpk67 := hpk61.moreO hle65 hf66 hnp43
 have hr1 := hre18.px (hpx15.place hf) hpx39 hok14 hok38
 have hr2 := hre42
 refine qI rfl (zN (vs := [(.pointer (some ⟨p, 0, none⟩)), u4, u28]) Tryz.func79 nm79 rfl rfl rfl ?_)
 refine Calls.mono (node_spec hX64.pins hpk67 hok38 (hr56.mono hle65) hr63 (by omega) ⟨hr1.len, hr2.len⟩ (xY hr1.pl) (xY hr2.pl)) ?_
 rintro _ w78 ⟨z68, L73, R74, B75, q76, G77, rfl, hpk79, hok80, hpx81, hlo82, hx83, hpl69, hpd70, hqn71, hcm72⟩
 refine ⟨_, rfl, ?_⟩
 have hX84 := hX64.trans hx83 hpin48
 have hpin85 := PIn.call hpin48 hlo82 hX64.size
 have hql86 := hpx81.len
 have hml87 : (q76.ns.map Nd.l).length = q76.ns.length ∧ (q76.ns.map Nd.r).length = q76.ns.length := ⟨List.length_map .., List.length_map ..⟩
 have hml88 : q76.bs.length = q76.ns.length ∧ q76.ns.length ≤ 1048576 := ⟨hok80.ar.ok.len, hok80.ar.ok.lim⟩
 have hcd := canon_done hr1 hr2 hpd70
 have hf3 := (PX.trans hpx15 hpx39).place hf
 have hf4 := hpx81.place hf3
 have hcd2 : eqG (pd q76 z68) (pd q76 f) := by rw [hpx81.pd hok38 hok80 hf3]; exact hcd.2
 have hgrow : q76.ns.length + unc { q76 with cm := putE q76.cm f z68 } N ≤ q33.ns.length + unc q33 N := by
  cases hlf : Go.GL.look q33.cm f with
  | none =>
   have h1 := unc_put (q := q76) (z := z68) hf.1 (by rw [hcm72.1]; exact hlf) N hfN
   have h2 := unc_px hpx81 N
   have := hqn71
   omega
  | some y =>
   obtain ⟨_, h2, h3, h4⟩ := hok38.can f y hlf
   have h5 : pd q76 y = pd q76 z68 := by
    rw [hpx81.pd hok38 hok80 h2]
    exact canon_unique h3 hcd.1 ⟨xR h4.1 hcd.2.2, xR hcd.2.1 h4.2⟩
   have h6 := hpx81.place h2
   have h7 := h2.1; have h8 := h2.2; have h9 := h6.2; have h10 := hpl69.1; have h11 := hpl69.2
   have h12 := hok80.ar.inj (i := y.toNat) (j := z68.toNat) (by omega) (by omega) h5
   have h13 := unc_px (PX.trans hpx81 (PX.put (q := q76) (a := f) (z := z68))) N
   rcases hcm72.2 with h14 | h14 <;> omega
 refine qD rfl (zC (v := (.int .i64 z68)) rfl) ?_
 refine qe (zB (zE (zF ?_)))
 refine qD rfl (zA (v := (.pointer (some ⟨p, 0, none⟩))) rfl) ?_
 refine qD rfl (yP rfl) ?_
 refine qD rfl (zL (k := 5) rfl Tryz.underlying72 rfl nz69 rfl) ?_
 refine qD rfl (zQ (u := (.map (some mm.c))) ag69 rfl (hpk79.bx.cell (o := 5) rfl)) ?_
 refine qD rfl (zA (v := (.int .i64 f)) rfl) ?_
 refine qD rfl (zA (v := (.int .i64 z68)) rfl) ?_
 refine q0 rfl rfl rfl (qB (val := (fun v : Int => Value.int .i64 v)) (k := f) (v := z68) (key_int Tryz.underlying3) Tryz.underlying69 rfl rfl rfl hX84.pins hpk79.fc (fun w89 hm90 hp91 hg92 hz93 => ?_))
 have hX95 := hX84.trans (Ext.one hp91 hg92) (fun i hi => (PIn.c hpin85) i hi)
 have hpk94 := hpk79.setC (Ext.one hp91 hg92) hm90
 have hok98 := PoolOk.setC hok80 (hf4.same ⟨rfl, rfl⟩) (hpl69.same ⟨rfl, rfl⟩) (by rw [qW ⟨rfl, rfl⟩]; exact hcd.1) (by rw [qW ⟨rfl, rfl⟩, qW ⟨rfl, rfl⟩]; exact hcd2)
 obtain ⟨q96, hq97⟩ : ∃ q, q = ({ q76 with cm := putE q76.cm f z68 } : PSt) := ⟨_, rfl⟩
 rw [← hq97] at hpk94 hok98
 have hq97n : q96.ns = q76.ns ∧ q96.bs = q76.bs := by rw [hq97]; exact ⟨rfl, rfl⟩
 have hq97x : PX q76 q96 := by rw [hq97]; exact PX.put
 have hml99 : (q96.ns.map Nd.l).length = q96.ns.length ∧ (q96.ns.map Nd.r).length = q96.ns.length := ⟨List.length_map .., List.length_map ..⟩
 have hml100 : q96.bs.length = q96.ns.length ∧ q96.ns.length ≤ 1048576 := ⟨hok98.ar.ok.len, hok98.ar.ok.lim⟩
 have hql101 := hq97x.len
 refine qe (zB (zE (zF ?_)))
 refine qD rfl (zA (v := (.pointer (some ⟨p, 0, none⟩))) rfl) ?_
 refine qD rfl (yP rfl) ?_
 refine qD rfl (zL (k := 5) rfl Tryz.underlying72 rfl nz69 rfl) ?_
 refine qD rfl (zQ (u := (.map (some mm.c))) ag69 rfl (hpk94.bx.cell (o := 5) rfl)) ?_
 refine qD rfl (zA (v := (.int .i64 z68)) rfl) ?_
 refine qD rfl (zA (v := (.int .i64 z68)) rfl) ?_
 refine q0 rfl rfl rfl (qB (val := (fun v : Int => Value.int .i64 v)) (k := z68) (v := z68) (key_int Tryz.underlying3) Tryz.underlying69 rfl rfl rfl hX95.pins hpk94.fc (fun w102 hm103 hp104 hg105 hz106 => ?_))
 have hX108 := hX95.trans (Ext.one hp104 hg105) (fun i hi => (PIn.c hpin85) i hi)
 have hpk107 := hpk94.setC (Ext.one hp104 hg105) hm103
 have hok111 := PoolOk.setC hok98 (hpl69.same hq97n) (hpl69.same hq97n) (by rw [qW hq97n]; exact hcd.1) ⟨ge_refl _, ge_refl _⟩
 obtain ⟨q109, hq110⟩ : ∃ q, q = ({ q96 with cm := putE q96.cm z68 z68 } : PSt) := ⟨_, rfl⟩
 rw [← hq110] at hpk107 hok111
 have hq110n : q109.ns = q96.ns ∧ q109.bs = q96.bs := by rw [hq110]; exact ⟨rfl, rfl⟩
 have hq110x : PX q96 q109 := by rw [hq110]; exact PX.put
 have hml112 : (q109.ns.map Nd.l).length = q109.ns.length ∧ (q109.ns.map Nd.r).length = q109.ns.length := ⟨List.length_map .., List.length_map ..⟩
 have hml113 : q109.bs.length = q109.ns.length ∧ q109.ns.length ≤ 1048576 := ⟨hok111.ar.ok.len, hok111.ar.ok.lim⟩
 have hql114 := hq110x.len
 refine qe (zB (zE (zF ?_)))
 refine qD rfl (zA (v := (.int .i64 z68)) rfl) ?_
 refine qD rfl (zC (v := (.int .i64 z68)) rfl) ?_
 refine qe (zB ?_)
 refine wp_ret ?_
 refine zW ?_
 refine zS (v := (.int .i64 z68)) rfl rfl rfl ?_
 have hlast := unc_px hq110x N
 have hln := congrArg List.length ((zU hq97n hq110n)).1
 have hnew : q109.ns.length + unc q109 N ≤ q.ns.length + unc q N := by rw [hq97] at hlast; omega
 exact ⟨_, L73, R74, B75, q109, G77, rfl, hpk107, hok111, (PX.trans (PX.trans (PX.trans (PX.trans hpx15 hpx39) hpx81) hq97x) hq110x), PIn.lo hpin85 rfl, hX108, hpl69.same (zU hq97n hq110n), (by rw [qW (zU hq97n hq110n)]; exact hcd.1), (by rw [qW (zU hq97n hq110n), qW (zU hq97n hq110n)]; exact hcd2), hnew⟩

theorem canon_all {p N : Nat} {mm : PM} : ∀ m, CanP N m p mm
 | 0 => fun _ _ _ _ _ _ h => absurd h (Nat.not_lt_zero _)
 | m + 1 => fun hP hpk hok hf hfN hb hm => canon_step hP hpk hok hf hfN hb (canon_all m) hm
theorem canon_spec {w : World} {G : Pin} {L R B : Value} {q : PSt} {f : Int} {p : Nat} {mm : PM} {N : Nat} (hP : Pins G w) (hpk : Pk 65 3 G w p L R B mm q) (hok : PoolOk q) (hf : PlaceOk q f) (hfN : f < (N : Int)) (hbud : q.ns.length + unc q N < 1048576) :
  Calls Tryz.prog 124 [(.pointer (some ⟨p, 0, none⟩)), (.int .i64 f)].toArray w fun e w' => ∃ (z : Int) (L' R' B' : Value) (q' : PSt) (G' : Pin), e = .returned (.int .i64 z) ∧ Pk 65 3 G' w' p L' R' B' mm q' ∧ PoolOk q' ∧ PX q q' ∧ PLo w p L R B mm L' R' B' ∧ Ext (inP p L R B mm) G w G' w' ∧ PlaceOk q' z ∧ CanonG (pd q' z) ∧ eqG (pd q' z) (pd q' f) ∧ q'.ns.length + unc q' N ≤ q.ns.length + unc q N :=
 canon_all _ hP hpk hok hf hfN hbud (Nat.lt_succ_self _)

end CN4
end Go.Proofs.YtfnginkcmcfdfaaGreatDoor

set_option maxRecDepth 20000
set_option maxHeartbeats 2000000
namespace Go.Proofs.YtfnginkcmcfdfaaGreatDoor
namespace AS2
open Go.RowKit Go.GL Go.Proofs
open Go.Proofs.YtfnginkcmcfdfaaGreatDoor.B1
open Go.Proofs.YtfnginkcmcfdfaaGreatDoor.K1
open Go.Proofs.YtfnginkcmcfdfaaGreatDoor.PO1
open Go.Proofs.YtfnginkcmcfdfaaGreatDoor.PL1
open Go.Proofs.YtfnginkcmcfdfaaGreatDoor.PA1
open Go.Proofs.YtfnginkcmcfdfaaGreatDoor.DI1
open Go.Proofs.YtfnginkcmcfdfaaGreatDoor.RI1
open Go.Proofs.YtfnginkcmcfdfaaGreatDoor.CN1
open Go.Proofs.YtfnginkcmcfdfaaGreatDoor.CN2
open Go.Proofs.YtfnginkcmcfdfaaGreatDoor.CN3
open Go.Proofs.YtfnginkcmcfdfaaGreatDoor.CN4




theorem canonOf_spec {w : World} {G : Pin} {p : Nat} {L R B : Value} {mm : PM} {q : PSt} (hP : Pins G w) (hpk : Pk 65 3 G w p L R B mm q) (hok : PoolOk q) {x : Value} {fs : List Nd} (hx : RSl eNode G x fs) (hf : FormOk fs) (hl : 2 * (q.ns.length + fs.length) < 1048576) (hf1 : 1 ≤ fs.length) :
  Calls Tryz.prog 69 [(.pointer (some ⟨p, 0, none⟩)), (.agg [x].toArray)].toArray w fun e w' => ∃ (z : Int) (L' R' B' : Value) (q' : PSt) (G' : Pin), e = .returned (.int .i64 z) ∧ Pk 65 3 G' w' p L' R' B' mm q' ∧ PoolOk q' ∧ PX q q' ∧ PLo w p L R B mm L' R' B' ∧ Ext (inP p L R B mm) G w G' w' ∧ PlaceOk q' z ∧ CanonG (pd q' z) ∧ eqG (pd q' z) (gOf fs) ∧ q'.ns.length ≤ 2 * (q.ns.length + fs.length) := by
 refine yE (n := 10) Tryz.func69 Tryz.ntmps69 rfl rfl ?_
 have hX0 : Ext (inP p L R B mm) G w G w := Ext.refl hP
 have hpin : PIn w (inP p L R B mm) p L R B mm := PIn.self
 have hml1 : (q.ns.map Nd.l).length = q.ns.length ∧ (q.ns.map Nd.r).length = q.ns.length := ⟨List.length_map .., List.length_map ..⟩
 have hml2 : q.bs.length = q.ns.length ∧ q.ns.length ≤ 1048576 := ⟨hok.ar.ok.len, hok.ar.ok.lim⟩
 have hfl := hf.len
 refine zE (zF ?_)
 refine qI rfl (qC [x] (v := (.agg [x].toArray)) rfl rfl hX0.pins (fun b3 w4 hk5 hb6 hp7 hl8 => ?_))
 have hX9 := hX0.step hp7 hl8
 have hpk10 := hpk.below hl8 hp7
 have ha15 := hpk.new (x := (some b3)) (fun k hk => by rw [(congrArg some hk5)] at hk; cases hk; exact Nat.le_refl _)
 have hlo16 : w.heap.size ≤ b3 := by have := hX0.size; omega
 obtain ⟨G17, hle18, hX19, hbp20, hf21⟩ := hb6.shut hX9 hlo16
 have hpk22 := hpk10.more hle18 hf21 ha15
 refine qD rfl (zC (v := (.int .i64 0)) rfl) ?_
 refine qe (zB (zE (zF ?_)))
 refine qD rfl (zA (v := (.pointer (some ⟨p, 0, none⟩))) rfl) ?_
 refine qD rfl (zA (v := (.pointer (some ⟨p, 0, none⟩))) rfl) ?_
 refine qD rfl (xN (cs := [x]) ag32 sz32 rfl (fun j u hj => hX19.pins _ _ _ (hbp20 _ _ (by simpa using hj)))) ?_
 refine qI rfl (zN (vs := [(.pointer (some ⟨p, 0, none⟩)), (.agg [x].toArray)]) Tryz.func53 nm53 rfl rfl rfl ?_)
 refine Calls.mono (root_spec hX19.pins hpk22 hok (hx.mono hle18) hf (by omega) hf1) ?_
 rintro _ w32 ⟨z23, L27, R28, B29, q30, G31, rfl, hpk33, hok34, hpx35, hlo36, hx37, hpl24, hpd25, hqn26⟩
 refine ⟨_, rfl, ?_⟩
 have hX38 := hX19.trans hx37 hpin
 have hpin39 := PIn.call hpin hlo36 hX19.size
 have hql40 := hpx35.len
 have hml41 : (q30.ns.map Nd.l).length = q30.ns.length ∧ (q30.ns.map Nd.r).length = q30.ns.length := ⟨List.length_map .., List.length_map ..⟩
 have hml42 : q30.bs.length = q30.ns.length ∧ q30.ns.length ≤ 1048576 := ⟨hok34.ar.ok.len, hok34.ar.ok.lim⟩
 refine qI rfl (zN (vs := [(.pointer (some ⟨p, 0, none⟩)), (.int .i64 z23)]) Tryz.func124 nm124 rfl rfl rfl ?_)
 refine Calls.mono (canon_spec hX38.pins hpk33 hok34 (N := q30.ns.length) hpl24 hpl24.2 (by have := unc_le (q := q30) q30.ns.length; omega)) ?_
 rintro _ w53 ⟨z43, L48, R49, B50, q51, G52, rfl, hpk54, hok55, hpx56, hlo57, hx58, hpl44, hcg45, heq46, hbu47⟩
 refine ⟨_, rfl, ?_⟩
 have hX59 := hX38.trans hx58 hpin39
 have hpin60 := PIn.call hpin39 hlo57 hX38.size
 have hql61 := hpx56.len
 have hml62 : (q51.ns.map Nd.l).length = q51.ns.length ∧ (q51.ns.map Nd.r).length = q51.ns.length := ⟨List.length_map .., List.length_map ..⟩
 have hml63 : q51.bs.length = q51.ns.length ∧ q51.ns.length ≤ 1048576 := ⟨hok55.ar.ok.len, hok55.ar.ok.lim⟩
 refine qD rfl (zC (v := (.int .i64 z43)) rfl) ?_
 refine qe (zB ?_)
 refine wp_ret ?_
 refine zW ?_
 refine zS (v := (.int .i64 z43)) rfl rfl rfl ?_
 have hce := heq46
 rw [((hpx56.pd hok34 hok55 hpl24).trans hpd25)] at hce
 have hun := unc_le (q := q30) q30.ns.length
 exact ⟨_, L48, R49, B50, q51, G52, rfl, hpk54, hok55, (PX.trans hpx35 hpx56), PIn.lo hpin60 rfl, hX59, hpl44, hcg45, hce, (by omega)⟩

end AS2
end Go.Proofs.YtfnginkcmcfdfaaGreatDoor
