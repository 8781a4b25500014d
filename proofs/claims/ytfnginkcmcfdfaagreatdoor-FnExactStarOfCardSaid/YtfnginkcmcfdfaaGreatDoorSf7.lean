/- Texts of this claim in one file: ST1, ST2, OR1, C61, C62, C63, ST3, ST4, LST. -/
import Derived.Test.YtfnginkcmcfdfaaGreatDoorSf6
import Derived.Test.YtfnginkcmcfdfaaGreatDoorChecked
set_option maxRecDepth 20000
set_option maxHeartbeats 2000000
namespace Go.Proofs.YtfnginkcmcfdfaaGreatDoor
namespace ST1
open Go.RowKit Go.GL Go.Proofs
open Go.Proofs.YtfnginkcmcfdfaaGreatDoor.B1
open Go.Proofs.YtfnginkcmcfdfaaGreatDoor.K1
open Go.Proofs.YtfnginkcmcfdfaaGreatDoor.PO1







theorem mk5 : (Tryz.prog.info? 5).map (fun i => (i.size, i.bytes, i.zero)) = some (1, 1, some (.int .u8 0)) := by kernel_rfl













theorem distinctO_spec {w : World} {G : Pin} {base : Nat} {v : Value} {xs : List Int} (hP : Pins G w) (hv : Own eInt 3 G w base v xs) (hs : xs.length ≤ 1048576) :
  Calls Tryz.prog 129 [v].toArray w fun e w' => ∃ (u : Value) (G' : Pin), e = .returned u ∧ Own eInt 3 G' w' w.heap.size u (sortL xs) ∧ Ext noS G w G' w' := by
 have hP2 := Gadd.pins hP v
 refine (distinct_spec hP2 hv.read hs).mono ?_
 rintro e w' ⟨u, G', rfl, ho, hx⟩
 exact ⟨u, G, rfl, ho.anti flat_int (Pin.le_trans (Gadd.le _ _ _) hx.le), deep_back hP hx⟩

theorem nodeL_spec {w : World} {G : Pin} {p : Nat} {L R B : Value} {mm : PM} {q : PSt} (hP : Pins G w) (hpk : Pk 65 3 G w p L R B mm q) (hok : PoolOk q) {x : Value} {xs ys : List Int} (hx : Own eInt 3 G w 0 x xs) (_hnp : NP p L R B mm x.ownBlock) (hxy : xs = ys) (hlim : q.ns.length + 1 ≤ 1048576) (hls : xs.length ≤ 1048576 ∧ ys.length ≤ 1048576) (hk1 : ∀ i, i < xs.length → 0 ≤ xs.getD i 0 ∧ xs.getD i 0 < q.ns.length) (hk2 : ∀ i, i < ys.length → 0 ≤ ys.getD i 0 ∧ ys.getD i 0 < q.ns.length) :
  Calls Tryz.prog 79 [(.pointer (some ⟨p, 0, none⟩)), x, x].toArray w fun e w' => ∃ (z : Int) (L' R' B' : Value) (q' : PSt) (G' : Pin), e = .returned (.int .i64 z) ∧ Pk 65 3 G' w' p L' R' B' mm q' ∧ PoolOk q' ∧ PX q q' ∧ PLo w p L R B mm L' R' B' ∧ Ext (inP p L R B mm) G w G' w' ∧ PlaceOk q' z ∧ pd q' z = mkG (xs.map (pd q)) (ys.map (pd q)) ∧ q'.ns.length ≤ q.ns.length + 1 ∧ (q'.cm = q.cm ∧ (q'.ns.length = q.ns.length ∨ z = q.ns.length)) := by
 refine yE (n := 130) Tryz.func79 Tryz.ntmps79 rfl rfl ?_
 have hX0 : Ext (inP p L R B mm) G w G w := Ext.refl hP
 have hpin : PIn w (inP p L R B mm) p L R B mm := PIn.self
 have hml1 : (q.ns.map Nd.l).length = q.ns.length ∧ (q.ns.map Nd.r).length = q.ns.length := ⟨List.length_map .., List.length_map ..⟩
 have hml2 : q.bs.length = q.ns.length ∧ q.ns.length ≤ 1048576 := ⟨hok.ar.ok.len, hok.ar.ok.lim⟩
 obtain ⟨xs2, hxs2⟩ : ∃ l, l = sortL xs := ⟨_, rfl⟩
 obtain ⟨ys2, hys2⟩ : ∃ l, l = sortL ys := ⟨_, rfl⟩
 have hb1 := sort_bounds hk1
 have hb2 := sort_bounds hk2
 rw [← hxs2] at hb1
 rw [← hys2] at hb2
 have hsl1 : xs2.length ≤ 1048576 := by rw [hxs2]; exact Nat.le_trans qF hls.1
 have hsl2 : ys2.length ≤ 1048576 := by rw [hys2]; exact Nat.le_trans qF hls.2
 refine zE (zF ?_)
 refine qD rfl (zC (v := (.int .i64 0)) rfl) ?_
 refine qe (zB (zE (zF ?_)))
 refine qD rfl (zA (v := x) rfl) ?_
 refine qI rfl (zN (vs := [x]) Tryz.func129 nm129 rfl rfl rfl ?_)
 refine Calls.mono (distinctO_spec hX0.pins hx (by omega)) ?_
 rintro _ w5 ⟨u3, G4, rfl, ho6, hx7⟩
 refine ⟨_, rfl, ?_⟩
 rw [← hxs2] at ho6
 have hX8 := hX0.tr hx7
 have ho9 := hx.ext hx7
 have hpk10 := hpk.ext hx7
 have hnp12 := hpk.new (x := u3.ownBlock) (fun k hk => (ho6.lt k hk).1)
 have ho13 : Own eInt 3 G4 w5 w.heap.size u3 xs2 := ho6.weaken hX0.size
 refine qD rfl (zA (v := x) rfl) ?_
 refine qI rfl (zN (vs := [x]) Tryz.func129 nm129 rfl rfl rfl ?_)
 refine Calls.mono (distinctO_spec hX8.pins ho9 (by omega)) ?_
 rintro _ w16 ⟨u14, G15, rfl, ho17, hx18⟩
 refine ⟨_, rfl, ?_⟩
 rw [hxy, ← hys2] at ho17
 have hX19 := hX8.tr hx18
 have ho20 := ho9.ext hx18
 have ho21 := ho13.ext hx18
 have hpk22 := hpk10.ext hx18
 have ha24 : Apart u14.ownBlock u3.ownBlock := zT ho17.lt ho13.lt
 have hnp25 := hpk10.new (x := u14.ownBlock) (fun k hk => (ho17.lt k hk).1)
 have ho26 : Own eInt 3 G15 w16 w.heap.size u14 ys2 := ho17.weaken hX8.size
 refine qD rfl (zC (v := u3) rfl) ?_
 refine qD rfl (zC (v := u14) rfl) ?_
 refine qe (zB (zE (zF ?_)))
 refine qD rfl (zA (v := u3) rfl) ?_
 refine qD rfl (zO Tryz.underlying65 (v := u3) rfl ho21.read) ?_
 refine qD rfl (zA (v := u14) rfl) ?_
 refine qD rfl (zO Tryz.underlying65 (v := u14) rfl ho26.read) ?_
 refine qD rfl (yJ rfl rfl (by omega)) ?_
 refine qD rfl (r_mul rfl rfl (by omega)) ?_
 refine qD rfl (yJ rfl rfl (by omega)) ?_
 refine qI rfl (o_make0 (E := eByte) Tryz.underlying132 mk5 rfl rfl hX19.pins (by omega) (by omega) (by omega) (fun u27 w28 ho29 hp30 hl31 hk32 => ?_))
 have hX33 := hX19.step hp30 hl31
 have ho34 := ho20.below hl31
 have ho35 := ho21.below hl31
 have ho36 := ho26.below hl31
 have hpk37 := hpk22.below hl31 hp30
 have ha38 : Apart u27.ownBlock x.ownBlock := zJ hk32 ho20.lt
 have ha39 : Apart u27.ownBlock u3.ownBlock := zJ hk32 ho21.lt
 have ha43 : Apart u27.ownBlock u14.ownBlock := zJ hk32 ho26.lt
 have ha45 := hpk22.new (x := u27.ownBlock) (fun k hk => by rw [hk32] at hk; cases hk; exact Nat.le_refl _)
 have ho46 : Own eByte 5 G15 w28 w.heap.size u27 ([]) := ho29.weaken hX19.size
 refine qD rfl (zC (v := u27) rfl) ?_
 refine qe (zB (zE (zF ?_)))
 refine qD rfl (zC (v := (.int .i64 0)) rfl) ?_
 refine qe (zB (zE (zE (zF ?_))))
 refine qD rfl (zA (v := u3) rfl) ?_
 refine qD rfl (zO Tryz.underlying65 (v := u3) rfl ho35.read) ?_
 refine qD rfl (zA (v := (.int .i64 0)) rfl) ?_
 refine qe (zB ?_)
 refine yB ?_
 refine yM (fun (k : Nat) (en : Nat → Value) (W : World) => ∃ (env1 : Nat → Value) (i : Nat) (kva : Value) (kxa : List UInt8) (bn : Int) (GLa : Pin), en = (upd (upd (upd (upd (upd (upd (upd (upd (upd env1 0 (.pointer (some ⟨p, 0, none⟩))) 1 u3) 2 u14) 6 (.int .i64 0)) 7 kva) 8 (.int .i64 bn)) 28 u3) 29 (.int .i64 (xs2.length : Int))) 30 (.int .i64 (i : Int))) ∧ k = xs2.length - i ∧ Ext (inP p L R B mm) G w GLa W ∧ Pin.le G15 GLa ∧ (i ≤ xs2.length) ∧ (kxa = keyL (xs2.take i)) ∧ (bn = bornOf q.bs (xs2.take i) 0) ∧ (0 ≤ bn ∧ bn ≤ q.ns.length) ∧ (Own eByte 5 GLa W w.heap.size kva (kxa)) ∧ (Own eInt 3 GLa W 0 x (xs)) ∧ (Own eInt 3 GLa W w.heap.size u3 (xs2)) ∧ (Own eInt 3 GLa W w.heap.size u14 (ys2)) ∧ (Apart kva.ownBlock x.ownBlock) ∧ (Apart kva.ownBlock u3.ownBlock) ∧ (Apart kva.ownBlock u14.ownBlock) ∧ (Pk 65 3 GLa W p L R B mm q) ∧ (NP p L R B mm kva.ownBlock)) _ ⟨_, 0, u27, [], 0, G15, (zD (x := 30) (zD (x := 29) (zD (x := 28) (zD (x := 8) (zD (x := 7) (zD (x := 6) (zD (x := 2) (zD (x := 1) (zR (x := 0) rfl) rfl) rfl) rfl) rfl) rfl) rfl) rfl) rfl), rfl, hX33, Pin.le_refl _, Nat.zero_le _, (by simp [keyL]), rfl, (by omega), ho46, ho34, ho35, ho36, ha38, ha39, ha43, hpk37, ha45⟩ ?_
 rintro k51 _ w52 ⟨env1, i, kva, kxa, bn, GLa, rfl, hk53, hX54, hlek51, hji, hka, hbbn, hlbn, hw55, hw56, hw57, hw58, ha59, ha60, ha61, hpk62, hnp63⟩
 have hkla : kxa.length ≤ 117440640 := by
  have := key_bound (j := i) hb1 hok.ar.ok.lim
  rw [hka]; omega
 refine zE (zF ?_)
 refine qD rfl (yO rfl rfl) ?_
 refine qe (zB (zE ?_))
 refine yH (p := ((i : Int) : Int) < (xs2.length : Int)) rfl rfl (fun h64 => ?_) (fun h64 => ?_)
 ·skip
  have hki := hb1 i (by omega)
  have hbk := hok.ar.ok.born (xs2.getD i 0).toNat (by omega)
  have hd13 := dig13 (n := (xs2.getD i 0).toNat) (by omega)
  refine wp_skip ?_
  refine zB (zE ?_)
  refine yB ?_
  refine zE (zF ?_)
  refine qD rfl (zK Tryz.underlying65 sz3 (v := u3) rfl rfl hw57.read (by omega) (by omega)) ?_
  refine qD rfl (zI (r := xs2.getD i 0) rfl ag3 (z := (i : Int)) rfl hw57.read (Gadd.pins hX54.pins u3) (by omega) (by omega)) ?_
  refine qD rfl (zC (v := (.int .i64 (xs2.getD i 0))) rfl) ?_
  refine qe (zB (zE (zF ?_)))
  refine qD rfl (zA (v := kva) rfl) ?_
  refine qD rfl (zA (v := (.int .i64 (xs2.getD i 0))) rfl) ?_
  refine qI rfl (zN (vs := [kva, (.int .i64 (xs2.getD i 0)), (.int .i64 36)]) Tryz.func130 nm130 rfl rfl rfl ?_)
  refine Calls.mono (appendInt_spec (i := xs2.getD i 0) hX54.pins (hw55.weaken (Nat.zero_le _)) (by omega) (by omega)) ?_
  rintro _ w67 ⟨u65, G66, rfl, ho68, hlo69, hx70⟩
  refine ⟨_, rfl, ?_⟩
  have hnp71 := np_turn hnp63 hpk62 hlo69
  have hX72 := hX54.trans hx70 (fun i hi => (yG hw55) i hi)
  have ho73 := hw56.extS hx70 (notO ha59.symm)
  have ho74 := hw57.extS hx70 (notO ha60.symm)
  have ho75 := hw58.extS hx70 (notO ha61.symm)
  have hpk76 := hpk62.extS hx70 (fun k hk hx => hnp63 k hx hk)
  have ha77 : Apart x.ownBlock u65.ownBlock := ap_turn hlo69 ha59.symm (xW hw56)
  have ha78 : Apart u3.ownBlock u65.ownBlock := ap_turn hlo69 ha60.symm (xW hw57)
  have ha79 : Apart u14.ownBlock u65.ownBlock := ap_turn hlo69 ha61.symm (xW hw58)
  have ho80 := ho68.up (lo := w.heap.size) (fun k hk => (hlo69 k hk).elim (fun h => Nat.le_trans hX54.size h) (fun h => (hw55.lt k h).1))
  have hm81 : (kxa ++ dig36 (xs2.getD i 0).toNat).length = kxa.length + (dig36 (xs2.getD i 0).toNat).length := List.length_append
  refine qI rfl (yQ (E := eByte) (e := 5) [(.int .u8 44)] [44] Tryz.underlying132 sz5 zr5 (by exact xL (by rfl)) (xA (by rfl)) rfl rfl rfl rfl (by decide) hX72.pins (fun u82 w83 ho84 hp85 hl86 hk87 => ?_))
  have hX88 := hX72.step hp85 hl86
  have ho89 := ho73.below hl86
  have ho90 := ho74.below hl86
  have ho91 := ho75.below hl86
  have ho92 := ho80.below hl86
  have hpk93 := hpk76.below hl86 hp85
  have ho103 : Own eByte 5 G66 w83 w.heap.size u82 ([44]) := ho84.weaken hX72.size
  refine qI rfl (zX (E := eByte) (v := u65) (u := u82) 1 Tryz.underlying132 ap5 (by decide) rfl rfl hX88.pins ho92 ho103.src (by first | omega | (rw [List.nil_append]; omega) | (rw [List.length_nil]; omega) | (rw [List.length_append]; omega) | (simp; done) | (simp; omega) | (simp only [List.length_append, List.length_cons, List.length_nil]; omega)) (by first | omega | (rw [List.nil_append]; omega) | (rw [List.length_nil]; omega) | (rw [List.length_append]; omega) | (simp; done) | (simp; omega) | (simp only [List.length_append, List.length_cons, List.length_nil]; omega)) (hX88.size) (fun u104 w105 ho106 hp107 hg108 hw109 => ?_))
  have hX110 := hX88.write hp107 hg108 ((yG ho92))
  have ho111 := ho89.keptA hg108 ha77
  have ho112 := ho90.keptA hg108 ha78
  have ho113 := ho91.keptA hg108 ha79
  have hpk115 := hpk93.kept hg108 hp107 hnp71
  have ha116 : Apart x.ownBlock u104.ownBlock := zH ha77 hw109 ho89.lt
  have ha117 : Apart u3.ownBlock u104.ownBlock := zH ha78 hw109 ho90.lt
  have ha118 : Apart u14.ownBlock u104.ownBlock := zH ha79 hw109 ho91.lt
  have hnp120 := qP hnp71 hpk93 hw109
  have hm121 : ((kxa ++ dig36 (xs2.getD i 0).toNat) ++ ([44])).length = (kxa ++ dig36 (xs2.getD i 0).toNat).length + 1 := List.length_append
  refine qD rfl (zC (v := u104) rfl) ?_
  refine qe (zB (zF ?_))
  refine qD rfl (zA (v := (.int .i64 bn)) rfl) ?_
  refine qD rfl (zA (v := (.pointer (some ⟨p, 0, none⟩))) rfl) ?_
  refine qD rfl (yP rfl) ?_
  refine qD rfl (zL (k := 2) rfl Tryz.underlying72 rfl nz65 rfl) ?_
  refine qD rfl (zQ (u := B) ag65 rfl (hpk115.bx.cell (o := 2) rfl)) ?_
  refine qD rfl (zA (v := (.int .i64 (xs2.getD i 0))) rfl) ?_
  refine qD rfl (zK Tryz.underlying65 sz3 (v := B) rfl rfl hpk115.ob.read (by omega) (by omega)) ?_
  refine qD rfl (zI (r := q.bs.getD (xs2.getD i 0).toNat 0) rfl ag3 (z := (xs2.getD i 0)) rfl hpk115.ob.read (Gadd.pins hX110.pins B) (by omega) (by omega)) ?_
  refine qD rfl (yJ rfl rfl (by omega)) ?_
  refine qD rfl (r_max rfl rfl) ?_
  refine qD rfl (zC (v := (.int .i64 (max bn ((q.bs.getD (xs2.getD i 0).toNat 0) + 1)))) rfl) ?_
  refine qe ?_
  refine yC ?_
  refine zB (zF ?_)
  refine qD rfl (yJ rfl rfl (by omega)) ?_
  refine qD rfl (zA (v := (.int .i64 ((i : Int) + 1))) rfl) ?_
  refine qe ?_
  refine yA ?_
  refine ⟨_, ?_, _, rfl, _, i + 1, u104, (kxa ++ dig36 (xs2.getD i 0).toNat) ++ ([44]), max bn ((q.bs.getD (xs2.getD i 0).toNat 0) + 1), G66, (zD (x := 30) (zD (x := 29) (zD (x := 28) (zD (x := 8) (zD (x := 7) (zD (x := 6) (zD (x := 2) (zD (x := 1) (zR (x := 0) rfl) rfl) rfl) rfl) rfl) rfl) rfl) rfl) rfl), rfl, hX110, (Pin.le_trans hlek51 hx70.le), (by omega), (by rw [key_next (by omega), hka]), (by rw [hbbn, born_next (by omega)]), (by omega), ho106, ho111, ho112, ho113, ha116.symm, ha117.symm, ha118.symm, hpk115, hnp120⟩
  omega
 refine wp_exit ?_
 refine zZ ?_
 refine yK ?_
 refine yI ?_
 refine zB (zE (zF ?_))
 refine qD rfl (zA (v := kva) rfl) ?_
 refine qI rfl (yQ (E := eByte) (e := 5) [(.int .u8 124)] [124] Tryz.underlying132 sz5 zr5 (by exact xL (by rfl)) (xA (by rfl)) rfl rfl rfl rfl (by decide) hX54.pins (fun u122 w123 ho124 hp125 hl126 hk127 => ?_))
 have hX128 := hX54.step hp125 hl126
 have ho129 := hw55.below hl126
 have ho130 := hw56.below hl126
 have ho131 := hw57.below hl126
 have ho132 := hw58.below hl126
 have hpk133 := hpk62.below hl126 hp125
 have ho143 : Own eByte 5 GLa w123 w.heap.size u122 ([124]) := ho124.weaken hX54.size
 refine qI rfl (zX (E := eByte) (v := kva) (u := u122) 1 Tryz.underlying132 ap5 (by decide) rfl rfl hX128.pins ho129 ho143.src (by first | omega | (rw [List.nil_append]; omega) | (rw [List.length_nil]; omega) | (rw [List.length_append]; omega) | (simp; done) | (simp; omega) | (simp only [List.length_append, List.length_cons, List.length_nil]; omega)) (by first | omega | (rw [List.nil_append]; omega) | (rw [List.length_nil]; omega) | (rw [List.length_append]; omega) | (simp; done) | (simp; omega) | (simp only [List.length_append, List.length_cons, List.length_nil]; omega)) (hX128.size) (fun u144 w145 ho146 hp147 hg148 hw149 => ?_))
 have hX150 := hX128.write hp147 hg148 ((yG ho129))
 have ho151 := ho130.keptA hg148 ha59.symm
 have ho152 := ho131.keptA hg148 ha60.symm
 have ho153 := ho132.keptA hg148 ha61.symm
 have hpk155 := hpk133.kept hg148 hp147 hnp63
 have ha156 : Apart x.ownBlock u144.ownBlock := zH ha59.symm hw149 ho130.lt
 have ha157 : Apart u3.ownBlock u144.ownBlock := zH ha60.symm hw149 ho131.lt
 have ha158 : Apart u14.ownBlock u144.ownBlock := zH ha61.symm hw149 ho132.lt
 have hnp160 := qP hnp63 hpk133 hw149
 have hm161 : (kxa ++ ([124])).length = kxa.length + 1 := List.length_append
 refine qD rfl (zC (v := u144) rfl) ?_
 refine qe (zB (zE (zE (zF ?_))))
 rw [qX (by omega)] at hka hbbn
 have hkk : keyL xs2 ++ [124] = kxa ++ [124] := by rw [hka]
 refine qD rfl (zA (v := u14) rfl) ?_
 refine qD rfl (zO Tryz.underlying65 (v := u14) rfl ho153.read) ?_
 refine qD rfl (zA (v := (.int .i64 0)) rfl) ?_
 refine qe (zB ?_)
 refine yB ?_
 refine yM (fun (k : Nat) (en : Nat → Value) (W : World) => ∃ (env1 : Nat → Value) (i2 : Nat) (kvb : Value) (kxb : List UInt8) (bm : Int) (GLb : Pin), en = (upd (upd (upd (upd (upd (upd (upd (upd (upd env1 0 (.pointer (some ⟨p, 0, none⟩))) 1 u3) 2 u14) 6 (.int .i64 0)) 7 kvb) 8 (.int .i64 bm)) 53 u14) 54 (.int .i64 (ys2.length : Int))) 55 (.int .i64 (i2 : Int))) ∧ k = ys2.length - i2 ∧ Ext (inP p L R B mm) G w GLb W ∧ Pin.le GLa GLb ∧ (i2 ≤ ys2.length) ∧ (kxb = keyL xs2 ++ [124] ++ keyL (ys2.take i2)) ∧ (bm = bornOf q.bs (ys2.take i2) bn) ∧ (0 ≤ bm ∧ bm ≤ q.ns.length) ∧ (Own eByte 5 GLb W w.heap.size kvb (kxb)) ∧ (Own eInt 3 GLb W 0 x (xs)) ∧ (Own eInt 3 GLb W w.heap.size u3 (xs2)) ∧ (Own eInt 3 GLb W w.heap.size u14 (ys2)) ∧ (Apart kvb.ownBlock x.ownBlock) ∧ (Apart kvb.ownBlock u3.ownBlock) ∧ (Apart kvb.ownBlock u14.ownBlock) ∧ (Pk 65 3 GLb W p L R B mm q) ∧ (NP p L R B mm kvb.ownBlock)) _ ⟨_, 0, u144, kxa ++ ([124]), bn, GLa, (zD (x := 55) (zD (x := 54) (zD (x := 53) (zD (x := 8) (zD (x := 7) (zD (x := 6) (zD (x := 2) (zD (x := 1) (zR (x := 0) rfl) rfl) rfl) rfl) rfl) rfl) rfl) rfl) rfl), rfl, hX150, Pin.le_refl _, Nat.zero_le _, (by rw [← hkk]; simp [keyL]), rfl, (by omega), ho146, ho151, ho152, ho153, ha156.symm, ha157.symm, ha158.symm, hpk155, hnp160⟩ ?_
 rintro k166 _ w167 ⟨env1, i2, kvb, kxb, bm, GLb, rfl, hk168, hX169, hlek166, hji2, hkb, hbbm, hlbm, hw170, hw171, hw172, hw173, ha174, ha175, ha176, hpk177, hnp178⟩
 have hklb : kxb.length ≤ 117440640 := by
  have := key_bound (j := i2) hb2 hok.ar.ok.lim
  have h2 := key_bound (j := xs2.length) hb1 hok.ar.ok.lim; rw [hkb, List.length_append, List.length_append]; simp only [List.length_cons, List.length_nil]; rw [qX (Nat.le_refl _)] at h2; omega
 refine zE (zF ?_)
 refine qD rfl (yO rfl rfl) ?_
 refine qe (zB (zE ?_))
 refine yH (p := ((i2 : Int) : Int) < (ys2.length : Int)) rfl rfl (fun h179 => ?_) (fun h179 => ?_)
 ·skip
  have hki := hb2 i2 (by omega)
  have hbk := hok.ar.ok.born (ys2.getD i2 0).toNat (by omega)
  have hd13 := dig13 (n := (ys2.getD i2 0).toNat) (by omega)
  refine wp_skip ?_
  refine zB (zE ?_)
  refine yB ?_
  refine zE (zF ?_)
  refine qD rfl (zK Tryz.underlying65 sz3 (v := u14) rfl rfl hw173.read (by omega) (by omega)) ?_
  refine qD rfl (zI (r := ys2.getD i2 0) rfl ag3 (z := (i2 : Int)) rfl hw173.read (Gadd.pins hX169.pins u14) (by omega) (by omega)) ?_
  refine qD rfl (zC (v := (.int .i64 (ys2.getD i2 0))) rfl) ?_
  refine qe (zB (zE (zF ?_)))
  refine qD rfl (zA (v := kvb) rfl) ?_
  refine qD rfl (zA (v := (.int .i64 (ys2.getD i2 0))) rfl) ?_
  refine qI rfl (zN (vs := [kvb, (.int .i64 (ys2.getD i2 0)), (.int .i64 36)]) Tryz.func130 nm130 rfl rfl rfl ?_)
  refine Calls.mono (appendInt_spec (i := ys2.getD i2 0) hX169.pins (hw170.weaken (Nat.zero_le _)) (by omega) (by omega)) ?_
  rintro _ w182 ⟨u180, G181, rfl, ho183, hlo184, hx185⟩
  refine ⟨_, rfl, ?_⟩
  have hnp186 := np_turn hnp178 hpk177 hlo184
  have hX187 := hX169.trans hx185 (fun i hi => (yG hw170) i hi)
  have ho188 := hw171.extS hx185 (notO ha174.symm)
  have ho189 := hw172.extS hx185 (notO ha175.symm)
  have ho190 := hw173.extS hx185 (notO ha176.symm)
  have hpk191 := hpk177.extS hx185 (fun k hk hx => hnp178 k hx hk)
  have ha192 : Apart x.ownBlock u180.ownBlock := ap_turn hlo184 ha174.symm (xW hw171)
  have ha193 : Apart u3.ownBlock u180.ownBlock := ap_turn hlo184 ha175.symm (xW hw172)
  have ha194 : Apart u14.ownBlock u180.ownBlock := ap_turn hlo184 ha176.symm (xW hw173)
  have ho195 := ho183.up (lo := w.heap.size) (fun k hk => (hlo184 k hk).elim (fun h => Nat.le_trans hX169.size h) (fun h => (hw170.lt k h).1))
  have hm196 : (kxb ++ dig36 (ys2.getD i2 0).toNat).length = kxb.length + (dig36 (ys2.getD i2 0).toNat).length := List.length_append
  refine qI rfl (yQ (E := eByte) (e := 5) [(.int .u8 44)] [44] Tryz.underlying132 sz5 zr5 (by exact xL (by rfl)) (xA (by rfl)) rfl rfl rfl rfl (by decide) hX187.pins (fun u197 w198 ho199 hp200 hl201 hk202 => ?_))
  have hX203 := hX187.step hp200 hl201
  have ho204 := ho188.below hl201
  have ho205 := ho189.below hl201
  have ho206 := ho190.below hl201
  have ho207 := ho195.below hl201
  have hpk208 := hpk191.below hl201 hp200
  have ho218 : Own eByte 5 G181 w198 w.heap.size u197 ([44]) := ho199.weaken hX187.size
  refine qI rfl (zX (E := eByte) (v := u180) (u := u197) 1 Tryz.underlying132 ap5 (by decide) rfl rfl hX203.pins ho207 ho218.src (by first | omega | (rw [List.nil_append]; omega) | (rw [List.length_nil]; omega) | (rw [List.length_append]; omega) | (simp; done) | (simp; omega) | (simp only [List.length_append, List.length_cons, List.length_nil]; omega)) (by first | omega | (rw [List.nil_append]; omega) | (rw [List.length_nil]; omega) | (rw [List.length_append]; omega) | (simp; done) | (simp; omega) | (simp only [List.length_append, List.length_cons, List.length_nil]; omega)) (hX203.size) (fun u219 w220 ho221 hp222 hg223 hw224 => ?_))
  have hX225 := hX203.write hp222 hg223 ((yG ho207))
  have ho226 := ho204.keptA hg223 ha192
  have ho227 := ho205.keptA hg223 ha193
  have ho228 := ho206.keptA hg223 ha194
  have hpk230 := hpk208.kept hg223 hp222 hnp186
  have ha231 : Apart x.ownBlock u219.ownBlock := zH ha192 hw224 ho204.lt
  have ha232 : Apart u3.ownBlock u219.ownBlock := zH ha193 hw224 ho205.lt
  have ha233 : Apart u14.ownBlock u219.ownBlock := zH ha194 hw224 ho206.lt
  have hnp235 := qP hnp186 hpk208 hw224
  have hm236 : ((kxb ++ dig36 (ys2.getD i2 0).toNat) ++ ([44])).length = (kxb ++ dig36 (ys2.getD i2 0).toNat).length + 1 := List.length_append
  refine qD rfl (zC (v := u219) rfl) ?_
  refine qe (zB (zF ?_))
  refine qD rfl (zA (v := (.int .i64 bm)) rfl) ?_
  refine qD rfl (zA (v := (.pointer (some ⟨p, 0, none⟩))) rfl) ?_
  refine qD rfl (yP rfl) ?_
  refine qD rfl (zL (k := 2) rfl Tryz.underlying72 rfl nz65 rfl) ?_
  refine qD rfl (zQ (u := B) ag65 rfl (hpk230.bx.cell (o := 2) rfl)) ?_
  refine qD rfl (zA (v := (.int .i64 (ys2.getD i2 0))) rfl) ?_
  refine qD rfl (zK Tryz.underlying65 sz3 (v := B) rfl rfl hpk230.ob.read (by omega) (by omega)) ?_
  refine qD rfl (zI (r := q.bs.getD (ys2.getD i2 0).toNat 0) rfl ag3 (z := (ys2.getD i2 0)) rfl hpk230.ob.read (Gadd.pins hX225.pins B) (by omega) (by omega)) ?_
  refine qD rfl (yJ rfl rfl (by omega)) ?_
  refine qD rfl (r_max rfl rfl) ?_
  refine qD rfl (zC (v := (.int .i64 (max bm ((q.bs.getD (ys2.getD i2 0).toNat 0) + 1)))) rfl) ?_
  refine qe ?_
  refine yC ?_
  refine zB (zF ?_)
  refine qD rfl (yJ rfl rfl (by omega)) ?_
  refine qD rfl (zA (v := (.int .i64 ((i2 : Int) + 1))) rfl) ?_
  refine qe ?_
  refine yA ?_
  refine ⟨_, ?_, _, rfl, _, i2 + 1, u219, (kxb ++ dig36 (ys2.getD i2 0).toNat) ++ ([44]), max bm ((q.bs.getD (ys2.getD i2 0).toNat 0) + 1), G181, (zD (x := 55) (zD (x := 54) (zD (x := 53) (zD (x := 8) (zD (x := 7) (zD (x := 6) (zD (x := 2) (zD (x := 1) (zR (x := 0) rfl) rfl) rfl) rfl) rfl) rfl) rfl) rfl) rfl), rfl, hX225, (Pin.le_trans hlek166 hx185.le), (by omega), (by rw [key_next (by omega), hkb]; simp only [List.append_assoc]), (by rw [hbbm, born_next (by omega)]), (by omega), ho221, ho226, ho227, ho228, ha231.symm, ha232.symm, ha233.symm, hpk230, hnp235⟩
  omega
 refine wp_exit ?_
 refine zZ ?_
 refine yK ?_
 refine yI ?_
 refine zB (zE (zE ?_))
 rw [qX (by omega)] at hkb hbbm
 have hkey : kxb = keyN xs2 ys2 := by rw [hkb]; rfl
 have hq237 := Gadd.pins hX169.pins kvb
 have hr238 := hw170.read
 refine xE (S := fun wz => BxR wz p [L, R, B, (.map (some mm.f)), (.map (some mm.o)), (.map (some mm.c)), (.map (some mm.s)), (.map (some mm.n))] ∧ Pins (Gadd GLb w167 kvb) wz) (last := 12) (by kernel_rfl) rfl ?_
 have hl239 : Below w167.heap.size w167 w167.drew := (Below.refl _ _).drew
 have hp240 := hX169.pins.below hl239
 have hX241 := hX169.step hp240 hl239
 have ho242 := hw170.below hl239
 have ho244 := hw172.below hl239
 have ho245 := hw173.below hl239
 have hpk246 := hpk177.below hl239 hp240
 have hq247 := hq237.below hl239
 refine dT (i := 0) rfl rfl (by kernel_rfl) (fun _ _ => zA (v := (.pointer (some ⟨p, 0, none⟩))) rfl) ⟨hpk246.bx.reads, hq247⟩ ?_
 refine dT (i := 1) rfl rfl (by kernel_rfl) (fun _ _ => yP rfl) ⟨hpk246.bx.reads, hq247⟩ ?_
 refine dT (i := 2) rfl rfl (by kernel_rfl) (fun _ _ => zL (k := 3) rfl Tryz.underlying72 rfl nz67 rfl) ⟨hpk246.bx.reads, hq247⟩ ?_
 refine dT (i := 3) rfl rfl (by kernel_rfl) (fun _ hS => zQ (u := (.map (some mm.f))) ag67 rfl (hS.1 3 _ rfl)) ⟨hpk246.bx.reads, hq247⟩ ?_
 refine dT (i := 4) rfl rfl (by kernel_rfl) (fun _ _ => zA (v := kvb) rfl) ⟨hpk246.bx.reads, hq247⟩ ?_
 refine zV (i := 5) (by kernel_rfl) (yD (i := 5) rfl rfl rfl (zG rfl _) (EO.run (r_b2s Tryz.underlying132 Tryz.underlying5 Tryz.underlying9 rfl ho242.read (Gadd.pins hX241.pins kvb)) ?_))
 refine ⟨fun _ => ⟨hpk246.bx.reads, hq247⟩, ?_⟩
 refine zV (i := 6) (by kernel_rfl) (yD (i := 6) rfl rfl rfl (zG rfl _) (EO.run (run_lookv_int (k := (b2s kxb)) (key_str Tryz.underlying9) Tryz.underlying67 zr3 hpk246.ff rfl rfl) ?_))
 refine ⟨fun _ => ⟨hpk246.bx.reads, hq247⟩, ?_⟩
 refine dT (i := 7) rfl rfl (by kernel_rfl) (fun _ _ => zA (v := (.tuple #[(.int .i64 ((Go.GL.look q.fl (b2s kxb)).getD 0)), (.bool ((Go.GL.look q.fl (b2s kxb)).isSome))])) rfl) ⟨hpk246.bx.reads, hq247⟩ ?_
 refine dT (i := 8) rfl rfl (by kernel_rfl) (fun _ _ => xS (v := (.int .i64 ((Go.GL.look q.fl (b2s kxb)).getD 0))) rfl rfl) ⟨hpk246.bx.reads, hq247⟩ ?_
 refine dT (i := 9) rfl rfl (by kernel_rfl) (fun _ _ => xS (v := (.bool ((Go.GL.look q.fl (b2s kxb)).isSome))) rfl rfl) ⟨hpk246.bx.reads, hq247⟩ ?_
 refine dT (i := 10) rfl rfl (by kernel_rfl) (fun _ _ => zC (v := (.int .i64 ((Go.GL.look q.fl (b2s kxb)).getD 0))) rfl) ⟨hpk246.bx.reads, hq247⟩ ?_
 refine dT (i := 11) rfl rfl (by kernel_rfl) (fun _ _ => zC (v := (.bool ((Go.GL.look q.fl (b2s kxb)).isSome))) rfl) ⟨hpk246.bx.reads, hq247⟩ ?_
 refine yT (by kernel_rfl) ?_
 refine zB (zE (zF ?_))
 refine qD rfl (zA (v := (.bool ((Go.GL.look q.fl (b2s kxb)).isSome))) rfl) ?_
 refine qe (zB ?_)
 refine c_if rfl rfl (fun h248 => ?_) (fun h248 => ?_)
 ·skip
  refine zE (zF ?_)
  refine qD rfl (zA (v := (.int .i64 ((Go.GL.look q.fl (b2s kxb)).getD 0))) rfl) ?_
  refine qD rfl (zC (v := (.int .i64 ((Go.GL.look q.fl (b2s kxb)).getD 0))) rfl) ?_
  refine qe (zB ?_)
  refine wp_ret ?_
  refine zW ?_
  refine zS (v := (.int .i64 ((Go.GL.look q.fl (b2s kxb)).getD 0))) rfl rfl rfl ?_
  obtain ⟨z, hz⟩ := Option.isSome_iff_exists.1 h248
  have hlk := hz
  rw [hkey, hxs2, hys2] at hlk
  obtain ⟨f1, f2⟩ := lookF hok hk1 hk2 hlk
  rw [hz]
  exact ⟨z, L, R, B, q, GLb, rfl, hpk246, hok, (PX.refl _), PIn.lo hpin rfl, hX241, f1, f2, by omega, rfl, Or.inl rfl⟩
 refine wp_skip ?_
 refine zB (zE (zF ?_))
 refine qD rfl (zA (v := (.pointer (some ⟨p, 0, none⟩))) rfl) ?_
 refine qD rfl (yP rfl) ?_
 refine qD rfl (zL (k := 2) rfl Tryz.underlying72 rfl nz65 rfl) ?_
 refine qD rfl (zQ (u := B) ag65 rfl (hpk246.bx.cell (o := 2) rfl)) ?_
 refine qD rfl (zO Tryz.underlying65 (v := B) rfl hpk246.ob.read) ?_
 refine qD rfl (zC (v := (.int .i64 (q.bs.length : Int))) rfl) ?_
 refine qe (zB (zE ?_))
 have hnone : Go.GL.look q.fl (b2s kxb) = none := by simpa using h248
 rw [hkey, hxs2, hys2] at hnone
 have hadd := hok.add (b := bm) hlim hls hk1 hk2 hnone (by rw [hbbm, hbbn, hxs2, hys2])
 have hq249 := Gadd.pins hX241.pins kvb
 have hr250 := ho242.read
 refine xE (S := fun wz => BxR wz p [L, R, B, (.map (some mm.f)), (.map (some mm.o)), (.map (some mm.c)), (.map (some mm.s)), (.map (some mm.n))] ∧ Pins (Gadd GLb w167.drew kvb) wz) (last := 7) (by kernel_rfl) rfl ?_
 have hl251 : Below w167.drew.heap.size w167.drew w167.drew.drew := (Below.refl _ _).drew
 have hp252 := hX241.pins.below hl251
 have hX253 := hX241.step hp252 hl251
 have ho254 := ho242.below hl251
 have ho256 := ho244.below hl251
 have ho257 := ho245.below hl251
 have ho258 := hpk246.ol.below hl251
 have ho259 := hpk246.rr.below hl251
 have ho260 := hpk246.ob.below hl251
 have hb261 := hpk246.bx.below hl251
 have hm262 := hpk246.ff.below hl251
 have hm263 := hpk246.fo.below hl251
 have hm264 := hpk246.fc.below hl251
 have hm265 := hpk246.fs.below hl251
 have hm266 := hpk246.fn.below hl251
 have hq267 := hq249.below hl251
 refine dT (i := 0) rfl rfl (by kernel_rfl) (fun _ _ => zA (v := (.pointer (some ⟨p, 0, none⟩))) rfl) ⟨hb261.reads, hq267⟩ ?_
 refine dT (i := 1) rfl rfl (by kernel_rfl) (fun _ _ => yP rfl) ⟨hb261.reads, hq267⟩ ?_
 refine dT (i := 2) rfl rfl (by kernel_rfl) (fun _ _ => zL (k := 3) rfl Tryz.underlying72 rfl nz67 rfl) ⟨hb261.reads, hq267⟩ ?_
 refine dT (i := 3) rfl rfl (by kernel_rfl) (fun _ hS => zQ (u := (.map (some mm.f))) ag67 rfl (hS.1 3 _ rfl)) ⟨hb261.reads, hq267⟩ ?_
 refine dT (i := 4) rfl rfl (by kernel_rfl) (fun _ _ => zA (v := kvb) rfl) ⟨hb261.reads, hq267⟩ ?_
 refine dT (i := 6) rfl rfl (by kernel_rfl) (fun _ _ => zA (v := (.int .i64 (q.bs.length : Int))) rfl) ⟨hb261.reads, hq267⟩ ?_
 refine zV (i := 5) (by kernel_rfl) (yD (i := 5) rfl rfl rfl (zG rfl _) (EO.run (r_b2s Tryz.underlying132 Tryz.underlying5 Tryz.underlying9 rfl ho254.read (Gadd.pins hX253.pins kvb)) ?_))
 refine ⟨fun _ => ⟨hb261.reads, hq267⟩, ?_⟩
 refine zV (i := 7) (by kernel_rfl) (drOp0 (i := 7) rfl rfl rfl (zG rfl _) (qB (val := (fun v : Int => Value.int .i64 v)) (k := (b2s kxb)) (v := (q.bs.length : Int)) (key_str Tryz.underlying9) Tryz.underlying67 rfl rfl rfl hX253.pins hm262 (fun w268 hm269 hp270 hg271 hz272 => ?_)))
 have hX273 := hX253.write hp270 hg271 ((PIn.f hpin))
 have ho276 := ho256.keptA hg271 (zY hm262 ho256).symm
 have ho277 := ho257.keptA hg271 (zY hm262 ho257).symm
 have ho278 := ho258.keptA hg271 (zY hm262 ho258).symm
 have ho279 := ho259.keptA hg271 (zY hm262 ho259).symm
 have ho280 := ho260.keptA hg271 (zY hm262 ho260).symm
 have hb281 := hb261.keptA hg271 (yN hm262 hb261).symm
 have hm282 := hm263.kept hg271 (qT hpk246.df.fo).symm
 have hm283 := hm264.kept hg271 (qT hpk246.df.fc).symm
 have hm284 := hm265.kept hg271 (qT hpk246.df.fs).symm
 have hm285 := hm266.kept hg271 (qT hpk246.df.fn).symm
 refine ⟨fun h => absurd rfl h, ?_⟩
 refine yT (by kernel_rfl) ?_
 refine zB (zE (zF ?_))
 refine qD rfl (zA (v := (.pointer (some ⟨p, 0, none⟩))) rfl) ?_
 refine qD rfl (zA (v := (.pointer (some ⟨p, 0, none⟩))) rfl) ?_
 refine qD rfl (yP rfl) ?_
 refine qD rfl (zL (k := 0) rfl Tryz.underlying72 rfl nz66 rfl) ?_
 refine qD rfl (zQ (u := L) ag66 rfl (hb281.cell (o := 0) rfl)) ?_
 refine qD rfl (zA (v := u3) rfl) ?_
 obtain ⟨G286, hle289, hX288, hr287, hf290⟩ := ho276.sealed hX273
 have ho293 := ho277.moreO hle289 hf290 ha24
 have ho294 := ho278.moreO hle289 hf290 (NP.hl hnp12).symm
 have ho295 := ho279.moreO hle289 hf290 (NP.hr hnp12).symm
 have ho296 := ho280.moreO hle289 hf290 (NP.hb hnp12).symm
 have hb297 := hb281.moreO hf290 (NP.hp hnp12).symm
 refine qI rfl (yQ (E := (eSl eInt)) (e := 65) [u3] [xs2] Tryz.underlying66 sz65 zr65 (by exact xL (⟨_, rfl, hr287⟩)) (xA hr287.one) rfl rfl rfl rfl (by decide) hX288.pins (fun u298 w299 ho300 hp301 hl302 hk303 => ?_))
 have hX304 := hX288.step hp301 hl302
 have ho307 := ho293.below hl302
 have ho308 := ho294.below hl302
 have ho309 := ho295.below hl302
 have ho310 := ho296.below hl302
 have hb311 := hb297.below hl302
 have hm312 := hm269.below hl302
 have hm313 := hm282.below hl302
 have hm314 := hm283.below hl302
 have hm315 := hm284.below hl302
 have hm316 := hm285.below hl302
 have ho324 : Own (eSl eInt) 65 G286 w299 w.heap.size u298 ([xs2]) := ho300.weaken hX288.size
 refine qI rfl (zX (E := (eSl eInt)) (v := L) (u := u298) 24 Tryz.underlying66 ap65 (by decide) rfl rfl hX304.pins ho308 ho324.src (by first | omega | (rw [List.nil_append]; omega) | (rw [List.length_nil]; omega) | (rw [List.length_append]; omega) | (simp; done) | (simp; omega) | (simp only [List.length_append, List.length_cons, List.length_nil]; omega)) (by first | omega | (rw [List.nil_append]; omega) | (rw [List.length_nil]; omega) | (rw [List.length_append]; omega) | (simp; done) | (simp; omega) | (simp only [List.length_append, List.length_cons, List.length_nil]; omega)) (Nat.zero_le _) (fun u325 w326 ho327 hp328 hg329 hw330 => ?_))
 have hX331 := hX304.write hp328 hg329 ((PIn.ll hpin))
 have ho334 := ho307.keptA hg329 (NP.hl hnp25)
 have ho335 := ho309.keptA hg329 hpk246.alr.symm
 have ho336 := ho310.keptA hg329 hpk246.alb.symm
 have hb338 := hb311.keptA hg329 hpk246.apl
 have hm339 := hm312.kept hg329 (zY hm312 ho308)
 have hm340 := hm313.kept hg329 (zY hm313 ho308)
 have hm341 := hm314.kept hg329 (zY hm314 ho308)
 have hm342 := hm315.kept hg329 (zY hm315 ho308)
 have hm343 := hm316.kept hg329 (zY hm316 ho308)
 have ha346 : Apart u14.ownBlock u325.ownBlock := zH (NP.hl hnp25) hw330 ho307.lt
 have ha347 : Apart R.ownBlock u325.ownBlock := zH hpk246.alr.symm hw330 ho309.lt
 have ha348 : Apart B.ownBlock u325.ownBlock := zH hpk246.alb.symm hw330 ho310.lt
 have ha350 : Apart (some p) u325.ownBlock := zM hpk246.apl hw330 hb311.lt
 have hlo351 : Lo w (inP p L R B mm) u325.ownBlock := lo_app (PIn.ll hpin) hw330 hX304.size
 have hm352 : ((q.ns.map Nd.l) ++ ([xs2])).length = (q.ns.map Nd.l).length + 1 := List.length_append
 refine qD rfl (yP rfl) ?_
 refine qD rfl (zL (k := 0) rfl Tryz.underlying72 rfl nz66 rfl) ?_
 refine q0 rfl rfl rfl (xP (cs' := [u325, R, B, (.map (some mm.f)), (.map (some mm.o)), (.map (some mm.c)), (.map (some mm.s)), (.map (some mm.n))]) (us := [u325]) (v := u325) sz66 rfl rfl (cells1 ho327.one) (xA ho327.one) hX331.pins hb338 (Nat.le_of_ble_eq_true rfl) rfl (fun w353 hb354 hp355 hg356 hz357 => ?_))
 have hX358 := hX331.write hp355 hg356 ((PIn.lp hpin))
 have ho361 := ho334.keptA hg356 (NP.hp hnp25)
 have ho362 := ho335.keptA hg356 hpk246.apr.symm
 have ho363 := ho336.keptA hg356 hpk246.apb.symm
 have ho364 := ho327.keptA hg356 ha350.symm
 have hm365 := hm339.kept hg356 (yN hm339 hb338)
 have hm366 := hm340.kept hg356 (yN hm340 hb338)
 have hm367 := hm341.kept hg356 (yN hm341 hb338)
 have hm368 := hm342.kept hg356 (yN hm342 hb338)
 have hm369 := hm343.kept hg356 (yN hm343 hb338)
 refine qe (zB (zE (zF ?_)))
 refine qD rfl (zA (v := (.pointer (some ⟨p, 0, none⟩))) rfl) ?_
 refine qD rfl (zA (v := (.pointer (some ⟨p, 0, none⟩))) rfl) ?_
 refine qD rfl (yP rfl) ?_
 refine qD rfl (zL (k := 1) rfl Tryz.underlying72 rfl nz66 rfl) ?_
 refine qD rfl (zQ (u := R) ag66 rfl (hb354.cell (o := 1) rfl)) ?_
 refine qD rfl (zA (v := u14) rfl) ?_
 obtain ⟨G370, hle373, hX372, hr371, hf374⟩ := ho361.sealed hX358
 have ho377 := ho362.moreO hle373 hf374 (NP.hr hnp25).symm
 have ho378 := ho363.moreO hle373 hf374 (NP.hb hnp25).symm
 have ho379 := ho364.moreO hle373 hf374 ha346.symm
 have hb380 := hb354.moreO hf374 (NP.hp hnp25).symm
 refine qI rfl (yQ (E := (eSl eInt)) (e := 65) [u14] [ys2] Tryz.underlying66 sz65 zr65 (by exact xL (⟨_, rfl, hr371⟩)) (xA hr371.one) rfl rfl rfl rfl (by decide) hX372.pins (fun u381 w382 ho383 hp384 hl385 hk386 => ?_))
 have hX387 := hX372.step hp384 hl385
 have ho390 := ho377.below hl385
 have ho391 := ho378.below hl385
 have ho392 := ho379.below hl385
 have hb393 := hb380.below hl385
 have hm394 := hm365.below hl385
 have hm395 := hm366.below hl385
 have hm396 := hm367.below hl385
 have hm397 := hm368.below hl385
 have hm398 := hm369.below hl385
 have ho405 : Own (eSl eInt) 65 G370 w382 w.heap.size u381 ([ys2]) := ho383.weaken hX372.size
 refine qI rfl (zX (E := (eSl eInt)) (v := R) (u := u381) 24 Tryz.underlying66 ap65 (by decide) rfl rfl hX387.pins ho390 ho405.src (by first | omega | (rw [List.nil_append]; omega) | (rw [List.length_nil]; omega) | (rw [List.length_append]; omega) | (simp; done) | (simp; omega) | (simp only [List.length_append, List.length_cons, List.length_nil]; omega)) (by first | omega | (rw [List.nil_append]; omega) | (rw [List.length_nil]; omega) | (rw [List.length_append]; omega) | (simp; done) | (simp; omega) | (simp only [List.length_append, List.length_cons, List.length_nil]; omega)) (Nat.zero_le _) (fun u406 w407 ho408 hp409 hg410 hw411 => ?_))
 have hX412 := hX387.write hp409 hg410 ((PIn.lr hpin))
 have ho415 := ho391.keptA hg410 hpk246.arb.symm
 have ho416 := ho392.keptA hg410 ha347.symm
 have hb418 := hb393.keptA hg410 hpk246.apr
 have hm419 := hm394.kept hg410 (zY hm394 ho390)
 have hm420 := hm395.kept hg410 (zY hm395 ho390)
 have hm421 := hm396.kept hg410 (zY hm396 ho390)
 have hm422 := hm397.kept hg410 (zY hm397 ho390)
 have hm423 := hm398.kept hg410 (zY hm398 ho390)
 have ha426 : Apart B.ownBlock u406.ownBlock := zH hpk246.arb.symm hw411 ho391.lt
 have ha427 : Apart u325.ownBlock u406.ownBlock := zH ha347.symm hw411 ho392.lt
 have ha429 : Apart (some p) u406.ownBlock := zM hpk246.apr hw411 hb393.lt
 have hlo430 : Lo w (inP p L R B mm) u406.ownBlock := lo_app (PIn.lr hpin) hw411 hX387.size
 have hm431 : ((q.ns.map Nd.r) ++ ([ys2])).length = (q.ns.map Nd.r).length + 1 := List.length_append
 refine qD rfl (yP rfl) ?_
 refine qD rfl (zL (k := 1) rfl Tryz.underlying72 rfl nz66 rfl) ?_
 refine q0 rfl rfl rfl (xP (cs' := [u325, u406, B, (.map (some mm.f)), (.map (some mm.o)), (.map (some mm.c)), (.map (some mm.s)), (.map (some mm.n))]) (us := [u406]) (v := u406) sz66 rfl rfl (cells1 ho408.one) (xA ho408.one) hX412.pins hb418 (Nat.le_of_ble_eq_true rfl) rfl (fun w432 hb433 hp434 hg435 hz436 => ?_))
 have hX437 := hX412.write hp434 hg435 ((PIn.lp hpin))
 have ho440 := ho415.keptA hg435 hpk246.apb.symm
 have ho441 := ho416.keptA hg435 ha350.symm
 have ho442 := ho408.keptA hg435 ha429.symm
 have hm443 := hm419.kept hg435 (yN hm419 hb418)
 have hm444 := hm420.kept hg435 (yN hm420 hb418)
 have hm445 := hm421.kept hg435 (yN hm421 hb418)
 have hm446 := hm422.kept hg435 (yN hm422 hb418)
 have hm447 := hm423.kept hg435 (yN hm423 hb418)
 refine qe (zB (zE (zF ?_)))
 refine qD rfl (zA (v := (.pointer (some ⟨p, 0, none⟩))) rfl) ?_
 refine qD rfl (zA (v := (.pointer (some ⟨p, 0, none⟩))) rfl) ?_
 refine qD rfl (yP rfl) ?_
 refine qD rfl (zL (k := 2) rfl Tryz.underlying72 rfl nz65 rfl) ?_
 refine qD rfl (zQ (u := B) ag65 rfl (hb433.cell (o := 2) rfl)) ?_
 refine qD rfl (zA (v := (.int .i64 bm)) rfl) ?_
 refine qI rfl (yQ (E := eInt) (e := 3) [(.int .i64 bm)] [bm] Tryz.underlying65 sz3 zr3 (by exact xL (by rfl)) (xA (by rfl)) rfl rfl rfl rfl (by decide) hX437.pins (fun u448 w449 ho450 hp451 hl452 hk453 => ?_))
 have hX454 := hX437.step hp451 hl452
 have ho457 := ho440.below hl452
 have ho458 := ho441.below hl452
 have ho459 := ho442.below hl452
 have hb460 := hb433.below hl452
 have hm461 := hm443.below hl452
 have hm462 := hm444.below hl452
 have hm463 := hm445.below hl452
 have hm464 := hm446.below hl452
 have hm465 := hm447.below hl452
 have ho472 : Own eInt 3 G370 w449 w.heap.size u448 ([bm]) := ho450.weaken hX437.size
 refine qI rfl (zX (E := eInt) (v := B) (u := u448) 8 Tryz.underlying65 ap3 (by decide) rfl rfl hX454.pins ho457 ho472.src (by first | omega | (rw [List.nil_append]; omega) | (rw [List.length_nil]; omega) | (rw [List.length_append]; omega) | (simp; done) | (simp; omega) | (simp only [List.length_append, List.length_cons, List.length_nil]; omega)) (by first | omega | (rw [List.nil_append]; omega) | (rw [List.length_nil]; omega) | (rw [List.length_append]; omega) | (simp; done) | (simp; omega) | (simp only [List.length_append, List.length_cons, List.length_nil]; omega)) (Nat.zero_le _) (fun u473 w474 ho475 hp476 hg477 hw478 => ?_))
 have hX479 := hX454.write hp476 hg477 ((PIn.lb hpin))
 have ho482 := ho458.keptA hg477 ha348.symm
 have ho483 := ho459.keptA hg477 ha426.symm
 have hb485 := hb460.keptA hg477 hpk246.apb
 have hm486 := hm461.kept hg477 (zY hm461 ho457)
 have hm487 := hm462.kept hg477 (zY hm462 ho457)
 have hm488 := hm463.kept hg477 (zY hm463 ho457)
 have hm489 := hm464.kept hg477 (zY hm464 ho457)
 have hm490 := hm465.kept hg477 (zY hm465 ho457)
 have ha493 : Apart u325.ownBlock u473.ownBlock := zH ha348.symm hw478 ho458.lt
 have ha494 : Apart u406.ownBlock u473.ownBlock := zH ha426.symm hw478 ho459.lt
 have ha496 : Apart (some p) u473.ownBlock := zM hpk246.apb hw478 hb460.lt
 have hlo497 : Lo w (inP p L R B mm) u473.ownBlock := lo_app (PIn.lb hpin) hw478 hX454.size
 have hm498 : (q.bs ++ ([bm])).length = q.bs.length + 1 := List.length_append
 refine qD rfl (yP rfl) ?_
 refine qD rfl (zL (k := 2) rfl Tryz.underlying72 rfl nz65 rfl) ?_
 refine q0 rfl rfl rfl (xP (cs' := [u325, u406, u473, (.map (some mm.f)), (.map (some mm.o)), (.map (some mm.c)), (.map (some mm.s)), (.map (some mm.n))]) (us := [u473]) (v := u473) sz65 rfl rfl (cells1 ho475.one) (xA ho475.one) hX479.pins hb485 (Nat.le_of_ble_eq_true rfl) rfl (fun w499 hb500 hp501 hg502 hz503 => ?_))
 have hX504 := hX479.write hp501 hg502 ((PIn.lp hpin))
 have ho507 := ho482.keptA hg502 ha350.symm
 have ho508 := ho483.keptA hg502 ha429.symm
 have ho509 := ho475.keptA hg502 ha496.symm
 have hm510 := hm486.kept hg502 (yN hm486 hb485)
 have hm511 := hm487.kept hg502 (yN hm487 hb485)
 have hm512 := hm488.kept hg502 (yN hm488 hb485)
 have hm513 := hm489.kept hg502 (yN hm489 hb485)
 have hm514 := hm490.kept hg502 (yN hm490 hb485)
 refine qe (zB (zE (zF ?_)))
 refine qD rfl (zA (v := (.int .i64 (q.bs.length : Int))) rfl) ?_
 refine qD rfl (zC (v := (.int .i64 (q.bs.length : Int))) rfl) ?_
 refine qe (zB ?_)
 refine wp_ret ?_
 refine zW ?_
 refine zS (v := (.int .i64 (q.bs.length : Int))) rfl rfl rfl ?_
 have el : (q.ns.map Nd.l) ++ [xs2] = (addQ q xs ys bm).ns.map Nd.l := by rw [hxs2]; simp [addQ]
 have er : (q.ns.map Nd.r) ++ [ys2] = (addQ q xs ys bm).ns.map Nd.r := by rw [hys2]; simp [addQ]
 have ef : putE q.fl (b2s kxb) (q.bs.length : Int) = (addQ q xs ys bm).fl := by rw [hkey, hxs2, hys2, hok.ar.ok.len]; rfl
 have hol := ho507
 have hor := ho508
 have hff := hm510
 rw [el] at hol
 rw [er] at hor
 rw [ef] at hff
 exact ⟨(q.bs.length : Int), u325, u406, u473, addQ q xs ys bm, G370, rfl, ⟨hb500, hol, hor, ho509, hff, hm511, hm512, hm513, hm514, ha350, ha429, ha496, ha427, ha493, ha494, hpk246.df⟩, hadd.1, hadd.2.1, ⟨hlo351, hlo430, hlo497⟩, hX504, by rw [hok.ar.ok.len]; exact hadd.2.2.1, by rw [hok.ar.ok.len]; exact hadd.2.2.2.1, hadd.2.2.2.2, rfl, Or.inr (by omega)⟩

theorem star_spec {w : World} {G : Pin} {p : Nat} {L R B : Value} {mm : PM} {q : PSt} (hP : Pins G w) (hpk : Pk 65 3 G w p L R B mm q) (hok : PoolOk q) {n : Nat} (hn : n ≤ 1000) (hl : q.ns.length + n + 1 ≤ 1048575) :
  Calls Tryz.prog 73 [(.pointer (some ⟨p, 0, none⟩)), (.int .i64 (n : Int))].toArray w fun e w' => ∃ (z : Int) (L' R' B' : Value) (q' : PSt) (G' : Pin), e = .returned (.int .i64 z) ∧ Pk 65 3 G' w' p L' R' B' mm q' ∧ PoolOk q' ∧ PX q q' ∧ PLo w p L R B mm L' R' B' ∧ Ext (inP p L R B mm) G w G' w' ∧ PlaceOk q' z ∧ pd q' z = starG n ∧ q'.ns.length ≤ q.ns.length + n + 1 := by
 refine yE (n := 22) Tryz.func73 Tryz.ntmps73 rfl rfl ?_
 have hX0 : Ext (inP p L R B mm) G w G w := Ext.refl hP
 have hpin : PIn w (inP p L R B mm) p L R B mm := PIn.self
 have hml1 : (q.ns.map Nd.l).length = q.ns.length ∧ (q.ns.map Nd.r).length = q.ns.length := ⟨List.length_map .., List.length_map ..⟩
 have hml2 : q.bs.length = q.ns.length ∧ q.ns.length ≤ 1048576 := ⟨hok.ar.ok.len, hok.ar.ok.lim⟩
 refine zE (zF ?_)
 refine qD rfl (zC (v := (.int .i64 0)) rfl) ?_
 refine qe (zB (zE (zF ?_)))
 refine qI rfl (yX (E := eInt) (e := 3) Tryz.underlying65 sz3 hX0.pins (fun u3 w4 ho5 hp6 hl7 hk8 => ?_))
 have hX9 := hX0.step hp6 hl7
 have hpk10 := hpk.below hl7 hp6
 have ha15 := hpk.new (x := u3.ownBlock) (fun k hk => by rw [hk8] at hk; cases hk; exact Nat.le_refl _)
 have ho16 : Own eInt 3 G w4 w.heap.size u3 ([]) := ho5.weaken hX0.size
 refine qD rfl (zC (v := u3) rfl) ?_
 refine qe (zB (zE (zE (zF ?_))))
 refine qD rfl (zA (v := (.int .i64 (n : Int))) rfl) ?_
 refine qD rfl (zA (v := (.int .i64 0)) rfl) ?_
 refine qe (zB ?_)
 refine yB ?_
 refine yM (fun (k : Nat) (en : Nat → Value) (W : World) => ∃ (env1 : Nat → Value) (k1 : Nat) (lv : Value) (ls : List Int) (L17 : Value) (R18 : Value) (B19 : Value) (q20 : PSt) (GL1 : Pin), en = (upd (upd (upd (upd (upd env1 0 (.pointer (some ⟨p, 0, none⟩))) 4 (.int .i64 0)) 5 lv) 7 (.int .i64 (n : Int))) 8 (.int .i64 (k1 : Int))) ∧ k = n - k1 ∧ Ext (inP p L R B mm) G w GL1 W ∧ Pin.le G GL1 ∧ (k1 ≤ n) ∧ (GsOk q20 ls (starL k1)) ∧ (q20.ns.length ≤ q.ns.length + k1) ∧ (Own eInt 3 GL1 W w.heap.size lv (ls)) ∧ (Pk 65 3 GL1 W p L17 R18 B19 mm q20) ∧ (PIn w ((inP p L R B mm)) p L17 R18 B19 mm) ∧ (PoolOk q20) ∧ (PX q q20) ∧ (NP p L17 R18 B19 mm lv.ownBlock)) _ ⟨_, 0, u3, [], L, R, B, q, G, (zD (x := 8) (zD (x := 7) (zD (x := 5) (zD (x := 4) (zR (x := 0) rfl) rfl) rfl) rfl) rfl), rfl, hX9, Pin.le_refl _, Nat.zero_le _, GsOk.nil, (by omega), ho16, hpk10, hpin, hok, (PX.refl _), ha15⟩ ?_
 rintro k21 _ w22 ⟨env1, k1, lv, ls, L17, R18, B19, q20, GL1, rfl, hk23, hX24, hlek21, hk1, hgs, hnq, hw25, hpk26, hpin27, hok28, hpx29, hnp30⟩
 have hql31 := hpx29.len
 have hml32 : (q20.ns.map Nd.l).length = q20.ns.length ∧ (q20.ns.map Nd.r).length = q20.ns.length := ⟨List.length_map .., List.length_map ..⟩
 have hml33 : q20.bs.length = q20.ns.length ∧ q20.ns.length ≤ 1048576 := ⟨hok28.ar.ok.len, hok28.ar.ok.lim⟩
 have hgl := hgs.len
 have hsl := starL_len k1
 refine zE (zF ?_)
 refine qD rfl (yO rfl rfl) ?_
 refine qe (zB (zE ?_))
 refine yH (p := ((k1 : Int) : Int) < (n : Int)) rfl rfl (fun h34 => ?_) (fun h34 => ?_)
 ·skip
  refine wp_skip ?_
  refine zB (zE ?_)
  refine yB ?_
  refine zF ?_
  refine qD rfl (zA (v := lv) rfl) ?_
  refine qD rfl (zA (v := (.pointer (some ⟨p, 0, none⟩))) rfl) ?_
  refine qD rfl (zA (v := lv) rfl) ?_
  refine qD rfl (zA (v := lv) rfl) ?_
  refine qI rfl (zN (vs := [(.pointer (some ⟨p, 0, none⟩)), lv, lv]) Tryz.func79 nm79 rfl rfl rfl ?_)
  refine Calls.mono (nodeL_spec hX24.pins hpk26 hok28 (hw25.weaken (Nat.zero_le _)) hnp30 rfl (by omega) ⟨by omega, by omega⟩ (xY hgs.pl) (xY hgs.pl)) ?_
  rintro _ w41 ⟨z35, L36, R37, B38, q39, G40, rfl, hpk42, hok43, hpx44, hlo45, hx46, hpl47, hpd48, hqn49, hcm50⟩
  refine ⟨_, rfl, ?_⟩
  have hX51 := hX24.trans hx46 hpin27
  have ho52 := hw25.extS hx46 hnp30
  have hnp53 := NP.call hnp30 hlo45 (xW hw25)
  have hpin54 := PIn.call hpin27 hlo45 hX24.size
  have hql55 := hpx44.len
  have hml56 : (q39.ns.map Nd.l).length = q39.ns.length ∧ (q39.ns.map Nd.r).length = q39.ns.length := ⟨List.length_map .., List.length_map ..⟩
  have hml57 : q39.bs.length = q39.ns.length ∧ q39.ns.length ≤ 1048576 := ⟨hok43.ar.ok.len, hok43.ar.ok.lim⟩
  have hqn58 := hqn49
  refine qI rfl (yQ (E := eInt) (e := 3) [(.int .i64 z35)] [z35] Tryz.underlying65 sz3 zr3 (by exact xL (by rfl)) (xA (by rfl)) rfl rfl rfl rfl (by decide) hX51.pins (fun u59 w60 ho61 hp62 hl63 hk64 => ?_))
  have hX65 := hX51.step hp62 hl63
  have ho66 := ho52.below hl63
  have hpk67 := hpk42.below hl63 hp62
  have ho74 : Own eInt 3 G40 w60 w.heap.size u59 ([z35]) := ho61.weaken hX51.size
  refine qI rfl (zX (E := eInt) (v := lv) (u := u59) 8 Tryz.underlying65 ap3 (by decide) rfl rfl hX65.pins ho66 ho74.src (by first | omega | (rw [List.nil_append]; omega) | (rw [List.length_nil]; omega) | (rw [List.length_append]; omega) | (simp; done) | (simp; omega) | (simp only [List.length_append, List.length_cons, List.length_nil]; omega)) (by first | omega | (rw [List.nil_append]; omega) | (rw [List.length_nil]; omega) | (rw [List.length_append]; omega) | (simp; done) | (simp; omega) | (simp only [List.length_append, List.length_cons, List.length_nil]; omega)) (hX65.size) (fun u75 w76 ho77 hp78 hg79 hw80 => ?_))
  have hX81 := hX65.write hp78 hg79 ((yG ho66))
  have hpk83 := hpk67.kept hg79 hp78 hnp53
  have hnp85 := qP hnp53 hpk67 hw80
  have hm86 : (ls ++ ([z35])).length = ls.length + 1 := List.length_append
  refine qD rfl (zC (v := u75) rfl) ?_
  refine qe ?_
  refine yC ?_
  refine zB (zF ?_)
  refine qD rfl (yJ rfl rfl (by omega)) ?_
  refine qD rfl (zA (v := (.int .i64 ((k1 : Int) + 1))) rfl) ?_
  refine qe ?_
  refine yA ?_
  refine ⟨_, ?_, _, rfl, _, k1 + 1, u75, ls ++ ([z35]), L36, R37, B38, q39, G40, (zD (x := 8) (zD (x := 7) (zD (x := 5) (zD (x := 4) (zR (x := 0) rfl) rfl) rfl) rfl) rfl), rfl, hX81, (Pin.le_trans hlek21 hx46.le), (by omega), ((hgs.px hpx44 hok28 hok43).snoc hpl47 (hpd48.trans (by rw [hgs.eq]))), (by omega), ho77, hpk83, hpin54, hok43, (PX.trans hpx29 hpx44), hnp85⟩
  omega
 refine wp_exit ?_
 refine zZ ?_
 refine yK ?_
 refine yI ?_
 refine zB (zE (zF ?_))
 refine qD rfl (zA (v := (.pointer (some ⟨p, 0, none⟩))) rfl) ?_
 refine qD rfl (zA (v := lv) rfl) ?_
 refine qD rfl (zA (v := lv) rfl) ?_
 refine qI rfl (zN (vs := [(.pointer (some ⟨p, 0, none⟩)), lv, lv]) Tryz.func79 nm79 rfl rfl rfl ?_)
 refine Calls.mono (nodeL_spec hX24.pins hpk26 hok28 (hw25.weaken (Nat.zero_le _)) hnp30 rfl (by omega) ⟨by omega, by omega⟩ (xY hgs.pl) (xY hgs.pl)) ?_
 rintro _ w93 ⟨z87, L88, R89, B90, q91, G92, rfl, hpk94, hok95, hpx96, hlo97, hx98, hpl99, hpd100, hqn101, hcm102⟩
 refine ⟨_, rfl, ?_⟩
 have hX103 := hX24.trans hx98 hpin27
 have hpin106 := PIn.call hpin27 hlo97 hX24.size
 have hql107 := hpx96.len
 have hml108 : (q91.ns.map Nd.l).length = q91.ns.length ∧ (q91.ns.map Nd.r).length = q91.ns.length := ⟨List.length_map .., List.length_map ..⟩
 have hml109 : q91.bs.length = q91.ns.length ∧ q91.ns.length ≤ 1048576 := ⟨hok95.ar.ok.len, hok95.ar.ok.lim⟩
 have hqn110 := hqn101
 refine qD rfl (zC (v := (.int .i64 z87)) rfl) ?_
 refine qe (zB ?_)
 refine wp_ret ?_
 refine zW ?_
 refine zS (v := (.int .i64 z87)) rfl rfl rfl ?_
 exact ⟨_, L88, R89, B90, q91, G92, rfl, hpk94, hok95, (PX.trans hpx29 hpx96), PIn.lo hpin106 rfl, hX103, hpl99, (hpd100.trans (by rw [hgs.eq, show k1 = n by omega]; rfl)), (by omega)⟩

end ST1
end Go.Proofs.YtfnginkcmcfdfaaGreatDoor

set_option maxRecDepth 20000
set_option maxHeartbeats 2000000
namespace Go.Proofs.YtfnginkcmcfdfaaGreatDoor
namespace ST2
open Go.RowKit Go.GL Go.Proofs
open Go.Proofs.YtfnginkcmcfdfaaGreatDoor.B1
open Go.Proofs.YtfnginkcmcfdfaaGreatDoor.K1
open Go.Proofs.YtfnginkcmcfdfaaGreatDoor.PO1
open Go.Proofs.YtfnginkcmcfdfaaGreatDoor.PL1
open Go.Proofs.YtfnginkcmcfdfaaGreatDoor.PA1
open Go.Proofs.YtfnginkcmcfdfaaGreatDoor.DI1
open Go.Proofs.YtfnginkcmcfdfaaGreatDoor.RI1
open Go.Proofs.YtfnginkcmcfdfaaGreatDoor.CN1
open Go.Proofs.YtfnginkcmcfdfaaGreatDoor.CN2
open Go.Proofs.YtfnginkcmcfdfaaGreatDoor.CN3
open Go.Proofs.YtfnginkcmcfdfaaGreatDoor.CN4
open Go.Proofs.YtfnginkcmcfdfaaGreatDoor.AS2
open Go.Proofs.YtfnginkcmcfdfaaGreatDoor.ST1






theorem iStarOf_spec {w : World} {G : Pin} {v : Value} {fs : List Nd} (hP : Pins G w) (hv : RSl eNode G v fs) :
  Calls Tryz.prog 35 [(.agg [v].toArray)].toArray w fun e w' => ∃ G', e = .returned (.tuple #[.int .i64 (stT fs), .bool (stB fs)]) ∧ Ext noS G w G' w' := by
 refine yE (n := 24) Tryz.func35 Tryz.ntmps35 rfl rfl ?_
 have hX0 : Ext noS G w G w := Ext.refl hP
 refine zE (zF ?_)
 refine qI rfl (qC [v] (v := (.agg [v].toArray)) rfl rfl hX0.pins (fun b1 w2 hk3 hb4 hp5 hl6 => ?_))
 have hX7 := hX0.step hp5 hl6
 have hlo8 : w.heap.size ≤ b1 := by have := hX0.size; omega
 obtain ⟨G9, hle10, hX11, hbp12, hf13⟩ := hb4.shut hX7 hlo8
 refine qD rfl (zC (v := (.int .i64 0)) rfl) ?_
 refine qD rfl (zC (v := (.bool false)) rfl) ?_
 refine qe (zB (zE (zE (zF ?_))))
 refine qD rfl (xN (cs := [v]) ag32 sz32 rfl (fun j u hj => hX11.pins _ _ _ (hbp12 _ _ (by simpa using hj)))) ?_
 refine qI rfl (zN (vs := [(.agg [v].toArray)]) Tryz.func50 nm50 rfl rfl rfl ?_)
 refine Calls.mono (goodForm_spec hX11.pins (hv.mono hle10)) ?_
 rintro _ w15 ⟨G14, rfl, hx16⟩
 refine ⟨_, rfl, ?_⟩
 have hX17 := hX11.tr hx16
 refine qD rfl (xV rfl) ?_
 refine qe (zB ?_)
 refine c_ifn rfl rfl (fun h18 => ?_) (fun h18 => ?_)
 ·skip
  refine wp_skip ?_
  refine zB (zE (zF ?_))
  have hgb : goodB fs = true := h18
  have hga : GoodP fs := goodB_true.1 hgb
  have hla := hga.lo
  have hha := hga.hi
  have hlb := last_bounds hga
  refine qI rfl (zN (vs := []) Tryz.func51 nm51 rfl rfl rfl ?_)
  refine Calls.mono (newPool_spec hX17.pins) ?_
  rintro _ w22 ⟨p19, mm20, G21, rfl, hpk23, hfr24, hx25⟩
  refine ⟨_, rfl, ?_⟩
  have hX29 := hX17.tr hx25
  have hpin30 : PIn w (noS) p19 (.slice none 0 0) (.slice none 0 0) (.slice none 0 0) mm20 := PIn.fresh hfr24 hX17.size
  obtain ⟨q26, hq27⟩ : ∃ q, q = (⟨[], [], [], [], [], [], []⟩ : PSt) := ⟨_, rfl⟩
  rw [← hq27] at hpk23
  have hok28 : PoolOk q26 := by rw [hq27]; exact PoolOk.empty
  have hq27l : q26.ns.length = 0 := by rw [hq27]; rfl
  obtain ⟨L31, R32, B33, eL31, eR32, eB33⟩ : ∃ (l r b : Value), l = .slice none 0 0 ∧ r = .slice none 0 0 ∧ b = .slice none 0 0 := ⟨_, _, _, rfl, rfl, rfl⟩
  have hpk232 : Pk 65 3 G21 w22 p19 L31 R32 B33 mm20 q26 := by rw [eL31, eR32, eB33]; exact hpk23
  have hpin302 : PIn w (noS) p19 L31 R32 B33 mm20 := by rw [eL31, eR32, eB33]; exact hpin30
  have hml34 : (q26.ns.map Nd.l).length = q26.ns.length ∧ (q26.ns.map Nd.r).length = q26.ns.length := ⟨List.length_map .., List.length_map ..⟩
  have hml35 : q26.bs.length = q26.ns.length ∧ q26.ns.length ≤ 1048576 := ⟨hok28.ar.ok.len, hok28.ar.ok.lim⟩
  refine qD rfl (zC (v := (.pointer (some ⟨p19, 0, none⟩))) rfl) ?_
  refine qe (zB (zE (zF ?_)))
  refine qD rfl (zA (v := (.pointer (some ⟨p19, 0, none⟩))) rfl) ?_
  refine qD rfl (xN (cs := [v]) ag32 sz32 rfl (fun j u hj => (Pins.of_le hX29.pins (Pin.le_trans hx16.le hx25.le)) _ _ _ (hbp12 _ _ (by simpa using hj)))) ?_
  refine qI rfl (zN (vs := [(.pointer (some ⟨p19, 0, none⟩)), (.agg [v].toArray)]) Tryz.func69 nm69 rfl rfl rfl ?_)
  refine Calls.mono (canonOf_spec hX29.pins hpk232 hok28 (hv.mono (Pin.le_trans (Pin.le_trans hle10 hx16.le) hx25.le)) (good_form hga) (by omega) hla) ?_
  rintro _ w46 ⟨z36, L41, R42, B43, q44, G45, rfl, hpk47, hok48, hpx49, hlo50, hx51, hpl37, hcg38, hce39, hqn40⟩
  refine ⟨_, rfl, ?_⟩
  have hX52 := hX29.trans hx51 hpin302
  have hpin53 := PIn.call hpin302 hlo50 hX29.size
  have hql54 := hpx49.len
  have hml55 : (q44.ns.map Nd.l).length = q44.ns.length ∧ (q44.ns.map Nd.r).length = q44.ns.length := ⟨List.length_map .., List.length_map ..⟩
  have hml56 : q44.bs.length = q44.ns.length ∧ q44.ns.length ≤ 1048576 := ⟨hok48.ar.ok.len, hok48.ar.ok.lim⟩
  refine qD rfl (zC (v := (.int .i64 z36)) rfl) ?_
  refine qe (zB (zE (zE (zF ?_))))
  refine qD rfl (zA (v := (.int .i64 0)) rfl) ?_
  refine qe (zB ?_)
  refine yB ?_
  refine yM (fun (k : Nat) (en : Nat → Value) (W : World) => ∃ (env1 : Nat → Value) (k1 : Nat) (L57 : Value) (R58 : Value) (B59 : Value) (q60 : PSt) (GL1 : Pin), en = (upd (upd (upd env1 4 (.pointer (some ⟨p19, 0, none⟩))) 5 (.int .i64 z36)) 14 (.int .i64 (k1 : Int))) ∧ k = 16 - k1 ∧ Ext noS G w GL1 W ∧ Pin.le G45 GL1 ∧ (k1 ≤ 16) ∧ (q60.ns.length ≤ q44.ns.length + 17 * k1) ∧ (∀ m, m < k1 → starG m ≠ pd q44 z36) ∧ (Pk 65 3 GL1 W p19 L57 R58 B59 mm20 q60) ∧ (PIn w (noS) p19 L57 R58 B59 mm20) ∧ (PoolOk q60) ∧ (PX q44 q60)) _ ⟨_, 0, L41, R42, B43, q44, G45, (zD (x := 14) (zD (x := 5) (zR (x := 4) rfl) rfl) rfl), rfl, hX52, Pin.le_refl _, Nat.zero_le _, (by omega), (fun m hm => absurd hm (Nat.not_lt_zero m)), hpk47, hpin53, hok48, (PX.refl _)⟩ ?_
  rintro k61 _ w62 ⟨env1, k1, L57, R58, B59, q60, GL1, rfl, hk63, hX64, hlek61, hk1, hnq, hno, hpk65, hpin66, hok67, hpx68⟩
  have hql69 := hpx68.len
  have hml70 : (q60.ns.map Nd.l).length = q60.ns.length ∧ (q60.ns.map Nd.r).length = q60.ns.length := ⟨List.length_map .., List.length_map ..⟩
  have hml71 : q60.bs.length = q60.ns.length ∧ q60.ns.length ≤ 1048576 := ⟨hok67.ar.ok.len, hok67.ar.ok.lim⟩
  refine zE (zF ?_)
  refine qD rfl (yO rfl rfl) ?_
  refine qe (zB (zE ?_))
  refine yH (p := ((k1 : Int) : Int) < 16) rfl rfl (fun h72 => ?_) (fun h72 => ?_)
  ·skip
   refine wp_skip ?_
   refine zB (zE ?_)
   refine yB ?_
   refine zE (zF ?_)
   refine qD rfl (zA (v := (.int .i64 (k1 : Int))) rfl) ?_
   refine qD rfl (zC (v := (.int .i64 (k1 : Int))) rfl) ?_
   refine qe (zB (zE (zF ?_)))
   refine qD rfl (zA (v := (.pointer (some ⟨p19, 0, none⟩))) rfl) ?_
   refine qD rfl (zA (v := (.int .i64 (k1 : Int))) rfl) ?_
   refine qI rfl (zN (vs := [(.pointer (some ⟨p19, 0, none⟩)), (.int .i64 (k1 : Int))]) Tryz.func73 nm73 rfl rfl rfl ?_)
   refine Calls.mono (star_spec hX64.pins hpk65 hok67 (n := k1) (by omega) (by omega)) ?_
   rintro _ w82 ⟨z73, L77, R78, B79, q80, G81, rfl, hpk83, hok84, hpx85, hlo86, hx87, hpl74, hpd75, hqn76⟩
   refine ⟨_, rfl, ?_⟩
   have hX88 := hX64.trans hx87 hpin66
   have hpin89 := PIn.call hpin66 hlo86 hX64.size
   have hql90 := hpx85.len
   have hml91 : (q80.ns.map Nd.l).length = q80.ns.length ∧ (q80.ns.map Nd.r).length = q80.ns.length := ⟨List.length_map .., List.length_map ..⟩
   have hml92 : q80.bs.length = q80.ns.length ∧ q80.ns.length ≤ 1048576 := ⟨hok84.ar.ok.len, hok84.ar.ok.lim⟩
   have hqn93 := hqn76
   refine qD rfl (zA (v := (.int .i64 z36)) rfl) ?_
   refine qD rfl (r_eql rfl rfl) ?_
   refine qe (zB ?_)
   refine yH (p := (z73 : Int) = z36) rfl rfl (fun h94 => ?_) (fun h94 => ?_)
   ·skip
    refine zE (zF ?_)
    refine qD rfl (zA (v := (.int .i64 (k1 : Int))) rfl) ?_
    refine qD rfl (zC (v := (.int .i64 (k1 : Int))) rfl) ?_
    refine qD rfl (zC (v := (.bool true)) rfl) ?_
    refine qe (zB ?_)
    refine wp_ret ?_
    refine zW ?_
    refine c_ret2 (v := (.int .i64 (k1 : Int))) (u := (.bool true)) rfl rfl rfl rfl rfl ?_
    obtain ⟨e1, e2⟩ := st_good h18 hcg38 hce39
    have hcc : pd q44 z36 = starG k1 := by rw [← (PX.trans hpx68 hpx85).pd hok48 hok84 hpl37, ← hpd75, h94]
    obtain ⟨e3, e4⟩ := so_yes (n := k1) (by omega)
    rw [e1, e2, hcc, e3, e4]
    exact ⟨_, rfl, hX88⟩
   refine wp_skip ?_
   refine yC ?_
   refine zB (zF ?_)
   refine qD rfl (yJ rfl rfl (by omega)) ?_
   refine qD rfl (zA (v := (.int .i64 ((k1 : Int) + 1))) rfl) ?_
   refine qe ?_
   refine yA ?_
   refine ⟨_, ?_, _, rfl, _, k1 + 1, L77, R78, B79, q80, G81, (zD (x := 14) (zD (x := 5) (zR (x := 4) rfl) rfl) rfl), rfl, hX88, (Pin.le_trans hlek61 hx87.le), (by omega), (by omega), (fun m hm => if h3 : m = k1 then h3 ▸ (fun e => h94 (place_inj hok84 hpl74 ((PX.trans hpx68 hpx85).place hpl37) (hpd75.trans (e.trans ((PX.trans hpx68 hpx85).pd hok48 hok84 hpl37).symm)))) else hno m (by omega)), hpk83, hpin89, hok84, (PX.trans hpx68 hpx85)⟩
   omega
  refine wp_exit ?_
  refine zZ ?_
  refine yK ?_
  refine yI ?_
  refine zB (zE (zF ?_))
  refine qD rfl (zC (v := (.int .i64 0)) rfl) ?_
  refine qD rfl (zC (v := (.bool false)) rfl) ?_
  refine qe (zB ?_)
  refine wp_ret ?_
  refine zW ?_
  refine c_ret2 (v := (.int .i64 0)) (u := (.bool false)) rfl rfl rfl rfl rfl ?_
  obtain ⟨e1, e2⟩ := st_good h18 hcg38 hce39
  obtain ⟨e3, e4⟩ := so_no (fun m hm => hno m (by omega))
  rw [e1, e2, e3, e4]
  exact ⟨_, rfl, hX64⟩
 refine zE (zF ?_)
 refine qD rfl (zC (v := (.int .i64 0)) rfl) ?_
 refine qD rfl (zC (v := (.bool false)) rfl) ?_
 refine qe (zB ?_)
 refine wp_ret ?_
 refine zW ?_
 refine c_ret2 (v := (.int .i64 0)) (u := (.bool false)) rfl rfl rfl rfl rfl ?_
 obtain ⟨e1, e2⟩ := st_bad h18
 rw [e1, e2]
 exact ⟨_, rfl, hX17⟩

end ST2
end Go.Proofs.YtfnginkcmcfdfaaGreatDoor

set_option maxRecDepth 20000
set_option maxHeartbeats 2000000
namespace Go.Proofs.YtfnginkcmcfdfaaGreatDoor
namespace OR1
open Go.RowKit Go.GL Go.Proofs
open Go.Proofs.YtfnginkcmcfdfaaGreatDoor.B1
open Go.Proofs.YtfnginkcmcfdfaaGreatDoor.C1
open Go.Proofs.YtfnginkcmcfdfaaGreatDoor.D1
open Go.Proofs.YtfnginkcmcfdfaaGreatDoor.E1











def GeqC (m : Nat) (o b : Nat) (bu bv kv : Value) (ns : List Nd) (bs : List Int) : Prop := ∀ {w : World} {G : Pin} {ks : List Int} {x y : Int} (_ : Pins G w) (_ : Od 99 3 G w o b bu bv kv ns bs ks) (_ : 0 ≤ x ∧ x < ns.length) (_ : 0 ≤ y ∧ y < ns.length) (_ : ks.length = ns.length * ns.length), x.toNat + y.toNat < m → KOk ns ks (x.toNat + y.toNat + 1) →
  Calls Tryz.prog 139 [(.pointer (some ⟨o, 0, none⟩)), (.int .i64 x), (.int .i64 y)].toArray w fun e w' => ∃ (ks' : List Int) (G' : Pin), e = .returned (.bool (geB ns x y)) ∧ Od 99 3 G' w' o b bu bv kv ns bs ks' ∧ KRes ns ks ks' (x.toNat + y.toNat + 1) ∧ Ext (inO kv.ownBlock) G w G' w'

theorem look_spec {w : World} {G : Pin} {m : Nat} {o b : Nat} {bu bv kv : Value} {ns : List Nd} {bs : List Int} {ks : List Int} {x y : Int} (hP : Pins G w) (hO : Od 99 3 G w o b bu bv kv ns bs ks) (hx : 0 ≤ x ∧ x < ns.length) (hy : 0 ≤ y ∧ y < ns.length) (hkl : ks.length = ns.length * ns.length) (hok : BookOk ns bs) (ih : GeqC m o b bu bv kv ns bs) (hm : x.toNat + y.toNat ≤ m) (hkok : KOk ns ks (x.toNat + y.toNat)) :
  Calls Tryz.prog 166 [(.pointer (some ⟨o, 0, none⟩)), (.int .i64 x), (.int .i64 y)].toArray w fun e w' => ∃ (ks' : List Int) (G' : Pin), e = .returned (.bool (geB ns x y)) ∧ Od 99 3 G' w' o b bu bv kv ns bs ks' ∧ KRes ns ks ks' (x.toNat + y.toNat) ∧ Ext (inO kv.ownBlock) G w G' w' := by
 refine yE (n := 75) Tryz.func166 Tryz.ntmps166 rfl rfl ?_
 have hX0 : Ext (inO kv.ownBlock) G w G w := Ext.refl hP
 have hB := hO.bk
 have hbx := hB.bx
 have hou := hB.ou
 have hov := hB.ov
 have habu := hB.abu
 have habv := hB.abv
 have hauv := hB.auv
 have hlen := hok.len
 have hlim := hok.lim
 have hox := hO.ox
 have hok2 := hO.ok
 have haok := hO.aok
 have habk := hO.abk
 have hauk := hO.auk
 have havk := hO.avk
 have hlok : Lo w (inO kv.ownBlock) kv.ownBlock := xQ
 have hoo : OptsOk ns := hok.optsOk
 have hlens := hok.lens
 refine zE (zF ?_)
 refine qD rfl (zC (v := (.bool false)) rfl) ?_
 refine qe (zB (zE (zE (zF ?_))))
 refine qD rfl (zC (v := (.int .i64 0)) rfl) ?_
 refine qe (zB ?_)
 refine yB ?_
 refine yM (fun (k : Nat) (en : Nat → Value) (W : World) => ∃ (env1 : Nat → Value) (i : Nat) (kqr : List Int) (GLr : Pin), en = (upd (upd (upd (upd env1 0 (.pointer (some ⟨o, 0, none⟩))) 1 (.int .i64 x)) 2 (.int .i64 y)) 7 (.int .i64 (i : Int))) ∧ k = (ns.getD (x).toNat default).r.length - i ∧ Ext (inO kv.ownBlock) G w GLr W ∧ Pin.le G GLr ∧ (i ≤ (ns.getD (x).toNat default).r.length) ∧ (KRes ns ks kqr (x.toNat + y.toNat)) ∧ (∀ q, q < i → geB ns y ((ns.getD (x).toNat default).r.getD q 0) = false) ∧ (Own eInt 3 GLr W 0 kv (kqr)) ∧ (Own eNode 99 GLr W 0 bu (ns)) ∧ (Own eInt 3 GLr W 0 bv (bs)) ∧ (Bx GLr W b [bu, bv]) ∧ (Bx GLr W o [(.pointer (some ⟨b, 0, none⟩)), kv])) _ ⟨_, 0, ks, G, (zD (x := 7) (zD (x := 2) (zD (x := 1) (zR (x := 0) rfl) rfl) rfl) rfl), rfl, hX0, Pin.le_refl _, Nat.zero_le _, (KRes.refl hkok), (fun q hq => absurd hq (Nat.not_lt_zero q)), hok2, hou, hov, hbx, hox⟩ ?_
 rintro k1 _ w2 ⟨env1, i, kqr, GLr, rfl, hk3, hX4, hlek1, hji, hkrr, hpr, hw5, hw6, hw7, hw8, hw9⟩
 have hklr := hkrr.len
 refine zE (zE (zF ?_))
 refine qD rfl (zA (v := (.int .i64 (i : Int))) rfl) ?_
 refine qD rfl (zA (v := (.pointer (some ⟨o, 0, none⟩))) rfl) ?_
 refine qD rfl (yP rfl) ?_
 refine qD rfl (zL (k := 0) rfl Tryz.underlying163 rfl nz100 rfl) ?_
 refine qD rfl (zQ (u := (.pointer (some ⟨b, 0, none⟩))) ag100 rfl (hw9.cell (o := 0) rfl)) ?_
 refine qD rfl (yP rfl) ?_
 refine qD rfl (zL (k := 0) rfl Tryz.underlying102 rfl nz30 rfl) ?_
 refine qD rfl (zQ (u := bu) ag30 rfl (hw8.cell (o := 0) rfl)) ?_
 refine qD rfl (zA (v := (.int .i64 x)) rfl) ?_
 refine qD rfl (zK Tryz.underlying30 sz99 (v := bu) rfl rfl hw6.read (by omega) (by omega)) ?_
 refine qD rfl (xD (off := 1) Tryz.underlying99 rfl rfl nz65 (z := x) (k := 0) rfl hw6.read (by omega) (by omega)) ?_
 obtain ⟨u10, hr11, hl12⟩ := nm_nr (hw6.at (z := x) (by omega) (by omega)) (j := (x).toNat) rfl
 have hm13 := hr11.max
 refine qD rfl (hl12 ag65 rfl (Gadd.pins hX4.pins bu)) ?_
 refine qD rfl (zO Tryz.underlying65 (v := u10) rfl hr11) ?_
 refine qD rfl (yO rfl rfl) ?_
 refine qe (zB ?_)
 refine yH (p := ((i : Int) : Int) < (((ns.getD (x).toNat default).r).length : Int)) rfl rfl (fun h14 => ?_) (fun h14 => ?_)
 ·skip
  have hki := hoo.right (j := (x).toNat) (i := i) (by omega) (by omega)
  refine wp_skip ?_
  refine zB (zE ?_)
  refine yB ?_
  refine zE (zF ?_)
  refine qD rfl (zA (v := (.pointer (some ⟨o, 0, none⟩))) rfl) ?_
  refine qD rfl (zA (v := (.int .i64 y)) rfl) ?_
  refine qD rfl (zA (v := (.pointer (some ⟨o, 0, none⟩))) rfl) ?_
  refine qD rfl (yP rfl) ?_
  refine qD rfl (zL (k := 0) rfl Tryz.underlying163 rfl nz100 rfl) ?_
  refine qD rfl (zQ (u := (.pointer (some ⟨b, 0, none⟩))) ag100 rfl (hw9.cell (o := 0) rfl)) ?_
  refine qD rfl (yP rfl) ?_
  refine qD rfl (zL (k := 0) rfl Tryz.underlying102 rfl nz30 rfl) ?_
  refine qD rfl (zQ (u := bu) ag30 rfl (hw8.cell (o := 0) rfl)) ?_
  refine qD rfl (zA (v := (.int .i64 x)) rfl) ?_
  refine qD rfl (zK Tryz.underlying30 sz99 (v := bu) rfl rfl hw6.read (by omega) (by omega)) ?_
  refine qD rfl (xD (off := 1) Tryz.underlying99 rfl rfl nz65 (z := x) (k := 0) rfl hw6.read (by omega) (by omega)) ?_
  obtain ⟨u15, hr16, hl17⟩ := nm_nr (hw6.at (z := x) (by omega) (by omega)) (j := (x).toNat) rfl
  have hm18 := hr16.max
  refine qD rfl (hl17 ag65 rfl (Gadd.pins hX4.pins bu)) ?_
  refine qD rfl (zA (v := (.int .i64 (i : Int))) rfl) ?_
  refine qD rfl (zK Tryz.underlying65 sz3 (v := u15) rfl rfl hr16 (by omega) (by omega)) ?_
  refine qD rfl (zI (r := ((ns.getD (x).toNat default).r).getD i 0) rfl ag3 (z := (i : Int)) rfl hr16 hX4.pins (by omega) (by omega)) ?_
  refine qI rfl (zN (vs := [(.pointer (some ⟨o, 0, none⟩)), (.int .i64 y), (.int .i64 (((ns.getD (x).toNat default).r).getD i 0))]) Tryz.func139 nm139 rfl rfl rfl ?_)
  refine Calls.mono (ih hX4.pins ⟨⟨hw8, hw6, hw7, habu, habv, hauv⟩, hw9, hw5, haok, habk, hauk, havk⟩ (by omega) (by omega) (by omega) (by omega) (hkrr.ok.mono (by omega))) ?_
  rintro _ w21 ⟨ks19, G20, rfl, hd22, hr23, hx24⟩
  refine ⟨_, rfl, ?_⟩
  have hX25 := hX4.trans hx24 (fun i hi => hlok i hi)
  have ho26 := hw6.extS hx24 (notO hauk)
  have ho27 := hw7.extS hx24 (notO havk)
  have hb28 := hw8.extS hx24 (qE habk)
  have hb29 := hw9.extS hx24 (qE haok)
  have hkl31 := hr23.len
  refine qe (zB ?_)
  refine c_if rfl rfl (fun h32 => ?_) (fun h32 => ?_)
  ·skip
   refine zE (zF ?_)
   refine qD rfl (zC (v := (.bool false)) rfl) ?_
   refine qe (zB ?_)
   refine wp_ret ?_
   refine zW ?_
   refine zS (v := (.bool false)) rfl rfl rfl ?_
   exact ⟨_, _, congrArg (fun z => Ending.returned (Value.bool z)) (geB_no_right hoo hx (by omega) h32).symm, ⟨⟨hb28, ho26, ho27, habu, habv, hauv⟩, hb29, hd22.ok, haok, habk, hauk, havk⟩, (hkrr.wide hr23 (by omega)), hX25⟩
  refine wp_skip ?_
  refine yC ?_
  refine zB (zF ?_)
  refine qD rfl (zA (v := (.int .i64 (i : Int))) rfl) ?_
  refine qD rfl (yJ rfl rfl (by omega)) ?_
  refine qD rfl (zC (v := (.int .i64 ((i : Int) + 1))) rfl) ?_
  refine qe ?_
  refine yA ?_
  refine ⟨_, ?_, _, rfl, _, i + 1, ks19, G20, (zD (x := 7) (zD (x := 2) (zD (x := 1) (zR (x := 0) rfl) rfl) rfl) rfl), rfl, hX25, (Pin.le_trans hlek1 hx24.le), (by omega), (hkrr.wide hr23 (by omega)), (fun q hq => if h3 : q = i then h3 ▸ h32 else hpr q (by omega)), hd22.ok, ho26, ho27, hb28, hb29⟩
  omega
 refine wp_exit ?_
 refine zZ ?_
 refine yK ?_
 refine yI ?_
 refine zB (zE (zE (zF ?_)))
 refine qD rfl (zC (v := (.int .i64 0)) rfl) ?_
 refine qe (zB ?_)
 refine yB ?_
 refine yM (fun (k : Nat) (en : Nat → Value) (W : World) => ∃ (env1 : Nat → Value) (i2 : Nat) (kql : List Int) (GLl : Pin), en = (upd (upd (upd (upd env1 0 (.pointer (some ⟨o, 0, none⟩))) 1 (.int .i64 x)) 2 (.int .i64 y)) 8 (.int .i64 (i2 : Int))) ∧ k = (ns.getD (y).toNat default).l.length - i2 ∧ Ext (inO kv.ownBlock) G w GLl W ∧ Pin.le GLr GLl ∧ (i2 ≤ (ns.getD (y).toNat default).l.length) ∧ (KRes ns ks kql (x.toNat + y.toNat)) ∧ (∀ q, q < i2 → geB ns ((ns.getD (y).toNat default).l.getD q 0) x = false) ∧ (Own eInt 3 GLl W 0 kv (kql)) ∧ (Own eNode 99 GLl W 0 bu (ns)) ∧ (Own eInt 3 GLl W 0 bv (bs)) ∧ (Bx GLl W b [bu, bv]) ∧ (Bx GLl W o [(.pointer (some ⟨b, 0, none⟩)), kv])) _ ⟨_, 0, kqr, GLr, (zD (x := 8) (zD (x := 2) (zD (x := 1) (zR (x := 0) rfl) rfl) rfl) rfl), rfl, hX4, Pin.le_refl _, Nat.zero_le _, hkrr, (fun q hq => absurd hq (Nat.not_lt_zero q)), hw5, hw6, hw7, hw8, hw9⟩ ?_
 rintro k33 _ w34 ⟨env1, i2, kql, GLl, rfl, hk35, hX36, hlek33, hji2, hkrl, hpl, hw37, hw38, hw39, hw40, hw41⟩
 have hkll := hkrl.len
 refine zE (zE (zF ?_))
 refine qD rfl (zA (v := (.int .i64 (i2 : Int))) rfl) ?_
 refine qD rfl (zA (v := (.pointer (some ⟨o, 0, none⟩))) rfl) ?_
 refine qD rfl (yP rfl) ?_
 refine qD rfl (zL (k := 0) rfl Tryz.underlying163 rfl nz100 rfl) ?_
 refine qD rfl (zQ (u := (.pointer (some ⟨b, 0, none⟩))) ag100 rfl (hw41.cell (o := 0) rfl)) ?_
 refine qD rfl (yP rfl) ?_
 refine qD rfl (zL (k := 0) rfl Tryz.underlying102 rfl nz30 rfl) ?_
 refine qD rfl (zQ (u := bu) ag30 rfl (hw40.cell (o := 0) rfl)) ?_
 refine qD rfl (zA (v := (.int .i64 y)) rfl) ?_
 refine qD rfl (zK Tryz.underlying30 sz99 (v := bu) rfl rfl hw38.read (by omega) (by omega)) ?_
 refine qD rfl (xD (off := 0) Tryz.underlying99 rfl rfl nz65 (z := y) (k := 0) rfl hw38.read (by omega) (by omega)) ?_
 obtain ⟨u42, hr43, hl44⟩ := nm_nl (hw38.at (z := y) (by omega) (by omega)) (j := (y).toNat) rfl
 have hm45 := hr43.max
 refine qD rfl (hl44 ag65 rfl (Gadd.pins hX36.pins bu)) ?_
 refine qD rfl (zO Tryz.underlying65 (v := u42) rfl hr43) ?_
 refine qD rfl (yO rfl rfl) ?_
 refine qe (zB ?_)
 refine yH (p := ((i2 : Int) : Int) < (((ns.getD (y).toNat default).l).length : Int)) rfl rfl (fun h46 => ?_) (fun h46 => ?_)
 ·skip
  have hki := hoo.left (j := (y).toNat) (i := i2) (by omega) (by omega)
  refine wp_skip ?_
  refine zB (zE ?_)
  refine yB ?_
  refine zE (zF ?_)
  refine qD rfl (zA (v := (.pointer (some ⟨o, 0, none⟩))) rfl) ?_
  refine qD rfl (zA (v := (.pointer (some ⟨o, 0, none⟩))) rfl) ?_
  refine qD rfl (yP rfl) ?_
  refine qD rfl (zL (k := 0) rfl Tryz.underlying163 rfl nz100 rfl) ?_
  refine qD rfl (zQ (u := (.pointer (some ⟨b, 0, none⟩))) ag100 rfl (hw41.cell (o := 0) rfl)) ?_
  refine qD rfl (yP rfl) ?_
  refine qD rfl (zL (k := 0) rfl Tryz.underlying102 rfl nz30 rfl) ?_
  refine qD rfl (zQ (u := bu) ag30 rfl (hw40.cell (o := 0) rfl)) ?_
  refine qD rfl (zA (v := (.int .i64 y)) rfl) ?_
  refine qD rfl (zK Tryz.underlying30 sz99 (v := bu) rfl rfl hw38.read (by omega) (by omega)) ?_
  refine qD rfl (xD (off := 0) Tryz.underlying99 rfl rfl nz65 (z := y) (k := 0) rfl hw38.read (by omega) (by omega)) ?_
  obtain ⟨u47, hr48, hl49⟩ := nm_nl (hw38.at (z := y) (by omega) (by omega)) (j := (y).toNat) rfl
  have hm50 := hr48.max
  refine qD rfl (hl49 ag65 rfl (Gadd.pins hX36.pins bu)) ?_
  refine qD rfl (zA (v := (.int .i64 (i2 : Int))) rfl) ?_
  refine qD rfl (zK Tryz.underlying65 sz3 (v := u47) rfl rfl hr48 (by omega) (by omega)) ?_
  refine qD rfl (zI (r := ((ns.getD (y).toNat default).l).getD i2 0) rfl ag3 (z := (i2 : Int)) rfl hr48 hX36.pins (by omega) (by omega)) ?_
  refine qD rfl (zA (v := (.int .i64 x)) rfl) ?_
  refine qI rfl (zN (vs := [(.pointer (some ⟨o, 0, none⟩)), (.int .i64 (((ns.getD (y).toNat default).l).getD i2 0)), (.int .i64 x)]) Tryz.func139 nm139 rfl rfl rfl ?_)
  refine Calls.mono (ih hX36.pins ⟨⟨hw40, hw38, hw39, habu, habv, hauv⟩, hw41, hw37, haok, habk, hauk, havk⟩ (by omega) (by omega) (by omega) (by omega) (hkrl.ok.mono (by omega))) ?_
  rintro _ w53 ⟨ks51, G52, rfl, hd54, hr55, hx56⟩
  refine ⟨_, rfl, ?_⟩
  have hX57 := hX36.trans hx56 (fun i hi => hlok i hi)
  have ho58 := hw38.extS hx56 (notO hauk)
  have ho59 := hw39.extS hx56 (notO havk)
  have hb60 := hw40.extS hx56 (qE habk)
  have hb61 := hw41.extS hx56 (qE haok)
  have hkl63 := hr55.len
  refine qe (zB ?_)
  refine c_if rfl rfl (fun h64 => ?_) (fun h64 => ?_)
  ·skip
   refine zE (zF ?_)
   refine qD rfl (zC (v := (.bool false)) rfl) ?_
   refine qe (zB ?_)
   refine wp_ret ?_
   refine zW ?_
   refine zS (v := (.bool false)) rfl rfl rfl ?_
   exact ⟨_, _, congrArg (fun z => Ending.returned (Value.bool z)) (geB_no_left hoo hy (by omega) h64).symm, ⟨⟨hb60, ho58, ho59, habu, habv, hauv⟩, hb61, hd54.ok, haok, habk, hauk, havk⟩, (hkrl.wide hr55 (by omega)), hX57⟩
  refine wp_skip ?_
  refine yC ?_
  refine zB (zF ?_)
  refine qD rfl (zA (v := (.int .i64 (i2 : Int))) rfl) ?_
  refine qD rfl (yJ rfl rfl (by omega)) ?_
  refine qD rfl (zC (v := (.int .i64 ((i2 : Int) + 1))) rfl) ?_
  refine qe ?_
  refine yA ?_
  refine ⟨_, ?_, _, rfl, _, i2 + 1, ks51, G52, (zD (x := 8) (zD (x := 2) (zD (x := 1) (zR (x := 0) rfl) rfl) rfl) rfl), rfl, hX57, (Pin.le_trans hlek33 hx56.le), (by omega), (hkrl.wide hr55 (by omega)), (fun q hq => if h3 : q = i2 then h3 ▸ h64 else hpl q (by omega)), hd54.ok, ho58, ho59, hb60, hb61⟩
  omega
 refine wp_exit ?_
 refine zZ ?_
 refine yK ?_
 refine yI ?_
 refine zB (zE (zF ?_))
 refine qD rfl (zC (v := (.bool true)) rfl) ?_
 refine qe (zB ?_)
 refine wp_ret ?_
 refine zW ?_
 refine zS (v := (.bool true)) rfl rfl rfl ?_
 exact ⟨_, _, congrArg (fun z => Ending.returned (Value.bool z)) (geB_yes hoo hx hy (fun q hq => hpr q (by omega)) (fun q hq => hpl q (by omega))).symm, ⟨⟨hw40, hw38, hw39, habu, habv, hauv⟩, hw41, hw37, haok, habk, hauk, havk⟩, hkrl, hX36⟩

theorem geq_step {w : World} {G : Pin} {m : Nat} {o b : Nat} {bu bv kv : Value} {ns : List Nd} {bs : List Int} {ks : List Int} {x y : Int} (hP : Pins G w) (hO : Od 99 3 G w o b bu bv kv ns bs ks) (hx : 0 ≤ x ∧ x < ns.length) (hy : 0 ≤ y ∧ y < ns.length) (hkl : ks.length = ns.length * ns.length) (hok : BookOk ns bs) (ih : GeqC m o b bu bv kv ns bs) (hm : x.toNat + y.toNat < m + 1) (hkok : KOk ns ks (x.toNat + y.toNat + 1)) :
  Calls Tryz.prog 139 [(.pointer (some ⟨o, 0, none⟩)), (.int .i64 x), (.int .i64 y)].toArray w fun e w' => ∃ (ks' : List Int) (G' : Pin), e = .returned (.bool (geB ns x y)) ∧ Od 99 3 G' w' o b bu bv kv ns bs ks' ∧ KRes ns ks ks' (x.toNat + y.toNat + 1) ∧ Ext (inO kv.ownBlock) G w G' w' := by
 refine yE (n := 52) Tryz.func139 Tryz.ntmps139 rfl rfl ?_
 have hX0 : Ext (inO kv.ownBlock) G w G w := Ext.refl hP
 have hB := hO.bk
 have hbx := hB.bx
 have hou := hB.ou
 have hov := hB.ov
 have habu := hB.abu
 have habv := hB.abv
 have hauv := hB.auv
 have hlen := hok.len
 have hlim := hok.lim
 have hox := hO.ox
 have hok2 := hO.ok
 have haok := hO.aok
 have habk := hO.abk
 have hauk := hO.auk
 have havk := hO.avk
 have hlok : Lo w (inO kv.ownBlock) kv.ownBlock := xQ
 have hoo : OptsOk ns := hok.optsOk
 have hlens := hok.lens
 have hib := idx_bd hx hy hok.lim
 refine zE (zF ?_)
 refine qD rfl (zC (v := (.bool false)) rfl) ?_
 refine qe (zB (zE (zF ?_)))
 refine qD rfl (zA (v := (.int .i64 x)) rfl) ?_
 refine qD rfl (zA (v := (.pointer (some ⟨o, 0, none⟩))) rfl) ?_
 refine qD rfl (yP rfl) ?_
 refine qD rfl (zL (k := 0) rfl Tryz.underlying163 rfl nz100 rfl) ?_
 refine qD rfl (zQ (u := (.pointer (some ⟨b, 0, none⟩))) ag100 rfl (hox.cell (o := 0) rfl)) ?_
 refine qD rfl (yP rfl) ?_
 refine qD rfl (zL (k := 0) rfl Tryz.underlying102 rfl nz30 rfl) ?_
 refine qD rfl (zQ (u := bu) ag30 rfl (hbx.cell (o := 0) rfl)) ?_
 refine qD rfl (zO Tryz.underlying30 (v := bu) rfl hou.read) ?_
 refine qD rfl (r_mul rfl rfl (by omega)) ?_
 refine qD rfl (zA (v := (.int .i64 y)) rfl) ?_
 refine qD rfl (yJ rfl rfl (by omega)) ?_
 refine qD rfl (zC (v := (.int .i64 ((x * (ns.length : Int)) + y))) rfl) ?_
 refine qe (zB (zE (zE (zF ?_))))
 refine qD rfl (zA (v := (.pointer (some ⟨o, 0, none⟩))) rfl) ?_
 refine qD rfl (yP rfl) ?_
 refine qD rfl (zL (k := 1) rfl Tryz.underlying163 rfl nz65 rfl) ?_
 refine qD rfl (zQ (u := kv) ag65 rfl (hox.cell (o := 1) rfl)) ?_
 refine qD rfl (zA (v := (.int .i64 ((x * (ns.length : Int)) + y))) rfl) ?_
 refine qD rfl (zK Tryz.underlying65 sz3 (v := kv) rfl rfl hok2.read (by omega) (by omega)) ?_
 refine qD rfl (zI (r := ks.getD ((x * (ns.length : Int)) + y).toNat 0) rfl ag3 (z := ((x * (ns.length : Int)) + y)) rfl hok2.read (Gadd.pins hX0.pins kv) (by omega) (by omega)) ?_
 refine qD rfl (r_eql rfl rfl) ?_
 refine qe (zB ?_)
 refine yH (p := (ks.getD ((x * (ns.length : Int)) + y).toNat 0 : Int) = 0) rfl rfl (fun h1 => ?_) (fun h1 => ?_)
 ·skip
  refine zE (zF ?_)
  refine qD rfl (zA (v := (.pointer (some ⟨o, 0, none⟩))) rfl) ?_
  refine qD rfl (yP rfl) ?_
  refine qD rfl (zL (k := 1) rfl Tryz.underlying163 rfl nz65 rfl) ?_
  refine qD rfl (zQ (u := kv) ag65 rfl (hox.cell (o := 1) rfl)) ?_
  refine qD rfl (zA (v := (.int .i64 ((x * (ns.length : Int)) + y))) rfl) ?_
  refine qD rfl (zK Tryz.underlying65 sz3 (v := kv) rfl rfl hok2.read (by omega) (by omega)) ?_
  refine q0 rfl rfl rfl (o_set (E := eInt) (v := kv) (u := (.int .i64 2)) (z := ((x * (ns.length : Int)) + y)) (2) sz3 rfl rfl rfl rfl hX0.pins hok2 (by omega) (by omega) (fun w2 ho3 hp4 hg5 hz6 => ?_))
  have hX7 := hX0.write hp4 hg5 (hlok)
  have ho8 := hou.keptA hg5 hauk
  have ho9 := hov.keptA hg5 havk
  have hb10 := hbx.keptA hg5 habk
  have hb11 := hox.keptA hg5 haok
  have hm12 : ((ks).set ((x * (ns.length : Int)) + y).toNat 2).length = ks.length := List.length_set ..
  refine qe (zB (zE (zF ?_)))
  refine qD rfl (zA (v := (.pointer (some ⟨o, 0, none⟩))) rfl) ?_
  refine qD rfl (zA (v := (.int .i64 x)) rfl) ?_
  refine qD rfl (zA (v := (.int .i64 y)) rfl) ?_
  refine qI rfl (zN (vs := [(.pointer (some ⟨o, 0, none⟩)), (.int .i64 x), (.int .i64 y)]) Tryz.func166 nm166 rfl rfl rfl ?_)
  refine Calls.mono (look_spec hX7.pins ⟨⟨hb10, ho8, ho9, habu, habv, hauv⟩, hb11, ho3, haok, habk, hauk, havk⟩ hx hy (by rw [List.length_set]; exact hkl) hok ih (by omega) (KRes.prov hx hy hkok).1) ?_
  rintro _ w15 ⟨ks13, G14, rfl, hd16, hr17, hx18⟩
  refine ⟨_, rfl, ?_⟩
  have hX19 := hX7.trans hx18 (fun i hi => hlok i hi)
  have ho20 := ho8.extS hx18 (notO hauk)
  have ho21 := ho9.extS hx18 (notO havk)
  have hb22 := hb10.extS hx18 (qE habk)
  have hb23 := hb11.extS hx18 (qE haok)
  have hkl25 := hr17.len
  refine qe (zB ?_)
  refine c_if rfl rfl (fun h26 => ?_) (fun h26 => ?_)
  ·skip
   refine zF ?_
   refine qD rfl (zA (v := (.pointer (some ⟨o, 0, none⟩))) rfl) ?_
   refine qD rfl (yP rfl) ?_
   refine qD rfl (zL (k := 1) rfl Tryz.underlying163 rfl nz65 rfl) ?_
   refine qD rfl (zQ (u := kv) ag65 rfl (hb23.cell (o := 1) rfl)) ?_
   refine qD rfl (zA (v := (.int .i64 ((x * (ns.length : Int)) + y))) rfl) ?_
   refine qD rfl (zK Tryz.underlying65 sz3 (v := kv) rfl rfl hd16.ok.read (by omega) (by omega)) ?_
   refine q0 rfl rfl rfl (o_set (E := eInt) (v := kv) (u := (.int .i64 1)) (z := ((x * (ns.length : Int)) + y)) (1) sz3 rfl rfl rfl rfl hX19.pins hd16.ok (by omega) (by omega) (fun w27 ho28 hp29 hg30 hz31 => ?_))
   have hX32 := hX19.write hp29 hg30 (hlok)
   have ho33 := ho20.keptA hg30 hauk
   have ho34 := ho21.keptA hg30 havk
   have hb35 := hb22.keptA hg30 habk
   have hb36 := hb23.keptA hg30 haok
   have hm37 : ((ks13).set ((x * (ns.length : Int)) + y).toNat 1).length = ks13.length := List.length_set ..
   refine qe (zB (zE (zF ?_)))
   refine qD rfl (zA (v := (.pointer (some ⟨o, 0, none⟩))) rfl) ?_
   refine qD rfl (yP rfl) ?_
   refine qD rfl (zL (k := 1) rfl Tryz.underlying163 rfl nz65 rfl) ?_
   refine qD rfl (zQ (u := kv) ag65 rfl (hb36.cell (o := 1) rfl)) ?_
   refine qD rfl (zA (v := (.int .i64 ((x * (ns.length : Int)) + y))) rfl) ?_
   refine qD rfl (zK Tryz.underlying65 sz3 (v := kv) rfl rfl ho28.read (by omega) (by omega)) ?_
   refine qD rfl (zI (r := ((ks13).set ((x * (ns.length : Int)) + y).toNat 1).getD ((x * (ns.length : Int)) + y).toNat 0) rfl ag3 (z := ((x * (ns.length : Int)) + y)) rfl ho28.read (Gadd.pins hX32.pins kv) (by omega) (by omega)) ?_
   refine qD rfl (r_eql rfl rfl) ?_
   refine qD rfl (zC (v := (.bool (decide ((((ks13).set ((x * (ns.length : Int)) + y).toNat 1).getD ((x * (ns.length : Int)) + y).toNat 0 : Int) = 1)))) rfl) ?_
   refine qe (zB ?_)
   refine wp_ret ?_
   refine zW ?_
   refine zS (v := (.bool (decide ((((ks13).set ((x * (ns.length : Int)) + y).toNat 1).getD ((x * (ns.length : Int)) + y).toNat 0 : Int) = 1)))) rfl rfl rfl ?_
   have htold := KRes.told hx hy hkl hkok hr17 (if_pos h26).symm
   exact ⟨_, _, congrArg (fun z => Ending.returned (Value.bool z)) htold.2, ⟨⟨hb35, ho33, ho34, habu, habv, hauv⟩, hb36, ho28, haok, habk, hauk, havk⟩, htold.1, hX32⟩
  refine wp_skip ?_
  refine zB (zE (zF ?_))
  refine qD rfl (zA (v := (.pointer (some ⟨o, 0, none⟩))) rfl) ?_
  refine qD rfl (yP rfl) ?_
  refine qD rfl (zL (k := 1) rfl Tryz.underlying163 rfl nz65 rfl) ?_
  refine qD rfl (zQ (u := kv) ag65 rfl (hb23.cell (o := 1) rfl)) ?_
  refine qD rfl (zA (v := (.int .i64 ((x * (ns.length : Int)) + y))) rfl) ?_
  refine qD rfl (zK Tryz.underlying65 sz3 (v := kv) rfl rfl hd16.ok.read (by omega) (by omega)) ?_
  refine qD rfl (zI (r := ks13.getD ((x * (ns.length : Int)) + y).toNat 0) rfl ag3 (z := ((x * (ns.length : Int)) + y)) rfl hd16.ok.read (Gadd.pins hX19.pins kv) (by omega) (by omega)) ?_
  refine qD rfl (r_eql rfl rfl) ?_
  refine qD rfl (zC (v := (.bool (decide ((ks13.getD ((x * (ns.length : Int)) + y).toNat 0 : Int) = 1)))) rfl) ?_
  refine qe (zB ?_)
  refine wp_ret ?_
  refine zW ?_
  refine zS (v := (.bool (decide ((ks13.getD ((x * (ns.length : Int)) + y).toNat 0 : Int) = 1)))) rfl rfl rfl ?_
  have htold := KRes.told hx hy hkl hkok hr17 (if_neg (by rw [h26]; decide)).symm
  exact ⟨_, _, congrArg (fun z => Ending.returned (Value.bool z)) htold.2, ⟨⟨hb22, ho20, ho21, habu, habv, hauv⟩, hb23, hd16.ok, haok, habk, hauk, havk⟩, htold.1, hX19⟩
 refine wp_skip ?_
 refine zB (zE (zF ?_))
 refine qD rfl (zA (v := (.pointer (some ⟨o, 0, none⟩))) rfl) ?_
 refine qD rfl (yP rfl) ?_
 refine qD rfl (zL (k := 1) rfl Tryz.underlying163 rfl nz65 rfl) ?_
 refine qD rfl (zQ (u := kv) ag65 rfl (hox.cell (o := 1) rfl)) ?_
 refine qD rfl (zA (v := (.int .i64 ((x * (ns.length : Int)) + y))) rfl) ?_
 refine qD rfl (zK Tryz.underlying65 sz3 (v := kv) rfl rfl hok2.read (by omega) (by omega)) ?_
 refine qD rfl (zI (r := ks.getD ((x * (ns.length : Int)) + y).toNat 0) rfl ag3 (z := ((x * (ns.length : Int)) + y)) rfl hok2.read (Gadd.pins hX0.pins kv) (by omega) (by omega)) ?_
 refine qD rfl (r_eql rfl rfl) ?_
 refine qD rfl (zC (v := (.bool (decide ((ks.getD ((x * (ns.length : Int)) + y).toNat 0 : Int) = 1)))) rfl) ?_
 refine qe (zB ?_)
 refine wp_ret ?_
 refine zW ?_
 refine zS (v := (.bool (decide ((ks.getD ((x * (ns.length : Int)) + y).toNat 0 : Int) = 1)))) rfl rfl rfl ?_
 exact ⟨_, _, congrArg (fun z => Ending.returned (Value.bool z)) (KOk.known hx hy hkok h1), ⟨⟨hbx, hou, hov, habu, habv, hauv⟩, hox, hok2, haok, habk, hauk, havk⟩, KRes.refl hkok, hX0⟩

theorem geq_all {o b : Nat} {bu bv kv : Value} {ns : List Nd} {bs : List Int} (hok : BookOk ns bs) : ∀ m, GeqC m o b bu bv kv ns bs
 | 0 => fun _ _ _ _ _ h _ => absurd h (Nat.not_lt_zero _)
 | m + 1 => fun hP hO hx hy hkl hm hk => geq_step hP hO hx hy hkl hok (geq_all hok m) hm hk
theorem geq_spec {w : World} {G : Pin} {o b : Nat} {bu bv kv : Value} {ns : List Nd} {bs : List Int} {ks : List Int} {x y : Int} (hP : Pins G w) (hO : Od 99 3 G w o b bu bv kv ns bs ks) (hx : 0 ≤ x ∧ x < ns.length) (hy : 0 ≤ y ∧ y < ns.length) (hkl : ks.length = ns.length * ns.length) (hok : BookOk ns bs) (hkok : KOk ns ks (x.toNat + y.toNat + 1)) :
  Calls Tryz.prog 139 [(.pointer (some ⟨o, 0, none⟩)), (.int .i64 x), (.int .i64 y)].toArray w fun e w' => ∃ (ks' : List Int) (G' : Pin), e = .returned (.bool (geB ns x y)) ∧ Od 99 3 G' w' o b bu bv kv ns bs ks' ∧ KRes ns ks ks' (x.toNat + y.toNat + 1) ∧ Ext (inO kv.ownBlock) G w G' w' :=
 geq_all hok _ hP hO hx hy hkl (Nat.lt_succ_self _) hkok

end OR1
end Go.Proofs.YtfnginkcmcfdfaaGreatDoor

set_option maxRecDepth 20000
set_option maxHeartbeats 2000000
namespace Go.Proofs.YtfnginkcmcfdfaaGreatDoor
namespace C61
open Go.RowKit Go.GL Go.Proofs
open Go.Proofs.YtfnginkcmcfdfaaGreatDoor.B1
open Go.Proofs.YtfnginkcmcfdfaaGreatDoor.C1
open Go.Proofs.YtfnginkcmcfdfaaGreatDoor.D1
open Go.Proofs.YtfnginkcmcfdfaaGreatDoor.E1
open Go.Proofs.YtfnginkcmcfdfaaGreatDoor.OR1





theorem mk3 : (Tryz.prog.info? 3).map (fun i => (i.size, i.bytes, i.zero)) = some (1, 8, some (.int .i64 0)) := by kernel_rfl







theorem pl163 : (Tryz.prog.underlying 163).bind (placesD Tryz.prog) = some [(0, 1), (1, 1)] := by kernel_rfl




theorem l4Of_spec {w : World} {G : Pin} {b : Nat} {bu bv : Value} {ns : List Nd} {bs : List Int} (hP : Pins G w) (hB : Bk 99 3 G w b bu bv ns bs) (hok : BookOk ns bs) :
  Calls Tryz.prog 138 [(.pointer (some ⟨b, 0, none⟩))].toArray w fun e w' => ∃ (o : Nat) (kv : Value) (G' : Pin), e = .returned (.pointer (some ⟨o, 0, none⟩)) ∧ Bx G' w' o [.pointer (some ⟨b, 0, none⟩), kv] ∧ Own eInt 3 G' w' w.heap.size kv (List.replicate (ns.length * ns.length) 0) ∧ w.heap.size ≤ o ∧ Apart (some o) kv.ownBlock ∧ Ext noS G w G' w' := by
 refine yE (n := 18) Tryz.func138 Tryz.ntmps138 rfl rfl ?_
 have hX0 : Ext noS G w G w := Ext.refl hP
 have hbx := hB.bx
 have hou := hB.ou
 have hov := hB.ov
 have habu := hB.abu
 have habv := hB.abv
 have hauv := hB.auv
 have hlen := hok.len
 have hlim := hok.lim
 have hsq := sq_bd hok.lim
 refine zE (zF ?_)
 refine qD rfl (zC (v := (.pointer none)) rfl) ?_
 refine qe (zB (zE ?_))
 have hq1 := Gadd.pins hX0.pins bu
 have hr2 := hou.read
 refine xE (S := fun wz => BxR wz b [bu, bv] ∧ Pins (Gadd G w bu) wz) (last := 16) (by kernel_rfl) rfl ?_
 have hl3 : Below w.heap.size w w.drew := (Below.refl _ _).drew
 have hp4 := hX0.pins.below hl3
 have hX5 := hX0.step hp4 hl3
 have hb8 := hbx.below hl3
 have hq9 := hq1.below hl3
 refine dT (i := 0) rfl rfl (by kernel_rfl) (fun _ _ => zA (v := (.pointer (some ⟨b, 0, none⟩))) rfl) ⟨hb8.reads, hq9⟩ ?_
 refine dT (i := 1) rfl rfl (by kernel_rfl) (fun _ _ => zA (v := (.pointer (some ⟨b, 0, none⟩))) rfl) ⟨hb8.reads, hq9⟩ ?_
 refine dT (i := 2) rfl rfl (by kernel_rfl) (fun _ _ => yP rfl) ⟨hb8.reads, hq9⟩ ?_
 refine dT (i := 3) rfl rfl (by kernel_rfl) (fun _ _ => zL (k := 0) rfl Tryz.underlying102 rfl nz30 rfl) ⟨hb8.reads, hq9⟩ ?_
 refine dT (i := 4) rfl rfl (by kernel_rfl) (fun _ hS => zQ (u := bu) ag30 rfl (hS.1 0 _ rfl)) ⟨hb8.reads, hq9⟩ ?_
 refine dT (i := 5) rfl rfl (by kernel_rfl) (fun _ _ => zO Tryz.underlying30 (v := bu) rfl hr2) ⟨hb8.reads, hq9⟩ ?_
 refine dT (i := 6) rfl rfl (by kernel_rfl) (fun _ _ => zA (v := (.pointer (some ⟨b, 0, none⟩))) rfl) ⟨hb8.reads, hq9⟩ ?_
 refine dT (i := 7) rfl rfl (by kernel_rfl) (fun _ _ => yP rfl) ⟨hb8.reads, hq9⟩ ?_
 refine dT (i := 8) rfl rfl (by kernel_rfl) (fun _ _ => zL (k := 0) rfl Tryz.underlying102 rfl nz30 rfl) ⟨hb8.reads, hq9⟩ ?_
 refine dT (i := 9) rfl rfl (by kernel_rfl) (fun _ hS => zQ (u := bu) ag30 rfl (hS.1 0 _ rfl)) ⟨hb8.reads, hq9⟩ ?_
 refine dT (i := 10) rfl rfl (by kernel_rfl) (fun _ _ => zO Tryz.underlying30 (v := bu) rfl hr2) ⟨hb8.reads, hq9⟩ ?_
 refine dT (i := 11) rfl rfl (by kernel_rfl) (fun _ _ => r_mul rfl rfl (by omega)) ⟨hb8.reads, hq9⟩ ?_
 refine zV (i := 12) (by kernel_rfl) (yD (i := 12) rfl rfl rfl (zG rfl _) (o_make (E := eInt) 0 8 (.int .i64 0) Tryz.underlying65 mk3 (fun _ => rfl) rfl rfl hX5.pins (by omega) (by omega) (by omega) (fun u10 w11 ho12 hp13 hl14 hk15 => ?_)))
 have hX16 := hX5.step hp13 hl14
 have hb19 := hb8.below hl14
 have ho23 : Own eInt 3 G w11 w.heap.size u10 (List.replicate ((ns.length : Int) * (ns.length : Int)).toNat 0) := ho12.weaken hX5.size
 have hm24 : (List.replicate ((ns.length : Int) * (ns.length : Int)).toNat 0).length = ((ns.length : Int) * (ns.length : Int)).toNat := List.length_replicate ..
 have hq25 := hq9.below hl14
 refine ⟨fun _ => ⟨hb19.reads, hq25⟩, ?_⟩
 refine dT (i := 13) rfl rfl (by kernel_rfl) (fun _ _ => qV [(.pointer none), (.slice none 0 0)] [(.pointer (some ⟨b, 0, none⟩)), u10] [(0, (.pointer (some ⟨b, 0, none⟩)), [(.pointer (some ⟨b, 0, none⟩))]), (1, u10, [u10])] Tryz.underlying163 zr163 rfl pl163 rfl (List.forall_mem_cons.2 ⟨rfl, (List.forall_mem_cons.2 ⟨(xH ho23.one), (fun _ h => by cases h)⟩)⟩) rfl) ⟨hb19.reads, hq25⟩ ?_
 refine zV (i := 14) (by kernel_rfl) (yD (i := 14) rfl rfl rfl (zG rfl _) (qC [(.pointer (some ⟨b, 0, none⟩)), u10] (v := (.agg [(.pointer (some ⟨b, 0, none⟩)), u10].toArray)) rfl rfl hX16.pins (fun b26 w27 hk28 hb29 hp30 hl31 => ?_)))
 have hX32 := hX16.step hp30 hl31
 have ho35 := ho23.below hl31
 have hb36 := hb19.below hl31
 have ha39 : Apart (some b26) u10.ownBlock := zJ (congrArg some hk28) ho23.lt
 have hlo41 : w.heap.size ≤ b26 := by have := hX16.size; omega
 have hq42 := hq25.below hl31
 refine ⟨fun _ => ⟨hb36.reads, hq42⟩, ?_⟩
 refine dT (i := 15) rfl rfl (by kernel_rfl) (fun _ _ => zC (v := (.pointer (some ⟨b26, 0, none⟩))) rfl) ⟨hb36.reads, hq42⟩ ?_
 refine yT (by kernel_rfl) ?_
 refine zB ?_
 refine wp_ret ?_
 refine zW ?_
 refine zS (v := (.pointer (some ⟨b26, 0, none⟩))) rfl rfl rfl ?_
 have hrow := ho35
 rw [sq_nat] at hrow
 exact ⟨_, _, _, rfl, hb29, hrow, hlo41, ha39, hX32⟩

theorem l6Through_spec {w : World} {G : Pin} {o b : Nat} {bu bv kv : Value} {ns : List Nd} {bs : List Int} {ks : List Int} {y z : Int} {lf : Bool} (hP : Pins G w) (hO : Od 99 3 G w o b bu bv kv ns bs ks) (hy : 0 ≤ y ∧ y < ns.length) (hz : 0 ≤ z ∧ z < ns.length) (hok : BookOk ns bs) (hka : KAll ns ks) :
  Calls Tryz.prog 191 [(.pointer (some ⟨o, 0, none⟩)), (.int .i64 y), (.int .i64 z), (.bool lf)].toArray w fun e w' => ∃ (t : Int) (ks' : List Int) (G' : Pin), e = .returned (.int .i64 t) ∧ thrP ns lf y z t ∧ Od 99 3 G' w' o b bu bv kv ns bs ks' ∧ KAll ns ks' ∧ Ext (inO kv.ownBlock) G w G' w' := by
 refine yE (n := 70) Tryz.func191 Tryz.ntmps191 rfl rfl ?_
 have hX0 : Ext (inO kv.ownBlock) G w G w := Ext.refl hP
 have hB := hO.bk
 have hbx := hB.bx
 have hou := hB.ou
 have hov := hB.ov
 have habu := hB.abu
 have habv := hB.abv
 have hauv := hB.auv
 have hlen := hok.len
 have hlim := hok.lim
 have hox := hO.ox
 have hok2 := hO.ok
 have haok := hO.aok
 have habk := hO.abk
 have hauk := hO.auk
 have havk := hO.avk
 have hlok : Lo w (inO kv.ownBlock) kv.ownBlock := xQ
 have hoo : OptsOk ns := hok.optsOk
 have hlens := hok.lens
 refine zE (zF ?_)
 refine qD rfl (zC (v := (.int .i64 0)) rfl) ?_
 refine qe (zB (zE (zE (zF ?_))))
 refine qD rfl (zA (v := (.bool lf)) rfl) ?_
 refine qe (zB ?_)
 refine c_if rfl rfl (fun h1 => ?_) (fun h1 => ?_)
 ·skip
  refine zE (zF ?_)
  refine qD rfl (zA (v := (.pointer (some ⟨o, 0, none⟩))) rfl) ?_
  refine qD rfl (yP rfl) ?_
  refine qD rfl (zL (k := 0) rfl Tryz.underlying163 rfl nz100 rfl) ?_
  refine qD rfl (zQ (u := (.pointer (some ⟨b, 0, none⟩))) ag100 rfl (hox.cell (o := 0) rfl)) ?_
  refine qD rfl (yP rfl) ?_
  refine qD rfl (zL (k := 0) rfl Tryz.underlying102 rfl nz30 rfl) ?_
  refine qD rfl (zQ (u := bu) ag30 rfl (hbx.cell (o := 0) rfl)) ?_
  refine qD rfl (zA (v := (.int .i64 z)) rfl) ?_
  refine qD rfl (zK Tryz.underlying30 sz99 (v := bu) rfl rfl hou.read (by omega) (by omega)) ?_
  refine qD rfl (xD (off := 1) Tryz.underlying99 rfl rfl nz65 (z := z) (k := 0) rfl hou.read (by omega) (by omega)) ?_
  obtain ⟨u2, hr3, hl4⟩ := nm_nr (hou.at (z := z) (by omega) (by omega)) (j := (z).toNat) rfl
  have hm5 := hr3.max
  refine qD rfl (hl4 ag65 rfl (Gadd.pins hX0.pins bu)) ?_
  refine qD rfl (zC (v := u2) rfl) ?_
  refine qe (zB (zE (zE (zF ?_))))
  refine qD rfl (zC (v := (.int .i64 0)) rfl) ?_
  refine qe (zB ?_)
  refine yB ?_
  refine yM (fun (k : Nat) (en : Nat → Value) (W : World) => ∃ (env1 : Nat → Value) (i : Nat) (kq : List Int) (GL1 : Pin), en = (upd (upd (upd (upd (upd env1 0 (.pointer (some ⟨o, 0, none⟩))) 1 (.int .i64 y)) 2 (.int .i64 z)) 9 u2) 10 (.int .i64 (i : Int))) ∧ k = (ns.getD (z).toNat default).r.length - i ∧ Ext (inO kv.ownBlock) G w GL1 W ∧ Pin.le G GL1 ∧ (i ≤ (ns.getD (z).toNat default).r.length) ∧ (KAll ns kq) ∧ (∀ x, x < i → geB ns y ((ns.getD (z).toNat default).r.getD x 0) = false) ∧ (Own eInt 3 GL1 W 0 kv (kq)) ∧ (Own eNode 99 GL1 W 0 bu (ns)) ∧ (Own eInt 3 GL1 W 0 bv (bs)) ∧ (Bx GL1 W b [bu, bv]) ∧ (Bx GL1 W o [(.pointer (some ⟨b, 0, none⟩)), kv])) _ ⟨_, 0, ks, G, (zD (x := 10) (zD (x := 9) (zD (x := 2) (zD (x := 1) (zR (x := 0) rfl) rfl) rfl) rfl) rfl), rfl, hX0, Pin.le_refl _, Nat.zero_le _, hka, (fun x h => absurd h (Nat.not_lt_zero x)), hok2, hou, hov, hbx, hox⟩ ?_
  rintro k6 _ w7 ⟨env1, i, kq, GL1, rfl, hk8, hX9, hlek6, hj, hka1, hpp, hw10, hw11, hw12, hw13, hw14⟩
  refine zE (zE (zF ?_))
  refine qD rfl (zA (v := (.int .i64 (i : Int))) rfl) ?_
  refine qD rfl (zA (v := u2) rfl) ?_
  refine qD rfl (zO Tryz.underlying65 (v := u2) rfl hr3) ?_
  refine qD rfl (yO rfl rfl) ?_
  refine qe (zB ?_)
  refine yH (p := ((i : Int) : Int) < (((ns.getD (z).toNat default).r).length : Int)) rfl rfl (fun h15 => ?_) (fun h15 => ?_)
  ·skip
   have hki := (xG hok.optsOk (show (z).toNat < ns.length by omega)).2 _ (yL (d := (0 : Int)) (show i < (ns.getD (z).toNat default).r.length by omega))
   refine wp_skip ?_
   refine zB (zE ?_)
   refine yB ?_
   refine zE (zF ?_)
   refine qD rfl (zA (v := (.pointer (some ⟨o, 0, none⟩))) rfl) ?_
   refine qD rfl (zA (v := (.int .i64 y)) rfl) ?_
   refine qD rfl (zA (v := u2) rfl) ?_
   refine qD rfl (zA (v := (.int .i64 (i : Int))) rfl) ?_
   refine qD rfl (zK Tryz.underlying65 sz3 (v := u2) rfl rfl hr3 (by omega) (by omega)) ?_
   refine qD rfl (zI (r := ((ns.getD (z).toNat default).r).getD i 0) rfl ag3 (z := (i : Int)) rfl hr3 (Pins.of_le hX9.pins hlek6) (by omega) (by omega)) ?_
   refine qI rfl (zN (vs := [(.pointer (some ⟨o, 0, none⟩)), (.int .i64 y), (.int .i64 (((ns.getD (z).toNat default).r).getD i 0))]) Tryz.func139 nm139 rfl rfl rfl ?_)
   refine Calls.mono (geq_spec hX9.pins ⟨⟨hw13, hw11, hw12, habu, habv, hauv⟩, hw14, hw10, haok, habk, hauk, havk⟩ ⟨by omega, by omega⟩ ⟨by omega, by omega⟩ hka1.1 hok (hka1.2 _)) ?_
   rintro _ w18 ⟨ks16, G17, rfl, hd19, hr20, hx21⟩
   refine ⟨_, rfl, ?_⟩
   have hX22 := hX9.trans hx21 (fun i hi => hlok i hi)
   have ho23 := hw11.extS hx21 (notO hauk)
   have ho24 := hw12.extS hx21 (notO havk)
   have hb25 := hw13.extS hx21 (qE habk)
   have hb26 := hw14.extS hx21 (qE haok)
   have hkl28 := hr20.len
   have hka29 := KAll.res hka1 hr20
   refine qe (zB ?_)
   refine c_if rfl rfl (fun h30 => ?_) (fun h30 => ?_)
   ·skip
    refine zE (zF ?_)
    refine qD rfl (zA (v := u2) rfl) ?_
    refine qD rfl (zA (v := (.int .i64 (i : Int))) rfl) ?_
    refine qD rfl (zK Tryz.underlying65 sz3 (v := u2) rfl rfl hr3 (by omega) (by omega)) ?_
    refine qD rfl (zI (r := ((ns.getD (z).toNat default).r).getD i 0) rfl ag3 (z := (i : Int)) rfl hr3 (Pins.of_le hX22.pins (Pin.le_trans hlek6 hx21.le)) (by omega) (by omega)) ?_
    refine qD rfl (zC (v := (.int .i64 (((ns.getD (z).toNat default).r).getD i 0))) rfl) ?_
    refine qe (zB ?_)
    refine wp_ret ?_
    refine zW ?_
    refine zS (v := (.int .i64 (((ns.getD (z).toNat default).r).getD i 0))) rfl rfl rfl ?_
    exact ⟨_, _, _, rfl, thr_hit hok.optsOk hz (Or.inl ⟨h1, yL (by omega), h30⟩), ⟨⟨hb25, ho23, ho24, habu, habv, hauv⟩, hb26, hd19.ok, haok, habk, hauk, havk⟩, hka29, hX22⟩
   refine wp_skip ?_
   refine yC ?_
   refine zB (zF ?_)
   refine qD rfl (zA (v := (.int .i64 (i : Int))) rfl) ?_
   refine qD rfl (yJ rfl rfl (by omega)) ?_
   refine qD rfl (zC (v := (.int .i64 ((i : Int) + 1))) rfl) ?_
   refine qe ?_
   refine yA ?_
   refine ⟨_, ?_, _, rfl, _, i + 1, ks16, G17, (zD (x := 10) (zD (x := 9) (zD (x := 2) (zD (x := 1) (zR (x := 0) rfl) rfl) rfl) rfl) rfl), rfl, hX22, (Pin.le_trans hlek6 hx21.le), (by omega), hka29, (fun x h2 => if h3 : x = i then h3 ▸ h30 else hpp x (by omega)), hd19.ok, ho23, ho24, hb25, hb26⟩
   omega
  refine wp_exit ?_
  refine zZ ?_
  refine yK ?_
  refine yI ?_
  refine zB (zE (zF ?_))
  refine qD rfl (zC (v := (.int .i64 (-1))) rfl) ?_
  refine qe (zB ?_)
  refine wp_ret ?_
  refine zW ?_
  refine zS (v := (.int .i64 (-1))) rfl rfl rfl ?_
  exact ⟨_, _, _, rfl, (by rw [h1]; exact thr_none_t hok.optsOk hz (fun k hk => hpp k (by omega))), ⟨⟨hw13, hw11, hw12, habu, habv, hauv⟩, hw14, hw10, haok, habk, hauk, havk⟩, hka1, hX9⟩
 refine wp_skip ?_
 refine zB (zE (zF ?_))
 refine qD rfl (zA (v := (.pointer (some ⟨o, 0, none⟩))) rfl) ?_
 refine qD rfl (yP rfl) ?_
 refine qD rfl (zL (k := 0) rfl Tryz.underlying163 rfl nz100 rfl) ?_
 refine qD rfl (zQ (u := (.pointer (some ⟨b, 0, none⟩))) ag100 rfl (hox.cell (o := 0) rfl)) ?_
 refine qD rfl (yP rfl) ?_
 refine qD rfl (zL (k := 0) rfl Tryz.underlying102 rfl nz30 rfl) ?_
 refine qD rfl (zQ (u := bu) ag30 rfl (hbx.cell (o := 0) rfl)) ?_
 refine qD rfl (zA (v := (.int .i64 z)) rfl) ?_
 refine qD rfl (zK Tryz.underlying30 sz99 (v := bu) rfl rfl hou.read (by omega) (by omega)) ?_
 refine qD rfl (xD (off := 0) Tryz.underlying99 rfl rfl nz65 (z := z) (k := 0) rfl hou.read (by omega) (by omega)) ?_
 obtain ⟨u31, hr32, hl33⟩ := nm_nl (hou.at (z := z) (by omega) (by omega)) (j := (z).toNat) rfl
 have hm34 := hr32.max
 refine qD rfl (hl33 ag65 rfl (Gadd.pins hX0.pins bu)) ?_
 refine qD rfl (zC (v := u31) rfl) ?_
 refine qe (zB (zE (zE (zF ?_))))
 refine qD rfl (zC (v := (.int .i64 0)) rfl) ?_
 refine qe (zB ?_)
 refine yB ?_
 refine yM (fun (k : Nat) (en : Nat → Value) (W : World) => ∃ (env1 : Nat → Value) (i2 : Nat) (kq : List Int) (GL1 : Pin), en = (upd (upd (upd (upd env1 0 (.pointer (some ⟨o, 0, none⟩))) 1 (.int .i64 y)) 11 u31) 12 (.int .i64 (i2 : Int))) ∧ k = (ns.getD (z).toNat default).l.length - i2 ∧ Ext (inO kv.ownBlock) G w GL1 W ∧ Pin.le G GL1 ∧ (i2 ≤ (ns.getD (z).toNat default).l.length) ∧ (KAll ns kq) ∧ (∀ x, x < i2 → geB ns ((ns.getD (z).toNat default).l.getD x 0) y = false) ∧ (Own eInt 3 GL1 W 0 kv (kq)) ∧ (Own eNode 99 GL1 W 0 bu (ns)) ∧ (Own eInt 3 GL1 W 0 bv (bs)) ∧ (Bx GL1 W b [bu, bv]) ∧ (Bx GL1 W o [(.pointer (some ⟨b, 0, none⟩)), kv])) _ ⟨_, 0, ks, G, (zD (x := 12) (zD (x := 11) (zD (x := 1) (zR (x := 0) rfl) rfl) rfl) rfl), rfl, hX0, Pin.le_refl _, Nat.zero_le _, hka, (fun x h => absurd h (Nat.not_lt_zero x)), hok2, hou, hov, hbx, hox⟩ ?_
 rintro k35 _ w36 ⟨env1, i2, kq, GL1, rfl, hk37, hX38, hlek35, hj, hka1, hpp, hw39, hw40, hw41, hw42, hw43⟩
 refine zE (zE (zF ?_))
 refine qD rfl (zA (v := (.int .i64 (i2 : Int))) rfl) ?_
 refine qD rfl (zA (v := u31) rfl) ?_
 refine qD rfl (zO Tryz.underlying65 (v := u31) rfl hr32) ?_
 refine qD rfl (yO rfl rfl) ?_
 refine qe (zB ?_)
 refine yH (p := ((i2 : Int) : Int) < (((ns.getD (z).toNat default).l).length : Int)) rfl rfl (fun h44 => ?_) (fun h44 => ?_)
 ·skip
  have hki := (xG hok.optsOk (show (z).toNat < ns.length by omega)).1 _ (yL (d := (0 : Int)) (show i2 < (ns.getD (z).toNat default).l.length by omega))
  refine wp_skip ?_
  refine zB (zE ?_)
  refine yB ?_
  refine zE (zF ?_)
  refine qD rfl (zA (v := (.pointer (some ⟨o, 0, none⟩))) rfl) ?_
  refine qD rfl (zA (v := u31) rfl) ?_
  refine qD rfl (zA (v := (.int .i64 (i2 : Int))) rfl) ?_
  refine qD rfl (zK Tryz.underlying65 sz3 (v := u31) rfl rfl hr32 (by omega) (by omega)) ?_
  refine qD rfl (zI (r := ((ns.getD (z).toNat default).l).getD i2 0) rfl ag3 (z := (i2 : Int)) rfl hr32 (Pins.of_le hX38.pins hlek35) (by omega) (by omega)) ?_
  refine qD rfl (zA (v := (.int .i64 y)) rfl) ?_
  refine qI rfl (zN (vs := [(.pointer (some ⟨o, 0, none⟩)), (.int .i64 (((ns.getD (z).toNat default).l).getD i2 0)), (.int .i64 y)]) Tryz.func139 nm139 rfl rfl rfl ?_)
  refine Calls.mono (geq_spec hX38.pins ⟨⟨hw42, hw40, hw41, habu, habv, hauv⟩, hw43, hw39, haok, habk, hauk, havk⟩ ⟨by omega, by omega⟩ ⟨by omega, by omega⟩ hka1.1 hok (hka1.2 _)) ?_
  rintro _ w47 ⟨ks45, G46, rfl, hd48, hr49, hx50⟩
  refine ⟨_, rfl, ?_⟩
  have hX51 := hX38.trans hx50 (fun i hi => hlok i hi)
  have ho52 := hw40.extS hx50 (notO hauk)
  have ho53 := hw41.extS hx50 (notO havk)
  have hb54 := hw42.extS hx50 (qE habk)
  have hb55 := hw43.extS hx50 (qE haok)
  have hkl57 := hr49.len
  have hka58 := KAll.res hka1 hr49
  refine qe (zB ?_)
  refine c_if rfl rfl (fun h59 => ?_) (fun h59 => ?_)
  ·skip
   refine zE (zF ?_)
   refine qD rfl (zA (v := u31) rfl) ?_
   refine qD rfl (zA (v := (.int .i64 (i2 : Int))) rfl) ?_
   refine qD rfl (zK Tryz.underlying65 sz3 (v := u31) rfl rfl hr32 (by omega) (by omega)) ?_
   refine qD rfl (zI (r := ((ns.getD (z).toNat default).l).getD i2 0) rfl ag3 (z := (i2 : Int)) rfl hr32 (Pins.of_le hX51.pins (Pin.le_trans hlek35 hx50.le)) (by omega) (by omega)) ?_
   refine qD rfl (zC (v := (.int .i64 (((ns.getD (z).toNat default).l).getD i2 0))) rfl) ?_
   refine qe (zB ?_)
   refine wp_ret ?_
   refine zW ?_
   refine zS (v := (.int .i64 (((ns.getD (z).toNat default).l).getD i2 0))) rfl rfl rfl ?_
   exact ⟨_, _, _, rfl, thr_hit hok.optsOk hz (Or.inr ⟨h1, yL (by omega), h59⟩), ⟨⟨hb54, ho52, ho53, habu, habv, hauv⟩, hb55, hd48.ok, haok, habk, hauk, havk⟩, hka58, hX51⟩
  refine wp_skip ?_
  refine yC ?_
  refine zB (zF ?_)
  refine qD rfl (zA (v := (.int .i64 (i2 : Int))) rfl) ?_
  refine qD rfl (yJ rfl rfl (by omega)) ?_
  refine qD rfl (zC (v := (.int .i64 ((i2 : Int) + 1))) rfl) ?_
  refine qe ?_
  refine yA ?_
  refine ⟨_, ?_, _, rfl, _, i2 + 1, ks45, G46, (zD (x := 12) (zD (x := 11) (zD (x := 1) (zR (x := 0) rfl) rfl) rfl) rfl), rfl, hX51, (Pin.le_trans hlek35 hx50.le), (by omega), hka58, (fun x h2 => if h3 : x = i2 then h3 ▸ h59 else hpp x (by omega)), hd48.ok, ho52, ho53, hb54, hb55⟩
  omega
 refine wp_exit ?_
 refine zZ ?_
 refine yK ?_
 refine yI ?_
 refine zB (zE (zF ?_))
 refine qD rfl (zC (v := (.int .i64 (-1))) rfl) ?_
 refine qe (zB ?_)
 refine wp_ret ?_
 refine zW ?_
 refine zS (v := (.int .i64 (-1))) rfl rfl rfl ?_
 exact ⟨_, _, _, rfl, (by rw [h1]; exact thr_none_f hok.optsOk hz (fun k hk => hpp k (by omega))), ⟨⟨hw42, hw40, hw41, habu, habv, hauv⟩, hw43, hw39, haok, habk, hauk, havk⟩, hka1, hX38⟩

theorem l6Dominated_spec {w : World} {G : Pin} {o b : Nat} {bu bv kv : Value} {ns : List Nd} {bs : List Int} {ks : List Int} {x : Value} {xs : List Int} {lf : Bool} (hP : Pins G w) (hO : Od 99 3 G w o b bu bv kv ns bs ks) (hx : RSl eInt G x xs) (hxl : xs.length ≤ 1048576) (hpl : ∀ i, i < xs.length → 0 ≤ xs.getD i 0 ∧ xs.getD i 0 < ns.length) (hok : BookOk ns bs) (hka : KAll ns ks) :
  Calls Tryz.prog 158 [(.pointer (some ⟨o, 0, none⟩)), x, (.bool lf)].toArray w fun e w' => ∃ (u : Value) (ks' : List Int) (G' : Pin), e = .returned u ∧ RSl eInt G' u (domL (gN ns xs) lf xs.length xs.length) ∧ Od 99 3 G' w' o b bu bv kv ns bs ks' ∧ KAll ns ks' ∧ Ext (inO kv.ownBlock) G w G' w' := by
 refine yE (n := 68) Tryz.func158 Tryz.ntmps158 rfl rfl ?_
 have hX0 : Ext (inO kv.ownBlock) G w G w := Ext.refl hP
 have hB := hO.bk
 have hbx := hB.bx
 have hou := hB.ou
 have hov := hB.ov
 have habu := hB.abu
 have habv := hB.abv
 have hauv := hB.auv
 have hlen := hok.len
 have hlim := hok.lim
 have hox := hO.ox
 have hok2 := hO.ok
 have haok := hO.aok
 have habk := hO.abk
 have hauk := hO.auk
 have havk := hO.avk
 have hlok : Lo w (inO kv.ownBlock) kv.ownBlock := xQ
 have hoo : OptsOk ns := hok.optsOk
 have hlens := hok.lens
 have hxm := hx.max
 refine zE (zF ?_)
 refine qD rfl (zC (v := (.slice none 0 0)) rfl) ?_
 refine qe (zB (zE (zF ?_)))
 refine qI rfl (yX (E := eInt) (e := 3) Tryz.underlying65 sz3 hX0.pins (fun u1 w2 ho3 hp4 hl5 hk6 => ?_))
 have hX7 := hX0.step hp4 hl5
 have ho8 := hou.below hl5
 have ho9 := hov.below hl5
 have ho10 := hok2.below hl5
 have hb11 := hbx.below hl5
 have hb12 := hox.below hl5
 have ha13 : Apart u1.ownBlock bu.ownBlock := zJ hk6 hou.lt
 have ha14 : Apart u1.ownBlock bv.ownBlock := zJ hk6 hov.lt
 have ha15 : Apart u1.ownBlock kv.ownBlock := zJ hk6 hok2.lt
 have ha16 : Apart u1.ownBlock (some b) := zP hk6 hbx.lt
 have ha17 : Apart u1.ownBlock (some o) := zP hk6 hox.lt
 have ho18 : Own eInt 3 G w2 w.heap.size u1 ([]) := ho3.weaken hX0.size
 refine qD rfl (zC (v := u1) rfl) ?_
 refine qe (zB (zE (zE (zF ?_))))
 refine qD rfl (zC (v := (.int .i64 0)) rfl) ?_
 refine qe (zB ?_)
 refine yB ?_
 obtain ⟨G23, hle26, hX25, hr24, hf27⟩ := ho18.sealed hX7
 have ho28 := ho8.moreO hle26 hf27 ha13.symm
 have ho29 := ho9.moreO hle26 hf27 ha14.symm
 have ho30 := ho10.moreO hle26 hf27 ha15.symm
 have hb31 := hb11.moreO hf27 ha16.symm
 have hb32 := hb12.moreO hf27 ha17.symm
 refine yM (fun (k : Nat) (en : Nat → Value) (W : World) => ∃ (env1 : Nat → Value) (i : Nat) (kq : List Int) (ov : Value) (out : List Int) (GL1 : Pin), en = (upd (upd (upd (upd (upd (upd env1 0 (.pointer (some ⟨o, 0, none⟩))) 1 x) 2 (.bool lf)) 6 (.slice none 0 0)) 7 ov) 8 (.int .i64 (i : Int))) ∧ k = xs.length - i ∧ Ext (inO kv.ownBlock) G w GL1 W ∧ Pin.le G23 GL1 ∧ (i ≤ xs.length) ∧ (KAll ns kq) ∧ (out = domL (gN ns xs) lf xs.length i) ∧ (Own eInt 3 GL1 W 0 kv (kq)) ∧ (Own eNode 99 GL1 W 0 bu (ns)) ∧ (Own eInt 3 GL1 W 0 bv (bs)) ∧ (Bx GL1 W b [bu, bv]) ∧ (Bx GL1 W o [(.pointer (some ⟨b, 0, none⟩)), kv]) ∧ (RSl eInt GL1 ov (out))) _ ⟨_, 0, ks, u1, [], G23, (zD (x := 8) (zD (x := 7) (zD (x := 6) (zD (x := 2) (zD (x := 1) (zR (x := 0) rfl) rfl) rfl) rfl) rfl) rfl), rfl, hX25, Pin.le_refl _, Nat.zero_le _, hka, rfl, ho30, ho28, ho29, hb31, hb32, hr24⟩ ?_
 rintro k19 _ w20 ⟨env1, i, kq, ov, out, GL1, rfl, hk21, hX22, hlek19, hi, hka1, hout, hw33, hw34, hw35, hw36, hw37, hr38⟩
 have hol : out.length ≤ i := by rw [hout]; exact (dom_len i).1
 refine zE (zE (zF ?_))
 refine qD rfl (zA (v := (.int .i64 (i : Int))) rfl) ?_
 refine qD rfl (zA (v := x) rfl) ?_
 refine qD rfl (zO Tryz.underlying65 (v := x) rfl hx) ?_
 refine qD rfl (yO rfl rfl) ?_
 refine qe (zB ?_)
 refine yH (p := ((i : Int) : Int) < (xs.length : Int)) rfl rfl (fun h39 => ?_) (fun h39 => ?_)
 ·skip
  refine wp_skip ?_
  refine zB (zE ?_)
  refine yB ?_
  refine zE (zF ?_)
  refine qD rfl (zC (v := (.int .i64 0)) rfl) ?_
  refine qe (zB ?_)
  refine yB ?_
  refine yM (fun (k : Nat) (en : Nat → Value) (W : World) => ∃ (env1 : Nat → Value) (j : Nat) (kq2 : List Int) (ov2 : Value) (out2 : List Int) (GL2 : Pin), en = (upd (upd (upd (upd (upd (upd (upd env1 0 (.pointer (some ⟨o, 0, none⟩))) 1 x) 2 (.bool lf)) 6 (.slice none 0 0)) 7 ov2) 8 (.int .i64 (i : Int))) 9 (.int .i64 (j : Int))) ∧ k = xs.length - j ∧ Ext (inO kv.ownBlock) G w GL2 W ∧ Pin.le GL1 GL2 ∧ (j ≤ xs.length) ∧ (KAll ns kq2) ∧ (out2 = domI out (domB (gN ns xs) lf i j) (i : Int)) ∧ (Own eInt 3 GL2 W 0 kv (kq2)) ∧ (Own eNode 99 GL2 W 0 bu (ns)) ∧ (Own eInt 3 GL2 W 0 bv (bs)) ∧ (Bx GL2 W b [bu, bv]) ∧ (Bx GL2 W o [(.pointer (some ⟨b, 0, none⟩)), kv]) ∧ (RSl eInt GL2 ov2 (out2))) _ ⟨_, 0, kq, ov, out, GL1, (zD (x := 9) (zD (x := 8) (zD (x := 7) (zD (x := 6) (zD (x := 2) (zD (x := 1) (zR (x := 0) rfl) rfl) rfl) rfl) rfl) rfl) rfl), rfl, hX22, Pin.le_refl _, Nat.zero_le _, hka1, domI_start, hw33, hw34, hw35, hw36, hw37, hr38⟩ ?_
  rintro k40 _ w41 ⟨env1, j, kq2, ov2, out2, GL2, rfl, hk42, hX43, hlek40, hj, hka2, hout2, hw44, hw45, hw46, hw47, hw48, hr49⟩
  have hol2 : out2.length ≤ out.length + 1 := by rw [hout2]; exact domI_len
  refine zE (zE (zF ?_))
  refine qD rfl (zA (v := (.int .i64 (j : Int))) rfl) ?_
  refine qD rfl (zA (v := x) rfl) ?_
  refine qD rfl (zO Tryz.underlying65 (v := x) rfl hx) ?_
  refine qD rfl (yO rfl rfl) ?_
  refine qe (zB ?_)
  refine yH (p := ((j : Int) : Int) < (xs.length : Int)) rfl rfl (fun h50 => ?_) (fun h50 => ?_)
  ·skip
   refine wp_skip ?_
   refine zB (zE ?_)
   refine yB ?_
   refine zE ?_
   refine xE (S := fun wz => Pins GL2 wz) (last := 22) (by kernel_rfl) rfl ?_
   have hl51 : Below w41.heap.size w41 w41.drew := (Below.refl _ _).drew
   have hp52 := hX43.pins.below hl51
   have hX53 := hX43.step hp52 hl51
   have ho54 := hw44.below hl51
   have ho55 := hw45.below hl51
   have ho56 := hw46.below hl51
   have hb57 := hw47.below hl51
   have hb58 := hw48.below hl51
   refine dT (i := 0) rfl rfl (by kernel_rfl) (fun _ _ => zA (v := (.pointer (some ⟨o, 0, none⟩))) rfl) hX53.pins ?_
   refine dT (i := 1) rfl rfl (by kernel_rfl) (fun _ _ => zA (v := x) rfl) hX53.pins ?_
   refine dT (i := 2) rfl rfl (by kernel_rfl) (fun _ _ => zA (v := (.int .i64 (j : Int))) rfl) hX53.pins ?_
   refine dT (i := 3) rfl rfl (by kernel_rfl) (fun _ _ => zK Tryz.underlying65 sz3 (v := x) rfl rfl hx (by omega) (by omega)) hX53.pins ?_
   refine dT (i := 4) rfl rfl (by kernel_rfl) (fun _ hS => zI (r := xs.getD j 0) rfl ag3 (z := (j : Int)) rfl hx (Pins.of_le hS (Pin.le_trans (Pin.le_trans hle26 hlek19) hlek40)) (by omega) (by omega)) hX53.pins ?_
   refine dT (i := 5) rfl rfl (by kernel_rfl) (fun _ _ => zA (v := x) rfl) hX53.pins ?_
   refine dT (i := 6) rfl rfl (by kernel_rfl) (fun _ _ => zA (v := (.int .i64 (i : Int))) rfl) hX53.pins ?_
   refine dT (i := 7) rfl rfl (by kernel_rfl) (fun _ _ => zK Tryz.underlying65 sz3 (v := x) rfl rfl hx (by omega) (by omega)) hX53.pins ?_
   refine dT (i := 8) rfl rfl (by kernel_rfl) (fun _ hS => zI (r := xs.getD i 0) rfl ag3 (z := (i : Int)) rfl hx (Pins.of_le hS (Pin.le_trans (Pin.le_trans hle26 hlek19) hlek40)) (by omega) (by omega)) hX53.pins ?_
   refine dT (i := 10) rfl rfl (by kernel_rfl) (fun _ _ => zA (v := (.pointer (some ⟨o, 0, none⟩))) rfl) hX53.pins ?_
   refine dT (i := 11) rfl rfl (by kernel_rfl) (fun _ _ => zA (v := x) rfl) hX53.pins ?_
   refine dT (i := 12) rfl rfl (by kernel_rfl) (fun _ _ => zA (v := (.int .i64 (i : Int))) rfl) hX53.pins ?_
   refine dT (i := 13) rfl rfl (by kernel_rfl) (fun _ _ => zK Tryz.underlying65 sz3 (v := x) rfl rfl hx (by omega) (by omega)) hX53.pins ?_
   refine dT (i := 14) rfl rfl (by kernel_rfl) (fun _ hS => zI (r := xs.getD i 0) rfl ag3 (z := (i : Int)) rfl hx (Pins.of_le hS (Pin.le_trans (Pin.le_trans hle26 hlek19) hlek40)) (by omega) (by omega)) hX53.pins ?_
   refine dT (i := 15) rfl rfl (by kernel_rfl) (fun _ _ => zA (v := x) rfl) hX53.pins ?_
   refine dT (i := 16) rfl rfl (by kernel_rfl) (fun _ _ => zA (v := (.int .i64 (j : Int))) rfl) hX53.pins ?_
   refine dT (i := 17) rfl rfl (by kernel_rfl) (fun _ _ => zK Tryz.underlying65 sz3 (v := x) rfl rfl hx (by omega) (by omega)) hX53.pins ?_
   refine dT (i := 18) rfl rfl (by kernel_rfl) (fun _ hS => zI (r := xs.getD j 0) rfl ag3 (z := (j : Int)) rfl hx (Pins.of_le hS (Pin.le_trans (Pin.le_trans hle26 hlek19) hlek40)) (by omega) (by omega)) hX53.pins ?_
   refine zV (i := 9) (by kernel_rfl) (yD (i := 9) rfl rfl rfl (zG rfl _) (zN (vs := [(.pointer (some ⟨o, 0, none⟩)), (.int .i64 (xs.getD j 0)), (.int .i64 (xs.getD i 0))]) Tryz.func139 nm139 rfl rfl rfl ?_))
   refine Calls.mono (geq_spec hX53.pins ⟨⟨hb57, ho55, ho56, habu, habv, hauv⟩, hb58, ho54, haok, habk, hauk, havk⟩ (hpl j (by omega)) (hpl i (by omega)) hka2.1 hok (hka2.2 _)) ?_
   rintro _ w61 ⟨ks59, G60, rfl, hd62, hr63, hx64⟩
   refine ⟨_, rfl, ?_⟩
   have hX65 := hX53.trans hx64 (fun i hi => hlok i hi)
   have ho66 := ho55.extS hx64 (notO hauk)
   have ho67 := ho56.extS hx64 (notO havk)
   have hb68 := hb57.extS hx64 (qE habk)
   have hb69 := hb58.extS hx64 (qE haok)
   have hkl71 := hr63.len
   have hka72 := KAll.res hka2 hr63
   refine ⟨fun _ => (Pins.of_le hX65.pins hx64.le), ?_⟩
   refine zV (i := 19) (by kernel_rfl) (yD (i := 19) rfl rfl rfl (zG rfl _) (zN (vs := [(.pointer (some ⟨o, 0, none⟩)), (.int .i64 (xs.getD i 0)), (.int .i64 (xs.getD j 0))]) Tryz.func139 nm139 rfl rfl rfl ?_))
   refine Calls.mono (geq_spec hX65.pins ⟨⟨hb68, ho66, ho67, habu, habv, hauv⟩, hb69, hd62.ok, haok, habk, hauk, havk⟩ (hpl i (by omega)) (hpl j (by omega)) hka72.1 hok (hka72.2 _)) ?_
   rintro _ w75 ⟨ks73, G74, rfl, hd76, hr77, hx78⟩
   refine ⟨_, rfl, ?_⟩
   have hX79 := hX65.trans hx78 (fun i hi => hlok i hi)
   have ho80 := ho66.extS hx78 (notO hauk)
   have ho81 := ho67.extS hx78 (notO havk)
   have hb82 := hb68.extS hx78 (qE habk)
   have hb83 := hb69.extS hx78 (qE haok)
   have hkl85 := hr77.len
   have hka86 := KAll.res hka72 hr77
   refine ⟨fun _ => (Pins.of_le hX79.pins (Pin.le_trans hx64.le hx78.le)), ?_⟩
   refine dT (i := 20) rfl rfl (by kernel_rfl) (fun _ _ => zC (v := (.bool (geB ns (xs.getD j 0) (xs.getD i 0)))) rfl) (Pins.of_le hX79.pins (Pin.le_trans hx64.le hx78.le)) ?_
   refine dT (i := 21) rfl rfl (by kernel_rfl) (fun _ _ => zC (v := (.bool (geB ns (xs.getD i 0) (xs.getD j 0)))) rfl) (Pins.of_le hX79.pins (Pin.le_trans hx64.le hx78.le)) ?_
   refine yT (by kernel_rfl) ?_
   refine zB (zE (zE (zF ?_)))
   refine qD rfl (zA (v := (.bool lf)) rfl) ?_
   refine qD rfl (xV rfl) ?_
   refine qe (zB ?_)
   refine c_ifn rfl rfl (fun h87 => ?_) (fun h87 => ?_)
   ·skip
    refine wp_skip ?_
    refine zB (zE (zF ?_))
    refine qD rfl (zA (v := (.int .i64 (j : Int))) rfl) ?_
    refine qD rfl (zA (v := (.int .i64 (i : Int))) rfl) ?_
    refine qD rfl (r_neq rfl rfl) ?_
    refine qD rfl (zA (v := (.bool (decide (((j : Int) : Int) ≠ (i : Int))))) rfl) ?_
    refine qbd (p := ((j : Int) : Int) ≠ (i : Int)) (t := 52) rfl (fun h88 => ?_) (fun h88 => ?_)
    ·skip
     refine qdg rfl rfl rfl rfl rfl rfl (zA (v := (.bool (geB ns (xs.getD j 0) (xs.getD i 0)))) rfl) ?_
     refine qD rfl (yZ (v := (.bool (geB ns (xs.getD j 0) (xs.getD i 0)))) rfl rfl) ?_
     refine qD rfl (zA (v := (.bool (geB ns (xs.getD j 0) (xs.getD i 0)))) rfl) ?_
     refine qb (t := 55) rfl (fun h89 => ?_) (fun h89 => ?_)
     ·skip
      refine qdg rfl rfl rfl rfl rfl rfl (zA (v := (.bool (geB ns (xs.getD i 0) (xs.getD j 0)))) rfl) ?_
      refine qdg rfl rfl rfl rfl rfl rfl (xV rfl) ?_
      refine qdg rfl rfl rfl rfl rfl rfl (zA (v := (.bool (!(geB ns (xs.getD i 0) (xs.getD j 0))))) rfl) ?_
      refine qbn (t := 58) rfl (fun h90 => ?_) (fun h90 => ?_)
      ·skip
       refine qdg rfl rfl rfl rfl rfl rfl (zA (v := (.int .i64 (j : Int))) rfl) ?_
       refine qdg rfl rfl rfl rfl rfl rfl (zA (v := (.int .i64 (i : Int))) rfl) ?_
       refine qdg rfl rfl rfl rfl rfl rfl (yO rfl rfl) ?_
       refine qdg rfl rfl rfl rfl rfl rfl (yU (v := (.bool (decide (((j : Int) : Int) < (i : Int))))) rfl rfl) ?_
       refine qD rfl (yZ (v := (.bool (decide (((j : Int) : Int) < (i : Int))))) rfl rfl) ?_
       refine qe (zB ?_)
       refine yH (p := ((j : Int) : Int) < (i : Int)) rfl rfl (fun h91 => ?_) (fun h91 => ?_)
       ·skip
        refine zF ?_
        refine qD rfl (zA (v := ov2) rfl) ?_
        refine qD rfl (zA (v := (.int .i64 (i : Int))) rfl) ?_
        refine qI rfl (zN (vs := [ov2, (.int .i64 (i : Int))]) Tryz.func149 nm149 rfl rfl rfl ?_)
        refine Calls.mono (qS hX79.pins (hr49.mono (Pin.le_trans hx64.le hx78.le)) (by omega)) ?_
        rintro _ w94 ⟨u92, G93, rfl, hr95, hx96⟩
        refine ⟨_, rfl, ?_⟩
        have hX97 := hX79.tr hx96
        have ho98 := hd76.ok.ext hx96
        have ho99 := ho80.ext hx96
        have ho100 := ho81.ext hx96
        have hb101 := hb82.ext hx96
        have hb102 := hb83.ext hx96
        refine qD rfl (zC (v := u92) rfl) ?_
        refine qe ?_
        refine yC ?_
        refine zB (zF ?_)
        refine qD rfl (zA (v := (.int .i64 (j : Int))) rfl) ?_
        refine qD rfl (yJ rfl rfl (by omega)) ?_
        refine qD rfl (zC (v := (.int .i64 ((j : Int) + 1))) rfl) ?_
        refine qe ?_
        refine yA ?_
        refine ⟨_, ?_, _, rfl, _, j + 1, ks73, u92, putL out2 (i : Int), G93, (zD (x := 9) (zD (x := 8) (zD (x := 7) (zD (x := 6) (zD (x := 2) (zD (x := 1) (zR (x := 0) rfl) rfl) rfl) rfl) rfl) rfl) rfl), rfl, hX97, (Pin.le_trans (Pin.le_trans (Pin.le_trans hlek40 hx64.le) hx78.le) hx96.le), (by omega), hka86, (domI_yes hout2 (by rw [hout]; exact (dom_len i).2) ⟨h88, (geD_t h87).2 (decP_true.1 h89), Or.inr h91⟩), ho98, ho99, ho100, hb101, hb102, hr95⟩
        omega
       refine wp_skip ?_
       refine yC ?_
       refine zB (zF ?_)
       refine qD rfl (zA (v := (.int .i64 (j : Int))) rfl) ?_
       refine qD rfl (yJ rfl rfl (by omega)) ?_
       refine qD rfl (zC (v := (.int .i64 ((j : Int) + 1))) rfl) ?_
       refine qe ?_
       refine yA ?_
       refine ⟨_, ?_, _, rfl, _, j + 1, ks73, ov2, out2, G74, (zD (x := 9) (zD (x := 8) (zD (x := 7) (zD (x := 6) (zD (x := 2) (zD (x := 1) (zR (x := 0) rfl) rfl) rfl) rfl) rfl) rfl) rfl), rfl, hX79, (Pin.le_trans (Pin.le_trans hlek40 hx64.le) hx78.le), (by omega), hka86, (domI_no hout2 (fun p => p.2.2.elim (fun h => h ((geD_t h87).2 (decP_true.1 h90))) h91)), hd76.ok, ho80, ho81, hb82, hb83, (hr49.mono (Pin.le_trans hx64.le hx78.le))⟩
       omega
      refine qs rfl rfl rfl rfl rfl rfl ?_
      refine qs rfl rfl rfl rfl rfl rfl ?_
      refine qs rfl rfl rfl rfl rfl rfl ?_
      refine qdg rfl rfl rfl rfl rfl rfl (yZ (v := (.bool true)) rfl rfl) ?_
      refine qD rfl (yZ (v := (.bool true)) rfl rfl) ?_
      refine qe (zB ?_)
      refine c_ifT rfl rfl ?_
      refine zF ?_
      refine qD rfl (zA (v := ov2) rfl) ?_
      refine qD rfl (zA (v := (.int .i64 (i : Int))) rfl) ?_
      refine qI rfl (zN (vs := [ov2, (.int .i64 (i : Int))]) Tryz.func149 nm149 rfl rfl rfl ?_)
      refine Calls.mono (qS hX79.pins (hr49.mono (Pin.le_trans hx64.le hx78.le)) (by omega)) ?_
      rintro _ w105 ⟨u103, G104, rfl, hr106, hx107⟩
      refine ⟨_, rfl, ?_⟩
      have hX108 := hX79.tr hx107
      have ho109 := hd76.ok.ext hx107
      have ho110 := ho80.ext hx107
      have ho111 := ho81.ext hx107
      have hb112 := hb82.ext hx107
      have hb113 := hb83.ext hx107
      refine qD rfl (zC (v := u103) rfl) ?_
      refine qe ?_
      refine yC ?_
      refine zB (zF ?_)
      refine qD rfl (zA (v := (.int .i64 (j : Int))) rfl) ?_
      refine qD rfl (yJ rfl rfl (by omega)) ?_
      refine qD rfl (zC (v := (.int .i64 ((j : Int) + 1))) rfl) ?_
      refine qe ?_
      refine yA ?_
      refine ⟨_, ?_, _, rfl, _, j + 1, ks73, u103, putL out2 (i : Int), G104, (zD (x := 9) (zD (x := 8) (zD (x := 7) (zD (x := 6) (zD (x := 2) (zD (x := 1) (zR (x := 0) rfl) rfl) rfl) rfl) rfl) rfl) rfl), rfl, hX108, (Pin.le_trans (Pin.le_trans (Pin.le_trans hlek40 hx64.le) hx78.le) hx107.le), (by omega), hka86, (domI_yes hout2 (by rw [hout]; exact (dom_len i).2) ⟨h88, (geD_t h87).2 (decP_true.1 h89), Or.inl (fun h => (decP_false.1 h90) ((geD_t h87).1 h))⟩), ho109, ho110, ho111, hb112, hb113, hr106⟩
      omega
     refine qs rfl rfl rfl rfl rfl rfl ?_
     refine qs rfl rfl rfl rfl rfl rfl ?_
     refine qs rfl rfl rfl rfl rfl rfl ?_
     refine qsu rfl rfl rfl rfl rfl ?_
     refine qsu rfl rfl rfl rfl rfl ?_
     refine qsu rfl rfl rfl rfl rfl ?_
     refine qs rfl rfl rfl rfl rfl rfl ?_
     refine qD rfl (yU (v := (.bool false)) rfl rfl) ?_
     refine qe (zB ?_)
     refine xX rfl rfl ?_
     refine wp_skip ?_
     refine yC ?_
     refine zB (zF ?_)
     refine qD rfl (zA (v := (.int .i64 (j : Int))) rfl) ?_
     refine qD rfl (yJ rfl rfl (by omega)) ?_
     refine qD rfl (zC (v := (.int .i64 ((j : Int) + 1))) rfl) ?_
     refine qe ?_
     refine yA ?_
     refine ⟨_, ?_, _, rfl, _, j + 1, ks73, ov2, out2, G74, (zD (x := 9) (zD (x := 8) (zD (x := 7) (zD (x := 6) (zD (x := 2) (zD (x := 1) (zR (x := 0) rfl) rfl) rfl) rfl) rfl) rfl) rfl), rfl, hX79, (Pin.le_trans (Pin.le_trans hlek40 hx64.le) hx78.le), (by omega), hka86, (domI_no hout2 (fun p => (decP_false.1 h89) ((geD_t h87).1 p.2.1))), hd76.ok, ho80, ho81, hb82, hb83, (hr49.mono (Pin.le_trans hx64.le hx78.le))⟩
     omega
    refine qs rfl rfl rfl rfl rfl rfl ?_
    refine qD rfl (yU (v := (.bool false)) rfl rfl) ?_
    refine qD rfl (zA (v := (.bool false)) rfl) ?_
    refine qs rfl rfl rfl rfl rfl rfl ?_
    refine qs rfl rfl rfl rfl rfl rfl ?_
    refine qs rfl rfl rfl rfl rfl rfl ?_
    refine qsu rfl rfl rfl rfl rfl ?_
    refine qsu rfl rfl rfl rfl rfl ?_
    refine qsu rfl rfl rfl rfl rfl ?_
    refine qs rfl rfl rfl rfl rfl rfl ?_
    refine qD rfl (yU (v := (.bool false)) rfl rfl) ?_
    refine qe (zB ?_)
    refine xX rfl rfl ?_
    refine wp_skip ?_
    refine yC ?_
    refine zB (zF ?_)
    refine qD rfl (zA (v := (.int .i64 (j : Int))) rfl) ?_
    refine qD rfl (yJ rfl rfl (by omega)) ?_
    refine qD rfl (zC (v := (.int .i64 ((j : Int) + 1))) rfl) ?_
    refine qe ?_
    refine yA ?_
    refine ⟨_, ?_, _, rfl, _, j + 1, ks73, ov2, out2, G74, (zD (x := 9) (zD (x := 8) (zD (x := 7) (zD (x := 6) (zD (x := 2) (zD (x := 1) (zR (x := 0) rfl) rfl) rfl) rfl) rfl) rfl) rfl), rfl, hX79, (Pin.le_trans (Pin.le_trans hlek40 hx64.le) hx78.le), (by omega), hka86, (domI_no hout2 (fun p => h88 p.1)), hd76.ok, ho80, ho81, hb82, hb83, (hr49.mono (Pin.le_trans hx64.le hx78.le))⟩
    omega
   refine zF ?_
   refine qD rfl (zA (v := (.bool (geB ns (xs.getD i 0) (xs.getD j 0)))) rfl) ?_
   refine qD rfl (zA (v := (.bool (geB ns (xs.getD j 0) (xs.getD i 0)))) rfl) ?_
   refine qD rfl (zC (v := (.bool (geB ns (xs.getD i 0) (xs.getD j 0)))) rfl) ?_
   refine qD rfl (zC (v := (.bool (geB ns (xs.getD j 0) (xs.getD i 0)))) rfl) ?_
   refine qe (zB (zE (zF ?_)))
   refine qD rfl (zA (v := (.int .i64 (j : Int))) rfl) ?_
   refine qD rfl (zA (v := (.int .i64 (i : Int))) rfl) ?_
   refine qD rfl (r_neq rfl rfl) ?_
   refine qD rfl (zA (v := (.bool (decide (((j : Int) : Int) ≠ (i : Int))))) rfl) ?_
   refine qbd (p := ((j : Int) : Int) ≠ (i : Int)) (t := 52) rfl (fun h114 => ?_) (fun h114 => ?_)
   ·skip
    refine qdg rfl rfl rfl rfl rfl rfl (zA (v := (.bool (geB ns (xs.getD i 0) (xs.getD j 0)))) rfl) ?_
    refine qD rfl (yZ (v := (.bool (geB ns (xs.getD i 0) (xs.getD j 0)))) rfl rfl) ?_
    refine qD rfl (zA (v := (.bool (geB ns (xs.getD i 0) (xs.getD j 0)))) rfl) ?_
    refine qb (t := 55) rfl (fun h115 => ?_) (fun h115 => ?_)
    ·skip
     refine qdg rfl rfl rfl rfl rfl rfl (zA (v := (.bool (geB ns (xs.getD j 0) (xs.getD i 0)))) rfl) ?_
     refine qdg rfl rfl rfl rfl rfl rfl (xV rfl) ?_
     refine qdg rfl rfl rfl rfl rfl rfl (zA (v := (.bool (!(geB ns (xs.getD j 0) (xs.getD i 0))))) rfl) ?_
     refine qbn (t := 58) rfl (fun h116 => ?_) (fun h116 => ?_)
     ·skip
      refine qdg rfl rfl rfl rfl rfl rfl (zA (v := (.int .i64 (j : Int))) rfl) ?_
      refine qdg rfl rfl rfl rfl rfl rfl (zA (v := (.int .i64 (i : Int))) rfl) ?_
      refine qdg rfl rfl rfl rfl rfl rfl (yO rfl rfl) ?_
      refine qdg rfl rfl rfl rfl rfl rfl (yU (v := (.bool (decide (((j : Int) : Int) < (i : Int))))) rfl rfl) ?_
      refine qD rfl (yZ (v := (.bool (decide (((j : Int) : Int) < (i : Int))))) rfl rfl) ?_
      refine qe (zB ?_)
      refine yH (p := ((j : Int) : Int) < (i : Int)) rfl rfl (fun h117 => ?_) (fun h117 => ?_)
      ·skip
       refine zF ?_
       refine qD rfl (zA (v := ov2) rfl) ?_
       refine qD rfl (zA (v := (.int .i64 (i : Int))) rfl) ?_
       refine qI rfl (zN (vs := [ov2, (.int .i64 (i : Int))]) Tryz.func149 nm149 rfl rfl rfl ?_)
       refine Calls.mono (qS hX79.pins (hr49.mono (Pin.le_trans hx64.le hx78.le)) (by omega)) ?_
       rintro _ w120 ⟨u118, G119, rfl, hr121, hx122⟩
       refine ⟨_, rfl, ?_⟩
       have hX123 := hX79.tr hx122
       have ho124 := hd76.ok.ext hx122
       have ho125 := ho80.ext hx122
       have ho126 := ho81.ext hx122
       have hb127 := hb82.ext hx122
       have hb128 := hb83.ext hx122
       refine qD rfl (zC (v := u118) rfl) ?_
       refine qe ?_
       refine yC ?_
       refine zB (zF ?_)
       refine qD rfl (zA (v := (.int .i64 (j : Int))) rfl) ?_
       refine qD rfl (yJ rfl rfl (by omega)) ?_
       refine qD rfl (zC (v := (.int .i64 ((j : Int) + 1))) rfl) ?_
       refine qe ?_
       refine yA ?_
       refine ⟨_, ?_, _, rfl, _, j + 1, ks73, u118, putL out2 (i : Int), G119, (zD (x := 9) (zD (x := 8) (zD (x := 7) (zD (x := 6) (zD (x := 2) (zD (x := 1) (zR (x := 0) rfl) rfl) rfl) rfl) rfl) rfl) rfl), rfl, hX123, (Pin.le_trans (Pin.le_trans (Pin.le_trans hlek40 hx64.le) hx78.le) hx122.le), (by omega), hka86, (domI_yes hout2 (by rw [hout]; exact (dom_len i).2) ⟨h114, (geD_f h87).2 (decP_true.1 h115), Or.inr h117⟩), ho124, ho125, ho126, hb127, hb128, hr121⟩
       omega
      refine wp_skip ?_
      refine yC ?_
      refine zB (zF ?_)
      refine qD rfl (zA (v := (.int .i64 (j : Int))) rfl) ?_
      refine qD rfl (yJ rfl rfl (by omega)) ?_
      refine qD rfl (zC (v := (.int .i64 ((j : Int) + 1))) rfl) ?_
      refine qe ?_
      refine yA ?_
      refine ⟨_, ?_, _, rfl, _, j + 1, ks73, ov2, out2, G74, (zD (x := 9) (zD (x := 8) (zD (x := 7) (zD (x := 6) (zD (x := 2) (zD (x := 1) (zR (x := 0) rfl) rfl) rfl) rfl) rfl) rfl) rfl), rfl, hX79, (Pin.le_trans (Pin.le_trans hlek40 hx64.le) hx78.le), (by omega), hka86, (domI_no hout2 (fun p => p.2.2.elim (fun h => h ((geD_f h87).2 (decP_true.1 h116))) h117)), hd76.ok, ho80, ho81, hb82, hb83, (hr49.mono (Pin.le_trans hx64.le hx78.le))⟩
      omega
     refine qs rfl rfl rfl rfl rfl rfl ?_
     refine qs rfl rfl rfl rfl rfl rfl ?_
     refine qs rfl rfl rfl rfl rfl rfl ?_
     refine qdg rfl rfl rfl rfl rfl rfl (yZ (v := (.bool true)) rfl rfl) ?_
     refine qD rfl (yZ (v := (.bool true)) rfl rfl) ?_
     refine qe (zB ?_)
     refine c_ifT rfl rfl ?_
     refine zF ?_
     refine qD rfl (zA (v := ov2) rfl) ?_
     refine qD rfl (zA (v := (.int .i64 (i : Int))) rfl) ?_
     refine qI rfl (zN (vs := [ov2, (.int .i64 (i : Int))]) Tryz.func149 nm149 rfl rfl rfl ?_)
     refine Calls.mono (qS hX79.pins (hr49.mono (Pin.le_trans hx64.le hx78.le)) (by omega)) ?_
     rintro _ w131 ⟨u129, G130, rfl, hr132, hx133⟩
     refine ⟨_, rfl, ?_⟩
     have hX134 := hX79.tr hx133
     have ho135 := hd76.ok.ext hx133
     have ho136 := ho80.ext hx133
     have ho137 := ho81.ext hx133
     have hb138 := hb82.ext hx133
     have hb139 := hb83.ext hx133
     refine qD rfl (zC (v := u129) rfl) ?_
     refine qe ?_
     refine yC ?_
     refine zB (zF ?_)
     refine qD rfl (zA (v := (.int .i64 (j : Int))) rfl) ?_
     refine qD rfl (yJ rfl rfl (by omega)) ?_
     refine qD rfl (zC (v := (.int .i64 ((j : Int) + 1))) rfl) ?_
     refine qe ?_
     refine yA ?_
     refine ⟨_, ?_, _, rfl, _, j + 1, ks73, u129, putL out2 (i : Int), G130, (zD (x := 9) (zD (x := 8) (zD (x := 7) (zD (x := 6) (zD (x := 2) (zD (x := 1) (zR (x := 0) rfl) rfl) rfl) rfl) rfl) rfl) rfl), rfl, hX134, (Pin.le_trans (Pin.le_trans (Pin.le_trans hlek40 hx64.le) hx78.le) hx133.le), (by omega), hka86, (domI_yes hout2 (by rw [hout]; exact (dom_len i).2) ⟨h114, (geD_f h87).2 (decP_true.1 h115), Or.inl (fun h => (decP_false.1 h116) ((geD_f h87).1 h))⟩), ho135, ho136, ho137, hb138, hb139, hr132⟩
     omega
    refine qs rfl rfl rfl rfl rfl rfl ?_
    refine qs rfl rfl rfl rfl rfl rfl ?_
    refine qs rfl rfl rfl rfl rfl rfl ?_
    refine qsu rfl rfl rfl rfl rfl ?_
    refine qsu rfl rfl rfl rfl rfl ?_
    refine qsu rfl rfl rfl rfl rfl ?_
    refine qs rfl rfl rfl rfl rfl rfl ?_
    refine qD rfl (yU (v := (.bool false)) rfl rfl) ?_
    refine qe (zB ?_)
    refine xX rfl rfl ?_
    refine wp_skip ?_
    refine yC ?_
    refine zB (zF ?_)
    refine qD rfl (zA (v := (.int .i64 (j : Int))) rfl) ?_
    refine qD rfl (yJ rfl rfl (by omega)) ?_
    refine qD rfl (zC (v := (.int .i64 ((j : Int) + 1))) rfl) ?_
    refine qe ?_
    refine yA ?_
    refine ⟨_, ?_, _, rfl, _, j + 1, ks73, ov2, out2, G74, (zD (x := 9) (zD (x := 8) (zD (x := 7) (zD (x := 6) (zD (x := 2) (zD (x := 1) (zR (x := 0) rfl) rfl) rfl) rfl) rfl) rfl) rfl), rfl, hX79, (Pin.le_trans (Pin.le_trans hlek40 hx64.le) hx78.le), (by omega), hka86, (domI_no hout2 (fun p => (decP_false.1 h115) ((geD_f h87).1 p.2.1))), hd76.ok, ho80, ho81, hb82, hb83, (hr49.mono (Pin.le_trans hx64.le hx78.le))⟩
    omega
   refine qs rfl rfl rfl rfl rfl rfl ?_
   refine qD rfl (yU (v := (.bool false)) rfl rfl) ?_
   refine qD rfl (zA (v := (.bool false)) rfl) ?_
   refine qs rfl rfl rfl rfl rfl rfl ?_
   refine qs rfl rfl rfl rfl rfl rfl ?_
   refine qs rfl rfl rfl rfl rfl rfl ?_
   refine qsu rfl rfl rfl rfl rfl ?_
   refine qsu rfl rfl rfl rfl rfl ?_
   refine qsu rfl rfl rfl rfl rfl ?_
   refine qs rfl rfl rfl rfl rfl rfl ?_
   refine qD rfl (yU (v := (.bool false)) rfl rfl) ?_
   refine qe (zB ?_)
   refine xX rfl rfl ?_
   refine wp_skip ?_
   refine yC ?_
   refine zB (zF ?_)
   refine qD rfl (zA (v := (.int .i64 (j : Int))) rfl) ?_
   refine qD rfl (yJ rfl rfl (by omega)) ?_
   refine qD rfl (zC (v := (.int .i64 ((j : Int) + 1))) rfl) ?_
   refine qe ?_
   refine yA ?_
   refine ⟨_, ?_, _, rfl, _, j + 1, ks73, ov2, out2, G74, (zD (x := 9) (zD (x := 8) (zD (x := 7) (zD (x := 6) (zD (x := 2) (zD (x := 1) (zR (x := 0) rfl) rfl) rfl) rfl) rfl) rfl) rfl), rfl, hX79, (Pin.le_trans (Pin.le_trans hlek40 hx64.le) hx78.le), (by omega), hka86, (domI_no hout2 (fun p => h114 p.1)), hd76.ok, ho80, ho81, hb82, hb83, (hr49.mono (Pin.le_trans hx64.le hx78.le))⟩
   omega
  refine wp_exit ?_
  refine zZ ?_
  refine yK ?_
  refine yI ?_
  refine yC ?_
  refine zB (zF ?_)
  refine qD rfl (zA (v := (.int .i64 (i : Int))) rfl) ?_
  refine qD rfl (yJ rfl rfl (by omega)) ?_
  refine qD rfl (zC (v := (.int .i64 ((i : Int) + 1))) rfl) ?_
  refine qe ?_
  refine yA ?_
  have hjn : j = xs.length := by omega
  rw [hjn, hout] at hout2
  refine ⟨_, ?_, _, rfl, _, i + 1, kq2, ov2, out2, GL2, (zD (x := 8) (zD (x := 7) (zD (x := 6) (zD (x := 2) (zD (x := 1) (zR (x := 0) rfl) rfl) rfl) rfl) rfl) rfl), rfl, hX43, (Pin.le_trans hlek19 hlek40), (by omega), hka2, (domI_end hout2), hw44, hw45, hw46, hw47, hw48, hr49⟩
  omega
 refine wp_exit ?_
 refine zZ ?_
 refine yK ?_
 refine yI ?_
 refine zB (zE (zF ?_))
 refine qD rfl (zA (v := ov) rfl) ?_
 refine qD rfl (zC (v := ov) rfl) ?_
 refine qe (zB ?_)
 refine wp_ret ?_
 refine zW ?_
 refine zS (v := ov) rfl rfl rfl ?_
 have hin : i = xs.length := by omega
 rw [hin] at hout
 exact ⟨_, _, _, rfl, (by rw [← hout]; exact hr38), ⟨⟨hw36, hw34, hw35, habu, habv, hauv⟩, hw37, hw33, haok, habk, hauk, havk⟩, hka1, hX22⟩

theorem l1Has_spec {w : World} {G : Pin} {v : Value} {xs : List Int} {n : Int} (hP : Pins G w) (hv : RSl eInt G v xs) :
  Calls Tryz.prog 192 [v, (.int .i64 n)].toArray w fun e w' => ∃ G', e = .returned (.bool (decide (n ∈ xs))) ∧ Ext noS G w G' w' := by
 refine yE (n := 18) Tryz.func192 Tryz.ntmps192 rfl rfl ?_
 have hX0 : Ext noS G w G w := Ext.refl hP
 have hm := hv.max
 refine zE (zF ?_)
 refine qD rfl (zC (v := (.bool false)) rfl) ?_
 refine qe (zB (zE (zE (zF ?_))))
 refine qD rfl (zC (v := (.int .i64 0)) rfl) ?_
 refine qe (zB ?_)
 refine yB ?_
 refine yM (fun (k : Nat) (en : Nat → Value) (W : World) => ∃ (env1 : Nat → Value) (j : Nat) (GL1 : Pin), en = (upd (upd (upd env1 0 v) 1 (.int .i64 n)) 5 (.int .i64 (j : Int))) ∧ k = xs.length - j ∧ Ext noS G w GL1 W ∧ Pin.le G GL1 ∧ (j ≤ xs.length) ∧ (∀ i, i < j → xs.getD i 0 ≠ n)) _ ⟨_, 0, G, (zD (x := 5) (zD (x := 1) (zR (x := 0) rfl) rfl) rfl), rfl, hX0, Pin.le_refl _, Nat.zero_le _, (fun i hi => absurd hi (Nat.not_lt_zero i))⟩ ?_
 rintro k1 _ w2 ⟨env1, j, GL1, rfl, hk3, hX4, hlek1, hj, hno⟩
 refine zE (zE (zF ?_))
 refine qD rfl (zA (v := (.int .i64 (j : Int))) rfl) ?_
 refine qD rfl (zA (v := v) rfl) ?_
 refine qD rfl (zO Tryz.underlying65 (v := v) rfl hv) ?_
 refine qD rfl (yO rfl rfl) ?_
 refine qe (zB ?_)
 refine yH (p := ((j : Int) : Int) < (xs.length : Int)) rfl rfl (fun h5 => ?_) (fun h5 => ?_)
 ·skip
  refine wp_skip ?_
  refine zB (zE ?_)
  refine yB ?_
  refine zE (zF ?_)
  refine qD rfl (zA (v := v) rfl) ?_
  refine qD rfl (zA (v := (.int .i64 (j : Int))) rfl) ?_
  refine qD rfl (zK Tryz.underlying65 sz3 (v := v) rfl rfl hv (by omega) (by omega)) ?_
  refine qD rfl (zI (r := xs.getD j 0) rfl ag3 (z := (j : Int)) rfl hv (Pins.of_le hX4.pins hlek1) (by omega) (by omega)) ?_
  refine qD rfl (zA (v := (.int .i64 n)) rfl) ?_
  refine qD rfl (r_eql rfl rfl) ?_
  refine qe (zB ?_)
  refine yH (p := (xs.getD j 0 : Int) = n) rfl rfl (fun h6 => ?_) (fun h6 => ?_)
  ·skip
   refine zE (zF ?_)
   refine qD rfl (zC (v := (.bool true)) rfl) ?_
   refine qe (zB ?_)
   refine wp_ret ?_
   refine zW ?_
   refine zS (v := (.bool true)) rfl rfl rfl ?_
   exact ⟨_, congrArg (fun z => Ending.returned (Value.bool z)) (has_yes (by omega) h6).symm, hX4⟩
  refine wp_skip ?_
  refine yC ?_
  refine zB (zF ?_)
  refine qD rfl (zA (v := (.int .i64 (j : Int))) rfl) ?_
  refine qD rfl (yJ rfl rfl (by omega)) ?_
  refine qD rfl (zC (v := (.int .i64 ((j : Int) + 1))) rfl) ?_
  refine qe ?_
  refine yA ?_
  refine ⟨_, ?_, _, rfl, _, j + 1, GL1, (zD (x := 5) (zD (x := 1) (zR (x := 0) rfl) rfl) rfl), rfl, hX4, hlek1, (by omega), (fun i hi => if h3 : i = j then h3 ▸ h6 else hno i (by omega))⟩
  omega
 refine wp_exit ?_
 refine zZ ?_
 refine yK ?_
 refine yI ?_
 refine zB (zE (zF ?_))
 refine qD rfl (zC (v := (.bool false)) rfl) ?_
 refine qe (zB ?_)
 refine wp_ret ?_
 refine zW ?_
 refine zS (v := (.bool false)) rfl rfl rfl ?_
 exact ⟨_, congrArg (fun z => Ending.returned (Value.bool z)) (has_no (fun i hi => hno i (by omega))).symm, hX4⟩

theorem l6Without_spec {w : World} {G : Pin} {x y : Value} {xs D : List Int} (hP : Pins G w) (hx : RSl eInt G x xs) (hy : RSl eInt G y D) (hxl : xs.length ≤ 1048576) :
  Calls Tryz.prog 157 [x, y].toArray w fun e w' => ∃ (u : Value) (G' : Pin), e = .returned u ∧ Own eInt 3 G' w' w.heap.size u (woL xs D xs.length) ∧ Ext noS G w G' w' := by
 refine yE (n := 26) Tryz.func157 Tryz.ntmps157 rfl rfl ?_
 have hX0 : Ext noS G w G w := Ext.refl hP
 refine zE (zF ?_)
 refine qD rfl (zC (v := (.slice none 0 0)) rfl) ?_
 refine qe (zB (zE (zF ?_)))
 refine qI rfl (yX (E := eInt) (e := 3) Tryz.underlying65 sz3 hX0.pins (fun u1 w2 ho3 hp4 hl5 hk6 => ?_))
 have hX7 := hX0.step hp4 hl5
 have ho8 : Own eInt 3 G w2 w.heap.size u1 ([]) := ho3.weaken hX0.size
 refine qD rfl (zC (v := u1) rfl) ?_
 refine qe (zB (zE (zE (zF ?_))))
 refine qD rfl (zC (v := (.int .i64 0)) rfl) ?_
 refine qe (zB ?_)
 refine yB ?_
 refine yM (fun (k : Nat) (en : Nat → Value) (W : World) => ∃ (env1 : Nat → Value) (i : Nat) (ov : Value) (out : List Int) (GL1 : Pin), en = (upd (upd (upd (upd (upd env1 0 x) 1 y) 4 (.slice none 0 0)) 5 ov) 6 (.int .i64 (i : Int))) ∧ k = xs.length - i ∧ Ext noS G w GL1 W ∧ Pin.le G GL1 ∧ (i ≤ xs.length) ∧ (out = woL xs D i) ∧ (Own eInt 3 GL1 W w.heap.size ov (out))) _ ⟨_, 0, u1, [], G, (zD (x := 6) (zD (x := 5) (zD (x := 4) (zD (x := 1) (zR (x := 0) rfl) rfl) rfl) rfl) rfl), rfl, hX7, Pin.le_refl _, Nat.zero_le _, rfl, ho8⟩ ?_
 rintro k9 _ w10 ⟨env1, i, ov, out, GL1, rfl, hk11, hX12, hlek9, hi, hout, hw13⟩
 have hol : out.length ≤ i := by rw [hout]; exact wo_len i
 refine zE (zE (zF ?_))
 refine qD rfl (zA (v := (.int .i64 (i : Int))) rfl) ?_
 refine qD rfl (zA (v := x) rfl) ?_
 refine qD rfl (zO Tryz.underlying65 (v := x) rfl hx) ?_
 refine qD rfl (yO rfl rfl) ?_
 refine qe (zB ?_)
 refine yH (p := ((i : Int) : Int) < (xs.length : Int)) rfl rfl (fun h14 => ?_) (fun h14 => ?_)
 ·skip
  refine wp_skip ?_
  refine zB (zE ?_)
  refine yB ?_
  refine zE (zF ?_)
  refine qD rfl (zA (v := y) rfl) ?_
  refine qD rfl (zA (v := (.int .i64 (i : Int))) rfl) ?_
  refine qI rfl (zN (vs := [y, (.int .i64 (i : Int))]) Tryz.func192 nm192 rfl rfl rfl ?_)
  refine Calls.mono (l1Has_spec (n := (i : Int)) (hX12.pins) (hy.mono hlek9)) ?_
  rintro _ w16 ⟨G15, rfl, hx17⟩
  refine ⟨_, rfl, ?_⟩
  have hx18 := deep_back hX12.pins hx17
  have hX19 := hX12.step hx18.pins hx18.below
  have ho20 := hw13.below hx18.below
  refine qD rfl (xV rfl) ?_
  refine qe (zB ?_)
  refine c_ifn rfl rfl (fun h21 => ?_) (fun h21 => ?_)
  ·skip
   replace h21 := of_decide_eq_true h21
   refine wp_skip ?_
   refine yC ?_
   refine zB (zF ?_)
   refine qD rfl (zA (v := (.int .i64 (i : Int))) rfl) ?_
   refine qD rfl (yJ rfl rfl (by omega)) ?_
   refine qD rfl (zC (v := (.int .i64 ((i : Int) + 1))) rfl) ?_
   refine qe ?_
   refine yA ?_
   refine ⟨_, ?_, _, rfl, _, i + 1, ov, out, GL1, (zD (x := 6) (zD (x := 5) (zD (x := 4) (zD (x := 1) (zR (x := 0) rfl) rfl) rfl) rfl) rfl), rfl, hX19, hlek9, (by omega), (by rw [hout]; exact (if_pos h21).symm), ho20⟩
   omega
  replace h21 := of_decide_eq_false h21
  refine zF ?_
  refine qD rfl (zA (v := ov) rfl) ?_
  refine qD rfl (zA (v := x) rfl) ?_
  refine qD rfl (zA (v := (.int .i64 (i : Int))) rfl) ?_
  refine qD rfl (zK Tryz.underlying65 sz3 (v := x) rfl rfl hx (by omega) (by omega)) ?_
  refine qD rfl (zI (r := xs.getD i 0) rfl ag3 (z := (i : Int)) rfl hx (Pins.of_le hX19.pins hlek9) (by omega) (by omega)) ?_
  refine qI rfl (yQ (E := eInt) (e := 3) [(.int .i64 (xs.getD i 0))] [xs.getD i 0] Tryz.underlying65 sz3 zr3 (by exact xL (by rfl)) (xA (by rfl)) rfl rfl rfl rfl (by decide) hX19.pins (fun u22 w23 ho24 hp25 hl26 hk27 => ?_))
  have hX28 := hX19.step hp25 hl26
  have ho29 := ho20.below hl26
  have ho31 : Own eInt 3 GL1 w23 w.heap.size u22 ([xs.getD i 0]) := ho24.weaken hX19.size
  refine qI rfl (zX (E := eInt) (v := ov) (u := u22) 8 Tryz.underlying65 ap3 (by decide) rfl rfl hX28.pins ho29 ho31.src (by first | omega | (rw [List.nil_append]; omega) | (rw [List.length_nil]; omega) | (rw [List.length_append]; omega) | (simp; done) | (simp; omega) | (simp only [List.length_append, List.length_cons, List.length_nil]; omega)) (by first | omega | (rw [List.nil_append]; omega) | (rw [List.length_nil]; omega) | (rw [List.length_append]; omega) | (simp; done) | (simp; omega) | (simp only [List.length_append, List.length_cons, List.length_nil]; omega)) (hX28.size) (fun u32 w33 ho34 hp35 hg36 hw37 => ?_))
  have hX38 := hX28.write hp35 hg36 ((yG ho29))
  have hm41 : (out ++ ([xs.getD i 0])).length = out.length + 1 := List.length_append
  refine qD rfl (zC (v := u32) rfl) ?_
  refine qe ?_
  refine yC ?_
  refine zB (zF ?_)
  refine qD rfl (zA (v := (.int .i64 (i : Int))) rfl) ?_
  refine qD rfl (yJ rfl rfl (by omega)) ?_
  refine qD rfl (zC (v := (.int .i64 ((i : Int) + 1))) rfl) ?_
  refine qe ?_
  refine yA ?_
  refine ⟨_, ?_, _, rfl, _, i + 1, u32, out ++ ([xs.getD i 0]), GL1, (zD (x := 6) (zD (x := 5) (zD (x := 4) (zD (x := 1) (zR (x := 0) rfl) rfl) rfl) rfl) rfl), rfl, hX38, hlek9, (by omega), (by rw [hout]; exact (if_neg h21).symm), ho34⟩
  omega
 refine wp_exit ?_
 refine zZ ?_
 refine yK ?_
 refine yI ?_
 refine zB (zE (zF ?_))
 refine qD rfl (zA (v := ov) rfl) ?_
 refine qD rfl (zC (v := ov) rfl) ?_
 refine qe (zB ?_)
 refine wp_ret ?_
 refine zW ?_
 refine zS (v := ov) rfl rfl rfl ?_
 have hin : i = xs.length := by omega
 rw [hin] at hout
 exact ⟨_, _, rfl, (by rw [← hout]; exact hw13), hX12⟩

theorem l6Open_spec {w : World} {G : Pin} {o b : Nat} {bu bv kv : Value} {ns : List Nd} {bs : List Int} {ks : List Int} {y : Int} {x : Value} {xs : List Int} {lf : Bool} (hP : Pins G w) (hO : Od 99 3 G w o b bu bv kv ns bs ks) (hy : 0 ≤ y ∧ y < ns.length) (hx : RSl eInt G x xs) (hxl : xs.length ≤ 1048576) (hok : BookOk ns bs) (hka : KAll ns ks) (hpo : PoolOk (bkq ns bs)) (hl0 : LnOk (bkq ns bs) lf (den ns (y).toNat) xs 0 []) :
  Calls Tryz.prog 156 [(.pointer (some ⟨o, 0, none⟩)), (.int .i64 y), x, (.bool lf)].toArray w fun e w' => ∃ (u : Value) (ln out : List Int) (ks' : List Int) (G' : Pin), e = .returned u ∧ RSl eInt G' u out ∧ RdW (bkq ns bs) lf (den ns (y).toNat) [] ln out ∧ Od 99 3 G' w' o b bu bv kv ns bs ks' ∧ KAll ns ks' ∧ Ext (inO kv.ownBlock) G w G' w' := by
 refine yE (n := 86) Tryz.func156 Tryz.ntmps156 rfl rfl ?_
 have hX0 : Ext (inO kv.ownBlock) G w G w := Ext.refl hP
 have hB := hO.bk
 have hbx := hB.bx
 have hou := hB.ou
 have hov := hB.ov
 have habu := hB.abu
 have habv := hB.abv
 have hauv := hB.auv
 have hlen := hok.len
 have hlim := hok.lim
 have hox := hO.ox
 have hok2 := hO.ok
 have haok := hO.aok
 have habk := hO.abk
 have hauk := hO.auk
 have havk := hO.avk
 have hlok : Lo w (inO kv.ownBlock) kv.ownBlock := xQ
 have hoo : OptsOk ns := hok.optsOk
 have hlens := hok.lens
 have hxm := hx.max
 refine zE (zF ?_)
 refine qD rfl (zC (v := (.slice none 0 0)) rfl) ?_
 refine qe (zB (zE (zF ?_)))
 refine qI rfl (yX (E := eInt) (e := 3) Tryz.underlying65 sz3 hX0.pins (fun u1 w2 ho3 hp4 hl5 hk6 => ?_))
 have hX7 := hX0.step hp4 hl5
 have ho8 := hou.below hl5
 have ho9 := hov.below hl5
 have ho10 := hok2.below hl5
 have hb11 := hbx.below hl5
 have hb12 := hox.below hl5
 have ha13 : Apart u1.ownBlock bu.ownBlock := zJ hk6 hou.lt
 have ha14 : Apart u1.ownBlock bv.ownBlock := zJ hk6 hov.lt
 have ha15 : Apart u1.ownBlock kv.ownBlock := zJ hk6 hok2.lt
 have ha16 : Apart u1.ownBlock (some b) := zP hk6 hbx.lt
 have ha17 : Apart u1.ownBlock (some o) := zP hk6 hox.lt
 have ho18 : Own eInt 3 G w2 w.heap.size u1 ([]) := ho3.weaken hX0.size
 refine qD rfl (zA (v := x) rfl) ?_
 refine qI rfl (zX (E := eInt) (v := u1) (u := x) 8 Tryz.underlying65 ap3 (by decide) rfl rfl hX7.pins ho18 ((hx.mono (Pin.le_refl _)).src hX7.pins (by decide)) (by first | omega | (rw [List.nil_append]; omega) | (rw [List.length_nil]; omega) | (rw [List.length_append]; omega) | (simp; done) | (simp; omega) | (simp only [List.length_append, List.length_cons, List.length_nil]; omega)) (by first | omega | (rw [List.nil_append]; omega) | (rw [List.length_nil]; omega) | (rw [List.length_append]; omega) | (simp; done) | (simp; omega) | (simp only [List.length_append, List.length_cons, List.length_nil]; omega)) (hX7.size) (fun u19 w20 ho21 hp22 hg23 hw24 => ?_))
 have hX25 := hX7.write hp22 hg23 ((yG ho18))
 have ho26 := ho8.keptA hg23 ha13.symm
 have ho27 := ho9.keptA hg23 ha14.symm
 have ho28 := ho10.keptA hg23 ha15.symm
 have hb29 := hb11.keptA hg23 ha16.symm
 have hb30 := hb12.keptA hg23 ha17.symm
 have ha31 : Apart bu.ownBlock u19.ownBlock := zH ha13.symm hw24 ho8.lt
 have ha32 : Apart bv.ownBlock u19.ownBlock := zH ha14.symm hw24 ho9.lt
 have ha33 : Apart kv.ownBlock u19.ownBlock := zH ha15.symm hw24 ho10.lt
 have ha34 : Apart (some b) u19.ownBlock := zM ha16.symm hw24 hb11.lt
 have ha35 : Apart (some o) u19.ownBlock := zM ha17.symm hw24 hb12.lt
 have hm36 : (([]) ++ xs).length = ([]).length + xs.length := List.length_append
 refine qI rfl (yX (E := eInt) (e := 3) Tryz.underlying65 sz3 hX25.pins (fun u37 w38 ho39 hp40 hl41 hk42 => ?_))
 have hX43 := hX25.step hp40 hl41
 have ho44 := ho26.below hl41
 have ho45 := ho27.below hl41
 have ho46 := ho28.below hl41
 have ho47 := ho21.below hl41
 have hb48 := hb29.below hl41
 have hb49 := hb30.below hl41
 have ha50 : Apart u37.ownBlock bu.ownBlock := zJ hk42 ho26.lt
 have ha51 : Apart u37.ownBlock bv.ownBlock := zJ hk42 ho27.lt
 have ha52 : Apart u37.ownBlock kv.ownBlock := zJ hk42 ho28.lt
 have ha53 : Apart u37.ownBlock u19.ownBlock := zJ hk42 ho21.lt
 have ha54 : Apart u37.ownBlock (some b) := zP hk42 hb29.lt
 have ha55 : Apart u37.ownBlock (some o) := zP hk42 hb30.lt
 have ho56 : Own eInt 3 G w38 w.heap.size u37 ([]) := ho39.weaken hX25.size
 refine qD rfl (zC (v := u19) rfl) ?_
 refine qD rfl (zC (v := u37) rfl) ?_
 refine qe (zB (zE (zE (zF ?_))))
 refine qD rfl (zC (v := (.int .i64 0)) rfl) ?_
 refine qe (zB ?_)
 refine yB ?_
 obtain ⟨G57, hle60, hX59, hr58, hf61⟩ := ho56.sealed hX43
 have ho62 := ho44.moreO hle60 hf61 ha50.symm
 have ho63 := ho45.moreO hle60 hf61 ha51.symm
 have ho64 := ho46.moreO hle60 hf61 ha52.symm
 have ho65 := ho47.moreO hle60 hf61 ha53.symm
 have hb66 := hb48.moreO hf61 ha54.symm
 have hb67 := hb49.moreO hf61 ha55.symm
 refine yM (fun (k : Nat) (en : Nat → Value) (W : World) => ∃ (env1 : Nat → Value) (i : Nat) (kq : List Int) (lv : Value) (ln : List Int) (ov : Value) (out : List Int) (GL1 : Pin), en = (upd (upd (upd (upd (upd (upd (upd env1 0 (.pointer (some ⟨o, 0, none⟩))) 1 (.int .i64 y)) 3 (.bool lf)) 8 (.slice none 0 0)) 9 lv) 10 ov) 11 (.int .i64 (i : Int))) ∧ k = ns.length - i ∧ Ext (inO kv.ownBlock) G w GL1 W ∧ Pin.le G57 GL1 ∧ (LnOk (bkq ns bs) lf (den ns (y).toNat) ln i out) ∧ (i ≤ ln.length) ∧ (KAll ns kq) ∧ (Own eInt 3 GL1 W 0 kv (kq)) ∧ (Own eInt 3 GL1 W w.heap.size lv (ln)) ∧ (Own eNode 99 GL1 W 0 bu (ns)) ∧ (Own eInt 3 GL1 W 0 bv (bs)) ∧ (Bx GL1 W b [bu, bv]) ∧ (Bx GL1 W o [(.pointer (some ⟨b, 0, none⟩)), kv]) ∧ (Apart kv.ownBlock lv.ownBlock) ∧ (Apart lv.ownBlock bu.ownBlock) ∧ (Apart lv.ownBlock bv.ownBlock) ∧ (Apart lv.ownBlock (some b)) ∧ (Apart lv.ownBlock (some o)) ∧ (RSl eInt GL1 ov (out))) _ ⟨_, 0, ks, u19, ([]) ++ xs, u37, [], G57, (zD (x := 11) (zD (x := 10) (zD (x := 9) (zD (x := 8) (zD (x := 3) (zD (x := 1) (zR (x := 0) rfl) rfl) rfl) rfl) rfl) rfl) rfl), rfl, hX59, Pin.le_refl _, (by rw [List.nil_append]; exact hl0), Nat.zero_le _, hka, ho64, ho65, ho62, ho63, hb66, hb67, ha33, ha31.symm, ha32.symm, ha34.symm, ha35.symm, hr58⟩ ?_
 rintro k68 _ w69 ⟨env1, i, kq, lv, ln, ov, out, GL1, rfl, hk70, hX71, hlek68, hln, hiln, hka1, hw72, hw73, hw74, hw75, hw76, hw77, ha78, ha79, ha80, ha81, ha82, hr83⟩
 have hll : ln.length ≤ ns.length := hln.len
 refine zE (zE (zF ?_))
 refine qD rfl (zA (v := (.int .i64 (i : Int))) rfl) ?_
 refine qD rfl (zA (v := lv) rfl) ?_
 refine qD rfl (zO Tryz.underlying65 (v := lv) rfl hw73.read) ?_
 refine qD rfl (yO rfl rfl) ?_
 refine qe (zB ?_)
 refine yH (p := ((i : Int) : Int) < (ln.length : Int)) rfl rfl (fun h84 => ?_) (fun h84 => ?_)
 ·skip
  have hpi : 0 ≤ ln.getD i 0 ∧ ln.getD i 0 < ns.length := hln.at_ (by omega)
  have hol : out.length ≤ ns.length := nodup_len _ _ hln.rd.ndk (fun x hx => (hln.rd.all x (Or.inr ((hln.rd.keep x).1 hx).1)).1)
  refine wp_skip ?_
  refine zB (zE ?_)
  refine yB ?_
  refine zE (zF ?_)
  refine qD rfl (zA (v := (.pointer (some ⟨o, 0, none⟩))) rfl) ?_
  refine qD rfl (zA (v := (.int .i64 y)) rfl) ?_
  refine qD rfl (zA (v := lv) rfl) ?_
  refine qD rfl (zA (v := (.int .i64 (i : Int))) rfl) ?_
  refine qD rfl (zK Tryz.underlying65 sz3 (v := lv) rfl rfl hw73.read (by omega) (by omega)) ?_
  refine qD rfl (zI (r := ln.getD i 0) rfl ag3 (z := (i : Int)) rfl hw73.read (Gadd.pins hX71.pins lv) (by omega) (by omega)) ?_
  refine qD rfl (zA (v := (.bool lf)) rfl) ?_
  refine qI rfl (zN (vs := [(.pointer (some ⟨o, 0, none⟩)), (.int .i64 y), (.int .i64 (ln.getD i 0)), (.bool lf)]) Tryz.func191 nm191 rfl rfl rfl ?_)
  refine Calls.mono (l6Through_spec (lf := lf) hX71.pins ⟨⟨hw76, hw74, hw75, habu, habv, hauv⟩, hw77, hw72, haok, habk, hauk, havk⟩ hy hpi hok hka1) ?_
  rintro _ w88 ⟨t85, ks86, G87, rfl, hthr89, hd90, hka91, hx92⟩
  refine ⟨_, rfl, ?_⟩
  have hX93 := hX71.trans hx92 (fun i hi => hlok i hi)
  have ho94 := hw73.extS hx92 (notO ha78.symm)
  have ho95 := hw74.extS hx92 (notO hauk)
  have ho96 := hw75.extS hx92 (notO havk)
  have hb97 := hw76.extS hx92 (qE habk)
  have hb98 := hw77.extS hx92 (qE haok)
  refine qD rfl (zC (v := (.int .i64 t85)) rfl) ?_
  refine qe (zB (zE (zE (zF ?_))))
  refine qD rfl (zA (v := (.int .i64 t85)) rfl) ?_
  refine qD rfl (yO rfl rfl) ?_
  refine qe (zB ?_)
  refine yH (p := (t85 : Int) < 0) rfl rfl (fun h99 => ?_) (fun h99 => ?_)
  ·skip
   refine zE (zF ?_)
   refine qD rfl (zA (v := ov) rfl) ?_
   refine qD rfl (zA (v := lv) rfl) ?_
   refine qD rfl (zA (v := (.int .i64 (i : Int))) rfl) ?_
   refine qD rfl (zK Tryz.underlying65 sz3 (v := lv) rfl rfl ho94.read (by omega) (by omega)) ?_
   refine qD rfl (zI (r := ln.getD i 0) rfl ag3 (z := (i : Int)) rfl ho94.read (Gadd.pins hX93.pins lv) (by omega) (by omega)) ?_
   refine qI rfl (zN (vs := [ov, (.int .i64 (ln.getD i 0))]) Tryz.func149 nm149 rfl rfl rfl ?_)
   refine Calls.mono (qS hX93.pins (hr83.mono hx92.le) (by omega)) ?_
   rintro _ w102 ⟨u100, G101, rfl, hr103, hx104⟩
   refine ⟨_, rfl, ?_⟩
   have hX105 := hX93.tr hx104
   have ho106 := hd90.ok.ext hx104
   have ho107 := ho94.ext hx104
   have ho108 := ho95.ext hx104
   have ho109 := ho96.ext hx104
   have hb110 := hb97.ext hx104
   have hb111 := hb98.ext hx104
   refine qD rfl (zC (v := u100) rfl) ?_
   refine qe (zB ?_)
   refine wp_exit ?_
   refine zZ ?_
   refine yI ?_
   refine zB (zF ?_)
   refine qD rfl (zA (v := (.int .i64 (i : Int))) rfl) ?_
   refine qD rfl (yJ rfl rfl (by omega)) ?_
   refine qD rfl (zC (v := (.int .i64 ((i : Int) + 1))) rfl) ?_
   refine qe ?_
   refine yA ?_
   refine ⟨_, ?_, _, rfl, _, i + 1, ks86, lv, ln, u100, putL out (ln.getD i 0), G101, (zD (x := 11) (zD (x := 10) (zD (x := 9) (zD (x := 8) (zD (x := 3) (zD (x := 1) (zR (x := 0) rfl) rfl) rfl) rfl) rfl) rfl) rfl), rfl, hX105, (Pin.le_trans (Pin.le_trans hlek68 hx92.le) hx104.le), (hln.keep (by omega) (thr_no (q := (bkq ns bs)) hthr89 h99)), (by omega), hka91, ho106, ho107, ho108, ho109, hb110, hb111, ha78, ha79, ha80, ha81, ha82, hr103⟩
   omega
  refine wp_skip ?_
  refine zB (zE (zF ?_))
  have hti := thr_info (q := (bkq ns bs)) hpo hpi hthr89 (by omega)
  have hti0 : 0 ≤ t85 ∧ t85 < ns.length := hti.1
  have hlt := hok.lens (t85).toNat (by omega)
  refine qD rfl (zA (v := (.pointer (some ⟨o, 0, none⟩))) rfl) ?_
  refine qD rfl (yP rfl) ?_
  refine qD rfl (zL (k := 0) rfl Tryz.underlying163 rfl nz100 rfl) ?_
  refine qD rfl (zQ (u := (.pointer (some ⟨b, 0, none⟩))) ag100 rfl (hb98.cell (o := 0) rfl)) ?_
  refine qD rfl (yP rfl) ?_
  refine qD rfl (zL (k := 0) rfl Tryz.underlying102 rfl nz30 rfl) ?_
  refine qD rfl (zQ (u := bu) ag30 rfl (hb97.cell (o := 0) rfl)) ?_
  refine qD rfl (zA (v := (.int .i64 t85)) rfl) ?_
  refine qD rfl (zK Tryz.underlying30 sz99 (v := bu) rfl rfl ho95.read (by omega) (by omega)) ?_
  refine qD rfl (xD (off := 0) Tryz.underlying99 rfl rfl nz65 (z := t85) (k := 0) rfl ho95.read (by omega) (by omega)) ?_
  obtain ⟨u112, hr113, hl114⟩ := nm_nl (ho95.at (z := t85) (by omega) (by omega)) (j := (t85).toNat) rfl
  have hm115 := hr113.max
  refine qD rfl (hl114 ag65 rfl (Gadd.pins hX93.pins bu)) ?_
  refine qD rfl (zC (v := u112) rfl) ?_
  refine qe (zB (zE (zE (zF ?_))))
  refine qD rfl (zA (v := (.bool lf)) rfl) ?_
  refine qD rfl (xV rfl) ?_
  refine qe (zB ?_)
  refine c_ifn rfl rfl (fun h116 => ?_) (fun h116 => ?_)
  ·skip
   refine wp_skip ?_
   refine zB (zE (zF ?_))
   refine qD rfl (zC (v := (.int .i64 0)) rfl) ?_
   refine qe (zB ?_)
   refine yB ?_
   refine yM (fun (k : Nat) (en : Nat → Value) (W : World) => ∃ (env1 : Nat → Value) (k2 : Nat) (lv2 : Value) (ln2 : List Int) (GL2 : Pin), en = (upd (upd (upd (upd (upd (upd (upd (upd (upd env1 0 (.pointer (some ⟨o, 0, none⟩))) 1 (.int .i64 y)) 3 (.bool lf)) 8 (.slice none 0 0)) 9 lv2) 10 ov) 11 (.int .i64 (i : Int))) 13 u112) 14 (.int .i64 (k2 : Int))) ∧ k = ((ns.getD (t85).toNat default).l).length - k2 ∧ Ext (inO kv.ownBlock) G w GL2 W ∧ Pin.le G87 GL2 ∧ (k2 ≤ ((ns.getD (t85).toNat default).l).length) ∧ (ExOk ln ln2 ((ns.getD (t85).toNat default).l) k2) ∧ (ln2.length ≤ ln.length + k2) ∧ (ln.length ≤ ln2.length) ∧ (Own eInt 3 GL2 W w.heap.size lv2 (ln2)) ∧ (Own eInt 3 GL2 W 0 kv (ks86)) ∧ (Own eNode 99 GL2 W 0 bu (ns)) ∧ (Own eInt 3 GL2 W 0 bv (bs)) ∧ (Bx GL2 W b [bu, bv]) ∧ (Bx GL2 W o [(.pointer (some ⟨b, 0, none⟩)), kv]) ∧ (Apart lv2.ownBlock kv.ownBlock) ∧ (Apart lv2.ownBlock bu.ownBlock) ∧ (Apart lv2.ownBlock bv.ownBlock) ∧ (Apart lv2.ownBlock (some b)) ∧ (Apart lv2.ownBlock (some o))) _ ⟨_, 0, lv, ln, G87, (zD (x := 14) (zD (x := 13) (zD (x := 11) (zD (x := 10) (zD (x := 9) (zD (x := 8) (zD (x := 3) (zD (x := 1) (zR (x := 0) rfl) rfl) rfl) rfl) rfl) rfl) rfl) rfl) rfl), rfl, hX93, Pin.le_refl _, Nat.zero_le _, (ExOk.start hln.nd), Nat.le_refl _, Nat.le_refl _, ho94, hd90.ok, ho95, ho96, hb97, hb98, ha78.symm, ha79, ha80, ha81, ha82⟩ ?_
   rintro k117 _ w118 ⟨env1, k2, lv2, ln2, GL2, rfl, hk119, hX120, hlek117, hk2, hex, hl2, hl3, hw121, hw122, hw123, hw124, hw125, hw126, ha127, ha128, ha129, ha130, ha131⟩
   refine zE (zE (zF ?_))
   refine qD rfl (zA (v := (.int .i64 (k2 : Int))) rfl) ?_
   refine qD rfl (zA (v := u112) rfl) ?_
   refine qD rfl (zO Tryz.underlying65 (v := u112) rfl hr113) ?_
   refine qD rfl (yO rfl rfl) ?_
   refine qe (zB ?_)
   refine yH (p := ((k2 : Int) : Int) < (((ns.getD (t85).toNat default).l).length : Int)) rfl rfl (fun h132 => ?_) (fun h132 => ?_)
   ·skip
    refine wp_skip ?_
    refine zB (zE ?_)
    refine yB ?_
    refine zE (zF ?_)
    refine qD rfl (zA (v := lv2) rfl) ?_
    refine qD rfl (zA (v := u112) rfl) ?_
    refine qD rfl (zA (v := (.int .i64 (k2 : Int))) rfl) ?_
    refine qD rfl (zK Tryz.underlying65 sz3 (v := u112) rfl rfl hr113 (by omega) (by omega)) ?_
    refine qD rfl (zI (r := ((ns.getD (t85).toNat default).l).getD k2 0) rfl ag3 (z := (k2 : Int)) rfl hr113 (Pins.of_le hX120.pins hlek117) (by omega) (by omega)) ?_
    refine qI rfl (zN (vs := [lv2, (.int .i64 (((ns.getD (t85).toNat default).l).getD k2 0))]) Tryz.func192 nm192 rfl rfl rfl ?_)
    refine Calls.mono (l1Has_spec (n := ((ns.getD (t85).toNat default).l).getD k2 0) (Gadd.pins hX120.pins lv2) hw121.read) ?_
    rintro _ w134 ⟨G133, rfl, hx135⟩
    refine ⟨_, rfl, ?_⟩
    have hx136 := deep_back hX120.pins hx135
    have hX137 := hX120.step hx136.pins hx136.below
    have ho138 := hw121.below hx136.below
    have ho139 := hw122.below hx136.below
    have ho140 := hw123.below hx136.below
    have ho141 := hw124.below hx136.below
    have hb142 := hw125.below hx136.below
    have hb143 := hw126.below hx136.below
    refine qD rfl (xV rfl) ?_
    refine qe (zB ?_)
    refine c_ifn rfl rfl (fun h144 => ?_) (fun h144 => ?_)
    ·skip
     replace h144 := of_decide_eq_true h144
     refine wp_skip ?_
     refine yC ?_
     refine zB (zF ?_)
     refine qD rfl (zA (v := (.int .i64 (k2 : Int))) rfl) ?_
     refine qD rfl (yJ rfl rfl (by omega)) ?_
     refine qD rfl (zC (v := (.int .i64 ((k2 : Int) + 1))) rfl) ?_
     refine qe ?_
     refine yA ?_
     refine ⟨_, ?_, _, rfl, _, k2 + 1, lv2, ln2, GL2, (zD (x := 14) (zD (x := 13) (zD (x := 11) (zD (x := 10) (zD (x := 9) (zD (x := 8) (zD (x := 3) (zD (x := 1) (zR (x := 0) rfl) rfl) rfl) rfl) rfl) rfl) rfl) rfl) rfl), rfl, hX137, hlek117, (by omega), (hex.skip (by omega) h144), (by omega), (by omega), ho138, ho139, ho140, ho141, hb142, hb143, ha127, ha128, ha129, ha130, ha131⟩
     omega
    replace h144 := of_decide_eq_false h144
    refine zF ?_
    refine qD rfl (zA (v := lv2) rfl) ?_
    refine qD rfl (zA (v := u112) rfl) ?_
    refine qD rfl (zA (v := (.int .i64 (k2 : Int))) rfl) ?_
    refine qD rfl (zK Tryz.underlying65 sz3 (v := u112) rfl rfl hr113 (by omega) (by omega)) ?_
    refine qD rfl (zI (r := ((ns.getD (t85).toNat default).l).getD k2 0) rfl ag3 (z := (k2 : Int)) rfl hr113 (Pins.of_le hX137.pins hlek117) (by omega) (by omega)) ?_
    refine qI rfl (yQ (E := eInt) (e := 3) [(.int .i64 (((ns.getD (t85).toNat default).l).getD k2 0))] [((ns.getD (t85).toNat default).l).getD k2 0] Tryz.underlying65 sz3 zr3 (by exact xL (by rfl)) (xA (by rfl)) rfl rfl rfl rfl (by decide) hX137.pins (fun u145 w146 ho147 hp148 hl149 hk150 => ?_))
    have hX151 := hX137.step hp148 hl149
    have ho152 := ho138.below hl149
    have ho153 := ho139.below hl149
    have ho154 := ho140.below hl149
    have ho155 := ho141.below hl149
    have hb156 := hb142.below hl149
    have hb157 := hb143.below hl149
    have ho164 : Own eInt 3 GL2 w146 w.heap.size u145 ([((ns.getD (t85).toNat default).l).getD k2 0]) := ho147.weaken hX137.size
    refine qI rfl (zX (E := eInt) (v := lv2) (u := u145) 8 Tryz.underlying65 ap3 (by decide) rfl rfl hX151.pins ho152 ho164.src (by first | omega | (rw [List.nil_append]; omega) | (rw [List.length_nil]; omega) | (rw [List.length_append]; omega) | (simp; done) | (simp; omega) | (simp only [List.length_append, List.length_cons, List.length_nil]; omega)) (by first | omega | (rw [List.nil_append]; omega) | (rw [List.length_nil]; omega) | (rw [List.length_append]; omega) | (simp; done) | (simp; omega) | (simp only [List.length_append, List.length_cons, List.length_nil]; omega)) (hX151.size) (fun u165 w166 ho167 hp168 hg169 hw170 => ?_))
    have hX171 := hX151.write hp168 hg169 ((yG ho152))
    have ho172 := ho153.keptA hg169 ha127.symm
    have ho173 := ho154.keptA hg169 ha128.symm
    have ho174 := ho155.keptA hg169 ha129.symm
    have hb176 := hb156.keptA hg169 ha130.symm
    have hb177 := hb157.keptA hg169 ha131.symm
    have ha178 : Apart kv.ownBlock u165.ownBlock := zH ha127.symm hw170 ho153.lt
    have ha179 : Apart bu.ownBlock u165.ownBlock := zH ha128.symm hw170 ho154.lt
    have ha180 : Apart bv.ownBlock u165.ownBlock := zH ha129.symm hw170 ho155.lt
    have ha182 : Apart (some b) u165.ownBlock := zM ha130.symm hw170 hb156.lt
    have ha183 : Apart (some o) u165.ownBlock := zM ha131.symm hw170 hb157.lt
    have hm184 : (ln2 ++ ([((ns.getD (t85).toNat default).l).getD k2 0])).length = ln2.length + 1 := List.length_append
    refine qD rfl (zC (v := u165) rfl) ?_
    refine qe ?_
    refine yC ?_
    refine zB (zF ?_)
    refine qD rfl (zA (v := (.int .i64 (k2 : Int))) rfl) ?_
    refine qD rfl (yJ rfl rfl (by omega)) ?_
    refine qD rfl (zC (v := (.int .i64 ((k2 : Int) + 1))) rfl) ?_
    refine qe ?_
    refine yA ?_
    refine ⟨_, ?_, _, rfl, _, k2 + 1, u165, ln2 ++ ([((ns.getD (t85).toNat default).l).getD k2 0]), GL2, (zD (x := 14) (zD (x := 13) (zD (x := 11) (zD (x := 10) (zD (x := 9) (zD (x := 8) (zD (x := 3) (zD (x := 1) (zR (x := 0) rfl) rfl) rfl) rfl) rfl) rfl) rfl) rfl) rfl), rfl, hX171, hlek117, (by omega), (hex.add (by omega) h144), (by rw [List.length_append, List.length_singleton]; omega), (by rw [List.length_append, List.length_singleton]; omega), ho167, ho172, ho173, ho174, hb176, hb177, ha178.symm, ha179.symm, ha180.symm, ha182.symm, ha183.symm⟩
    omega
   refine wp_exit ?_
   refine zZ ?_
   refine yK ?_
   refine yI ?_
   refine yC ?_
   refine zB (zF ?_)
   refine qD rfl (zA (v := (.int .i64 (i : Int))) rfl) ?_
   refine qD rfl (yJ rfl rfl (by omega)) ?_
   refine qD rfl (zC (v := (.int .i64 ((i : Int) + 1))) rfl) ?_
   refine qe ?_
   refine yA ?_
   refine ⟨_, ?_, _, rfl, _, i + 1, ks86, lv2, ln2, ov, out, GL2, (zD (x := 11) (zD (x := 10) (zD (x := 9) (zD (x := 8) (zD (x := 3) (zD (x := 1) (zR (x := 0) rfl) rfl) rfl) rfl) rfl) rfl) rfl), rfl, hX120, (Pin.le_trans (Pin.le_trans hlek68 hx92.le) hlek117), (hex.pass (by omega) (ol_yes (q := (bkq ns bs)) (t := t85) h116) hpo hln (by omega) hti.1 hti.2.1 hti.2.2), (by omega), hka91, hw122, hw121, hw123, hw124, hw125, hw126, ha127.symm, ha128, ha129, ha130, ha131, (hr83.mono (Pin.le_trans hx92.le hlek117))⟩
   omega
  refine zF ?_
  refine qD rfl (zA (v := (.pointer (some ⟨o, 0, none⟩))) rfl) ?_
  refine qD rfl (yP rfl) ?_
  refine qD rfl (zL (k := 0) rfl Tryz.underlying163 rfl nz100 rfl) ?_
  refine qD rfl (zQ (u := (.pointer (some ⟨b, 0, none⟩))) ag100 rfl (hb98.cell (o := 0) rfl)) ?_
  refine qD rfl (yP rfl) ?_
  refine qD rfl (zL (k := 0) rfl Tryz.underlying102 rfl nz30 rfl) ?_
  refine qD rfl (zQ (u := bu) ag30 rfl (hb97.cell (o := 0) rfl)) ?_
  refine qD rfl (zA (v := (.int .i64 t85)) rfl) ?_
  refine qD rfl (zK Tryz.underlying30 sz99 (v := bu) rfl rfl ho95.read (by omega) (by omega)) ?_
  refine qD rfl (xD (off := 1) Tryz.underlying99 rfl rfl nz65 (z := t85) (k := 0) rfl ho95.read (by omega) (by omega)) ?_
  obtain ⟨u185, hr186, hl187⟩ := nm_nr (ho95.at (z := t85) (by omega) (by omega)) (j := (t85).toNat) rfl
  have hm188 := hr186.max
  refine qD rfl (hl187 ag65 rfl (Gadd.pins hX93.pins bu)) ?_
  refine qD rfl (zC (v := u185) rfl) ?_
  refine qe (zB (zE (zF ?_)))
  refine qD rfl (zC (v := (.int .i64 0)) rfl) ?_
  refine qe (zB ?_)
  refine yB ?_
  refine yM (fun (k : Nat) (en : Nat → Value) (W : World) => ∃ (env1 : Nat → Value) (k2 : Nat) (lv2 : Value) (ln2 : List Int) (GL2 : Pin), en = (upd (upd (upd (upd (upd (upd (upd (upd (upd env1 0 (.pointer (some ⟨o, 0, none⟩))) 1 (.int .i64 y)) 3 (.bool lf)) 8 (.slice none 0 0)) 9 lv2) 10 ov) 11 (.int .i64 (i : Int))) 13 u185) 14 (.int .i64 (k2 : Int))) ∧ k = ((ns.getD (t85).toNat default).r).length - k2 ∧ Ext (inO kv.ownBlock) G w GL2 W ∧ Pin.le G87 GL2 ∧ (k2 ≤ ((ns.getD (t85).toNat default).r).length) ∧ (ExOk ln ln2 ((ns.getD (t85).toNat default).r) k2) ∧ (ln2.length ≤ ln.length + k2) ∧ (ln.length ≤ ln2.length) ∧ (Own eInt 3 GL2 W w.heap.size lv2 (ln2)) ∧ (Own eInt 3 GL2 W 0 kv (ks86)) ∧ (Own eNode 99 GL2 W 0 bu (ns)) ∧ (Own eInt 3 GL2 W 0 bv (bs)) ∧ (Bx GL2 W b [bu, bv]) ∧ (Bx GL2 W o [(.pointer (some ⟨b, 0, none⟩)), kv]) ∧ (Apart lv2.ownBlock kv.ownBlock) ∧ (Apart lv2.ownBlock bu.ownBlock) ∧ (Apart lv2.ownBlock bv.ownBlock) ∧ (Apart lv2.ownBlock (some b)) ∧ (Apart lv2.ownBlock (some o))) _ ⟨_, 0, lv, ln, G87, (zD (x := 14) (zD (x := 13) (zD (x := 11) (zD (x := 10) (zD (x := 9) (zD (x := 8) (zD (x := 3) (zD (x := 1) (zR (x := 0) rfl) rfl) rfl) rfl) rfl) rfl) rfl) rfl) rfl), rfl, hX93, Pin.le_refl _, Nat.zero_le _, (ExOk.start hln.nd), Nat.le_refl _, Nat.le_refl _, ho94, hd90.ok, ho95, ho96, hb97, hb98, ha78.symm, ha79, ha80, ha81, ha82⟩ ?_
  rintro k189 _ w190 ⟨env1, k2, lv2, ln2, GL2, rfl, hk191, hX192, hlek189, hk2, hex, hl2, hl3, hw193, hw194, hw195, hw196, hw197, hw198, ha199, ha200, ha201, ha202, ha203⟩
  refine zE (zE (zF ?_))
  refine qD rfl (zA (v := (.int .i64 (k2 : Int))) rfl) ?_
  refine qD rfl (zA (v := u185) rfl) ?_
  refine qD rfl (zO Tryz.underlying65 (v := u185) rfl hr186) ?_
  refine qD rfl (yO rfl rfl) ?_
  refine qe (zB ?_)
  refine yH (p := ((k2 : Int) : Int) < (((ns.getD (t85).toNat default).r).length : Int)) rfl rfl (fun h204 => ?_) (fun h204 => ?_)
  ·skip
   refine wp_skip ?_
   refine zB (zE ?_)
   refine yB ?_
   refine zE (zF ?_)
   refine qD rfl (zA (v := lv2) rfl) ?_
   refine qD rfl (zA (v := u185) rfl) ?_
   refine qD rfl (zA (v := (.int .i64 (k2 : Int))) rfl) ?_
   refine qD rfl (zK Tryz.underlying65 sz3 (v := u185) rfl rfl hr186 (by omega) (by omega)) ?_
   refine qD rfl (zI (r := ((ns.getD (t85).toNat default).r).getD k2 0) rfl ag3 (z := (k2 : Int)) rfl hr186 (Pins.of_le hX192.pins hlek189) (by omega) (by omega)) ?_
   refine qI rfl (zN (vs := [lv2, (.int .i64 (((ns.getD (t85).toNat default).r).getD k2 0))]) Tryz.func192 nm192 rfl rfl rfl ?_)
   refine Calls.mono (l1Has_spec (n := ((ns.getD (t85).toNat default).r).getD k2 0) (Gadd.pins hX192.pins lv2) hw193.read) ?_
   rintro _ w206 ⟨G205, rfl, hx207⟩
   refine ⟨_, rfl, ?_⟩
   have hx208 := deep_back hX192.pins hx207
   have hX209 := hX192.step hx208.pins hx208.below
   have ho210 := hw193.below hx208.below
   have ho211 := hw194.below hx208.below
   have ho212 := hw195.below hx208.below
   have ho213 := hw196.below hx208.below
   have hb214 := hw197.below hx208.below
   have hb215 := hw198.below hx208.below
   refine qD rfl (xV rfl) ?_
   refine qe (zB ?_)
   refine c_ifn rfl rfl (fun h216 => ?_) (fun h216 => ?_)
   ·skip
    replace h216 := of_decide_eq_true h216
    refine wp_skip ?_
    refine yC ?_
    refine zB (zF ?_)
    refine qD rfl (zA (v := (.int .i64 (k2 : Int))) rfl) ?_
    refine qD rfl (yJ rfl rfl (by omega)) ?_
    refine qD rfl (zC (v := (.int .i64 ((k2 : Int) + 1))) rfl) ?_
    refine qe ?_
    refine yA ?_
    refine ⟨_, ?_, _, rfl, _, k2 + 1, lv2, ln2, GL2, (zD (x := 14) (zD (x := 13) (zD (x := 11) (zD (x := 10) (zD (x := 9) (zD (x := 8) (zD (x := 3) (zD (x := 1) (zR (x := 0) rfl) rfl) rfl) rfl) rfl) rfl) rfl) rfl) rfl), rfl, hX209, hlek189, (by omega), (hex.skip (by omega) h216), (by omega), (by omega), ho210, ho211, ho212, ho213, hb214, hb215, ha199, ha200, ha201, ha202, ha203⟩
    omega
   replace h216 := of_decide_eq_false h216
   refine zF ?_
   refine qD rfl (zA (v := lv2) rfl) ?_
   refine qD rfl (zA (v := u185) rfl) ?_
   refine qD rfl (zA (v := (.int .i64 (k2 : Int))) rfl) ?_
   refine qD rfl (zK Tryz.underlying65 sz3 (v := u185) rfl rfl hr186 (by omega) (by omega)) ?_
   refine qD rfl (zI (r := ((ns.getD (t85).toNat default).r).getD k2 0) rfl ag3 (z := (k2 : Int)) rfl hr186 (Pins.of_le hX209.pins hlek189) (by omega) (by omega)) ?_
   refine qI rfl (yQ (E := eInt) (e := 3) [(.int .i64 (((ns.getD (t85).toNat default).r).getD k2 0))] [((ns.getD (t85).toNat default).r).getD k2 0] Tryz.underlying65 sz3 zr3 (by exact xL (by rfl)) (xA (by rfl)) rfl rfl rfl rfl (by decide) hX209.pins (fun u217 w218 ho219 hp220 hl221 hk222 => ?_))
   have hX223 := hX209.step hp220 hl221
   have ho224 := ho210.below hl221
   have ho225 := ho211.below hl221
   have ho226 := ho212.below hl221
   have ho227 := ho213.below hl221
   have hb228 := hb214.below hl221
   have hb229 := hb215.below hl221
   have ho236 : Own eInt 3 GL2 w218 w.heap.size u217 ([((ns.getD (t85).toNat default).r).getD k2 0]) := ho219.weaken hX209.size
   refine qI rfl (zX (E := eInt) (v := lv2) (u := u217) 8 Tryz.underlying65 ap3 (by decide) rfl rfl hX223.pins ho224 ho236.src (by first | omega | (rw [List.nil_append]; omega) | (rw [List.length_nil]; omega) | (rw [List.length_append]; omega) | (simp; done) | (simp; omega) | (simp only [List.length_append, List.length_cons, List.length_nil]; omega)) (by first | omega | (rw [List.nil_append]; omega) | (rw [List.length_nil]; omega) | (rw [List.length_append]; omega) | (simp; done) | (simp; omega) | (simp only [List.length_append, List.length_cons, List.length_nil]; omega)) (hX223.size) (fun u237 w238 ho239 hp240 hg241 hw242 => ?_))
   have hX243 := hX223.write hp240 hg241 ((yG ho224))
   have ho244 := ho225.keptA hg241 ha199.symm
   have ho245 := ho226.keptA hg241 ha200.symm
   have ho246 := ho227.keptA hg241 ha201.symm
   have hb248 := hb228.keptA hg241 ha202.symm
   have hb249 := hb229.keptA hg241 ha203.symm
   have ha250 : Apart kv.ownBlock u237.ownBlock := zH ha199.symm hw242 ho225.lt
   have ha251 : Apart bu.ownBlock u237.ownBlock := zH ha200.symm hw242 ho226.lt
   have ha252 : Apart bv.ownBlock u237.ownBlock := zH ha201.symm hw242 ho227.lt
   have ha254 : Apart (some b) u237.ownBlock := zM ha202.symm hw242 hb228.lt
   have ha255 : Apart (some o) u237.ownBlock := zM ha203.symm hw242 hb229.lt
   have hm256 : (ln2 ++ ([((ns.getD (t85).toNat default).r).getD k2 0])).length = ln2.length + 1 := List.length_append
   refine qD rfl (zC (v := u237) rfl) ?_
   refine qe ?_
   refine yC ?_
   refine zB (zF ?_)
   refine qD rfl (zA (v := (.int .i64 (k2 : Int))) rfl) ?_
   refine qD rfl (yJ rfl rfl (by omega)) ?_
   refine qD rfl (zC (v := (.int .i64 ((k2 : Int) + 1))) rfl) ?_
   refine qe ?_
   refine yA ?_
   refine ⟨_, ?_, _, rfl, _, k2 + 1, u237, ln2 ++ ([((ns.getD (t85).toNat default).r).getD k2 0]), GL2, (zD (x := 14) (zD (x := 13) (zD (x := 11) (zD (x := 10) (zD (x := 9) (zD (x := 8) (zD (x := 3) (zD (x := 1) (zR (x := 0) rfl) rfl) rfl) rfl) rfl) rfl) rfl) rfl) rfl), rfl, hX243, hlek189, (by omega), (hex.add (by omega) h216), (by rw [List.length_append, List.length_singleton]; omega), (by rw [List.length_append, List.length_singleton]; omega), ho239, ho244, ho245, ho246, hb248, hb249, ha250.symm, ha251.symm, ha252.symm, ha254.symm, ha255.symm⟩
   omega
  refine wp_exit ?_
  refine zZ ?_
  refine yK ?_
  refine yI ?_
  refine yC ?_
  refine zB (zF ?_)
  refine qD rfl (zA (v := (.int .i64 (i : Int))) rfl) ?_
  refine qD rfl (yJ rfl rfl (by omega)) ?_
  refine qD rfl (zC (v := (.int .i64 ((i : Int) + 1))) rfl) ?_
  refine qe ?_
  refine yA ?_
  refine ⟨_, ?_, _, rfl, _, i + 1, ks86, lv2, ln2, ov, out, GL2, (zD (x := 11) (zD (x := 10) (zD (x := 9) (zD (x := 8) (zD (x := 3) (zD (x := 1) (zR (x := 0) rfl) rfl) rfl) rfl) rfl) rfl) rfl), rfl, hX192, (Pin.le_trans (Pin.le_trans hlek68 hx92.le) hlek189), (hex.pass (by omega) (ol_no (q := (bkq ns bs)) (t := t85) h116) hpo hln (by omega) hti.1 hti.2.1 hti.2.2), (by omega), hka91, hw194, hw193, hw195, hw196, hw197, hw198, ha199.symm, ha200, ha201, ha202, ha203, (hr83.mono (Pin.le_trans hx92.le hlek189))⟩
  omega
 refine wp_exit ?_
 refine zZ ?_
 refine yK ?_
 refine yI ?_
 refine zB (zE (zF ?_))
 refine qD rfl (zA (v := ov) rfl) ?_
 refine qD rfl (zC (v := ov) rfl) ?_
 refine qe (zB ?_)
 refine wp_ret ?_
 refine zW ?_
 refine zS (v := ov) rfl rfl rfl ?_
 exact ⟨_, _, _, _, _, rfl, hr83, hln.done (by omega), ⟨⟨hw76, hw74, hw75, habu, habv, hauv⟩, hw77, hw72, haok, habk, hauk, havk⟩, hka1, hX71⟩

end C61
end Go.Proofs.YtfnginkcmcfdfaaGreatDoor

set_option maxRecDepth 20000
set_option maxHeartbeats 2000000
namespace Go.Proofs.YtfnginkcmcfdfaaGreatDoor
namespace C62
open Go.RowKit Go.GL Go.Proofs
open Go.Proofs.YtfnginkcmcfdfaaGreatDoor.B1
open Go.Proofs.YtfnginkcmcfdfaaGreatDoor.C1
open Go.Proofs.YtfnginkcmcfdfaaGreatDoor.D1
open Go.Proofs.YtfnginkcmcfdfaaGreatDoor.E1
open Go.Proofs.YtfnginkcmcfdfaaGreatDoor.OR1
open Go.Proofs.YtfnginkcmcfdfaaGreatDoor.C61












theorem put6_spec {w : World} {G : Pin} {b : Nat} {bu bv : Value} {ns : List Nd} {bs : List Int} {x y : Value} {xs ys : List Int} (hP : Pins G w) (hB : Bk 99 3 G w b bu bv ns bs) (hpo : PoolOk (bkq ns bs)) (hx : RSl eInt G x xs) (hy : RSl eInt G y ys) (hl : ns.length + 1 ≤ 1048576) (hls : xs.length ≤ 1048576 ∧ ys.length ≤ 1048576) (h1 : ∀ z ∈ xs, PlaceOk (bkq ns bs) z) (h2 : ∀ z ∈ ys, PlaceOk (bkq ns bs) z) :
  Calls Tryz.prog 112 [(.pointer (some ⟨b, 0, none⟩)), x, y].toArray w fun e w' => ∃ (z : Int) (n1 : List Nd) (b1 : List Int) (u' v' : Value) (G' : Pin), e = .returned (.int .i64 z) ∧ Bk 99 3 G' w' b u' v' n1 b1 ∧ StepOk ns bs n1 b1 z 1 ∧ (pd (bkq n1 b1) z = mkG (xs.map (pd (bkq ns bs))) (ys.map (pd (bkq ns bs)))) ∧ Ext (inS b bu bv) G w G' w' ∧ Lo w (inS b bu bv) u'.ownBlock ∧ Lo w (inS b bu bv) v'.ownBlock := by
 have hpt := bk_put hpo hl hls h1 h2
 refine (put_spec hP hB hpo.ar.ok hx hy hls (xY h1) (xY h2)).mono ?_
 rintro e w' ⟨u, v, G', rfl, hbk, hxx, l1, l2⟩
 exact ⟨_, _, _, u, v, G', rfl, hbk, ⟨hpt.ok, hpt.px, hpt.pl, hpt.len⟩, hpt.pd, hxx, l1, l2⟩

theorem l6Node_spec {w : World} {G : Pin} {b : Nat} {bu bv : Value} {ns : List Nd} {bs : List Int} {x y : Value} {xs ys : List Int} (hP : Pins G w) (hB : Bk 99 3 G w b bu bv ns bs) (hpo : PoolOk (bkq ns bs)) (hx : RSl eInt G x xs) (hy : RSl eInt G y ys) (hl : ns.length + 3 ≤ 1048576) (hls : xs.length ≤ 1048576 ∧ ys.length ≤ 1048576) (h1 : ∀ z ∈ xs, PlaceOk (bkq ns bs) z ∧ CanonG (pd (bkq ns bs) z)) (h2 : ∀ z ∈ ys, PlaceOk (bkq ns bs) z ∧ CanonG (pd (bkq ns bs) z)) :
  Calls Tryz.prog 126 [(.pointer (some ⟨b, 0, none⟩)), x, y].toArray w fun e w' => ∃ (z : Int) (n1 : List Nd) (b1 : List Int) (u' v' : Value) (G' : Pin), e = .returned (.int .i64 z) ∧ Bk 99 3 G' w' b u' v' n1 b1 ∧ StepOk ns bs n1 b1 z 3 ∧ (CanonG (pd (bkq n1 b1) z) ∧ eqG (pd (bkq n1 b1) z) (mkG (xs.map (pd (bkq ns bs))) (ys.map (pd (bkq ns bs))))) ∧ Ext (inS b bu bv) G w G' w' ∧ Lo w (inS b bu bv) u'.ownBlock ∧ Lo w (inS b bu bv) v'.ownBlock := by
 refine yE (n := 65) Tryz.func126 Tryz.ntmps126 rfl rfl ?_
 have hX0 : Ext (inS b bu bv) G w G w := Ext.refl hP
 have hok : BookOk ns bs := hpo.ar.ok
 have hbx := hB.bx
 have hou := hB.ou
 have hov := hB.ov
 have habu := hB.abu
 have habv := hB.abv
 have hauv := hB.auv
 have hlob : Lo w (inS b bu bv) (some b) := lo_b
 have hlou : Lo w (inS b bu bv) bu.ownBlock := lo_u
 have hlov : Lo w (inS b bu bv) bv.ownBlock := lo_v
 have hlen := hok.len
 have hlim := hok.lim
 refine zE (zF ?_)
 refine qD rfl (zC (v := (.int .i64 0)) rfl) ?_
 refine qe (zB (zE (zF ?_)))
 refine qD rfl (zA (v := (.pointer (some ⟨b, 0, none⟩))) rfl) ?_
 refine qD rfl (zA (v := x) rfl) ?_
 refine qD rfl (zA (v := y) rfl) ?_
 refine qI rfl (zN (vs := [(.pointer (some ⟨b, 0, none⟩)), x, y]) Tryz.func112 nm112 rfl rfl rfl ?_)
 refine Calls.mono (put6_spec hX0.pins ⟨hbx, hou, hov, habu, habv, hauv⟩ hpo hx hy (by omega) hls (fun z hz => (h1 z hz).1) (fun z hz => (h2 z hz).1)) ?_
 rintro _ w7 ⟨z1, n2, b3, u4, v5, G6, rfl, hbk8, hso9, hsd10, hx11, hlu12, hlv13⟩
 refine ⟨_, rfl, ?_⟩
 have hin14 : ∀ i, inS b bu bv i → w.heap.size ≤ i ∨ (inS b bu bv) i := inS_lo hlob hlou hlov
 have hX15 := hX0.trans hx11 hin14
 have hb16 := hbk8.bx
 have ho17 := hbk8.ou
 have ho18 := hbk8.ov
 have ha19 := hbk8.abu
 have ha20 := hbk8.abv
 have ha21 := hbk8.auv
 have hlo22 := qR hlu12 hin14 hX0.size
 have hlo23 := qR hlv13 hin14 hX0.size
 have hpz24 : 0 ≤ z1 ∧ z1 < n2.length := hso9.pl
 have hnl25 := hso9.len
 have hnm26 := hso9.ok.ar.ok.lim
 have hpz24l : (n2.getD (z1).toNat default).l.length ≤ 1048576 ∧ (n2.getD (z1).toNat default).r.length ≤ 1048576 := hso9.ok.ar.ok.lens (z1).toNat (show (z1).toNat < n2.length by omega)
 refine qD rfl (zC (v := (.int .i64 z1)) rfl) ?_
 refine qe (zB (zE (zF ?_)))
 refine qD rfl (zA (v := (.pointer (some ⟨b, 0, none⟩))) rfl) ?_
 refine qI rfl (zN (vs := [(.pointer (some ⟨b, 0, none⟩))]) Tryz.func138 nm138 rfl rfl rfl ?_)
 refine Calls.mono (l4Of_spec hX15.pins ⟨hb16, ho17, ho18, ha19, ha20, ha21⟩ hso9.ok.ar.ok) ?_
 rintro _ w30 ⟨b27, u28, G29, rfl, hb31, ho32, hlo33, ha34, hx35⟩
 refine ⟨_, rfl, ?_⟩
 have hX36 := hX15.tr hx35
 have ho37 := ho17.ext hx35
 have ho38 := ho18.ext hx35
 have hb39 := hb16.ext hx35
 have ha40 : Apart u28.ownBlock u4.ownBlock := zT ho32.lt ho17.lt
 have ha41 : Apart (some b27) u4.ownBlock := made_box_own hlo33 ho17.lt
 have ha42 : Apart u28.ownBlock v5.ownBlock := zT ho32.lt ho18.lt
 have ha43 : Apart (some b27) v5.ownBlock := made_box_own hlo33 ho18.lt
 have ha44 : Apart u28.ownBlock (some b) := yF ho32.lt hb16.lt
 have ha45 : Apart (some b27) (some b) := made_box_box hlo33 hb16.lt
 have hlo46 := Nat.le_trans hX15.size hlo33
 have ho47 := ho32.weaken hX15.size
 have hka48 : KAll n2 (List.replicate (n2.length * n2.length) 0) := KAll.zero
 refine qD rfl (zC (v := (.pointer (some ⟨b27, 0, none⟩))) rfl) ?_
 refine qe (zB (zE ?_))
 have hq49 := Gadd.pins hX36.pins u4
 have hr50 := ho37.read
 refine c_drawL (S := fun wz => BxR wz b [u4, v5] ∧ Pins (Gadd G29 w30 u4) wz) (lt := [23, 24]) (by kernel_rfl) rfl ?_
 have hl51 : Below w30.heap.size w30 w30.drew := (Below.refl _ _).drew
 have hp52 := hX36.pins.below hl51
 have hX53 := hX36.step hp52 hl51
 have ho54 := ho37.below hl51
 have ho55 := ho38.below hl51
 have ho56 := ho47.below hl51
 have hb57 := hb39.below hl51
 have hb58 := hb31.below hl51
 have hq59 := hq49.below hl51
 refine xJ [23, 24] (i := 0) rfl rfl rfl (zG rfl _) (by kernel_rfl) (fun _ _ => zA (v := (.pointer (some ⟨b, 0, none⟩))) rfl) ⟨hb57.reads, hq59⟩ ?_
 refine xJ [11, 22, 23, 24] (i := 1) rfl rfl rfl (zG rfl _) (by kernel_rfl) (fun _ _ => zA (v := (.pointer (some ⟨b27, 0, none⟩))) rfl) ⟨hb57.reads, hq59⟩ ?_
 refine xJ [11, 22, 23, 24] (i := 2) rfl rfl rfl (zG rfl _) (by kernel_rfl) (fun _ _ => zA (v := (.int .i64 z1)) rfl) ⟨hb57.reads, hq59⟩ ?_
 refine xJ [4, 5, 6, 8, 9, 10, 11, 22, 23, 24] (i := 3) rfl rfl rfl (zG rfl _) (by kernel_rfl) (fun _ _ => zA (v := (.pointer (some ⟨b, 0, none⟩))) rfl) ⟨hb57.reads, hq59⟩ ?_
 refine xJ [5, 6, 8, 9, 10, 11, 22, 23, 24] (i := 4) rfl rfl rfl (zG rfl _) (by kernel_rfl) (fun _ _ => yP rfl) ⟨hb57.reads, hq59⟩ ?_
 refine xJ [6, 8, 9, 10, 11, 22, 23, 24] (i := 5) rfl rfl rfl (zG rfl _) (by kernel_rfl) (fun _ _ => zL (k := 0) rfl Tryz.underlying102 rfl nz30 rfl) ⟨hb57.reads, hq59⟩ ?_
 refine xJ [8, 9, 10, 11, 22, 23, 24] (i := 6) rfl rfl rfl (zG rfl _) (by kernel_rfl) (fun _ hS => zQ (u := u4) ag30 rfl (hS.1 0 _ rfl)) ⟨hb57.reads, hq59⟩ ?_
 refine xJ [8, 9, 10, 11, 22, 23, 24] (i := 7) rfl rfl rfl (zG rfl _) (by kernel_rfl) (fun _ _ => zA (v := (.int .i64 z1)) rfl) ⟨hb57.reads, hq59⟩ ?_
 refine xJ [9, 10, 11, 22, 23, 24] (i := 8) rfl rfl rfl (zG rfl _) (by kernel_rfl) (fun _ _ => zK Tryz.underlying30 sz99 (v := u4) rfl rfl hr50 (by omega) (by omega)) ⟨hb57.reads, hq59⟩ ?_
 refine xJ [10, 11, 22, 23, 24] (i := 9) rfl rfl rfl (zG rfl _) (by kernel_rfl) (fun _ _ => xD (off := 0) Tryz.underlying99 rfl rfl nz65 (z := z1) (k := 0) rfl hr50 (by omega) (by omega)) ⟨hb57.reads, hq59⟩ ?_
 obtain ⟨u60, hr61, hl62⟩ := nm_nl (ho37.at (z := z1) (by omega) (by omega)) (j := (z1).toNat) rfl
 have hm63 := hr61.max
 refine xJ [11, 22, 23, 24] (i := 10) rfl rfl rfl (zG rfl _) (by kernel_rfl) (fun _ hS => hl62 ag65 rfl hS.2) ⟨hb57.reads, hq59⟩ ?_
 refine xJ [22, 23, 24] (i := 12) rfl rfl rfl (zG rfl _) (by kernel_rfl) (fun _ _ => zA (v := (.pointer (some ⟨b27, 0, none⟩))) rfl) ⟨hb57.reads, hq59⟩ ?_
 refine xJ [22, 23, 24] (i := 13) rfl rfl rfl (zG rfl _) (by kernel_rfl) (fun _ _ => zA (v := (.int .i64 z1)) rfl) ⟨hb57.reads, hq59⟩ ?_
 refine xJ [15, 16, 17, 19, 20, 21, 22, 23, 24] (i := 14) rfl rfl rfl (zG rfl _) (by kernel_rfl) (fun _ _ => zA (v := (.pointer (some ⟨b, 0, none⟩))) rfl) ⟨hb57.reads, hq59⟩ ?_
 refine xJ [16, 17, 19, 20, 21, 22, 23, 24] (i := 15) rfl rfl rfl (zG rfl _) (by kernel_rfl) (fun _ _ => yP rfl) ⟨hb57.reads, hq59⟩ ?_
 refine xJ [17, 19, 20, 21, 22, 23, 24] (i := 16) rfl rfl rfl (zG rfl _) (by kernel_rfl) (fun _ _ => zL (k := 0) rfl Tryz.underlying102 rfl nz30 rfl) ⟨hb57.reads, hq59⟩ ?_
 refine xJ [19, 20, 21, 22, 23, 24] (i := 17) rfl rfl rfl (zG rfl _) (by kernel_rfl) (fun _ hS => zQ (u := u4) ag30 rfl (hS.1 0 _ rfl)) ⟨hb57.reads, hq59⟩ ?_
 refine xJ [19, 20, 21, 22, 23, 24] (i := 18) rfl rfl rfl (zG rfl _) (by kernel_rfl) (fun _ _ => zA (v := (.int .i64 z1)) rfl) ⟨hb57.reads, hq59⟩ ?_
 refine xJ [20, 21, 22, 23, 24] (i := 19) rfl rfl rfl (zG rfl _) (by kernel_rfl) (fun _ _ => zK Tryz.underlying30 sz99 (v := u4) rfl rfl hr50 (by omega) (by omega)) ⟨hb57.reads, hq59⟩ ?_
 refine xJ [21, 22, 23, 24] (i := 20) rfl rfl rfl (zG rfl _) (by kernel_rfl) (fun _ _ => xD (off := 1) Tryz.underlying99 rfl rfl nz65 (z := z1) (k := 0) rfl hr50 (by omega) (by omega)) ⟨hb57.reads, hq59⟩ ?_
 obtain ⟨u64, hr65, hl66⟩ := nm_nr (ho37.at (z := z1) (by omega) (by omega)) (j := (z1).toNat) rfl
 have hm67 := hr65.max
 refine xJ [22, 23, 24] (i := 21) rfl rfl rfl (zG rfl _) (by kernel_rfl) (fun _ hS => hl66 ag65 rfl hS.2) ⟨hb57.reads, hq59⟩ ?_
 refine dr_oneL (i := 11) (by kernel_rfl) (drOp1L (i := 11) rfl rfl rfl (zG rfl _) (zN (vs := [(.pointer (some ⟨b27, 0, none⟩)), (.int .i64 z1), u60, (.bool true)]) Tryz.func156 nm156 rfl rfl rfl ?_))
 refine Calls.mono (l6Open_spec (lf := true) hX53.pins ⟨⟨hb57, ho54, ho55, ha19, ha20, ha21⟩, hb58, (ho56.weaken (Nat.zero_le _)), ha34, ha44.symm, ha40.symm, ha42.symm⟩ hpz24 hr61 hpz24l.1 hso9.ok.ar.ok hka48 hso9.ok (LnOk.start hso9.ok hso9.pl (can_opts h1 h2 hsd10 true))) ?_
 rintro _ w73 ⟨u68, ln69, out70, ks71, G72, rfl, hr74, hrd75, hd76, hka77, hx78⟩
 refine ⟨_, rfl, ?_⟩
 have hX79 := hX53.trans hx78 (fun i hi => (yG ho56) i hi)
 have ho80 := ho54.extS hx78 (notO ha40.symm)
 have ho81 := ho55.extS hx78 (notO ha42.symm)
 have hb82 := hb57.extS hx78 (qE ha44.symm)
 have hb83 := hb58.extS hx78 (qE ha34)
 have hlo84 : Lo w ((inS b bu bv)) u28.ownBlock := (yG ho56)
 have hq85 := Gadd.turn hq59 (Pins.of_le hX79.pins hx78.le) hx78 (notO ha40.symm)
 refine ⟨fun _ => ⟨hb82.reads, hq85⟩, ?_⟩
 refine dr_oneL (i := 22) (by kernel_rfl) (drOp1L (i := 22) rfl rfl rfl (zG rfl _) (zN (vs := [(.pointer (some ⟨b27, 0, none⟩)), (.int .i64 z1), u64, (.bool false)]) Tryz.func156 nm156 rfl rfl rfl ?_))
 refine Calls.mono (l6Open_spec (lf := false) hX79.pins ⟨⟨hb82, ho80, ho81, ha19, ha20, ha21⟩, hb83, hd76.ok, ha34, ha44.symm, ha40.symm, ha42.symm⟩ hpz24 (hr65.mono hx78.le) hpz24l.2 hso9.ok.ar.ok hka77 hso9.ok (LnOk.start hso9.ok hso9.pl (can_opts h1 h2 hsd10 false))) ?_
 rintro _ w91 ⟨u86, ln87, out88, ks89, G90, rfl, hr92, hrd93, hd94, hka95, hx96⟩
 refine ⟨_, rfl, ?_⟩
 have hX97 := hX79.trans hx96 (fun i hi => hlo84 i hi)
 have ho98 := ho80.extS hx96 (notO ha40.symm)
 have ho99 := ho81.extS hx96 (notO ha42.symm)
 have hb100 := hb82.extS hx96 (qE ha44.symm)
 have hb101 := hb83.extS hx96 (qE ha34)
 have hq102 := Gadd.turn hq85 (Pins.of_le hX97.pins (Pin.le_trans hx78.le hx96.le)) hx96 (notO ha40.symm)
 refine ⟨fun _ => ⟨hb100.reads, hq102⟩, ?_⟩
 refine dr_oneL (i := 23) (by kernel_rfl) (drOp1L (i := 23) rfl rfl rfl (zG rfl _) (zN (vs := [(.pointer (some ⟨b, 0, none⟩)), u68, u86]) Tryz.func112 nm112 rfl rfl rfl ?_))
 refine Calls.mono (put6_spec hX97.pins ⟨hb100, ho98, ho99, ha19, ha20, ha21⟩ hso9.ok (hr74.mono hx96.le) hr92 (by omega) ⟨Nat.le_trans hrd75.len.2 hso9.ok.ar.ok.lim, Nat.le_trans hrd93.len.2 hso9.ok.ar.ok.lim⟩ hrd75.kpl hrd93.kpl) ?_
 rintro _ w109 ⟨z103, n104, b105, u106, v107, G108, rfl, hbk110, hso111, hsd112, hx113, hlu114, hlv115⟩
 refine ⟨_, rfl, ?_⟩
 have hin116 : ∀ i, inS b u4 v5 i → w.heap.size ≤ i ∨ (inS b bu bv) i := inS_lo hlob hlo22 hlo23
 have hX117 := hX97.trans hx113 hin116
 have hn118 := notS (u := u4) (v := v5) ha44 ha40 ha42
 have ha120 : Apart u28.ownBlock u106.ownBlock := ap_call hlu114 hn118 (xW hd94.ok)
 have ha121 : Apart u28.ownBlock v107.ownBlock := ap_call hlv115 hn118 (xW hd94.ok)
 have hn122 := notS (u := u4) (v := v5) ha45 ha41 ha43
 have ha124 : Apart (some b27) u106.ownBlock := ap_call hlu114 hn122 (box_lt hb101)
 have ha125 : Apart (some b27) v107.ownBlock := ap_call hlv115 hn122 (box_lt hb101)
 have hb126 := hbk110.bx
 have ho127 := hbk110.ou
 have ho128 := hbk110.ov
 have ha129 := hbk110.abu
 have ha130 := hbk110.abv
 have ha131 := hbk110.auv
 have hlo132 := qR hlu114 hin116 hX97.size
 have hlo133 := qR hlv115 hin116 hX97.size
 have hpz134 : 0 ≤ z103 ∧ z103 < n104.length := hso111.pl
 have hnl135 := hso111.len
 have hnm136 := hso111.ok.ar.ok.lim
 have hpz134l : (n104.getD (z103).toNat default).l.length ≤ 1048576 ∧ (n104.getD (z103).toNat default).r.length ≤ 1048576 := hso111.ok.ar.ok.lens (z103).toNat (show (z103).toNat < n104.length by omega)
 refine ⟨fun h => absurd (by decide) h, ?_⟩
 refine dr_oneL (i := 24) (by kernel_rfl) (drOp1L (i := 24) rfl rfl rfl (zG rfl _) (EO.run (zC (v := (.int .i64 z103)) rfl) ⟨fun h => absurd (by decide) h, ?_⟩))
 refine dr_endL (by kernel_rfl) ?_
 refine zB (zE (zF ?_))
 refine qD rfl (zA (v := (.pointer (some ⟨b, 0, none⟩))) rfl) ?_
 refine qI rfl (zN (vs := [(.pointer (some ⟨b, 0, none⟩))]) Tryz.func138 nm138 rfl rfl rfl ?_)
 refine Calls.mono (l4Of_spec hX117.pins ⟨hb126, ho127, ho128, ha129, ha130, ha131⟩ hso111.ok.ar.ok) ?_
 rintro _ w140 ⟨b137, u138, G139, rfl, hb141, ho142, hlo143, ha144, hx145⟩
 refine ⟨_, rfl, ?_⟩
 have hX146 := hX117.tr hx145
 have ho148 := ho127.ext hx145
 have ho149 := ho128.ext hx145
 have hb150 := hb126.ext hx145
 have ha154 : Apart u138.ownBlock u106.ownBlock := zT ho142.lt ho127.lt
 have ha155 : Apart (some b137) u106.ownBlock := made_box_own hlo143 ho127.lt
 have ha156 : Apart u138.ownBlock v107.ownBlock := zT ho142.lt ho128.lt
 have ha157 : Apart (some b137) v107.ownBlock := made_box_own hlo143 ho128.lt
 have ha158 : Apart u138.ownBlock (some b) := yF ho142.lt hb126.lt
 have ha159 : Apart (some b137) (some b) := made_box_box hlo143 hb126.lt
 have hlo162 := Nat.le_trans hX117.size hlo143
 have ho163 := ho142.weaken hX117.size
 have hka164 : KAll n104 (List.replicate (n104.length * n104.length) 0) := KAll.zero
 have hokN := hso111.ok.ar.ok
 have hopN := jB hso111.ok hso111.pl
 refine qD rfl (zC (v := (.pointer (some ⟨b137, 0, none⟩))) rfl) ?_
 refine qe (zB (zE (zF ?_)))
 refine qD rfl (zA (v := (.pointer (some ⟨b, 0, none⟩))) rfl) ?_
 refine qD rfl (yP rfl) ?_
 refine qD rfl (zL (k := 0) rfl Tryz.underlying102 rfl nz30 rfl) ?_
 refine qD rfl (zQ (u := u106) ag30 rfl (hb150.cell (o := 0) rfl)) ?_
 refine qD rfl (zA (v := (.int .i64 z103)) rfl) ?_
 refine qD rfl (zK Tryz.underlying30 sz99 (v := u106) rfl rfl ho148.read (by omega) (by omega)) ?_
 obtain ⟨u165, u166, hr167, hr168, hl169⟩ := jA (ho148.at (z := z103) (by omega) (by omega)) (j := (z103).toNat) rfl
 have hm170 := hr167.max
 have hm171 := hr168.max
 refine qD rfl (hl169 ag99 sz99 rfl (Gadd.pins hX146.pins u106)) ?_
 refine qI rfl (xK [(.slice none 0 0), (.slice none 0 0)] zr99 rfl hX146.pins (fun b172 w173 hk174 hb175 hp176 hl177 => ?_))
 have hX178 := hX146.step hp176 hl177
 have ho180 := ho148.below hl177
 have ho181 := ho149.below hl177
 have ho182 := ho163.below hl177
 have hb183 := hb150.below hl177
 have hb185 := hb141.below hl177
 have ha187 : Apart (some b172) u106.ownBlock := zJ (congrArg some hk174) ho148.lt
 have ha188 : Apart (some b172) v107.ownBlock := zJ (congrArg some hk174) ho149.lt
 have ha189 : Apart (some b172) u138.ownBlock := zJ (congrArg some hk174) ho163.lt
 have ha190 : Apart (some b172) (some b) := zP (congrArg some hk174) hb150.lt
 have ha192 : Apart (some b172) (some b137) := zP (congrArg some hk174) hb141.lt
 have hlo193 : w.heap.size ≤ b172 := by have := hX146.size; omega
 refine q0 rfl rfl rfl (xP (cs' := [u165, u166]) (us := [u165, u166]) (v := (.agg [u165, u166].toArray)) sz99 rfl rfl rfl (ones2 hr167.one hr168.one) hX178.pins hb175 (Nat.le_of_ble_eq_true rfl) rfl (fun w194 hb195 hp196 hg197 hz198 => ?_))
 have hX199 := hX178.write hp196 hg197 ((xI hlo193))
 have ho201 := ho180.keptA hg197 ha187.symm
 have ho202 := ho181.keptA hg197 ha188.symm
 have ho203 := ho182.keptA hg197 ha189.symm
 have hb204 := hb183.keptA hg197 ha190.symm
 have hb206 := hb185.keptA hg197 ha192.symm
 obtain ⟨G207, hle208, hX209, hbp210, hf211⟩ := hb195.shut hX199 hlo193
 have ho213 := ho201.moreA hle208 hf211 ha187.symm
 have ho214 := ho202.moreA hle208 hf211 ha188.symm
 have ho215 := ho203.moreA hle208 hf211 ha189.symm
 have hb216 := hb204.moreA hf211 ha190.symm
 have hb218 := hb206.moreA hf211 ha192.symm
 refine qe (zB (zE ?_))
 refine xE (S := fun wz => Pins G207 wz) (last := 17) (by kernel_rfl) rfl ?_
 have hl219 : Below w194.heap.size w194 w194.drew := (Below.refl _ _).drew
 have hp220 := hX209.pins.below hl219
 have hX221 := hX209.step hp220 hl219
 have ho223 := ho213.below hl219
 have ho224 := ho214.below hl219
 have ho225 := ho215.below hl219
 have hb226 := hb216.below hl219
 have hb228 := hb218.below hl219
 refine dT (i := 0) rfl rfl (by kernel_rfl) (fun _ _ => zA (v := (.pointer (some ⟨b, 0, none⟩))) rfl) hX221.pins ?_
 refine dT (i := 1) rfl rfl (by kernel_rfl) (fun _ _ => zL (k := 0) rfl Tryz.underlying99 rfl nz65 rfl) hX221.pins ?_
 refine dT (i := 2) rfl rfl (by kernel_rfl) (fun _ hS => zQ (u := u165) ag65 rfl (hS _ _ _ (hbp210 0 _ rfl))) hX221.pins ?_
 refine dT (i := 3) rfl rfl (by kernel_rfl) (fun _ _ => zA (v := (.pointer (some ⟨b137, 0, none⟩))) rfl) hX221.pins ?_
 refine dT (i := 4) rfl rfl (by kernel_rfl) (fun _ _ => zL (k := 0) rfl Tryz.underlying99 rfl nz65 rfl) hX221.pins ?_
 refine dT (i := 5) rfl rfl (by kernel_rfl) (fun _ hS => zQ (u := u165) ag65 rfl (hS _ _ _ (hbp210 0 _ rfl))) hX221.pins ?_
 refine dT (i := 8) rfl rfl (by kernel_rfl) (fun _ _ => zL (k := 1) rfl Tryz.underlying99 rfl nz65 rfl) hX221.pins ?_
 refine dT (i := 9) rfl rfl (by kernel_rfl) (fun _ hS => zQ (u := u166) ag65 rfl (hS _ _ _ (hbp210 1 _ rfl))) hX221.pins ?_
 refine dT (i := 10) rfl rfl (by kernel_rfl) (fun _ _ => zA (v := (.pointer (some ⟨b137, 0, none⟩))) rfl) hX221.pins ?_
 refine dT (i := 11) rfl rfl (by kernel_rfl) (fun _ _ => zL (k := 1) rfl Tryz.underlying99 rfl nz65 rfl) hX221.pins ?_
 refine dT (i := 12) rfl rfl (by kernel_rfl) (fun _ hS => zQ (u := u166) ag65 rfl (hS _ _ _ (hbp210 1 _ rfl))) hX221.pins ?_
 refine zV (i := 6) (by kernel_rfl) (yD (i := 6) rfl rfl rfl (zG rfl _) (zN (vs := [(.pointer (some ⟨b137, 0, none⟩)), u165, (.bool true)]) Tryz.func158 nm158 rfl rfl rfl ?_))
 refine Calls.mono (l6Dominated_spec hX221.pins ⟨⟨hb226, ho223, ho224, ha129, ha130, ha131⟩, hb228, (ho225.weaken (Nat.zero_le _)), ha144, ha158.symm, ha154.symm, ha156.symm⟩ (lf := true) (hr167.mono hle208) hpz134l.1 (xY (q := bkq n104 b105) hopN.1) hokN hka164) ?_
 rintro _ w232 ⟨u229, ks230, G231, rfl, hr233, hd234, hka235, hx236⟩
 refine ⟨_, rfl, ?_⟩
 have hX237 := hX221.trans hx236 (fun i hi => (yG ho225) i hi)
 have ho239 := ho223.extS hx236 (notO ha154.symm)
 have ho240 := ho224.extS hx236 (notO ha156.symm)
 have hb241 := hb226.extS hx236 (qE ha158.symm)
 have hb243 := hb228.extS hx236 (qE ha144)
 have hlo244 : Lo w ((inS b bu bv)) u138.ownBlock := (yG ho225)
 refine ⟨fun _ => (Pins.of_le hX237.pins hx236.le), ?_⟩
 refine zV (i := 7) (by kernel_rfl) (yD (i := 7) rfl rfl rfl (zG rfl _) (zN (vs := [u165, u229]) Tryz.func157 nm157 rfl rfl rfl ?_))
 refine Calls.mono (l6Without_spec hX237.pins (hr167.mono (Pin.le_trans hle208 hx236.le)) hr233 (by omega)) ?_
 rintro _ w247 ⟨u245, G246, rfl, ho248, hx249⟩
 refine ⟨_, rfl, ?_⟩
 have hX250 := hX237.tr hx249
 have ho252 := ho239.ext hx249
 have ho253 := ho240.ext hx249
 have ho254 := hd234.ok.ext hx249
 have hb255 := hb241.ext hx249
 have hb257 := hb243.ext hx249
 have ha259 : Apart u245.ownBlock u106.ownBlock := zT ho248.lt ho239.lt
 have ha260 : Apart u245.ownBlock v107.ownBlock := zT ho248.lt ho240.lt
 have ha261 : Apart u245.ownBlock u138.ownBlock := zT ho248.lt hd234.ok.lt
 have ha262 : Apart u245.ownBlock (some b) := yF ho248.lt hb241.lt
 have ho265 : Own eInt 3 G246 w247 w.heap.size u245 (woL ((n104.getD (z103).toNat default).l) (domL (gN n104 ((n104.getD (z103).toNat default).l)) true ((n104.getD (z103).toNat default).l).length ((n104.getD (z103).toNat default).l).length) ((n104.getD (z103).toNat default).l).length) := ho248.weaken hX237.size
 refine ⟨fun _ => (Pins.of_le hX250.pins (Pin.le_trans hx236.le hx249.le)), ?_⟩
 refine zV (i := 13) (by kernel_rfl) (yD (i := 13) rfl rfl rfl (zG rfl _) (zN (vs := [(.pointer (some ⟨b137, 0, none⟩)), u166, (.bool false)]) Tryz.func158 nm158 rfl rfl rfl ?_))
 refine Calls.mono (l6Dominated_spec hX250.pins ⟨⟨hb255, ho252, ho253, ha129, ha130, ha131⟩, hb257, ho254, ha144, ha158.symm, ha154.symm, ha156.symm⟩ (lf := false) (hr168.mono (Pin.le_trans (Pin.le_trans hle208 hx236.le) hx249.le)) hpz134l.2 (xY (q := bkq n104 b105) hopN.2) hokN hka235) ?_
 rintro _ w269 ⟨u266, ks267, G268, rfl, hr270, hd271, hka272, hx273⟩
 refine ⟨_, rfl, ?_⟩
 have hX274 := hX250.trans hx273 (fun i hi => hlo244 i hi)
 have ho276 := ho252.extS hx273 (notO ha154.symm)
 have ho277 := ho253.extS hx273 (notO ha156.symm)
 have ho278 := ho265.extS hx273 (notO ha261)
 have hb279 := hb255.extS hx273 (qE ha158.symm)
 refine ⟨fun _ => (Pins.of_le hX274.pins (Pin.le_trans (Pin.le_trans hx236.le hx249.le) hx273.le)), ?_⟩
 refine zV (i := 14) (by kernel_rfl) (yD (i := 14) rfl rfl rfl (zG rfl _) (zN (vs := [u166, u266]) Tryz.func157 nm157 rfl rfl rfl ?_))
 refine Calls.mono (l6Without_spec hX274.pins (hr168.mono (Pin.le_trans (Pin.le_trans (Pin.le_trans hle208 hx236.le) hx249.le) hx273.le)) hr270 (by omega)) ?_
 rintro _ w284 ⟨u282, G283, rfl, ho285, hx286⟩
 refine ⟨_, rfl, ?_⟩
 have hX287 := hX274.tr hx286
 have ho289 := ho276.ext hx286
 have ho290 := ho277.ext hx286
 have ho292 := ho278.ext hx286
 have hb293 := hb279.ext hx286
 have ha297 : Apart u282.ownBlock u106.ownBlock := zT ho285.lt ho276.lt
 have ha298 : Apart u282.ownBlock v107.ownBlock := zT ho285.lt ho277.lt
 have ha300 : Apart u282.ownBlock u245.ownBlock := zT ho285.lt ho278.lt
 have ha301 : Apart u282.ownBlock (some b) := yF ho285.lt hb279.lt
 have ho304 : Own eInt 3 G283 w284 w.heap.size u282 (woL ((n104.getD (z103).toNat default).r) (domL (gN n104 ((n104.getD (z103).toNat default).r)) false ((n104.getD (z103).toNat default).r).length ((n104.getD (z103).toNat default).r).length) ((n104.getD (z103).toNat default).r).length) := ho285.weaken hX274.size
 refine ⟨fun _ => (Pins.of_le hX287.pins (Pin.le_trans (Pin.le_trans (Pin.le_trans hx236.le hx249.le) hx273.le) hx286.le)), ?_⟩
 obtain ⟨G305, hle308, hX307, hr306, hf309⟩ := ho292.sealed hX287
 have ho311 := ho289.moreO hle308 hf309 ha259.symm
 have ho312 := ho290.moreO hle308 hf309 ha260.symm
 have ho314 := ho304.moreO hle308 hf309 ha300
 have hb315 := hb293.moreO hf309 ha262.symm
 obtain ⟨G318, hle321, hX320, hr319, hf322⟩ := ho314.sealed hX307
 have ho324 := ho311.moreO hle321 hf322 ha297.symm
 have ho325 := ho312.moreO hle321 hf322 ha298.symm
 have hb327 := hb315.moreO hf322 ha301.symm
 refine zV (i := 15) (by kernel_rfl) (yD (i := 15) rfl rfl rfl (zG rfl _) (zN (vs := [(.pointer (some ⟨b, 0, none⟩)), u245, u282]) Tryz.func112 nm112 rfl rfl rfl ?_))
 refine Calls.mono (put6_spec hX320.pins ⟨hb327, ho324, ho325, ha129, ha130, ha131⟩ hso111.ok (hr306.mono hle321) hr319 (by omega) ⟨Nat.le_trans (wo_len _) hpz134l.1, Nat.le_trans (wo_len _) hpz134l.2⟩ (wo_pl (lf := true) (t := z103) hso111.ok hso111.pl) (wo_pl (lf := false) (t := z103) hso111.ok hso111.pl)) ?_
 rintro _ w336 ⟨z330, n331, b332, u333, v334, G335, rfl, hbk337, hso338, hsd339, hx340, hlu341, hlv342⟩
 refine ⟨_, rfl, ?_⟩
 have hin343 : ∀ i, inS b u106 v107 i → w.heap.size ≤ i ∨ (inS b bu bv) i := inS_lo hlob hlo132 hlo133
 have hX344 := hX320.trans hx340 hin343
 have hn345 := notS (u := u106) (v := v107) ha44 ha120 ha121
 have hn349 := notS (u := u106) (v := v107) ha158 ha154 ha156
 have hn353 := notS (u := u106) (v := v107) ha45 ha124 ha125
 have hn357 := notS (u := u106) (v := v107) ha159 ha155 ha157
 have hb361 := hbk337.bx
 have ho362 := hbk337.ou
 have ho363 := hbk337.ov
 have ha364 := hbk337.abu
 have ha365 := hbk337.abv
 have ha366 := hbk337.auv
 have hlo367 := qR hlu341 hin343 hX320.size
 have hlo368 := qR hlv342 hin343 hX320.size
 have hpz369 : 0 ≤ z330 ∧ z330 < n331.length := hso338.pl
 have hnl370 := hso338.len
 have hnm371 := hso338.ok.ar.ok.lim
 have hpz369l : (n331.getD (z330).toNat default).l.length ≤ 1048576 ∧ (n331.getD (z330).toNat default).r.length ≤ 1048576 := hso338.ok.ar.ok.lens (z330).toNat (show (z330).toNat < n331.length by omega)
 refine ⟨fun _ => (Pins.of_le hX344.pins (Pin.le_trans (Pin.le_trans (Pin.le_trans (Pin.le_trans (Pin.le_trans (Pin.le_trans hx236.le hx249.le) hx273.le) hx286.le) hle308) hle321) hx340.le)), ?_⟩
 refine dT (i := 16) rfl rfl (by kernel_rfl) (fun _ _ => zC (v := (.int .i64 z330)) rfl) (Pins.of_le hX344.pins (Pin.le_trans (Pin.le_trans (Pin.le_trans (Pin.le_trans (Pin.le_trans (Pin.le_trans hx236.le hx249.le) hx273.le) hx286.le) hle308) hle321) hx340.le)) ?_
 refine yT (by kernel_rfl) ?_
 refine zB ?_
 refine wp_ret ?_
 refine zW ?_
 refine zS (v := (.int .i64 z330)) rfl rfl rfl ?_
 have hcn := can_node hso111.ok hrd75 hrd93 hso111.pl hsd112 hsd339
 rw [show den n2 (z1).toNat = _ from hsd10] at hcn
 exact ⟨_, _, _, u333, v334, _, rfl, ⟨hb361, ho362, ho363, ha364, ha365, ha366⟩, ⟨hso338.ok, hso9.px.trans (hso111.px.trans hso338.px), hso338.pl, (by omega)⟩, hcn, hX344, hlo367, hlo368⟩

end C62
end Go.Proofs.YtfnginkcmcfdfaaGreatDoor

set_option maxRecDepth 20000
set_option maxHeartbeats 2000000
namespace Go.Proofs.YtfnginkcmcfdfaaGreatDoor
namespace C63
open Go.RowKit Go.GL Go.Proofs
open Go.Proofs.YtfnginkcmcfdfaaGreatDoor.B1
open Go.Proofs.YtfnginkcmcfdfaaGreatDoor.C1
open Go.Proofs.YtfnginkcmcfdfaaGreatDoor.D1
open Go.Proofs.YtfnginkcmcfdfaaGreatDoor.E1
open Go.Proofs.YtfnginkcmcfdfaaGreatDoor.OR1
open Go.Proofs.YtfnginkcmcfdfaaGreatDoor.C61
open Go.Proofs.YtfnginkcmcfdfaaGreatDoor.C62










theorem pl102 : (Tryz.prog.underlying 102).bind (placesD Tryz.prog) = some [(0, 1), (1, 1)] := by kernel_rfl






theorem l6Canon_spec {w : World} {G : Pin} {v : Value} {fs : List Nd} (hP : Pins G w) (hv : RSl eNode G v fs) (hf : FormOk fs) (h1 : 1 ≤ fs.length ∧ fs.length ≤ 300000) :
  Calls Tryz.prog 71 [(.agg [v].toArray)].toArray w fun e w' => ∃ (c : Nat) (u : Value) (G' : Pin), e = .returned (.agg [u].toArray) ∧ CanonG c ∧ eqG c (gOf fs) ∧ IsForm c (formG c) ∧ RSl eNode G' u (formG c) ∧ Ext noS G w G' w' := by
 refine yE (n := 45) Tryz.func71 Tryz.ntmps71 rfl rfl ?_
 have hX0 : Ext noS G w G w := Ext.refl hP
 have hm := hv.max
 refine zE (zF ?_)
 refine qI rfl (qC [v] (v := (.agg [v].toArray)) rfl rfl hX0.pins (fun b1 w2 hk3 hb4 hp5 hl6 => ?_))
 have hX7 := hX0.step hp5 hl6
 have hlo8 : w.heap.size ≤ b1 := by have := hX0.size; omega
 obtain ⟨G9, hle10, hX11, hbp12, hf13⟩ := hb4.shut hX7 hlo8
 refine qI rfl (xK [(.slice none 0 0)] zr32 rfl hX11.pins (fun b14 w15 hk16 hb17 hp18 hl19 => ?_))
 have hX20 := hX11.step hp18 hl19
 have hlo21 : w.heap.size ≤ b14 := by have := hX11.size; omega
 refine qe (zB (zE (zF ?_)))
 refine qD rfl (qV [(.slice none 0 0), (.slice none 0 0)] [(.slice none 0 0), (.slice none 0 0)] [] Tryz.underlying102 zr102 rfl pl102 rfl (fun _ h => by cases h) rfl) ?_
 refine qI rfl (qC [(.slice none 0 0), (.slice none 0 0)] (v := (.agg [(.slice none 0 0), (.slice none 0 0)].toArray)) rfl rfl hX20.pins (fun b22 w23 hk24 hb25 hp26 hl27 => ?_))
 have hX28 := hX20.step hp26 hl27
 have hb29 := hb17.below hl27
 have ha30 : Apart (some b22) (some b14) := zP (congrArg some hk24) hb17.lt
 have hlo31 : w.heap.size ≤ b22 := by have := hX20.size; omega
 refine qD rfl (zC (v := (.pointer (some ⟨b22, 0, none⟩))) rfl) ?_
 refine qe (zB (zE (zF ?_)))
 refine qI rfl (yX (E := eInt) (e := 3) Tryz.underlying65 sz3 hX28.pins (fun u32 w33 ho34 hp35 hl36 hk37 => ?_))
 have hX38 := hX28.step hp35 hl36
 have hb39 := hb29.below hl36
 have hb40 := hb25.below hl36
 have ha41 : Apart u32.ownBlock (some b14) := zP hk37 hb29.lt
 have ha42 : Apart u32.ownBlock (some b22) := zP hk37 hb25.lt
 have ho43 : Own eInt 3 G9 w33 w.heap.size u32 ([]) := ho34.weaken hX28.size
 refine qD rfl (zC (v := u32) rfl) ?_
 refine qe (zB (zE (zE (zF ?_))))
 refine qD rfl (zC (v := (.int .i64 0)) rfl) ?_
 refine qe (zB ?_)
 refine yB ?_
 refine yM (fun (k : Nat) (en : Nat → Value) (W : World) => ∃ (env1 : Nat → Value) (k5 : Nat) (atB : Value) (atsB : List Int) (uB : Value) (vB : Value) (nsB : List Nd) (bsB : List Int) (GL1 : Pin), en = (upd (upd (upd (upd (upd env1 1 (.pointer (some ⟨b1, 0, none⟩))) 2 (.pointer (some ⟨b14, 0, none⟩))) 3 (.pointer (some ⟨b22, 0, none⟩))) 4 atB) 5 (.int .i64 (k5 : Int))) ∧ k = fs.length - k5 ∧ Ext noS G w GL1 W ∧ Pin.le G9 GL1 ∧ (k5 ≤ fs.length) ∧ (PoolOk (bkq nsB bsB)) ∧ (CnOk (bkq nsB bsB) atsB k5 fs) ∧ (nsB.length ≤ 3 * k5) ∧ (Own eInt 3 GL1 W w.heap.size atB (atsB)) ∧ (Own eNode 99 GL1 W 0 uB (nsB)) ∧ (Own eInt 3 GL1 W 0 vB (bsB)) ∧ (Bx GL1 W b14 [(.slice none 0 0)]) ∧ (Bx GL1 W b22 [uB, vB]) ∧ (Apart atB.ownBlock uB.ownBlock) ∧ (Apart atB.ownBlock vB.ownBlock) ∧ (Apart atB.ownBlock (some b14)) ∧ (Apart atB.ownBlock (some b22)) ∧ (Apart uB.ownBlock vB.ownBlock) ∧ (Apart uB.ownBlock (some b14)) ∧ (Apart uB.ownBlock (some b22)) ∧ (Apart vB.ownBlock (some b14)) ∧ (Apart vB.ownBlock (some b22)) ∧ (Lo w noS uB.ownBlock) ∧ (Lo w noS vB.ownBlock)) _ ⟨_, 0, u32, [], (.slice none 0 0), (.slice none 0 0), [], [], G9, (zD (x := 5) (zD (x := 4) (zD (x := 3) (zD (x := 2) (zR (x := 1) rfl) rfl) rfl) rfl) rfl), rfl, hX38, Pin.le_refl _, Nat.zero_le _, (bkq_ok Ar.empty), CnOk.start, Nat.le_refl 0, ho43, (Own.nil _ _ _ _ _), (Own.nil _ _ _ _ _), hb39, hb40, apart_none.symm, apart_none.symm, ha41, ha42, apart_none, apart_none, apart_none, apart_none, apart_none, (lo_none _ _), (lo_none _ _)⟩ ?_
 rintro k44 _ w45 ⟨env1, k5, atB, atsB, uB, vB, nsB, bsB, GL1, rfl, hk46, hX47, hlek44, hk5, hpoB, hcn, hblB, hw48, hw49, hw50, hw51, hw52, ha53, ha54, ha55, ha56, ha57, ha58, ha59, ha60, ha61, hlo62, hlo63⟩
 have hcl := hcn.len
 refine zE (zE (zF ?_))
 refine qD rfl (zA (v := (.int .i64 (k5 : Int))) rfl) ?_
 refine qD rfl (zL (k := 0) rfl Tryz.underlying32 rfl nz30 rfl) ?_
 refine qD rfl (zQ (u := v) ag30 rfl ((Pins.of_le hX47.pins hlek44) _ _ _ (hbp12 0 _ rfl))) ?_
 refine qD rfl (zO Tryz.underlying30 (v := v) rfl hv) ?_
 refine qD rfl (yO rfl rfl) ?_
 refine qe (zB ?_)
 refine yH (p := ((k5 : Int) : Int) < (fs.length : Int)) rfl rfl (fun h64 => ?_) (fun h64 => ?_)
 ·skip
  have oo := xG hf.opts (show k5 < fs.length by omega)
  have hfe := hf.lens k5 (by omega)
  have hil : ∀ i, i < (fs.getD k5 default).l.length → 0 ≤ (fs.getD k5 default).l.getD i 0 ∧ (fs.getD k5 default).l.getD i 0 < atsB.length := fun i hi => by have h := oo.1 _ (yL (d := (0 : Int)) hi); omega
  have hir : ∀ i, i < (fs.getD k5 default).r.length → 0 ≤ (fs.getD k5 default).r.getD i 0 ∧ (fs.getD k5 default).r.getD i 0 < atsB.length := fun i hi => by have h := oo.2 _ (yL (d := (0 : Int)) hi); omega
  refine wp_skip ?_
  refine zB (zE ?_)
  refine yB ?_
  refine xE (S := fun wz => Pins GL1 wz) (last := 22) (by kernel_rfl) rfl ?_
  have hl65 : Below w45.heap.size w45 w45.drew := (Below.refl _ _).drew
  have hp66 := hX47.pins.below hl65
  have hX67 := hX47.step hp66 hl65
  have ho68 := hw48.below hl65
  have ho69 := hw49.below hl65
  have ho70 := hw50.below hl65
  have hb71 := hw51.below hl65
  have hb72 := hw52.below hl65
  refine dT (i := 0) rfl rfl (by kernel_rfl) (fun _ _ => zA (v := atB) rfl) hX67.pins ?_
  refine dT (i := 1) rfl rfl (by kernel_rfl) (fun _ _ => zA (v := (.pointer (some ⟨b22, 0, none⟩))) rfl) hX67.pins ?_
  refine dT (i := 2) rfl rfl (by kernel_rfl) (fun _ _ => zA (v := atB) rfl) hX67.pins ?_
  refine dT (i := 3) rfl rfl (by kernel_rfl) (fun _ _ => zL (k := 0) rfl Tryz.underlying32 rfl nz30 rfl) hX67.pins ?_
  refine dT (i := 4) rfl rfl (by kernel_rfl) (fun _ hS => zQ (u := v) ag30 rfl ((Pins.of_le hS hlek44) _ _ _ (hbp12 0 _ rfl))) hX67.pins ?_
  refine dT (i := 5) rfl rfl (by kernel_rfl) (fun _ _ => zA (v := (.int .i64 (k5 : Int))) rfl) hX67.pins ?_
  refine dT (i := 6) rfl rfl (by kernel_rfl) (fun _ _ => zK Tryz.underlying30 sz99 (v := v) rfl rfl hv (by omega) (by omega)) hX67.pins ?_
  refine dT (i := 7) rfl rfl (by kernel_rfl) (fun _ _ => xD (off := 0) Tryz.underlying99 rfl rfl nz65 (z := (k5 : Int)) (k := 0) rfl hv (by omega) (by omega)) hX67.pins ?_
  obtain ⟨u73, hr74, hl75⟩ := nm_nl (hv.at (z := (k5 : Int)) (by omega) (by omega)) (j := k5) rfl
  have hm76 := hr74.max
  refine dT (i := 8) rfl rfl (by kernel_rfl) (fun _ hS => hl75 ag65 rfl (Pins.of_le hS (Pin.le_trans hle10 hlek44))) hX67.pins ?_
  refine dT (i := 10) rfl rfl (by kernel_rfl) (fun _ _ => zA (v := atB) rfl) hX67.pins ?_
  refine dT (i := 11) rfl rfl (by kernel_rfl) (fun _ _ => zL (k := 0) rfl Tryz.underlying32 rfl nz30 rfl) hX67.pins ?_
  refine dT (i := 12) rfl rfl (by kernel_rfl) (fun _ hS => zQ (u := v) ag30 rfl ((Pins.of_le hS hlek44) _ _ _ (hbp12 0 _ rfl))) hX67.pins ?_
  refine dT (i := 13) rfl rfl (by kernel_rfl) (fun _ _ => zA (v := (.int .i64 (k5 : Int))) rfl) hX67.pins ?_
  refine dT (i := 14) rfl rfl (by kernel_rfl) (fun _ _ => zK Tryz.underlying30 sz99 (v := v) rfl rfl hv (by omega) (by omega)) hX67.pins ?_
  refine dT (i := 15) rfl rfl (by kernel_rfl) (fun _ _ => xD (off := 1) Tryz.underlying99 rfl rfl nz65 (z := (k5 : Int)) (k := 0) rfl hv (by omega) (by omega)) hX67.pins ?_
  obtain ⟨u77, hr78, hl79⟩ := nm_nr (hv.at (z := (k5 : Int)) (by omega) (by omega)) (j := k5) rfl
  have hm80 := hr78.max
  refine dT (i := 16) rfl rfl (by kernel_rfl) (fun _ hS => hl79 ag65 rfl (Pins.of_le hS (Pin.le_trans hle10 hlek44))) hX67.pins ?_
  refine zV (i := 9) (by kernel_rfl) (yD (i := 9) rfl rfl rfl (zG rfl _) (zN (vs := [atB, u73]) Tryz.func127 nm127 rfl rfl rfl ?_))
  refine Calls.mono (qN hX67.pins (Gadd.pins hX67.pins atB) ho68.read (hr74.mono (Pin.le_trans hle10 hlek44)) (by omega) hil) ?_
  rintro _ w83 ⟨u81, G82, rfl, ho84, hx85⟩
  refine ⟨_, rfl, ?_⟩
  have hX86 := hX67.tr hx85
  have ho87 := ho68.ext hx85
  have ho88 := ho69.ext hx85
  have ho89 := ho70.ext hx85
  have hb90 := hb71.ext hx85
  have hb91 := hb72.ext hx85
  have ha92 : Apart u81.ownBlock atB.ownBlock := zT ho84.lt ho68.lt
  have ha93 : Apart u81.ownBlock uB.ownBlock := zT ho84.lt ho69.lt
  have ha94 : Apart u81.ownBlock vB.ownBlock := zT ho84.lt ho70.lt
  have ha95 : Apart u81.ownBlock (some b14) := yF ho84.lt hb71.lt
  have ha96 : Apart u81.ownBlock (some b22) := yF ho84.lt hb72.lt
  have ho97 : Own eInt 3 G82 w83 w.heap.size u81 (atL atsB ((fs.getD k5 default).l)) := ho84.weaken hX67.size
  refine ⟨fun _ => (Pins.of_le hX86.pins hx85.le), ?_⟩
  refine zV (i := 17) (by kernel_rfl) (yD (i := 17) rfl rfl rfl (zG rfl _) (zN (vs := [atB, u77]) Tryz.func127 nm127 rfl rfl rfl ?_))
  refine Calls.mono (qN hX86.pins (Gadd.pins hX86.pins atB) ho87.read (hr78.mono (Pin.le_trans (Pin.le_trans hle10 hlek44) hx85.le)) (by omega) hir) ?_
  rintro _ w100 ⟨u98, G99, rfl, ho101, hx102⟩
  refine ⟨_, rfl, ?_⟩
  have hX103 := hX86.tr hx102
  have ho104 := ho87.ext hx102
  have ho105 := ho88.ext hx102
  have ho106 := ho89.ext hx102
  have ho107 := ho97.ext hx102
  have hb108 := hb90.ext hx102
  have hb109 := hb91.ext hx102
  have ha110 : Apart u98.ownBlock atB.ownBlock := zT ho101.lt ho87.lt
  have ha111 : Apart u98.ownBlock uB.ownBlock := zT ho101.lt ho88.lt
  have ha112 : Apart u98.ownBlock vB.ownBlock := zT ho101.lt ho89.lt
  have ha113 : Apart u98.ownBlock u81.ownBlock := zT ho101.lt ho97.lt
  have ha114 : Apart u98.ownBlock (some b14) := yF ho101.lt hb90.lt
  have ha115 : Apart u98.ownBlock (some b22) := yF ho101.lt hb91.lt
  have ho116 : Own eInt 3 G99 w100 w.heap.size u98 (atL atsB ((fs.getD k5 default).r)) := ho101.weaken hX86.size
  refine ⟨fun _ => (Pins.of_le hX103.pins (Pin.le_trans hx85.le hx102.le)), ?_⟩
  obtain ⟨G117, hle120, hX119, hr118, hf121⟩ := ho107.sealed hX103
  have ho122 := ho104.moreO hle120 hf121 ha92.symm
  have ho123 := ho105.moreO hle120 hf121 ha93.symm
  have ho124 := ho106.moreO hle120 hf121 ha94.symm
  have ho125 := ho116.moreO hle120 hf121 ha113
  have hb126 := hb108.moreO hf121 ha95.symm
  have hb127 := hb109.moreO hf121 ha96.symm
  obtain ⟨G128, hle131, hX130, hr129, hf132⟩ := ho125.sealed hX119
  have ho133 := ho122.moreO hle131 hf132 ha110.symm
  have ho134 := ho123.moreO hle131 hf132 ha111.symm
  have ho135 := ho124.moreO hle131 hf132 ha112.symm
  have hb136 := hb126.moreO hf132 ha114.symm
  have hb137 := hb127.moreO hf132 ha115.symm
  refine zV (i := 18) (by kernel_rfl) (yD (i := 18) rfl rfl rfl (zG rfl _) (zN (vs := [(.pointer (some ⟨b22, 0, none⟩)), u81, u98]) Tryz.func126 nm126 rfl rfl rfl ?_))
  refine Calls.mono (l6Node_spec hX130.pins ⟨hb137, ho134, ho135, ha59.symm, ha61.symm, ha57⟩ hpoB (hr118.mono hle131) hr129 (by omega) ⟨by rw [xC]; omega, by rw [xC]; omega⟩ (hcn.pl oo.1) (hcn.pl oo.2)) ?_
  rintro _ w144 ⟨z138, n139, b140, u141, v142, G143, rfl, hbk145, hso146, hsd147, hx148, hlu149, hlv150⟩
  refine ⟨_, rfl, ?_⟩
  have hin151 : ∀ i, inS b22 uB vB i → w.heap.size ≤ i ∨ noS i := inS_lo (xI hlo31) hlo62 hlo63
  have hX152 := hX130.trans hx148 hin151
  have hn153 := notS (u := uB) (v := vB) ha56 ha53 ha54
  have ho154 := ho133.extS hx148 hn153
  have ha155 : Apart atB.ownBlock u141.ownBlock := ap_call hlu149 hn153 (xW ho133)
  have ha156 : Apart atB.ownBlock v142.ownBlock := ap_call hlv150 hn153 (xW ho133)
  have hn157 := notS (u := uB) (v := vB) ha30.symm ha58.symm ha60.symm
  have ho158 := hb136.extS hx148 (notSb hn157)
  have ha159 : Apart (some b14) u141.ownBlock := ap_call hlu149 hn157 (box_lt hb136)
  have ha160 : Apart (some b14) v142.ownBlock := ap_call hlv150 hn157 (box_lt hb136)
  have hb161 := hbk145.bx
  have ho162 := hbk145.ou
  have ho163 := hbk145.ov
  have ha164 := hbk145.abu
  have ha165 := hbk145.abv
  have ha166 := hbk145.auv
  have hlo167 := qR hlu149 hin151 hX130.size
  have hlo168 := qR hlv150 hin151 hX130.size
  have hpz169 : 0 ≤ z138 ∧ z138 < n139.length := hso146.pl
  have hnl170 := hso146.len
  have hnm171 := hso146.ok.ar.ok.lim
  have hpz169l : (n139.getD (z138).toNat default).l.length ≤ 1048576 ∧ (n139.getD (z138).toNat default).r.length ≤ 1048576 := hso146.ok.ar.ok.lens (z138).toNat (show (z138).toNat < n139.length by omega)
  refine ⟨fun _ => (Pins.of_le hX152.pins (Pin.le_trans (Pin.le_trans (Pin.le_trans (Pin.le_trans hx85.le hx102.le) hle120) hle131) hx148.le)), ?_⟩
  refine zV (i := 19) (by kernel_rfl) (yD (i := 19) rfl rfl rfl (zG rfl _) (yQ (E := eInt) (e := 3) [(.int .i64 z138)] [z138] Tryz.underlying65 sz3 zr3 (by exact xL (by rfl)) (xA (by rfl)) rfl rfl rfl rfl (by decide) hX152.pins (fun u172 w173 ho174 hp175 hl176 hk177 => ?_)))
  have hX178 := hX152.step hp175 hl176
  have ho179 := ho154.below hl176
  have ho180 := ho162.below hl176
  have ho181 := ho163.below hl176
  have hb182 := ho158.below hl176
  have hb183 := hb161.below hl176
  have ho189 : Own eInt 3 G143 w173 w.heap.size u172 ([z138]) := ho174.weaken hX152.size
  refine ⟨fun _ => (Pins.of_le hX178.pins (Pin.le_trans (Pin.le_trans (Pin.le_trans (Pin.le_trans hx85.le hx102.le) hle120) hle131) hx148.le)), ?_⟩
  refine zV (i := 20) (by kernel_rfl) (yD (i := 20) rfl rfl rfl (zG rfl _) (zX (E := eInt) (v := atB) (u := u172) 8 Tryz.underlying65 ap3 (by decide) rfl rfl hX178.pins ho179 ho189.src (by first | omega | (rw [List.nil_append]; omega) | (rw [List.length_nil]; omega) | (rw [List.length_append]; omega) | (simp; done) | (simp; omega) | (simp only [List.length_append, List.length_cons, List.length_nil]; omega)) (by first | omega | (rw [List.nil_append]; omega) | (rw [List.length_nil]; omega) | (rw [List.length_append]; omega) | (simp; done) | (simp; omega) | (simp only [List.length_append, List.length_cons, List.length_nil]; omega)) (hX178.size) (fun u190 w191 ho192 hp193 hg194 hw195 => ?_)))
  have hX196 := hX178.write hp193 hg194 ((yG ho179))
  have ho197 := ho180.keptA hg194 ha155.symm
  have ho198 := ho181.keptA hg194 ha156.symm
  have hb200 := hb182.keptA hg194 ha55.symm
  have hb201 := hb183.keptA hg194 ha56.symm
  have ha202 : Apart u141.ownBlock u190.ownBlock := zH ha155.symm hw195 ho180.lt
  have ha203 : Apart v142.ownBlock u190.ownBlock := zH ha156.symm hw195 ho181.lt
  have ha205 : Apart (some b14) u190.ownBlock := zM ha55.symm hw195 hb182.lt
  have ha206 : Apart (some b22) u190.ownBlock := zM ha56.symm hw195 hb183.lt
  have hm207 : (atsB ++ ([z138])).length = atsB.length + 1 := List.length_append
  refine ⟨fun _ => (Pins.of_le hX196.pins (Pin.le_trans (Pin.le_trans (Pin.le_trans (Pin.le_trans hx85.le hx102.le) hle120) hle131) hx148.le)), ?_⟩
  refine dT (i := 21) rfl rfl (by kernel_rfl) (fun _ _ => zC (v := u190) rfl) (Pins.of_le hX196.pins (Pin.le_trans (Pin.le_trans (Pin.le_trans (Pin.le_trans hx85.le hx102.le) hle120) hle131) hx148.le)) ?_
  refine yT (by kernel_rfl) ?_
  refine yC ?_
  refine zB (zF ?_)
  refine qD rfl (zA (v := (.int .i64 (k5 : Int))) rfl) ?_
  refine qD rfl (yJ rfl rfl (by omega)) ?_
  refine qD rfl (zC (v := (.int .i64 ((k5 : Int) + 1))) rfl) ?_
  refine qe ?_
  refine yA ?_
  refine ⟨_, ?_, _, rfl, _, k5 + 1, u190, atsB ++ ([z138]), u141, v142, n139, b140, G143, (zD (x := 5) (zD (x := 4) (zD (x := 3) (zD (x := 2) (zR (x := 1) rfl) rfl) rfl) rfl) rfl), rfl, hX196, (Pin.le_trans (Pin.le_trans (Pin.le_trans (Pin.le_trans (Pin.le_trans hlek44 hx85.le) hx102.le) hle120) hle131) hx148.le), (by omega), hso146.ok, (hcn.step hso146.px hpoB hso146.ok hso146.pl hsd147.1 (hsd147.2.trans (hcn.node hf.opts (by omega)))), (by have := hso146.len; omega), ho192, ho197, ho198, hb200, hb201, ha202.symm, ha203.symm, ha205.symm, ha206.symm, ha166, ha159.symm, ha164.symm, ha160.symm, ha165.symm, hlo167, hlo168⟩
  omega
 refine wp_exit ?_
 refine zZ ?_
 refine yK ?_
 refine yI ?_
 refine zB (zE (zF ?_))
 have hkn : k5 = fs.length := by omega
 have hrt := hcn.at_ (fs.length - 1) (by omega)
 rw [show fs.length - 1 = ((atsB.length : Int) - 1).toNat by omega] at hrt
 have hgo : den fs ((atsB.length : Int) - 1).toNat = gOf fs := by unfold gOf; rw [show ((atsB.length : Int) - 1).toNat = fs.length - 1 by omega]
 rw [hgo] at hrt
 refine qD rfl (zA (v := (.pointer (some ⟨b22, 0, none⟩))) rfl) ?_
 refine qD rfl (zA (v := atB) rfl) ?_
 refine qD rfl (zA (v := atB) rfl) ?_
 refine qD rfl (zO Tryz.underlying65 (v := atB) rfl hw48.read) ?_
 refine qD rfl (qQ rfl rfl (by omega)) ?_
 refine qD rfl (zK Tryz.underlying65 sz3 (v := atB) rfl rfl hw48.read (by omega) (by omega)) ?_
 refine qD rfl (zI (r := atsB.getD ((atsB.length : Int) - 1).toNat 0) rfl ag3 (z := ((atsB.length : Int) - 1)) rfl hw48.read (Gadd.pins hX47.pins atB) (by omega) (by omega)) ?_
 refine qI rfl (zN (vs := [(.pointer (some ⟨b22, 0, none⟩)), (.int .i64 (atsB.getD ((atsB.length : Int) - 1).toNat 0))]) Tryz.func90 nm90 rfl rfl rfl ?_)
 refine Calls.mono (form_spec hX47.pins ⟨hw52, hw49, hw50, ha59.symm, ha61.symm, ha57⟩ hpoB.ar.ok hrt.1) ?_
 rintro _ w210 ⟨u208, G209, rfl, hr211, hx212⟩
 refine ⟨_, rfl, ?_⟩
 have hX213 := hX47.tr hx212
 have hb217 := hw51.ext hx212
 refine q0 rfl rfl rfl (xP (cs' := [u208]) (us := [u208]) (v := (.agg [u208].toArray)) sz32 rfl rfl rfl (xA hr211.one) hX213.pins hb217 (Nat.le_of_ble_eq_true rfl) rfl (fun w219 hb220 hp221 hg222 hz223 => ?_))
 have hX224 := hX213.write hp221 hg222 ((xI hlo21))
 refine qe (zB ?_)
 refine wp_ret ?_
 refine zW ?_
 refine c_retc (cs := [u208]) rfl rfl rfl ag32 sz32 (fun j u hj => by rw [Nat.zero_add]; exact hb220.cell hj) ?_
 exact ⟨_, _, _, rfl, hrt.2.1, hrt.2.2, form_is hpoB hrt.1, (by rw [← book_form hpoB hrt.1]; exact hr211), hX224⟩

end C63
end Go.Proofs.YtfnginkcmcfdfaaGreatDoor

set_option maxRecDepth 20000
set_option maxHeartbeats 2000000
namespace Go.Proofs.YtfnginkcmcfdfaaGreatDoor
namespace ST3
open Go.RowKit Go.GL Go.Proofs
open Go.Proofs.YtfnginkcmcfdfaaGreatDoor.B1
open Go.Proofs.YtfnginkcmcfdfaaGreatDoor.C1
open Go.Proofs.YtfnginkcmcfdfaaGreatDoor.D1
open Go.Proofs.YtfnginkcmcfdfaaGreatDoor.E1






theorem pl32 : (Tryz.prog.underlying 32).bind (placesD Tryz.prog) = some [(0, 1)] := by kernel_rfl
theorem pl99 : (Tryz.prog.underlying 99).bind (placesD Tryz.prog) = some [(0, 1), (1, 1)] := by kernel_rfl







theorem l1Own_spec {w : World} {G : Pin} {v : Value} {xs : List Int} (hP : Pins G w) (hv : RSl eInt G v xs) (hs : xs.length ≤ 1048576) :
  Calls Tryz.prog 155 [v].toArray w fun e w' => ∃ (u : Value) (G' : Pin), e = .returned u ∧ Own eInt 3 G' w' w.heap.size u xs ∧ Ext noS G w G' w' := by
 refine yE (n := 6) Tryz.func155 Tryz.ntmps155 rfl rfl ?_
 have hX0 : Ext noS G w G w := Ext.refl hP
 refine zE (zF ?_)
 refine qD rfl (zC (v := (.slice none 0 0)) rfl) ?_
 refine qe (zB (zE (zF ?_)))
 refine qI rfl (yX (E := eInt) (e := 3) Tryz.underlying65 sz3 hX0.pins (fun u1 w2 ho3 hp4 hl5 hk6 => ?_))
 have hX7 := hX0.step hp4 hl5
 have ho8 : Own eInt 3 G w2 w.heap.size u1 ([]) := ho3.weaken hX0.size
 refine qD rfl (zA (v := v) rfl) ?_
 refine qI rfl (zX (E := eInt) (v := u1) (u := v) 8 Tryz.underlying65 ap3 (by decide) rfl rfl hX7.pins ho8 ((hv.mono (Pin.le_refl _)).src hX7.pins (by decide)) (by first | omega | (rw [List.nil_append]; omega) | (rw [List.length_nil]; omega) | (rw [List.length_append]; omega) | (simp; done) | (simp; omega) | (simp only [List.length_append, List.length_cons, List.length_nil]; omega)) (by first | omega | (rw [List.nil_append]; omega) | (rw [List.length_nil]; omega) | (rw [List.length_append]; omega) | (simp; done) | (simp; omega) | (simp only [List.length_append, List.length_cons, List.length_nil]; omega)) (hX7.size) (fun u9 w10 ho11 hp12 hg13 hw14 => ?_))
 have hX15 := hX7.write hp12 hg13 ((yG ho8))
 have hm16 : (([]) ++ xs).length = ([]).length + xs.length := List.length_append
 refine qD rfl (zC (v := u9) rfl) ?_
 refine qe (zB ?_)
 refine wp_ret ?_
 refine zW ?_
 refine zS (v := u9) rfl rfl rfl ?_
 exact ⟨_, _, rfl, (by simpa using ho11), hX15⟩

theorem l1OwnO_spec {w : World} {G : Pin} {base : Nat} {v : Value} {xs : List Int} (hP : Pins G w) (hv : Own eInt 3 G w base v xs) (hs : xs.length ≤ 1048576) :
  Calls Tryz.prog 155 [v].toArray w fun e w' => ∃ (u : Value) (G' : Pin), e = .returned u ∧ Own eInt 3 G' w' w.heap.size u xs ∧ Ext noS G w G' w' := by
 have hP2 := Gadd.pins hP v
 refine (l1Own_spec hP2 hv.read (by omega)).mono ?_
 rintro e w' ⟨u, G', rfl, ho, hx⟩
 exact ⟨u, G, rfl, ho.anti flat_int (Pin.le_trans (Gadd.le _ _ _) hx.le), deep_back hP hx⟩

theorem l8Star_spec {w : World} {G : Pin} {n : Nat} (hP : Pins G w) (hn : n ≤ 1000) :
  Calls Tryz.prog 125 [(.int .i64 (n : Int))].toArray w fun e w' => ∃ (u : Value) (G' : Pin), e = .returned (.agg [u].toArray) ∧ RSl eNode G' u (starF n) ∧ Ext noS G w G' w' := by
 refine yE (n := 29) Tryz.func125 Tryz.ntmps125 rfl rfl ?_
 have hX0 : Ext noS G w G w := Ext.refl hP
 refine zE (zF ?_)
 refine qI rfl (xK [(.slice none 0 0)] zr32 rfl hX0.pins (fun b1 w2 hk3 hb4 hp5 hl6 => ?_))
 have hX7 := hX0.step hp5 hl6
 have hlo8 : w.heap.size ≤ b1 := by have := hX0.size; omega
 refine qe (zB (zE (zF ?_)))
 refine qI rfl (yX (E := eNode) (e := 99) Tryz.underlying30 sz99 hX7.pins (fun u9 w10 ho11 hp12 hl13 hk14 => ?_))
 have hX15 := hX7.step hp12 hl13
 have hb16 := hb4.below hl13
 have ha17 : Apart u9.ownBlock (some b1) := zP hk14 hb4.lt
 have ho18 : Own eNode 99 G w10 w.heap.size u9 ([]) := ho11.weaken hX7.size
 refine qD rfl (qV [(.slice none 0 0)] [u9] [(0, u9, [u9])] Tryz.underlying32 zr32 rfl pl32 rfl (List.forall_mem_cons.2 ⟨(xH ho18.one), (fun _ h => by cases h)⟩) rfl) ?_
 refine qI rfl (xK [(.slice none 0 0)] zr32 rfl hX15.pins (fun b19 w20 hk21 hb22 hp23 hl24 => ?_))
 have hX25 := hX15.step hp23 hl24
 have ho26 := ho18.below hl24
 have hb27 := hb16.below hl24
 have ha28 : Apart (some b19) u9.ownBlock := zJ (congrArg some hk21) ho18.lt
 have ha29 : Apart (some b19) (some b1) := zP (congrArg some hk21) hb16.lt
 have hlo30 : w.heap.size ≤ b19 := by have := hX15.size; omega
 refine q0 rfl rfl rfl (xP (cs' := [u9]) (us := [u9]) (v := (.agg [u9].toArray)) sz32 rfl rfl rfl (xA ho26.one) hX25.pins hb22 (Nat.le_of_ble_eq_true rfl) rfl (fun w31 hb32 hp33 hg34 hz35 => ?_))
 have hX36 := hX25.write hp33 hg34 ((xI hlo30))
 have ho37 := ho26.keptA hg34 ha28.symm
 have hb38 := hb27.keptA hg34 ha29.symm
 refine qe (zB (zE (zF ?_)))
 refine qI rfl (yX (E := eInt) (e := 3) Tryz.underlying65 sz3 hX36.pins (fun u39 w40 ho41 hp42 hl43 hk44 => ?_))
 have hX45 := hX36.step hp42 hl43
 have ho46 := ho37.below hl43
 have hb47 := hb38.below hl43
 have hb48 := hb32.below hl43
 have ha49 : Apart u39.ownBlock u9.ownBlock := zJ hk44 ho37.lt
 have ha50 : Apart u39.ownBlock (some b1) := zP hk44 hb38.lt
 have ha51 : Apart u39.ownBlock (some b19) := zP hk44 hb32.lt
 have ho52 : Own eInt 3 G w40 w.heap.size u39 ([]) := ho41.weaken hX36.size
 refine qD rfl (zC (v := u39) rfl) ?_
 refine qe (zB (zE (zE (zF ?_))))
 refine qD rfl (zC (v := (.int .i64 0)) rfl) ?_
 refine qe (zB ?_)
 refine yB ?_
 refine yM (fun (k : Nat) (en : Nat → Value) (W : World) => ∃ (env1 : Nat → Value) (k1 : Nat) (ov : Value) (os : List Nd) (lv : Value) (li : List Int) (GL1 : Pin), en = (upd (upd (upd (upd (upd env1 0 (.int .i64 (n : Int))) 2 (.pointer (some ⟨b1, 0, none⟩))) 3 (.pointer (some ⟨b19, 0, none⟩))) 4 lv) 5 (.int .i64 (k1 : Int))) ∧ k = n + 1 - k1 ∧ Ext noS G w GL1 W ∧ Pin.le G GL1 ∧ (k1 ≤ n + 1) ∧ (os = starN k1) ∧ (li = idx k1) ∧ (Own eNode 99 GL1 W w.heap.size ov (os)) ∧ (Own eInt 3 GL1 W w.heap.size lv (li)) ∧ (Bx GL1 W b1 [(.slice none 0 0)]) ∧ (Bx GL1 W b19 [ov]) ∧ (Apart ov.ownBlock lv.ownBlock) ∧ (Apart ov.ownBlock (some b1)) ∧ (Apart ov.ownBlock (some b19)) ∧ (Apart lv.ownBlock (some b1)) ∧ (Apart lv.ownBlock (some b19))) _ ⟨_, 0, u9, [], u39, [], G, (zD (x := 5) (zD (x := 4) (zD (x := 3) (zD (x := 2) (zR (x := 0) rfl) rfl) rfl) rfl) rfl), rfl, hX45, Pin.le_refl _, Nat.zero_le _, rfl, rfl, ho46, ho52, hb47, hb48, ha49.symm, ha17, ha28.symm, ha50, ha51⟩ ?_
 rintro k53 _ w54 ⟨env1, k1, ov, os, lv, li, GL1, rfl, hk55, hX56, hlek53, hk1, hos, hli, hw57, hw58, hw59, hw60, ha61, ha62, ha63, ha64, ha65⟩
 have hlil : li.length = k1 := by rw [hli, qL]
 have hosl : os.length = k1 := by rw [hos, starN_len]
 refine zE (zE (zF ?_))
 refine qD rfl (zA (v := (.int .i64 (k1 : Int))) rfl) ?_
 refine qD rfl (zA (v := (.int .i64 (n : Int))) rfl) ?_
 refine qD rfl (r_leq rfl rfl) ?_
 refine qe (zB ?_)
 refine yH (p := ((k1 : Int) : Int) ≤ (n : Int)) rfl rfl (fun h66 => ?_) (fun h66 => ?_)
 ·skip
  refine wp_skip ?_
  refine zB (zE ?_)
  refine yB ?_
  refine zE ?_
  refine xE (S := fun wz => BxR wz b19 [ov]) (last := 10) (by kernel_rfl) rfl ?_
  have hl67 : Below w54.heap.size w54 w54.drew := (Below.refl _ _).drew
  have hp68 := hX56.pins.below hl67
  have hX69 := hX56.step hp68 hl67
  have ho70 := hw57.below hl67
  have ho71 := hw58.below hl67
  have hb72 := hw59.below hl67
  have hb73 := hw60.below hl67
  refine dT (i := 0) rfl rfl (by kernel_rfl) (fun _ _ => zL (k := 0) rfl Tryz.underlying32 rfl nz30 rfl) hb73.reads ?_
  refine dT (i := 1) rfl rfl (by kernel_rfl) (fun _ hS => zQ (u := ov) ag30 rfl (hS 0 _ rfl)) hb73.reads ?_
  refine dT (i := 2) rfl rfl (by kernel_rfl) (fun _ _ => zA (v := lv) rfl) hb73.reads ?_
  refine dT (i := 4) rfl rfl (by kernel_rfl) (fun _ _ => zA (v := lv) rfl) hb73.reads ?_
  refine zV (i := 3) (by kernel_rfl) (yD (i := 3) rfl rfl rfl (zG rfl _) (zN (vs := [lv]) Tryz.func155 nm155 rfl rfl rfl ?_))
  refine Calls.mono (l1OwnO_spec hX69.pins ho71 (by omega)) ?_
  rintro _ w76 ⟨u74, G75, rfl, ho77, hx78⟩
  refine ⟨_, rfl, ?_⟩
  have hX79 := hX69.tr hx78
  have ho80 := ho70.ext hx78
  have ho81 := ho71.ext hx78
  have hb82 := hb72.ext hx78
  have hb83 := hb73.ext hx78
  have ha84 : Apart u74.ownBlock ov.ownBlock := zT ho77.lt ho70.lt
  have ha85 : Apart u74.ownBlock lv.ownBlock := zT ho77.lt ho71.lt
  have ha86 : Apart u74.ownBlock (some b1) := yF ho77.lt hb72.lt
  have ha87 : Apart u74.ownBlock (some b19) := yF ho77.lt hb73.lt
  have ho88 : Own eInt 3 G75 w76 w.heap.size u74 li := ho77.weaken hX69.size
  refine ⟨fun _ => hb83.reads, ?_⟩
  refine zV (i := 5) (by kernel_rfl) (yD (i := 5) rfl rfl rfl (zG rfl _) (zN (vs := [lv]) Tryz.func155 nm155 rfl rfl rfl ?_))
  refine Calls.mono (l1OwnO_spec hX79.pins ho81 (by omega)) ?_
  rintro _ w91 ⟨u89, G90, rfl, ho92, hx93⟩
  refine ⟨_, rfl, ?_⟩
  have hX94 := hX79.tr hx93
  have ho95 := ho80.ext hx93
  have ho96 := ho81.ext hx93
  have ho97 := ho88.ext hx93
  have hb98 := hb82.ext hx93
  have hb99 := hb83.ext hx93
  have ha100 : Apart u89.ownBlock ov.ownBlock := zT ho92.lt ho80.lt
  have ha101 : Apart u89.ownBlock lv.ownBlock := zT ho92.lt ho81.lt
  have ha102 : Apart u89.ownBlock u74.ownBlock := zT ho92.lt ho88.lt
  have ha103 : Apart u89.ownBlock (some b1) := yF ho92.lt hb82.lt
  have ha104 : Apart u89.ownBlock (some b19) := yF ho92.lt hb83.lt
  have ho105 : Own eInt 3 G90 w91 w.heap.size u89 li := ho92.weaken hX79.size
  refine ⟨fun _ => hb99.reads, ?_⟩
  refine dT (i := 6) rfl rfl (by kernel_rfl) (fun _ _ => qV [(.slice none 0 0), (.slice none 0 0)] [u74, u89] [(0, u74, [u74]), (1, u89, [u89])] Tryz.underlying99 zr99 rfl pl99 rfl (List.forall_mem_cons.2 ⟨(xH ho97.one), (List.forall_mem_cons.2 ⟨(xH ho105.one), (fun _ h => by cases h)⟩)⟩) rfl) hb99.reads ?_
  obtain ⟨G106, hle109, hX108, hr107, hf110⟩ := ho97.sealed hX94
  have ho111 := ho95.moreO hle109 hf110 ha84.symm
  have ho112 := ho96.moreO hle109 hf110 ha85.symm
  have ho113 := ho105.moreO hle109 hf110 ha102
  have hb114 := hb98.moreO hf110 ha86.symm
  have hb115 := hb99.moreO hf110 ha87.symm
  obtain ⟨G116, hle119, hX118, hr117, hf120⟩ := ho113.sealed hX108
  have ho121 := ho111.moreO hle119 hf120 ha100.symm
  have ho122 := ho112.moreO hle119 hf120 ha101.symm
  have hb123 := hb114.moreO hf120 ha103.symm
  have hb124 := hb115.moreO hf120 ha104.symm
  refine zV (i := 7) (by kernel_rfl) (yD (i := 7) rfl rfl rfl (zG rfl _) (o_build1 (E := eNode) (e := 99) [u74, u89] (⟨li, li⟩ : Nd) Tryz.underlying30 sz99 zr99 ⟨_, _, rfl, (hr107.mono hle119), hr117⟩ rfl (by decide) hX118.pins (fun u125 w126 ho127 hp128 hl129 hk130 => ?_)))
  have hX131 := hX118.step hp128 hl129
  have ho132 := ho121.below hl129
  have ho133 := ho122.below hl129
  have hb134 := hb123.below hl129
  have hb135 := hb124.below hl129
  have ho140 : Own eNode 99 G116 w126 w.heap.size u125 ([(⟨li, li⟩ : Nd)]) := ho127.weaken hX118.size
  refine ⟨fun _ => hb135.reads, ?_⟩
  refine zV (i := 8) (by kernel_rfl) (yD (i := 8) rfl rfl rfl (zG rfl _) (zX (E := eNode) (v := ov) (u := u125) 48 Tryz.underlying30 ap99 (by decide) rfl rfl hX131.pins ho132 ho140.src (by first | omega | (rw [List.nil_append]; omega) | (rw [List.length_nil]; omega) | (rw [List.length_append]; omega) | (simp; done) | (simp; omega) | (simp only [List.length_append, List.length_cons, List.length_nil]; omega)) (by first | omega | (rw [List.nil_append]; omega) | (rw [List.length_nil]; omega) | (rw [List.length_append]; omega) | (simp; done) | (simp; omega) | (simp only [List.length_append, List.length_cons, List.length_nil]; omega)) (hX131.size) (fun u141 w142 ho143 hp144 hg145 hw146 => ?_)))
  have hX147 := hX131.write hp144 hg145 ((yG ho132))
  have ho148 := ho133.keptA hg145 ha61.symm
  have hb150 := hb134.keptA hg145 ha62.symm
  have hb151 := hb135.keptA hg145 ha63.symm
  have ha152 : Apart lv.ownBlock u141.ownBlock := zH ha61.symm hw146 ho133.lt
  have ha154 : Apart (some b1) u141.ownBlock := zM ha62.symm hw146 hb134.lt
  have ha155 : Apart (some b19) u141.ownBlock := zM ha63.symm hw146 hb135.lt
  have hm156 : (os ++ ([(⟨li, li⟩ : Nd)])).length = os.length + 1 := List.length_append
  refine ⟨fun _ => hb151.reads, ?_⟩
  refine dT (i := 9) rfl rfl (by kernel_rfl) (fun _ _ => zL (k := 0) rfl Tryz.underlying32 rfl nz30 rfl) hb151.reads ?_
  refine zV (i := 10) (by kernel_rfl) (drOp0 (i := 10) rfl rfl rfl (zG rfl _) (xP (cs' := [u141]) (us := [u141]) (v := u141) sz30 rfl rfl (cells1 ho143.one) (xA ho143.one) hX147.pins hb151 (Nat.le_of_ble_eq_true rfl) rfl (fun w157 hb158 hp159 hg160 hz161 => ?_)))
  have hX162 := hX147.write hp159 hg160 ((xI hlo30))
  have ho163 := ho148.keptA hg160 ha65
  have ho164 := ho143.keptA hg160 ha155.symm
  have hb165 := hb150.keptA hg160 ha29.symm
  refine ⟨fun h => absurd rfl h, ?_⟩
  refine yT (by kernel_rfl) ?_
  refine zB (zF ?_)
  refine qD rfl (zA (v := lv) rfl) ?_
  refine qD rfl (zA (v := (.int .i64 (k1 : Int))) rfl) ?_
  refine qI rfl (yQ (E := eInt) (e := 3) [(.int .i64 (k1 : Int))] [(k1 : Int)] Tryz.underlying65 sz3 zr3 (by exact xL (by rfl)) (xA (by rfl)) rfl rfl rfl rfl (by decide) hX162.pins (fun u166 w167 ho168 hp169 hl170 hk171 => ?_))
  have hX172 := hX162.step hp169 hl170
  have ho173 := ho163.below hl170
  have ho174 := ho164.below hl170
  have hb175 := hb165.below hl170
  have hb176 := hb158.below hl170
  have ho181 : Own eInt 3 G116 w167 w.heap.size u166 ([(k1 : Int)]) := ho168.weaken hX162.size
  refine qI rfl (zX (E := eInt) (v := lv) (u := u166) 8 Tryz.underlying65 ap3 (by decide) rfl rfl hX172.pins ho173 ho181.src (by first | omega | (rw [List.nil_append]; omega) | (rw [List.length_nil]; omega) | (rw [List.length_append]; omega) | (simp; done) | (simp; omega) | (simp only [List.length_append, List.length_cons, List.length_nil]; omega)) (by first | omega | (rw [List.nil_append]; omega) | (rw [List.length_nil]; omega) | (rw [List.length_append]; omega) | (simp; done) | (simp; omega) | (simp only [List.length_append, List.length_cons, List.length_nil]; omega)) (hX172.size) (fun u182 w183 ho184 hp185 hg186 hw187 => ?_))
  have hX188 := hX172.write hp185 hg186 ((yG ho173))
  have ho189 := ho174.keptA hg186 ha152.symm
  have hb191 := hb175.keptA hg186 ha64.symm
  have hb192 := hb176.keptA hg186 ha65.symm
  have ha193 : Apart u141.ownBlock u182.ownBlock := zH ha152.symm hw187 ho174.lt
  have ha195 : Apart (some b1) u182.ownBlock := zM ha64.symm hw187 hb175.lt
  have ha196 : Apart (some b19) u182.ownBlock := zM ha65.symm hw187 hb176.lt
  have hm197 : (li ++ ([(k1 : Int)])).length = li.length + 1 := List.length_append
  refine qD rfl (zC (v := u182) rfl) ?_
  refine qe ?_
  refine yC ?_
  refine zB (zF ?_)
  refine qD rfl (zA (v := (.int .i64 (k1 : Int))) rfl) ?_
  refine qD rfl (yJ rfl rfl (by omega)) ?_
  refine qD rfl (zC (v := (.int .i64 ((k1 : Int) + 1))) rfl) ?_
  refine qe ?_
  refine yA ?_
  refine ⟨_, ?_, _, rfl, _, k1 + 1, u141, os ++ ([(⟨li, li⟩ : Nd)]), u182, li ++ ([(k1 : Int)]), G116, (zD (x := 5) (zD (x := 4) (zD (x := 3) (zD (x := 2) (zR (x := 0) rfl) rfl) rfl) rfl) rfl), rfl, hX188, (Pin.le_trans (Pin.le_trans (Pin.le_trans (Pin.le_trans hlek53 hx78.le) hx93.le) hle109) hle119), (by omega), (by rw [hos, hli, starN_succ]), (by rw [hli, idx_succ]), ho189, ho184, hb191, hb192, ha193, ha154.symm, ha155.symm, ha195.symm, ha196.symm⟩
  omega
 refine wp_exit ?_
 refine zZ ?_
 refine yK ?_
 refine yI ?_
 refine zB (zE (zF ?_))
 refine qD rfl (xN (cs := [ov]) ag32 sz32 rfl (fun j u hj => hw60.cell (by simpa using hj))) ?_
 refine q0 rfl rfl rfl (xP (cs' := [ov]) (us := [ov]) (v := (.agg [ov].toArray)) sz32 rfl rfl rfl (xA hw57.one) hX56.pins hw59 (Nat.le_of_ble_eq_true rfl) rfl (fun w198 hb199 hp200 hg201 hz202 => ?_))
 have hX203 := hX56.write hp200 hg201 ((xI hlo8))
 have ho204 := hw57.keptA hg201 ha62
 refine qe (zB ?_)
 refine wp_ret ?_
 refine zW ?_
 refine c_retc (cs := [ov]) rfl rfl rfl ag32 sz32 (fun j u hj => by rw [Nat.zero_add]; exact hb199.cell hj) ?_
 obtain ⟨G207, hle210, hX209, hr208, hf211⟩ := ho204.sealed hX203
 exact ⟨_, _, rfl, (by rw [show starF n = os by rw [hos, show k1 = n + 1 by omega]; rfl]; exact hr208), hX209⟩

end ST3
end Go.Proofs.YtfnginkcmcfdfaaGreatDoor

set_option maxRecDepth 20000
set_option maxHeartbeats 2000000
namespace Go.Proofs.YtfnginkcmcfdfaaGreatDoor
namespace ST4
open Go.RowKit Go.GL Go.Proofs
open Go.Proofs.YtfnginkcmcfdfaaGreatDoor.B1
open Go.Proofs.YtfnginkcmcfdfaaGreatDoor.C1
open Go.Proofs.YtfnginkcmcfdfaaGreatDoor.D1
open Go.Proofs.YtfnginkcmcfdfaaGreatDoor.E1
open Go.Proofs.YtfnginkcmcfdfaaGreatDoor.OR1
open Go.Proofs.YtfnginkcmcfdfaaGreatDoor.C61
open Go.Proofs.YtfnginkcmcfdfaaGreatDoor.C62
open Go.Proofs.YtfnginkcmcfdfaaGreatDoor.C63
open Go.Proofs.YtfnginkcmcfdfaaGreatDoor.ST3










theorem l8StarZ_spec {w : World} {G : Pin} {z : Int} (hP : Pins G w) (hz : 0 ≤ z ∧ z ≤ 1000) :
  Calls Tryz.prog 125 [.int .i64 z].toArray w fun e w' => ∃ (u : Value) (G' : Pin), e = .returned (.agg [u].toArray) ∧ RSl eNode G' u (starF z.toNat) ∧ Ext noS G w G' w' := by
 obtain ⟨n, rfl⟩ : ∃ n : Nat, z = (n : Int) := ⟨z.toNat, by omega⟩
 exact l8Star_spec hP (by omega)

theorem l8StarOf_spec {w : World} {G : Pin} {v : Value} {fs : List Nd} (hP : Pins G w) (hv : RSl eNode G v fs) {c : Nat} (hf : IsForm c fs) :
  Calls Tryz.prog 70 [(.agg [v].toArray)].toArray w fun e w' => ∃ G', e = .returned (.int .i64 (soI c)) ∧ Ext noS G w G' w' := by
 refine yE (n := 17) Tryz.func70 Tryz.ntmps70 rfl rfl ?_
 have hX0 : Ext noS G w G w := Ext.refl hP
 have hm := hv.max
 have hlo := hf.1.lo
 refine zE (zF ?_)
 refine qI rfl (qC [v] (v := (.agg [v].toArray)) rfl rfl hX0.pins (fun b1 w2 hk3 hb4 hp5 hl6 => ?_))
 have hX7 := hX0.step hp5 hl6
 have hlo8 : w.heap.size ≤ b1 := by have := hX0.size; omega
 obtain ⟨G9, hle10, hX11, hbp12, hf13⟩ := hb4.shut hX7 hlo8
 refine qD rfl (zC (v := (.int .i64 0)) rfl) ?_
 refine qe (zB (zE (zE (zF ?_))))
 refine qD rfl (zL (k := 0) rfl Tryz.underlying32 rfl nz30 rfl) ?_
 refine qD rfl (zQ (u := v) ag30 rfl (hX11.pins _ _ _ (hbp12 0 _ rfl))) ?_
 refine qD rfl (zO Tryz.underlying30 (v := v) rfl hv) ?_
 refine qD rfl (qQ rfl rfl (by omega)) ?_
 refine qD rfl (zC (v := (.int .i64 ((fs.length : Int) - 1))) rfl) ?_
 refine qe (zB (zE ?_))
 refine xE (S := fun wz => Pins G9 wz) (last := 8) (by kernel_rfl) rfl ?_
 have hl14 : Below w2.heap.size w2 w2.drew := (Below.refl _ _).drew
 have hp15 := hX11.pins.below hl14
 have hX16 := hX11.step hp15 hl14
 refine dT (i := 0) rfl rfl (by kernel_rfl) (fun _ _ => zA (v := (.int .i64 ((fs.length : Int) - 1))) rfl) hX16.pins ?_
 refine dT (i := 1) rfl rfl (by kernel_rfl) (fun _ _ => r_leq rfl rfl) hX16.pins ?_
 refine dT (i := 2) rfl rfl (by kernel_rfl) (fun _ _ => zA (v := (.bool (decide (((fs.length : Int) - 1 : Int) ≤ 15)))) rfl) hX16.pins ?_
 refine drbd (p := ((fs.length : Int) - 1 : Int) ≤ 15) (t := 10) rfl (fun h17 => ?_) (fun h17 => ?_)
 ·skip
  refine xB (i := 3) rfl rfl rfl (yR rfl rfl rfl rfl) (by kernel_rfl) (fun _ hS => xN (cs := [v]) ag32 sz32 rfl (fun j u hj => hS _ _ _ (hbp12 _ _ (by simpa using hj)))) hX16.pins ?_
  refine xB (i := 4) rfl rfl rfl (yR rfl rfl rfl rfl) (by kernel_rfl) (fun _ _ => zA (v := (.int .i64 ((fs.length : Int) - 1))) rfl) hX16.pins ?_
  refine zV (i := 5) (by kernel_rfl) (yD (i := 5) rfl rfl rfl (yR rfl rfl rfl rfl) (zN (vs := [(.int .i64 ((fs.length : Int) - 1))]) Tryz.func125 nm125 rfl rfl rfl ?_))
  refine Calls.mono (l8StarZ_spec (z := (fs.length : Int) - 1) hX16.pins (by omega)) ?_
  rintro _ w20 ⟨u18, G19, rfl, hr21, hx22⟩
  refine ⟨_, rfl, ?_⟩
  have hX23 := hX16.tr hx22
  refine ⟨fun _ => (Pins.of_le hX23.pins hx22.le), ?_⟩
  refine zV (i := 6) (by kernel_rfl) (yD (i := 6) rfl rfl rfl (yR rfl rfl rfl rfl) (zN (vs := [(.agg [v].toArray), (.agg [u18].toArray)]) Tryz.func65 nm65 rfl rfl rfl ?_))
  refine Calls.mono (l3Same_spec hX23.pins (hv.mono (Pin.le_trans hle10 hx22.le)) hr21) ?_
  rintro _ w25 ⟨G24, rfl, hx26⟩
  refine ⟨_, rfl, ?_⟩
  have hX27 := hX23.tr hx26
  refine ⟨fun _ => (Pins.of_le hX27.pins (Pin.le_trans hx22.le hx26.le)), ?_⟩
  refine dT (i := 7) rfl rfl (by kernel_rfl) (fun _ _ => yZ (v := (.bool (decide (fs = (starF ((fs.length : Int) - 1).toNat))))) rfl rfl) (Pins.of_le hX27.pins (Pin.le_trans hx22.le hx26.le)) ?_
  refine yT (by kernel_rfl) ?_
  refine zB ?_
  refine yH (p := (fs = (starF ((fs.length : Int) - 1).toNat))) rfl rfl (fun h28 => ?_) (fun h28 => ?_)
  ·skip
   refine zE (zF ?_)
   refine qD rfl (zA (v := (.int .i64 ((fs.length : Int) - 1))) rfl) ?_
   refine qD rfl (zC (v := (.int .i64 ((fs.length : Int) - 1))) rfl) ?_
   refine qe (zB ?_)
   refine wp_ret ?_
   refine zW ?_
   refine zS (v := (.int .i64 ((fs.length : Int) - 1))) rfl rfl rfl ?_
   obtain ⟨e1, e2⟩ := so_is hf (by omega) (show fs = starF (fs.length - 1) by rw [show fs.length - 1 = ((fs.length : Int) - 1).toNat by omega]; exact h28)
   exact ⟨_, congrArg (fun z => Ending.returned (Value.int .i64 z)) (by unfold soI; rw [e1, e2]; rfl), hX27⟩
  refine wp_skip ?_
  refine zB (zE (zF ?_))
  refine qD rfl (zC (v := (.int .i64 (-1))) rfl) ?_
  refine qe (zB ?_)
  refine wp_ret ?_
  refine zW ?_
  refine zS (v := (.int .i64 (-1))) rfl rfl rfl ?_
  have e1 := (so_not hf (fun g => h28 (by rw [show ((fs.length : Int) - 1).toNat = fs.length - 1 by omega]; exact g.2))).1
  exact ⟨_, congrArg (fun z => Ending.returned (Value.int .i64 z)) (by unfold soI; rw [e1]; rfl), hX27⟩
 refine yS (i := 3) rfl rfl (yW rfl rfl rfl rfl rfl) (by kernel_rfl) hX16.pins ?_
 refine yS (i := 4) rfl rfl (yW rfl rfl rfl rfl rfl) (by kernel_rfl) hX16.pins ?_
 refine yS (i := 5) rfl rfl (yW rfl rfl rfl rfl rfl) (by kernel_rfl) hX16.pins ?_
 refine yS (i := 6) rfl rfl (yW rfl rfl rfl rfl rfl) (by kernel_rfl) hX16.pins ?_
 refine dT (i := 7) rfl rfl (by kernel_rfl) (fun _ _ => yU (v := (.bool false)) rfl rfl) hX16.pins ?_
 refine yT (by kernel_rfl) ?_
 refine zB ?_
 refine xX rfl rfl ?_
 refine wp_skip ?_
 refine zB (zE (zF ?_))
 refine qD rfl (zC (v := (.int .i64 (-1))) rfl) ?_
 refine qe (zB ?_)
 refine wp_ret ?_
 refine zW ?_
 refine zS (v := (.int .i64 (-1))) rfl rfl rfl ?_
 have e1 := (so_not hf (fun g => by have := g.1; omega)).1
 exact ⟨_, congrArg (fun z => Ending.returned (Value.int .i64 z)) (by unfold soI; rw [e1]; rfl), hX16⟩

theorem sStarOf_spec {w : World} {G : Pin} {v : Value} {fs : List Nd} (hP : Pins G w) (hv : RSl eNode G v fs) :
  Calls Tryz.prog 34 [(.agg [v].toArray)].toArray w fun e w' => ∃ G', e = .returned (.tuple #[.int .i64 (stT fs), .bool (stB fs)]) ∧ Ext noS G w G' w' := by
 refine yE (n := 15) Tryz.func34 Tryz.ntmps34 rfl rfl ?_
 have hX0 : Ext noS G w G w := Ext.refl hP
 refine zE (zF ?_)
 refine qI rfl (qC [v] (v := (.agg [v].toArray)) rfl rfl hX0.pins (fun b1 w2 hk3 hb4 hp5 hl6 => ?_))
 have hX7 := hX0.step hp5 hl6
 have hlo8 : w.heap.size ≤ b1 := by have := hX0.size; omega
 obtain ⟨G9, hle10, hX11, hbp12, hf13⟩ := hb4.shut hX7 hlo8
 refine qD rfl (zC (v := (.int .i64 0)) rfl) ?_
 refine qD rfl (zC (v := (.bool false)) rfl) ?_
 refine qe (zB (zE (zE (zF ?_))))
 refine qD rfl (xN (cs := [v]) ag32 sz32 rfl (fun j u hj => hX11.pins _ _ _ (hbp12 _ _ (by simpa using hj)))) ?_
 refine qI rfl (zN (vs := [(.agg [v].toArray)]) Tryz.func47 nm47 rfl rfl rfl ?_)
 refine Calls.mono (l3Good_spec hX11.pins (hv.mono hle10)) ?_
 rintro _ w15 ⟨G14, rfl, hx16⟩
 refine ⟨_, rfl, ?_⟩
 have hX17 := hX11.tr hx16
 refine qD rfl (xV rfl) ?_
 refine qe (zB ?_)
 refine c_ifn rfl rfl (fun h18 => ?_) (fun h18 => ?_)
 ·skip
  refine wp_skip ?_
  refine zB (zE (zF ?_))
  have hgb : goodB fs = true := (good_eq fs).symm.trans h18
  have hga : GoodP fs := goodB_true.1 hgb
  have hla := hga.lo
  have hha := hga.hi
  refine qD rfl (xN (cs := [v]) ag32 sz32 rfl (fun j u hj => (Pins.of_le hX17.pins hx16.le) _ _ _ (hbp12 _ _ (by simpa using hj)))) ?_
  refine qI rfl (zN (vs := [(.agg [v].toArray)]) Tryz.func71 nm71 rfl rfl rfl ?_)
  refine Calls.mono (l6Canon_spec hX17.pins (hv.mono (Pin.le_trans hle10 hx16.le)) (good_form hga) ⟨by omega, by omega⟩) ?_
  rintro _ w22 ⟨c19, u20, G21, rfl, hcg23, hce24, hcf25, hr26, hx27⟩
  refine ⟨_, rfl, ?_⟩
  have hX28 := hX17.tr hx27
  refine qI rfl (zN (vs := [(.agg [u20].toArray)]) Tryz.func70 nm70 rfl rfl rfl ?_)
  refine Calls.mono (l8StarOf_spec hX28.pins hr26 hcf25) ?_
  rintro _ w30 ⟨G29, rfl, hx31⟩
  refine ⟨_, rfl, ?_⟩
  have hX32 := hX28.tr hx31
  refine qD rfl (zC (v := (.int .i64 (soI c19))) rfl) ?_
  refine qe (zB (zE (zF ?_)))
  refine qD rfl (zA (v := (.int .i64 (soI c19))) rfl) ?_
  refine qI rfl (zN (vs := [(.int .i64 (soI c19)), (.int .i64 0)]) Tryz.func72 nm72 rfl rfl rfl ?_)
  refine Calls.mono (l1Most_spec hX32.pins) ?_
  rintro _ _ ⟨rfl, rfl⟩
  refine ⟨_, rfl, ?_⟩
  refine qD rfl (zA (v := (.int .i64 (soI c19))) rfl) ?_
  refine qD rfl (r_geq rfl rfl) ?_
  refine qD rfl (zC (v := (.int .i64 (max (soI c19) 0))) rfl) ?_
  refine qD rfl (zC (v := (.bool (decide ((0 : Int) ≤ (soI c19))))) rfl) ?_
  refine qe (zB ?_)
  refine wp_ret ?_
  refine zW ?_
  refine c_ret2 (v := (.int .i64 (max (soI c19) 0))) (u := (.bool (decide ((0 : Int) ≤ (soI c19))))) rfl rfl rfl rfl rfl ?_
  obtain ⟨e1, e2⟩ := st_good hgb hcg23 hce24
  obtain ⟨e3, e4⟩ := so_int c19
  rw [e1, e2, ← e3, ← e4]
  exact ⟨_, rfl, hX32⟩
 refine zE (zF ?_)
 refine qD rfl (zC (v := (.int .i64 0)) rfl) ?_
 refine qD rfl (zC (v := (.bool false)) rfl) ?_
 refine qe (zB ?_)
 refine wp_ret ?_
 refine zW ?_
 refine c_ret2 (v := (.int .i64 0)) (u := (.bool false)) rfl rfl rfl rfl rfl ?_
 obtain ⟨e1, e2⟩ := st_bad ((good_eq fs).symm.trans h18)
 rw [e1, e2]
 exact ⟨_, rfl, hX17⟩

end ST4
end Go.Proofs.YtfnginkcmcfdfaaGreatDoor

set_option maxRecDepth 20000
set_option maxHeartbeats 2000000
namespace Go.Proofs.YtfnginkcmcfdfaaGreatDoor
namespace LST
open Go.RowKit Go.GL Go.Proofs
open Go.Proofs.YtfnginkcmcfdfaaGreatDoor.B1
open Go.Proofs.YtfnginkcmcfdfaaGreatDoor.C1
open Go.Proofs.YtfnginkcmcfdfaaGreatDoor.D1
open Go.Proofs.YtfnginkcmcfdfaaGreatDoor.E1
open Go.Proofs.YtfnginkcmcfdfaaGreatDoor.L1
open Go.Proofs.YtfnginkcmcfdfaaGreatDoor.ST2
open Go.Proofs.YtfnginkcmcfdfaaGreatDoor.ST4










theorem law {w : World} {G : Pin} {v : Value} {ns : List Nd} (hP : Pins G w) (hv : RSl eNode G v ns) :
  Calls Tryz.prog 9 [(.agg [v].toArray)].toArray w fun e w' => ∃ G', e = .returned (.bool true) ∧ Ext noS G w G' w' := by
 refine yE (n := 40) Tryz.func9 Tryz.ntmps9 rfl rfl ?_
 have hX0 : Ext noS G w G w := Ext.refl hP
 refine zE (zF ?_)
 refine qI rfl (qC [v] (v := (.agg [v].toArray)) rfl rfl hX0.pins (fun b1 w2 hk3 hb4 hp5 hl6 => ?_))
 have hX7 := hX0.step hp5 hl6
 have hlo8 : w.heap.size ≤ b1 := by have := hX0.size; omega
 obtain ⟨G9, hle10, hX11, hbp12, hf13⟩ := hb4.shut hX7 hlo8
 refine qD rfl (zC (v := (.bool false)) rfl) ?_
 refine qe (zB (zE (zF ?_)))
 refine qD rfl (zC (v := (.int .i64 1048576)) rfl) ?_
 refine qe (zB (zE (zF ?_)))
 refine qD rfl (xN (cs := [v]) ag24 sz24 rfl (fun j u hj => hX11.pins _ _ _ (hbp12 _ _ (by simpa using hj)))) ?_
 refine qD rfl (zA (v := (.int .i64 1048576)) rfl) ?_
 refine qI rfl (zN (vs := [(.agg [v].toArray), (.int .i64 1048576)]) Tryz.func15 nm15 rfl rfl rfl ?_)
 refine Calls.mono (szForm_spec hX11.pins (hv.mono hle10) (by omega)) ?_
 rintro _ w16 ⟨z14, G15, rfl, hz17, hx18⟩
 refine ⟨_, rfl, ?_⟩
 have hX19 := hX11.tr hx18
 refine qD rfl (zC (v := (.int .i64 z14)) rfl) ?_
 refine qe (zB (zE (zE (zF ?_))))
 refine qD rfl (zA (v := (.int .i64 z14)) rfl) ?_
 refine qD rfl (yO rfl rfl) ?_
 refine qe (zB ?_)
 refine yH (p := (z14 : Int) < 0) rfl rfl (fun h20 => ?_) (fun h20 => ?_)
 ·skip
  refine zE (zF ?_)
  refine qD rfl (zC (v := (.bool true)) rfl) ?_
  refine qe (zB ?_)
  refine wp_ret ?_
  refine zW ?_
  refine zS (v := (.bool true)) rfl rfl rfl ?_
  exact ⟨_, rfl, hX19⟩
 refine wp_skip ?_
 refine zB (zE (zF ?_))
 have hsm : Small ns := small_of (by omega)
 refine qD rfl (xN (cs := [v]) ag24 sz24 rfl (fun j u hj => (Pins.of_le hX19.pins hx18.le) _ _ _ (hbp12 _ _ (by simpa using hj)))) ?_
 refine qI rfl (zN (vs := [(.agg [v].toArray)]) Tryz.func17 nm17 rfl rfl rfl ?_)
 refine Calls.mono (toForm_spec hX19.pins (hv.mono (Pin.le_trans hle10 hx18.le)) hsm) ?_
 rintro _ w23 ⟨u21, G22, rfl, hr24, hx25⟩
 refine ⟨_, rfl, ?_⟩
 have hX26 := hX19.tr hx25
 refine qI rfl (zN (vs := [(.agg [u21].toArray)]) Tryz.func34 nm34 rfl rfl rfl ?_)
 refine Calls.mono (sStarOf_spec hX26.pins hr24) ?_
 rintro _ w28 ⟨G27, rfl, hx29⟩
 refine ⟨_, rfl, ?_⟩
 have hX30 := hX26.tr hx29
 refine qD rfl (zA (v := (.tuple #[(.int .i64 (stT ns)), (.bool (stB ns))])) rfl) ?_
 refine qD rfl (xS (v := (.int .i64 (stT ns))) rfl rfl) ?_
 refine qD rfl (xS (v := (.bool (stB ns))) rfl rfl) ?_
 refine qD rfl (zC (v := (.int .i64 (stT ns))) rfl) ?_
 refine qD rfl (zC (v := (.bool (stB ns))) rfl) ?_
 refine qe (zB (zE (zF ?_)))
 refine qD rfl (xN (cs := [v]) ag24 sz24 rfl (fun j u hj => (Pins.of_le hX30.pins (Pin.le_trans (Pin.le_trans hx18.le hx25.le) hx29.le)) _ _ _ (hbp12 _ _ (by simpa using hj)))) ?_
 refine qI rfl (zN (vs := [(.agg [v].toArray)]) Tryz.func17 nm17 rfl rfl rfl ?_)
 refine Calls.mono (toForm_spec hX30.pins (hv.mono (Pin.le_trans (Pin.le_trans (Pin.le_trans hle10 hx18.le) hx25.le) hx29.le)) hsm) ?_
 rintro _ w33 ⟨u31, G32, rfl, hr34, hx35⟩
 refine ⟨_, rfl, ?_⟩
 have hX36 := hX30.tr hx35
 refine qI rfl (xK [(.slice none 0 0)] zr32 rfl hX36.pins (fun b37 w38 hk39 hb40 hp41 hl42 => ?_))
 have hX43 := hX36.step hp41 hl42
 have hlo44 : w.heap.size ≤ b37 := by have := hX36.size; omega
 refine q0 rfl rfl rfl (xP (cs' := [u31]) (us := [u31]) (v := (.agg [u31].toArray)) sz32 rfl rfl rfl (xA hr34.one) hX43.pins hb40 (Nat.le_of_ble_eq_true rfl) rfl (fun w45 hb46 hp47 hg48 hz49 => ?_))
 have hX50 := hX43.write hp47 hg48 ((xI hlo44))
 obtain ⟨G51, hle52, hX53, hbp54, hf55⟩ := hb46.shut hX50 hlo44
 refine qe (zB (zE (zF ?_)))
 refine qD rfl (xN (cs := [u31]) ag32 sz32 rfl (fun j u hj => hX53.pins _ _ _ (hbp54 _ _ (by simpa using hj)))) ?_
 refine qI rfl (zN (vs := [(.agg [u31].toArray)]) Tryz.func35 nm35 rfl rfl rfl ?_)
 refine Calls.mono (iStarOf_spec hX53.pins (hr34.mono hle52)) ?_
 rintro _ w57 ⟨G56, rfl, hx58⟩
 refine ⟨_, rfl, ?_⟩
 have hX59 := hX53.tr hx58
 refine qD rfl (zA (v := (.tuple #[(.int .i64 (stT ns)), (.bool (stB ns))])) rfl) ?_
 refine qD rfl (xS (v := (.int .i64 (stT ns))) rfl rfl) ?_
 refine qD rfl (xS (v := (.bool (stB ns))) rfl rfl) ?_
 refine qD rfl (zC (v := (.int .i64 (stT ns))) rfl) ?_
 refine qD rfl (zC (v := (.bool (stB ns))) rfl) ?_
 refine qe (zB (zE (zE (zF ?_))))
 refine qD rfl (zA (v := (.int .i64 (stT ns))) rfl) ?_
 refine qD rfl (zA (v := (.int .i64 (stT ns))) rfl) ?_
 refine qD rfl (r_neq rfl rfl) ?_
 refine qD rfl (zA (v := (.bool (decide ((stT ns : Int) ≠ (stT ns))))) rfl) ?_
 refine qbd (p := (stT ns : Int) ≠ (stT ns)) (t := 30) rfl (fun h60 => ?_) (fun h60 => ?_)
 ·skip
  refine qs rfl rfl rfl rfl rfl rfl ?_
  refine qs rfl rfl rfl rfl rfl rfl ?_
  refine qs rfl rfl rfl rfl rfl rfl ?_
  refine qD rfl (yZ (v := (.bool true)) rfl rfl) ?_
  refine qe (zB ?_)
  refine c_ifT rfl rfl ?_
  refine zE (zF ?_)
  refine qD rfl (zC (v := (.bool false)) rfl) ?_
  refine qe (zB ?_)
  refine wp_ret ?_
  refine zW ?_
  refine zS (v := (.bool false)) rfl rfl rfl ?_
  exact absurd rfl h60
 refine qdg rfl rfl rfl rfl rfl rfl (zA (v := (.bool (stB ns))) rfl) ?_
 refine qdg rfl rfl rfl rfl rfl rfl (zA (v := (.bool (stB ns))) rfl) ?_
 refine qdg rfl rfl rfl rfl rfl rfl (r_neqB_same Tryz.underlying4 rfl rfl) ?_
 refine qD rfl (yU (v := (.bool false)) rfl rfl) ?_
 refine qe (zB ?_)
 refine xX rfl rfl ?_
 refine wp_skip ?_
 refine zB (zE (zE ?_))
 refine xE (S := fun wz => Pins G56 wz) (last := 5) (by kernel_rfl) rfl ?_
 have hl61 : Below w57.heap.size w57 w57.drew := (Below.refl _ _).drew
 have hp62 := hX59.pins.below hl61
 have hX63 := hX59.step hp62 hl61
 refine dT (i := 0) rfl rfl (by kernel_rfl) (fun _ hS => xN (cs := [u31]) ag32 sz32 rfl (fun j u hj => (Pins.of_le hS hx58.le) _ _ _ (hbp54 _ _ (by simpa using hj)))) hX63.pins ?_
 refine dT (i := 1) rfl rfl (by kernel_rfl) (fun _ hS => xN (cs := [v]) ag24 sz24 rfl (fun j u hj => (Pins.of_le hS (Pin.le_trans (Pin.le_trans (Pin.le_trans (Pin.le_trans (Pin.le_trans hx18.le hx25.le) hx29.le) hx35.le) hle52) hx58.le)) _ _ _ (hbp12 _ _ (by simpa using hj)))) hX63.pins ?_
 refine zV (i := 2) (by kernel_rfl) (yD (i := 2) rfl rfl rfl (zG rfl _) (zN (vs := [(.agg [v].toArray)]) Tryz.func17 nm17 rfl rfl rfl ?_))
 refine Calls.mono (toForm_spec hX63.pins (hv.mono (Pin.le_trans (Pin.le_trans (Pin.le_trans (Pin.le_trans (Pin.le_trans (Pin.le_trans hle10 hx18.le) hx25.le) hx29.le) hx35.le) hle52) hx58.le)) hsm) ?_
 rintro _ w66 ⟨u64, G65, rfl, hr67, hx68⟩
 refine ⟨_, rfl, ?_⟩
 have hX69 := hX63.tr hx68
 refine ⟨fun _ => (Pins.of_le hX69.pins hx68.le), ?_⟩
 refine zV (i := 3) (by kernel_rfl) (yD (i := 3) rfl rfl rfl (zG rfl _) (zN (vs := [(.agg [u31].toArray), (.agg [u64].toArray)]) Tryz.func20 nm20 rfl rfl rfl ?_))
 refine Calls.mono (eqForm_spec hX69.pins (hr34.mono (Pin.le_trans (Pin.le_trans hle52 hx58.le) hx68.le)) hr67) ?_
 rintro _ w71 ⟨G70, rfl, hx72⟩
 refine ⟨_, rfl, ?_⟩
 have hX73 := hX69.tr hx72
 refine ⟨fun _ => (Pins.of_le hX73.pins (Pin.le_trans hx68.le hx72.le)), ?_⟩
 refine dT (i := 4) rfl rfl (by kernel_rfl) (fun _ _ => xV rfl) (Pins.of_le hX73.pins (Pin.le_trans hx68.le hx72.le)) ?_
 refine yT (by kernel_rfl) ?_
 refine zB ?_
 refine c_ifn rfl rfl (fun _ => ?_) (fun h => absurd rfl (of_decide_eq_false h))
 refine wp_skip ?_
 refine zB (zE (zF ?_))
 refine qD rfl (zC (v := (.bool true)) rfl) ?_
 refine qe (zB ?_)
 refine wp_ret ?_
 refine zW ?_
 refine zS (v := (.bool true)) rfl rfl rfl ?_
 exact ⟨_, rfl, hX73⟩

end LST
end Go.Proofs.YtfnginkcmcfdfaaGreatDoor
