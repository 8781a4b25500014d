/- Texts of this claim in one file: PO1, PL1, PA1, SO1, OD1, FO1, NG1, NF1, SM1, Dyad, Val, Star, Valp, Eqd, Betw, MK1, NU1, NU3, NB4, NB5, NB6, VB1, SW2, NU2. -/
import Derived.Test.YtfnginkcmcfdfaaGreatDoorSw4
import Derived.Test.YtfnginkcmcfdfaaGreatDoorChecked
set_option maxRecDepth 20000
set_option maxHeartbeats 2000000
namespace Go.Proofs.YtfnginkcmcfdfaaGreatDoor
namespace PO1
open Go.RowKit Go.GL Go.Proofs
open Go.Proofs.YtfnginkcmcfdfaaGreatDoor.B1
open Go.Proofs.YtfnginkcmcfdfaaGreatDoor.K1







theorem mk5 : (Tryz.prog.info? 5).map (fun i => (i.size, i.bytes, i.zero)) = some (1, 1, some (.int .u8 0)) := by kernel_rfl















theorem clone_spec {w : World} {G : Pin} {v : Value} {xs : List Int} (hP : Pins G w) (hv : RSl eInt G v xs) (hs : xs.length ≤ 1048576) :
  Calls Tryz.prog 159 [v].toArray w fun e w' => ∃ (u : Value) (G' : Pin), e = .returned u ∧ Own eInt 3 G' w' w.heap.size u xs ∧ Ext noS G w G' w' := by
 refine zV (n := 8) Tryz.func159 Tryz.ntmps159 rfl rfl ?_
 have a : Ext noS G w G w := Ext.refl hP
 refine zB (zC ?_)
 refine qM (.slice none 0 0) ?_
 refine qe (zA (zB (zB (zC ?_))))
 refine qM v ?_
 refine qD rfl (r_eqlNil Tryz.underlying65 hv rfl rfl) ?_
 refine qe (zA ?_)
 refine c_if rfl rfl (fun c => ?_) (fun c => ?_)
 ·skip
  refine zB (zC ?_)
  refine qM (.slice none 0 0) ?_
  refine qe (zA ?_)
  refine wp_ret ?_
  refine zO ?_
  refine zP (v := (.slice none 0 0)) rfl rfl rfl ?_
  have h := nil_of hv c
  subst h
  exact ⟨_, _, rfl, Own.nil _ _ _ _ _, a⟩
 refine wp_skip ?_
 refine zA (zB (zC ?_))
 refine qI rfl (xH (E := eInt) (e := 3) Tryz.underlying65 sz3 a.pins (fun d i j k l r => ?_))
 have b := a.step k l
 have f : Own eInt 3 G i w.heap.size d ([]) := j.weaken a.size
 refine qM v ?_
 refine qI rfl (oA (E := eInt) (v := d) (u := v) 8 Tryz.underlying65 ap3 (by decide) rfl rfl b.pins f ((hv.mono (Pin.le_refl _)).src b.pins (by decide)) (b.size) (fun g s m o p t => ?_))
 have q := b.write o p ((yF f))
 have x : (([]) ++ xs).length = ([]).length + xs.length := List.length_append
 refine qM g ?_
 refine qe (zA ?_)
 refine wp_ret ?_
 refine zO ?_
 refine zP (v := g) rfl rfl rfl ?_
 exact ⟨_, _, rfl, m, q⟩

theorem sortI_spec {w : World} {G : Pin} {e base : Nat} {v : Value} {xs : List Int} (hP : Pins G w) (hv : Own eInt e G w base v xs) (hl : xs.length ≤ 1073741824) :
  Calls Tryz.prog 152 [v].toArray w fun en w' => ∃ G', en = .returned (.tuple #[]) ∧ Own eInt e G' w' base v (sortM xs) ∧ Ext (inO v.ownBlock) G w G' w' := by
 rcases own_cases hv with ⟨rfl, rfl⟩ | ⟨g, cap, rfl⟩
 ·refine (Tryz.slices_Sort_int_none none 0 w).mono ?_
  rintro en w' ⟨rfl, rfl⟩
  exact ⟨G, rfl, by simpa [sortM] using hv, Ext.refl hP⟩
 ·obtain ⟨_, h1, h2, h3⟩ := own_holds hv
  refine (Tryz.slices_Sort_int g 0 cap xs w h3 h1 (by omega)).mono ?_
  rintro en w' ⟨rfl, m, os, hw⟩
  obtain ⟨a, b, c⟩ := own_put (ys := sortM xs) hv hP hw (sortM_length xs) (List.take_length ..)
  rw [sortM_length] at a
  exact ⟨G, rfl, a, Ext.one b c⟩
theorem compactI_spec {w : World} {G : Pin} {e base : Nat} {v : Value} {xs : List Int} (hP : Pins G w) (hv : Own eInt e G w base v xs) (hl : xs.length ≤ 1073741824) :
  Calls Tryz.prog 160 [v].toArray w fun en w' => ∃ (u : Value) (G' : Pin), en = .returned u ∧ Own eInt e G' w' base u (Go.Lib.compact xs) ∧ Lo w (inO v.ownBlock) u.ownBlock ∧ Ext (inO v.ownBlock) G w G' w' := by
 rcases own_cases hv with ⟨rfl, rfl⟩ | ⟨g, cap, rfl⟩
 ·refine (Tryz.slices_Compact_int_empty none 0 w).mono ?_
  rintro en w' ⟨rfl, rfl⟩
  exact ⟨_, G, rfl, hv, lo_self, Ext.refl hP⟩
 ·obtain ⟨_, h1, h2, h3⟩ := own_holds hv
  refine (Tryz.slices_Compact_int g 0 cap xs w h3 (by omega) h2).mono ?_
  rintro en w' ⟨rfl, m, hw⟩
  have hcl := compact_len xs
  obtain ⟨a, b, c⟩ := own_put (os := #[]) (ys := Go.Lib.compact xs) hv hP (hw.trans (Go.Sort.grow_empty _).symm) (by simp; omega) (List.take_left ..)
  exact ⟨_, G, rfl, a, lo_self, Ext.one b c⟩

theorem distinct_spec {w : World} {G : Pin} {v : Value} {xs : List Int} (hP : Pins G w) (hv : RSl eInt G v xs) (hs : xs.length ≤ 1048576) :
  Calls Tryz.prog 129 [v].toArray w fun e w' => ∃ (u : Value) (G' : Pin), e = .returned u ∧ Own eInt 3 G' w' w.heap.size u (sortL xs) ∧ Ext noS G w G' w' := by
 refine zV (n := 10) Tryz.func129 Tryz.ntmps129 rfl rfl ?_
 have b : Ext noS G w G w := Ext.refl hP
 refine zB (zC ?_)
 refine qM (.slice none 0 0) ?_
 refine qe (zA (zB (zC ?_)))
 refine qM v ?_
 refine qI rfl (zH (vs := [v]) Tryz.func159 nm159 rfl rfl rfl ?_)
 refine Calls.mono (clone_spec b.pins hv (by omega)) ?_
 rintro _ l ⟨a, m, rfl, o, p⟩
 refine ⟨_, rfl, ?_⟩
 have f := b.tr p
 have g : Own eInt 3 m l w.heap.size a xs := o.weaken b.size
 refine qM a ?_
 refine qe (zA (zB (zC ?_)))
 refine qM a ?_
 refine qI rfl (zH (vs := [a]) Tryz.func152 nm152 rfl rfl rfl ?_)
 refine Calls.mono (sortI_spec f.pins g (by omega)) ?_
 rintro _ z ⟨G8, rfl, c, q⟩
 refine ⟨_, rfl, ?_⟩
 have d := f.trans q (fun i hi => (yF g) i hi)
 have ab := sortM_length xs
 refine qe (zA (zB (zC ?_)))
 refine qM a ?_
 refine qI rfl (zH (vs := [a]) Tryz.func160 nm160 rfl rfl rfl ?_)
 refine Calls.mono (compactI_spec d.pins (c.weaken (Nat.zero_le _)) (by omega)) ?_
 rintro _ ac ⟨j, ad, rfl, r, s, t⟩
 refine ⟨_, rfl, ?_⟩
 have x := d.trans t (fun i hi => (yF c) i hi)
 have y := r.up (lo := w.heap.size) (fun k hk => (s k hk).elim (fun h => Nat.le_trans d.size h) (fun h => (c.lt k h).1))
 refine qM j ?_
 refine qe (zA ?_)
 refine wp_ret ?_
 refine zO ?_
 refine zP (v := j) rfl rfl rfl ?_
 exact ⟨_, _, rfl, (by rw [← distinct_eq]; simpa using y), x⟩

theorem qB {w : World} {G : Pin} {p : Nat} {L R B : Value} {mm : PM} {q : PSt} (hP : Pins G w) (hpk : Pk 65 3 G w p L R B mm q) (hok : PoolOk q) {x y : Value} {xs ys : List Int} (hx : RSl eInt G x xs) (hy : RSl eInt G y ys) (hlim : q.ns.length + 1 ≤ 1048576) (hls : xs.length ≤ 1048576 ∧ ys.length ≤ 1048576) (hk1 : ∀ i, i < xs.length → 0 ≤ xs.getD i 0 ∧ xs.getD i 0 < q.ns.length) (hk2 : ∀ i, i < ys.length → 0 ≤ ys.getD i 0 ∧ ys.getD i 0 < q.ns.length) :
  Calls Tryz.prog 79 [(.pointer (some ⟨p, 0, none⟩)), x, y].toArray w fun e w' => ∃ (z : Int) (L' R' B' : Value) (q' : PSt) (G' : Pin), e = .returned (vJ z) ∧ Pk 65 3 G' w' p L' R' B' mm q' ∧ PoolOk q' ∧ PX q q' ∧ PLo w p L R B mm L' R' B' ∧ Ext (inP p L R B mm) G w G' w' ∧ PlaceOk q' z ∧ pd q' z = mkG (xs.map (pd q)) (ys.map (pd q)) ∧ q'.ns.length ≤ q.ns.length + 1 ∧ (q'.cm = q.cm ∧ (q'.ns.length = q.ns.length ∨ z = q.ns.length)) := by
 refine zV (n := 130) Tryz.func79 Tryz.ntmps79 rfl rfl ?_
 have cf : Ext (inP p L R B mm) G w G w := Ext.refl hP
 have hpin : PIn w (inP p L R B mm) p L R B mm := PIn.self
 have lf : (q.ns.map Nd.l).length = q.ns.length ∧ (q.ns.map Nd.r).length = q.ns.length := ⟨List.length_map .., List.length_map ..⟩
 have lg : q.bs.length = q.ns.length ∧ q.ns.length ≤ 1048576 := ⟨hok.ar.ok.len, hok.ar.ok.lim⟩
 obtain ⟨d, aq⟩ : ∃ l, l = sortL xs := ⟨_, rfl⟩
 obtain ⟨g, au⟩ : ∃ l, l = sortL ys := ⟨_, rfl⟩
 have bo := sort_bounds hk1
 have cg := sort_bounds hk2
 rw [← aq] at bo
 rw [← au] at cg
 have lh : d.length ≤ 1048576 := by rw [aq]; exact Nat.le_trans qS hls.1
 have li : g.length ≤ 1048576 := by rw [au]; exact Nat.le_trans qS hls.2
 refine zB (zC ?_)
 refine qM (vJ 0) ?_
 refine qe (zA (zB (zC ?_)))
 refine qM x ?_
 refine qI rfl (zH (vs := [x]) Tryz.func129 nm129 rfl rfl rfl ?_)
 refine Calls.mono (distinct_spec cf.pins hx (by omega)) ?_
 rintro _ w5 ⟨u3, G4, rfl, ch, ci⟩
 refine ⟨_, rfl, ?_⟩
 rw [← aq] at ch
 have cj := cf.tr ci
 have dk := hpk.ext ci
 have bp := hpk.new (x := u3.ownBlock) (fun k hk => (ch.lt k hk).1)
 have dl : Own eInt 3 G4 w5 w.heap.size u3 d := ch.weaken cf.size
 refine qM y ?_
 refine qI rfl (zH (vs := [y]) Tryz.func129 nm129 rfl rfl rfl ?_)
 refine Calls.mono (distinct_spec cj.pins (hy.mono ci.le) (by omega)) ?_
 rintro _ gt ⟨t, bq, rfl, br, ck⟩
 refine ⟨_, rfl, ?_⟩
 rw [← au] at br
 have cl := cj.tr ck
 have cn := dl.ext ck
 have dm := dk.ext ck
 have gu := zR br.lt dl.lt
 have a2 := dk.new (x := t.ownBlock) (fun k hk => (br.lt k hk).1)
 have co : Own eInt 3 bq gt w.heap.size t g := br.weaken cj.size
 refine qM u3 ?_
 refine qM t ?_
 refine qe (zA (zB (zC ?_)))
 refine qM u3 ?_
 refine qD rfl (zS Tryz.underlying65 (v := u3) rfl cn.read) ?_
 refine qM t ?_
 refine qD rfl (zS Tryz.underlying65 (v := t) rfl co.read) ?_
 refine qD rfl (yQ rfl rfl (by omega)) ?_
 refine qD rfl (r_mul rfl rfl (by omega)) ?_
 refine qD rfl (yQ rfl rfl (by omega)) ?_
 refine qI rfl (o_make0 (E := eByte) Tryz.underlying132 mk5 rfl rfl cl.pins (by omega) (by omega) (by omega) (fun a3 gv gw dn bt cp => ?_))
 have gx := cl.step dn bt
 have dp := cn.below bt
 have gy := co.below bt
 have gz := dm.below bt dn
 have g0 : Apart a3.ownBlock u3.ownBlock := zG cp cn.lt
 have g1 : Apart a3.ownBlock t.ownBlock := zG cp co.lt
 have g2 := dm.new (x := a3.ownBlock) (fun k hk => by rw [cp] at hk; cases hk; exact Nat.le_refl _)
 have g3 : Own eByte 5 bq gv w.heap.size a3 ([]) := gw.weaken cl.size
 refine qM a3 ?_
 refine qe (zA (zB (zC ?_)))
 refine qM (vJ 0) ?_
 refine qe (zA (zB (zB (zC ?_))))
 refine qM u3 ?_
 refine qD rfl (zS Tryz.underlying65 (v := u3) rfl dp.read) ?_
 refine qM (vJ 0) ?_
 refine qe (zA ?_)
 refine zZ ?_
 refine yT (fun (k : Nat) (en : Nat → Value) (W : World) => ∃ (ba : Nat → Value) (i : Nat) (kva : Value) (kxa : List UInt8) (bn : Int) (GLa : Pin), en = (upd (upd (upd (upd (upd (upd (upd (upd (upd ba 0 (.pointer (some ⟨p, 0, none⟩))) 1 u3) 2 t) 6 (vJ 0)) 7 kva) 8 (vJ bn)) 28 u3) 29 (vJ (d.length : Int))) 30 (vJ (i : Int))) ∧ k = d.length - i ∧ Ext (inP p L R B mm) G w GLa W ∧ Pin.le bq GLa ∧ (i ≤ d.length) ∧ (kxa = keyL (d.take i)) ∧ (bn = bornOf q.bs (d.take i) 0) ∧ (0 ≤ bn ∧ bn ≤ q.ns.length) ∧ (Own eByte 5 GLa W w.heap.size kva (kxa)) ∧ (Own eInt 3 GLa W w.heap.size u3 (d)) ∧ (Own eInt 3 GLa W w.heap.size t (g)) ∧ (Apart kva.ownBlock u3.ownBlock) ∧ (Apart kva.ownBlock t.ownBlock) ∧ (Pk 65 3 GLa W p L R B mm q) ∧ (NP p L R B mm kva.ownBlock)) _ ⟨_, 0, a3, [], 0, bq, (pS 30 (pS 29 (pS 28 (pS 8 (pS 7 (pS 6 (pS 2 (pS 1 (pU 0))))))))), rfl, gx, Pin.le_refl _, Nat.zero_le _, (by simp [keyL]), rfl, (by omega), g3, dp, gy, g0, g1, gz, g2⟩ ?_
 rintro lj _ lk ⟨ba, i, kva, kxa, bn, GLa, rfl, lm, ax, g4, hji, hka, hbbn, hlbn, bu, bb, cq, bv, bw, cr, bz⟩
 have hkla : kxa.length ≤ 117440640 := by
  have := key_bound (j := i) bo hok.ar.ok.lim
  rw [hka]; omega
 refine zB (zC ?_)
 refine qD rfl (yR rfl rfl) ?_
 refine qe (zA (zB ?_))
 refine zY (p := ((i : Int) : Int) < (d.length : Int)) rfl rfl (fun g5 => ?_) (fun g5 => ?_)
 ·skip
  have hki := bo i (by omega)
  have hbk := hok.ar.ok.born (d.getD i 0).toNat (by omega)
  have g6 := dig13 (n := (d.getD i 0).toNat) (by omega)
  refine wp_skip ?_
  refine zA (zB ?_)
  refine zZ ?_
  refine zB (zC ?_)
  refine qD rfl (zQ Tryz.underlying65 sz3 (v := u3) rfl rfl bb.read (by omega) (by omega)) ?_
  refine qD rfl (zN (r := d.getD i 0) rfl ag3 (z := (i : Int)) rfl bb.read (Gadd.pins ax.pins u3) (by omega) (by omega)) ?_
  refine qM (vJ (d.getD i 0)) ?_
  refine qe (zA (zB (zC ?_)))
  refine qM kva ?_
  refine qM (vJ (d.getD i 0)) ?_
  refine qI rfl (zH (vs := [kva, (vJ (d.getD i 0)), (vJ 36)]) Tryz.func130 nm130 rfl rfl rfl ?_)
  refine Calls.mono (appendInt_spec (i := d.getD i 0) ax.pins (bu.weaken (Nat.zero_le _)) (by omega) (by omega)) ?_
  rintro _ ln ⟨cs, dq, rfl, g7, b0, bc⟩
  refine ⟨_, rfl, ?_⟩
  have dr := np_turn bz cr b0
  have ct := ax.trans bc (fun i hi => (yF bu) i hi)
  have g8 := bb.extS bc (notO bv.symm)
  have g9 := cq.extS bc (notO bw.symm)
  have ha := cr.extS bc (fun k hk hx => bz k hx hk)
  have ds : Apart u3.ownBlock cs.ownBlock := ap_turn b0 bv.symm (qQ bb)
  have dt : Apart t.ownBlock cs.ownBlock := ap_turn b0 bw.symm (qQ cq)
  have hc := g7.up (lo := w.heap.size) (fun k hk => (b0 k hk).elim (fun h => Nat.le_trans ax.size h) (fun h => (bu.lt k h).1))
  have lq : (kxa ++ dig36 (d.getD i 0).toNat).length = kxa.length + (dig36 (d.getD i 0).toNat).length := List.length_append
  refine qI rfl (yG (E := eByte) (e := 5) [(.int .u8 44)] [44] Tryz.underlying132 sz5 zr5 (by exact xK (by rfl)) (yE (by rfl)) rfl rfl rfl rfl (by decide) ct.pins (fun du hd he dv bd ls => ?_))
  have cu := ct.step dv bd
  have dw := g8.below bd
  have dx := g9.below bd
  have dy := hc.below bd
  have dz := ha.below bd dv
  have hf : Own eByte 5 dq hd w.heap.size du ([44]) := he.weaken ct.size
  refine qI rfl (oA (E := eByte) (v := cs) (u := du) 1 Tryz.underlying132 ap5 (by decide) rfl rfl cu.pins dy hf.src (cu.size) (fun b1 lu hg d0 b2 cv => ?_))
  have d1 := cu.write d0 b2 ((yF dy))
  have hh := dw.keptA b2 ds
  have hj := dx.keptA b2 dt
  have b3 := dz.kept b2 d0 dr
  have hm : Apart u3.ownBlock b1.ownBlock := zF ds cv dw.lt
  have hn : Apart t.ownBlock b1.ownBlock := zF dt cv dx.lt
  have ho := np_app dr dz cv
  have lv : ((kxa ++ dig36 (d.getD i 0).toNat) ++ ([44])).length = (kxa ++ dig36 (d.getD i 0).toNat).length + 1 := List.length_append
  refine qM b1 ?_
  refine qe (zA (zC ?_))
  refine qM (vJ bn) ?_
  refine qM (.pointer (some ⟨p, 0, none⟩)) ?_
  refine qD rfl (xM rfl) ?_
  refine qD rfl (zL (k := 2) rfl Tryz.underlying72 rfl nz65 rfl) ?_
  refine qD rfl (zM (u := B) ag65 rfl (b3.bx.cell (o := 2) rfl)) ?_
  refine qM (vJ (d.getD i 0)) ?_
  refine qD rfl (zQ Tryz.underlying65 sz3 (v := B) rfl rfl b3.ob.read (by omega) (by omega)) ?_
  refine qD rfl (zN (r := q.bs.getD (d.getD i 0).toNat 0) rfl ag3 (z := (d.getD i 0)) rfl b3.ob.read (Gadd.pins d1.pins B) (by omega) (by omega)) ?_
  refine qD rfl (yQ rfl rfl (by omega)) ?_
  refine qD rfl (r_max rfl rfl) ?_
  refine qM (vJ (max bn ((q.bs.getD (d.getD i 0).toNat 0) + 1))) ?_
  refine qe ?_
  refine yL ?_
  refine zA (zC ?_)
  refine qD rfl (yQ rfl rfl (by omega)) ?_
  refine qM (vJ ((i : Int) + 1)) ?_
  refine qe ?_
  refine yN ?_
  refine ⟨_, ?_, _, rfl, _, i + 1, b1, (kxa ++ dig36 (d.getD i 0).toNat) ++ ([44]), max bn ((q.bs.getD (d.getD i 0).toNat 0) + 1), dq, (pS 30 (pS 29 (pS 28 (pS 8 (pS 7 (pS 6 (pS 2 (pS 1 (pU 0))))))))), rfl, d1, (Pin.le_trans g4 bc.le), (by omega), (by rw [key_next (by omega), hka]), (by rw [hbbn, born_next (by omega)]), (by omega), hg, hh, hj, hm.symm, hn.symm, b3, ho⟩
  omega
 refine wp_exit ?_
 refine yB ?_
 refine yO ?_
 refine yM ?_
 refine zA (zB (zC ?_))
 refine qM kva ?_
 refine qI rfl (yG (E := eByte) (e := 5) [(.int .u8 124)] [124] Tryz.underlying132 sz5 zr5 (by exact xK (by rfl)) (yE (by rfl)) rfl rfl rfl rfl (by decide) ax.pins (fun d2 hq hs d3 be lw => ?_))
 have cw := ax.step d3 be
 have d4 := bu.below be
 have d5 := bb.below be
 have d6 := cq.below be
 have d7 := cr.below be d3
 have ht : Own eByte 5 GLa hq w.heap.size d2 ([124]) := hs.weaken ax.size
 refine qI rfl (oA (E := eByte) (v := kva) (u := d2) 1 Tryz.underlying132 ap5 (by decide) rfl rfl cw.pins d4 ht.src (cw.size) (fun b4 lx hu d8 b5 cx => ?_))
 have hv := cw.write d8 b5 ((yF d4))
 have hw := d5.keptA b5 bv.symm
 have d9 := d6.keptA b5 bw.symm
 have h0 := d7.kept b5 d8 bz
 have h1 : Apart u3.ownBlock b4.ownBlock := zF bv.symm cx d5.lt
 have h3 : Apart t.ownBlock b4.ownBlock := zF bw.symm cx d6.lt
 have h4 := np_app bz d7 cx
 have ly : (kxa ++ ([124])).length = kxa.length + 1 := List.length_append
 refine qM b4 ?_
 refine qe (zA (zB (zB (zC ?_))))
 rw [take_all (by omega)] at hka hbbn
 have hkk : keyL d ++ [124] = kxa ++ [124] := by rw [hka]
 refine qM t ?_
 refine qD rfl (zS Tryz.underlying65 (v := t) rfl d9.read) ?_
 refine qM (vJ 0) ?_
 refine qe (zA ?_)
 refine zZ ?_
 refine yT (fun (k : Nat) (en : Nat → Value) (W : World) => ∃ (ba : Nat → Value) (m : Nat) (kvb : Value) (kxb : List UInt8) (bm : Int) (GLb : Pin), en = (upd (upd (upd (upd (upd (upd (upd (upd (upd ba 0 (.pointer (some ⟨p, 0, none⟩))) 1 u3) 2 t) 6 (vJ 0)) 7 kvb) 8 (vJ bm)) 53 t) 54 (vJ (g.length : Int))) 55 (vJ (m : Int))) ∧ k = g.length - m ∧ Ext (inP p L R B mm) G w GLb W ∧ Pin.le GLa GLb ∧ (m ≤ g.length) ∧ (kxb = keyL d ++ [124] ++ keyL (g.take m)) ∧ (bm = bornOf q.bs (g.take m) bn) ∧ (0 ≤ bm ∧ bm ≤ q.ns.length) ∧ (Own eByte 5 GLb W w.heap.size kvb (kxb)) ∧ (Own eInt 3 GLb W w.heap.size u3 (d)) ∧ (Own eInt 3 GLb W w.heap.size t (g)) ∧ (Apart kvb.ownBlock u3.ownBlock) ∧ (Apart kvb.ownBlock t.ownBlock) ∧ (Pk 65 3 GLb W p L R B mm q) ∧ (NP p L R B mm kvb.ownBlock)) _ ⟨_, 0, b4, kxa ++ ([124]), bn, GLa, (pS 55 (pS 54 (pS 53 (pS 8 (pS 7 (pS 6 (pS 2 (pS 1 (pU 0))))))))), rfl, hv, Pin.le_refl _, Nat.zero_le _, (by rw [← hkk]; simp [keyL]), rfl, (by omega), hu, hw, d9, h1.symm, h3.symm, h0, h4⟩ ?_
 rintro lz _ av ⟨ba, m, kvb, kxb, bm, GLb, rfl, l0, ay, h5, l1, hkb, hbbm, hlbm, bf, cy, bg, ea, eb, cz, ec⟩
 have hklb : kxb.length ≤ 117440640 := by
  have := key_bound (j := m) cg hok.ar.ok.lim
  have h2 := key_bound (j := d.length) bo hok.ar.ok.lim; rw [hkb, List.length_append, List.length_append]; simp only [List.length_cons, List.length_nil]; rw [take_all (Nat.le_refl _)] at h2; omega
 refine zB (zC ?_)
 refine qD rfl (yR rfl rfl) ?_
 refine qe (zA (zB ?_))
 refine zY (p := ((m : Int) : Int) < (g.length : Int)) rfl rfl (fun h7 => ?_) (fun h7 => ?_)
 ·skip
  have hki := cg m (by omega)
  have hbk := hok.ar.ok.born (g.getD m 0).toNat (by omega)
  have g6 := dig13 (n := (g.getD m 0).toNat) (by omega)
  refine wp_skip ?_
  refine zA (zB ?_)
  refine zZ ?_
  refine zB (zC ?_)
  refine qD rfl (zQ Tryz.underlying65 sz3 (v := t) rfl rfl bg.read (by omega) (by omega)) ?_
  refine qD rfl (zN (r := g.getD m 0) rfl ag3 (z := (m : Int)) rfl bg.read (Gadd.pins ay.pins t) (by omega) (by omega)) ?_
  refine qM (vJ (g.getD m 0)) ?_
  refine qe (zA (zB (zC ?_)))
  refine qM kvb ?_
  refine qM (vJ (g.getD m 0)) ?_
  refine qI rfl (zH (vs := [kvb, (vJ (g.getD m 0)), (vJ 36)]) Tryz.func130 nm130 rfl rfl rfl ?_)
  refine Calls.mono (appendInt_spec (i := g.getD m 0) ay.pins (bf.weaken (Nat.zero_le _)) (by omega) (by omega)) ?_
  rintro _ l2 ⟨c0, ed, rfl, h8, b6, bh⟩
  refine ⟨_, rfl, ?_⟩
  have ee := np_turn ec cz b6
  have c1 := ay.trans bh (fun i hi => (yF bf) i hi)
  have h9 := cy.extS bh (notO ea.symm)
  have ia := bg.extS bh (notO eb.symm)
  have ib := cz.extS bh (fun k hk hx => ec k hx hk)
  have eg : Apart u3.ownBlock c0.ownBlock := ap_turn b6 ea.symm (qQ cy)
  have eh : Apart t.ownBlock c0.ownBlock := ap_turn b6 eb.symm (qQ bg)
  have ic := h8.up (lo := w.heap.size) (fun k hk => (b6 k hk).elim (fun h => Nat.le_trans ay.size h) (fun h => (bf.lt k h).1))
  have l3 : (kxb ++ dig36 (g.getD m 0).toNat).length = kxb.length + (dig36 (g.getD m 0).toNat).length := List.length_append
  refine qI rfl (yG (E := eByte) (e := 5) [(.int .u8 44)] [44] Tryz.underlying132 sz5 zr5 (by exact xK (by rfl)) (yE (by rfl)) rfl rfl rfl rfl (by decide) c1.pins (fun ei ie ig ej bi l4 => ?_))
  have c2 := c1.step ej bi
  have ek := h9.below bi
  have em := ia.below bi
  have eo := ic.below bi
  have ep := ib.below bi ej
  have ih : Own eByte 5 ed ie w.heap.size ei ([44]) := ig.weaken c1.size
  refine qI rfl (oA (E := eByte) (v := c0) (u := ei) 1 Tryz.underlying132 ap5 (by decide) rfl rfl c2.pins eo ih.src (c2.size) (fun b7 l5 ii eq b8 c3 => ?_))
  have es := c2.write eq b8 ((yF eo))
  have ij := ek.keptA b8 eg
  have ik := em.keptA b8 eh
  have b9 := ep.kept b8 eq ee
  have il : Apart u3.ownBlock b7.ownBlock := zF eg c3 ek.lt
  have im : Apart t.ownBlock b7.ownBlock := zF eh c3 em.lt
  have io := np_app ee ep c3
  have l6 : ((kxb ++ dig36 (g.getD m 0).toNat) ++ ([44])).length = (kxb ++ dig36 (g.getD m 0).toNat).length + 1 := List.length_append
  refine qM b7 ?_
  refine qe (zA (zC ?_))
  refine qM (vJ bm) ?_
  refine qM (.pointer (some ⟨p, 0, none⟩)) ?_
  refine qD rfl (xM rfl) ?_
  refine qD rfl (zL (k := 2) rfl Tryz.underlying72 rfl nz65 rfl) ?_
  refine qD rfl (zM (u := B) ag65 rfl (b9.bx.cell (o := 2) rfl)) ?_
  refine qM (vJ (g.getD m 0)) ?_
  refine qD rfl (zQ Tryz.underlying65 sz3 (v := B) rfl rfl b9.ob.read (by omega) (by omega)) ?_
  refine qD rfl (zN (r := q.bs.getD (g.getD m 0).toNat 0) rfl ag3 (z := (g.getD m 0)) rfl b9.ob.read (Gadd.pins es.pins B) (by omega) (by omega)) ?_
  refine qD rfl (yQ rfl rfl (by omega)) ?_
  refine qD rfl (r_max rfl rfl) ?_
  refine qM (vJ (max bm ((q.bs.getD (g.getD m 0).toNat 0) + 1))) ?_
  refine qe ?_
  refine yL ?_
  refine zA (zC ?_)
  refine qD rfl (yQ rfl rfl (by omega)) ?_
  refine qM (vJ ((m : Int) + 1)) ?_
  refine qe ?_
  refine yN ?_
  refine ⟨_, ?_, _, rfl, _, m + 1, b7, (kxb ++ dig36 (g.getD m 0).toNat) ++ ([44]), max bm ((q.bs.getD (g.getD m 0).toNat 0) + 1), ed, (pS 55 (pS 54 (pS 53 (pS 8 (pS 7 (pS 6 (pS 2 (pS 1 (pU 0))))))))), rfl, es, (Pin.le_trans h5 bh.le), (by omega), (by rw [key_next (by omega), hkb]; simp only [List.append_assoc]), (by rw [hbbm, born_next (by omega)]), (by omega), ii, ij, ik, il.symm, im.symm, b9, io⟩
  omega
 refine wp_exit ?_
 refine yB ?_
 refine yO ?_
 refine yM ?_
 refine zA (zB (zB ?_))
 rw [take_all (by omega)] at hkb hbbm
 have hkey : kxb = keyN d g := by rw [hkb]; rfl
 have ip := Gadd.pins ay.pins kvb
 have l7 := bf.read
 refine xF (S := fun wz => BxR wz p [L, R, B, (.map (some mm.f)), (.map (some mm.o)), (.map (some mm.c)), (.map (some mm.s)), (.map (some mm.n))] ∧ Pins (Gadd GLb av kvb) wz) (last := 12) (by kernel_rfl) rfl ?_
 have az : Below av.heap.size av av.drew := (Below.refl _ _).drew
 have et := ay.pins.below az
 have bj := ay.step et az
 have c4 := bf.below az
 have iq := cy.below az
 have ir := bg.below az
 have a := cz.below az et
 have ad := ip.below az
 refine dT (i := 0) rfl rfl (by kernel_rfl) (fun _ _ => zU (v := (.pointer (some ⟨p, 0, none⟩))) rfl) ⟨a.bx.reads, ad⟩ ?_
 refine dT (i := 1) rfl rfl (by kernel_rfl) (fun _ _ => xM rfl) ⟨a.bx.reads, ad⟩ ?_
 refine dT (i := 2) rfl rfl (by kernel_rfl) (fun _ _ => zL (k := 3) rfl Tryz.underlying72 rfl nz67 rfl) ⟨a.bx.reads, ad⟩ ?_
 refine dT (i := 3) rfl rfl (by kernel_rfl) (fun _ hS => zM (u := (.map (some mm.f))) ag67 rfl (hS.1 3 _ rfl)) ⟨a.bx.reads, ad⟩ ?_
 refine dT (i := 4) rfl rfl (by kernel_rfl) (fun _ _ => zU (v := kvb) rfl) ⟨a.bx.reads, ad⟩ ?_
 refine dO (i := 5) (zK (i := 5) rfl rfl rfl (zD rfl _) (EO.run (r_b2s Tryz.underlying132 Tryz.underlying5 Tryz.underlying9 rfl c4.read (Gadd.pins bj.pins kvb)) ?_))
 refine ⟨fun _ => ⟨a.bx.reads, ad⟩, ?_⟩
 refine dO (i := 6) (zK (i := 6) rfl rfl rfl (zD rfl _) (EO.run (run_lookv_int (k := (b2s kxb)) (key_str Tryz.underlying9) Tryz.underlying67 zr3 a.ff rfl rfl) ?_))
 refine ⟨fun _ => ⟨a.bx.reads, ad⟩, ?_⟩
 refine dT (i := 7) rfl rfl (by kernel_rfl) (fun _ _ => zU (v := (.tuple #[(vJ ((Go.GL.look q.fl (b2s kxb)).getD 0)), (.bool ((Go.GL.look q.fl (b2s kxb)).isSome))])) rfl) ⟨a.bx.reads, ad⟩ ?_
 refine dT (i := 8) rfl rfl (by kernel_rfl) (fun _ _ => zT (v := (vJ ((Go.GL.look q.fl (b2s kxb)).getD 0))) rfl rfl) ⟨a.bx.reads, ad⟩ ?_
 refine dT (i := 9) rfl rfl (by kernel_rfl) (fun _ _ => zT (v := (.bool ((Go.GL.look q.fl (b2s kxb)).isSome))) rfl rfl) ⟨a.bx.reads, ad⟩ ?_
 refine dT (i := 10) rfl rfl (by kernel_rfl) (fun _ _ => r_assign (v := (vJ ((Go.GL.look q.fl (b2s kxb)).getD 0))) rfl) ⟨a.bx.reads, ad⟩ ?_
 refine dT (i := 11) rfl rfl (by kernel_rfl) (fun _ _ => r_assign (v := (.bool ((Go.GL.look q.fl (b2s kxb)).isSome))) rfl) ⟨a.bx.reads, ad⟩ ?_
 refine yH (by kernel_rfl) ?_
 refine zA (zB (zC ?_))
 refine qM (.bool ((Go.GL.look q.fl (b2s kxb)).isSome)) ?_
 refine qe (zA ?_)
 refine c_if rfl rfl (fun c5 => ?_) (fun c5 => ?_)
 ·skip
  refine zB (zC ?_)
  refine qM (vJ ((Go.GL.look q.fl (b2s kxb)).getD 0)) ?_
  refine qM (vJ ((Go.GL.look q.fl (b2s kxb)).getD 0)) ?_
  refine qe (zA ?_)
  refine wp_ret ?_
  refine zO ?_
  refine zP (v := (vJ ((Go.GL.look q.fl (b2s kxb)).getD 0))) rfl rfl rfl ?_
  obtain ⟨z, hz⟩ := Option.isSome_iff_exists.1 c5
  have hlk := hz
  rw [hkey, aq, au] at hlk
  obtain ⟨f1, f2⟩ := lookF hok hk1 hk2 hlk
  rw [hz]
  exact ⟨z, L, R, B, q, GLb, rfl, a, hok, (PX.refl _), PIn.lo hpin rfl, bj, f1, f2, by omega, rfl, Or.inl rfl⟩
 refine wp_skip ?_
 refine zA (zB (zC ?_))
 refine qM (.pointer (some ⟨p, 0, none⟩)) ?_
 refine qD rfl (xM rfl) ?_
 refine qD rfl (zL (k := 2) rfl Tryz.underlying72 rfl nz65 rfl) ?_
 refine qD rfl (zM (u := B) ag65 rfl (a.bx.cell (o := 2) rfl)) ?_
 refine qD rfl (zS Tryz.underlying65 (v := B) rfl a.ob.read) ?_
 refine qM (vJ (q.bs.length : Int)) ?_
 refine qe (zA (zB ?_))
 have hnone : Go.GL.look q.fl (b2s kxb) = none := by simpa using c5
 rw [hkey, aq, au] at hnone
 have hadd := hok.add (b := bm) hlim hls hk1 hk2 hnone (by rw [hbbm, hbbn, aq, au])
 have iv := Gadd.pins bj.pins kvb
 have l8 := c4.read
 refine xF (S := fun wz => BxR wz p [L, R, B, (.map (some mm.f)), (.map (some mm.o)), (.map (some mm.c)), (.map (some mm.s)), (.map (some mm.n))] ∧ Pins (Gadd GLb av.drew kvb) wz) (last := 7) (by kernel_rfl) rfl ?_
 have ab : Below av.drew.heap.size av.drew av.drew.drew := (Below.refl _ _).drew
 have iw := bj.pins.below ab
 have c6 := bj.step iw ab
 have ix := c4.below ab
 have eu := iq.below ab
 have ev := ir.below ab
 have ew := a.ol.below ab
 have ex := a.rr.below ab
 have ey := a.ob.below ab
 have al := a.bx.below ab
 have a0 := a.ff.below ab
 have iy := a.fo.below ab
 have iz := a.fc.below ab
 have i0 := a.fs.below ab
 have i1 := a.fn.below ab
 have a1 := iv.below ab
 refine dT (i := 0) rfl rfl (by kernel_rfl) (fun _ _ => zU (v := (.pointer (some ⟨p, 0, none⟩))) rfl) ⟨al.reads, a1⟩ ?_
 refine dT (i := 1) rfl rfl (by kernel_rfl) (fun _ _ => xM rfl) ⟨al.reads, a1⟩ ?_
 refine dT (i := 2) rfl rfl (by kernel_rfl) (fun _ _ => zL (k := 3) rfl Tryz.underlying72 rfl nz67 rfl) ⟨al.reads, a1⟩ ?_
 refine dT (i := 3) rfl rfl (by kernel_rfl) (fun _ hS => zM (u := (.map (some mm.f))) ag67 rfl (hS.1 3 _ rfl)) ⟨al.reads, a1⟩ ?_
 refine dT (i := 4) rfl rfl (by kernel_rfl) (fun _ _ => zU (v := kvb) rfl) ⟨al.reads, a1⟩ ?_
 refine dT (i := 6) rfl rfl (by kernel_rfl) (fun _ _ => zU (v := (vJ (q.bs.length : Int))) rfl) ⟨al.reads, a1⟩ ?_
 refine dO (i := 5) (zK (i := 5) rfl rfl rfl (zD rfl _) (EO.run (r_b2s Tryz.underlying132 Tryz.underlying5 Tryz.underlying9 rfl ix.read (Gadd.pins c6.pins kvb)) ?_))
 refine ⟨fun _ => ⟨al.reads, a1⟩, ?_⟩
 refine dO (i := 7) (qL (i := 7) rfl rfl rfl (zD rfl _) (o_mapUpdate (val := (fun v : Int => Value.int .i64 v)) (k := (b2s kxb)) (v := (q.bs.length : Int)) (key_str Tryz.underlying9) Tryz.underlying67 rfl rfl rfl c6.pins a0 (fun l9 i3 i4 ae ma => ?_)))
 have i5 := c6.write i4 ae ((PIn.f hpin))
 have i6 := eu.keptA ae (yA a0 eu).symm
 have i7 := ev.keptA ae (yA a0 ev).symm
 have i8 := ew.keptA ae (yA a0 ew).symm
 have i9 := ex.keptA ae (yA a0 ex).symm
 have ja := ey.keptA ae (yA a0 ey).symm
 have ez := al.keptA ae (xD a0 al).symm
 have jb := iy.kept ae (apart_maps a.df.fo).symm
 have jc := iz.kept ae (apart_maps a.df.fc).symm
 have jd := i0.kept ae (apart_maps a.df.fs).symm
 have je := i1.kept ae (apart_maps a.df.fn).symm
 refine ⟨fun h => absurd rfl h, ?_⟩
 refine yH (by kernel_rfl) ?_
 refine zA (zB (zC ?_))
 refine qM (.pointer (some ⟨p, 0, none⟩)) ?_
 refine qM (.pointer (some ⟨p, 0, none⟩)) ?_
 refine qD rfl (xM rfl) ?_
 refine qD rfl (zL (k := 0) rfl Tryz.underlying72 rfl nz66 rfl) ?_
 refine qD rfl (zM (u := L) ag66 rfl (ez.cell (o := 0) rfl)) ?_
 refine qM u3 ?_
 obtain ⟨jf, ca, c7, e0, bk⟩ := i6.sealed i5
 have jg := i7.moreO ca bk gu
 have jh := i8.moreO ca bk (NP.hl bp).symm
 have ji := i9.moreO ca bk (NP.hr bp).symm
 have jj := ja.moreO ca bk (NP.hb bp).symm
 have jk := ez.moreO bk (NP.hp bp).symm
 refine qI rfl (yG (E := (eSl eInt)) (e := 65) [u3] [d] Tryz.underlying66 sz65 zr65 (by exact xK (⟨_, rfl, e0⟩)) (yE e0.one) rfl rfl rfl rfl (by decide) c7.pins (fun e1 jl jm jn af mb => ?_))
 have c8 := c7.step jn af
 have e2 := jg.below af
 have a4 := jh.below af
 have e3 := ji.below af
 have e4 := jj.below af
 have e5 := jk.below af
 have e6 := i3.below af
 have e7 := jb.below af
 have e8 := jc.below af
 have e9 := jd.below af
 have fa := je.below af
 have jo : Own (eSl eInt) 65 jf jl w.heap.size e1 ([d]) := jm.weaken c7.size
 refine qI rfl (oA (E := (eSl eInt)) (v := L) (u := e1) 24 Tryz.underlying66 ap65 (by decide) rfl rfl c8.pins a4 jo.src (Nat.zero_le _) (fun ac mc c9 jp ag bl => ?_))
 have fb := c8.write jp ag ((PIn.ll hpin))
 have jq := e2.keptA ag (NP.hl a2)
 have jr := e3.keptA ag a.alr.symm
 have js := e4.keptA ag a.alb.symm
 have a5 := e5.keptA ag a.apl
 have fd := e6.kept ag (yA e6 a4)
 have fe := e7.kept ag (yA e7 a4)
 have fg := e8.kept ag (yA e8 a4)
 have fh := e9.kept ag (yA e9 a4)
 have fi := fa.kept ag (yA fa a4)
 have jt : Apart t.ownBlock ac.ownBlock := zF (NP.hl a2) bl e2.lt
 have fj : Apart R.ownBlock ac.ownBlock := zF a.alr.symm bl e3.lt
 have fk : Apart B.ownBlock ac.ownBlock := zF a.alb.symm bl e4.lt
 have cb : Apart (some p) ac.ownBlock := zJ a.apl bl e5.lt
 have ju : Lo w (inP p L R B mm) ac.ownBlock := lo_app (PIn.ll hpin) bl c8.size
 have md : ((q.ns.map Nd.l) ++ ([d])).length = (q.ns.map Nd.l).length + 1 := List.length_append
 refine qD rfl (xM rfl) ?_
 refine qD rfl (zL (k := 0) rfl Tryz.underlying72 rfl nz66 rfl) ?_
 refine q0 rfl rfl rfl (yP (cs' := [ac, R, B, (.map (some mm.f)), (.map (some mm.o)), (.map (some mm.c)), (.map (some mm.s)), (.map (some mm.n))]) (us := [ac]) (v := ac) sz66 rfl rfl (cells1 c9.one) (yE c9.one) fb.pins a5 (Nat.le_of_ble_eq_true rfl) rfl (fun me fm jv ah mf => ?_))
 have jw := fb.write jv ah ((PIn.lp hpin))
 have jx := jq.keptA ah (NP.hp a2)
 have jy := jr.keptA ah a.apr.symm
 have jz := js.keptA ah a.apb.symm
 have j0 := c9.keptA ah cb.symm
 have j1 := fd.kept ah (xD fd a5)
 have j2 := fe.kept ah (xD fe a5)
 have j3 := fg.kept ah (xD fg a5)
 have j4 := fh.kept ah (xD fh a5)
 have j5 := fi.kept ah (xD fi a5)
 refine qe (zA (zB (zC ?_)))
 refine qM (.pointer (some ⟨p, 0, none⟩)) ?_
 refine qM (.pointer (some ⟨p, 0, none⟩)) ?_
 refine qD rfl (xM rfl) ?_
 refine qD rfl (zL (k := 1) rfl Tryz.underlying72 rfl nz66 rfl) ?_
 refine qD rfl (zM (u := R) ag66 rfl (fm.cell (o := 1) rfl)) ?_
 refine qM t ?_
 obtain ⟨da, db, dc, fp, cc⟩ := jx.sealed jw
 have j6 := jy.moreO db cc (NP.hr a2).symm
 have j7 := jz.moreO db cc (NP.hb a2).symm
 have j8 := j0.moreO db cc jt.symm
 have j9 := fm.moreO cc (NP.hp a2).symm
 refine qI rfl (yG (E := (eSl eInt)) (e := 65) [t] [g] Tryz.underlying66 sz65 zr65 (by exact xK (⟨_, rfl, fp⟩)) (yE fp.one) rfl rfl rfl rfl (by decide) dc.pins (fun fq ka kb kc ai mg => ?_))
 have dd := dc.step kc ai
 have a6 := j6.below ai
 have fr := j7.below ai
 have ft := j8.below ai
 have fu := j9.below ai
 have fv := j1.below ai
 have fw := j2.below ai
 have fx := j3.below ai
 have fy := j4.below ai
 have fz := j5.below ai
 have kd : Own (eSl eInt) 65 da ka w.heap.size fq ([g]) := kb.weaken dc.size
 refine qI rfl (oA (E := (eSl eInt)) (v := R) (u := fq) 24 Tryz.underlying66 ap65 (by decide) rfl rfl dd.pins a6 kd.src (Nat.zero_le _) (fun aj mh de ke am cd => ?_))
 have f0 := dd.write ke am ((PIn.lr hpin))
 have kf := fr.keptA am a.arb.symm
 have kg := ft.keptA am fj.symm
 have a7 := fu.keptA am a.apr
 have f3 := fv.kept am (yA fv a6)
 have f4 := fw.kept am (yA fw a6)
 have f5 := fx.kept am (yA fx a6)
 have f6 := fy.kept am (yA fy a6)
 have f7 := fz.kept am (yA fz a6)
 have f8 : Apart B.ownBlock aj.ownBlock := zF a.arb.symm cd fr.lt
 have kh : Apart ac.ownBlock aj.ownBlock := zF fj.symm cd ft.lt
 have dg : Apart (some p) aj.ownBlock := zJ a.apr cd fu.lt
 have ki : Lo w (inP p L R B mm) aj.ownBlock := lo_app (PIn.lr hpin) cd dd.size
 have mi : ((q.ns.map Nd.r) ++ ([g])).length = (q.ns.map Nd.r).length + 1 := List.length_append
 refine qD rfl (xM rfl) ?_
 refine qD rfl (zL (k := 1) rfl Tryz.underlying72 rfl nz66 rfl) ?_
 refine q0 rfl rfl rfl (yP (cs' := [ac, aj, B, (.map (some mm.f)), (.map (some mm.o)), (.map (some mm.c)), (.map (some mm.s)), (.map (some mm.n))]) (us := [aj]) (v := aj) sz66 rfl rfl (cells1 de.one) (yE de.one) f0.pins a7 (Nat.le_of_ble_eq_true rfl) rfl (fun mj f9 kj an mk => ?_))
 have dh := f0.write kj an ((PIn.lp hpin))
 have kk := kf.keptA an a.apb.symm
 have kl := kg.keptA an cb.symm
 have km := de.keptA an dg.symm
 have kn := f3.kept an (xD f3 a7)
 have ko := f4.kept an (xD f4 a7)
 have kp := f5.kept an (xD f5 a7)
 have kq := f6.kept an (xD f6 a7)
 have kr := f7.kept an (xD f7 a7)
 refine qe (zA (zB (zC ?_)))
 refine qM (.pointer (some ⟨p, 0, none⟩)) ?_
 refine qM (.pointer (some ⟨p, 0, none⟩)) ?_
 refine qD rfl (xM rfl) ?_
 refine qD rfl (zL (k := 2) rfl Tryz.underlying72 rfl nz65 rfl) ?_
 refine qD rfl (zM (u := B) ag65 rfl (f9.cell (o := 2) rfl)) ?_
 refine qM (vJ bm) ?_
 refine qI rfl (yG (E := eInt) (e := 3) [(vJ bm)] [bm] Tryz.underlying65 sz3 zr3 (by exact xK (by rfl)) (yE (by rfl)) rfl rfl rfl rfl (by decide) dh.pins (fun ga ks kt ku ak ml => ?_))
 have di := dh.step ku ak
 have a8 := kk.below ak
 have gb := kl.below ak
 have gc := km.below ak
 have gd := f9.below ak
 have ge := kn.below ak
 have gf := ko.below ak
 have gg := kp.below ak
 have gh := kq.below ak
 have gi := kr.below ak
 have kv : Own eInt 3 da ks w.heap.size ga ([bm]) := kt.weaken dh.size
 refine qI rfl (oA (E := eInt) (v := B) (u := ga) 8 Tryz.underlying65 ap3 (by decide) rfl rfl di.pins a8 kv.src (Nat.zero_le _) (fun aw mn dj kw ao ce => ?_))
 have gj := di.write kw ao ((PIn.lb hpin))
 have kx := gb.keptA ao fk.symm
 have ky := gc.keptA ao f8.symm
 have a9 := gd.keptA ao a.apb
 have gk := ge.kept ao (yA ge a8)
 have gl := gf.kept ao (yA gf a8)
 have gm := gg.kept ao (yA gg a8)
 have gn := gh.kept ao (yA gh a8)
 have gp := gi.kept ao (yA gi a8)
 have kz : Apart ac.ownBlock aw.ownBlock := zF fk.symm ce gb.lt
 have k0 : Apart aj.ownBlock aw.ownBlock := zF f8.symm ce gc.lt
 have gq : Apart (some p) aw.ownBlock := zJ a.apb ce gd.lt
 have k1 : Lo w (inP p L R B mm) aw.ownBlock := lo_app (PIn.lb hpin) ce di.size
 have mo : (q.bs ++ ([bm])).length = q.bs.length + 1 := List.length_append
 refine qD rfl (xM rfl) ?_
 refine qD rfl (zL (k := 2) rfl Tryz.underlying72 rfl nz65 rfl) ?_
 refine q0 rfl rfl rfl (yP (cs' := [ac, aj, aw, (.map (some mm.f)), (.map (some mm.o)), (.map (some mm.c)), (.map (some mm.s)), (.map (some mm.n))]) (us := [aw]) (v := aw) sz65 rfl rfl (cells1 dj.one) (yE dj.one) gj.pins a9 (Nat.le_of_ble_eq_true rfl) rfl (fun mp k2 k3 ap mq => ?_))
 have k4 := gj.write k3 ap ((PIn.lp hpin))
 have k5 := kx.keptA ap cb.symm
 have k6 := ky.keptA ap dg.symm
 have k7 := dj.keptA ap gq.symm
 have k8 := gk.kept ap (xD gk a9)
 have k9 := gl.kept ap (xD gl a9)
 have la := gm.kept ap (xD gm a9)
 have lc := gn.kept ap (xD gn a9)
 have ld := gp.kept ap (xD gp a9)
 refine qe (zA (zB (zC ?_)))
 refine qM (vJ (q.bs.length : Int)) ?_
 refine qM (vJ (q.bs.length : Int)) ?_
 refine qe (zA ?_)
 refine wp_ret ?_
 refine zO ?_
 refine zP (v := (vJ (q.bs.length : Int))) rfl rfl rfl ?_
 have el : (q.ns.map Nd.l) ++ [d] = (addQ q xs ys bm).ns.map Nd.l := by rw [aq]; simp [addQ]
 have er : (q.ns.map Nd.r) ++ [g] = (addQ q xs ys bm).ns.map Nd.r := by rw [au]; simp [addQ]
 have ef : putE q.fl (b2s kxb) (q.bs.length : Int) = (addQ q xs ys bm).fl := by rw [hkey, aq, au, hok.ar.ok.len]; rfl
 have hol := k5
 have hor := k6
 have hff := k8
 rw [el] at hol
 rw [er] at hor
 rw [ef] at hff
 exact ⟨(q.bs.length : Int), ac, aj, aw, addQ q xs ys bm, da, rfl, ⟨k2, hol, hor, k7, hff, k9, la, lc, ld, cb, dg, gq, kh, kz, k0, a.df⟩, hadd.1, hadd.2.1, ⟨ju, ki, k1⟩, k4, by rw [hok.ar.ok.len]; exact hadd.2.2.1, by rw [hok.ar.ok.len]; exact hadd.2.2.2.1, hadd.2.2.2.2, rfl, Or.inr (by omega)⟩

end PO1
end Go.Proofs.YtfnginkcmcfdfaaGreatDoor

set_option maxRecDepth 20000
set_option maxHeartbeats 2000000
namespace Go.Proofs.YtfnginkcmcfdfaaGreatDoor
namespace PL1
open Go.RowKit Go.GL Go.Proofs
open Go.Proofs.YtfnginkcmcfdfaaGreatDoor.B1
open Go.Proofs.YtfnginkcmcfdfaaGreatDoor.K1
open Go.Proofs.YtfnginkcmcfdfaaGreatDoor.PO1
theorem pl72 : (Tryz.prog.underlying 72).bind (placesD Tryz.prog) = some [(0, 1), (1, 1), (2, 1), (3, 1), (4, 1), (5, 1), (6, 1), (7, 1)] := by kernel_rfl

theorem newPool_spec {w : World} {G : Pin} (hP : Pins G w) :
  Calls Tryz.prog 51 [].toArray w fun e w' => ∃ (p : Nat) (mm : PM) (G' : Pin), e = .returned (.pointer (some ⟨p, 0, none⟩)) ∧ Pk 65 3 G' w' p (.slice none 0 0) (.slice none 0 0) (.slice none 0 0) mm ⟨[], [], [], [], [], [], []⟩ ∧ (∀ k, inP p (.slice none 0 0) (.slice none 0 0) (.slice none 0 0) mm k → w.heap.size ≤ k) ∧ Ext noS G w G' w' := by
 refine zV (n := 8) Tryz.func51 Tryz.ntmps51 rfl rfl ?_
 have o : Ext noS G w G w := Ext.refl hP
 refine zB (zC ?_)
 refine qM (.pointer none) ?_
 refine qe (zA (zB (zC ?_)))
 refine qI rfl (o_makeMap (fun k : ByteArray => Value.string k) (fun v : Int => Value.int .i64 v) o.pins (fun a w2 bo z al am => ?_))
 have q := o.step al am
 have an : w.heap.size ≤ a := by have := o.size; omega
 refine qI rfl (o_makeMap encP2 (fun v : Bool => Value.bool v) q.pins (fun b bp ao aa ap ab => ?_))
 have r := q.step ap ab
 have ac := z.below ab
 have aq : Apart (some b) (some a) := zI (congrArg some ao) z.lt
 have ar : w.heap.size ≤ b := by have := q.size; omega
 refine qI rfl (o_makeMap (fun k : Int => Value.int .i64 k) (fun v : Int => Value.int .i64 v) r.pins (fun c bq ad ae au s => ?_))
 have t := r.step au s
 have af := ac.below s
 have ag := aa.below s
 have av : Apart (some c) (some a) := zI (congrArg some ad) ac.lt
 have aw : Apart (some c) (some b) := zI (congrArg some ad) aa.lt
 have ax : w.heap.size ≤ c := by have := r.size; omega
 refine qI rfl (o_makeMap encP2 (fun v : Int => Value.int .i64 v) t.pins (fun d br u ah ay l => ?_))
 have x := t.step ay l
 have ai := af.below l
 have aj := ag.below l
 have ak := ae.below l
 have az : Apart (some d) (some a) := zI (congrArg some u) af.lt
 have a0 : Apart (some d) (some b) := zI (congrArg some u) ag.lt
 have a1 : Apart (some d) (some c) := zI (congrArg some u) ae.lt
 have a2 : w.heap.size ≤ d := by have := t.size; omega
 refine qI rfl (o_makeMap (fun k : Int => Value.int .i64 k) (fun v : Int => Value.int .i64 v) x.pins (fun f bs m a3 a4 i => ?_))
 have y := x.step a4 i
 have a5 := ai.below i
 have a6 := aj.below i
 have a7 := ak.below i
 have a8 := ah.below i
 have a9 : Apart (some f) (some a) := zI (congrArg some m) ai.lt
 have ba : Apart (some f) (some b) := zI (congrArg some m) aj.lt
 have bb : Apart (some f) (some c) := zI (congrArg some m) ak.lt
 have bc : Apart (some f) (some d) := zI (congrArg some m) ah.lt
 have bd : w.heap.size ≤ f := by have := x.size; omega
 refine qD rfl (yU [(.slice none 0 0), (.slice none 0 0), (.slice none 0 0), (.map none), (.map none), (.map none), (.map none), (.map none)] [(.slice none 0 0), (.slice none 0 0), (.slice none 0 0), (.map (some a)), (.map (some b)), (.map (some c)), (.map (some d)), (.map (some f))] [(3, (.map (some a)), [(.map (some a))]), (4, (.map (some b)), [(.map (some b))]), (5, (.map (some c)), [(.map (some c))]), (6, (.map (some d)), [(.map (some d))]), (7, (.map (some f)), [(.map (some f))])] Tryz.underlying72 zr72 rfl pl72 rfl (List.forall_mem_cons.2 ⟨rfl, (List.forall_mem_cons.2 ⟨rfl, (List.forall_mem_cons.2 ⟨rfl, (List.forall_mem_cons.2 ⟨rfl, (List.forall_mem_cons.2 ⟨rfl, (fun _ h => by cases h)⟩)⟩)⟩)⟩)⟩) rfl) ?_
 refine qI rfl (xI [(.slice none 0 0), (.slice none 0 0), (.slice none 0 0), (.map (some a)), (.map (some b)), (.map (some c)), (.map (some d)), (.map (some f))] (v := (.agg [(.slice none 0 0), (.slice none 0 0), (.slice none 0 0), (.map (some a)), (.map (some b)), (.map (some c)), (.map (some d)), (.map (some f))].toArray)) rfl rfl y.pins (fun j bt bu be bf g => ?_))
 have bg := y.step bf g
 have bh := a5.below g
 have bi := a6.below g
 have bj := a7.below g
 have bk := a8.below g
 have bl := a3.below g
 have bm : w.heap.size ≤ j := by have := y.size; omega
 refine qM (.pointer (some ⟨j, 0, none⟩)) ?_
 refine qe (zA ?_)
 refine wp_ret ?_
 refine zO ?_
 refine zP (v := (.pointer (some ⟨j, 0, none⟩))) rfl rfl rfl ?_
 have hdf : PDiff ⟨a, b, c, d, f⟩ := ⟨fun e => aq.symm _ rfl (congrArg some e.symm), fun e => av.symm _ rfl (congrArg some e.symm), fun e => az.symm _ rfl (congrArg some e.symm), fun e => a9.symm _ rfl (congrArg some e.symm), fun e => aw.symm _ rfl (congrArg some e.symm), fun e => a0.symm _ rfl (congrArg some e.symm), fun e => ba.symm _ rfl (congrArg some e.symm), fun e => a1.symm _ rfl (congrArg some e.symm), fun e => bb.symm _ rfl (congrArg some e.symm), fun e => bc.symm _ rfl (congrArg some e.symm)⟩
 have hfr : ∀ k, inP j (.slice none 0 0) (.slice none 0 0) (.slice none 0 0) ⟨a, b, c, d, f⟩ k → w.heap.size ≤ k := by rintro k (rfl | hk | hk | hk | rfl | rfl | rfl | rfl | rfl) <;> first | (cases hk; done) | exact bm | exact an | exact ar | exact ax | exact a2 | exact bd
 exact ⟨j, ⟨a, b, c, d, f⟩, _, rfl, ⟨be, (Own.nil _ _ _ _ _), (Own.nil _ _ _ _ _), (Own.nil _ _ _ _ _), bh, bi, bj, bk, bl, apart_none.symm, apart_none.symm, apart_none.symm, apart_none, apart_none, apart_none, hdf⟩, hfr, bg⟩

end PL1
end Go.Proofs.YtfnginkcmcfdfaaGreatDoor

set_option maxRecDepth 20000
set_option maxHeartbeats 2000000
namespace Go.Proofs.YtfnginkcmcfdfaaGreatDoor
namespace PA1
open Go.RowKit Go.GL Go.Proofs










theorem parts_spec {w : World} {G : Pin} {p : Nat} {L R B : Value} {mm : PM} {q : PSt} (hP : Pins G w) (hpk : Pk 65 3 G w p L R B mm q) (hok : PoolOk q) {x : Value} {xs : List Int} (hx : RSl eInt G x xs) (hr : ∀ i, i < xs.length → PlaceOk q (xs.getD i 0)) (hxl : xs.length ≤ 1048576) :
  Calls Tryz.prog 103 [(.pointer (some ⟨p, 0, none⟩)), x].toArray w fun e w' => ∃ (u : Value) (zs : List Int) (G' : Pin), e = .returned u ∧ Own eInt 3 G' w' w.heap.size u zs ∧ PtOk q xs zs zs.length ∧ Ext noS G w G' w' := by
 refine zV (n := 82) Tryz.func103 Tryz.ntmps103 rfl rfl ?_
 have bl : Ext noS G w G w := Ext.refl hP
 have hpin : PIn w (inP p L R B mm) p L R B mm := PIn.self
 have eg : (q.ns.map Nd.l).length = q.ns.length ∧ (q.ns.map Nd.r).length = q.ns.length := ⟨List.length_map .., List.length_map ..⟩
 have eh : q.bs.length = q.ns.length ∧ q.ns.length ≤ 1048576 := ⟨hok.ar.ok.len, hok.ar.ok.lim⟩
 have hm := hx.max
 refine zB (zC ?_)
 refine qM (.slice none 0 0) ?_
 refine qe (zA (zB (zC ?_)))
 refine qI rfl (o_makeMap (fun k : Int => Value.int .i64 k) (fun v : Bool => Value.bool v) bl.pins (fun m3 w4 ej cx b6 b7 => ?_))
 have bm := bl.step b6 b7
 have b8 := hpk.below b7 b6
 have b9 := hpk.new (x := some m3) (fun k hk => by cases hk; omega)
 have ca : w.heap.size ≤ m3 := by have := bl.size; omega
 refine qM (.map (some m3)) ?_
 refine qe (zA (zB (zC ?_)))
 refine qI rfl (xH (E := eInt) (e := 3) Tryz.underlying65 sz3 bm.pins (fun a5 cy cz cb bn c0 => ?_))
 have c1 := bm.step cb bn
 have c2 := cx.below bn
 have c3 := b8.below bn cb
 have c4 := b8.new (x := a5.ownBlock) (fun k hk => by rw [c0] at hk; cases hk; exact Nat.le_refl _)
 have c5 : Own eInt 3 G cy w.heap.size a5 ([]) := cz.weaken bm.size
 refine qM a5 ?_
 refine qe (zA (zB (zB (zC ?_))))
 refine qM x ?_
 refine qD rfl (zS Tryz.underlying65 (v := x) rfl hx) ?_
 refine qM (vJ 0) ?_
 refine qe (zA ?_)
 refine zZ ?_
 refine yT (fun (k : Nat) (en : Nat → Value) (W : World) => ∃ (ad : Nat → Value) (i : Nat) (lv : Value) (ls : List Int) (sn : List (Int × Bool)) (ae : Pin), en = (upd (upd (upd (upd (upd (upd (upd ad 0 (.pointer (some ⟨p, 0, none⟩))) 4 (.slice none 0 0)) 5 (.map (some m3))) 6 lv) 16 x) 17 (vJ (xs.length : Int))) 18 (vJ (i : Int))) ∧ k = xs.length - i ∧ Ext noS G w ae W ∧ Pin.le G ae ∧ (i ≤ xs.length) ∧ (PtOk q (xs.take i) ls 0) ∧ (SnOk sn ls) ∧ (Own eInt 3 ae W w.heap.size lv (ls)) ∧ (Mp (fun k : Int => Value.int .i64 k) (fun v : Bool => Value.bool v) W m3 (sn)) ∧ (Pk 65 3 ae W p L R B mm q) ∧ (NP p L R B mm lv.ownBlock)) _ ⟨_, 0, a5, [], [], G, (pS 18 (pS 17 (pS 16 (pS 6 (pS 5 (pS 4 (pU 0))))))), rfl, c1, Pin.le_refl _, Nat.zero_le _, PtOk.start, SnOk.start, c5, c2, c3, c4⟩ ?_
 rintro ek _ el ⟨ad, i, lv, ls, sn, ae, rfl, em, au, bo, hi, hpt, hsn, a6, av, bp, a7⟩
 have eo := hpt.len
 refine zB (zC ?_)
 refine qD rfl (yR rfl rfl) ?_
 refine qe (zA (zB ?_))
 refine zY (p := ((i : Int) : Int) < (xs.length : Int)) rfl rfl (fun c6 => ?_) (fun c6 => ?_)
 ·skip
  refine wp_skip ?_
  refine zA (zB ?_)
  refine zZ ?_
  refine zB (zC ?_)
  refine qD rfl (zQ Tryz.underlying65 sz3 (v := x) rfl rfl hx (by omega) (by omega)) ?_
  refine qD rfl (zN (r := xs.getD i 0) rfl ag3 (z := (i : Int)) rfl hx (Pins.of_le au.pins bo) (by omega) (by omega)) ?_
  refine qM (vJ (xs.getD i 0)) ?_
  refine qe (zA (zB (zC ?_)))
  refine qM (.map (some m3)) ?_
  refine qM (vJ (xs.getD i 0)) ?_
  refine qD rfl (run_look1_bool (k := (xs.getD i 0)) (key_int Tryz.underlying3) Tryz.underlying147 zr4 av rfl rfl) ?_
  refine qD rfl (qF rfl) ?_
  refine qe (zA ?_)
  refine c_ifn rfl rfl (fun bq => ?_) (fun bq => ?_)
  ·skip
   refine wp_skip ?_
   refine yL ?_
   refine zA (zC ?_)
   refine qD rfl (yQ rfl rfl (by omega)) ?_
   refine qM (vJ ((i : Int) + 1)) ?_
   refine qe ?_
   refine yN ?_
   refine ⟨_, ?_, _, rfl, _, i + 1, lv, ls, sn, ae, (pS 18 (pS 17 (pS 16 (pS 6 (pS 5 (pS 4 (pU 0))))))), rfl, au, bo, (by omega), (hpt.rseen (by omega) (hsn.yes bq)), hsn, a6, av, bp, a7⟩
   omega
  refine zB (zC ?_)
  refine qM (.map (some m3)) ?_
  refine qM (vJ (xs.getD i 0)) ?_
  refine q0 rfl rfl rfl (o_mapUpdate (val := (fun v : Bool => Value.bool v)) (k := (xs.getD i 0)) (v := true) (key_int Tryz.underlying3) Tryz.underlying147 rfl rfl rfl au.pins av (fun ep c7 cc br eq => ?_))
  have bt := au.write cc br ((zX ca))
  have c8 := a6.keptA br (yA av a6).symm
  have c9 := bp.kept br cc b9
  refine qe (zA (zC ?_))
  refine qM lv ?_
  refine qM (vJ (xs.getD i 0)) ?_
  refine qI rfl (yG (E := eInt) (e := 3) [(vJ (xs.getD i 0))] [xs.getD i 0] Tryz.underlying65 sz3 zr3 (by exact xK (by rfl)) (yE (by rfl)) rfl rfl rfl rfl (by decide) bt.pins (fun cd da db ce a8 er => ?_))
  have bu := bt.step ce a8
  have bv := c8.below a8
  have cf := c7.below a8
  have cg := c9.below a8 ce
  have dc : Own eInt 3 ae da w.heap.size cd ([xs.getD i 0]) := db.weaken bt.size
  refine qI rfl (oA (E := eInt) (v := lv) (u := cd) 8 Tryz.underlying65 ap3 (by decide) rfl rfl bu.pins bv dc.src (bu.size) (fun ch es dd ci bw de => ?_))
  have df := bu.write ci bw ((yF bv))
  have dg := cf.kept bw (yA cf bv)
  have dh := cg.kept bw ci a7
  have di := np_app a7 cg de
  have et : (ls ++ ([xs.getD i 0])).length = ls.length + 1 := List.length_append
  refine qM ch ?_
  refine qe ?_
  refine yL ?_
  refine zA (zC ?_)
  refine qD rfl (yQ rfl rfl (by omega)) ?_
  refine qM (vJ ((i : Int) + 1)) ?_
  refine qe ?_
  refine yN ?_
  refine ⟨_, ?_, _, rfl, _, i + 1, ch, ls ++ ([xs.getD i 0]), putE sn (xs.getD i 0) true, ae, (pS 18 (pS 17 (pS 16 (pS 6 (pS 5 (pS 4 (pU 0))))))), rfl, df, bo, (by omega), (hpt.rnew (by omega) (hsn.no bq) (hr i (by omega))), hsn.put, dd, dg, dh, di⟩
  omega
 refine wp_exit ?_
 refine yB ?_
 refine yO ?_
 refine yM ?_
 refine zA (zB (zB (zC ?_)))
 refine qM (vJ 0) ?_
 refine qe (zA ?_)
 refine zZ ?_
 have hin : i = xs.length := by omega
 rw [hin, take_all (Nat.le_refl _)] at hpt
 refine yT (fun (k : Nat) (en : Nat → Value) (W : World) => ∃ (ad : Nat → Value) (a : Nat) (ab : Value) (b : List Int) (a9 : List (Int × Bool)) (af : Pin), en = (upd (upd (upd (upd (upd ad 0 (.pointer (some ⟨p, 0, none⟩))) 4 (.slice none 0 0)) 5 (.map (some m3))) 6 ab) 9 (vJ (a : Int))) ∧ k = q.ns.length - a ∧ Ext noS G w af W ∧ Pin.le ae af ∧ (PtOk q xs b a) ∧ (SnOk a9 b) ∧ (Own eInt 3 af W w.heap.size ab (b)) ∧ (Mp (fun k : Int => Value.int .i64 k) (fun v : Bool => Value.bool v) W m3 (a9)) ∧ (Pk 65 3 af W p L R B mm q) ∧ (NP p L R B mm ab.ownBlock)) _ ⟨_, 0, lv, ls, sn, ae, (pS 9 (pS 6 (pS 5 (pS 4 (pU 0))))), rfl, au, Pin.le_refl _, hpt, hsn, a6, av, bp, a7⟩ ?_
 rintro eu _ al ⟨ad, a, ab, b, a9, af, rfl, ev, am, dj, an, dk, ba, dl, aw, dm⟩
 have ew := an.len
 have ex := an.kl
 refine zB (zB (zC ?_))
 refine qM (vJ (a : Int)) ?_
 refine qM ab ?_
 refine qD rfl (zS Tryz.underlying65 (v := ab) rfl ba.read) ?_
 refine qD rfl (yR rfl rfl) ?_
 refine qe (zA ?_)
 refine zY (p := ((a : Int) : Int) < (b.length : Int)) rfl rfl (fun dn => ?_) (fun dn => ?_)
 ·skip
  have hzp := an.pl _ (yZ (d := (0 : Int)) (show a < b.length by omega))
  have ey := hzp.1
  have ez := hzp.2
  have holl := hok.ar.ok.lens (b.getD a 0).toNat (by omega)
  refine wp_skip ?_
  refine zA (zB ?_)
  refine zZ ?_
  refine zB ?_
  have dp := Gadd.pins am.pins ab
  have dq := Gadd.pins am.pins L
  have dr := Gadd.pins am.pins R
  have bb := ba.read
  have ds := aw.ol.read
  have dt := aw.rr.read
  refine xF (S := fun wz => BxR wz p [L, R, B, (.map (some mm.f)), (.map (some mm.o)), (.map (some mm.c)), (.map (some mm.s)), (.map (some mm.n))] ∧ Pins (Gadd af al ab) wz ∧ Pins (Gadd af al L) wz ∧ Pins (Gadd af al R) wz) (last := 22) (by kernel_rfl) rfl ?_
  have ai : Below al.heap.size al al.drew := (Below.refl _ _).drew
  have cj := am.pins.below ai
  have du := am.step cj ai
  have dv := ba.below ai
  have dw := dl.below ai
  have g := aw.below ai cj
  have t := dp.below ai
  have y := dq.below ai
  have aa := dr.below ai
  refine dT (i := 0) rfl rfl (by kernel_rfl) (fun _ _ => zU (v := (.pointer (some ⟨p, 0, none⟩))) rfl) ⟨g.bx.reads, t, y, aa⟩ ?_
  refine dT (i := 1) rfl rfl (by kernel_rfl) (fun _ _ => xM rfl) ⟨g.bx.reads, t, y, aa⟩ ?_
  refine dT (i := 2) rfl rfl (by kernel_rfl) (fun _ _ => zL (k := 0) rfl Tryz.underlying72 rfl nz66 rfl) ⟨g.bx.reads, t, y, aa⟩ ?_
  refine dT (i := 3) rfl rfl (by kernel_rfl) (fun _ hS => zM (u := L) ag66 rfl (hS.1 0 _ rfl)) ⟨g.bx.reads, t, y, aa⟩ ?_
  refine dT (i := 4) rfl rfl (by kernel_rfl) (fun _ _ => zU (v := ab) rfl) ⟨g.bx.reads, t, y, aa⟩ ?_
  refine dT (i := 5) rfl rfl (by kernel_rfl) (fun _ _ => zU (v := (vJ (a : Int))) rfl) ⟨g.bx.reads, t, y, aa⟩ ?_
  refine dT (i := 6) rfl rfl (by kernel_rfl) (fun _ _ => zQ Tryz.underlying65 sz3 (v := ab) rfl rfl bb (by omega) (by omega)) ⟨g.bx.reads, t, y, aa⟩ ?_
  refine dT (i := 7) rfl rfl (by kernel_rfl) (fun _ hS => zN (r := b.getD a 0) rfl ag3 (z := (a : Int)) rfl bb hS.2.1 (by omega) (by omega)) ⟨g.bx.reads, t, y, aa⟩ ?_
  refine dT (i := 8) rfl rfl (by kernel_rfl) (fun _ _ => zQ Tryz.underlying66 sz65 (v := L) rfl rfl ds (by omega) (by omega)) ⟨g.bx.reads, t, y, aa⟩ ?_
  obtain ⟨ax, bc, dx⟩ := nm_sl (aw.ol.at (z := (b.getD a 0)) (by omega) (by omega)) (j := (b.getD a 0).toNat) rfl
  rw [mapl_getD] at bc
  have e0 := bc.max
  refine dT (i := 9) rfl rfl (by kernel_rfl) (fun _ hS => dx ag65 rfl hS.2.2.1) ⟨g.bx.reads, t, y, aa⟩ ?_
  refine dT (i := 10) rfl rfl (by kernel_rfl) (fun _ _ => zU (v := (.pointer (some ⟨p, 0, none⟩))) rfl) ⟨g.bx.reads, t, y, aa⟩ ?_
  refine dT (i := 11) rfl rfl (by kernel_rfl) (fun _ _ => xM rfl) ⟨g.bx.reads, t, y, aa⟩ ?_
  refine dT (i := 12) rfl rfl (by kernel_rfl) (fun _ _ => zL (k := 1) rfl Tryz.underlying72 rfl nz66 rfl) ⟨g.bx.reads, t, y, aa⟩ ?_
  refine dT (i := 13) rfl rfl (by kernel_rfl) (fun _ hS => zM (u := R) ag66 rfl (hS.1 1 _ rfl)) ⟨g.bx.reads, t, y, aa⟩ ?_
  refine dT (i := 14) rfl rfl (by kernel_rfl) (fun _ _ => zU (v := ab) rfl) ⟨g.bx.reads, t, y, aa⟩ ?_
  refine dT (i := 15) rfl rfl (by kernel_rfl) (fun _ _ => zU (v := (vJ (a : Int))) rfl) ⟨g.bx.reads, t, y, aa⟩ ?_
  refine dT (i := 16) rfl rfl (by kernel_rfl) (fun _ _ => zQ Tryz.underlying65 sz3 (v := ab) rfl rfl bb (by omega) (by omega)) ⟨g.bx.reads, t, y, aa⟩ ?_
  refine dT (i := 17) rfl rfl (by kernel_rfl) (fun _ hS => zN (r := b.getD a 0) rfl ag3 (z := (a : Int)) rfl bb hS.2.1 (by omega) (by omega)) ⟨g.bx.reads, t, y, aa⟩ ?_
  refine dT (i := 18) rfl rfl (by kernel_rfl) (fun _ _ => zQ Tryz.underlying66 sz65 (v := R) rfl rfl dt (by omega) (by omega)) ⟨g.bx.reads, t, y, aa⟩ ?_
  obtain ⟨ay, bd, dy⟩ := nm_sl (aw.rr.at (z := (b.getD a 0)) (by omega) (by omega)) (j := (b.getD a 0).toNat) rfl
  rw [mapr_getD] at bd
  have e1 := bd.max
  refine dT (i := 19) rfl rfl (by kernel_rfl) (fun _ hS => dy ag65 rfl hS.2.2.2) ⟨g.bx.reads, t, y, aa⟩ ?_
  refine dT (i := 20) rfl rfl (by kernel_rfl) (fun _ _ => r_buildA (m := 1) [(.slice none 0 0), (.slice none 0 0)] [ax, ay] [(0, ax, [ax]), (1, ay, [ay])] Tryz.underlying148 zr148 rfl sz65 rfl (List.forall_mem_cons.2 ⟨(yY bc.one), (List.forall_mem_cons.2 ⟨(yY bd.one), (fun _ h => by cases h)⟩)⟩) rfl) ⟨g.bx.reads, t, y, aa⟩ ?_
  refine dT (i := 21) rfl rfl (by kernel_rfl) (fun _ _ => zU (v := (vJ 0)) rfl) ⟨g.bx.reads, t, y, aa⟩ ?_
  refine yH (by kernel_rfl) ?_
  refine zA ?_
  refine zZ ?_
  refine yT (fun (k : Nat) (en : Nat → Value) (W : World) => ∃ (ad : Nat → Value) (s : Nat) (ao : Value) (ap : List Int) (az : List (Int × Bool)) (aj : Pin), en = (upd (upd (upd (upd (upd (upd (upd ad 0 (.pointer (some ⟨p, 0, none⟩))) 4 (.slice none 0 0)) 5 (.map (some m3))) 6 ao) 9 (vJ (a : Int))) 59 (.agg [ax, ay].toArray)) 60 (vJ (s : Int))) ∧ k = 2 - s ∧ Ext noS G w aj W ∧ Pin.le af aj ∧ (s ≤ 2) ∧ (PtIn q xs ap a (b.getD a 0) (dzL (q.ns.getD (b.getD a 0).toNat default).l (q.ns.getD (b.getD a 0).toNat default).r s)) ∧ (SnOk az ap) ∧ (Own eInt 3 aj W w.heap.size ao (ap)) ∧ (Mp (fun k : Int => Value.int .i64 k) (fun v : Bool => Value.bool v) W m3 (az)) ∧ (Pk 65 3 aj W p L R B mm q) ∧ (NP p L R B mm ao.ownBlock)) _ ⟨_, 0, ab, b, a9, af, (pS 60 (pS 59 (pS 9 (pS 6 (pS 5 (pS 4 (pU 0))))))), rfl, du, Pin.le_refl _, Nat.zero_le _, (PtIn.start an (by omega)), dk, dv, dw, g, dm⟩ ?_
  rintro e2 _ e3 ⟨ad, s, ao, ap, az, aj, rfl, e4, ck, be, hs, bf, cl, cm, cn, co, cp⟩
  have e5 := bf.ok.len
  refine zB (zC ?_)
  refine qD rfl (yR rfl rfl) ?_
  refine qe (zA (zB ?_))
  refine zY (p := ((s : Int) : Int) < 2) rfl rfl (fun dz => ?_) (fun dz => ?_)
  ·skip
   refine wp_skip ?_
   refine zA (zB ?_)
   refine zZ ?_
   refine zB (zC ?_)
   obtain ⟨a0, bg, d0⟩ := name_index2 (bc.mono be) (bd.mono be) (z := (s : Int)) s (by omega) (by omega) rfl
   have e6 := bg.max
   refine qD rfl (d0 Tryz.underlying148 rfl sz65 ag65 rfl rfl) ?_
   refine qM a0 ?_
   refine qe (zA (zB (zC ?_)))
   refine qM a0 ?_
   refine qD rfl (zS Tryz.underlying65 (v := a0) rfl bg) ?_
   refine qM (vJ 0) ?_
   refine qe (zA ?_)
   refine zZ ?_
   refine yT (fun (k : Nat) (en : Nat → Value) (W : World) => ∃ (ad : Nat → Value) (j : Nat) (ak : Value) (ag : List Int) (aq : List (Int × Bool)) (ah : Pin), en = (upd (upd (upd (upd (upd (upd (upd (upd (upd (upd ad 0 (.pointer (some ⟨p, 0, none⟩))) 4 (.slice none 0 0)) 5 (.map (some m3))) 6 ak) 9 (vJ (a : Int))) 59 (.agg [ax, ay].toArray)) 60 (vJ (s : Int))) 63 a0) 64 (vJ ((pick2 s ((q.ns.getD (b.getD a 0).toNat default).l) ((q.ns.getD (b.getD a 0).toNat default).r)).length : Int))) 65 (vJ (j : Int))) ∧ k = (pick2 s (q.ns.getD (b.getD a 0).toNat default).l (q.ns.getD (b.getD a 0).toNat default).r).length - j ∧ Ext noS G w ah W ∧ Pin.le aj ah ∧ (j ≤ (pick2 s (q.ns.getD (b.getD a 0).toNat default).l (q.ns.getD (b.getD a 0).toNat default).r).length) ∧ (PtIn q xs ag a (b.getD a 0) (dzL (q.ns.getD (b.getD a 0).toNat default).l (q.ns.getD (b.getD a 0).toNat default).r s ++ (pick2 s (q.ns.getD (b.getD a 0).toNat default).l (q.ns.getD (b.getD a 0).toNat default).r).take j)) ∧ (SnOk aq ag) ∧ (Own eInt 3 ah W w.heap.size ak (ag)) ∧ (Mp (fun k : Int => Value.int .i64 k) (fun v : Bool => Value.bool v) W m3 (aq)) ∧ (Pk 65 3 ah W p L R B mm q) ∧ (NP p L R B mm ak.ownBlock)) _ ⟨_, 0, ao, ap, az, aj, (pS 65 (pS 64 (pS 63 (pS 60 (pS 59 (pS 9 (pS 6 (pS 5 (pS 4 (pU 0)))))))))), rfl, ck, Pin.le_refl _, Nat.zero_le _, (by rw [List.take_zero, List.append_nil]; exact bf), cl, cm, cn, co, cp⟩ ?_
   rintro e7 _ e8 ⟨ad, j, ak, ag, aq, ah, rfl, e9, a1, bh, hj, a2, a3, bi, a4, bz, bj⟩
   have fa := a2.ok.len
   refine zB (zC ?_)
   refine qD rfl (yR rfl rfl) ?_
   refine qe (zA (zB ?_))
   refine zY (p := ((j : Int) : Int) < ((pick2 s ((q.ns.getD (b.getD a 0).toNat default).l) ((q.ns.getD (b.getD a 0).toNat default).r)).length : Int)) rfl rfl (fun d1 => ?_) (fun d1 => ?_)
   ·skip
    refine wp_skip ?_
    refine zA (zB ?_)
    refine zZ ?_
    refine zB (zC ?_)
    refine qD rfl (zQ Tryz.underlying65 sz3 (v := a0) rfl rfl bg (by omega) (by omega)) ?_
    refine qD rfl (zN (r := (pick2 s ((q.ns.getD (b.getD a 0).toNat default).l) ((q.ns.getD (b.getD a 0).toNat default).r)).getD j 0) rfl ag3 (z := (j : Int)) rfl bg (Pins.of_le a1.pins bh) (by omega) (by omega)) ?_
    refine qM (vJ ((pick2 s ((q.ns.getD (b.getD a 0).toNat default).l) ((q.ns.getD (b.getD a 0).toNat default).r)).getD j 0)) ?_
    refine qe (zA (zB (zC ?_)))
    refine qM (.map (some m3)) ?_
    refine qM (vJ ((pick2 s ((q.ns.getD (b.getD a 0).toNat default).l) ((q.ns.getD (b.getD a 0).toNat default).r)).getD j 0)) ?_
    refine qD rfl (run_look1_bool (k := ((pick2 s ((q.ns.getD (b.getD a 0).toNat default).l) ((q.ns.getD (b.getD a 0).toNat default).r)).getD j 0)) (key_int Tryz.underlying3) Tryz.underlying147 zr4 a4 rfl rfl) ?_
    refine qD rfl (qF rfl) ?_
    refine qe (zA ?_)
    refine c_ifn rfl rfl (fun b0 => ?_) (fun b0 => ?_)
    ·skip
     refine wp_skip ?_
     refine yL ?_
     refine zA (zC ?_)
     refine qD rfl (yQ rfl rfl (by omega)) ?_
     refine qM (vJ ((j : Int) + 1)) ?_
     refine qe ?_
     refine yN ?_
     refine ⟨_, ?_, _, rfl, _, j + 1, ak, ag, aq, ah, (pS 65 (pS 64 (pS 63 (pS 60 (pS 59 (pS 9 (pS 6 (pS 5 (pS 4 (pU 0)))))))))), rfl, a1, bh, (by omega), (by rw [xX _ 0 (show j < (pick2 s (q.ns.getD (b.getD a 0).toNat default).l (q.ns.getD (b.getD a 0).toNat default).r).length by omega), ← List.append_assoc]; exact a2.seen (a3.yes b0)), a3, bi, a4, bz, bj⟩
     omega
    refine zB (zC ?_)
    refine qM (.map (some m3)) ?_
    refine qM (vJ ((pick2 s ((q.ns.getD (b.getD a 0).toNat default).l) ((q.ns.getD (b.getD a 0).toNat default).r)).getD j 0)) ?_
    refine q0 rfl rfl rfl (o_mapUpdate (val := (fun v : Bool => Value.bool v)) (k := ((pick2 s ((q.ns.getD (b.getD a 0).toNat default).l) ((q.ns.getD (b.getD a 0).toNat default).r)).getD j 0)) (v := true) (key_int Tryz.underlying3) Tryz.underlying147 rfl rfl rfl a1.pins a4 (fun fb d2 cq b1 fc => ?_))
    have b2 := a1.write cq b1 ((zX ca))
    have d3 := bi.keptA b1 (yA a4 bi).symm
    have d4 := bz.kept b1 cq b9
    refine qe (zA (zC ?_))
    refine qM ak ?_
    refine qM (vJ ((pick2 s ((q.ns.getD (b.getD a 0).toNat default).l) ((q.ns.getD (b.getD a 0).toNat default).r)).getD j 0)) ?_
    refine qI rfl (yG (E := eInt) (e := 3) [(vJ ((pick2 s ((q.ns.getD (b.getD a 0).toNat default).l) ((q.ns.getD (b.getD a 0).toNat default).r)).getD j 0))] [(pick2 s ((q.ns.getD (b.getD a 0).toNat default).l) ((q.ns.getD (b.getD a 0).toNat default).r)).getD j 0] Tryz.underlying65 sz3 zr3 (by exact xK (by rfl)) (yE (by rfl)) rfl rfl rfl rfl (by decide) b2.pins (fun cr d5 d6 cs bk fd => ?_))
    have b3 := b2.step cs bk
    have b4 := d3.below bk
    have ct := d2.below bk
    have cu := d4.below bk cs
    have d7 : Own eInt 3 ah d5 w.heap.size cr ([(pick2 s ((q.ns.getD (b.getD a 0).toNat default).l) ((q.ns.getD (b.getD a 0).toNat default).r)).getD j 0]) := d6.weaken b2.size
    refine qI rfl (oA (E := eInt) (v := ak) (u := cr) 8 Tryz.underlying65 ap3 (by decide) rfl rfl b3.pins b4 d7.src (b3.size) (fun cv fe d8 cw b5 d9 => ?_))
    have ea := b3.write cw b5 ((yF b4))
    have eb := ct.kept b5 (yA ct b4)
    have ec := cu.kept b5 cw bj
    have ed := np_app bj cu d9
    have ff : (ag ++ ([(pick2 s ((q.ns.getD (b.getD a 0).toNat default).l) ((q.ns.getD (b.getD a 0).toNat default).r)).getD j 0])).length = ag.length + 1 := List.length_append
    refine qM cv ?_
    refine qe ?_
    refine yL ?_
    refine zA (zC ?_)
    refine qD rfl (yQ rfl rfl (by omega)) ?_
    refine qM (vJ ((j : Int) + 1)) ?_
    refine qe ?_
    refine yN ?_
    refine ⟨_, ?_, _, rfl, _, j + 1, cv, ag ++ ([(pick2 s ((q.ns.getD (b.getD a 0).toNat default).l) ((q.ns.getD (b.getD a 0).toNat default).r)).getD j 0]), putE aq ((pick2 s ((q.ns.getD (b.getD a 0).toNat default).l) ((q.ns.getD (b.getD a 0).toNat default).r)).getD j 0) true, ah, (pS 65 (pS 64 (pS 63 (pS 60 (pS 59 (pS 9 (pS 6 (pS 5 (pS 4 (pU 0)))))))))), rfl, ea, bh, (by omega), (by rw [xX _ 0 (show j < (pick2 s (q.ns.getD (b.getD a 0).toNat default).l (q.ns.getD (b.getD a 0).toNat default).r).length by omega), ← List.append_assoc]; exact a2.new hok (a3.no b0) (dz_in (by omega) (by omega))), a3.put, d8, eb, ec, ed⟩
    omega
   have hjn : j = (pick2 s (q.ns.getD (b.getD a 0).toNat default).l (q.ns.getD (b.getD a 0).toNat default).r).length := by omega
   rw [hjn, take_all (Nat.le_refl _)] at a2
   have ee : PtIn q xs ag a (b.getD a 0) (dzL (q.ns.getD (b.getD a 0).toNat default).l (q.ns.getD (b.getD a 0).toNat default).r (s + 1)) := by rw [dz_next (by omega)]; exact a2
   refine wp_exit ?_
   refine yB ?_
   refine yO ?_
   refine yM ?_
   refine yL ?_
   refine zA (zC ?_)
   refine qD rfl (yQ rfl rfl (by omega)) ?_
   refine qM (vJ ((s : Int) + 1)) ?_
   refine qe ?_
   refine yN ?_
   refine ⟨_, ?_, _, rfl, _, s + 1, ak, ag, aq, ah, (pS 60 (pS 59 (pS 9 (pS 6 (pS 5 (pS 4 (pU 0))))))), rfl, a1, (Pin.le_trans be bh), (by omega), ee, a3, bi, a4, bz, bj⟩
   omega
  have ef : s = 2 := by omega
  rw [ef] at bf
  have hdone := bf.done (fun o ho => ho)
  have fg := hdone.kl
  refine wp_exit ?_
  refine yB ?_
  refine yO ?_
  refine yM ?_
  refine yL ?_
  refine zA (zC ?_)
  refine qM (vJ (a : Int)) ?_
  refine qD rfl (yQ rfl rfl (by omega)) ?_
  refine qM (vJ ((a : Int) + 1)) ?_
  refine qe ?_
  refine yN ?_
  refine ⟨_, ?_, _, rfl, _, a + 1, ao, ap, az, aj, (pS 9 (pS 6 (pS 5 (pS 4 (pU 0))))), rfl, ck, (Pin.le_trans dj be), hdone, cl, cm, cn, co, cp⟩
  omega
 refine wp_exit ?_
 refine yB ?_
 refine yO ?_
 refine yM ?_
 refine zA (zB (zC ?_))
 refine qM ab ?_
 refine qM ab ?_
 refine qe (zA ?_)
 refine wp_ret ?_
 refine zO ?_
 refine zP (v := ab) rfl rfl rfl ?_
 have hkk : a = b.length := by omega
 rw [hkk] at an
 exact ⟨_, _, _, rfl, ba, an, am⟩

end PA1
end Go.Proofs.YtfnginkcmcfdfaaGreatDoor

set_option maxRecDepth 20000
set_option maxHeartbeats 2000000
namespace Go.Proofs.YtfnginkcmcfdfaaGreatDoor
namespace SO1
open Go.RowKit Go.GL Go.Proofs
open Go.Proofs.YtfnginkcmcfdfaaGreatDoor.B1










theorem cmpB_spec {w : World} {G : Pin} {p : Nat} {L R B : Value} {mm : PM} {q : PSt} (hP : Pins G w) (hpk : Pk 65 3 G w p L R B mm q) (hok : PoolOk q) {bx : Nat} (hbx : BxP G bx [.pointer (some ⟨p, 0, none⟩)]) {a b : Int} (ha : PlaceOk q a) (hb : PlaceOk q b) :
  Calls Tryz.prog 116 [(vJ a), (vJ b), (.pointer (some ⟨bx, 0, none⟩))].toArray w fun e w' => e = .returned (vJ (cmpI (bn q a) (bn q b))) ∧ ∃ n os, w' = Go.Sort.grow (w.drewN n) os := by
 refine zV (n := 21) Tryz.func116 Tryz.ntmps116 rfl rfl ?_
 have t : Ext noS G w G w := Ext.refl hP
 have hpin : PIn w (inP p L R B mm) p L R B mm := PIn.self
 have aa : (q.ns.map Nd.l).length = q.ns.length ∧ (q.ns.map Nd.r).length = q.ns.length := ⟨List.length_map .., List.length_map ..⟩
 have ab : q.bs.length = q.ns.length ∧ q.ns.length ≤ 1048576 := ⟨hok.ar.ok.len, hok.ar.ok.lim⟩
 have ac := ha.1
 have ad := ha.2
 have ae := hb.1
 have af := hb.2
 refine zB (zC ?_)
 refine qM (vJ 0) ?_
 refine qe (zA (zB ?_))
 have y := Gadd.pins t.pins B
 have j := hpk.ob.read
 refine xF (S := fun wz => Pins G wz ∧ BxR wz p [L, R, B, (.map (some mm.f)), (.map (some mm.o)), (.map (some mm.c)), (.map (some mm.s)), (.map (some mm.n))] ∧ Pins (Gadd G w B) wz) (last := 16) (by kernel_rfl) rfl ?_
 have m : Below w.heap.size w w.drew := (Below.refl _ _).drew
 have x := t.pins.below m
 have ag : w.drew.drawn = w.drawn + 1 := rfl
 have d := t.step x m
 have g := hpk.below m x
 have h := y.below m
 refine dT (i := 0) rfl rfl (by kernel_rfl) (fun _ hS => zM (u := (.pointer (some ⟨p, 0, none⟩))) ag61 rfl (hS.1 _ _ _ (hbx 0 _ rfl))) ⟨d.pins, g.bx.reads, h⟩ ?_
 refine dT (i := 1) rfl rfl (by kernel_rfl) (fun _ _ => xM rfl) ⟨d.pins, g.bx.reads, h⟩ ?_
 refine dT (i := 2) rfl rfl (by kernel_rfl) (fun _ _ => zL (k := 2) rfl Tryz.underlying72 rfl nz65 rfl) ⟨d.pins, g.bx.reads, h⟩ ?_
 refine dT (i := 3) rfl rfl (by kernel_rfl) (fun _ hS => zM (u := B) ag65 rfl (hS.2.1 2 _ rfl)) ⟨d.pins, g.bx.reads, h⟩ ?_
 refine dT (i := 4) rfl rfl (by kernel_rfl) (fun _ _ => zU (v := (vJ a)) rfl) ⟨d.pins, g.bx.reads, h⟩ ?_
 refine dT (i := 5) rfl rfl (by kernel_rfl) (fun _ _ => zQ Tryz.underlying65 sz3 (v := B) rfl rfl j (by omega) (by omega)) ⟨d.pins, g.bx.reads, h⟩ ?_
 refine dT (i := 6) rfl rfl (by kernel_rfl) (fun _ hS => zN (r := q.bs.getD (a).toNat 0) rfl ag3 (z := a) rfl j hS.2.2 (by omega) (by omega)) ⟨d.pins, g.bx.reads, h⟩ ?_
 refine dT (i := 7) rfl rfl (by kernel_rfl) (fun _ hS => zM (u := (.pointer (some ⟨p, 0, none⟩))) ag61 rfl (hS.1 _ _ _ (hbx 0 _ rfl))) ⟨d.pins, g.bx.reads, h⟩ ?_
 refine dT (i := 8) rfl rfl (by kernel_rfl) (fun _ _ => xM rfl) ⟨d.pins, g.bx.reads, h⟩ ?_
 refine dT (i := 9) rfl rfl (by kernel_rfl) (fun _ _ => zL (k := 2) rfl Tryz.underlying72 rfl nz65 rfl) ⟨d.pins, g.bx.reads, h⟩ ?_
 refine dT (i := 10) rfl rfl (by kernel_rfl) (fun _ hS => zM (u := B) ag65 rfl (hS.2.1 2 _ rfl)) ⟨d.pins, g.bx.reads, h⟩ ?_
 refine dT (i := 11) rfl rfl (by kernel_rfl) (fun _ _ => zU (v := (vJ b)) rfl) ⟨d.pins, g.bx.reads, h⟩ ?_
 refine dT (i := 12) rfl rfl (by kernel_rfl) (fun _ _ => zQ Tryz.underlying65 sz3 (v := B) rfl rfl j (by omega) (by omega)) ⟨d.pins, g.bx.reads, h⟩ ?_
 refine dT (i := 13) rfl rfl (by kernel_rfl) (fun _ hS => zN (r := q.bs.getD (b).toNat 0) rfl ag3 (z := b) rfl j hS.2.2 (by omega) (by omega)) ⟨d.pins, g.bx.reads, h⟩ ?_
 refine dO (i := 14) (zK (i := 14) rfl rfl rfl (zD rfl _) (zH (vs := [(vJ (q.bs.getD (a).toNat 0)), (vJ (q.bs.getD (b).toNat 0))]) Tryz.func97 nm97 rfl rfl rfl ?_))
 refine Calls.mono (cmpCompare_spec d.pins) ?_
 rintro _ _ ⟨rfl, rfl⟩
 refine ⟨_, rfl, ?_⟩
 refine ⟨fun _ => ⟨d.pins, g.bx.reads, h⟩, ?_⟩
 refine dT (i := 15) rfl rfl (by kernel_rfl) (fun _ _ => r_assign (v := (vJ (cmpI (q.bs.getD (a).toNat 0) (q.bs.getD (b).toNat 0)))) rfl) ⟨d.pins, g.bx.reads, h⟩ ?_
 refine yH (by kernel_rfl) ?_
 refine zA ?_
 refine wp_ret ?_
 refine zO ?_
 refine zP (v := (vJ (cmpI (q.bs.getD (a).toNat 0) (q.bs.getD (b).toNat 0)))) rfl rfl rfl ?_
 exact ⟨rfl, grow_of d.below (by omega)⟩

theorem cmpE_spec {w : World} {G : Pin} {x y : Ent} (hP : Pins G w) (hx : EntOk G x) (hy : EntOk G y) :
  Calls Tryz.prog 119 [(.agg [(vJ x.id), x.l, x.r].toArray), (.agg [(vJ y.id), y.l, y.r].toArray)].toArray w fun e w' => e = .returned (vJ (orL [cmpL x.nd.l y.nd.l, cmpL x.nd.r y.nd.r])) ∧ ∃ n os, w' = Go.Sort.grow (w.drewN n) os := by
 refine zV (n := 21) Tryz.func119 Tryz.ntmps119 rfl rfl ?_
 have g : Ext noS G w G w := Ext.refl hP
 refine zB (zC ?_)
 refine qI rfl (o_boxd [(vJ x.id), x.l, x.r] (v := (.agg [(vJ x.id), x.l, x.r].toArray)) rfl rfl g.pins (fun b1 w2 aw ax ab ac ad => ?_))
 have ae := g.step ac ad
 have af : w.heap.size ≤ b1 := by have := g.size; omega
 obtain ⟨ay, d, h, j, az⟩ := ab.shut ae af
 refine qI rfl (o_boxd [(vJ y.id), y.l, y.r] (v := (.agg [(vJ y.id), y.l, y.r].toArray)) rfl rfl h.pins (fun ag c a0 a1 ah ai aj => ?_))
 have ak := h.step ai aj
 have al : w.heap.size ≤ ag := by have := h.size; omega
 obtain ⟨m, b, o, p, a2⟩ := ah.shut ak al
 refine qM (vJ 0) ?_
 refine qe (zA (zB ?_))
 refine xF (S := fun wz => Pins m wz) (last := 17) (by kernel_rfl) rfl ?_
 have q : Below c.heap.size c c.drew := (Below.refl _ _).drew
 have am := o.pins.below q
 have a3 : c.drew.drawn = c.drawn + 1 := rfl
 have a := o.step am q
 refine dT (i := 0) rfl rfl (by kernel_rfl) (fun _ _ => zL (k := 1) rfl Tryz.underlying124 rfl nz99 rfl) a.pins ?_
 refine dT (i := 1) rfl rfl (by kernel_rfl) (fun _ _ => zL (k := 1) rfl Tryz.underlying99 rfl nz65 rfl) a.pins ?_
 refine dT (i := 2) rfl rfl (by kernel_rfl) (fun _ hS => zM (u := x.l) ag65 rfl ((Pins.of_le hS b) _ _ _ (j 1 _ rfl))) a.pins ?_
 refine dT (i := 3) rfl rfl (by kernel_rfl) (fun _ _ => zL (k := 1) rfl Tryz.underlying124 rfl nz99 rfl) a.pins ?_
 refine dT (i := 4) rfl rfl (by kernel_rfl) (fun _ _ => zL (k := 1) rfl Tryz.underlying99 rfl nz65 rfl) a.pins ?_
 refine dT (i := 5) rfl rfl (by kernel_rfl) (fun _ hS => zM (u := y.l) ag65 rfl (hS _ _ _ (p 1 _ rfl))) a.pins ?_
 refine dT (i := 7) rfl rfl (by kernel_rfl) (fun _ _ => zL (k := 1) rfl Tryz.underlying124 rfl nz99 rfl) a.pins ?_
 refine dT (i := 8) rfl rfl (by kernel_rfl) (fun _ _ => zL (k := 2) rfl Tryz.underlying99 rfl nz65 rfl) a.pins ?_
 refine dT (i := 9) rfl rfl (by kernel_rfl) (fun _ hS => zM (u := x.r) ag65 rfl ((Pins.of_le hS b) _ _ _ (j 2 _ rfl))) a.pins ?_
 refine dT (i := 10) rfl rfl (by kernel_rfl) (fun _ _ => zL (k := 1) rfl Tryz.underlying124 rfl nz99 rfl) a.pins ?_
 refine dT (i := 11) rfl rfl (by kernel_rfl) (fun _ _ => zL (k := 2) rfl Tryz.underlying99 rfl nz65 rfl) a.pins ?_
 refine dT (i := 12) rfl rfl (by kernel_rfl) (fun _ hS => zM (u := y.r) ag65 rfl (hS _ _ _ (p 2 _ rfl))) a.pins ?_
 refine dO (i := 6) (zK (i := 6) rfl rfl rfl (zD rfl _) (zH (vs := [x.l, y.l]) Tryz.func98 nm98 rfl rfl rfl ?_))
 refine Calls.mono (slCompare_spec a.pins (hx.1.mono (Pin.le_trans d b)) (hy.1.mono (Pin.le_trans d b))) ?_
 rintro _ _ ⟨rfl, rfl⟩
 refine ⟨_, rfl, ?_⟩
 refine ⟨fun _ => a.pins, ?_⟩
 refine dO (i := 13) (zK (i := 13) rfl rfl rfl (zD rfl _) (zH (vs := [x.r, y.r]) Tryz.func98 nm98 rfl rfl rfl ?_))
 refine Calls.mono (slCompare_spec a.pins (hx.2.1.mono (Pin.le_trans d b)) (hy.2.1.mono (Pin.le_trans d b))) ?_
 rintro _ _ ⟨rfl, rfl⟩
 refine ⟨_, rfl, ?_⟩
 refine ⟨fun _ => a.pins, ?_⟩
 refine dO (i := 14) (zK (i := 14) rfl rfl rfl (zD rfl _) (o_buildFd (E := eInt) (e := 3) [(vJ (cmpL x.nd.l y.nd.l)), (vJ (cmpL x.nd.r y.nd.r))] [cmpL x.nd.l y.nd.l, cmpL x.nd.r y.nd.r] Tryz.underlying65 sz3 zr3 (by exact reps2 (by rfl) (by rfl)) (qH (by rfl) (by rfl)) rfl rfl rfl rfl (by decide) a.pins (fun s an a4 ao ap aq a5 => ?_)))
 have t := a.step ap aq
 have ar : Own eInt 3 m an w.heap.size s ([cmpL x.nd.l y.nd.l, cmpL x.nd.r y.nd.r]) := ao.weaken a.size
 refine ⟨fun _ => t.pins, ?_⟩
 obtain ⟨a6, z, f, au, a7⟩ := ar.sealed t
 refine dO (i := 15) (zK (i := 15) rfl rfl rfl (zD rfl _) (zH (vs := [s]) Tryz.func96 nm96 rfl rfl rfl ?_))
 refine Calls.mono (cmpOr_spec f.pins au) ?_
 rintro _ _ ⟨rfl, rfl⟩
 refine ⟨_, rfl, ?_⟩
 refine ⟨fun _ => (Pins.of_le f.pins z), ?_⟩
 refine dM 16 (vJ (orL ([cmpL x.nd.l y.nd.l, cmpL x.nd.r y.nd.r]))) (Pins.of_le f.pins z) ?_
 refine yH (by kernel_rfl) ?_
 refine zA ?_
 refine wp_ret ?_
 refine zO ?_
 refine zP (v := (vJ (orL ([cmpL x.nd.l y.nd.l, cmpL x.nd.r y.nd.r])))) rfl rfl rfl ?_
 exact ⟨rfl, grow_of f.below (by omega)⟩

theorem sortB_spec {w : World} {G : Pin} {p : Nat} {L R B : Value} {mm : PM} {q : PSt} (hP : Pins G w) (hpk : Pk 65 3 G w p L R B mm q) (hok : PoolOk q) {bx base : Nat} (hbx : BxP G bx [.pointer (some ⟨p, 0, none⟩)]) {v : Value} {zs : List Int} (hv : Own eInt 3 G w base v zs) (hz : ∀ z ∈ zs, PlaceOk q z) (hnp : NP p L R B mm v.ownBlock) (hl : zs.length ≤ 1048576) :
  Calls Tryz.prog 115 [v, (.func (.func 116) #[] #[(.pointer (some ⟨bx, 0, none⟩))])].toArray w fun en w' => ∃ ys : List Int, en = .returned (.tuple #[]) ∧ Own eInt 3 G w' base v ys ∧ ys.Perm zs ∧ (∀ i j, i < j → j < ys.length → bn q (ys.getD i 0) ≤ bn q (ys.getD j 0)) ∧ Ext (inO v.ownBlock) G w G w' := by
 have hnone : ∀ a cap, v = .slice a 0 cap → zs = [] → Calls Tryz.prog 115 [v, (.func (.func 116) #[] #[(.pointer (some ⟨bx, 0, none⟩))])].toArray w fun en w' => ∃ ys : List Int, en = .returned (.tuple #[]) ∧ Own eInt 3 G w' base v ys ∧ ys.Perm zs ∧ (∀ i j, i < j → j < ys.length → bn q (ys.getD i 0) ≤ bn q (ys.getD j 0)) ∧ Ext (inO v.ownBlock) G w G w' := by
  rintro a cap rfl rfl
  refine (Tryz.slices_SortFunc_none (α := Int) a cap _ w).mono ?_
  rintro en w' ⟨rfl, rfl⟩
  exact ⟨[], rfl, hv, List.Perm.refl _, fun i j _ hj => absurd hj (Nat.not_lt_zero j), Ext.refl hP⟩
 rcases own_cases hv with ⟨l, o⟩ | ⟨g, cap, hvg⟩
 ·exact hnone _ _ l o
 by_cases h0 : zs.length = 0
 ·exact hnone _ _ (by rw [hvg, h0]) (List.eq_nil_of_length_eq_zero h0)
 subst hvg
 letI : Inhabited (Plc q) := ⟨⟨zs.getD 0 0, hz _ (yZ (by omega))⟩⟩
 obtain ⟨_, r, u, s⟩ := own_holds hv
 obtain ⟨d, hd⟩ : ∃ d, d = (plcs q zs hz).toArray := ⟨_, rfl⟩
 have hdm : d.map (·.1) = zs.toArray := by rw [hd]; simp only [List.map_toArray]; rw [plcs_val hz]
 have hds : d.size = zs.length := by have := congrArg Array.size hdm; simpa using this
 have hH : Go.Sort.Holds (fun x : Plc q => Value.int .i64 x.1) w g 0 d := holds_map (enc' := Value.int .i64) (f := fun x : Plc q => x.1) (fun _ => rfl) (by rw [hdm]; exact s)
 have hcmp : Go.Proofs.CmpLays1 Tryz.prog 116 #[(.pointer (some ⟨bx, 0, none⟩))] (fun x : Plc q => Value.int .i64 x.1) (cfB q) g 0 d.size w := fun m os dk hs x y => by
  have hgr : w.grownBy (Go.Proofs.sortWorld (fun x : Plc q => Value.int .i64 x.1) w g 0 m dk os) (some g) := by
   unfold Go.Proofs.sortWorld
   rw [putRow_map (enc := fun x : Plc q => Value.int .i64 x.1) (enc' := id) (f := fun x : Plc q => Value.int .i64 x.1) (fun _ => rfl)]
   exact grownBy_put
  have hx := Ext.one (hP.grown hgr (fun k hk => by cases hk; exact hv.free g rfl)) hgr
  exact cmpB_spec hx.pins (hpk.extS hx fun k hk hs => hnp k hs hk) hok hbx x.2 y.2
 have hcon := Tryz.slices_SortFunc (fun x : Plc q => Value.int .i64 x.1) (fun _ => rfl) (cfB q) (swoB q) 116 #[(.pointer (some ⟨bx, 0, none⟩))] g 0 cap d w (Go.Proofs.enters_of Tryz.func116 (by kernel_rfl) rfl) hcmp hH r (by omega)
 rw [hds] at hcon
 refine hcon.mono ?_
 rintro en w' ⟨rfl, d', n, os, hp, hs, hw⟩
 rw [← hds] at hp hs
 obtain ⟨hsz, hpl⟩ := perm_list hp
 have hyl : (d'.map (·.1)).toList.length = zs.length := by simp [hsz, hds]
 obtain ⟨a, b, c⟩ := own_put (w' := w') (ys := (d'.map (·.1)).toList) (d := d'.map (·.1)) (os := os) (m := n) hv hP (by rw [hw]; unfold Go.Proofs.sortWorld; rw [putRow_map (enc := fun x : Plc q => Value.int .i64 x.1) (enc' := Value.int .i64) (f := fun x : Plc q => x.1) (fun _ => rfl)]) (by simp [hsz, hds]) (List.take_length ..)
 rw [hyl] at a
 refine ⟨_, rfl, a, ?_, fun i j hij hj => ?_, Ext.one b c⟩
 ·have e := hpl.map (·.1)
  have t : d.toList.map (·.1) = zs := by rw [hd]; exact plcs_val hz
  rw [t] at e; simpa using e
 ·rw [hyl] at hj
  have e := hs i j (Nat.zero_le _) hij (by omega)
  rw [ltB] at e
  have h : ∀ i, i < zs.length → (d'.map (·.1)).toList.getD i 0 = (d'[i]!).1 := fun i hi => by
   rw [getElem!_pos d' i (by omega)]
   simp [List.getD, show i < d'.size by omega]
  rw [h i (by omega), h j hj]
  have := of_decide_eq_false e
  omega

theorem sortE_spec {w : World} {G : Pin} {base lo hi : Nat} {v : Value} {es : List Ent} {LV : List Leaf} (hP : Pins G w) (hv : Own eEnt 124 G w base v es) (hL : Lvs 3 G w lo hi LV) (hm : ∀ x ∈ es, (x.l, x.nd.l) ∈ LV ∧ (x.r, x.nd.r) ∈ LV) (hap : ApL LV v.ownBlock) (hl : es.length ≤ 1048576) :
  Calls Tryz.prog 118 [v, (.func (.func 119) #[] #[])].toArray w fun en w' => ∃ ys : List Ent, en = .returned (.tuple #[]) ∧ Own eEnt 124 G w' base v ys ∧ ys.Perm es ∧ (∀ i j, i < j → j < ys.length → ¬ aheadI (ys.getD j default).nd (ys.getD i default).nd < 0) ∧ Ext (inO v.ownBlock) G w G w' := by
 have hnone : ∀ a cap, v = .slice a 0 cap → es = [] → Calls Tryz.prog 118 [v, (.func (.func 119) #[] #[])].toArray w fun en w' => ∃ ys : List Ent, en = .returned (.tuple #[]) ∧ Own eEnt 124 G w' base v ys ∧ ys.Perm es ∧ (∀ i j, i < j → j < ys.length → ¬ aheadI (ys.getD j default).nd (ys.getD i default).nd < 0) ∧ Ext (inO v.ownBlock) G w G w' := by
  rintro a cap rfl rfl
  refine (Tryz.slices_SortFunc_ent_none (α := Int) a cap _ w).mono ?_
  rintro en w' ⟨rfl, rfl⟩
  exact ⟨[], rfl, hv, List.Perm.refl _, fun i j _ hj => absurd hj (Nat.not_lt_zero j), Ext.refl hP⟩
 rcases own_casesF hv with ⟨q, s⟩ | ⟨g, cap, hvg⟩
 ·exact hnone _ _ q s
 by_cases h0 : es.length = 0
 ·exact hnone _ _ (by rw [hvg, h0]) (List.eq_nil_of_length_eq_zero h0)
 subst hvg
 have hz : ∀ x ∈ es, EntOk (GLv G w LV) x := fun x hx => ⟨hL.read (hm x hx).1, hL.read (hm x hx).2, (hL.own _ (hm x hx).1).one, (hL.own _ (hm x hx).2).one⟩
 letI : Inhabited (EntS (GLv G w LV)) := ⟨⟨es.getD 0 default, hz _ (yZ (by omega))⟩⟩
 obtain ⟨_, t, cells, hcl, hr, z⟩ := own_cellsF hv
 obtain ⟨d, hd⟩ : ∃ d, d = (ents (GLv G w LV) es hz).toArray := ⟨_, rfl⟩
 have hdm : d.toList.map (·.1) = es := by rw [hd]; exact ents_val hz
 have hds : d.size = es.length := by have := congrArg List.length hdm; simpa using this
 have hdi : ∀ i, i < d.size → (d[i]!).1 = es.getD i default := fun i hi => by
  rw [getElem!_pos d i hi]
  have := congrArg (fun l : List Ent => l[i]?) hdm
  simp only [List.getElem?_map, Array.getElem?_toList, Array.getElem?_eq_getElem hi, Option.map_some] at this
  simp [List.getD, ← this]
 have hflat : Go.Sort.flatK (encE (G := GLv G w LV)) 3 d = cells.toArray := flatK_cells (by rw [hds]; exact hcl) fun i hi => by
  have h4 := hr i (es.getD i default) (by simp [List.getD, show i < es.length by omega])
  have e : (cells.drop (i * 3)).take 3 = [.int .i64 (es.getD i default).id, (es.getD i default).l, (es.getD i default).r] := h4.1
  rw [e, ← hdi i hi]; rfl
 have hH : Go.Sort.HoldsK (encE (G := GLv G w LV)) 3 w g 0 d := by unfold Go.Sort.HoldsK; rw [hflat]; exact z
 have hcmp : Go.Proofs.CmpLays Tryz.prog 119 #[] (encE (G := GLv G w LV)) 3 cfE g 0 d.size w := fun m os dk hs x y => by
  have hgr : w.grownBy (Go.Proofs.sortWorldK (encE (G := GLv G w LV)) 3 w g 0 m dk os) (some g) := by
   unfold Go.Proofs.sortWorldK Go.Sort.putRowK
   exact grownBy_put
  have hpp : Pins (GLv G w LV) (Go.Proofs.sortWorldK (encE (G := GLv G w LV)) 3 w g 0 m dk os) := (GLv.pins hP).grown hgr fun k hk o u hG => by
   cases hk
   rcases hG with hG | ⟨⟨p, hp, hpo⟩, _⟩
   ·exact hv.free g rfl o u hG
   ·exact hap p hp g hpo rfl
  exact cmpE_spec hpp x.2 y.2
 have hcon := Tryz.slices_SortFunc_ent 3 (Go.GL.run_isAgg (by kernel_rfl)) (Go.GL.run_sizeOf (by kernel_rfl)) (encE (G := GLv G w LV)) (fun _ => rfl) (fun x u hu => by
  simp only [encE, List.mem_cons, List.not_mem_nil, or_false] at hu
  rcases hu with rfl | rfl | rfl
  ·rfl
  ·exact x.2.2.2.1
  ·exact x.2.2.2.2) cfE (swoE _) 119 #[] g 0 cap d w (Go.Proofs.enters_of Tryz.func119 (by kernel_rfl) rfl) hcmp hH t (by omega)
 rw [hds] at hcon
 refine hcon.mono ?_
 rintro en w' ⟨rfl, d', n, os, hp, hs, hw⟩
 rw [← hds] at hp hs
 obtain ⟨hsz, hpl⟩ := perm_list hp
 have hyl : (d'.toList.map (·.1)).length = es.length := by simp [hsz, hds]
 have f : ∀ i, i < es.length → (d'.toList.map (·.1)).getD i default = (d'[i]!).1 := fun i hi => by
  rw [getElem!_pos d' i (by omega)]
  simp [List.getD, show i < d'.size by omega]
 obtain ⟨a, b, c⟩ := own_putF (ys := d'.toList.map (·.1)) (F := Go.Sort.flatK (encE (G := GLv G w LV)) 3 d') (os := os) (m := n) hv hP hw (by rw [Go.Sort.size_flatK, hsz, hds]; rfl) hyl (fun i y hy => by
  have hi : i < es.length := by have := (List.getElem?_eq_some_iff.1 hy).1; omega
  have e1 := f i hi
  have e0 : (d'.toList.map (·.1)).getD i default = y := by rw [List.getD_eq_getElem?_getD, hy]; rfl
  have h : y = (d'[i]!).1 := e0.symm.trans e1
  have e := chunkK (enc := encE (G := GLv G w LV)) (k := 3) (fun _ => rfl) (d := d') (i := i) (by omega)
  refine ⟨e.trans ?_, ?_, ?_⟩
  ·rw [h]; rfl
  ·rw [h]; exact (d'[i]!).2.2.2.1
  ·rw [h]; exact (d'[i]!).2.2.2.2)
 refine ⟨_, rfl, a, ?_, fun i j hij hj => ?_, Ext.one b c⟩
 ·have e := hpl.map (·.1)
  rw [hdm] at e; exact e
 ·rw [hyl] at hj
  have e := hs i j (Nat.zero_le _) hij (by omega)
  rw [ltE] at e
  rw [f i (by omega), f j hj]
  exact of_decide_eq_false e

end SO1
end Go.Proofs.YtfnginkcmcfdfaaGreatDoor

set_option maxRecDepth 20000
set_option maxHeartbeats 2000000
namespace Go.Proofs.YtfnginkcmcfdfaaGreatDoor
namespace OD1
open Go.RowKit Go.GL Go.Proofs
open Go.Proofs.YtfnginkcmcfdfaaGreatDoor.B1
open Go.Proofs.YtfnginkcmcfdfaaGreatDoor.PO1
open Go.Proofs.YtfnginkcmcfdfaaGreatDoor.PA1
open Go.Proofs.YtfnginkcmcfdfaaGreatDoor.SO1








theorem mk3 : (Tryz.prog.info? 3).map (fun i => (i.size, i.bytes, i.zero)) = some (1, 8, some (.int .i64 0)) := by kernel_rfl
theorem mk99 : (Tryz.prog.info? 99).map (fun i => (i.size, i.bytes, i.zero)) = some (2, 48, some (.agg #[(.slice none 0 0), (.slice none 0 0)])) := by kernel_rfl









theorem pl124 : (Tryz.prog.underlying 124).bind (placesD Tryz.prog) = some [(0, 1), (1, 2)] := by kernel_rfl
theorem pl99 : (Tryz.prog.underlying 99).bind (placesD Tryz.prog) = some [(0, 1), (1, 1)] := by kernel_rfl







theorem ranked_spec {w : World} {G : Pin} {v : Value} {xs : List Int} {m : Nat} {rk : List (Int × Int)} (hP : Pins G w) (hv : RSl eInt G v xs) (hmp : Mp (fun k : Int => Value.int .i64 k) (fun v : Int => Value.int .i64 v) w m rk) (hs : xs.length ≤ 1048576) :
  Calls Tryz.prog 117 [v, (.map (some m))].toArray w fun e w' => ∃ (u : Value) (G' : Pin), e = .returned u ∧ Own eInt 3 G' w' w.heap.size u (sortM (xs.map (rkI rk))) ∧ Ext noS G w G' w' := by
 refine zV (n := 28) Tryz.func117 Tryz.ntmps117 rfl rfl ?_
 have d : Ext noS G w G w := Ext.refl hP
 have hm := hv.max
 have hal : (xs.map (rkI rk)).length = xs.length := List.length_map ..
 have hrl : (List.replicate xs.length (0 : Int)).length = xs.length := List.length_replicate
 refine zB (zC ?_)
 refine qM (.slice none 0 0) ?_
 refine qe (zA (zB (zC ?_)))
 refine qM v ?_
 refine qD rfl (zS Tryz.underlying65 (v := v) rfl hv) ?_
 refine qI rfl (o_make (E := eInt) 0 8 (vJ 0) Tryz.underlying65 mk3 (fun _ => rfl) rfl rfl d.pins (by omega) (by omega) (by omega) (fun a o q s g ai => ?_))
 have t := d.step s g
 have x := hmp.below g
 have y : Own eInt 3 G o w.heap.size a (List.replicate xs.length 0) := q.weaken d.size
 have aj : (List.replicate xs.length 0).length = xs.length := List.length_replicate ..
 refine qM a ?_
 refine qe (zA (zB (zB (zC ?_))))
 refine qM v ?_
 refine qD rfl (zS Tryz.underlying65 (v := v) rfl hv) ?_
 refine qM (vJ 0) ?_
 refine qe (zA ?_)
 refine zZ ?_
 refine yT (fun (k : Nat) (en : Nat → Value) (W : World) => ∃ (h : Nat → Value) (j : Nat) (os : List Int), en = (upd (upd (upd (upd (upd (upd h 1 (.map (some m))) 4 (.slice none 0 0)) 5 a) 11 v) 12 (vJ (xs.length : Int))) 13 (vJ (j : Int))) ∧ k = xs.length - j ∧ Ext noS G w G W ∧ (j ≤ xs.length) ∧ (os = (xs.map (rkI rk)).take j ++ (List.replicate xs.length 0).drop j) ∧ (os.length = xs.length) ∧ (Own eInt 3 G W w.heap.size a (os)) ∧ (Mp (fun k : Int => Value.int .i64 k) (fun v : Int => Value.int .i64 v) W m (rk))) _ ⟨_, 0, List.replicate xs.length 0, (pS 13 (pS 12 (pS 11 (pS 5 (pS 4 (pU 1)))))), rfl, t, Nat.zero_le _, rfl, hrl, y, x⟩ ?_
 rintro ak _ al ⟨h, j, os, rfl, am, c, hj, hr, hol, b, f⟩
 refine zB (zC ?_)
 refine qD rfl (yR rfl rfl) ?_
 refine qe (zA (zB ?_))
 refine zY (p := ((j : Int) : Int) < (xs.length : Int)) rfl rfl (fun aa => ?_) (fun aa => ?_)
 ·skip
  refine wp_skip ?_
  refine zA (zB ?_)
  refine zZ ?_
  refine zB (zC ?_)
  refine qM (vJ (j : Int)) ?_
  refine qD rfl (zQ Tryz.underlying65 sz3 (v := v) rfl rfl hv (by omega) (by omega)) ?_
  refine qD rfl (zN (r := xs.getD j 0) rfl ag3 (z := (j : Int)) rfl hv c.pins (by omega) (by omega)) ?_
  refine qM (vJ (j : Int)) ?_
  refine qM (vJ (xs.getD j 0)) ?_
  refine qe (zA (zC ?_))
  refine qM a ?_
  refine qM (vJ (j : Int)) ?_
  refine qM (.map (some m)) ?_
  refine qM (vJ (xs.getD j 0)) ?_
  refine qD rfl (run_look1_int (k := (xs.getD j 0)) (key_int Tryz.underlying3) Tryz.underlying69 zr3 f rfl rfl) ?_
  refine qD rfl (zQ Tryz.underlying65 sz3 (v := a) rfl rfl b.read (by omega) (by omega)) ?_
  refine q0 rfl rfl rfl (o_set (E := eInt) (v := a) (u := (vJ ((Go.GL.look rk (xs.getD j 0)).getD 0))) (z := (j : Int)) ((Go.GL.look rk (xs.getD j 0)).getD 0) sz3 rfl rfl rfl rfl c.pins b (by omega) (by omega) (fun an ab ac l ao => ?_))
  have ad := c.write ac l ((yF b))
  have ae := f.kept l (yA f b)
  refine qe ?_
  refine yL ?_
  refine zA (zC ?_)
  refine qD rfl (yQ rfl rfl (by omega)) ?_
  refine qM (vJ ((j : Int) + 1)) ?_
  refine qe ?_
  refine yN ?_
  refine ⟨_, ?_, _, rfl, _, j + 1, (os).set j ((Go.GL.look rk (xs.getD j 0)).getD 0), (pS 13 (pS 12 (pS 11 (pS 5 (pS 4 (pU 1)))))), rfl, ad, (by omega), (by rw [hr]; exact cur_set 0 (by omega) (by omega) (rk_getD (by omega))), ((List.length_set ..).trans hol), ab, ae⟩
  omega
 refine wp_exit ?_
 refine yB ?_
 refine yO ?_
 refine yM ?_
 refine zA (zB (zC ?_))
 refine qM a ?_
 refine qI rfl (zH (vs := [a]) Tryz.func152 nm152 rfl rfl rfl ?_)
 refine Calls.mono (sortI_spec c.pins b (by omega)) ?_
 rintro _ ap ⟨aq, rfl, af, ag⟩
 refine ⟨_, rfl, ?_⟩
 have ah := c.trans ag (fun i hi => (yF b) i hi)
 have ar := sortM_length os
 refine qe (zA (zB (zC ?_)))
 refine qM a ?_
 refine qM a ?_
 refine qe (zA ?_)
 refine wp_ret ?_
 refine zO ?_
 refine zP (v := a) rfl rfl rfl ?_
 rw [cur_end (by omega) (by omega)] at hr
 exact ⟨_, _, rfl, (by rw [← hr]; exact af), ah⟩

theorem order_spec {w : World} {G : Pin} {p : Nat} {L R B : Value} {mm : PM} {q : PSt} (hP : Pins G w) (hpk : Pk 65 3 G w p L R B mm q) (hok : PoolOk q) {x : Value} {xs : List Int} (hx : RSl eInt G x xs) (hr : ∀ i, i < xs.length → PlaceOk q (xs.getD i 0)) (hxl : xs.length ≤ 1048576) :
  Calls Tryz.prog 66 [(.pointer (some ⟨p, 0, none⟩)), x].toArray w fun e w' => ∃ (u v : Value) (ls : List Int) (ns : List Nd) (zs : List Int) (G' : Pin), e = .returned (.tuple #[u, v]) ∧ Own eInt 3 G' w' w.heap.size u ls ∧ DForm 99 3 G' w' w.heap.size w'.heap.size v ns ∧ OrI q zs ls ls.length ns ∧ PtOk q xs zs zs.length ∧ Ext noS G w G' w' := by
 refine zV (n := 122) Tryz.func66 Tryz.ntmps66 rfl rfl ?_
 have c0 : Ext noS G w G w := Ext.refl hP
 have hpin : PIn w (inP p L R B mm) p L R B mm := PIn.self
 have ky : (q.ns.map Nd.l).length = q.ns.length ∧ (q.ns.map Nd.r).length = q.ns.length := ⟨List.length_map .., List.length_map ..⟩
 have kz : q.bs.length = q.ns.length ∧ q.ns.length ≤ 1048576 := ⟨hok.ar.ok.len, hok.ar.ok.lim⟩
 have d6 : Lvs 3 G w w.heap.size w.heap.size [] := Lvs.nil
 have hm := hx.max
 refine zB (zC ?_)
 refine qI rfl (xI [(.pointer (some ⟨p, 0, none⟩))] (v := (.pointer (some ⟨p, 0, none⟩))) rfl rfl c0.pins (fun b3 w4 d7 gh d8 c1 => ?_))
 have gi := c0.step d8 c1
 have gj := (d6.below c1).top
 have gk := hpk.below c1 d8
 have gl : ApL [] (some b3) := ApL.fresh d6 (fun k hk => by rw [(congrArg some d7)] at hk; cases hk; exact Nat.le_refl _)
 have gm := hpk.new (x := (some b3)) (fun k hk => by rw [(congrArg some d7)] at hk; cases hk; exact Nat.le_refl _)
 have gp : w.heap.size ≤ b3 := by have := c0.size; omega
 obtain ⟨k1, c2, cd, be, d9⟩ := gh.shut gi gp
 have ea := gj.more c2 d9 gl
 have c3 := gk.more c2 d9 gm
 refine qM (.slice none 0 0) ?_
 refine qM (.slice none 0 0) ?_
 refine qe (zA (zB (zC ?_)))
 refine qD rfl (zM (u := (.pointer (some ⟨p, 0, none⟩))) ag61 rfl (cd.pins _ _ _ (be 0 _ rfl))) ?_
 refine qM x ?_
 refine qI rfl (zH (vs := [(.pointer (some ⟨p, 0, none⟩)), x]) Tryz.func103 nm103 rfl rfl rfl ?_)
 refine Calls.mono (parts_spec cd.pins c3 hok (hx.mono c2) hr hxl) ?_
 rintro _ gq ⟨d, c4, ce, rfl, c5, a4, a0⟩
 refine ⟨_, rfl, ?_⟩
 have eb := cd.tr a0
 have gr := (ea.ext a0).top
 have ec := c3.ext a0
 have ed : ApL [] d.ownBlock := ApL.fresh ea (fun k hk => (c5.lt k hk).1)
 have c6 := c3.new (x := d.ownBlock) (fun k hk => (c5.lt k hk).1)
 have ee : Own eInt 3 ce gq w.heap.size d c4 := c5.weaken cd.size
 have k2 := a4.len
 refine qM d ?_
 refine qe (zA (zB (zC ?_)))
 refine qM d ?_
 refine qD rfl (r_makeFunc [(.pointer (some ⟨b3, 0, none⟩))] rfl) ?_
 refine qI rfl (zH (vs := [d, (.func (.func 116) #[] #[(.pointer (some ⟨b3, 0, none⟩))])]) Tryz.func115 nm115 rfl rfl rfl ?_)
 refine Calls.mono (sortB_spec eb.pins ec hok (be.mono a0.le) ee a4.pl c6 (by omega)) ?_
 rintro _ k3 ⟨gt, rfl, gu, ef, gw, c7⟩
 refine ⟨_, rfl, ?_⟩
 have c8 := eb.trans c7 (fun i hi => (yF ee) i hi)
 have gx := Lvs.turned gr c7 ed
 have eg := ec.extS c7 (fun k hk hx => c6 k hx hk)
 have k4 := ef.length_eq
 refine qe (zA (zB (zC ?_)))
 refine qI rfl (o_makeMap (fun k : Int => Value.int .i64 k) (fun v : Int => Value.int .i64 v) c8.pins (fun ak k5 k6 gy eh cf => ?_))
 have c9 := c8.step eh cf
 have da := gu.below cf
 have ei := (gx.below cf).top
 have ej := eg.below cf eh
 have gz := eg.new (x := some ak) (fun k hk => by cases hk; omega)
 have g0 : w.heap.size ≤ ak := by have := c8.size; omega
 refine qM (.map (some ak)) ?_
 refine qe (zA (zB (zC ?_)))
 refine qM d ?_
 refine qD rfl (zS Tryz.underlying65 (v := d) rfl da.read) ?_
 refine qI rfl (o_make0 (E := eVal2) Tryz.underlying30 mk99 rfl rfl c9.pins (by omega) (by omega) (by omega) (fun bf g1 g2 ek bt db => ?_))
 have g3 := c9.step ek bt
 have g4 := da.below bt
 have g5 := (ei.below bt).top
 have g6 := gy.below bt
 have g7 := ej.below bt ek
 have g8 : Apart bf.ownBlock d.ownBlock := zG db da.lt
 have g9 : ApL [] bf.ownBlock := ApL.fresh ei (fun k hk => by rw [db] at hk; cases hk; exact Nat.le_refl _)
 have ha := ej.new (x := bf.ownBlock) (fun k hk => by rw [db] at hk; cases hk; exact Nat.le_refl _)
 have hb : Own eVal2 99 ce g1 w.heap.size bf ([]) := g2.weaken c9.size
 refine qM bf ?_
 refine qe (zA (zB (zB (zC ?_))))
 refine qM (vJ 0) ?_
 refine qe (zA ?_)
 refine zZ ?_
 refine yT (fun (k : Nat) (en : Nat → Value) (W : World) => ∃ (al : Nat → Value) (n : Nat) (nv : Value) (done : List Ent) (ps : List (Value × Value)) (rk : List (Int × Int)) (LV : List Leaf) (ls : List Int) (am : Pin), en = (upd (upd (upd (upd (upd (upd (upd al 2 (.pointer (some ⟨b3, 0, none⟩))) 4 (.slice none 0 0)) 5 (.slice none 0 0)) 6 d) 7 (.map (some ak))) 8 nv) 9 (vJ (n : Int))) ∧ k = ls.length - n ∧ Ext noS G w am W ∧ Pin.le ce am ∧ (OrI q c4 ls n (done.map Ent.nd)) ∧ (RkOk ls n rk) ∧ (LV.Perm (lvE done)) ∧ (ps = done.map Ent.pr) ∧ (Own eInt 3 am W w.heap.size d (ls)) ∧ (Own eVal2 99 am W w.heap.size nv (ps)) ∧ (Apart d.ownBlock nv.ownBlock) ∧ (Lvs 3 am W w.heap.size W.heap.size LV) ∧ (ApL LV d.ownBlock) ∧ (ApL LV nv.ownBlock) ∧ (Mp (fun k : Int => Value.int .i64 k) (fun v : Int => Value.int .i64 v) W ak (rk)) ∧ (Pk 65 3 am W p L R B mm q) ∧ (NP p L R B mm nv.ownBlock)) _ ⟨_, 0, bf, [], [], [], [], gt, ce, (pS 9 (pS 8 (pS 7 (pS 6 (pS 5 (pS 4 (pU 2))))))), rfl, g3, Pin.le_refl _, (OrI.start ef gw), (fun i hi => absurd hi (Nat.not_lt_zero i)), (List.Perm.refl _), rfl, g4, hb, g8.symm, g5, ed, g9, g6, g7, ha⟩ ?_
 rintro k7 _ k8 ⟨al, n, nv, done, ps, rk, LV, ls, am, rfl, k9, cg, bu, hor, hrk, hLV, hps, ch, dc, hc, dd, hd, el, he, em, hf⟩
 have hll := hor.perm.length_eq
 have hnl := hor.nl
 have hdl : done.length = n := by have := hor.len; simpa using this
 have hpsl : ps.length = n := by rw [hps, List.length_map]; exact hdl
 have hplk : ∀ i, i < ls.length → 0 ≤ ls.getD i 0 ∧ ls.getD i 0 < q.ns.length := fun i hi => a4.pl _ (hor.mem.1 (yZ hi))
 refine zB (zB (zC ?_))
 refine qM (vJ (n : Int)) ?_
 refine qM d ?_
 refine qD rfl (zS Tryz.underlying65 (v := d) rfl ch.read) ?_
 refine qD rfl (yR rfl rfl) ?_
 refine qe (zA ?_)
 refine zY (p := ((n : Int) : Int) < (ls.length : Int)) rfl rfl (fun hg => ?_) (fun hg => ?_)
 ·skip
  have hzn := hplk n (by omega)
  refine wp_skip ?_
  refine zA ?_
  refine zZ ?_
  refine zB (zC ?_)
  refine qI rfl (xH (E := eEnt) (e := 124) Tryz.underlying121 sz124 cg.pins (fun a5 hh hn eo bg ci => ?_))
  have ho := cg.step eo bg
  have hq := ch.below bg
  have hs := dc.below bg
  have ht := (dd.below bg).top
  have hu := he.below bg
  have hv := em.below bg eo
  have hw : Apart a5.ownBlock d.ownBlock := zG ci ch.lt
  have hy : Apart a5.ownBlock nv.ownBlock := zG ci dc.lt
  have hz : ApL LV a5.ownBlock := ApL.fresh dd (fun k hk => by rw [ci] at hk; cases hk; exact Nat.le_refl _)
  have h0 := em.new (x := a5.ownBlock) (fun k hk => by rw [ci] at hk; cases hk; exact Nat.le_refl _)
  have h1 : Own eEnt 124 am hh w.heap.size a5 ([]) := hn.weaken cg.size
  refine qM a5 ?_
  refine qe (zA (zB (zB (zC ?_))))
  refine qM (vJ (n : Int)) ?_
  refine qM (vJ (n : Int)) ?_
  refine qe (zA ?_)
  refine zZ ?_
  refine c_cutE (fun (en : Nat → Value) (W : World) => ∃ (al : Nat → Value) (kk : Nat) (gv : Value) (gs : List Ent) (aa : List Leaf) (ab : Pin), en = (upd (upd (upd (upd (upd (upd (upd (upd (upd al 2 (.pointer (some ⟨b3, 0, none⟩))) 4 (.slice none 0 0)) 5 (.slice none 0 0)) 6 d) 7 (.map (some ak))) 8 nv) 9 (vJ (n : Int))) 10 gv) 11 (vJ (kk : Int))) ∧ Ext noS G w ab W ∧ Pin.le am ab ∧ (kk = n + gs.length) ∧ (GrI q ls n (gs.map Ent.gn)) ∧ (aa.Perm (lvE done ++ lvE gs)) ∧ (n + gs.length = ls.length ∨ bn q (ls.getD (n + gs.length) 0) ≠ bn q (ls.getD n 0)) ∧ (Own eEnt 124 ab W w.heap.size gv (gs)) ∧ (Own eInt 3 ab W w.heap.size d (ls)) ∧ (Own eVal2 99 ab W w.heap.size nv (ps)) ∧ (Apart gv.ownBlock d.ownBlock) ∧ (Apart gv.ownBlock nv.ownBlock) ∧ (Lvs 3 ab W w.heap.size W.heap.size aa) ∧ (ApL aa gv.ownBlock) ∧ (ApL aa d.ownBlock) ∧ (ApL aa nv.ownBlock) ∧ (Mp (fun k : Int => Value.int .i64 k) (fun v : Int => Value.int .i64 v) W ak (rk)) ∧ (Pk 65 3 ab W p L R B mm q) ∧ (NP p L R B mm gv.ownBlock)) 2 ?_ ?_
  ·rintro _ an ⟨al, kk, gv, gs, aa, ab, rfl, a6, ax, hkk, hgr, a7, hend, bv, cj, de, a8, a9, ck, a1, bw, bz, cl, cm, a2⟩
   have hgl := hgr.le
   rw [List.length_map] at hgl
   have la : 0 < gs.length := Nat.pos_of_ne_zero fun h => hend.elim (fun e => by omega) (fun e => by rw [h] at e; exact e rfl)
   refine yM ?_
   refine zA (zB (zC ?_))
   refine qM gv ?_
   refine qI rfl (zH (vs := [gv, (.func (.func 119) #[] #[])]) Tryz.func118 nm118 rfl rfl rfl ?_)
   refine Calls.mono (sortE_spec a6.pins bv ck (fun x hx => ⟨a7.mem_iff.2 (List.mem_append_right _ (lvE_mem hx).1), a7.mem_iff.2 (List.mem_append_right _ (lvE_mem hx).2)⟩) a1 (by omega)) ?_
   rintro _ lb ⟨y, rfl, ep, cn, h2, bh⟩
   refine ⟨_, rfl, ?_⟩
   have h3 := a6.trans bh (fun i hi => (yF bv) i hi)
   have h4 := cj.extS bh (notO a8.symm)
   have h5 := de.extS bh (notO a9.symm)
   have h6 := Lvs.turned ck bh a1
   have h7 := cl.extS bh (notOb (yA cl bv))
   have h8 := cm.extS bh (fun k hk hx => a2 k hx hk)
   have lc := cn.length_eq
   refine qe (zA (zB (zB (zC ?_))))
   refine qM gv ?_
   refine qD rfl (zS Tryz.underlying121 (v := gv) rfl ep.read) ?_
   refine qM (vJ 0) ?_
   refine qe (zA ?_)
   refine zZ ?_
   have hgp : (y.map Ent.gn).Perm (gs.map Ent.gn) := cn.map _
   have eq : n + y.length ≤ ls.length := by omega
   have hRl : (regroup ls n (y.map Ent.gn)).length = ls.length := regroup_length (by rw [List.length_map]; omega)
   have hRn : (regroup ls n (y.map Ent.gn)).Nodup := (regroup_perm hgr hgp).nodup_iff.2 (hor.perm.nodup_iff.2 a4.nd)
   refine yT (fun (k : Nat) (en : Nat → Value) (W : World) => ∃ (al : Nat → Value) (j : Nat) (ao : Value) (ba : List Int) (a3 : List (Value × Value)) (b0 : List (Int × Int)) (ay : Pin), en = (upd (upd (upd (upd (upd (upd (upd (upd (upd (upd (upd al 2 (.pointer (some ⟨b3, 0, none⟩))) 4 (.slice none 0 0)) 5 (.slice none 0 0)) 6 d) 7 (.map (some ak))) 8 ao) 9 (vJ (n : Int))) 10 gv) 90 gv) 91 (vJ (y.length : Int))) 92 (vJ (j : Int))) ∧ k = y.length - j ∧ Ext noS G w ay W ∧ Pin.le ab ay ∧ (j ≤ y.length) ∧ (ba = ls.take n ++ (y.take j).map Ent.id ++ ls.drop (n + j)) ∧ (RkOk (regroup ls n (y.map Ent.gn)) (n + j) b0) ∧ (a3 = (done ++ y.take j).map Ent.pr) ∧ (Own eInt 3 ay W w.heap.size d (ba)) ∧ (Own eVal2 99 ay W w.heap.size ao (a3)) ∧ (Own eEnt 124 ay W w.heap.size gv (y)) ∧ (Apart d.ownBlock ao.ownBlock) ∧ (Apart ao.ownBlock gv.ownBlock) ∧ (Lvs 3 ay W w.heap.size W.heap.size aa) ∧ (ApL aa d.ownBlock) ∧ (ApL aa ao.ownBlock) ∧ (ApL aa gv.ownBlock) ∧ (Mp (fun k : Int => Value.int .i64 k) (fun v : Int => Value.int .i64 v) W ak (b0)) ∧ (Pk 65 3 ay W p L R B mm q) ∧ (NP p L R B mm ao.ownBlock)) _ ⟨_, 0, nv, ls, ps, rk, ab, (pS 92 (pS 91 (pS 90 (pS 10 (pS 9 (pS 8 (pS 7 (pS 6 (pS 5 (pS 4 (pU 2))))))))))), rfl, h3, Pin.le_refl _, Nat.zero_le _, (by simp), (hrk.reg eq), (by rw [List.take_zero, List.append_nil]; exact hps), h4, h5, ep, hc, a9.symm, h6, bw, bz, a1, h7, h8, hf⟩ ?_
   rintro ld _ lf ⟨al, j, ao, ba, a3, b0, ay, rfl, lg, b1, er, hj, bi, df, b2, dg, dh, b4, co, es, di, dj, dk, h9, et, dl, dm⟩
   have lh : ba.length = ls.length := by rw [bi]; simp; omega
   have hps3l : a3.length = n + j := by rw [b2]; simp; omega
   refine zB (zC ?_)
   refine qD rfl (yR rfl rfl) ?_
   refine qe (zA (zB ?_))
   refine zY (p := ((j : Int) : Int) < (y.length : Int)) rfl rfl (fun ia => ?_) (fun ia => ?_)
   ·skip
    refine wp_skip ?_
    refine zA (zB ?_)
    refine zZ ?_
    refine zB (zC ?_)
    refine qM (vJ (j : Int)) ?_
    refine qD rfl (zQ Tryz.underlying121 sz124 (v := gv) rfl rfl b4.read (by omega) (by omega)) ?_
    obtain ⟨li, ib, ic, lj⟩ := nm_el (j := j) default (b4.at (z := (j : Int)) (by omega) (by omega)) rfl
    obtain ⟨rfl, eu, ev⟩ := ib
    refine qD rfl (ic ag124 sz124 rfl (Gadd.pins b1.pins gv)) ?_
    refine qI rfl (yJ [(vJ 0), (.slice none 0 0), (.slice none 0 0)] zr124 rfl b1.pins (fun bj lk b5 ew ex bb => ?_))
    have ey := b1.step ex bb
    have ie := dg.below bb
    have ig := dh.below bb
    have ih := b4.below bb
    have ii := (di.below bb).top
    have ez := et.below bb
    have ij := dl.below bb ex
    have e0 : Apart (some bj) d.ownBlock := zG (congrArg some b5) dg.lt
    have e1 : Apart (some bj) ao.ownBlock := zG (congrArg some b5) dh.lt
    have e2 : Apart (some bj) gv.ownBlock := zG (congrArg some b5) b4.lt
    have e3 : ApL aa (some bj) := ApL.fresh di (fun k hk => by rw [(congrArg some b5)] at hk; cases hk; exact Nat.le_refl _)
    have e4 := dl.new (x := (some bj)) (fun k hk => by rw [(congrArg some b5)] at hk; cases hk; exact Nat.le_refl _)
    have e5 : w.heap.size ≤ bj := by have := b1.size; omega
    refine qM (vJ (j : Int)) ?_
    refine q0 rfl rfl rfl (yP (cs' := [(vJ ((y.getD j default).id)), (y.getD j default).l, (y.getD j default).r]) (us := [(vJ ((y.getD j default).id)), (y.getD j default).l, (y.getD j default).r]) (v := (.agg [(vJ ((y.getD j default).id)), (y.getD j default).l, (y.getD j default).r].toArray)) sz124 rfl rfl rfl (ones3 (by rfl) eu ev) ey.pins ew (Nat.le_of_ble_eq_true rfl) rfl (fun ll ik e6 bc lm => ?_))
    have il := ey.write e6 bc ((zX e5))
    have im := ie.keptA bc e0.symm
    have io := ig.keptA bc e1.symm
    have ip := ih.keptA bc e2.symm
    have iq := (ii.kept bc e3).top
    have e7 := ez.kept bc (xD ez ew)
    have ir := ij.kept bc e6 e4
    obtain ⟨e8, bk, dn, dp, b6⟩ := ik.shut il e5
    have cp := im.moreA bk b6 e0.symm
    have it := io.moreA bk b6 e1.symm
    have iu := ip.moreA bk b6 e2.symm
    have iv := iq.more bk b6 e3
    have iw := ir.more bk b6 e4
    refine qe (zA (zB (zC ?_)))
    refine qM d ?_
    refine qM (vJ (n : Int)) ?_
    refine qM (vJ (j : Int)) ?_
    refine qD rfl (yQ rfl rfl (by omega)) ?_
    refine qD rfl (zL (k := 0) rfl Tryz.underlying124 rfl nz3 rfl) ?_
    refine qD rfl (zM (u := (vJ ((y.getD j default).id))) ag3 rfl (dn.pins _ _ _ (dp 0 _ rfl))) ?_
    refine qD rfl (zQ Tryz.underlying65 sz3 (v := d) rfl rfl cp.read (by omega) (by omega)) ?_
    refine q0 rfl rfl rfl (o_set (E := eInt) (v := d) (u := (vJ ((y.getD j default).id))) (z := ((n : Int) + (j : Int))) ((y.getD j default).id) sz3 rfl rfl rfl rfl dn.pins cp (by omega) (by omega) (fun ln e9 fa bl lo => ?_))
    have dq := dn.write fa bl ((yF cp))
    have fb := it.keptA bl co.symm
    have fc := iu.keptA bl a8
    have fd := (iv.kept bl dj).top
    have b7 := e7.kept bl (yA e7 cp)
    have ix := iw.kept bl fa c6
    refine qe (zA (zB (zC ?_)))
    refine qM (.map (some ak)) ?_
    refine qD rfl (zL (k := 0) rfl Tryz.underlying124 rfl nz3 rfl) ?_
    refine qD rfl (zM (u := (vJ ((y.getD j default).id))) ag3 rfl (dq.pins _ _ _ (dp 0 _ rfl))) ?_
    refine qM (vJ (n : Int)) ?_
    refine qM (vJ (j : Int)) ?_
    refine qD rfl (yQ rfl rfl (by omega)) ?_
    refine q0 rfl rfl rfl (o_mapUpdate (val := (fun v : Int => Value.int .i64 v)) (k := ((y.getD j default).id)) (v := ((n : Int) + (j : Int))) (key_int Tryz.underlying3) Tryz.underlying69 rfl rfl rfl dq.pins b7 (fun lp iy fe bm lq => ?_))
    have cq := dq.write fe bm ((zX g0))
    have iz := e9.keptA bm (yA b7 e9).symm
    have i0 := fb.keptA bm (yA b7 fb).symm
    have i1 := fc.keptA bm (yA b7 fc).symm
    have i2 := (fd.kept bm (fun p hp => (yA b7 (fd.own p hp)).symm)).top
    have i3 := ix.kept bm fe gz
    refine qe (zA (zC ?_))
    refine qM ao ?_
    refine qD rfl (zL (k := 1) rfl Tryz.underlying124 rfl nz99 rfl) ?_
    refine qD rfl (yC (cs := [(y.getD j default).l, (y.getD j default).r]) ag99 sz99 rfl (fun j u hj => cq.pins _ _ _ (dp _ _ (by rw [Nat.add_comm]; simpa using hj)))) ?_
    refine qI rfl (o_build1 (E := eVal2) (e := 99) [(y.getD j default).l, (y.getD j default).r] (((y.getD j default).l, (y.getD j default).r) : Value × Value) Tryz.underlying30 sz99 zr99 ⟨rfl, eu, ev⟩ rfl (by decide) cq.pins (fun ff i4 i5 fg bd lr => ?_))
    have dr := cq.step fg bd
    have fh := iz.below bd
    have ds := i0.below bd
    have fi := i1.below bd
    have fj := (i2.below bd).top
    have fk := iy.below bd
    have fl := i3.below bd fg
    have i6 : Own eVal2 99 e8 i4 w.heap.size ff ([(((y.getD j default).l, (y.getD j default).r) : Value × Value)]) := i5.weaken cq.size
    refine qI rfl (oA (E := eVal2) (v := ao) (u := ff) 48 Tryz.underlying30 ap99 (by decide) rfl rfl dr.pins ds i6.src (dr.size) (fun b8 lu i7 fm bo cr => ?_))
    have i8 := dr.write fm bo ((yF ds))
    have i9 := fh.keptA bo co
    have ja := fi.keptA bo es.symm
    have jb := (fj.kept bo dk).top
    have jc := fk.kept bo (yA fk ds)
    have jd := fl.kept bo fm dm
    have je : Apart d.ownBlock b8.ownBlock := zF co cr fh.lt
    have jf : Apart gv.ownBlock b8.ownBlock := zF es.symm cr fi.lt
    have jg : ApL aa b8.ownBlock := ApL.app fj dk cr
    have jh := np_app dm fl cr
    have lv : (a3 ++ ([(((y.getD j default).l, (y.getD j default).r) : Value × Value)])).length = a3.length + 1 := List.length_append
    refine qM b8 ?_
    refine qe ?_
    refine yL ?_
    refine zA (zC ?_)
    refine qD rfl (yQ rfl rfl (by omega)) ?_
    refine qM (vJ ((j : Int) + 1)) ?_
    refine qe ?_
    refine yN ?_
    refine ⟨_, ?_, _, rfl, _, j + 1, b8, (ba).set ((n : Int) + (j : Int)).toNat ((y.getD j default).id), a3 ++ ([(((y.getD j default).l, (y.getD j default).r) : Value × Value)]), putE b0 ((y.getD j default).id) ((n : Int) + (j : Int)), e8, (pS 92 (pS 91 (pS 90 (pS 10 (pS 9 (pS 8 (pS 7 (pS 6 (pS 5 (pS 4 (pU 2))))))))))), rfl, i8, (Pin.le_trans er bk), (by omega), (by rw [bi, show ((n : Int) + (j : Int)).toNat = n + j by omega]; exact reg_step (by omega) (by omega)), (df.ent hRn eq (by omega)), (by rw [b2, xX _ default (by omega), ← List.append_assoc, List.map_append (l₁ := done ++ _)]; rfl), i9, i7, ja, je, jf.symm, jb, dj, jg, h9, jc, jd, jh⟩
    omega
   refine wp_exit ?_
   refine yB ?_
   refine yO ?_
   refine yM ?_
   refine zA (zC ?_)
   refine qM (vJ (n : Int)) ?_
   refine qM gv ?_
   refine qD rfl (zS Tryz.underlying121 (v := gv) rfl b4.read) ?_
   refine qD rfl (yQ rfl rfl (by omega)) ?_
   refine qM (vJ ((n : Int) + (y.length : Int))) ?_
   refine qe ?_
   refine yL ?_
   refine yN ?_
   have hjn : j = y.length := by omega
   rw [hjn, reg_end] at bi
   rw [hjn] at df b2
   rw [List.take_length] at b2
   have hls3l : ba.length = ls.length := by rw [bi]; exact hRl
   refine ⟨_, ?_, _, rfl, _, n + y.length, ao, done ++ y, a3, b0, aa, ba, ay, (pS 9 (pS 8 (pS 7 (pS 6 (pS 5 (pS 4 (pU 2))))))), rfl, b1, (Pin.le_trans (Pin.le_trans bu ax) er), (by rw [bi]; exact hor.ents hok a4 hgr (by omega) hend cn h2), (by rw [bi]; exact df), (a7.trans (by rw [lvE_app]; exact List.Perm.append_left _ (lvE_perm cn.symm))), b2, dg, dh, co, di, dj, dk, et, dl, dm⟩
   omega
  ·skip
   refine yT (fun (k : Nat) (en : Nat → Value) (W : World) => ∃ (al : Nat → Value) (kk : Nat) (gv : Value) (gs : List Ent) (aa : List Leaf) (ab : Pin), en = (upd (upd (upd (upd (upd (upd (upd (upd (upd al 2 (.pointer (some ⟨b3, 0, none⟩))) 4 (.slice none 0 0)) 5 (.slice none 0 0)) 6 d) 7 (.map (some ak))) 8 nv) 9 (vJ (n : Int))) 10 gv) 11 (vJ (kk : Int))) ∧ k = ls.length - kk ∧ Ext noS G w ab W ∧ Pin.le am ab ∧ (kk = n + gs.length) ∧ (GrI q ls n (gs.map Ent.gn)) ∧ (aa.Perm (lvE done ++ lvE gs)) ∧ (Own eEnt 124 ab W w.heap.size gv (gs)) ∧ (Own eInt 3 ab W w.heap.size d (ls)) ∧ (Own eVal2 99 ab W w.heap.size nv (ps)) ∧ (Apart gv.ownBlock d.ownBlock) ∧ (Apart gv.ownBlock nv.ownBlock) ∧ (Lvs 3 ab W w.heap.size W.heap.size aa) ∧ (ApL aa gv.ownBlock) ∧ (ApL aa d.ownBlock) ∧ (ApL aa nv.ownBlock) ∧ (Mp (fun k : Int => Value.int .i64 k) (fun v : Int => Value.int .i64 v) W ak (rk)) ∧ (Pk 65 3 ab W p L R B mm q) ∧ (NP p L R B mm gv.ownBlock)) _ ⟨_, n, a5, [], LV, am, (pS 11 (pS 10 (pS 9 (pS 8 (pS 7 (pS 6 (pS 5 (pS 4 (pU 2))))))))), rfl, ho, Pin.le_refl _, rfl, (GrI.start hor), (by simpa [lvE] using hLV), h1, hq, hs, hw, hy, ht, hz, hd, el, hu, hv, h0⟩ ?_
   rintro lw _ an ⟨al, kk, gv, gs, aa, ab, rfl, lx, a6, ax, hkk, hgr, a7, bv, cj, de, a8, a9, ck, a1, bw, bz, cl, cm, a2⟩
   have hgl := hgr.le
   rw [List.length_map] at hgl
   refine zB (zB ?_)
   have ji := Gadd.pins a6.pins d
   have jj := Gadd.pins a6.pins B
   have b9 := cj.read
   have ct := cm.ob.read
   refine xF (S := fun wz => Pins (Gadd ab an d) wz ∧ Pins ab wz ∧ BxR wz p [L, R, B, (.map (some mm.f)), (.map (some mm.o)), (.map (some mm.c)), (.map (some mm.s)), (.map (some mm.n))] ∧ Pins (Gadd ab an B) wz) (last := 27) (by kernel_rfl) rfl ?_
   have aq : Below an.heap.size an an.drew := (Below.refl _ _).drew
   have fn := a6.pins.below aq
   have a := a6.step fn aq
   have dt := bv.below aq
   have ca := cj.below aq
   have du := de.below aq
   have dv := (ck.below aq).top
   have dw := cl.below aq
   have b := cm.below aq fn
   have g := ji.below aq
   have m := jj.below aq
   refine dT (i := 0) rfl rfl (by kernel_rfl) (fun _ _ => zU (v := (vJ (kk : Int))) rfl) ⟨g, a.pins, b.bx.reads, m⟩ ?_
   refine dT (i := 1) rfl rfl (by kernel_rfl) (fun _ _ => zU (v := d) rfl) ⟨g, a.pins, b.bx.reads, m⟩ ?_
   refine dT (i := 2) rfl rfl (by kernel_rfl) (fun _ _ => zS Tryz.underlying65 (v := d) rfl b9) ⟨g, a.pins, b.bx.reads, m⟩ ?_
   refine dT (i := 3) rfl rfl (by kernel_rfl) (fun _ _ => yR rfl rfl) ⟨g, a.pins, b.bx.reads, m⟩ ?_
   refine dT (i := 4) rfl rfl (by kernel_rfl) (fun _ _ => zU (v := (.bool (decide (((kk : Int) : Int) < (ls.length : Int))))) rfl) ⟨g, a.pins, b.bx.reads, m⟩ ?_
   refine drbd (p := ((kk : Int) : Int) < (ls.length : Int)) (t := 35) rfl (fun jk => ?_) (fun jk => ?_)
   ·skip
    have hzk := hplk kk (by omega)
    have hollk := hok.ar.ok.lens (ls.getD kk 0).toNat (by omega)
    refine xC (i := 5) rfl rfl rfl (yV rfl rfl rfl rfl) (by kernel_rfl) (fun _ hS => zM (u := (.pointer (some ⟨p, 0, none⟩))) ag61 rfl ((Pins.of_le hS.2.1 (Pin.le_trans (Pin.le_trans a0.le bu) ax)) _ _ _ (be 0 _ rfl))) ⟨g, a.pins, b.bx.reads, m⟩ ?_
    refine xC (i := 6) rfl rfl rfl (yV rfl rfl rfl rfl) (by kernel_rfl) (fun _ _ => xM rfl) ⟨g, a.pins, b.bx.reads, m⟩ ?_
    refine xC (i := 7) rfl rfl rfl (yV rfl rfl rfl rfl) (by kernel_rfl) (fun _ _ => zL (k := 2) rfl Tryz.underlying72 rfl nz65 rfl) ⟨g, a.pins, b.bx.reads, m⟩ ?_
    refine xC (i := 8) rfl rfl rfl (yV rfl rfl rfl rfl) (by kernel_rfl) (fun _ hS => zM (u := B) ag65 rfl (hS.2.2.1 2 _ rfl)) ⟨g, a.pins, b.bx.reads, m⟩ ?_
    refine xC (i := 9) rfl rfl rfl (yV rfl rfl rfl rfl) (by kernel_rfl) (fun _ _ => zU (v := d) rfl) ⟨g, a.pins, b.bx.reads, m⟩ ?_
    refine xC (i := 10) rfl rfl rfl (yV rfl rfl rfl rfl) (by kernel_rfl) (fun _ _ => zU (v := (vJ (kk : Int))) rfl) ⟨g, a.pins, b.bx.reads, m⟩ ?_
    refine xC (i := 11) rfl rfl rfl (yV rfl rfl rfl rfl) (by kernel_rfl) (fun _ _ => zQ Tryz.underlying65 sz3 (v := d) rfl rfl b9 (by omega) (by omega)) ⟨g, a.pins, b.bx.reads, m⟩ ?_
    refine xC (i := 12) rfl rfl rfl (yV rfl rfl rfl rfl) (by kernel_rfl) (fun _ hS => zN (r := ls.getD kk 0) rfl ag3 (z := (kk : Int)) rfl b9 hS.1 (by omega) (by omega)) ⟨g, a.pins, b.bx.reads, m⟩ ?_
    refine xC (i := 13) rfl rfl rfl (yV rfl rfl rfl rfl) (by kernel_rfl) (fun _ _ => zQ Tryz.underlying65 sz3 (v := B) rfl rfl ct (by omega) (by omega)) ⟨g, a.pins, b.bx.reads, m⟩ ?_
    refine xC (i := 14) rfl rfl rfl (yV rfl rfl rfl rfl) (by kernel_rfl) (fun _ hS => zN (r := q.bs.getD (ls.getD kk 0).toNat 0) rfl ag3 (z := (ls.getD kk 0)) rfl ct hS.2.2.2 (by omega) (by omega)) ⟨g, a.pins, b.bx.reads, m⟩ ?_
    refine xC (i := 15) rfl rfl rfl (yV rfl rfl rfl rfl) (by kernel_rfl) (fun _ hS => zM (u := (.pointer (some ⟨p, 0, none⟩))) ag61 rfl ((Pins.of_le hS.2.1 (Pin.le_trans (Pin.le_trans a0.le bu) ax)) _ _ _ (be 0 _ rfl))) ⟨g, a.pins, b.bx.reads, m⟩ ?_
    refine xC (i := 16) rfl rfl rfl (yV rfl rfl rfl rfl) (by kernel_rfl) (fun _ _ => xM rfl) ⟨g, a.pins, b.bx.reads, m⟩ ?_
    refine xC (i := 17) rfl rfl rfl (yV rfl rfl rfl rfl) (by kernel_rfl) (fun _ _ => zL (k := 2) rfl Tryz.underlying72 rfl nz65 rfl) ⟨g, a.pins, b.bx.reads, m⟩ ?_
    refine xC (i := 18) rfl rfl rfl (yV rfl rfl rfl rfl) (by kernel_rfl) (fun _ hS => zM (u := B) ag65 rfl (hS.2.2.1 2 _ rfl)) ⟨g, a.pins, b.bx.reads, m⟩ ?_
    refine xC (i := 19) rfl rfl rfl (yV rfl rfl rfl rfl) (by kernel_rfl) (fun _ _ => zU (v := d) rfl) ⟨g, a.pins, b.bx.reads, m⟩ ?_
    refine xC (i := 20) rfl rfl rfl (yV rfl rfl rfl rfl) (by kernel_rfl) (fun _ _ => zU (v := (vJ (n : Int))) rfl) ⟨g, a.pins, b.bx.reads, m⟩ ?_
    refine xC (i := 21) rfl rfl rfl (yV rfl rfl rfl rfl) (by kernel_rfl) (fun _ _ => zQ Tryz.underlying65 sz3 (v := d) rfl rfl b9 (by omega) (by omega)) ⟨g, a.pins, b.bx.reads, m⟩ ?_
    refine xC (i := 22) rfl rfl rfl (yV rfl rfl rfl rfl) (by kernel_rfl) (fun _ hS => zN (r := ls.getD n 0) rfl ag3 (z := (n : Int)) rfl b9 hS.1 (by omega) (by omega)) ⟨g, a.pins, b.bx.reads, m⟩ ?_
    refine xC (i := 23) rfl rfl rfl (yV rfl rfl rfl rfl) (by kernel_rfl) (fun _ _ => zQ Tryz.underlying65 sz3 (v := B) rfl rfl ct (by omega) (by omega)) ⟨g, a.pins, b.bx.reads, m⟩ ?_
    refine xC (i := 24) rfl rfl rfl (yV rfl rfl rfl rfl) (by kernel_rfl) (fun _ hS => zN (r := q.bs.getD (ls.getD n 0).toNat 0) rfl ag3 (z := (ls.getD n 0)) rfl ct hS.2.2.2 (by omega) (by omega)) ⟨g, a.pins, b.bx.reads, m⟩ ?_
    refine xC (i := 25) rfl rfl rfl (yV rfl rfl rfl rfl) (by kernel_rfl) (fun _ _ => r_eql rfl rfl) ⟨g, a.pins, b.bx.reads, m⟩ ?_
    refine dT (i := 26) rfl rfl (by kernel_rfl) (fun _ _ => yW (v := (.bool (decide ((q.bs.getD (ls.getD kk 0).toNat 0 : Int) = (q.bs.getD (ls.getD n 0).toNat 0))))) rfl rfl) ⟨g, a.pins, b.bx.reads, m⟩ ?_
    refine yH (by kernel_rfl) ?_
    refine zA ?_
    refine zY (p := (q.bs.getD (ls.getD kk 0).toNat 0 : Int) = (q.bs.getD (ls.getD n 0).toNat 0)) rfl rfl (fun dx => ?_) (fun dx => ?_)
    ·skip
     refine wp_skip ?_
     refine zA (zB ?_)
     refine zZ ?_
     refine zB (zC ?_)
     refine qM d ?_
     refine qM (vJ (kk : Int)) ?_
     refine qD rfl (zQ Tryz.underlying65 sz3 (v := d) rfl rfl ca.read (by omega) (by omega)) ?_
     refine qD rfl (zN (r := ls.getD kk 0) rfl ag3 (z := (kk : Int)) rfl ca.read (Gadd.pins a.pins d) (by omega) (by omega)) ?_
     refine qM (vJ (ls.getD kk 0)) ?_
     refine qe (zA ?_)
     have jl := Gadd.pins a.pins L
     have jm := Gadd.pins a.pins R
     have jn := b.ol.read
     have jo := b.rr.read
     refine xF (S := fun wz => Pins ab wz ∧ BxR wz p [L, R, B, (.map (some mm.f)), (.map (some mm.o)), (.map (some mm.c)), (.map (some mm.s)), (.map (some mm.n))] ∧ Pins (Gadd ab an.drew L) wz ∧ Pins (Gadd ab an.drew R) wz) (last := 25) (by kernel_rfl) rfl ?_
     have au : Below an.drew.heap.size an.drew an.drew.drew := (Below.refl _ _).drew
     have fo := a.pins.below au
     have ad := a.step fo au
     have fp := dt.below au
     have fq := ca.below au
     have fr := du.below au
     have fs := (dv.below au).top
     have ft := dw.below au
     have af := b.below au fo
     have ag := jl.below au
     have ah := jm.below au
     refine dT (i := 0) rfl rfl (by kernel_rfl) (fun _ _ => zU (v := gv) rfl) ⟨ad.pins, af.bx.reads, ag, ah⟩ ?_
     refine dT (i := 1) rfl rfl (by kernel_rfl) (fun _ _ => zU (v := (vJ (ls.getD kk 0))) rfl) ⟨ad.pins, af.bx.reads, ag, ah⟩ ?_
     refine dT (i := 2) rfl rfl (by kernel_rfl) (fun _ hS => zM (u := (.pointer (some ⟨p, 0, none⟩))) ag61 rfl ((Pins.of_le hS.1 (Pin.le_trans (Pin.le_trans a0.le bu) ax)) _ _ _ (be 0 _ rfl))) ⟨ad.pins, af.bx.reads, ag, ah⟩ ?_
     refine dT (i := 3) rfl rfl (by kernel_rfl) (fun _ _ => xM rfl) ⟨ad.pins, af.bx.reads, ag, ah⟩ ?_
     refine dT (i := 4) rfl rfl (by kernel_rfl) (fun _ _ => zL (k := 0) rfl Tryz.underlying72 rfl nz66 rfl) ⟨ad.pins, af.bx.reads, ag, ah⟩ ?_
     refine dT (i := 5) rfl rfl (by kernel_rfl) (fun _ hS => zM (u := L) ag66 rfl (hS.2.1 0 _ rfl)) ⟨ad.pins, af.bx.reads, ag, ah⟩ ?_
     refine dT (i := 6) rfl rfl (by kernel_rfl) (fun _ _ => zU (v := (vJ (ls.getD kk 0))) rfl) ⟨ad.pins, af.bx.reads, ag, ah⟩ ?_
     refine dT (i := 7) rfl rfl (by kernel_rfl) (fun _ _ => zQ Tryz.underlying66 sz65 (v := L) rfl rfl jn (by omega) (by omega)) ⟨ad.pins, af.bx.reads, ag, ah⟩ ?_
     obtain ⟨jp, dy, jq⟩ := nm_sl (b.ol.at (z := (ls.getD kk 0)) (by omega) (by omega)) (j := (ls.getD kk 0).toNat) rfl
     rw [mapl_getD] at dy
     have ly := dy.max
     refine dT (i := 8) rfl rfl (by kernel_rfl) (fun _ hS => jq ag65 rfl hS.2.2.1) ⟨ad.pins, af.bx.reads, ag, ah⟩ ?_
     refine dT (i := 9) rfl rfl (by kernel_rfl) (fun _ _ => zU (v := (.map (some ak))) rfl) ⟨ad.pins, af.bx.reads, ag, ah⟩ ?_
     refine dT (i := 11) rfl rfl (by kernel_rfl) (fun _ hS => zM (u := (.pointer (some ⟨p, 0, none⟩))) ag61 rfl ((Pins.of_le hS.1 (Pin.le_trans (Pin.le_trans a0.le bu) ax)) _ _ _ (be 0 _ rfl))) ⟨ad.pins, af.bx.reads, ag, ah⟩ ?_
     refine dT (i := 12) rfl rfl (by kernel_rfl) (fun _ _ => xM rfl) ⟨ad.pins, af.bx.reads, ag, ah⟩ ?_
     refine dT (i := 13) rfl rfl (by kernel_rfl) (fun _ _ => zL (k := 1) rfl Tryz.underlying72 rfl nz66 rfl) ⟨ad.pins, af.bx.reads, ag, ah⟩ ?_
     refine dT (i := 14) rfl rfl (by kernel_rfl) (fun _ hS => zM (u := R) ag66 rfl (hS.2.1 1 _ rfl)) ⟨ad.pins, af.bx.reads, ag, ah⟩ ?_
     refine dT (i := 15) rfl rfl (by kernel_rfl) (fun _ _ => zU (v := (vJ (ls.getD kk 0))) rfl) ⟨ad.pins, af.bx.reads, ag, ah⟩ ?_
     refine dT (i := 16) rfl rfl (by kernel_rfl) (fun _ _ => zQ Tryz.underlying66 sz65 (v := R) rfl rfl jo (by omega) (by omega)) ⟨ad.pins, af.bx.reads, ag, ah⟩ ?_
     obtain ⟨jr, dz, js⟩ := nm_sl (b.rr.at (z := (ls.getD kk 0)) (by omega) (by omega)) (j := (ls.getD kk 0).toNat) rfl
     rw [mapr_getD] at dz
     have lz := dz.max
     refine dT (i := 17) rfl rfl (by kernel_rfl) (fun _ hS => js ag65 rfl hS.2.2.2) ⟨ad.pins, af.bx.reads, ag, ah⟩ ?_
     refine dT (i := 18) rfl rfl (by kernel_rfl) (fun _ _ => zU (v := (.map (some ak))) rfl) ⟨ad.pins, af.bx.reads, ag, ah⟩ ?_
     refine dO (i := 10) (zK (i := 10) rfl rfl rfl (zD rfl _) (zH (vs := [jp, (.map (some ak))]) Tryz.func117 nm117 rfl rfl rfl ?_))
     refine Calls.mono (ranked_spec ad.pins dy ft (by omega)) ?_
     rintro _ jt ⟨ac, ju, rfl, cb, ae⟩
     refine ⟨_, rfl, ?_⟩
     have cu := ad.tr ae
     have fu := fp.ext ae
     have fv := fq.ext ae
     have fw := fr.ext ae
     have fx := (fs.ext ae).top
     have fy := ft.below ae.below
     have fz := af.ext ae
     have f0 := zR cb.lt fp.lt
     have jv := zR cb.lt fq.lt
     have jw := zR cb.lt fr.lt
     have jx : ApL aa ac.ownBlock := ApL.fresh fs (fun k hk => (cb.lt k hk).1)
     have f1 : Own eInt 3 ju jt w.heap.size ac (sortM (((q.ns.getD (ls.getD kk 0).toNat default).l).map (rkI rk))) := cb.weaken ad.size
     have f2 := ag.below ae.below
     have f3 := ah.below ae.below
     refine ⟨fun _ => ⟨(Pins.of_le cu.pins ae.le), fz.bx.reads, f2, f3⟩, ?_⟩
     refine dO (i := 19) (zK (i := 19) rfl rfl rfl (zD rfl _) (zH (vs := [jr, (.map (some ak))]) Tryz.func117 nm117 rfl rfl rfl ?_))
     refine Calls.mono (ranked_spec cu.pins (dz.mono ae.le) fy (by omega)) ?_
     rintro _ jy ⟨ai, d0, rfl, bp, aj⟩
     refine ⟨_, rfl, ?_⟩
     have bq := cu.tr aj
     have jz := fu.ext aj
     have j0 := fv.ext aj
     have j1 := fw.ext aj
     have d1 := f1.ext aj
     have j2 := (fx.ext aj).top
     have j3 := fy.below aj.below
     have cv := fz.ext aj
     have f4 := zR bp.lt fu.lt
     have j4 := zR bp.lt fv.lt
     have j5 := zR bp.lt fw.lt
     have j6 := zR bp.lt f1.lt
     have j7 : ApL aa ai.ownBlock := ApL.fresh fx (fun k hk => (bp.lt k hk).1)
     have d2 : Own eInt 3 d0 jy w.heap.size ai (sortM (((q.ns.getD (ls.getD kk 0).toNat default).r).map (rkI rk))) := bp.weaken cu.size
     have cw := f2.below aj.below
     have cx := f3.below aj.below
     refine ⟨fun _ => ⟨(Pins.of_le bq.pins (Pin.le_trans ae.le aj.le)), cv.bx.reads, cw, cx⟩, ?_⟩
     refine dT (i := 20) rfl rfl (by kernel_rfl) (fun _ _ => yU [(.slice none 0 0), (.slice none 0 0)] [ac, ai] [(0, ac, [ac]), (1, ai, [ai])] Tryz.underlying99 zr99 rfl pl99 rfl (List.forall_mem_cons.2 ⟨(yY d1.one), (List.forall_mem_cons.2 ⟨(yY d2.one), (fun _ h => by cases h)⟩)⟩) rfl) ⟨(Pins.of_le bq.pins (Pin.le_trans ae.le aj.le)), cv.bx.reads, cw, cx⟩ ?_
     refine dT (i := 21) rfl rfl (by kernel_rfl) (fun _ _ => yU [(vJ 0), (.slice none 0 0), (.slice none 0 0)] [(vJ (ls.getD kk 0)), ac, ai] [(0, (vJ (ls.getD kk 0)), [(vJ (ls.getD kk 0))]), (1, (.agg [ac, ai].toArray), [ac, ai])] Tryz.underlying124 zr124 rfl pl124 rfl (List.forall_mem_cons.2 ⟨rfl, (List.forall_mem_cons.2 ⟨rfl, (fun _ h => by cases h)⟩)⟩) rfl) ⟨(Pins.of_le bq.pins (Pin.le_trans ae.le aj.le)), cv.bx.reads, cw, cx⟩ ?_
     refine dO (i := 22) (zK (i := 22) rfl rfl rfl (zD rfl _) (o_build1 (E := eEnt) (e := 124) [(vJ (ls.getD kk 0)), ac, ai] (⟨ls.getD kk 0, ac, ai, ⟨sortM (((q.ns.getD (ls.getD kk 0).toNat default).l).map (rkI rk)), sortM (((q.ns.getD (ls.getD kk 0).toNat default).r).map (rkI rk))⟩⟩ : Ent) Tryz.underlying121 sz124 zr124 ⟨rfl, d1.one, d2.one⟩ rfl (by decide) bq.pins (fun f5 j8 j9 f6 ap l0 => ?_)))
     have cy := bq.step f6 ap
     have d3 := jz.below ap
     have f7 := j0.below ap
     have f8 := j1.below ap
     have f9 := d1.below ap
     have ga := d2.below ap
     have gb := (j2.below ap).top
     have gc := j3.below ap
     have d4 := cv.below ap f6
     have ka : Own eEnt 124 d0 j8 w.heap.size f5 ([(⟨ls.getD kk 0, ac, ai, ⟨sortM (((q.ns.getD (ls.getD kk 0).toNat default).l).map (rkI rk)), sortM (((q.ns.getD (ls.getD kk 0).toNat default).r).map (rkI rk))⟩⟩ : Ent)]) := j9.weaken bq.size
     have gd := cw.below ap
     have ge := cx.below ap
     refine ⟨fun _ => ⟨(Pins.of_le cy.pins (Pin.le_trans ae.le aj.le)), d4.bx.reads, gd, ge⟩, ?_⟩
     refine dO (i := 23) (zK (i := 23) rfl rfl rfl (zD rfl _) (oA (E := eEnt) (v := gv) (u := f5) 56 Tryz.underlying121 ap124 (by decide) rfl rfl cy.pins d3 ka.src (cy.size) (fun az l1 kb cz av br => ?_)))
     have cc := cy.write cz av ((yF d3))
     have kc := f7.keptA av a8.symm
     have kd := f8.keptA av a9.symm
     have ke := f9.keptA av f0
     have kf := ga.keptA av f4
     have kg := (gb.kept av a1).top
     have kh := gc.kept av (yA gc d3)
     have d5 := d4.kept av cz a2
     have ki : Apart d.ownBlock az.ownBlock := zF a8.symm br f7.lt
     have kj : Apart nv.ownBlock az.ownBlock := zF a9.symm br f8.lt
     have kl : Apart ac.ownBlock az.ownBlock := zF f0 br f9.lt
     have km : Apart ai.ownBlock az.ownBlock := zF f4 br ga.lt
     have kn : ApL aa az.ownBlock := ApL.app gb a1 br
     have ko := np_app a2 d4 br
     have l2 : (gs ++ ([(⟨ls.getD kk 0, ac, ai, ⟨sortM (((q.ns.getD (ls.getD kk 0).toNat default).l).map (rkI rk)), sortM (((q.ns.getD (ls.getD kk 0).toNat default).r).map (rkI rk))⟩⟩ : Ent)])).length = gs.length + 1 := List.length_append
     have gf := Gadd.turn gd (Pins.of_le cc.pins (Pin.le_trans ae.le aj.le)) (Ext.one cz av) (notO (NP.hl a2).symm)
     have gg := Gadd.turn ge (Pins.of_le cc.pins (Pin.le_trans ae.le aj.le)) (Ext.one cz av) (notO (NP.hr a2).symm)
     refine ⟨fun _ => ⟨(Pins.of_le cc.pins (Pin.le_trans ae.le aj.le)), d5.bx.reads, gf, gg⟩, ?_⟩
     refine dT (i := 24) rfl rfl (by kernel_rfl) (fun _ _ => r_assign (v := az) rfl) ⟨(Pins.of_le cc.pins (Pin.le_trans ae.le aj.le)), d5.bx.reads, gf, gg⟩ ?_
     refine yH (by kernel_rfl) ?_
     refine yL ?_
     refine zA (zC ?_)
     refine qM (vJ (kk : Int)) ?_
     refine qD rfl (yQ rfl rfl (by omega)) ?_
     refine qM (vJ ((kk : Int) + 1)) ?_
     refine qe ?_
     refine yN ?_
     have kp := kg.add ke jx
     have kq : ApL (aa ++ [(ac, sortM (((q.ns.getD (ls.getD kk 0).toNat default).l).map (rkI rk)))]) d.ownBlock := bw.add jv
     have kr : ApL (aa ++ [(ac, sortM (((q.ns.getD (ls.getD kk 0).toNat default).l).map (rkI rk)))]) nv.ownBlock := bz.add jw
     have ks : ApL (aa ++ [(ac, sortM (((q.ns.getD (ls.getD kk 0).toNat default).l).map (rkI rk)))]) ai.ownBlock := j7.add j6.symm
     have kt : ApL (aa ++ [(ac, sortM (((q.ns.getD (ls.getD kk 0).toNat default).l).map (rkI rk)))]) az.ownBlock := kn.add kl
     have ku := kp.add kf ks
     have kv : ApL ((aa ++ [(ac, sortM (((q.ns.getD (ls.getD kk 0).toNat default).l).map (rkI rk)))]) ++ [(ai, sortM (((q.ns.getD (ls.getD kk 0).toNat default).r).map (rkI rk)))]) d.ownBlock := kq.add j4
     have kw : ApL ((aa ++ [(ac, sortM (((q.ns.getD (ls.getD kk 0).toNat default).l).map (rkI rk)))]) ++ [(ai, sortM (((q.ns.getD (ls.getD kk 0).toNat default).r).map (rkI rk)))]) nv.ownBlock := kr.add j5
     have kx : ApL ((aa ++ [(ac, sortM (((q.ns.getD (ls.getD kk 0).toNat default).l).map (rkI rk)))]) ++ [(ai, sortM (((q.ns.getD (ls.getD kk 0).toNat default).r).map (rkI rk)))]) az.ownBlock := kt.add km
     refine ⟨_, ?_, _, rfl, _, kk + 1, az, gs ++ ([(⟨ls.getD kk 0, ac, ai, ⟨sortM (((q.ns.getD (ls.getD kk 0).toNat default).l).map (rkI rk)), sortM (((q.ns.getD (ls.getD kk 0).toNat default).r).map (rkI rk))⟩⟩ : Ent)]), (aa ++ [(ac, sortM (((q.ns.getD (ls.getD kk 0).toNat default).l).map (rkI rk)))]) ++ [(ai, sortM (((q.ns.getD (ls.getD kk 0).toNat default).r).map (rkI rk)))], d0, (pS 11 (pS 10 (pS 9 (pS 8 (pS 7 (pS 6 (pS 5 (pS 4 (pU 2))))))))), rfl, cc, (Pin.le_trans (Pin.le_trans ax ae.le) aj.le), (by rw [List.length_append]; simp; omega), (hgr.ent hor hok a4 hrk hkk (by omega) dx), (by rw [lvE_app, ← List.append_assoc, List.append_assoc aa]; exact a7.append_right _), kb, kc, kd, ki.symm, kj.symm, ku, kx, kv, kw, kh, d5, ko⟩
     omega
    refine wp_exit ?_
    refine yB ?_
    refine yO ?_
    exact cutE_in ⟨_, kk, gv, gs, aa, ab, (pS 11 (pS 10 (pS 9 (pS 8 (pS 7 (pS 6 (pS 5 (pS 4 (pU 2))))))))), a, ax, hkk, hgr, a7, (Or.inr (by rw [← hkk]; exact dx)), dt, ca, du, a8, a9, dv, a1, bw, bz, dw, b, a2⟩
   refine xE (i := 5) rfl rfl (xA rfl rfl rfl rfl rfl) (by kernel_rfl) ⟨g, a.pins, b.bx.reads, m⟩ ?_
   refine xE (i := 6) rfl rfl (xA rfl rfl rfl rfl rfl) (by kernel_rfl) ⟨g, a.pins, b.bx.reads, m⟩ ?_
   refine xE (i := 7) rfl rfl (xA rfl rfl rfl rfl rfl) (by kernel_rfl) ⟨g, a.pins, b.bx.reads, m⟩ ?_
   refine xE (i := 8) rfl rfl (xA rfl rfl rfl rfl rfl) (by kernel_rfl) ⟨g, a.pins, b.bx.reads, m⟩ ?_
   refine xE (i := 9) rfl rfl (xA rfl rfl rfl rfl rfl) (by kernel_rfl) ⟨g, a.pins, b.bx.reads, m⟩ ?_
   refine xE (i := 10) rfl rfl (xA rfl rfl rfl rfl rfl) (by kernel_rfl) ⟨g, a.pins, b.bx.reads, m⟩ ?_
   refine xE (i := 11) rfl rfl (xA rfl rfl rfl rfl rfl) (by kernel_rfl) ⟨g, a.pins, b.bx.reads, m⟩ ?_
   refine xE (i := 12) rfl rfl (xA rfl rfl rfl rfl rfl) (by kernel_rfl) ⟨g, a.pins, b.bx.reads, m⟩ ?_
   refine xE (i := 13) rfl rfl (xA rfl rfl rfl rfl rfl) (by kernel_rfl) ⟨g, a.pins, b.bx.reads, m⟩ ?_
   refine xE (i := 14) rfl rfl (xA rfl rfl rfl rfl rfl) (by kernel_rfl) ⟨g, a.pins, b.bx.reads, m⟩ ?_
   refine xE (i := 15) rfl rfl (xA rfl rfl rfl rfl rfl) (by kernel_rfl) ⟨g, a.pins, b.bx.reads, m⟩ ?_
   refine xE (i := 16) rfl rfl (xA rfl rfl rfl rfl rfl) (by kernel_rfl) ⟨g, a.pins, b.bx.reads, m⟩ ?_
   refine xE (i := 17) rfl rfl (xA rfl rfl rfl rfl rfl) (by kernel_rfl) ⟨g, a.pins, b.bx.reads, m⟩ ?_
   refine xE (i := 18) rfl rfl (xA rfl rfl rfl rfl rfl) (by kernel_rfl) ⟨g, a.pins, b.bx.reads, m⟩ ?_
   refine xE (i := 19) rfl rfl (xA rfl rfl rfl rfl rfl) (by kernel_rfl) ⟨g, a.pins, b.bx.reads, m⟩ ?_
   refine xE (i := 20) rfl rfl (xA rfl rfl rfl rfl rfl) (by kernel_rfl) ⟨g, a.pins, b.bx.reads, m⟩ ?_
   refine xE (i := 21) rfl rfl (xA rfl rfl rfl rfl rfl) (by kernel_rfl) ⟨g, a.pins, b.bx.reads, m⟩ ?_
   refine xE (i := 22) rfl rfl (xA rfl rfl rfl rfl rfl) (by kernel_rfl) ⟨g, a.pins, b.bx.reads, m⟩ ?_
   refine xE (i := 23) rfl rfl (xA rfl rfl rfl rfl rfl) (by kernel_rfl) ⟨g, a.pins, b.bx.reads, m⟩ ?_
   refine xE (i := 24) rfl rfl (xA rfl rfl rfl rfl rfl) (by kernel_rfl) ⟨g, a.pins, b.bx.reads, m⟩ ?_
   refine xE (i := 25) rfl rfl (xA rfl rfl rfl rfl rfl) (by kernel_rfl) ⟨g, a.pins, b.bx.reads, m⟩ ?_
   refine dT (i := 26) rfl rfl (by kernel_rfl) (fun _ _ => yI (v := (.bool false)) rfl rfl) ⟨g, a.pins, b.bx.reads, m⟩ ?_
   refine yH (by kernel_rfl) ?_
   refine zA ?_
   refine qO rfl rfl ?_
   refine wp_exit ?_
   refine yB ?_
   refine yO ?_
   exact cutE_in ⟨_, kk, gv, gs, aa, ab, (pS 11 (pS 10 (pS 9 (pS 8 (pS 7 (pS 6 (pS 5 (pS 4 (pU 2))))))))), a, ax, hkk, hgr, a7, (Or.inl (by omega)), dt, ca, du, a8, a9, dv, a1, bw, bz, dw, b, a2⟩
 refine wp_exit ?_
 refine yB ?_
 refine yO ?_
 refine yM ?_
 refine zA (zB (zC ?_))
 refine qM d ?_
 refine qM nv ?_
 refine qM d ?_
 refine qM nv ?_
 refine qe (zA ?_)
 refine wp_ret ?_
 refine zO ?_
 refine c_ret2 (v := d) (u := nv) rfl rfl rfl rfl rfl ?_
 have hnn : n = ls.length := by omega
 rw [hnn] at hor
 have hon := dc
 rw [hps] at hon
 have hlv := dd.perm hLV
 have hap := el.perm hLV
 rw [lvE_lvN] at hlv hap
 exact ⟨_, _, ls, done.map Ent.nd, c4, _, rfl, ch, ⟨done.map Ent.pr, by rw [List.length_map, List.length_map], hon, fun k hk => (hon.lt k hk).2, hlv, hap⟩, hor, a4, cg⟩

end OD1
end Go.Proofs.YtfnginkcmcfdfaaGreatDoor

set_option maxRecDepth 20000
set_option maxHeartbeats 2000000
namespace Go.Proofs.YtfnginkcmcfdfaaGreatDoor
namespace FO1
open Go.RowKit Go.GL Go.Proofs
open Go.Proofs.YtfnginkcmcfdfaaGreatDoor.B1
open Go.Proofs.YtfnginkcmcfdfaaGreatDoor.PO1
open Go.Proofs.YtfnginkcmcfdfaaGreatDoor.PA1
open Go.Proofs.YtfnginkcmcfdfaaGreatDoor.SO1
open Go.Proofs.YtfnginkcmcfdfaaGreatDoor.OD1






theorem pl32 : (Tryz.prog.underlying 32).bind (placesD Tryz.prog) = some [(0, 1)] := by kernel_rfl






theorem form_spec {w : World} {G : Pin} {p : Nat} {L R B : Value} {mm : PM} {q : PSt} (hP : Pins G w) (hpk : Pk 65 3 G w p L R B mm q) (hok : PoolOk q) {i : Int} (hi : PlaceOk q i) :
  Calls Tryz.prog 59 [(.pointer (some ⟨p, 0, none⟩)), (vJ i)].toArray w fun e w' => ∃ (u : Value) (G' : Pin), e = .returned (.tuple #[(.agg [u].toArray), .bool (fitB (pd q i))]) ∧ DForm 99 3 G' w' w.heap.size w'.heap.size u (frmG (pd q i)) ∧ Ext noS G w G' w' := by
 refine zV (n := 44) Tryz.func59 Tryz.ntmps59 rfl rfl ?_
 have aj : Ext noS G w G w := Ext.refl hP
 have hpin : PIn w (inP p L R B mm) p L R B mm := PIn.self
 have ea : (q.ns.map Nd.l).length = q.ns.length ∧ (q.ns.map Nd.r).length = q.ns.length := ⟨List.length_map .., List.length_map ..⟩
 have eb : q.bs.length = q.ns.length ∧ q.ns.length ≤ 1048576 := ⟨hok.ar.ok.len, hok.ar.ok.lim⟩
 have ec := hi.1
 have ed := hi.2
 have a1 := place_one hi
 refine zB (zC ?_)
 refine qI rfl (yJ [(.slice none 0 0)] zr32 rfl aj.pins (fun d w4 ef a2 a3 a4 => ?_))
 have ak := aj.step a3 a4
 have a5 := hpk.below a4 a3
 have ac : w.heap.size ≤ d := by have := aj.size; omega
 refine qM (.bool false) ?_
 refine qe (zA (zB (zB (zC ?_))))
 refine qM (.pointer (some ⟨p, 0, none⟩)) ?_
 refine qM (vJ i) ?_
 refine qI rfl (yG (E := eInt) (e := 3) [(vJ i)] [i] Tryz.underlying65 sz3 zr3 (by exact xK (by rfl)) (yE (by rfl)) rfl rfl rfl rfl (by decide) ak.pins (fun ad b4 b5 a6 al a7 => ?_))
 have b6 := ak.step a6 al
 have b7 := a2.below al
 have b8 := a5.below al a6
 have b9 : Apart ad.ownBlock (some d) := zI a7 a2.lt
 have ca := a5.new (x := ad.ownBlock) (fun k hk => by rw [a7] at hk; cases hk; exact Nat.le_refl _)
 have cb : Own eInt 3 G b4 w.heap.size ad ([i]) := b5.weaken ak.size
 obtain ⟨eg, cc, am, cd, a8⟩ := cb.sealed b6
 have ce := b7.moreO a8 b9.symm
 have a9 := b8.moreO cc a8 ca
 refine qI rfl (zH (vs := [(.pointer (some ⟨p, 0, none⟩)), ad]) Tryz.func103 nm103 rfl rfl rfl ?_)
 refine Calls.mono (parts_spec am.pins a9 hok cd a1 (by simp)) ?_
 rintro _ cf ⟨ba, bb, bc, rfl, cg, bd, an⟩
 refine ⟨_, rfl, ?_⟩
 have s := am.tr an
 have ao := ce.ext an
 have be := a9.ext an
 have ch : Own eInt 3 bc cf w.heap.size ba bb := cg.weaken am.size
 have eh := bd.len
 have hfl := form_len hok hi bd
 refine qD rfl (zS Tryz.underlying65 (v := ba) rfl ch.read) ?_
 refine qD rfl (r_gtr rfl rfl) ?_
 refine qe (zA ?_)
 refine zY (p := (120 : Int) < (bb.length : Int)) rfl rfl (fun ci => ?_) (fun ci => ?_)
 ·skip
  refine zB (zC ?_)
  refine qD rfl (yU [(.slice none 0 0)] [(.slice none 0 0)] [] Tryz.underlying32 zr32 rfl pl32 rfl (fun _ h => by cases h) rfl) ?_
  refine q0 rfl rfl rfl (yP (cs' := [(.slice none 0 0)]) (us := [(.slice none 0 0)]) (v := (.agg [(.slice none 0 0)].toArray)) sz32 rfl rfl rfl (yE (by rfl)) s.pins ao (Nat.le_of_ble_eq_true rfl) rfl (fun ei cj ck cl ej => ?_))
  have cm := s.write ck cl ((zX ac))
  refine qM (.bool false) ?_
  refine qe (zA ?_)
  refine wp_ret ?_
  refine zO ?_
  refine xO (cs := [(.slice none 0 0)]) (v := (.bool false)) rfl rfl rfl rfl rfl ag32 sz32 (fun j u hj => by rw [Nat.zero_add]; exact cj.cell hj) ?_
  have hfb : fitB (pd q i) = false := fit_long (by omega)
  rw [hfb, frm_no hfb]
  exact ⟨_, _, rfl, DForm.nil, cm⟩
 refine wp_skip ?_
 refine zA (zB (zC ?_))
 refine qM (.pointer (some ⟨p, 0, none⟩)) ?_
 refine qM (vJ i) ?_
 refine qI rfl (yG (E := eInt) (e := 3) [(vJ i)] [i] Tryz.underlying65 sz3 zr3 (by exact xK (by rfl)) (yE (by rfl)) rfl rfl rfl rfl (by decide) s.pins (fun ae cn co bf ap bg => ?_))
 have cp := s.step bf ap
 have cq := ao.below ap
 have cr := be.below ap bf
 have ct : Apart ae.ownBlock (some d) := zI bg ao.lt
 have cu := be.new (x := ae.ownBlock) (fun k hk => by rw [bg] at hk; cases hk; exact Nat.le_refl _)
 have cv : Own eInt 3 bc cn w.heap.size ae ([i]) := co.weaken s.size
 obtain ⟨ek, cw, af, cx, bh⟩ := cv.sealed cp
 have aq := cq.moreO bh ct.symm
 have bi := cr.moreO cw bh cu
 refine qI rfl (zH (vs := [(.pointer (some ⟨p, 0, none⟩)), ae]) Tryz.func66 nm66 rfl rfl rfl ?_)
 refine Calls.mono (order_spec af.pins bi hok cx a1 (by simp)) ?_
 rintro _ el ⟨au, b, em, c, eo, bj, rfl, ep, cy, cz, c0, av⟩
 refine ⟨_, rfl, ?_⟩
 have c1 := af.tr av
 have c2 := aq.ext av
 have c3 := bi.ext av
 have hfo := cz.form hok c0
 obtain ⟨a, c4, bk, er, bl, c5⟩ := cy.ex
 have bm := bk.weaken af.size
 have c6 := (bl.weaken af.size (Nat.le_refl _)).top
 have c7 : Apart (some d) b.ownBlock := (yD bk.lt aq.lt).symm
 have c8 : ApL (lvN a c) (some d) := fun p hp => yD (bl.own p hp).lt aq.lt
 refine qM (.tuple #[au, b]) ?_
 refine qD rfl (zT (v := au) rfl rfl) ?_
 refine qD rfl (zT (v := b) rfl rfl) ?_
 refine qM au ?_
 refine qM b ?_
 refine qe (zA (zB (zB (zC ?_))))
 refine qM b ?_
 refine qD rfl (zS Tryz.underlying30 (v := b) rfl bm.read) ?_
 refine qM (vJ 0) ?_
 refine qe (zA ?_)
 refine zZ ?_
 have hlo := hfo.1.lo
 have hlf := hfo.eq
 rw [hlf] at hfl
 refine yT (fun (k : Nat) (en : Nat → Value) (W : World) => ∃ (bn : Nat → Value) (j : Nat) (f : Pin), en = (upd (upd (upd (upd (upd bn 4 (.pointer (some ⟨d, 0, none⟩))) 7 b) 24 b) 25 (vJ (a.length : Int))) 26 (vJ (j : Int))) ∧ k = c.length - j ∧ Ext noS G w f W ∧ Pin.le bj f ∧ (j ≤ c.length) ∧ (∀ k, k < j → (c.getD k default).l.length ≤ 24 ∧ (c.getD k default).r.length ≤ 24) ∧ (Own eVal2 99 f W w.heap.size b (a)) ∧ (Bx f W d [(.slice none 0 0)]) ∧ (Lvs 3 f W w.heap.size W.heap.size (lvN a c)) ∧ (ApL (lvN a c) b.ownBlock) ∧ (ApL (lvN a c) (some d)) ∧ (Pk 65 3 f W p L R B mm q)) _ ⟨_, 0, bj, (pS 26 (pS 25 (pS 24 (pS 7 (pU 4))))), rfl, c1, Pin.le_refl _, Nat.zero_le _, (fun k hk => absurd hk (Nat.not_lt_zero k)), bm, c2, c6, c5, c8, c3⟩ ?_
 rintro es _ et ⟨bn, j, f, rfl, eu, o, c9, hj, hop, g, aw, ax, bo, bp, bq⟩
 refine zB (zC ?_)
 refine qD rfl (yR rfl rfl) ?_
 refine qe (zA (zB ?_))
 refine zY (p := ((j : Int) : Int) < (a.length : Int)) rfl rfl (fun da => ?_) (fun da => ?_)
 ·skip
  refine wp_skip ?_
  refine zA (zB ?_)
  refine zZ ?_
  refine zB (zC ?_)
  refine qD rfl (zQ Tryz.underlying30 sz99 (v := b) rfl rfl g.read (by omega) (by omega)) ?_
  obtain ⟨ev, db, dc, ew⟩ := nm_el (j := j) default (g.at (z := (j : Int)) (by omega) (by omega)) rfl
  obtain ⟨rfl, dd, de⟩ := db
  refine qD rfl (dc ag99 sz99 rfl (Gadd.pins o.pins b)) ?_
  refine qI rfl (yJ [(.slice none 0 0), (.slice none 0 0)] zr99 rfl o.pins (fun y ey ag df br aa => ?_))
  have bt := o.step br aa
  have dg := g.below aa
  have dh := aw.below aa
  have di := (ax.below aa).top
  have dj := bq.below aa br
  have bu : Apart (some y) b.ownBlock := zG (congrArg some ag) g.lt
  have bv : Apart (some y) (some d) := zI (congrArg some ag) aw.lt
  have bw : ApL (lvN a c) (some y) := ApL.fresh ax (fun k hk => by rw [(congrArg some ag)] at hk; cases hk; exact Nat.le_refl _)
  have bx := bq.new (x := (some y)) (fun k hk => by rw [(congrArg some ag)] at hk; cases hk; exact Nat.le_refl _)
  have bz : w.heap.size ≤ y := by have := o.size; omega
  refine q0 rfl rfl rfl (yP (cs' := [(a.getD j default).1, (a.getD j default).2]) (us := [(a.getD j default).1, (a.getD j default).2]) (v := (.agg [(a.getD j default).1, (a.getD j default).2].toArray)) sz99 rfl rfl rfl (qH dd de) bt.pins df (Nat.le_of_ble_eq_true rfl) rfl (fun ez dk b0 ab e0 => ?_))
  have dl := bt.write b0 ab ((zX bz))
  have dm := dg.keptA ab bu.symm
  have dn := dh.keptA ab bv.symm
  have dp := (di.kept ab bw).top
  have dq := dj.kept ab b0 bx
  obtain ⟨dr, ah, m, b1, ai⟩ := dk.shut dl bz
  have ds := dm.moreA ah ai bu.symm
  have ay := dn.moreA ai bv.symm
  have az := dp.more ah ai bw
  have dt := dq.more ah ai bx
  refine qe (zA (zB (zC ?_)))
  have hpj : a[j]? = some (a.getD j default) := by simp [List.getD, show j < a.length by omega]
  have hnj : c[j]? = some (c.getD j default) := by simp [List.getD, show j < c.length by omega]
  have du := (az.own _ (lvN_mem hpj hnj).1).read
  have dv := (az.own _ (lvN_mem hpj hnj).2).read
  refine qD rfl (zL (k := 0) rfl Tryz.underlying99 rfl nz65 rfl) ?_
  refine qD rfl (zM (u := (a.getD j default).1) ag65 rfl (m.pins _ _ _ (b1 0 _ rfl))) ?_
  refine qD rfl (zS Tryz.underlying65 (v := (a.getD j default).1) rfl du) ?_
  refine qD rfl (r_gtr rfl rfl) ?_
  refine qM (.bool (decide ((24 : Int) < (((c.getD j default).l).length : Int)))) ?_
  refine qbd (p := (24 : Int) < (((c.getD j default).l).length : Int)) (t := 34) rfl (fun dw => ?_) (fun dw => ?_)
  ·skip
   refine qW ?_
   refine qW ?_
   refine qW ?_
   refine qW ?_
   refine qD rfl (yW (v := (.bool true)) rfl rfl) ?_
   refine qe (zA ?_)
   refine c_ifT rfl rfl ?_
   refine zB (zC ?_)
   refine qD rfl (yU [(.slice none 0 0)] [(.slice none 0 0)] [] Tryz.underlying32 zr32 rfl pl32 rfl (fun _ h => by cases h) rfl) ?_
   refine q0 rfl rfl rfl (yP (cs' := [(.slice none 0 0)]) (us := [(.slice none 0 0)]) (v := (.agg [(.slice none 0 0)].toArray)) sz32 rfl rfl rfl (yE (by rfl)) m.pins ay (Nat.le_of_ble_eq_true rfl) rfl (fun e1 dx dy dz e2 => ?_))
   have d0 := m.write dy dz ((zX ac))
   refine qM (.bool false) ?_
   refine qe (zA ?_)
   refine wp_ret ?_
   refine zO ?_
   refine xO (cs := [(.slice none 0 0)]) (v := (.bool false)) rfl rfl rfl rfl rfl ag32 sz32 (fun j u hj => by rw [Nat.zero_add]; exact dx.cell hj) ?_
   have hfb : fitB (pd q i) = false := fit_opt hfo (k := j) (by omega) (by omega)
   rw [hfb, frm_no hfb]
   exact ⟨_, _, rfl, DForm.nil, d0⟩
  refine qN (zL (k := 1) rfl Tryz.underlying99 rfl nz65 rfl) ?_
  refine qN (zM (u := (a.getD j default).2) ag65 rfl (m.pins _ _ _ (b1 1 _ rfl))) ?_
  refine qN (zS Tryz.underlying65 (v := (a.getD j default).2) rfl dv) ?_
  refine qN (r_gtr rfl rfl) ?_
  refine qD rfl (yI (v := (.bool (decide ((24 : Int) < (((c.getD j default).r).length : Int))))) rfl rfl) ?_
  refine qe (zA ?_)
  refine zY (p := (24 : Int) < (((c.getD j default).r).length : Int)) rfl rfl (fun d1 => ?_) (fun d1 => ?_)
  ·skip
   refine zB (zC ?_)
   refine qD rfl (yU [(.slice none 0 0)] [(.slice none 0 0)] [] Tryz.underlying32 zr32 rfl pl32 rfl (fun _ h => by cases h) rfl) ?_
   refine q0 rfl rfl rfl (yP (cs' := [(.slice none 0 0)]) (us := [(.slice none 0 0)]) (v := (.agg [(.slice none 0 0)].toArray)) sz32 rfl rfl rfl (yE (by rfl)) m.pins ay (Nat.le_of_ble_eq_true rfl) rfl (fun e3 d2 d3 d4 e4 => ?_))
   have d5 := m.write d3 d4 ((zX ac))
   refine qM (.bool false) ?_
   refine qe (zA ?_)
   refine wp_ret ?_
   refine zO ?_
   refine xO (cs := [(.slice none 0 0)]) (v := (.bool false)) rfl rfl rfl rfl rfl ag32 sz32 (fun j u hj => by rw [Nat.zero_add]; exact d2.cell hj) ?_
   have hfb : fitB (pd q i) = false := fit_opt hfo (k := j) (by omega) (by omega)
   rw [hfb, frm_no hfb]
   exact ⟨_, _, rfl, DForm.nil, d5⟩
  refine wp_skip ?_
  refine yL ?_
  refine zA (zC ?_)
  refine qD rfl (yQ rfl rfl (by omega)) ?_
  refine qM (vJ ((j : Int) + 1)) ?_
  refine qe ?_
  refine yN ?_
  refine ⟨_, ?_, _, rfl, _, j + 1, dr, (pS 26 (pS 25 (pS 24 (pS 7 (pU 4))))), rfl, m, (Pin.le_trans c9 ah), (by omega), (fun k hk => if h : k = j then h ▸ (by omega) else hop k (by omega)), ds, ay, az, bo, bp, dt⟩
  omega
 refine wp_exit ?_
 refine yB ?_
 refine yO ?_
 refine yM ?_
 refine zA (zB (zC ?_))
 refine qM b ?_
 refine qD rfl (yU [(.slice none 0 0)] [b] [(0, b, [b])] Tryz.underlying32 zr32 rfl pl32 rfl (List.forall_mem_cons.2 ⟨(yY g.one), (fun _ h => by cases h)⟩) rfl) ?_
 refine q0 rfl rfl rfl (yP (cs' := [b]) (us := [b]) (v := (.agg [b].toArray)) sz32 rfl rfl rfl (yE g.one) o.pins aw (Nat.le_of_ble_eq_true rfl) rfl (fun e5 d6 d7 a0 e6 => ?_))
 have d8 := o.write d7 a0 ((zX ac))
 have b2 := g.keptA a0 c7.symm
 have d9 := (ax.kept a0 bp).top
 refine qM (.bool true) ?_
 refine qe (zA ?_)
 refine wp_ret ?_
 refine zO ?_
 refine xO (cs := [b]) (v := (.bool true)) rfl rfl rfl rfl rfl ag32 sz32 (fun j u hj => by rw [Nat.zero_add]; exact d6.cell hj) ?_
 have hfb : fitB (pd q i) = true := fit_yes hfo (by omega) (fun k hk => hop k (by omega))
 rw [hfb, frm_yes hfo hfb]
 exact ⟨_, _, rfl, ⟨a, c4, b2, (fun k hk => (b2.lt k hk).2), d9, bo⟩, d8⟩

end FO1
end Go.Proofs.YtfnginkcmcfdfaaGreatDoor

set_option maxRecDepth 20000
set_option maxHeartbeats 2000000
namespace Go.Proofs.YtfnginkcmcfdfaaGreatDoor
namespace NG1
open Go.RowKit Go.GL Go.Proofs
open Go.Proofs.YtfnginkcmcfdfaaGreatDoor.B1
open Go.Proofs.YtfnginkcmcfdfaaGreatDoor.K1
open Go.Proofs.YtfnginkcmcfdfaaGreatDoor.PO1
open Go.Proofs.YtfnginkcmcfdfaaGreatDoor.PL1
end NG1
end Go.Proofs.YtfnginkcmcfdfaaGreatDoor

set_option maxRecDepth 20000
set_option maxHeartbeats 2000000
namespace Go.Proofs.YtfnginkcmcfdfaaGreatDoor
namespace NF1
open Go.RowKit Go.GL Go.Proofs
open Go.Proofs.YtfnginkcmcfdfaaGreatDoor.B1
open Go.Proofs.YtfnginkcmcfdfaaGreatDoor.C1
open Go.Proofs.YtfnginkcmcfdfaaGreatDoor.D1
open Go.Proofs.YtfnginkcmcfdfaaGreatDoor.E1
open Go.Proofs.YtfnginkcmcfdfaaGreatDoor.K1
open Go.Proofs.YtfnginkcmcfdfaaGreatDoor.PO1
open Go.Proofs.YtfnginkcmcfdfaaGreatDoor.PL1
open Go.Proofs.YtfnginkcmcfdfaaGreatDoor.PA1
open Go.Proofs.YtfnginkcmcfdfaaGreatDoor.SO1
open Go.Proofs.YtfnginkcmcfdfaaGreatDoor.OD1
open Go.Proofs.YtfnginkcmcfdfaaGreatDoor.FO1
open Go.Proofs.YtfnginkcmcfdfaaGreatDoor.NG1
end NF1
end Go.Proofs.YtfnginkcmcfdfaaGreatDoor

set_option maxRecDepth 20000
set_option maxHeartbeats 2000000
namespace Go.Proofs.YtfnginkcmcfdfaaGreatDoor
namespace SM1
open Go.RowKit Go.GL Go.Proofs
open Go.Proofs.YtfnginkcmcfdfaaGreatDoor.B1
open Go.Proofs.YtfnginkcmcfdfaaGreatDoor.C1
open Go.Proofs.YtfnginkcmcfdfaaGreatDoor.D1
open Go.Proofs.YtfnginkcmcfdfaaGreatDoor.E1
open Go.Proofs.YtfnginkcmcfdfaaGreatDoor.K1
open Go.Proofs.YtfnginkcmcfdfaaGreatDoor.PO1
open Go.Proofs.YtfnginkcmcfdfaaGreatDoor.PL1
open Go.Proofs.YtfnginkcmcfdfaaGreatDoor.PA1
open Go.Proofs.YtfnginkcmcfdfaaGreatDoor.SO1
open Go.Proofs.YtfnginkcmcfdfaaGreatDoor.OD1
open Go.Proofs.YtfnginkcmcfdfaaGreatDoor.FO1
open Go.Proofs.YtfnginkcmcfdfaaGreatDoor.NG1
open Go.Proofs.YtfnginkcmcfdfaaGreatDoor.NF1


theorem pl32 : (Tryz.prog.underlying 32).bind (placesD Tryz.prog) = some [(0, 1)] := by kernel_rfl


theorem l3If_spec {w : World} {G : Pin} {v : Value} {fs : List Nd} (hP : Pins G w) (hv : RSl eNode G v fs) :
  Calls Tryz.prog 57 [(.agg [v].toArray)].toArray w fun e w' => ∃ (u : Value) (G' : Pin), e = .returned (.tuple #[(.agg [u].toArray), .bool (decP (FitsP fs))]) ∧ RSl eNode G' u (ifF fs) ∧ Ext noS G w G' w' := by
 refine zV (n := 9) Tryz.func57 Tryz.ntmps57 rfl rfl ?_
 have d : Ext noS G w G w := Ext.refl hP
 refine zB (zC ?_)
 refine qI rfl (xI [v] (v := (.agg [v].toArray)) rfl rfl d.pins (fun o w2 al p q r => ?_))
 have s := d.step q r
 have t : w.heap.size ≤ o := by have := d.size; omega
 obtain ⟨G9, i, f, k, an⟩ := p.shut s t
 refine qI rfl (yJ [(.slice none 0 0)] zr32 rfl f.pins (fun x ao ap y aa ab => ?_))
 have g := f.step aa ab
 have l : w.heap.size ≤ x := by have := f.size; omega
 refine qM (.bool false) ?_
 refine qe (zA (zB (zB (zC ?_))))
 refine qD rfl (yC (cs := [v]) ag32 sz32 rfl (fun j u hj => g.pins _ _ _ (k _ _ (by simpa using hj)))) ?_
 refine qI rfl (zH (vs := [(.agg [v].toArray)]) Tryz.func88 nm88 rfl rfl rfl ?_)
 refine Calls.mono (l3Fits_spec g.pins (hv.mono i)) ?_
 rintro _ aq ⟨ar, rfl, c⟩
 refine ⟨_, rfl, ?_⟩
 have a := g.tr c
 have m := y.ext c
 refine qD rfl (qF rfl) ?_
 refine qe (zA ?_)
 refine c_ifn rfl rfl (fun b => ?_) (fun b => ?_)
 ·skip
  refine wp_skip ?_
  refine zA (zB (zC ?_))
  refine qD rfl (yC (cs := [v]) ag32 sz32 rfl (fun j u hj => (Pins.of_le a.pins c.le) _ _ _ (k _ _ (by simpa using hj)))) ?_
  refine q0 rfl rfl rfl (yP (cs' := [v]) (us := [v]) (v := (.agg [v].toArray)) sz32 rfl rfl rfl (yE hv.one) a.pins m (Nat.le_of_ble_eq_true rfl) rfl (fun au ac ad ae av => ?_))
  have af := a.write ad ae ((zX l))
  refine qM (.bool true) ?_
  refine qe (zA ?_)
  refine wp_ret ?_
  refine zO ?_
  refine xO (cs := [v]) (v := (.bool true)) rfl rfl rfl rfl rfl ag32 sz32 (fun j u hj => by rw [Nat.zero_add]; exact ac.cell hj) ?_
  exact ⟨_, _, congrArg (fun z => Ending.returned (Value.tuple #[(.agg [v].toArray), Value.bool z])) (b).symm, (by unfold ifF; rw [b]; exact (hv.mono (Pin.le_trans i c.le))), af⟩
 refine zB (zC ?_)
 refine qD rfl (yU [(.slice none 0 0)] [(.slice none 0 0)] [] Tryz.underlying32 zr32 rfl pl32 rfl (fun _ h => by cases h) rfl) ?_
 refine q0 rfl rfl rfl (yP (cs' := [(.slice none 0 0)]) (us := [(.slice none 0 0)]) (v := (.agg [(.slice none 0 0)].toArray)) sz32 rfl rfl rfl (yE (by rfl)) a.pins m (Nat.le_of_ble_eq_true rfl) rfl (fun aw ag ah ai ax => ?_))
 have aj := a.write ah ai ((zX l))
 refine qM (.bool false) ?_
 refine qe (zA ?_)
 refine wp_ret ?_
 refine zO ?_
 refine xO (cs := [(.slice none 0 0)]) (v := (.bool false)) rfl rfl rfl rfl rfl ag32 sz32 (fun j u hj => by rw [Nat.zero_add]; exact ag.cell hj) ?_
 exact ⟨_, _, congrArg (fun z => Ending.returned (Value.tuple #[(.agg [(.slice none 0 0)].toArray), Value.bool z])) (b).symm, (by unfold ifF; rw [b]; exact xG _ _), aj⟩

end SM1
end Go.Proofs.YtfnginkcmcfdfaaGreatDoor

namespace Go.GL
open Go Go.RowKit
end Go.GL

namespace Go.GL
open Go Go.RowKit
end Go.GL

namespace Go.GL
open Go Go.RowKit

end Go.GL

namespace Go.GL
open Go Go.RowKit

section
variable {q : PSt} {a : Int}
end
end Go.GL

namespace Go.GL
open Go Go.RowKit
section
variable {P : Program} {ρ : Operand → Value} {w : World} {d : Option Nat} {t e ty t' : Nat} {pos : String} {aft : Array Edge} {g : Option (Nat × Bool)} {x y : Operand}
end
end Go.GL

namespace Go.GL
open Go Go.RowKit

section
variable {ns : List Nd} {k : Nat} {xs ys : List Int}
end
end Go.GL

set_option maxRecDepth 20000
set_option maxHeartbeats 2000000
namespace Go.Proofs.YtfnginkcmcfdfaaGreatDoor
namespace MK1
open Go.RowKit Go.GL Go.Proofs
open Go.Proofs.YtfnginkcmcfdfaaGreatDoor.B1
open Go.Proofs.YtfnginkcmcfdfaaGreatDoor.C1
open Go.Proofs.YtfnginkcmcfdfaaGreatDoor.D1
open Go.Proofs.YtfnginkcmcfdfaaGreatDoor.E1
open Go.Proofs.YtfnginkcmcfdfaaGreatDoor.K1
open Go.Proofs.YtfnginkcmcfdfaaGreatDoor.PO1
open Go.Proofs.YtfnginkcmcfdfaaGreatDoor.PL1
open Go.Proofs.YtfnginkcmcfdfaaGreatDoor.PA1
open Go.Proofs.YtfnginkcmcfdfaaGreatDoor.SO1
open Go.Proofs.YtfnginkcmcfdfaaGreatDoor.OD1
open Go.Proofs.YtfnginkcmcfdfaaGreatDoor.FO1
open Go.Proofs.YtfnginkcmcfdfaaGreatDoor.NG1
open Go.Proofs.YtfnginkcmcfdfaaGreatDoor.NF1
open Go.Proofs.YtfnginkcmcfdfaaGreatDoor.SM1





theorem pl102 : (Tryz.prog.underlying 102).bind (placesD Tryz.prog) = some [(0, 1), (1, 1)] := by kernel_rfl





theorem l3Make_spec {w : World} {G : Pin} {u v : Value} {fs gs : List (List Nd)} (hP : Pins G w) (hu : RSl (eSl eNode) G u fs) (hv : RSl (eSl eNode) G v gs) (hfa : AllW fs) (hga : AllW gs) :
  Calls Tryz.prog 63 [u, v].toArray w fun e w' => ∃ (u : Value) (G' : Pin), e = .returned (.agg [u].toArray) ∧ RSl eNode G' u (formG (mkGm fs gs)) ∧ Ext noS G w G' w' := by
 refine zV (n := 50) Tryz.func63 Tryz.ntmps63 rfl rfl ?_
 have a6 : Ext noS G w G w := Ext.refl hP
 have hmu := hu.max
 have hmv := hv.max
 have hfle := hfa.len
 have hgle := hga.len
 refine zB (zC ?_)
 refine qI rfl (yJ [(.slice none 0 0)] zr32 rfl a6.pins (fun d w2 hf b0 dw dx => ?_))
 have a7 := a6.step dw dx
 have dy : w.heap.size ≤ d := by have := a6.size; omega
 refine qe (zA (zB (zC ?_)))
 refine qD rfl (yU [(.slice none 0 0), (.slice none 0 0)] [(.slice none 0 0), (.slice none 0 0)] [] Tryz.underlying102 zr102 rfl pl102 rfl (fun _ h => by cases h) rfl) ?_
 refine qI rfl (xI [(.slice none 0 0), (.slice none 0 0)] (v := (.agg [(.slice none 0 0), (.slice none 0 0)].toArray)) rfl rfl a7.pins (fun a hg dz b2 d0 b3 => ?_))
 have a8 := a7.step d0 b3
 have b4 := b0.below b3
 have a9 : Apart (some a) (some d) := zI (congrArg some dz) b0.lt
 have ba : w.heap.size ≤ a := by have := a7.size; omega
 refine qM (.pointer (some ⟨a, 0, none⟩)) ?_
 refine qe (zA (zB (zC ?_)))
 refine qI rfl (xH (E := eInt) (e := 3) Tryz.underlying65 sz3 a8.pins (fun q d1 d2 d3 bb b5 => ?_))
 have bc := a8.step d3 bb
 have b6 := b4.below bb
 have b7 := b2.below bb
 have d4 : Apart q.ownBlock (some d) := zI b5 b4.lt
 have d5 : Apart q.ownBlock (some a) := zI b5 b2.lt
 have b8 : Own eInt 3 G d1 w.heap.size q ([]) := d2.weaken a8.size
 refine qI rfl (xH (E := eInt) (e := 3) Tryz.underlying65 sz3 bc.pins (fun f d6 d7 d8 ao bd => ?_))
 have d9 := bc.step d8 ao
 have ea := b8.below ao
 have eb := b6.below ao
 have ec := b7.below ao
 have ed : Apart f.ownBlock q.ownBlock := zG bd b8.lt
 have ee : Apart f.ownBlock (some d) := zI bd b6.lt
 have ca : Apart f.ownBlock (some a) := zI bd b7.lt
 have ef : Own eInt 3 G d6 w.heap.size f ([]) := d7.weaken bc.size
 refine qM q ?_
 refine qM f ?_
 refine qe (zA (zB (zB (zC ?_))))
 refine qM (vJ 0) ?_
 refine qe (zA ?_)
 refine zZ ?_
 refine yT (fun (k : Nat) (en : Nat → Value) (W : World) => ∃ (ac : Nat → Value) (b : Nat) (atA : Value) (atsA : List Int) (uA : Value) (vA : Value) (nsA : List Nd) (bsA : List Int) (GLA : Pin), en = (upd (upd (upd (upd (upd (upd (upd ac 0 u) 1 v) 4 (.pointer (some ⟨d, 0, none⟩))) 5 (.pointer (some ⟨a, 0, none⟩))) 6 atA) 7 f) 8 (vJ (b : Int))) ∧ k = fs.length - b ∧ Ext noS G w GLA W ∧ Pin.le G GLA ∧ (b ≤ fs.length) ∧ (PoolOk (bkq nsA bsA)) ∧ (GsOk (bkq nsA bsA) atsA ((fs.take b).map gOf)) ∧ (nsA.length ≤ 1000 * b) ∧ (Own eInt 3 GLA W w.heap.size atA (atsA)) ∧ (Own eNode 99 GLA W 0 uA (nsA)) ∧ (Own eInt 3 GLA W 0 vA (bsA)) ∧ (Own eInt 3 GLA W w.heap.size f ([])) ∧ (Bx GLA W d [(.slice none 0 0)]) ∧ (Bx GLA W a [uA, vA]) ∧ (Apart atA.ownBlock uA.ownBlock) ∧ (Apart atA.ownBlock vA.ownBlock) ∧ (Apart atA.ownBlock f.ownBlock) ∧ (Apart atA.ownBlock (some d)) ∧ (Apart atA.ownBlock (some a)) ∧ (Apart uA.ownBlock vA.ownBlock) ∧ (Apart uA.ownBlock f.ownBlock) ∧ (Apart uA.ownBlock (some d)) ∧ (Apart uA.ownBlock (some a)) ∧ (Apart vA.ownBlock f.ownBlock) ∧ (Apart vA.ownBlock (some d)) ∧ (Apart vA.ownBlock (some a)) ∧ (Lo w noS uA.ownBlock) ∧ (Lo w noS vA.ownBlock)) _ ⟨_, 0, q, [], (.slice none 0 0), (.slice none 0 0), [], [], G, (pS 8 (pS 7 (pS 6 (pS 5 (pS 4 (pS 1 (pU 0))))))), rfl, d9, Pin.le_refl _, Nat.zero_le _, (bkq_ok Ar.empty), GsOk.nil, (by simp), ea, (Own.nil _ _ _ _ _), (Own.nil _ _ _ _ _), ef, eb, ec, apart_none.symm, apart_none.symm, ed.symm, d4, d5, apart_none, apart_none, apart_none, apart_none, apart_none, apart_none, apart_none, (lo_none _ _), (lo_none _ _)⟩ ?_
 rintro hh _ hi ⟨ac, b, atA, atsA, uA, vA, nsA, bsA, GLA, rfl, hk, r, ad, hl, hokA, hgsA, hblA, ap, cb, cc, aq, au, cd, ce, cf, be, bf, ae, cg, ch, ci, cj, ck, cl, cm, cn, co⟩
 have hglA := hgsA.len
 rw [List.length_map, List.length_take] at hglA
 refine zB (zB (zC ?_))
 refine qM (vJ (b : Int)) ?_
 refine qM u ?_
 refine qD rfl (zS Tryz.underlying79 (v := u) rfl hu) ?_
 refine qD rfl (yR rfl rfl) ?_
 refine qe (zA ?_)
 refine zY (p := ((b : Int) : Int) < (fs.length : Int)) rfl rfl (fun eg => ?_) (fun eg => ?_)
 ·skip
  have hgd := hfa.ok b (by omega)
  have hgdl := hgd.2.1
  have hgdh := hgd.2.2
  have hrk := bk_root (fs := fs.getD b []) hokA hgd.1 (by omega) (by omega)
  refine wp_skip ?_
  refine zA (zB ?_)
  refine zZ ?_
  refine zC ?_
  refine qM atA ?_
  refine qM (.pointer (some ⟨a, 0, none⟩)) ?_
  refine qM u ?_
  refine qM (vJ (b : Int)) ?_
  refine qD rfl (zQ Tryz.underlying79 sz32 (v := u) rfl rfl hu (by omega) (by omega)) ?_
  obtain ⟨eh, cp, ei⟩ := nm_form (hu.at (z := (b : Int)) (by omega) (by omega)) (j := b) rfl
  have hm := cp.max
  refine qD rfl (ei ag32 sz32 rfl (Pins.of_le r.pins ad)) ?_
  refine qI rfl (zH (vs := [(.pointer (some ⟨a, 0, none⟩)), (.agg [eh].toArray)]) Tryz.func91 nm91 rfl rfl rfl ?_)
  refine Calls.mono (root_spec r.pins ⟨cd, cb, cc, cj.symm, cm.symm, cg⟩ hokA.ar.ok (cp.mono ad) ⟨hgd.1, hgdl⟩ (by first | omega | (simp; omega))) ?_
  rintro _ hn ⟨af, ag, cq, rfl, s, ah, av, aw⟩
  refine ⟨_, rfl, ?_⟩
  have bg : ∀ i, inS a uA vA i → w.heap.size ≤ i ∨ noS i := inS_lo (zX ba) cn co
  have bh := r.trans ah bg
  have bi := notS (u := uA) (v := vA) ae ce cf
  have ej := ap.extS ah bi
  have cr : Apart atA.ownBlock af.ownBlock := xY av bi (qQ ap)
  have ct : Apart atA.ownBlock ag.ownBlock := xY aw bi (qQ ap)
  have bj := notS (u := uA) (v := vA) ca ch.symm ck.symm
  have ek := aq.extS ah bj
  have el : Apart f.ownBlock af.ownBlock := xY av bj (qQ aq)
  have em : Apart f.ownBlock ag.ownBlock := xY aw bj (qQ aq)
  have bk := notS (u := uA) (v := vA) a9.symm ci.symm cl.symm
  have eo := au.extS ah (notSb bk)
  have ep : Apart (some d) af.ownBlock := xY av bk (box_lt au)
  have er : Apart (some d) ag.ownBlock := xY aw bk (box_lt au)
  have es := s.bx
  have et := s.ou
  have eu := s.ov
  have ev := s.abu
  have ew := s.abv
  have ex := s.auv
  have ey := xB av bg r.size
  have ez := xB aw bg r.size
  refine qI rfl (yG (E := eInt) (e := 3) [(vJ (rootM nsA bsA (fs.getD b [])))] [rootM nsA bsA (fs.getD b [])] Tryz.underlying65 sz3 zr3 (by exact xK (by rfl)) (yE (by rfl)) rfl rfl rfl rfl (by decide) bh.pins (fun cu e0 e1 e2 g ho => ?_))
  have bl := bh.step e2 g
  have cv := ej.below g
  have cw := ek.below g
  have cx := et.below g
  have cy := eu.below g
  have cz := eo.below g
  have c0 := es.below g
  have e3 : Own eInt 3 cq e0 w.heap.size cu ([rootM nsA bsA (fs.getD b [])]) := e1.weaken bh.size
  refine qI rfl (oA (E := eInt) (v := atA) (u := cu) 8 Tryz.underlying65 ap3 (by decide) rfl rfl bl.pins cv e3.src (bl.size) (fun l hp e4 e5 t ai => ?_))
  have e6 := bl.write e5 t ((yF cv))
  have e7 := cw.keptA t be.symm
  have e8 := cx.keptA t cr.symm
  have e9 := cy.keptA t ct.symm
  have fa := cz.keptA t bf.symm
  have fb := c0.keptA t ae.symm
  have fc : Apart f.ownBlock l.ownBlock := zF be.symm ai cw.lt
  have fd : Apart af.ownBlock l.ownBlock := zF cr.symm ai cx.lt
  have fe : Apart ag.ownBlock l.ownBlock := zF ct.symm ai cy.lt
  have ff : Apart (some d) l.ownBlock := zJ bf.symm ai cz.lt
  have fg : Apart (some a) l.ownBlock := zJ ae.symm ai c0.lt
  have hq : (atsA ++ ([rootM nsA bsA (fs.getD b [])])).length = atsA.length + 1 := List.length_append
  refine qM l ?_
  refine qe ?_
  refine yL ?_
  refine zA (zC ?_)
  refine qM (vJ (b : Int)) ?_
  refine qD rfl (yQ rfl rfl (by omega)) ?_
  refine qM (vJ ((b : Int) + 1)) ?_
  refine qe ?_
  refine yN ?_
  refine ⟨_, ?_, _, rfl, _, b + 1, l, atsA ++ ([rootM nsA bsA (fs.getD b [])]), af, ag, (addM nsA bsA (fs.getD b [])).2.1, (addM nsA bsA (fs.getD b [])).2.2, cq, (pS 8 (pS 7 (pS 6 (pS 5 (pS 4 (pS 1 (pU 0))))))), rfl, e6, (Pin.le_trans ad ah.le), (by omega), hrk.ok, (by rw [take_map (by omega)]; exact (hgsA.px hrk.px hokA hrk.ok).snoc hrk.pl hrk.pd), (by have h8 := hrk.len; have h9 := hgd.2.2; omega), e4, e8, e9, e7, fa, fb, fd.symm, fe.symm, fc.symm, ff.symm, fg.symm, ex, el.symm, ep.symm, ev.symm, em.symm, er.symm, ew.symm, ey, ez⟩
  omega
 refine wp_exit ?_
 refine yB ?_
 refine yO ?_
 refine yM ?_
 refine zA (zB (zB (zC ?_)))
 refine qM (vJ 0) ?_
 refine qe (zA ?_)
 refine zZ ?_
 have hi5n : b = fs.length := by omega
 have hgsF : GsOk (bkq nsA bsA) atsA (fs.map gOf) := by rw [hi5n, List.take_length] at hgsA; exact hgsA
 refine yT (fun (k : Nat) (en : Nat → Value) (W : World) => ∃ (ac : Nat → Value) (c : Nat) (atB : Value) (atsB : List Int) (uB : Value) (vB : Value) (nsB : List Nd) (bsB : List Int) (GLB : Pin), en = (upd (upd (upd (upd (upd (upd ac 1 v) 4 (.pointer (some ⟨d, 0, none⟩))) 5 (.pointer (some ⟨a, 0, none⟩))) 6 atA) 7 atB) 9 (vJ (c : Int))) ∧ k = gs.length - c ∧ Ext noS G w GLB W ∧ Pin.le GLA GLB ∧ (c ≤ gs.length) ∧ (PoolOk (bkq nsB bsB)) ∧ (GsOk (bkq nsB bsB) atsB ((gs.take c).map gOf)) ∧ (nsB.length ≤ 100000 + 1000 * c) ∧ (GsOk (bkq nsB bsB) atsA (fs.map gOf)) ∧ (Own eInt 3 GLB W w.heap.size atB (atsB)) ∧ (Own eNode 99 GLB W 0 uB (nsB)) ∧ (Own eInt 3 GLB W 0 vB (bsB)) ∧ (Own eInt 3 GLB W w.heap.size atA (atsA)) ∧ (Bx GLB W d [(.slice none 0 0)]) ∧ (Bx GLB W a [uB, vB]) ∧ (Apart atB.ownBlock uB.ownBlock) ∧ (Apart atB.ownBlock vB.ownBlock) ∧ (Apart atB.ownBlock atA.ownBlock) ∧ (Apart atB.ownBlock (some d)) ∧ (Apart atB.ownBlock (some a)) ∧ (Apart uB.ownBlock vB.ownBlock) ∧ (Apart uB.ownBlock atA.ownBlock) ∧ (Apart uB.ownBlock (some d)) ∧ (Apart uB.ownBlock (some a)) ∧ (Apart vB.ownBlock atA.ownBlock) ∧ (Apart vB.ownBlock (some d)) ∧ (Apart vB.ownBlock (some a)) ∧ (Lo w noS uB.ownBlock) ∧ (Lo w noS vB.ownBlock)) _ ⟨_, 0, f, [], uA, vA, nsA, bsA, GLA, (pS 9 (pS 7 (pS 6 (pS 5 (pS 4 (pU 1)))))), rfl, r, Pin.le_refl _, Nat.zero_le _, hokA, GsOk.nil, (by omega), hgsF, aq, cb, cc, ap, au, cd, ch.symm, ck.symm, be.symm, ee, ca, cg, ce.symm, ci, cj, cf.symm, cl, cm, cn, co⟩ ?_
 rintro hr _ hs ⟨ac, c, atB, atsB, uB, vB, nsB, bsB, GLB, rfl, ht, x, bm, hw, hokB, hgsB, hblB, hgsL, ax, c1, c2, ay, az, c3, c4, c5, bn, bo, a0, c6, c7, c8, c9, da, db, dc, dd, de⟩
 have hglB := hgsB.len
 rw [List.length_map, List.length_take] at hglB
 refine zB (zB (zC ?_))
 refine qM (vJ (c : Int)) ?_
 refine qM v ?_
 refine qD rfl (zS Tryz.underlying79 (v := v) rfl hv) ?_
 refine qD rfl (yR rfl rfl) ?_
 refine qe (zA ?_)
 refine zY (p := ((c : Int) : Int) < (gs.length : Int)) rfl rfl (fun fj => ?_) (fun fj => ?_)
 ·skip
  have hgd := hga.ok c (by omega)
  have hgdl := hgd.2.1
  have hgdh := hgd.2.2
  have hrk := bk_root (fs := gs.getD c []) hokB hgd.1 (by omega) (by omega)
  refine wp_skip ?_
  refine zA (zB ?_)
  refine zZ ?_
  refine zC ?_
  refine qM atB ?_
  refine qM (.pointer (some ⟨a, 0, none⟩)) ?_
  refine qM v ?_
  refine qM (vJ (c : Int)) ?_
  refine qD rfl (zQ Tryz.underlying79 sz32 (v := v) rfl rfl hv (by omega) (by omega)) ?_
  obtain ⟨fk, df, fl⟩ := nm_form (hv.at (z := (c : Int)) (by omega) (by omega)) (j := c) rfl
  have hx := df.max
  refine qD rfl (fl ag32 sz32 rfl (Pins.of_le x.pins (Pin.le_trans ad bm))) ?_
  refine qI rfl (zH (vs := [(.pointer (some ⟨a, 0, none⟩)), (.agg [fk].toArray)]) Tryz.func91 nm91 rfl rfl rfl ?_)
  refine Calls.mono (root_spec x.pins ⟨c3, c1, c2, c9.symm, dc.symm, c6⟩ hokB.ar.ok (df.mono (Pin.le_trans ad bm)) ⟨hgd.1, hgdl⟩ (by first | omega | (simp; omega))) ?_
  rintro _ hy ⟨aj, ak, dg, rfl, y, al, a1, a2⟩
  refine ⟨_, rfl, ?_⟩
  have bp : ∀ i, inS a uB vB i → w.heap.size ≤ i ∨ noS i := inS_lo (zX ba) dd de
  have bq := x.trans al bp
  have br := notS (u := uB) (v := vB) a0 c4 c5
  have fm := ax.extS al br
  have dh : Apart atB.ownBlock aj.ownBlock := xY a1 br (qQ ax)
  have di : Apart atB.ownBlock ak.ownBlock := xY a2 br (qQ ax)
  have bs := notS (u := uB) (v := vB) ae c7.symm da.symm
  have fn := ay.extS al bs
  have fo : Apart atA.ownBlock aj.ownBlock := xY a1 bs (qQ ay)
  have fp : Apart atA.ownBlock ak.ownBlock := xY a2 bs (qQ ay)
  have bt := notS (u := uB) (v := vB) a9.symm c8.symm db.symm
  have fq := az.extS al (notSb bt)
  have fr : Apart (some d) aj.ownBlock := xY a1 bt (box_lt az)
  have ft : Apart (some d) ak.ownBlock := xY a2 bt (box_lt az)
  have fu := y.bx
  have fv := y.ou
  have fw := y.ov
  have fx := y.abu
  have fy := y.abv
  have fz := y.auv
  have f0 := xB a1 bp x.size
  have f1 := xB a2 bp x.size
  refine qI rfl (yG (E := eInt) (e := 3) [(vJ (rootM nsB bsB (gs.getD c [])))] [rootM nsB bsB (gs.getD c [])] Tryz.underlying65 sz3 zr3 (by exact xK (by rfl)) (yE (by rfl)) rfl rfl rfl rfl (by decide) bq.pins (fun dj f2 f3 f4 m hz => ?_))
  have bu := bq.step f4 m
  have dk := fm.below m
  have dl := fn.below m
  have dm := fv.below m
  have dn := fw.below m
  have dp := fq.below m
  have dq := fu.below m
  have f5 : Own eInt 3 dg f2 w.heap.size dj ([rootM nsB bsB (gs.getD c [])]) := f3.weaken bq.size
  refine qI rfl (oA (E := eInt) (v := atB) (u := dj) 8 Tryz.underlying65 ap3 (by decide) rfl rfl bu.pins dk f5.src (bu.size) (fun o h0 f6 f7 aa am => ?_))
  have f8 := bu.write f7 aa ((yF dk))
  have f9 := dl.keptA aa bn.symm
  have ga := dm.keptA aa dh.symm
  have gb := dn.keptA aa di.symm
  have gc := dp.keptA aa bo.symm
  have gd := dq.keptA aa a0.symm
  have ge : Apart atA.ownBlock o.ownBlock := zF bn.symm am dl.lt
  have gf : Apart aj.ownBlock o.ownBlock := zF dh.symm am dm.lt
  have gg : Apart ak.ownBlock o.ownBlock := zF di.symm am dn.lt
  have gh : Apart (some d) o.ownBlock := zJ bo.symm am dp.lt
  have gi : Apart (some a) o.ownBlock := zJ a0.symm am dq.lt
  have h1 : (atsB ++ ([rootM nsB bsB (gs.getD c [])])).length = atsB.length + 1 := List.length_append
  refine qM o ?_
  refine qe ?_
  refine yL ?_
  refine zA (zC ?_)
  refine qM (vJ (c : Int)) ?_
  refine qD rfl (yQ rfl rfl (by omega)) ?_
  refine qM (vJ ((c : Int) + 1)) ?_
  refine qe ?_
  refine yN ?_
  refine ⟨_, ?_, _, rfl, _, c + 1, o, atsB ++ ([rootM nsB bsB (gs.getD c [])]), aj, ak, (addM nsB bsB (gs.getD c [])).2.1, (addM nsB bsB (gs.getD c [])).2.2, dg, (pS 9 (pS 7 (pS 6 (pS 5 (pS 4 (pU 1)))))), rfl, f8, (Pin.le_trans bm al.le), (by omega), hrk.ok, (by rw [take_map (by omega)]; exact (hgsB.px hrk.px hokB hrk.ok).snoc hrk.pl hrk.pd), (by have h8 := hrk.len; have h9 := hgd.2.2; omega), (hgsL.px hrk.px hokB hrk.ok), f6, ga, gb, f9, gc, gd, gf.symm, gg.symm, ge.symm, gh.symm, gi.symm, fz, fo.symm, fr.symm, fx.symm, fp.symm, ft.symm, fy.symm, f0, f1⟩
  omega
 refine wp_exit ?_
 refine yB ?_
 refine yO ?_
 refine yM ?_
 refine zA (zB (zC ?_))
 have hj5n : c = gs.length := by omega
 have hgsR : GsOk (bkq nsB bsB) atsB (gs.map gOf) := by rw [hj5n, List.take_length] at hgsB; exact hgsB
 have gj := hgsL.len
 have gk := hgsR.len
 rw [List.length_map] at gj gk
 have hpt := bk_put (xs := atsA) (ys := atsB) hokB (by omega) ⟨by omega, by omega⟩ hgsL.pl hgsR.pl
 have hpd := hpt.pd
 rw [hgsL.eq, hgsR.eq] at hpd
 refine qM (.pointer (some ⟨a, 0, none⟩)) ?_
 refine qM (.pointer (some ⟨a, 0, none⟩)) ?_
 refine qM atA ?_
 refine qM atB ?_
 obtain ⟨h2, bv, gl, gm, an⟩ := ay.sealed x
 have gn := ax.moreO bv an bn
 have gp := c1.moreO bv an c7
 have gq := c2.moreO bv an da
 have gr := az.moreO an bf.symm
 have gt := c3.moreO an ae.symm
 obtain ⟨h3, bw, a3, gu, a4⟩ := gn.sealed gl
 have gv := gp.moreO bw a4 c4.symm
 have gw := gq.moreO bw a4 c5.symm
 have gx := gr.moreO a4 bo.symm
 have gy := gt.moreO a4 a0.symm
 refine qI rfl (zH (vs := [(.pointer (some ⟨a, 0, none⟩)), atA, atB]) Tryz.func112 nm112 rfl rfl rfl ?_)
 refine Calls.mono (put_spec a3.pins ⟨gy, gv, gw, c9.symm, dc.symm, c6⟩ hokB.ar.ok (gm.mono bw) gu ⟨by omega, by omega⟩ (places_of hgsL.pl) (places_of hgsR.pl)) ?_
 rintro _ h4 ⟨h5, h6, h7, rfl, ab, dr, gz, g0⟩
 refine ⟨_, rfl, ?_⟩
 have bz : ∀ i, inS a uB vB i → w.heap.size ≤ i ∨ noS i := inS_lo (zX ba) dd de
 have ds := a3.trans dr bz
 have g1 := notS (u := uB) (v := vB) a9.symm c8.symm db.symm
 have g2 := gx.extS dr (notSb g1)
 have g3 := ab.bx
 have g4 := ab.ou
 have g5 := ab.ov
 have g6 := ab.abu
 have g7 := ab.abv
 have g8 := ab.auv
 have ia := xB gz bz a3.size
 have ib := xB g0 bz a3.size
 refine qI rfl (zH (vs := [(.pointer (some ⟨a, 0, none⟩)), (vJ (putK nsB bsB atsA atsB))]) Tryz.func90 nm90 rfl rfl rfl ?_)
 refine Calls.mono (form_spec ds.pins ⟨g3, g4, g5, g6, g7, g8⟩ hpt.ok.ar.ok hpt.pl) ?_
 rintro _ ic ⟨a5, ie, rfl, dt, du⟩
 refine ⟨_, rfl, ?_⟩
 have dv := ds.tr du
 have g9 := g2.ext du
 refine q0 rfl rfl rfl (yP (cs' := [a5]) (us := [a5]) (v := (.agg [a5].toArray)) sz32 rfl rfl rfl (yE dt.one) dv.pins g9 (Nat.le_of_ble_eq_true rfl) rfl (fun ig ha hb hc ih => ?_))
 have hd := dv.write hb hc ((zX dy))
 refine qe (zA ?_)
 refine wp_ret ?_
 refine zO ?_
 refine c_retc (cs := [a5]) rfl rfl rfl ag32 sz32 (fun j u hj => by rw [Nat.zero_add]; exact ha.cell hj) ?_
 exact ⟨_, _, rfl, (by rw [show mkGm fs gs = _ from hpd.symm, ← book_form hpt.ok hpt.pl]; exact dt), hd⟩

end MK1
end Go.Proofs.YtfnginkcmcfdfaaGreatDoor

set_option maxRecDepth 20000
set_option maxHeartbeats 2000000
namespace Go.Proofs.YtfnginkcmcfdfaaGreatDoor
namespace NU1
open Go.RowKit Go.GL Go.Proofs
open Go.Proofs.YtfnginkcmcfdfaaGreatDoor.B1
open Go.Proofs.YtfnginkcmcfdfaaGreatDoor.C1
open Go.Proofs.YtfnginkcmcfdfaaGreatDoor.D1
open Go.Proofs.YtfnginkcmcfdfaaGreatDoor.E1
open Go.Proofs.YtfnginkcmcfdfaaGreatDoor.K1
open Go.Proofs.YtfnginkcmcfdfaaGreatDoor.PO1
open Go.Proofs.YtfnginkcmcfdfaaGreatDoor.PL1


theorem xW {w : World} {G : Pin} {t z : Int} (hP : Pins G w) :
  Calls Tryz.prog 101 [(.agg [(vJ t), (vJ z)].toArray)].toArray w fun e w' => ∃ G', e = .returned (.bool (decP (GoodD t z))) ∧ Ext noS G w G' w' := by
 refine zV (n := 32) Tryz.func101 Tryz.ntmps101 rfl rfl ?_
 have d : Ext noS G w G w := Ext.refl hP
 refine zB (zC ?_)
 refine qI rfl (xI [(vJ t), (vJ z)] (v := (.agg [(vJ t), (vJ z)].toArray)) rfl rfl d.pins (fun j w2 ad l m o => ?_))
 have q := d.step m o
 have r : w.heap.size ≤ j := by have := d.size; omega
 obtain ⟨G9, af, a, b, ag⟩ := l.shut q r
 refine qM (.bool false) ?_
 refine qe (zA (zB (zC ?_)))
 refine qD rfl (zL (k := 0) rfl Tryz.underlying34 rfl nz3 rfl) ?_
 refine qD rfl (zM (u := (vJ t)) ag3 rfl (a.pins _ _ _ (b 0 _ rfl))) ?_
 refine qD rfl (r_geq rfl rfl) ?_
 refine qM (.bool (decide (((-1000000) : Int) ≤ t))) ?_
 refine qbd (p := ((-1000000) : Int) ≤ t) (t := 6) rfl (fun s => ?_) (fun s => ?_)
 ·skip
  refine qN (zL (k := 0) rfl Tryz.underlying34 rfl nz3 rfl) ?_
  refine qN (zM (u := (vJ t)) ag3 rfl (a.pins _ _ _ (b 0 _ rfl))) ?_
  refine qN (r_leq rfl rfl) ?_
  refine qD rfl (yW (v := (.bool (decide ((t : Int) ≤ 1000000)))) rfl rfl) ?_
  refine qM (.bool (decide ((t : Int) ≤ 1000000))) ?_
  refine qbd (p := (t : Int) ≤ 1000000) (t := 11) rfl (fun x => ?_) (fun x => ?_)
  ·skip
   refine qN (zL (k := 1) rfl Tryz.underlying34 rfl nz3 rfl) ?_
   refine qN (zM (u := (vJ z)) ag3 rfl (a.pins _ _ _ (b 1 _ rfl))) ?_
   refine qN (r_geq rfl rfl) ?_
   refine qD rfl (yW (v := (.bool (decide ((0 : Int) ≤ z)))) rfl rfl) ?_
   refine qM (.bool (decide ((0 : Int) ≤ z))) ?_
   refine qbd (p := (0 : Int) ≤ z) (t := 16) rfl (fun y => ?_) (fun y => ?_)
   ·skip
    refine qN (zL (k := 1) rfl Tryz.underlying34 rfl nz3 rfl) ?_
    refine qN (zM (u := (vJ z)) ag3 rfl (a.pins _ _ _ (b 1 _ rfl))) ?_
    refine qN (r_leq rfl rfl) ?_
    refine qD rfl (yW (v := (.bool (decide ((z : Int) ≤ 16)))) rfl rfl) ?_
    refine qM (.bool (decide ((z : Int) ≤ 16))) ?_
    refine qbd (p := (z : Int) ≤ 16) (t := 21) rfl (fun aa => ?_) (fun aa => ?_)
    ·skip
     refine qN (zL (k := 1) rfl Tryz.underlying34 rfl nz3 rfl) ?_
     refine qN (zM (u := (vJ z)) ag3 rfl (a.pins _ _ _ (b 1 _ rfl))) ?_
     refine qN (r_eql rfl rfl) ?_
     refine qN (zU (v := (.bool (decide ((z : Int) = 0)))) rfl) ?_
     refine qbd (p := (z : Int) = 0) (t := 25) rfl (fun ab => ?_) (fun ab => ?_)
     ·skip
      refine qW ?_
      refine qW ?_
      refine qW ?_
      refine qW ?_
      refine qN (yW (v := (.bool true)) rfl rfl) ?_
      refine qD rfl (yW (v := (.bool true)) rfl rfl) ?_
      refine qM (.bool true) ?_
      refine qe (zA ?_)
      refine wp_ret ?_
      refine zO ?_
      refine zP (v := (.bool true)) rfl rfl rfl ?_
      exact ⟨_, congrArg (fun z => Ending.returned (Value.bool z)) (decP_true.2 ⟨by omega, by omega, by omega⟩).symm, a⟩
     refine qN (zL (k := 0) rfl Tryz.underlying34 rfl nz3 rfl) ?_
     refine qN (zM (u := (vJ t)) ag3 rfl (a.pins _ _ _ (b 0 _ rfl))) ?_
     refine qN (r_rem2 rfl rfl) ?_
     refine qN (r_neq rfl rfl) ?_
     refine qN (yI (v := (.bool (decide ((t.tmod 2 : Int) ≠ 0)))) rfl rfl) ?_
     refine qD rfl (yW (v := (.bool (decide ((t.tmod 2 : Int) ≠ 0)))) rfl rfl) ?_
     refine qM (.bool (decide ((t.tmod 2 : Int) ≠ 0))) ?_
     refine qe (zA ?_)
     refine wp_ret ?_
     refine zO ?_
     refine zP (v := (.bool (decide ((t.tmod 2 : Int) ≠ 0)))) rfl rfl rfl ?_
     exact ⟨_, congrArg (fun z => Ending.returned (Value.bool z)) (decP_dec.symm.trans (decP_iff ⟨fun h => ⟨by omega, by omega, by omega⟩, fun g => by have c := g.odd; omega⟩)), a⟩
    refine qW ?_
    refine qW ?_
    refine qW ?_
    refine qW ?_
    refine qX ?_
    refine qX ?_
    refine qX ?_
    refine qX ?_
    refine qW ?_
    refine qD rfl (yI (v := (.bool false)) rfl rfl) ?_
    refine qM (.bool false) ?_
    refine qe (zA ?_)
    refine wp_ret ?_
    refine zO ?_
    refine zP (v := (.bool false)) rfl rfl rfl ?_
    exact ⟨_, congrArg (fun z => Ending.returned (Value.bool z)) (decP_false.2 (fun g => by have f := g.top; have i := g.pow; have c := g.odd; omega)).symm, a⟩
   refine qW ?_
   refine qW ?_
   refine qW ?_
   refine qD rfl (yI (v := (.bool false)) rfl rfl) ?_
   refine qM (.bool false) ?_
   refine qW ?_
   refine qW ?_
   refine qW ?_
   refine qW ?_
   refine qX ?_
   refine qX ?_
   refine qX ?_
   refine qX ?_
   refine qW ?_
   refine qD rfl (yI (v := (.bool false)) rfl rfl) ?_
   refine qM (.bool false) ?_
   refine qe (zA ?_)
   refine wp_ret ?_
   refine zO ?_
   refine zP (v := (.bool false)) rfl rfl rfl ?_
   exact ⟨_, congrArg (fun z => Ending.returned (Value.bool z)) (decP_false.2 (fun g => by have f := g.top; have i := g.pow; have c := g.odd; omega)).symm, a⟩
  refine qW ?_
  refine qW ?_
  refine qW ?_
  refine qD rfl (yI (v := (.bool false)) rfl rfl) ?_
  refine qM (.bool false) ?_
  refine qW ?_
  refine qW ?_
  refine qW ?_
  refine qD rfl (yI (v := (.bool false)) rfl rfl) ?_
  refine qM (.bool false) ?_
  refine qW ?_
  refine qW ?_
  refine qW ?_
  refine qW ?_
  refine qX ?_
  refine qX ?_
  refine qX ?_
  refine qX ?_
  refine qW ?_
  refine qD rfl (yI (v := (.bool false)) rfl rfl) ?_
  refine qM (.bool false) ?_
  refine qe (zA ?_)
  refine wp_ret ?_
  refine zO ?_
  refine zP (v := (.bool false)) rfl rfl rfl ?_
  exact ⟨_, congrArg (fun z => Ending.returned (Value.bool z)) (decP_false.2 (fun g => by have f := g.top; have i := g.pow; have c := g.odd; omega)).symm, a⟩
 refine qW ?_
 refine qW ?_
 refine qW ?_
 refine qD rfl (yI (v := (.bool false)) rfl rfl) ?_
 refine qM (.bool false) ?_
 refine qW ?_
 refine qW ?_
 refine qW ?_
 refine qD rfl (yI (v := (.bool false)) rfl rfl) ?_
 refine qM (.bool false) ?_
 refine qW ?_
 refine qW ?_
 refine qW ?_
 refine qD rfl (yI (v := (.bool false)) rfl rfl) ?_
 refine qM (.bool false) ?_
 refine qW ?_
 refine qW ?_
 refine qW ?_
 refine qW ?_
 refine qX ?_
 refine qX ?_
 refine qX ?_
 refine qX ?_
 refine qW ?_
 refine qD rfl (yI (v := (.bool false)) rfl rfl) ?_
 refine qM (.bool false) ?_
 refine qe (zA ?_)
 refine wp_ret ?_
 refine zO ?_
 refine zP (v := (.bool false)) rfl rfl rfl ?_
 exact ⟨_, congrArg (fun z => Ending.returned (Value.bool z)) (decP_false.2 (fun g => by have f := g.top; have i := g.pow; have c := g.odd; omega)).symm, a⟩

end NU1
end Go.Proofs.YtfnginkcmcfdfaaGreatDoor

set_option maxRecDepth 20000
set_option maxHeartbeats 2000000
namespace Go.Proofs.YtfnginkcmcfdfaaGreatDoor
namespace NU3
open Go.RowKit Go.GL Go.Proofs
open Go.Proofs.YtfnginkcmcfdfaaGreatDoor.B1
open Go.Proofs.YtfnginkcmcfdfaaGreatDoor.C1
open Go.Proofs.YtfnginkcmcfdfaaGreatDoor.D1
open Go.Proofs.YtfnginkcmcfdfaaGreatDoor.E1
open Go.Proofs.YtfnginkcmcfdfaaGreatDoor.K1
open Go.Proofs.YtfnginkcmcfdfaaGreatDoor.PO1
open Go.Proofs.YtfnginkcmcfdfaaGreatDoor.PL1
open Go.Proofs.YtfnginkcmcfdfaaGreatDoor.NU1

theorem pl34 : (Tryz.prog.underlying 34).bind (placesD Tryz.prog) = some [(0, 1), (1, 1)] := by kernel_rfl


theorem l2Make_spec {w : World} {G : Pin} {t : Int} {p : Nat} (hP : Pins G w) (hb : -1000000000000000 ≤ t ∧ t ≤ 1000000000000000) (hp : p ≤ 64) :
  Calls Tryz.prog 167 [(vJ t), (vJ (p : Int))].toArray w fun e w' => ∃ G', e = .returned (.agg [.int .i64 (lowD p t).1, .int .i64 (((lowD p t).2 : Nat) : Int)].toArray) ∧ Ext noS G w G' w' := by
 refine zV (n := 19) Tryz.func167 Tryz.ntmps167 rfl rfl ?_
 have f : Ext noS G w G w := Ext.refl hP
 refine zB (zC ?_)
 refine qI rfl (yJ [(vJ 0), (vJ 0)] zr34 rfl f.pins (fun g w2 aj r s x => ?_))
 have y := f.step s x
 have o : w.heap.size ≤ g := by have := f.size; omega
 refine qe (zA (zB ?_))
 refine zZ ?_
 refine yT (fun (k : Nat) (en : Nat → Value) (W : World) => ∃ (q : Nat → Value) (a : Int) (zp : Int) (b : Pin), en = (upd (upd (upd q 0 (vJ a)) 1 (vJ zp)) 4 (.pointer (some ⟨g, 0, none⟩))) ∧ k = zp.toNat ∧ Ext noS G w b W ∧ Pin.le G b ∧ (lowD p t = lowD zp.toNat a) ∧ (0 ≤ zp ∧ zp ≤ 64) ∧ (-1000000000000000 ≤ a ∧ a ≤ 1000000000000000) ∧ (Bx b W g [(vJ 0), (vJ 0)])) _ ⟨_, t, (p : Int), G, (pS 4 (pS 1 (pU 0))), rfl, y, Pin.le_refl _, (by rw [Int.toNat_natCast]), (by omega), hb, r⟩ ?_
 rintro k9 _ al ⟨q, a, zp, b, rfl, am, c, z, hr, hz, hab, i⟩
 refine zB (zB (zC ?_))
 refine qM (vJ zp) ?_
 refine qD rfl (r_gtr rfl rfl) ?_
 refine qM (.bool (decide ((0 : Int) < zp))) ?_
 refine qbd (p := (0 : Int) < zp) (t := 7) rfl (fun l => ?_) (fun l => ?_)
 ·skip
  refine qN (zU (v := (vJ a)) rfl) ?_
  refine qN (r_rem2 rfl rfl) ?_
  refine qN (r_eql rfl rfl) ?_
  refine qD rfl (yW (v := (.bool (decide ((a.tmod 2 : Int) = 0)))) rfl rfl) ?_
  refine qe (zA ?_)
  refine zY (p := (a.tmod 2 : Int) = 0) rfl rfl (fun d => ?_) (fun d => ?_)
  ·skip
   refine wp_skip ?_
   refine zA ?_
   refine zZ ?_
   refine zB (zC ?_)
   refine qM (vJ a) ?_
   refine qD rfl (r_quo2 rfl rfl ((tmod2 _).1 d) (by omega)) ?_
   refine qM (vJ (a / 2)) ?_
   refine qe (zA (zC ?_))
   refine qM (vJ zp) ?_
   refine qD rfl (r_sub rfl rfl (by omega)) ?_
   refine qM (vJ (zp - 1)) ?_
   refine qe ?_
   refine yL ?_
   refine yN ?_
   refine ⟨_, ?_, _, rfl, _, a / 2, zp - 1, b, (pS 4 (pS 1 (pU 0))), rfl, c, z, (hr.trans (low_even (by omega) d)), (by omega), (by omega), i⟩
   omega
  refine wp_exit ?_
  refine yB ?_
  refine yO ?_
  refine yM ?_
  refine zA (zB (zC ?_))
  refine qM (vJ a) ?_
  refine qM (vJ zp) ?_
  refine qD rfl (yU [(vJ 0), (vJ 0)] [(vJ a), (vJ zp)] [(0, (vJ a), [(vJ a)]), (1, (vJ zp), [(vJ zp)])] Tryz.underlying34 zr34 rfl pl34 rfl (List.forall_mem_cons.2 ⟨rfl, (List.forall_mem_cons.2 ⟨rfl, (fun _ h => by cases h)⟩)⟩) rfl) ?_
  refine q0 rfl rfl rfl (yP (cs' := [(vJ a), (vJ zp)]) (us := [(vJ a), (vJ zp)]) (v := (.agg [(vJ a), (vJ zp)].toArray)) sz34 rfl rfl rfl (qH (by rfl) (by rfl)) c.pins i (Nat.le_of_ble_eq_true rfl) rfl (fun an aa ab ac ao => ?_))
  have ad := c.write ab ac ((zX o))
  refine qe (zA ?_)
  refine wp_ret ?_
  refine zO ?_
  refine c_retc (cs := [(vJ a), (vJ zp)]) rfl rfl rfl ag34 sz34 (fun j u hj => by rw [Nat.zero_add]; exact aa.cell hj) ?_
  have hst := hr.trans (low_stop hz.1 (by first | exact Or.inl d | exact Or.inr d))
  have m : ((zp.toNat : Nat) : Int) = zp := Int.toNat_of_nonneg hz.1
  exact ⟨_, by rw [hst]; simp only [m], ad⟩
 refine qW ?_
 refine qW ?_
 refine qW ?_
 refine qD rfl (yI (v := (.bool false)) rfl rfl) ?_
 refine qe (zA ?_)
 refine qO rfl rfl ?_
 refine wp_exit ?_
 refine yB ?_
 refine yO ?_
 refine yM ?_
 refine zA (zB (zC ?_))
 refine qM (vJ a) ?_
 refine qM (vJ zp) ?_
 refine qD rfl (yU [(vJ 0), (vJ 0)] [(vJ a), (vJ zp)] [(0, (vJ a), [(vJ a)]), (1, (vJ zp), [(vJ zp)])] Tryz.underlying34 zr34 rfl pl34 rfl (List.forall_mem_cons.2 ⟨rfl, (List.forall_mem_cons.2 ⟨rfl, (fun _ h => by cases h)⟩)⟩) rfl) ?_
 refine q0 rfl rfl rfl (yP (cs' := [(vJ a), (vJ zp)]) (us := [(vJ a), (vJ zp)]) (v := (.agg [(vJ a), (vJ zp)].toArray)) sz34 rfl rfl rfl (qH (by rfl) (by rfl)) c.pins i (Nat.le_of_ble_eq_true rfl) rfl (fun ap ae af ag aq => ?_))
 have ah := c.write af ag ((zX o))
 refine qe (zA ?_)
 refine wp_ret ?_
 refine zO ?_
 refine c_retc (cs := [(vJ a), (vJ zp)]) rfl rfl rfl ag34 sz34 (fun j u hj => by rw [Nat.zero_add]; exact ae.cell hj) ?_
 have hst := hr.trans (low_stop hz.1 (by first | exact Or.inl l | exact Or.inr l))
 have m : ((zp.toNat : Nat) : Int) = zp := Int.toNat_of_nonneg hz.1
 exact ⟨_, by rw [hst]; simp only [m], ah⟩

end NU3
end Go.Proofs.YtfnginkcmcfdfaaGreatDoor

set_option maxRecDepth 20000
set_option maxHeartbeats 2000000
namespace Go.Proofs.YtfnginkcmcfdfaaGreatDoor
namespace NB4
open Go.RowKit Go.GL Go.Proofs
open Go.Proofs.YtfnginkcmcfdfaaGreatDoor.B1
open Go.Proofs.YtfnginkcmcfdfaaGreatDoor.C1
open Go.Proofs.YtfnginkcmcfdfaaGreatDoor.D1
open Go.Proofs.YtfnginkcmcfdfaaGreatDoor.E1
open Go.Proofs.YtfnginkcmcfdfaaGreatDoor.NU1
open Go.Proofs.YtfnginkcmcfdfaaGreatDoor.NU3







theorem pl34 : (Tryz.prog.underlying 34).bind (placesD Tryz.prog) = some [(0, 1), (1, 1)] := by kernel_rfl



theorem qK {w : World} {G : Pin} {t z : Int} (hP : Pins G w) (ht : -10000000 ≤ t ∧ t ≤ 10000000) (hz : 0 ≤ z ∧ z ≤ 24) :
  Calls Tryz.prog 128 [(.agg [(.int .i64 t), (.int .i64 z)].toArray)].toArray w fun e w' => ∃ G', e = .returned (.int .i64 (scI 24 t z)) ∧ Ext noS G w G' w' := by
 refine zV (n := 10) Tryz.func128 Tryz.ntmps128 rfl rfl ?_
 have a : Ext noS G w G w := Ext.refl hP
 have hsl := shl_lim (t := t) (k := (24 - z).toNat) ht (by omega)
 refine zB (zC ?_)
 refine qI rfl (xI [(.int .i64 t), (.int .i64 z)] (v := (.agg [(.int .i64 t), (.int .i64 z)].toArray)) rfl rfl a.pins (fun d m o f g h => ?_))
 have i := a.step g h
 have l : w.heap.size ≤ d := by have := a.size; omega
 obtain ⟨p, q, b, c, r⟩ := f.shut i l
 refine qM (.int .i64 0) ?_
 refine qe (zA (zB (zC ?_)))
 refine qD rfl (zL (k := 0) rfl Tryz.underlying34 rfl nz3 rfl) ?_
 refine qD rfl (zM (u := (.int .i64 t)) ag3 rfl (b.pins _ _ _ (c 0 _ rfl))) ?_
 refine qD rfl (zL (k := 1) rfl Tryz.underlying34 rfl nz3 rfl) ?_
 refine qD rfl (zM (u := (.int .i64 z)) ag3 rfl (b.pins _ _ _ (c 1 _ rfl))) ?_
 refine qD rfl (r_sub rfl rfl (by omega)) ?_
 refine qD rfl (r_conv (j := 24 - z) Tryz.underlying3 Tryz.underlying155 rfl (wrapU (by omega))) ?_
 refine qD rfl (r_shlI rfl rfl (by omega) (by omega)) ?_
 refine qM (.int .i64 (t * 2 ^ (24 - z : Int).toNat)) ?_
 refine qe (zA ?_)
 refine wp_ret ?_
 refine zO ?_
 refine zP (v := (.int .i64 (t * 2 ^ (24 - z : Int).toNat))) rfl rfl rfl ?_
 exact ⟨_, rfl, b⟩

theorem l2Neg_spec {w : World} {G : Pin} {t z : Int} (hP : Pins G w) (ht : -1000000000000 ≤ t ∧ t ≤ 1000000000000) :
  Calls Tryz.prog 147 [(.agg [(.int .i64 t), (.int .i64 z)].toArray)].toArray w fun e w' => ∃ G', e = .returned (.agg [.int .i64 (-t), .int .i64 z].toArray) ∧ Ext noS G w G' w' := by
 refine zV (n := 9) Tryz.func147 Tryz.ntmps147 rfl rfl ?_
 have b : Ext noS G w G w := Ext.refl hP
 refine zB (zC ?_)
 refine qI rfl (xI [(.int .i64 t), (.int .i64 z)] (v := (.agg [(.int .i64 t), (.int .i64 z)].toArray)) rfl rfl b.pins (fun f w2 ae g i l => ?_))
 have m := b.step i l
 have o : w.heap.size ≤ f := by have := b.size; omega
 obtain ⟨G9, ag, c, d, ah⟩ := g.shut m o
 refine qI rfl (yJ [(.int .i64 0), (.int .i64 0)] zr34 rfl c.pins (fun p ai aj q r s => ?_))
 have a := c.step r s
 have x : w.heap.size ≤ p := by have := c.size; omega
 refine qe (zA (zB (zC ?_)))
 refine qD rfl (zL (k := 0) rfl Tryz.underlying34 rfl nz3 rfl) ?_
 refine qD rfl (zM (u := (.int .i64 t)) ag3 rfl (a.pins _ _ _ (d 0 _ rfl))) ?_
 refine qD rfl (r_neg rfl (by omega)) ?_
 refine qD rfl (zL (k := 1) rfl Tryz.underlying34 rfl nz3 rfl) ?_
 refine qD rfl (zM (u := (.int .i64 z)) ag3 rfl (a.pins _ _ _ (d 1 _ rfl))) ?_
 refine qD rfl (yU [(.int .i64 0), (.int .i64 0)] [(.int .i64 (-t)), (.int .i64 z)] [(0, (.int .i64 (-t)), [(.int .i64 (-t))]), (1, (.int .i64 z), [(.int .i64 z)])] Tryz.underlying34 zr34 rfl pl34 rfl (List.forall_mem_cons.2 ⟨rfl, (List.forall_mem_cons.2 ⟨rfl, (fun _ h => by cases h)⟩)⟩) rfl) ?_
 refine q0 rfl rfl rfl (yP (cs' := [(.int .i64 (-t)), (.int .i64 z)]) (us := [(.int .i64 (-t)), (.int .i64 z)]) (v := (.agg [(.int .i64 (-t)), (.int .i64 z)].toArray)) sz34 rfl rfl rfl (qH (by rfl) (by rfl)) a.pins q (Nat.le_of_ble_eq_true rfl) rfl (fun ak y aa ab al => ?_))
 have ac := a.write aa ab ((zX x))
 refine qe (zA ?_)
 refine wp_ret ?_
 refine zO ?_
 refine c_retc (cs := [(.int .i64 (-t)), (.int .i64 z)]) rfl rfl rfl ag34 sz34 (fun j u hj => by rw [Nat.zero_add]; exact y.cell hj) ?_
 exact ⟨_, rfl, ac⟩

theorem l2Add_spec {w : World} {G : Pin} {t z s y : Int} (hP : Pins G w) (ht : -10000000 ≤ t ∧ t ≤ 10000000) (hz : 0 ≤ z ∧ z ≤ 24) (hs : -10000000 ≤ s ∧ s ≤ 10000000) (hy : 0 ≤ y ∧ y ≤ 24) :
  Calls Tryz.prog 146 [(.agg [(vJ t), (vJ z)].toArray), (.agg [(vJ s), (vJ y)].toArray)].toArray w fun e w' => ∃ G', e = .returned (.agg [.int .i64 (lowD 24 (scI 24 t z + scI 24 s y)).1, .int .i64 (((lowD 24 (scI 24 t z + scI 24 s y)).2 : Nat) : Int)].toArray) ∧ Ext noS G w G' w' := by
 refine zV (n := 11) Tryz.func146 Tryz.ntmps146 rfl rfl ?_
 have f : Ext noS G w G w := Ext.refl hP
 have a6 := scI_lim (D := 24) (t := t) (z := z) ht (by omega)
 have a7 := scI_lim (D := 24) (t := s) (z := y) hs (by omega)
 refine zB (zC ?_)
 refine qI rfl (xI [(vJ t), (vJ z)] (v := (.agg [(vJ t), (vJ z)].toArray)) rfl rfl f.pins (fun b1 w2 a9 ab ac ad => ?_))
 have ae := f.step ac ad
 have af : w.heap.size ≤ b1 := by have := f.size; omega
 obtain ⟨G9, bb, g, ag, bc⟩ := ab.shut ae af
 refine qI rfl (xI [(vJ s), (vJ y)] (v := (.agg [(vJ s), (vJ y)].toArray)) rfl rfl g.pins (fun ah bd be ai aj ak => ?_))
 have al := g.step aj ak
 have am : w.heap.size ≤ ah := by have := g.size; omega
 obtain ⟨an, ao, k, ap, bf⟩ := ai.shut al am
 refine qI rfl (yJ [(vJ 0), (vJ 0)] zr34 rfl k.pins (fun aq l bg ar au av => ?_))
 have x := k.step au av
 have aw : w.heap.size ≤ aq := by have := k.size; omega
 refine qe (zA (zB ?_))
 refine xF (S := fun wz => Pins an wz) (last := 6) (by kernel_rfl) rfl ?_
 have m : Below l.heap.size l l.drew := (Below.refl _ _).drew
 have ax := x.pins.below m
 have c := x.step ax m
 have ay := ar.below m
 refine dT (i := 0) rfl rfl (by kernel_rfl) (fun _ hS => yC (cs := [(vJ t), (vJ z)]) ag34 sz34 rfl (fun j u hj => (Pins.of_le hS ao) _ _ _ (ag _ _ (by simpa using hj)))) c.pins ?_
 refine dT (i := 2) rfl rfl (by kernel_rfl) (fun _ hS => yC (cs := [(vJ s), (vJ y)]) ag34 sz34 rfl (fun j u hj => hS _ _ _ (ap _ _ (by simpa using hj)))) c.pins ?_
 refine dO (i := 1) (zK (i := 1) rfl rfl rfl (zD rfl _) (zH (vs := [(.agg [(vJ t), (vJ z)].toArray)]) Tryz.func128 nm128 rfl rfl rfl ?_))
 refine Calls.mono (qK (t := t) (z := z) c.pins (by omega) (by omega)) ?_
 rintro _ bh ⟨bi, rfl, a⟩
 refine ⟨_, rfl, ?_⟩
 have o := c.tr a
 have az := ay.ext a
 refine ⟨fun _ => (Pins.of_le o.pins a.le), ?_⟩
 refine dO (i := 3) (zK (i := 3) rfl rfl rfl (zD rfl _) (zH (vs := [(.agg [(vJ s), (vJ y)].toArray)]) Tryz.func128 nm128 rfl rfl rfl ?_))
 refine Calls.mono (qK (t := s) (z := y) o.pins (by omega) (by omega)) ?_
 rintro _ bj ⟨bk, rfl, b⟩
 refine ⟨_, rfl, ?_⟩
 have d := o.tr b
 have a0 := az.ext b
 refine ⟨fun _ => (Pins.of_le d.pins (Pin.le_trans a.le b.le)), ?_⟩
 refine dT (i := 4) rfl rfl (by kernel_rfl) (fun _ _ => yQ rfl rfl (by omega)) (Pins.of_le d.pins (Pin.le_trans a.le b.le)) ?_
 refine dO (i := 5) (zK (i := 5) rfl rfl rfl (zD rfl _) (zH (vs := [(vJ ((scI 24 t z) + (scI 24 s y))), (vJ 24)]) Tryz.func167 nm167 rfl rfl rfl ?_))
 refine Calls.mono (l2Make_spec (p := 24) d.pins (by omega) (by omega)) ?_
 rintro _ bl ⟨bm, rfl, q⟩
 refine ⟨_, rfl, ?_⟩
 have r := d.tr q
 have a1 := a0.ext q
 refine ⟨fun _ => (Pins.of_le r.pins (Pin.le_trans (Pin.le_trans a.le b.le) q.le)), ?_⟩
 refine dO (i := 6) (qL (i := 6) rfl rfl rfl (zD rfl _) (yP (cs' := [(vJ ((lowD 24 ((scI 24 t z) + (scI 24 s y))).1)), (vJ (((lowD 24 ((scI 24 t z) + (scI 24 s y))).2 : Nat) : Int))]) (us := [(vJ ((lowD 24 ((scI 24 t z) + (scI 24 s y))).1)), (vJ (((lowD 24 ((scI 24 t z) + (scI 24 s y))).2 : Nat) : Int))]) (v := (.agg [(vJ ((lowD 24 ((scI 24 t z) + (scI 24 s y))).1)), (vJ (((lowD 24 ((scI 24 t z) + (scI 24 s y))).2 : Nat) : Int))].toArray)) sz34 rfl rfl rfl (qH (by rfl) (by rfl)) r.pins a1 (Nat.le_of_ble_eq_true rfl) rfl (fun bn a2 a3 a4 bo => ?_)))
 have a5 := r.write a3 a4 ((zX aw))
 refine ⟨fun h => absurd rfl h, ?_⟩
 refine yH (by kernel_rfl) ?_
 refine zA ?_
 refine wp_ret ?_
 refine zO ?_
 refine c_retc (cs := [(vJ ((lowD 24 ((scI 24 t z) + (scI 24 s y))).1)), (vJ (((lowD 24 ((scI 24 t z) + (scI 24 s y))).2 : Nat) : Int))]) rfl rfl rfl ag34 sz34 (fun j u hj => by rw [Nat.zero_add]; exact a2.cell hj) ?_
 exact ⟨_, rfl, a5⟩

theorem l2AddS_spec {w : World} {G : Pin} {t u s : Int} {p : Nat} (hP : Pins G w) (hs : t + u = s) (ht : -10000000 ≤ t ∧ t ≤ 10000000) (hu : -10000000 ≤ u ∧ u ≤ 10000000) (hp : p ≤ 24) :
  Calls Tryz.prog 146 [(.agg [.int .i64 t, .int .i64 (p : Int)].toArray), (.agg [.int .i64 u, .int .i64 (p : Int)].toArray)].toArray w fun e w' => ∃ G', e = .returned (.agg [.int .i64 (lowD p s).1, .int .i64 (((lowD p s).2 : Nat) : Int)].toArray) ∧ Ext noS G w G' w' := by
 refine (l2Add_spec (t := t) (s := u) (z := (p : Int)) (y := (p : Int)) hP ht (by omega) hu (by omega)).mono ?_
 rintro e w' ⟨G', rfl, hx⟩
 exact ⟨G', by rw [low_add24 hp, hs], hx⟩

theorem l2Floor_spec {w : World} {G : Pin} {t z : Int} (hP : Pins G w) (ht : -10000000 ≤ t ∧ t ≤ 10000000) (hz : 0 ≤ z ∧ z ≤ 24) :
  Calls Tryz.prog 145 [(.agg [(.int .i64 t), (.int .i64 z)].toArray)].toArray w fun e w' => ∃ G', e = .returned (.int .i64 (Int.fdiv (scI 24 t z) (2 ^ (min (24 : Int).toNat 64)))) ∧ Ext noS G w G' w' := by
 refine zV (n := 6) Tryz.func145 Tryz.ntmps145 rfl rfl ?_
 have a : Ext noS G w G w := Ext.refl hP
 refine zB (zC ?_)
 refine qI rfl (xI [(.int .i64 t), (.int .i64 z)] (v := (.agg [(.int .i64 t), (.int .i64 z)].toArray)) rfl rfl a.pins (fun c o p d f g => ?_))
 have h := a.step f g
 have i : w.heap.size ≤ c := by have := a.size; omega
 obtain ⟨q, r, b, k, s⟩ := d.shut h i
 refine qM (.int .i64 0) ?_
 refine qe (zA (zB (zC ?_)))
 refine qD rfl (yC (cs := [(.int .i64 t), (.int .i64 z)]) ag34 sz34 rfl (fun j u hj => b.pins _ _ _ (k _ _ (by simpa using hj)))) ?_
 refine qI rfl (zH (vs := [(.agg [(.int .i64 t), (.int .i64 z)].toArray)]) Tryz.func128 nm128 rfl rfl rfl ?_)
 refine Calls.mono (qK (t := t) (z := z) b.pins (by omega) (by omega)) ?_
 rintro _ x ⟨y, rfl, l⟩
 refine ⟨_, rfl, ?_⟩
 have m := b.tr l
 refine qD rfl (r_shrI rfl rfl (by omega)) ?_
 refine qM (.int .i64 (Int.fdiv (scI 24 t z) (2 ^ (min (24 : Int).toNat 64)))) ?_
 refine qe (zA ?_)
 refine wp_ret ?_
 refine zO ?_
 refine zP (v := (.int .i64 (Int.fdiv (scI 24 t z) (2 ^ (min (24 : Int).toNat 64))))) rfl rfl rfl ?_
 exact ⟨_, rfl, m⟩

theorem l2FloorP_spec {w : World} {G : Pin} {t : Int} {p : Nat} (hP : Pins G w) (ht : 0 ≤ t ∧ t ≤ 10000000) (hp : p ≤ 24) :
  Calls Tryz.prog 145 [(.agg [.int .i64 t, .int .i64 (p : Int)].toArray)].toArray w fun e w' => ∃ G', e = .returned (.int .i64 ((t.natAbs / 2 ^ p : Nat) : Int)) ∧ Ext noS G w G' w' := by
 refine (l2Floor_spec (t := t) (z := (p : Int)) hP (by omega) (by omega)).mono ?_
 rintro e w' ⟨G', rfl, hx⟩
 exact ⟨G', by rw [floor_nat ht.1 hp], hx⟩

theorem l2Born_spec {w : World} {G : Pin} {t : Int} {dp : Nat} (hP : Pins G w) (ht : -10000000 ≤ t ∧ t ≤ 10000000) (hd : dp ≤ 16) :
  Calls Tryz.prog 106 [(.agg [(vJ t), (vJ (dp : Int))].toArray)].toArray w fun e w' => ∃ G', e = .returned (vJ ((bornD dp t : Nat) : Int)) ∧ Ext noS G w G' w' := by
 refine zV (n := 21) Tryz.func106 Tryz.ntmps106 rfl rfl ?_
 have h : Ext noS G w G w := Ext.refl hP
 refine zB (zC ?_)
 refine qI rfl (xI [(vJ t), (vJ (dp : Int))] (v := (.agg [(vJ t), (vJ (dp : Int))].toArray)) rfl rfl h.pins (fun l m aq a ae af => ?_))
 have b := h.step ae af
 have ag : w.heap.size ≤ l := by have := h.size; omega
 refine qM (vJ 0) ?_
 refine qe (zA (zB (zB (zC ?_))))
 refine qD rfl (zL (k := 0) rfl Tryz.underlying34 rfl nz3 rfl) ?_
 refine qD rfl (zM (u := (vJ t)) ag3 rfl (a.cell (o := 0) rfl)) ?_
 refine qD rfl (yR rfl rfl) ?_
 refine qe (zA ?_)
 refine zY (p := (t : Int) < 0) rfl rfl (fun h9 => ?_) (fun h9 => ?_)
 ·skip
  refine zC ?_
  refine qD rfl (zL (k := 0) rfl Tryz.underlying34 rfl nz3 rfl) ?_
  refine qD rfl (zM (u := (vJ t)) ag3 rfl (a.cell (o := 0) rfl)) ?_
  refine qD rfl (r_neg rfl (by omega)) ?_
  refine qD rfl (zL (k := 0) rfl Tryz.underlying34 rfl nz3 rfl) ?_
  refine q0 rfl rfl rfl (yP (cs' := [(vJ (-t)), (vJ (dp : Int))]) (us := [(vJ (-t))]) (v := (vJ (-t))) sz3 rfl rfl rfl (yE (by rfl)) b.pins a (Nat.le_of_ble_eq_true rfl) rfl (fun q r ai aj ar => ?_))
  have s := b.write ai aj ((zX ag))
  refine qe (zA (zB (zB (zC ?_))))
  refine qD rfl (zL (k := 1) rfl Tryz.underlying34 rfl nz3 rfl) ?_
  refine qD rfl (zM (u := (vJ (dp : Int))) ag3 rfl (r.cell (o := 1) rfl)) ?_
  refine qD rfl (r_eql rfl rfl) ?_
  refine qe (zA ?_)
  refine zY (p := ((dp : Int) : Int) = 0) rfl rfl (fun ak => ?_) (fun ak => ?_)
  ·skip
   refine zB (zC ?_)
   refine qD rfl (zL (k := 0) rfl Tryz.underlying34 rfl nz3 rfl) ?_
   refine qD rfl (zM (u := (vJ (-t))) ag3 rfl (r.cell (o := 0) rfl)) ?_
   refine qM (vJ (-t)) ?_
   refine qe (zA ?_)
   refine wp_ret ?_
   refine zO ?_
   refine zP (v := (vJ (-t))) rfl rfl rfl ?_
   exact ⟨_, congrArg (fun z => Ending.returned (Value.int .i64 z)) (by first | (rw [show dp = 0 by omega]; show _ = ((t.natAbs : Nat) : Int); omega) | (rw [show bornD dp t = t.natAbs / 2 ^ dp + dp + 1 from if_neg (by omega)]; (try rw [Int.natAbs_neg]); omega)), s⟩
  refine wp_skip ?_
  refine zA (zB ?_)
  refine xF (S := fun wz => BxR wz l [(vJ (-t)), (vJ (dp : Int))]) (last := 7) (by kernel_rfl) rfl ?_
  have x : Below q.heap.size q q.drew := (Below.refl _ _).drew
  have al := s.pins.below x
  have aa := s.step al x
  have c := r.below x
  refine dT (i := 0) rfl rfl (by kernel_rfl) (fun _ hS => yC (cs := [(vJ (-t)), (vJ (dp : Int))]) ag34 sz34 rfl (fun j u hj => hS _ _ (by simpa using hj))) c.reads ?_
  refine dT (i := 2) rfl rfl (by kernel_rfl) (fun _ _ => zL (k := 1) rfl Tryz.underlying34 rfl nz3 rfl) c.reads ?_
  refine dT (i := 3) rfl rfl (by kernel_rfl) (fun _ hS => zM (u := (vJ (dp : Int))) ag3 rfl (hS 1 _ rfl)) c.reads ?_
  have au : 0 ≤ (((-t).natAbs / 2 ^ dp : Nat) : Int) := Int.natCast_nonneg _
  have av := Nat.div_le_self (-t).natAbs (2 ^ dp)
  refine dO (i := 1) (zK (i := 1) rfl rfl rfl (zD rfl _) (zH (vs := [(.agg [(vJ (-t)), (vJ (dp : Int))].toArray)]) Tryz.func145 nm145 rfl rfl rfl ?_))
  refine Calls.mono (l2FloorP_spec (t := -t) (p := dp) aa.pins (by omega) (by omega)) ?_
  rintro _ aw ⟨ax, rfl, ab⟩
  refine ⟨_, rfl, ?_⟩
  have am := aa.tr ab
  have d := c.ext ab
  refine ⟨fun _ => d.reads, ?_⟩
  refine dT (i := 4) rfl rfl (by kernel_rfl) (fun _ _ => yQ rfl rfl (by omega)) d.reads ?_
  refine dT (i := 5) rfl rfl (by kernel_rfl) (fun _ _ => yQ rfl rfl (by omega)) d.reads ?_
  refine dM 6 (vJ (((((-t).natAbs / 2 ^ dp : Nat) : Int) + (dp : Int)) + 1)) d.reads ?_
  refine yH (by kernel_rfl) ?_
  refine zA ?_
  refine wp_ret ?_
  refine zO ?_
  refine zP (v := (vJ (((((-t).natAbs / 2 ^ dp : Nat) : Int) + (dp : Int)) + 1))) rfl rfl rfl ?_
  exact ⟨_, congrArg (fun z => Ending.returned (Value.int .i64 z)) (by first | (rw [show dp = 0 by omega]; show _ = ((t.natAbs : Nat) : Int); omega) | (rw [show bornD dp t = t.natAbs / 2 ^ dp + dp + 1 from if_neg (by omega)]; (try rw [Int.natAbs_neg]); omega)), am⟩
 refine wp_skip ?_
 refine zA (zB (zB (zC ?_)))
 refine qD rfl (zL (k := 1) rfl Tryz.underlying34 rfl nz3 rfl) ?_
 refine qD rfl (zM (u := (vJ (dp : Int))) ag3 rfl (a.cell (o := 1) rfl)) ?_
 refine qD rfl (r_eql rfl rfl) ?_
 refine qe (zA ?_)
 refine zY (p := ((dp : Int) : Int) = 0) rfl rfl (fun an => ?_) (fun an => ?_)
 ·skip
  refine zB (zC ?_)
  refine qD rfl (zL (k := 0) rfl Tryz.underlying34 rfl nz3 rfl) ?_
  refine qD rfl (zM (u := (vJ t)) ag3 rfl (a.cell (o := 0) rfl)) ?_
  refine qM (vJ t) ?_
  refine qe (zA ?_)
  refine wp_ret ?_
  refine zO ?_
  refine zP (v := (vJ t)) rfl rfl rfl ?_
  exact ⟨_, congrArg (fun z => Ending.returned (Value.int .i64 z)) (by first | (rw [show dp = 0 by omega]; show _ = ((t.natAbs : Nat) : Int); omega) | (rw [show bornD dp t = t.natAbs / 2 ^ dp + dp + 1 from if_neg (by omega)]; (try rw [Int.natAbs_neg]); omega)), b⟩
 refine wp_skip ?_
 refine zA (zB ?_)
 refine xF (S := fun wz => BxR wz l [(vJ t), (vJ (dp : Int))]) (last := 7) (by kernel_rfl) rfl ?_
 have y : Below m.heap.size m m.drew := (Below.refl _ _).drew
 have ao := b.pins.below y
 have ac := b.step ao y
 have f := a.below y
 refine dT (i := 0) rfl rfl (by kernel_rfl) (fun _ hS => yC (cs := [(vJ t), (vJ (dp : Int))]) ag34 sz34 rfl (fun j u hj => hS _ _ (by simpa using hj))) f.reads ?_
 refine dT (i := 2) rfl rfl (by kernel_rfl) (fun _ _ => zL (k := 1) rfl Tryz.underlying34 rfl nz3 rfl) f.reads ?_
 refine dT (i := 3) rfl rfl (by kernel_rfl) (fun _ hS => zM (u := (vJ (dp : Int))) ag3 rfl (hS 1 _ rfl)) f.reads ?_
 have ay : 0 ≤ ((t.natAbs / 2 ^ dp : Nat) : Int) := Int.natCast_nonneg _
 have az := Nat.div_le_self t.natAbs (2 ^ dp)
 refine dO (i := 1) (zK (i := 1) rfl rfl rfl (zD rfl _) (zH (vs := [(.agg [(vJ t), (vJ (dp : Int))].toArray)]) Tryz.func145 nm145 rfl rfl rfl ?_))
 refine Calls.mono (l2FloorP_spec (t := t) (p := dp) ac.pins (by omega) (by omega)) ?_
 rintro _ a0 ⟨a1, rfl, ad⟩
 refine ⟨_, rfl, ?_⟩
 have ap := ac.tr ad
 have g := f.ext ad
 refine ⟨fun _ => g.reads, ?_⟩
 refine dT (i := 4) rfl rfl (by kernel_rfl) (fun _ _ => yQ rfl rfl (by omega)) g.reads ?_
 refine dT (i := 5) rfl rfl (by kernel_rfl) (fun _ _ => yQ rfl rfl (by omega)) g.reads ?_
 refine dM 6 (vJ ((((t.natAbs / 2 ^ dp : Nat) : Int) + (dp : Int)) + 1)) g.reads ?_
 refine yH (by kernel_rfl) ?_
 refine zA ?_
 refine wp_ret ?_
 refine zO ?_
 refine zP (v := (vJ ((((t.natAbs / 2 ^ dp : Nat) : Int) + (dp : Int)) + 1))) rfl rfl rfl ?_
 exact ⟨_, congrArg (fun z => Ending.returned (Value.int .i64 z)) (by first | (rw [show dp = 0 by omega]; show _ = ((t.natAbs : Nat) : Int); omega) | (rw [show bornD dp t = t.natAbs / 2 ^ dp + dp + 1 from if_neg (by omega)]; (try rw [Int.natAbs_neg]); omega)), ap⟩

theorem l2Good_spec {w : World} {G : Pin} {t z : Int} (hP : Pins G w) :
  Calls Tryz.prog 56 [(.agg [(vJ t), (vJ z)].toArray)].toArray w fun e w' => ∃ G', e = .returned (.bool (decP (GoodD t z))) ∧ Ext noS G w G' w' := by
 refine zV (n := 22) Tryz.func56 Tryz.ntmps56 rfl rfl ?_
 have c : Ext noS G w G w := Ext.refl hP
 refine zB (zC ?_)
 refine qI rfl (xI [(vJ t), (vJ z)] (v := (.agg [(vJ t), (vJ z)].toArray)) rfl rfl c.pins (fun j w2 ab l m o => ?_))
 have q := c.step m o
 have r : w.heap.size ≤ j := by have := c.size; omega
 obtain ⟨G9, ad, a, b, ae⟩ := l.shut q r
 refine qM (.bool false) ?_
 refine qe (zA (zB (zC ?_)))
 refine qD rfl (zL (k := 0) rfl Tryz.underlying34 rfl nz3 rfl) ?_
 refine qD rfl (zM (u := (vJ t)) ag3 rfl (a.pins _ _ _ (b 0 _ rfl))) ?_
 refine qI rfl (zH (vs := [(vJ t), (vJ (-1000000)), (vJ 1000000)]) Tryz.func74 nm74 rfl rfl rfl ?_)
 refine Calls.mono (l1In_spec a.pins) ?_
 rintro _ _ ⟨rfl, rfl⟩
 refine ⟨_, rfl, ?_⟩
 refine qM (.bool (decide (((-1000000) : Int) ≤ t ∧ (t : Int) ≤ 1000000))) ?_
 refine qbd (p := (((-1000000) : Int) ≤ t ∧ (t : Int) ≤ 1000000)) (t := 6) rfl (fun s => ?_) (fun s => ?_)
 ·skip
  refine qN (zL (k := 1) rfl Tryz.underlying34 rfl nz3 rfl) ?_
  refine qN (zM (u := (vJ z)) ag3 rfl (a.pins _ _ _ (b 1 _ rfl))) ?_
  refine q1g rfl rfl rfl rfl rfl rfl (zH (vs := [(vJ z), (vJ 0), (vJ 16)]) Tryz.func74 nm74 rfl rfl rfl ?_)
  refine Calls.mono (l1In_spec a.pins) ?_
  rintro _ _ ⟨rfl, rfl⟩
  refine ⟨_, rfl, ?_⟩
  refine qD rfl (yW (v := (.bool (decide ((0 : Int) ≤ z ∧ (z : Int) ≤ 16)))) rfl rfl) ?_
  refine qM (.bool (decide ((0 : Int) ≤ z ∧ (z : Int) ≤ 16))) ?_
  refine qbd (p := ((0 : Int) ≤ z ∧ (z : Int) ≤ 16)) (t := 11) rfl (fun x => ?_) (fun x => ?_)
  ·skip
   refine qN (zL (k := 1) rfl Tryz.underlying34 rfl nz3 rfl) ?_
   refine qN (zM (u := (vJ z)) ag3 rfl (a.pins _ _ _ (b 1 _ rfl))) ?_
   refine qN (r_eql rfl rfl) ?_
   refine qN (zU (v := (.bool (decide ((z : Int) = 0)))) rfl) ?_
   refine qbd (p := (z : Int) = 0) (t := 15) rfl (fun y => ?_) (fun y => ?_)
   ·skip
    refine qW ?_
    refine qW ?_
    refine qW ?_
    refine qW ?_
    refine qN (yW (v := (.bool true)) rfl rfl) ?_
    refine qD rfl (yW (v := (.bool true)) rfl rfl) ?_
    refine qM (.bool true) ?_
    refine qe (zA ?_)
    refine wp_ret ?_
    refine zO ?_
    refine zP (v := (.bool true)) rfl rfl rfl ?_
    exact ⟨_, congrArg (fun z => Ending.returned (Value.bool z)) (decP_true.2 ⟨by omega, by omega, by omega⟩).symm, a⟩
   refine qN (zL (k := 0) rfl Tryz.underlying34 rfl nz3 rfl) ?_
   refine qN (zM (u := (vJ t)) ag3 rfl (a.pins _ _ _ (b 0 _ rfl))) ?_
   refine qN (r_rem2 rfl rfl) ?_
   refine qN (r_neq rfl rfl) ?_
   refine qN (yI (v := (.bool (decide ((t.tmod 2 : Int) ≠ 0)))) rfl rfl) ?_
   refine qD rfl (yW (v := (.bool (decide ((t.tmod 2 : Int) ≠ 0)))) rfl rfl) ?_
   refine qM (.bool (decide ((t.tmod 2 : Int) ≠ 0))) ?_
   refine qe (zA ?_)
   refine wp_ret ?_
   refine zO ?_
   refine zP (v := (.bool (decide ((t.tmod 2 : Int) ≠ 0)))) rfl rfl rfl ?_
   exact ⟨_, congrArg (fun z => Ending.returned (Value.bool z)) (decP_dec.symm.trans (decP_iff ⟨fun h => ⟨by omega, by omega, by omega⟩, fun g => by have d := g.top; have f := g.pow; have i := g.odd; omega⟩)), a⟩
  refine qW ?_
  refine qW ?_
  refine qW ?_
  refine qW ?_
  refine qX ?_
  refine qX ?_
  refine qX ?_
  refine qX ?_
  refine qW ?_
  refine qD rfl (yI (v := (.bool false)) rfl rfl) ?_
  refine qM (.bool false) ?_
  refine qe (zA ?_)
  refine wp_ret ?_
  refine zO ?_
  refine zP (v := (.bool false)) rfl rfl rfl ?_
  exact ⟨_, congrArg (fun z => Ending.returned (Value.bool z)) (decP_false.2 (fun g => by have d := g.top; have f := g.pow; have i := g.odd; omega)).symm, a⟩
 refine qW ?_
 refine qW ?_
 refine qW ?_
 refine qD rfl (yI (v := (.bool false)) rfl rfl) ?_
 refine qM (.bool false) ?_
 refine qW ?_
 refine qW ?_
 refine qW ?_
 refine qW ?_
 refine qX ?_
 refine qX ?_
 refine qX ?_
 refine qX ?_
 refine qW ?_
 refine qD rfl (yI (v := (.bool false)) rfl rfl) ?_
 refine qM (.bool false) ?_
 refine qe (zA ?_)
 refine wp_ret ?_
 refine zO ?_
 refine zP (v := (.bool false)) rfl rfl rfl ?_
 exact ⟨_, congrArg (fun z => Ending.returned (Value.bool z)) (decP_false.2 (fun g => by have d := g.top; have f := g.pow; have i := g.odd; omega)).symm, a⟩

end NB4
end Go.Proofs.YtfnginkcmcfdfaaGreatDoor

set_option maxRecDepth 20000
set_option maxHeartbeats 2000000
namespace Go.Proofs.YtfnginkcmcfdfaaGreatDoor
namespace NB5
open Go.RowKit Go.GL Go.Proofs
open Go.Proofs.YtfnginkcmcfdfaaGreatDoor.B1
open Go.Proofs.YtfnginkcmcfdfaaGreatDoor.C1
open Go.Proofs.YtfnginkcmcfdfaaGreatDoor.D1
open Go.Proofs.YtfnginkcmcfdfaaGreatDoor.E1
open Go.Proofs.YtfnginkcmcfdfaaGreatDoor.NU1
open Go.Proofs.YtfnginkcmcfdfaaGreatDoor.NU3
open Go.Proofs.YtfnginkcmcfdfaaGreatDoor.NB4







theorem pl34 : (Tryz.prog.underlying 34).bind (placesD Tryz.prog) = some [(0, 1), (1, 1)] := by kernel_rfl




def PutP (m : Nat) : Prop := ∀ {w : World} {G : Pin} {b : Nat} {bu bv : Value} {ns : List Nd} {bs : List Int} {t : Int} {dp : Nat} (_ : Pins G w) (_ : Bk 99 3 G w b bu bv ns bs) (_ : PoolOk (bkq ns bs)) (_ : NumOk dp t) (_ : ns.length + cntD dp t ≤ 1048575), muD dp t < m → Calls Tryz.prog 107 [(.pointer (some ⟨b, 0, none⟩)), (.agg [.int .i64 t, .int .i64 (dp : Int)].toArray)].toArray w fun e w' => ∃ (z : Int) (u' v' : Value) (ns' : List Nd) (bs' : List Int) (G' : Pin), e = .returned (.int .i64 z) ∧ Bk 99 3 G' w' b u' v' ns' bs' ∧ Ext (inS b bu bv) G w G' w' ∧ Lo w (inS b bu bv) u'.ownBlock ∧ Lo w (inS b bu bv) v'.ownBlock ∧ PoolOk (bkq ns' bs') ∧ PX (bkq ns bs) (bkq ns' bs') ∧ PlaceOk (bkq ns' bs') z ∧ pd (bkq ns' bs') z = dyG dp t ∧ ns'.length ≤ ns.length + cntD dp t

theorem l7Put_step {w : World} {G : Pin} {b : Nat} {bu bv : Value} {ns : List Nd} {bs : List Int} {t : Int} {dp : Nat} (hP : Pins G w) (hB : Bk 99 3 G w b bu bv ns bs) (hokp : PoolOk (bkq ns bs)) (hn : NumOk dp t) (hl : ns.length + cntD dp t ≤ 1048575) {m : Nat} (ih : PutP m) (hm : muD dp t < m + 1) :
  Calls Tryz.prog 107 [(.pointer (some ⟨b, 0, none⟩)), (.agg [(vJ t), (vJ (dp : Int))].toArray)].toArray w fun e w' => ∃ (z : Int) (u' v' : Value) (ns' : List Nd) (bs' : List Int) (G' : Pin), e = .returned (vJ z) ∧ Bk 99 3 G' w' b u' v' ns' bs' ∧ Ext (inS b bu bv) G w G' w' ∧ Lo w (inS b bu bv) u'.ownBlock ∧ Lo w (inS b bu bv) v'.ownBlock ∧ PoolOk (bkq ns' bs') ∧ PX (bkq ns bs) (bkq ns' bs') ∧ PlaceOk (bkq ns' bs') z ∧ pd (bkq ns' bs') z = dyG dp t ∧ ns'.length ≤ ns.length + cntD dp t := by
 refine zV (n := 59) Tryz.func107 Tryz.ntmps107 rfl rfl ?_
 have b0 : Ext (inS b bu bv) G w G w := Ext.refl hP
 have hok := hokp.ar.ok
 have htp := hn.top
 have hpw := hn.pow
 have hod := hn.odd
 have hbx := hB.bx
 have hou := hB.ou
 have hov := hB.ov
 have habu := hB.abu
 have habv := hB.abv
 have hauv := hB.auv
 have hlob : Lo w (inS b bu bv) (some b) := lo_b
 have hlou : Lo w (inS b bu bv) bu.ownBlock := lo_u
 have hlov : Lo w (inS b bu bv) bv.ownBlock := lo_v
 have hlen := hok.len
 have hlim := hok.lim
 refine zB (zC ?_)
 refine qI rfl (xI [(vJ t), (vJ (dp : Int))] (v := (.agg [(vJ t), (vJ (dp : Int))].toArray)) rfl rfl b0.pins (fun b1 w2 b2 d9 ea a5 => ?_))
 have eb := b0.step ea a5
 have ec := hou.below a5
 have ed := hov.below a5
 have ee := hbx.below a5
 have ef : Apart (some b1) bu.ownBlock := zG (congrArg some b2) hou.lt
 have eg : Apart (some b1) bv.ownBlock := zG (congrArg some b2) hov.lt
 have eh : Apart (some b1) (some b) := zI (congrArg some b2) hbx.lt
 have ei : w.heap.size ≤ b1 := by have := b0.size; omega
 obtain ⟨kh, c3, a6, r, b3⟩ := d9.shut eb ei
 have c4 := ec.moreA c3 b3 ef.symm
 have c5 := ed.moreA c3 b3 eg.symm
 have c6 := ee.moreA b3 eh.symm
 refine qM (vJ 0) ?_
 refine qe (zA (zB (zC ?_)))
 refine qD rfl (zL (k := 1) rfl Tryz.underlying34 rfl nz3 rfl) ?_
 refine qD rfl (zM (u := (vJ (dp : Int))) ag3 rfl (a6.pins _ _ _ (r 1 _ rfl))) ?_
 refine qD rfl (yU [(vJ 0), (vJ 0)] [(vJ 1), (vJ (dp : Int))] [(0, (vJ 1), [(vJ 1)]), (1, (vJ (dp : Int)), [(vJ (dp : Int))])] Tryz.underlying34 zr34 rfl pl34 rfl (List.forall_mem_cons.2 ⟨rfl, (List.forall_mem_cons.2 ⟨rfl, (fun _ h => by cases h)⟩)⟩) rfl) ?_
 refine qI rfl (yJ [(vJ 0), (vJ 0)] zr34 rfl a6.pins (fun a7 ki b4 ej ek a8 => ?_))
 have c7 := a6.step ek a8
 have el := c4.below a8
 have em := c5.below a8
 have en := c6.below a8
 have c8 : Apart (some a7) bu.ownBlock := zG (congrArg some b4) c4.lt
 have c9 : Apart (some a7) bv.ownBlock := zG (congrArg some b4) c5.lt
 have da : Apart (some a7) (some b) := zI (congrArg some b4) c6.lt
 have db : w.heap.size ≤ a7 := by have := a6.size; omega
 refine q0 rfl rfl rfl (yP (cs' := [(vJ 1), (vJ (dp : Int))]) (us := [(vJ 1), (vJ (dp : Int))]) (v := (.agg [(vJ 1), (vJ (dp : Int))].toArray)) sz34 rfl rfl rfl (qH (by rfl) (by rfl)) c7.pins ej (Nat.le_of_ble_eq_true rfl) rfl (fun ad eo ep a9 kj => ?_))
 have eq := c7.write ep a9 ((zX db))
 have er := el.keptA a9 c8.symm
 have es := em.keptA a9 c9.symm
 have et := en.keptA a9 da.symm
 obtain ⟨dc, f, a, ba, b5⟩ := eo.shut eq db
 have bb := er.moreA f b5 c8.symm
 have bc := es.moreA f b5 c9.symm
 have bd := et.moreA b5 da.symm
 refine qe (zA (zB ?_))
 refine zZ ?_
 refine zB (zC ?_)
 refine qD rfl (zL (k := 0) rfl Tryz.underlying34 rfl nz3 rfl) ?_
 refine qD rfl (zM (u := (vJ t)) ag3 rfl ((Pins.of_le a.pins f) _ _ _ (r 0 _ rfl))) ?_
 refine qD rfl (r_eql rfl rfl) ?_
 refine qM (.bool (decide ((t : Int) = 0))) ?_
 refine qe (zA ?_)
 refine zY (p := (t : Int) = 0) rfl rfl (fun eu => ?_) (fun eu => ?_)
 ·skip
  refine zB (zC ?_)
  refine qM (.pointer (some ⟨b, 0, none⟩)) ?_
  have hpt := bk_put (xs := []) (ys := []) hokp (by omega) ⟨by simp, by simp⟩ (fun z hz => absurd hz (by simp)) (fun z hz => absurd hz (by simp))
  have ev := hpt.pd.trans (show _ = mkG [] [] from rfl)
  refine qI rfl (zH (vs := [(.pointer (some ⟨b, 0, none⟩)), (.slice none 0 0), (.slice none 0 0)]) Tryz.func112 nm112 rfl rfl rfl ?_)
  refine Calls.mono (put_spec a.pins ⟨bd, bb, bc, habu, habv, hauv⟩ hokp.ar.ok (xG _ _) (xG _ _) ⟨by simp, by simp⟩ (fun i hi => absurd hi (Nat.not_lt_zero i)) (fun i hi => absurd hi (Nat.not_lt_zero i))) ?_
  rintro _ kk ⟨ew, ex, kl, rfl, ae, ey, ez, e0⟩
  refine ⟨_, rfl, ?_⟩
  have b6 : ∀ i, inS b bu bv i → w.heap.size ≤ i ∨ (inS b bu bv) i := inS_lo hlob hlou hlov
  have e1 := a.trans ey b6
  have e2 := ae.bx
  have e3 := ae.ou
  have e4 := ae.ov
  have e5 := ae.abu
  have e6 := ae.abv
  have e7 := ae.auv
  have e8 := xB ez b6 a.size
  have e9 := xB e0 b6 a.size
  refine qM (vJ (putK ns bs ([]) ([]))) ?_
  refine qe (zA ?_)
  refine wp_ret ?_
  refine zO ?_
  refine zP (v := (vJ (putK ns bs ([]) ([])))) rfl rfl rfl ?_
  have hcp := cnt_pos dp t
  exact ⟨_, ew, ex, _, _, _, rfl, ⟨e2, e3, e4, e5, e6, e7⟩, e1, e8, e9, hpt.ok, hpt.px, hpt.pl, (ev.trans (dy_zero (by have := hn.odd; omega) (by omega)).symm), (by have := hpt.len; omega)⟩
 refine zB (zC ?_)
 refine qD rfl (zL (k := 1) rfl Tryz.underlying34 rfl nz3 rfl) ?_
 refine qD rfl (zM (u := (vJ (dp : Int))) ag3 rfl ((Pins.of_le a.pins f) _ _ _ (r 1 _ rfl))) ?_
 refine qD rfl (r_gtr rfl rfl) ?_
 refine qM (.bool (decide ((0 : Int) < (dp : Int)))) ?_
 refine qe (zA ?_)
 refine zY (p := (0 : Int) < (dp : Int)) rfl rfl (fun fa => ?_) (fun fa => ?_)
 ·skip
  refine zB ?_
  have af : 1 ≤ dp := by omega
  have x := (hn.kid af (s := t - 1) (Or.inl rfl))
  have y := (hn.kid af (s := t + 1) (Or.inr rfl))
  have dd := mu_kid hn af (s := t - 1) (Or.inl rfl)
  have de := mu_kid hn af (s := t + 1) (Or.inr rfl)
  have hct := cnt_two hn af
  have hdk := dy_kids af (hn.odd.resolve_left (by omega))
  refine xF (S := fun wz => Pins dc wz) (last := 7) (by kernel_rfl) rfl ?_
  have au : Below ad.heap.size ad ad.drew := (Below.refl _ _).drew
  have fb := a.pins.below au
  have av := a.step fb au
  have fc := bb.below au
  have fd := bc.below au
  have fe := bd.below au
  refine dM 0 (.pointer (some ⟨b, 0, none⟩)) av.pins ?_
  refine dT (i := 1) rfl rfl (by kernel_rfl) (fun _ hS => yC (cs := [(vJ t), (vJ (dp : Int))]) ag34 sz34 rfl (fun j u hj => (Pins.of_le hS f) _ _ _ (r _ _ (by simpa using hj)))) av.pins ?_
  refine dT (i := 2) rfl rfl (by kernel_rfl) (fun _ hS => yC (cs := [(vJ 1), (vJ (dp : Int))]) ag34 sz34 rfl (fun j u hj => hS _ _ _ (ba _ _ (by simpa using hj)))) av.pins ?_
  refine dO (i := 3) (zK (i := 3) rfl rfl rfl (zD rfl _) (zH (vs := [(.agg [(vJ 1), (vJ (dp : Int))].toArray)]) Tryz.func147 nm147 rfl rfl rfl ?_))
  refine Calls.mono (l2Neg_spec (t := 1) (z := (dp : Int)) av.pins (by omega)) ?_
  rintro _ km ⟨kn, rfl, c⟩
  refine ⟨_, rfl, ?_⟩
  have b7 := av.tr c
  have ff := fc.ext c
  have fg := fd.ext c
  have fh := fe.ext c
  refine ⟨fun _ => (Pins.of_le b7.pins c.le), ?_⟩
  refine dO (i := 4) (zK (i := 4) rfl rfl rfl (zD rfl _) (zH (vs := [(.agg [(vJ t), (vJ (dp : Int))].toArray), (.agg [(vJ (-1)), (vJ (dp : Int))].toArray)]) Tryz.func146 nm146 rfl rfl rfl ?_))
  refine Calls.mono (l2AddS_spec (t := t) (u := -1) (s := t - 1) (p := dp) b7.pins (by omega) (by omega) (by omega) (by omega)) ?_
  rintro _ ko ⟨kp, rfl, g⟩
  refine ⟨_, rfl, ?_⟩
  have aw := b7.tr g
  have fi := ff.ext g
  have fj := fg.ext g
  have fk := fh.ext g
  refine ⟨fun _ => (Pins.of_le aw.pins (Pin.le_trans c.le g.le)), ?_⟩
  refine dO (i := 5) (zK (i := 5) rfl rfl rfl (zD rfl _) (zH (vs := [(.pointer (some ⟨b, 0, none⟩)), (.agg [(vJ ((lowD dp (t - 1)).1)), (vJ (((lowD dp (t - 1)).2 : Nat) : Int))].toArray)]) Tryz.func107 nm107 rfl rfl rfl ?_))
  refine Calls.mono (ih aw.pins ⟨fk, fi, fj, habu, habv, hauv⟩ hokp x.1 (by omega) (by omega)) ?_
  rintro _ kq ⟨l, fl, fm, kr, ks, kt, rfl, ag, ax, fn, fo, df, fp, b8, fq, ku⟩
  refine ⟨_, rfl, ?_⟩
  have b9 : ∀ i, inS b bu bv i → w.heap.size ≤ i ∨ (inS b bu bv) i := inS_lo hlob hlou hlov
  have ah := aw.trans ax b9
  have fr := ag.bx
  have fs := ag.ou
  have ft := ag.ov
  have fu := ag.abu
  have fv := ag.abv
  have fw := ag.auv
  have fx := xB fn b9 aw.size
  have fy := xB fo b9 aw.size
  have fz := fp
  refine ⟨fun _ => (Pins.of_le ah.pins (Pin.le_trans (Pin.le_trans c.le g.le) ax.le)), ?_⟩
  refine dM 6 (vJ l) (Pins.of_le ah.pins (Pin.le_trans (Pin.le_trans c.le g.le) ax.le)) ?_
  refine yH (by kernel_rfl) ?_
  refine zA (zB (zC ?_))
  refine qM (.pointer (some ⟨b, 0, none⟩)) ?_
  refine qD rfl (yC (cs := [(vJ t), (vJ (dp : Int))]) ag34 sz34 rfl (fun j u hj => (Pins.of_le ah.pins (Pin.le_trans (Pin.le_trans (Pin.le_trans f c.le) g.le) ax.le)) _ _ _ (r _ _ (by simpa using hj)))) ?_
  refine qD rfl (yC (cs := [(vJ 1), (vJ (dp : Int))]) ag34 sz34 rfl (fun j u hj => (Pins.of_le ah.pins (Pin.le_trans (Pin.le_trans c.le g.le) ax.le)) _ _ _ (ba _ _ (by simpa using hj)))) ?_
  refine qI rfl (zH (vs := [(.agg [(vJ t), (vJ (dp : Int))].toArray), (.agg [(vJ 1), (vJ (dp : Int))].toArray)]) Tryz.func146 nm146 rfl rfl rfl ?_)
  refine Calls.mono (l2AddS_spec (t := t) (u := 1) (s := t + 1) (p := dp) ah.pins (by omega) (by omega) (by omega) (by omega)) ?_
  rintro _ kv ⟨kw, rfl, be⟩
  refine ⟨_, rfl, ?_⟩
  have bf := ah.tr be
  have f0 := fs.ext be
  have f1 := ft.ext be
  have f2 := fr.ext be
  refine qI rfl (zH (vs := [(.pointer (some ⟨b, 0, none⟩)), (.agg [(vJ ((lowD dp (t + 1)).1)), (vJ (((lowD dp (t + 1)).2 : Nat) : Int))].toArray)]) Tryz.func107 nm107 rfl rfl rfl ?_)
  refine Calls.mono (ih bf.pins ⟨f2, f0, f1, fu, fv, fw⟩ df y.1 (by omega) (by omega)) ?_
  rintro _ kx ⟨o, ca, cb, bg, bh, dg, rfl, ai, f3, f4, f5, cc, bi, dh, f6, ky⟩
  refine ⟨_, rfl, ?_⟩
  have cd : ∀ i, inS b fl fm i → w.heap.size ≤ i ∨ (inS b bu bv) i := inS_lo hlob fx fy
  have ce := bf.trans f3 cd
  have di := ai.bx
  have dj := ai.ou
  have dk := ai.ov
  have f7 := ai.abu
  have f8 := ai.abv
  have f9 := ai.auv
  have ga := xB f4 cd bf.size
  have gb := xB f5 cd bf.size
  have gc := PX.trans fz bi
  refine qM (vJ o) ?_
  refine qe (zA (zB (zC ?_)))
  refine qM (.pointer (some ⟨b, 0, none⟩)) ?_
  refine qM (vJ l) ?_
  refine qI rfl (yG (E := eInt) (e := 3) [(vJ l)] [l] Tryz.underlying65 sz3 zr3 (by exact xK (by rfl)) (yE (by rfl)) rfl rfl rfl rfl (by decide) ce.pins (fun aj gd ge gf bj cf => ?_))
  have cg := ce.step gf bj
  have dl := dj.below bj
  have dm := dk.below bj
  have dn := di.below bj
  have gg : Apart aj.ownBlock ca.ownBlock := zG cf dj.lt
  have gh : Apart aj.ownBlock cb.ownBlock := zG cf dk.lt
  have gi : Apart aj.ownBlock (some b) := zI cf di.lt
  have dq : Own eInt 3 dg gd w.heap.size aj ([l]) := ge.weaken ce.size
  refine qM (vJ o) ?_
  refine qI rfl (yG (E := eInt) (e := 3) [(vJ o)] [o] Tryz.underlying65 sz3 zr3 (by exact xK (by rfl)) (yE (by rfl)) rfl rfl rfl rfl (by decide) cg.pins (fun ak gj gk gl ay bk => ?_))
  have gm := cg.step gl ay
  have gn := dl.below ay
  have gp := dm.below ay
  have gq := dq.below ay
  have gr := dn.below ay
  have gs : Apart ak.ownBlock ca.ownBlock := zG bk dl.lt
  have gt : Apart ak.ownBlock cb.ownBlock := zG bk dm.lt
  have gu : Apart ak.ownBlock aj.ownBlock := zG bk dq.lt
  have gv : Apart ak.ownBlock (some b) := zI bk dn.lt
  have gw : Own eInt 3 dg gj w.heap.size ak ([o]) := gk.weaken cg.size
  obtain ⟨kz, ch, gx, gy, bl⟩ := gq.sealed gm
  have gz := gn.moreO ch bl gg.symm
  have g0 := gp.moreO ch bl gh.symm
  have g1 := gw.moreO ch bl gu
  have g2 := gr.moreO bl gi.symm
  obtain ⟨k0, ci, bm, g3, cj⟩ := g1.sealed gx
  have g4 := gz.moreO ci cj gs.symm
  have g5 := g0.moreO ci cj gt.symm
  have g6 := g2.moreO cj gv.symm
  have hpt := bk_put (xs := [l]) (ys := [o]) cc (by omega) ⟨by simp, by simp⟩ (fun z hz => by rw [List.mem_singleton.1 hz]; exact (bi.place b8)) (fun z hz => by rw [List.mem_singleton.1 hz]; exact dh)
  have ck := hpt.pd.trans (show _ = mkG [pd (bkq bg bh) l] [pd (bkq bg bh) o] from rfl)
  rw [((bi.pd df cc b8).trans fq)] at ck
  rw [f6] at ck
  refine qI rfl (zH (vs := [(.pointer (some ⟨b, 0, none⟩)), aj, ak]) Tryz.func112 nm112 rfl rfl rfl ?_)
  refine Calls.mono (put_spec bm.pins ⟨g6, g4, g5, f7, f8, f9⟩ cc.ar.ok (gy.mono ci) g3 ⟨by simp, by simp⟩ (one_at (bi.place b8)) (one_at dh)) ?_
  rintro _ k1 ⟨g7, g8, k2, rfl, al, g9, ha, hb⟩
  refine ⟨_, rfl, ?_⟩
  have cl : ∀ i, inS b ca cb i → w.heap.size ≤ i ∨ (inS b bu bv) i := inS_lo hlob ga gb
  have hc := bm.trans g9 cl
  have hd := al.bx
  have he := al.ou
  have hf := al.ov
  have hg := al.abu
  have hh := al.abv
  have hk := al.auv
  have ho := xB ha cl bm.size
  have hp := xB hb cl bm.size
  refine qM (vJ (putK bg bh ([l]) ([o]))) ?_
  refine qe (zA ?_)
  refine wp_ret ?_
  refine zO ?_
  refine zP (v := (vJ (putK bg bh ([l]) ([o])))) rfl rfl rfl ?_
  have hcp := cnt_pos dp t
  exact ⟨_, g7, g8, _, _, _, rfl, ⟨hd, he, hf, hg, hh, hk⟩, hc, ho, hp, hpt.ok, (PX.trans gc hpt.px), hpt.pl, (ck.trans hdk.symm), (by have := hpt.len; omega)⟩
 refine zB (zC ?_)
 refine qD rfl (zL (k := 0) rfl Tryz.underlying34 rfl nz3 rfl) ?_
 refine qD rfl (zM (u := (vJ t)) ag3 rfl ((Pins.of_le a.pins f) _ _ _ (r 0 _ rfl))) ?_
 refine qD rfl (r_gtr rfl rfl) ?_
 refine qM (.bool (decide ((0 : Int) < t))) ?_
 refine qe (zA ?_)
 refine zY (p := (0 : Int) < t) rfl rfl (fun hq => ?_) (fun hq => ?_)
 ·skip
  refine zB ?_
  have aa : dp = 0 := by omega
  have x := hn.kid0 aa (s := t - 1) (by omega)
  have dd := x.2.1
  have de := x.2.2.1
  refine xF (S := fun wz => Pins dc wz) (last := 10) (by kernel_rfl) rfl ?_
  have az : Below ad.heap.size ad ad.drew := (Below.refl _ _).drew
  have hr := a.pins.below az
  have am := a.step hr az
  have hs := bb.below az
  have ht := bc.below az
  have hu := bd.below az
  refine dM 0 (.pointer (some ⟨b, 0, none⟩)) am.pins ?_
  refine dM 1 (.pointer (some ⟨b, 0, none⟩)) am.pins ?_
  refine dT (i := 2) rfl rfl (by kernel_rfl) (fun _ hS => yC (cs := [(vJ t), (vJ (dp : Int))]) ag34 sz34 rfl (fun j u hj => (Pins.of_le hS f) _ _ _ (r _ _ (by simpa using hj)))) am.pins ?_
  refine dT (i := 3) rfl rfl (by kernel_rfl) (fun _ hS => yC (cs := [(vJ 1), (vJ (dp : Int))]) ag34 sz34 rfl (fun j u hj => hS _ _ _ (ba _ _ (by simpa using hj)))) am.pins ?_
  refine dO (i := 4) (zK (i := 4) rfl rfl rfl (zD rfl _) (zH (vs := [(.agg [(vJ 1), (vJ (dp : Int))].toArray)]) Tryz.func147 nm147 rfl rfl rfl ?_))
  refine Calls.mono (l2Neg_spec (t := 1) (z := (dp : Int)) am.pins (by omega)) ?_
  rintro _ k3 ⟨k4, rfl, d⟩
  refine ⟨_, rfl, ?_⟩
  have cm := am.tr d
  have hv := hs.ext d
  have hw := ht.ext d
  have hx := hu.ext d
  refine ⟨fun _ => (Pins.of_le cm.pins d.le), ?_⟩
  refine dO (i := 5) (zK (i := 5) rfl rfl rfl (zD rfl _) (zH (vs := [(.agg [(vJ t), (vJ (dp : Int))].toArray), (.agg [(vJ (-1)), (vJ (dp : Int))].toArray)]) Tryz.func146 nm146 rfl rfl rfl ?_))
  refine Calls.mono (l2AddS_spec (t := t) (u := -1) (s := t - 1) (p := dp) cm.pins (by omega) (by omega) (by omega) (by omega)) ?_
  rintro _ k5 ⟨k6, rfl, q⟩
  refine ⟨_, rfl, ?_⟩
  have a0 := cm.tr q
  have hy := hv.ext q
  have h0 := hw.ext q
  have h1 := hx.ext q
  refine ⟨fun _ => (Pins.of_le a0.pins (Pin.le_trans d.le q.le)), ?_⟩
  refine dO (i := 6) (zK (i := 6) rfl rfl rfl (zD rfl _) (zH (vs := [(.pointer (some ⟨b, 0, none⟩)), (.agg [(vJ ((lowD dp (t - 1)).1)), (vJ (((lowD dp (t - 1)).2 : Nat) : Int))].toArray)]) Tryz.func107 nm107 rfl rfl rfl ?_))
  refine Calls.mono (ih a0.pins ⟨h1, hy, h0, habu, habv, hauv⟩ hokp x.1 (by omega) (by omega)) ?_
  rintro _ k7 ⟨ab, dr, ds, cn, co, h2, rfl, an, a1, h3, h4, dt, h5, du, h6, k8⟩
  refine ⟨_, rfl, ?_⟩
  have cp : ∀ i, inS b bu bv i → w.heap.size ≤ i ∨ (inS b bu bv) i := inS_lo hlob hlou hlov
  have bn := a0.trans a1 cp
  have dv := an.bx
  have dw := an.ou
  have dx := an.ov
  have h7 := an.abu
  have h8 := an.abv
  have h9 := an.auv
  have ia := xB h3 cp a0.size
  have ib := xB h4 cp a0.size
  have ic := h5
  refine ⟨fun _ => (Pins.of_le bn.pins (Pin.le_trans (Pin.le_trans d.le q.le) a1.le)), ?_⟩
  refine dO (i := 7) (zK (i := 7) rfl rfl rfl (zD rfl _) (yG (E := eInt) (e := 3) [(vJ ab)] [ab] Tryz.underlying65 sz3 zr3 (by exact xK (by rfl)) (yE (by rfl)) rfl rfl rfl rfl (by decide) bn.pins (fun a2 ie ig ii bo cq => ?_)))
  have dy := bn.step ii bo
  have ij := dw.below bo
  have ik := dx.below bo
  have il := dv.below bo
  have im : Apart a2.ownBlock dr.ownBlock := zG cq dw.lt
  have io : Apart a2.ownBlock ds.ownBlock := zG cq dx.lt
  have ip : Apart a2.ownBlock (some b) := zI cq dv.lt
  have iq : Own eInt 3 h2 ie w.heap.size a2 ([ab]) := ig.weaken bn.size
  refine ⟨fun _ => (Pins.of_le dy.pins (Pin.le_trans (Pin.le_trans d.le q.le) a1.le)), ?_⟩
  obtain ⟨k9, bp, bq, ir, cr⟩ := iq.sealed dy
  have it := ij.moreO bp cr im.symm
  have iu := ik.moreO bp cr io.symm
  have iv := il.moreO cr ip.symm
  have hpt := bk_put (xs := [ab]) (ys := []) dt (by omega) ⟨by simp, by simp⟩ (fun z hz => by rw [List.mem_singleton.1 hz]; exact du) (fun z hz => absurd hz (by simp))
  have dz := hpt.pd.trans (show _ = mkG [pd (bkq cn co) ab] [] from rfl)
  rw [h6] at dz
  refine dO (i := 8) (zK (i := 8) rfl rfl rfl (zD rfl _) (zH (vs := [(.pointer (some ⟨b, 0, none⟩)), a2, (.slice none 0 0)]) Tryz.func112 nm112 rfl rfl rfl ?_))
  refine Calls.mono (put_spec bq.pins ⟨iv, it, iu, h7, h8, h9⟩ dt.ar.ok ir (xG _ _) ⟨by simp, by simp⟩ (one_at du) (fun i hi => absurd hi (Nat.not_lt_zero i))) ?_
  rintro _ la ⟨iw, ix, lb, rfl, ao, ct, iy, iz⟩
  refine ⟨_, rfl, ?_⟩
  have cu : ∀ i, inS b dr ds i → w.heap.size ≤ i ∨ (inS b bu bv) i := inS_lo hlob ia ib
  have cv := bq.trans ct cu
  have i0 := ao.bx
  have i1 := ao.ou
  have i2 := ao.ov
  have i3 := ao.abu
  have i4 := ao.abv
  have i5 := ao.auv
  have i6 := xB iy cu bq.size
  have i7 := xB iz cu bq.size
  refine ⟨fun _ => (Pins.of_le cv.pins (Pin.le_trans (Pin.le_trans (Pin.le_trans (Pin.le_trans d.le q.le) a1.le) bp) ct.le)), ?_⟩
  refine dM 9 (vJ (putK cn co ([ab]) ([]))) (Pins.of_le cv.pins (Pin.le_trans (Pin.le_trans (Pin.le_trans (Pin.le_trans d.le q.le) a1.le) bp) ct.le)) ?_
  refine yH (by kernel_rfl) ?_
  refine zA ?_
  refine wp_ret ?_
  refine zO ?_
  refine zP (v := (vJ (putK cn co ([ab]) ([])))) rfl rfl rfl ?_
  have hcp := cnt_pos dp t
  exact ⟨_, iw, ix, _, _, _, rfl, ⟨i0, i1, i2, i3, i4, i5⟩, cv, i6, i7, hpt.ok, (PX.trans ic hpt.px), hpt.pl, (dz.trans (by first | rw [x.2.2.2]; exact (dy_pos aa (by omega)).symm | rw [y.2.2.2]; exact (dy_neg aa (by omega)).symm)), (by have := hpt.len; omega)⟩
 refine wp_skip ?_
 refine yL ?_
 refine zA (zB (zC ?_))
 have aa : dp = 0 := by omega
 have y := hn.kid0 aa (s := t + 1) (by omega)
 have dd := y.2.1
 have de := y.2.2.1
 refine qM (.pointer (some ⟨b, 0, none⟩)) ?_
 refine qM (.pointer (some ⟨b, 0, none⟩)) ?_
 refine qD rfl (yC (cs := [(vJ t), (vJ (dp : Int))]) ag34 sz34 rfl (fun j u hj => (Pins.of_le a.pins f) _ _ _ (r _ _ (by simpa using hj)))) ?_
 refine qD rfl (yC (cs := [(vJ 1), (vJ (dp : Int))]) ag34 sz34 rfl (fun j u hj => a.pins _ _ _ (ba _ _ (by simpa using hj)))) ?_
 refine qI rfl (zH (vs := [(.agg [(vJ t), (vJ (dp : Int))].toArray), (.agg [(vJ 1), (vJ (dp : Int))].toArray)]) Tryz.func146 nm146 rfl rfl rfl ?_)
 refine Calls.mono (l2AddS_spec (t := t) (u := 1) (s := t + 1) (p := dp) a.pins (by omega) (by omega) (by omega) (by omega)) ?_
 rintro _ lc ⟨ld, rfl, br⟩
 refine ⟨_, rfl, ?_⟩
 have bt := a.tr br
 have i8 := bb.ext br
 have i9 := bc.ext br
 have ja := bd.ext br
 refine qI rfl (zH (vs := [(.pointer (some ⟨b, 0, none⟩)), (.agg [(vJ ((lowD dp (t + 1)).1)), (vJ (((lowD dp (t + 1)).2 : Nat) : Int))].toArray)]) Tryz.func107 nm107 rfl rfl rfl ?_)
 refine Calls.mono (ih bt.pins ⟨ja, i8, i9, habu, habv, hauv⟩ hokp y.1 (by omega) (by omega)) ?_
 rintro _ lf ⟨ac, d0, d1, cw, cx, jb, rfl, ap, jc, jd, je, d2, jf, d3, jg, lg⟩
 refine ⟨_, rfl, ?_⟩
 have cy : ∀ i, inS b bu bv i → w.heap.size ≤ i ∨ (inS b bu bv) i := inS_lo hlob hlou hlov
 have cz := bt.trans jc cy
 have d4 := ap.bx
 have d5 := ap.ou
 have d6 := ap.ov
 have jh := ap.abu
 have ji := ap.abv
 have jj := ap.auv
 have jk := xB jd cy bt.size
 have jl := xB je cy bt.size
 have jm := jf
 refine qI rfl (yG (E := eInt) (e := 3) [(vJ ac)] [ac] Tryz.underlying65 sz3 zr3 (by exact xK (by rfl)) (yE (by rfl)) rfl rfl rfl rfl (by decide) cz.pins (fun a3 jn jo jp bw c0 => ?_))
 have jq := cz.step jp bw
 have jr := d5.below bw
 have js := d6.below bw
 have jt := d4.below bw
 have ju : Apart a3.ownBlock d0.ownBlock := zG c0 d5.lt
 have jv : Apart a3.ownBlock d1.ownBlock := zG c0 d6.lt
 have jw : Apart a3.ownBlock (some b) := zI c0 d4.lt
 have jx : Own eInt 3 jb jn w.heap.size a3 ([ac]) := jo.weaken cz.size
 obtain ⟨lh, d7, bz, jy, c1⟩ := jx.sealed jq
 have jz := jr.moreO d7 c1 ju.symm
 have j0 := js.moreO d7 c1 jv.symm
 have j1 := jt.moreO c1 jw.symm
 have hpt := bk_put (xs := []) (ys := [ac]) d2 (by omega) ⟨by simp, by simp⟩ (fun z hz => absurd hz (by simp)) (fun z hz => by rw [List.mem_singleton.1 hz]; exact d3)
 have d8 := hpt.pd.trans (show _ = mkG [] [pd (bkq cw cx) ac] from rfl)
 rw [jg] at d8
 refine qI rfl (zH (vs := [(.pointer (some ⟨b, 0, none⟩)), (.slice none 0 0), a3]) Tryz.func112 nm112 rfl rfl rfl ?_)
 refine Calls.mono (put_spec bz.pins ⟨j1, jz, j0, jh, ji, jj⟩ d2.ar.ok (xG _ _) jy ⟨by simp, by simp⟩ (fun i hi => absurd hi (Nat.not_lt_zero i)) (one_at d3)) ?_
 rintro _ li ⟨j2, j3, lj, rfl, aq, j4, j5, j6⟩
 refine ⟨_, rfl, ?_⟩
 have c2 : ∀ i, inS b d0 d1 i → w.heap.size ≤ i ∨ (inS b bu bv) i := inS_lo hlob jk jl
 have j7 := bz.trans j4 c2
 have j8 := aq.bx
 have j9 := aq.ou
 have ka := aq.ov
 have kb := aq.abu
 have kc := aq.abv
 have kd := aq.auv
 have ke := xB j5 c2 bz.size
 have kf := xB j6 c2 bz.size
 refine qM (vJ (putK cw cx ([]) ([ac]))) ?_
 refine qe (zA ?_)
 refine wp_ret ?_
 refine zO ?_
 refine zP (v := (vJ (putK cw cx ([]) ([ac])))) rfl rfl rfl ?_
 have hcp := cnt_pos dp t
 exact ⟨_, j2, j3, _, _, _, rfl, ⟨j8, j9, ka, kb, kc, kd⟩, j7, ke, kf, hpt.ok, (PX.trans jm hpt.px), hpt.pl, (d8.trans (by first | rw [x.2.2.2]; exact (dy_pos aa (by omega)).symm | rw [y.2.2.2]; exact (dy_neg aa (by omega)).symm)), (by have := hpt.len; omega)⟩

theorem put_all : ∀ m, PutP m
 | 0 => fun _ _ _ _ _ h => absurd h (Nat.not_lt_zero _)
 | m + 1 => fun hP hB hok hn hl hm => l7Put_step hP hB hok hn hl (put_all m) hm
theorem l7Put_spec {w : World} {G : Pin} {b : Nat} {bu bv : Value} {ns : List Nd} {bs : List Int} {t : Int} {dp : Nat} (hP : Pins G w) (hB : Bk 99 3 G w b bu bv ns bs) (hokp : PoolOk (bkq ns bs)) (hn : NumOk dp t) (hl : ns.length + cntD dp t ≤ 1048575) :
  Calls Tryz.prog 107 [(.pointer (some ⟨b, 0, none⟩)), (.agg [.int .i64 t, .int .i64 (dp : Int)].toArray)].toArray w fun e w' => ∃ (z : Int) (u' v' : Value) (ns' : List Nd) (bs' : List Int) (G' : Pin), e = .returned (.int .i64 z) ∧ Bk 99 3 G' w' b u' v' ns' bs' ∧ Ext (inS b bu bv) G w G' w' ∧ Lo w (inS b bu bv) u'.ownBlock ∧ Lo w (inS b bu bv) v'.ownBlock ∧ PoolOk (bkq ns' bs') ∧ PX (bkq ns bs) (bkq ns' bs') ∧ PlaceOk (bkq ns' bs') z ∧ pd (bkq ns' bs') z = dyG dp t ∧ ns'.length ≤ ns.length + cntD dp t :=
 put_all _ hP hB hokp hn hl (Nat.lt_succ_self _)

end NB5
end Go.Proofs.YtfnginkcmcfdfaaGreatDoor

set_option maxRecDepth 20000
set_option maxHeartbeats 2000000
namespace Go.Proofs.YtfnginkcmcfdfaaGreatDoor
namespace NB6
open Go.RowKit Go.GL Go.Proofs
open Go.Proofs.YtfnginkcmcfdfaaGreatDoor.B1
open Go.Proofs.YtfnginkcmcfdfaaGreatDoor.C1
open Go.Proofs.YtfnginkcmcfdfaaGreatDoor.D1
open Go.Proofs.YtfnginkcmcfdfaaGreatDoor.E1
open Go.Proofs.YtfnginkcmcfdfaaGreatDoor.K1
open Go.Proofs.YtfnginkcmcfdfaaGreatDoor.PO1
open Go.Proofs.YtfnginkcmcfdfaaGreatDoor.PL1
open Go.Proofs.YtfnginkcmcfdfaaGreatDoor.PA1
open Go.Proofs.YtfnginkcmcfdfaaGreatDoor.SO1
open Go.Proofs.YtfnginkcmcfdfaaGreatDoor.OD1
open Go.Proofs.YtfnginkcmcfdfaaGreatDoor.FO1
open Go.Proofs.YtfnginkcmcfdfaaGreatDoor.NG1
open Go.Proofs.YtfnginkcmcfdfaaGreatDoor.NF1
open Go.Proofs.YtfnginkcmcfdfaaGreatDoor.SM1
open Go.Proofs.YtfnginkcmcfdfaaGreatDoor.NU1
open Go.Proofs.YtfnginkcmcfdfaaGreatDoor.NU3
open Go.Proofs.YtfnginkcmcfdfaaGreatDoor.NB4
open Go.Proofs.YtfnginkcmcfdfaaGreatDoor.NB5








theorem pl102 : (Tryz.prog.underlying 102).bind (placesD Tryz.prog) = some [(0, 1), (1, 1)] := by kernel_rfl
theorem pl32 : (Tryz.prog.underlying 32).bind (placesD Tryz.prog) = some [(0, 1)] := by kernel_rfl




theorem l7FormN_spec {w : World} {G : Pin} {t : Int} {dp : Nat} (hP : Pins G w) (hg : GoodD t (dp : Int)) :
  Calls Tryz.prog 58 [(.agg [(vJ t), (vJ (dp : Int))].toArray)].toArray w fun e w' => ∃ (u : Value) (G' : Pin), e = .returned (.agg [u].toArray) ∧ RSl eNode G' u (l7F dp t) ∧ Ext noS G w G' w' := by
 refine zV (n := 15) Tryz.func58 Tryz.ntmps58 rfl rfl ?_
 have g : Ext noS G w G w := Ext.refl hP
 have htp := hg.top
 have hpw := hg.pow
 refine zB (zC ?_)
 refine qI rfl (xI [(vJ t), (vJ (dp : Int))] (v := (.agg [(vJ t), (vJ (dp : Int))].toArray)) rfl rfl g.pins (fun b1 w2 bm ah ai aj => ?_))
 have ak := g.step ai aj
 have al : w.heap.size ≤ b1 := by have := g.size; omega
 obtain ⟨G9, bo, k, r, bp⟩ := ah.shut ak al
 refine qI rfl (yJ [(.slice none 0 0)] zr32 rfl k.pins (fun s bq br am an ao => ?_))
 have l := k.step an ao
 have x : w.heap.size ≤ s := by have := k.size; omega
 refine qe (zA (zB (zB (zC ?_))))
 refine qD rfl (yC (cs := [(vJ t), (vJ (dp : Int))]) ag34 sz34 rfl (fun j u hj => l.pins _ _ _ (r _ _ (by simpa using hj)))) ?_
 refine qI rfl (zH (vs := [(.agg [(vJ t), (vJ (dp : Int))].toArray)]) Tryz.func106 nm106 rfl rfl rfl ?_)
 refine Calls.mono (l2Born_spec (t := t) (dp := dp) l.pins (by omega) (by omega)) ?_
 rintro _ bs ⟨bt, rfl, m⟩
 refine ⟨_, rfl, ?_⟩
 have c := l.tr m
 have o := am.ext m
 refine qD rfl (r_geq rfl rfl) ?_
 refine qe (zA ?_)
 refine zY (p := (120 : Int) ≤ ((bornD dp t : Nat) : Int)) rfl rfl (fun ap => ?_) (fun ap => ?_)
 ·skip
  refine zB (zC ?_)
  refine qD rfl (yU [(.slice none 0 0)] [(.slice none 0 0)] [] Tryz.underlying32 zr32 rfl pl32 rfl (fun _ h => by cases h) rfl) ?_
  refine q0 rfl rfl rfl (yP (cs' := [(.slice none 0 0)]) (us := [(.slice none 0 0)]) (v := (.agg [(.slice none 0 0)].toArray)) sz32 rfl rfl rfl (yE (by rfl)) c.pins o (Nat.le_of_ble_eq_true rfl) rfl (fun bu aq au av bv => ?_))
  have aw := c.write au av ((zX x))
  refine qe (zA ?_)
  refine wp_ret ?_
  refine zO ?_
  refine c_retc (cs := [(.slice none 0 0)]) rfl rfl rfl ag32 sz32 (fun j u hj => by rw [Nat.zero_add]; exact aq.cell hj) ?_
  exact ⟨_, _, rfl, (by rw [l7_late (by omega)]; exact (xG _ _)), aw⟩
 refine wp_skip ?_
 refine zA (zB (zC ?_))
 refine qD rfl (yU [(.slice none 0 0), (.slice none 0 0)] [(.slice none 0 0), (.slice none 0 0)] [] Tryz.underlying102 zr102 rfl pl102 rfl (fun _ h => by cases h) rfl) ?_
 refine qI rfl (xI [(.slice none 0 0), (.slice none 0 0)] (v := (.agg [(.slice none 0 0), (.slice none 0 0)].toArray)) rfl rfl c.pins (fun a bw ax ay az y => ?_))
 have d := c.step az y
 have a0 := o.below y
 have a1 : Apart (some a) (some s) := zI (congrArg some ax) o.lt
 have a2 : w.heap.size ≤ a := by have := c.size; omega
 refine qM (.pointer (some ⟨a, 0, none⟩)) ?_
 refine qe (zA (zB (zC ?_)))
 have hbn : bornD dp t < 120 := by omega
 have hno := born_num hg hbn
 have hcn := cnt_num hno
 have hcm := numT_max hno.pow
 have hbe : PoolOk (bkq [] []) := bkq_ok Ar.empty
 refine qM (.pointer (some ⟨a, 0, none⟩)) ?_
 refine qM (.pointer (some ⟨a, 0, none⟩)) ?_
 refine qD rfl (yC (cs := [(vJ t), (vJ (dp : Int))]) ag34 sz34 rfl (fun j u hj => (Pins.of_le d.pins m.le) _ _ _ (r _ _ (by simpa using hj)))) ?_
 refine qI rfl (zH (vs := [(.pointer (some ⟨a, 0, none⟩)), (.agg [(vJ t), (vJ (dp : Int))].toArray)]) Tryz.func107 nm107 rfl rfl rfl ?_)
 refine Calls.mono (l7Put_spec d.pins ⟨ay, (Own.nil _ _ _ _ _), (Own.nil _ _ _ _ _), apart_none.symm, apart_none.symm, apart_none⟩ hbe hno (by simp; omega)) ?_
 rintro _ bz ⟨a3, b0, b2, b3, b4, b5, rfl, b, z, a4, a5, aa, a6, ab, a7, b6⟩
 refine ⟨_, rfl, ?_⟩
 have q : ∀ i, inS a (.slice none 0 0) (.slice none 0 0) i → w.heap.size ≤ i ∨ noS i := inS_lo (zX a2) (lo_none _ _) (lo_none _ _)
 have ac := d.trans z q
 have a8 := notS (u := (.slice none 0 0)) (v := (.slice none 0 0)) a1.symm apart_none.symm apart_none.symm
 have a9 := a0.extS z (notSb a8)
 have ba := b.bx
 have bb := b.ou
 have bc := b.ov
 have bd := b.abu
 have be := b.abv
 have bf := b.auv
 have b7 := xB a4 q d.size
 have b8 := xB a5 q d.size
 have b9 := a6
 refine qI rfl (zH (vs := [(.pointer (some ⟨a, 0, none⟩)), (vJ a3)]) Tryz.func90 nm90 rfl rfl rfl ?_)
 refine Calls.mono (form_spec ac.pins ⟨ba, bb, bc, bd, be, bf⟩ aa.ar.ok ab) ?_
 rintro _ ca ⟨f, cb, rfl, ad, ae⟩
 refine ⟨_, rfl, ?_⟩
 have af := ac.tr ae
 have bg := a9.ext ae
 refine q0 rfl rfl rfl (yP (cs' := [f]) (us := [f]) (v := (.agg [f].toArray)) sz32 rfl rfl rfl (yE ad.one) af.pins bg (Nat.le_of_ble_eq_true rfl) rfl (fun cc bh bi bj cd => ?_))
 have bk := af.write bi bj ((zX x))
 refine qe (zA ?_)
 refine wp_ret ?_
 refine zO ?_
 refine c_retc (cs := [f]) rfl rfl rfl ag32 sz32 (fun j u hj => by rw [Nat.zero_add]; exact bh.cell hj) ?_
 exact ⟨_, _, rfl, (by rw [l7_early hbn, ← a7, ← book_form aa ab]; exact ad), bk⟩

theorem l7Form_spec {w : World} {G : Pin} {t z : Int} (hP : Pins G w) (hg : GoodD t z) :
  Calls Tryz.prog 58 [(.agg [.int .i64 t, .int .i64 z].toArray)].toArray w fun e w' => ∃ (u : Value) (G' : Pin), e = .returned (.agg [u].toArray) ∧ RSl eNode G' u (l7F z.toNat t) ∧ Ext noS G w G' w' := by
 obtain ⟨dp, rfl⟩ : ∃ dp : Nat, z = (dp : Int) := ⟨z.toNat, by have := hg.pow; omega⟩
 simp only [Int.toNat_natCast]
 exact l7FormN_spec hP hg

theorem sNumberForm_spec {w : World} {G : Pin} {t z : Int} (hP : Pins G w) :
  Calls Tryz.prog 21 [(.agg [(vJ t), (vJ z)].toArray)].toArray w fun e w' => ∃ (u : Value) (G' : Pin), e = .returned (.tuple #[(.agg [u].toArray), .bool (nmB t z)]) ∧ RSl eNode G' u (nmF t z) ∧ Ext noS G w G' w' := by
 refine zV (n := 13) Tryz.func21 Tryz.ntmps21 rfl rfl ?_
 have c : Ext noS G w G w := Ext.refl hP
 refine zB (zC ?_)
 refine qI rfl (xI [(vJ t), (vJ z)] (v := (.agg [(vJ t), (vJ z)].toArray)) rfl rfl c.pins (fun b1 w2 az ab ac ad => ?_))
 have ae := c.step ac ad
 have af : w.heap.size ≤ b1 := by have := c.size; omega
 obtain ⟨G9, a1, d, m, a2⟩ := ab.shut ae af
 refine qI rfl (yJ [(.slice none 0 0)] zr32 rfl d.pins (fun ag a3 a4 ah ai aj => ?_))
 have f := d.step ai aj
 have o : w.heap.size ≤ ag := by have := d.size; omega
 refine qM (.bool false) ?_
 refine qe (zA (zB (zB (zC ?_))))
 refine qD rfl (yC (cs := [(vJ t), (vJ z)]) ag34 sz34 rfl (fun j u hj => f.pins _ _ _ (m _ _ (by simpa using hj)))) ?_
 refine qI rfl (zH (vs := [(.agg [(vJ t), (vJ z)].toArray)]) Tryz.func56 nm56 rfl rfl rfl ?_)
 refine Calls.mono (l2Good_spec (t := t) (z := z) f.pins) ?_
 rintro _ a5 ⟨a6, rfl, g⟩
 refine ⟨_, rfl, ?_⟩
 have a := f.tr g
 have p := ah.ext g
 refine qD rfl (qF rfl) ?_
 refine qe (zA ?_)
 refine c_ifn rfl rfl (fun i => ?_) (fun i => ?_)
 ·skip
  refine wp_skip ?_
  refine zA (zB (zC ?_))
  have hgd := decP_true.1 i
  refine qD rfl (yC (cs := [(vJ t), (vJ z)]) ag34 sz34 rfl (fun j u hj => (Pins.of_le a.pins g.le) _ _ _ (m _ _ (by simpa using hj)))) ?_
  refine qI rfl (zH (vs := [(.agg [(vJ t), (vJ z)].toArray)]) Tryz.func58 nm58 rfl rfl rfl ?_)
  refine Calls.mono (l7Form_spec (t := t) (z := z) a.pins hgd) ?_
  rintro _ a7 ⟨ak, a8, rfl, al, q⟩
  refine ⟨_, rfl, ?_⟩
  have r := a.tr q
  have am := p.ext q
  refine qI rfl (zH (vs := [(.agg [ak].toArray)]) Tryz.func57 nm57 rfl rfl rfl ?_)
  refine Calls.mono (l3If_spec r.pins al) ?_
  rintro _ a9 ⟨b, ba, rfl, s, x⟩
  refine ⟨_, rfl, ?_⟩
  have y := r.tr x
  have an := am.ext x
  refine qD rfl (zT (v := (.agg [b].toArray)) rfl rfl) ?_
  refine qD rfl (zT (v := (.bool (decP (FitsP (l7F (z).toNat t))))) rfl rfl) ?_
  refine q0 rfl rfl rfl (yP (cs' := [b]) (us := [b]) (v := (.agg [b].toArray)) sz32 rfl rfl rfl (yE s.one) y.pins an (Nat.le_of_ble_eq_true rfl) rfl (fun bb ao ap aq bc => ?_))
  have ar := y.write ap aq ((zX o))
  refine qM (.bool (decP (FitsP (l7F (z).toNat t)))) ?_
  refine qe (zA ?_)
  refine wp_ret ?_
  refine zO ?_
  refine xO (cs := [b]) (v := (.bool (decP (FitsP (l7F (z).toNat t))))) rfl rfl rfl rfl rfl ag32 sz32 (fun j u hj => by rw [Nat.zero_add]; exact ao.cell hj) ?_
  obtain ⟨k, l⟩ := nm_l7 hgd
  rw [k, l]
  exact ⟨_, _, rfl, s, ar⟩
 refine zB (zC ?_)
 refine qD rfl (yU [(.slice none 0 0)] [(.slice none 0 0)] [] Tryz.underlying32 zr32 rfl pl32 rfl (fun _ h => by cases h) rfl) ?_
 refine q0 rfl rfl rfl (yP (cs' := [(.slice none 0 0)]) (us := [(.slice none 0 0)]) (v := (.agg [(.slice none 0 0)].toArray)) sz32 rfl rfl rfl (yE (by rfl)) a.pins p (Nat.le_of_ble_eq_true rfl) rfl (fun bd au av aw be => ?_))
 have ax := a.write av aw ((zX o))
 refine qM (.bool false) ?_
 refine qe (zA ?_)
 refine wp_ret ?_
 refine zO ?_
 refine xO (cs := [(.slice none 0 0)]) (v := (.bool false)) rfl rfl rfl rfl rfl ag32 sz32 (fun j u hj => by rw [Nat.zero_add]; exact au.cell hj) ?_
 obtain ⟨k, l⟩ := nm_bad (decP_false.1 i)
 rw [k, l]
 exact ⟨_, _, rfl, (xG _ _), ax⟩

end NB6
end Go.Proofs.YtfnginkcmcfdfaaGreatDoor

set_option maxRecDepth 20000
set_option maxHeartbeats 2000000
namespace Go.Proofs.YtfnginkcmcfdfaaGreatDoor
namespace VB1
open Go.RowKit Go.GL Go.Proofs
open Go.Proofs.YtfnginkcmcfdfaaGreatDoor.B1
open Go.Proofs.YtfnginkcmcfdfaaGreatDoor.C1
open Go.Proofs.YtfnginkcmcfdfaaGreatDoor.D1
open Go.Proofs.YtfnginkcmcfdfaaGreatDoor.E1
open Go.Proofs.YtfnginkcmcfdfaaGreatDoor.NU1
open Go.Proofs.YtfnginkcmcfdfaaGreatDoor.NU3
open Go.Proofs.YtfnginkcmcfdfaaGreatDoor.NB4



theorem l2Less_spec {w : World} {G : Pin} {t z s y : Int} (hP : Pins G w) (ht : -10000000 ≤ t ∧ t ≤ 10000000) (hz : 0 ≤ z ∧ z ≤ 24) (hs : -10000000 ≤ s ∧ s ≤ 10000000) (hy : 0 ≤ y ∧ y ≤ 24) :
  Calls Tryz.prog 77 [(.agg [(.int .i64 t), (.int .i64 z)].toArray), (.agg [(.int .i64 s), (.int .i64 y)].toArray)].toArray w fun e w' => ∃ G', e = .returned (.bool (decide (scI 24 t z < scI 24 s y))) ∧ Ext noS G w G' w' := by
 refine zV (n := 10) Tryz.func77 Tryz.ntmps77 rfl rfl ?_
 have f : Ext noS G w G w := Ext.refl hP
 refine zB (zC ?_)
 refine qI rfl (xI [(.int .i64 t), (.int .i64 z)] (v := (.agg [(.int .i64 t), (.int .i64 z)].toArray)) rfl rfl f.pins (fun o w2 an p q r => ?_))
 have x := f.step q r
 have aa : w.heap.size ≤ o := by have := f.size; omega
 obtain ⟨G9, ap, g, ab, aq⟩ := p.shut x aa
 refine qI rfl (xI [(.int .i64 s), (.int .i64 y)] (v := (.agg [(.int .i64 s), (.int .i64 y)].toArray)) rfl rfl g.pins (fun ac h ar ad ae af => ?_))
 have ag := g.step ae af
 have ah : w.heap.size ≤ ac := by have := g.size; omega
 obtain ⟨ai, aj, l, ak, au⟩ := ad.shut ag ah
 refine qM (.bool false) ?_
 refine qe (zA (zB ?_))
 refine xF (S := fun wz => Pins ai wz) (last := 6) (by kernel_rfl) rfl ?_
 have m : Below h.heap.size h h.drew := (Below.refl _ _).drew
 have al := l.pins.below m
 have b := l.step al m
 refine dT (i := 0) rfl rfl (by kernel_rfl) (fun _ hS => yC (cs := [(.int .i64 t), (.int .i64 z)]) ag34 sz34 rfl (fun j u hj => (Pins.of_le hS aj) _ _ _ (ab _ _ (by simpa using hj)))) b.pins ?_
 refine dT (i := 2) rfl rfl (by kernel_rfl) (fun _ hS => yC (cs := [(.int .i64 s), (.int .i64 y)]) ag34 sz34 rfl (fun j u hj => hS _ _ _ (ak _ _ (by simpa using hj)))) b.pins ?_
 refine dO (i := 1) (zK (i := 1) rfl rfl rfl (zD rfl _) (zH (vs := [(.agg [(.int .i64 t), (.int .i64 z)].toArray)]) Tryz.func128 nm128 rfl rfl rfl ?_))
 refine Calls.mono (qK (t := t) (z := z) b.pins (by omega) (by omega)) ?_
 rintro _ av ⟨aw, rfl, a⟩
 refine ⟨_, rfl, ?_⟩
 have k := b.tr a
 refine ⟨fun _ => (Pins.of_le k.pins a.le), ?_⟩
 refine dO (i := 3) (zK (i := 3) rfl rfl rfl (zD rfl _) (zH (vs := [(.agg [(.int .i64 s), (.int .i64 y)].toArray)]) Tryz.func128 nm128 rfl rfl rfl ?_))
 refine Calls.mono (qK (t := s) (z := y) k.pins (by omega) (by omega)) ?_
 rintro _ ax ⟨ay, rfl, c⟩
 refine ⟨_, rfl, ?_⟩
 have d := k.tr c
 refine ⟨fun _ => (Pins.of_le d.pins (Pin.le_trans a.le c.le)), ?_⟩
 refine dT (i := 4) rfl rfl (by kernel_rfl) (fun _ _ => yR rfl rfl) (Pins.of_le d.pins (Pin.le_trans a.le c.le)) ?_
 refine dM 5 (.bool (decide ((scI 24 t z : Int) < (scI 24 s y)))) (Pins.of_le d.pins (Pin.le_trans a.le c.le)) ?_
 refine yH (by kernel_rfl) ?_
 refine zA ?_
 refine wp_ret ?_
 refine zO ?_
 refine zP (v := (.bool (decide ((scI 24 t z : Int) < (scI 24 s y))))) rfl rfl rfl ?_
 exact ⟨_, rfl, d⟩

end VB1
end Go.Proofs.YtfnginkcmcfdfaaGreatDoor

set_option maxRecDepth 20000
set_option maxHeartbeats 2000000
namespace Go.Proofs.YtfnginkcmcfdfaaGreatDoor
namespace SW2
open Go.RowKit Go.GL Go.Proofs
open Go.Proofs.YtfnginkcmcfdfaaGreatDoor.B1
open Go.Proofs.YtfnginkcmcfdfaaGreatDoor.C1
open Go.Proofs.YtfnginkcmcfdfaaGreatDoor.D1
open Go.Proofs.YtfnginkcmcfdfaaGreatDoor.E1
open Go.Proofs.YtfnginkcmcfdfaaGreatDoor.K1
open Go.Proofs.YtfnginkcmcfdfaaGreatDoor.PO1
open Go.Proofs.YtfnginkcmcfdfaaGreatDoor.PL1
open Go.Proofs.YtfnginkcmcfdfaaGreatDoor.PA1
open Go.Proofs.YtfnginkcmcfdfaaGreatDoor.SO1
open Go.Proofs.YtfnginkcmcfdfaaGreatDoor.OD1
open Go.Proofs.YtfnginkcmcfdfaaGreatDoor.FO1
open Go.Proofs.YtfnginkcmcfdfaaGreatDoor.NG1
open Go.Proofs.YtfnginkcmcfdfaaGreatDoor.NF1
open Go.Proofs.YtfnginkcmcfdfaaGreatDoor.SM1
open Go.Proofs.YtfnginkcmcfdfaaGreatDoor.MK1
open Go.Proofs.YtfnginkcmcfdfaaGreatDoor.NB6
open Go.Proofs.YtfnginkcmcfdfaaGreatDoor.VB1






theorem pl32 : (Tryz.prog.underlying 32).bind (placesD Tryz.prog) = some [(0, 1)] := by kernel_rfl



theorem qA {w : World} {G : Pin} {t z s y : Int} (hP : Pins G w) :
  Calls Tryz.prog 38 [(.agg [(vJ t), (vJ z)].toArray), (.agg [(vJ s), (vJ y)].toArray)].toArray w fun e w' => ∃ (u : Value) (G' : Pin), e = .returned (.tuple #[(.agg [u].toArray), .bool (swB t z s y)]) ∧ RSl eNode G' u (swF t z s y) ∧ Ext noS G w G' w' := by
 refine zV (n := 40) Tryz.func38 Tryz.ntmps38 rfl rfl ?_
 have af : Ext noS G w G w := Ext.refl hP
 refine zB (zC ?_)
 refine qI rfl (xI [(vJ t), (vJ z)] (v := (.agg [(vJ t), (vJ z)].toArray)) rfl rfl af.pins (fun b1 w2 d5 bu bv bw => ?_))
 have bx := af.step bv bw
 have bz : w.heap.size ≤ b1 := by have := af.size; omega
 obtain ⟨G9, d7, ag, aw, d8⟩ := bu.shut bx bz
 refine qI rfl (xI [(vJ s), (vJ y)] (v := (.agg [(vJ s), (vJ y)].toArray)) rfl rfl ag.pins (fun b0 d9 ea b2 b3 b4 => ?_))
 have b5 := ag.step b3 b4
 have b6 : w.heap.size ≤ b0 := by have := ag.size; omega
 obtain ⟨eb, ax, ah, ay, ec⟩ := b2.shut b5 b6
 refine qI rfl (yJ [(.slice none 0 0)] zr32 rfl ah.pins (fun m ed ee b7 b8 b9 => ?_))
 have ai := ah.step b8 b9
 have aa : w.heap.size ≤ m := by have := ah.size; omega
 refine qM (.bool false) ?_
 refine qe (zA (zB (zC ?_)))
 refine qD rfl (yC (cs := [(vJ t), (vJ z)]) ag34 sz34 rfl (fun j u hj => (Pins.of_le ai.pins ax) _ _ _ (aw _ _ (by simpa using hj)))) ?_
 refine qI rfl (zH (vs := [(.agg [(vJ t), (vJ z)].toArray)]) Tryz.func21 nm21 rfl rfl rfl ?_)
 refine Calls.mono (sNumberForm_spec (t := t) (z := z) ai.pins) ?_
 rintro _ ef ⟨b, eg, rfl, az, o⟩
 refine ⟨_, rfl, ?_⟩
 have aj := ai.tr o
 have a0 := b7.ext o
 refine qM (.tuple #[(.agg [b].toArray), (.bool (nmB t z))]) ?_
 refine qD rfl (zT (v := (.agg [b].toArray)) rfl rfl) ?_
 refine qD rfl (zT (v := (.bool (nmB t z))) rfl rfl) ?_
 refine qI rfl (yJ [(.slice none 0 0)] zr32 rfl aj.pins (fun a1 eh ca cb cc a2 => ?_))
 have a3 := aj.step cc a2
 have cd := a0.below a2
 have a4 : Apart (some a1) (some m) := zI (congrArg some ca) a0.lt
 have a5 : w.heap.size ≤ a1 := by have := aj.size; omega
 refine q0 rfl rfl rfl (yP (cs' := [b]) (us := [b]) (v := (.agg [b].toArray)) sz32 rfl rfl rfl (yE az.one) a3.pins cb (Nat.le_of_ble_eq_true rfl) rfl (fun ei ce cf a6 ej => ?_))
 have cg := a3.write cf a6 ((zX a5))
 have ch := cd.keptA a6 a4.symm
 obtain ⟨ek, ab, ak, ci, cj⟩ := ce.shut cg a5
 have ck := ch.moreA cj a4.symm
 refine qM (.bool (nmB t z)) ?_
 refine qe (zA (zB (zC ?_)))
 refine qD rfl (yC (cs := [(vJ s), (vJ y)]) ag34 sz34 rfl (fun j u hj => (Pins.of_le ak.pins (Pin.le_trans o.le ab)) _ _ _ (ay _ _ (by simpa using hj)))) ?_
 refine qI rfl (zH (vs := [(.agg [(vJ s), (vJ y)].toArray)]) Tryz.func21 nm21 rfl rfl rfl ?_)
 refine Calls.mono (sNumberForm_spec (t := s) (z := y) ak.pins) ?_
 rintro _ el ⟨c, em, rfl, a7, i⟩
 refine ⟨_, rfl, ?_⟩
 have al := ak.tr i
 have a8 := ck.ext i
 refine qM (.tuple #[(.agg [c].toArray), (.bool (nmB s y))]) ?_
 refine qD rfl (zT (v := (.agg [c].toArray)) rfl rfl) ?_
 refine qD rfl (zT (v := (.bool (nmB s y))) rfl rfl) ?_
 refine qI rfl (yJ [(.slice none 0 0)] zr32 rfl al.pins (fun a9 en cl cm cn ba => ?_))
 have bb := al.step cn ba
 have co := a8.below ba
 have bc : Apart (some a9) (some m) := zI (congrArg some cl) a8.lt
 have bd : w.heap.size ≤ a9 := by have := al.size; omega
 refine q0 rfl rfl rfl (yP (cs' := [c]) (us := [c]) (v := (.agg [c].toArray)) sz32 rfl rfl rfl (yE a7.one) bb.pins cm (Nat.le_of_ble_eq_true rfl) rfl (fun eo cp cq be ep => ?_))
 have cr := bb.write cq be ((zX bd))
 have ct := co.keptA be bc.symm
 obtain ⟨eq, q, a, cu, cv⟩ := cp.shut cr bd
 have am := ct.moreA cv bc.symm
 refine qM (.bool (nmB s y)) ?_
 refine qe (zA (zB (zB (zC ?_))))
 refine qM (.bool (nmB t z)) ?_
 refine qD rfl (qF rfl) ?_
 refine qM (.bool (!(nmB t z))) ?_
 refine qbn (t := 22) rfl (fun an => ?_) (fun an => ?_)
 ·skip
  refine qN (zU (v := (.bool (nmB s y))) rfl) ?_
  refine qN (qF rfl) ?_
  refine qD rfl (yI (v := (.bool (!(nmB s y)))) rfl rfl) ?_
  refine qM (.bool (!(nmB s y))) ?_
  refine qbn (t := 26) rfl (fun ao => ?_) (fun ao => ?_)
  ·skip
   have ap := an
   have aq := ao
   have bf := (nm_num ap).1
   have bg := (nm_num aq).1
   have h1t := bf.top
   have h1p := bf.pow
   have h2t := bg.top
   have h2p := bg.pow
   refine qN (yC (cs := [(vJ t), (vJ z)]) ag34 sz34 rfl (fun j u hj => (Pins.of_le a.pins (Pin.le_trans (Pin.le_trans (Pin.le_trans (Pin.le_trans ax o.le) ab) i.le) q)) _ _ _ (aw _ _ (by simpa using hj)))) ?_
   refine qN (yC (cs := [(vJ s), (vJ y)]) ag34 sz34 rfl (fun j u hj => (Pins.of_le a.pins (Pin.le_trans (Pin.le_trans (Pin.le_trans o.le ab) i.le) q)) _ _ _ (ay _ _ (by simpa using hj)))) ?_
   refine q1g rfl rfl rfl rfl rfl rfl (zH (vs := [(.agg [(vJ t), (vJ z)].toArray), (.agg [(vJ s), (vJ y)].toArray)]) Tryz.func77 nm77 rfl rfl rfl ?_)
   refine Calls.mono (l2Less_spec (t := t) (z := z) (s := s) (y := y) a.pins (by omega) (by omega) (by omega) (by omega)) ?_
   rintro _ er ⟨bh, rfl, k⟩
   refine ⟨_, rfl, ?_⟩
   have l := a.tr k
   have ar := am.ext k
   refine qD rfl (yI (v := (.bool (decide (scI 24 t z < scI 24 s y)))) rfl rfl) ?_
   refine qe (zA ?_)
   refine zY (p := scI 24 t z < scI 24 s y) rfl rfl (fun au => ?_) (fun au => ?_)
   ·skip
    refine zB (zC ?_)
    refine qD rfl (yU [(.slice none 0 0)] [(.slice none 0 0)] [] Tryz.underlying32 zr32 rfl pl32 rfl (fun _ h => by cases h) rfl) ?_
    refine q0 rfl rfl rfl (yP (cs' := [(.slice none 0 0)]) (us := [(.slice none 0 0)]) (v := (.agg [(.slice none 0 0)].toArray)) sz32 rfl rfl rfl (yE (by rfl)) l.pins ar (Nat.le_of_ble_eq_true rfl) rfl (fun es cw cx cy et => ?_))
    have cz := l.write cx cy ((zX aa))
    refine qM (.bool false) ?_
    refine qe (zA ?_)
    refine wp_ret ?_
    refine zO ?_
    refine xO (cs := [(.slice none 0 0)]) (v := (.bool false)) rfl rfl rfl rfl rfl ag32 sz32 (fun j u hj => by rw [Nat.zero_add]; exact cw.cell hj) ?_
    obtain ⟨d, f⟩ := sw_no (t := t) (z := z) (s := s) (y := y) (fun g => g.2.2 au)
    rw [d, f]
    exact ⟨_, _, rfl, (xG _ _), cz⟩
   refine wp_skip ?_
   refine zA (zB (zC ?_))
   refine qD rfl (yC (cs := [b]) ag32 sz32 rfl (fun j u hj => (Pins.of_le l.pins (Pin.le_trans (Pin.le_trans i.le q) k.le)) _ _ _ (ci _ _ (by simpa using hj)))) ?_
   refine qI rfl (o_build1 (E := (eSl eNode)) (e := 32) [b] (nmF t z) Tryz.underlying79 sz32 zr32 ⟨_, rfl, (az.mono (Pin.le_trans (Pin.le_trans (Pin.le_trans ab i.le) q) k.le))⟩ rfl (by decide) l.pins (fun ac c0 c1 c2 bi c3 => ?_))
   have ad := l.step c2 bi
   have bj := ar.below bi
   have c4 : Apart ac.ownBlock (some m) := zI c3 ar.lt
   have bk : Own (eSl eNode) 32 bh c0 w.heap.size ac ([nmF t z]) := c1.weaken l.size
   refine qD rfl (yC (cs := [c]) ag32 sz32 rfl (fun j u hj => (Pins.of_le ad.pins k.le) _ _ _ (cu _ _ (by simpa using hj)))) ?_
   refine qI rfl (o_build1 (E := (eSl eNode)) (e := 32) [c] (nmF s y) Tryz.underlying79 sz32 zr32 ⟨_, rfl, (a7.mono (Pin.le_trans q k.le))⟩ rfl (by decide) ad.pins (fun ae c5 c6 c7 av bl => ?_))
   have c8 := ad.step c7 av
   have c9 := bk.below av
   have da := bj.below av
   have db : Apart ae.ownBlock ac.ownBlock := zG bl bk.lt
   have dc : Apart ae.ownBlock (some m) := zI bl bj.lt
   have dd : Own (eSl eNode) 32 bh c5 w.heap.size ae ([nmF s y]) := c6.weaken ad.size
   obtain ⟨eu, de, df, dg, bm⟩ := c9.sealed c8
   have dh := dd.moreO de bm db
   have di := da.moreO bm c4.symm
   obtain ⟨ev, dj, bn, dk, dl⟩ := dh.sealed df
   have dm := di.moreO dl dc.symm
   refine qI rfl (zH (vs := [ac, ae]) Tryz.func63 nm63 rfl rfl rfl ?_)
   refine Calls.mono (l3Make_spec bn.pins (dg.mono dj) dk (nmF_w ap) (nmF_w aq)) ?_
   rintro _ ew ⟨dn, ex, rfl, dp, bo⟩
   refine ⟨_, rfl, ?_⟩
   have bp := bn.tr bo
   have dq := dm.ext bo
   refine qI rfl (zH (vs := [(.agg [dn].toArray)]) Tryz.func57 nm57 rfl rfl rfl ?_)
   refine Calls.mono (l3If_spec bp.pins dp) ?_
   rintro _ ey ⟨r, ez, rfl, bq, br⟩
   refine ⟨_, rfl, ?_⟩
   have bs := bp.tr br
   have dr := dq.ext br
   refine qD rfl (zT (v := (.agg [r].toArray)) rfl rfl) ?_
   refine qD rfl (zT (v := (.bool (decP (FitsP (formG (mkGm ([nmF t z]) ([nmF s y]))))))) rfl rfl) ?_
   refine q0 rfl rfl rfl (yP (cs' := [r]) (us := [r]) (v := (.agg [r].toArray)) sz32 rfl rfl rfl (yE bq.one) bs.pins dr (Nat.le_of_ble_eq_true rfl) rfl (fun e0 ds dt du e3 => ?_))
   have dv := bs.write dt du ((zX aa))
   refine qM (.bool (decP (FitsP (formG (mkGm ([nmF t z]) ([nmF s y])))))) ?_
   refine qe (zA ?_)
   refine wp_ret ?_
   refine zO ?_
   refine xO (cs := [r]) (v := (.bool (decP (FitsP (formG (mkGm ([nmF t z]) ([nmF s y]))))))) rfl rfl rfl rfl rfl ag32 sz32 (fun j u hj => by rw [Nat.zero_add]; exact ds.cell hj) ?_
   obtain ⟨d, f⟩ := sw_yes (t := t) (z := z) (s := s) (y := y) ⟨ap, aq, au⟩
   rw [d, f]
   exact ⟨_, _, rfl, bq, dv⟩
  refine qW ?_
  refine qW ?_
  refine qW ?_
  refine qD rfl (yW (v := (.bool true)) rfl rfl) ?_
  refine qe (zA ?_)
  refine c_ifT rfl rfl ?_
  refine zB (zC ?_)
  refine qD rfl (yU [(.slice none 0 0)] [(.slice none 0 0)] [] Tryz.underlying32 zr32 rfl pl32 rfl (fun _ h => by cases h) rfl) ?_
  refine q0 rfl rfl rfl (yP (cs' := [(.slice none 0 0)]) (us := [(.slice none 0 0)]) (v := (.agg [(.slice none 0 0)].toArray)) sz32 rfl rfl rfl (yE (by rfl)) a.pins am (Nat.le_of_ble_eq_true rfl) rfl (fun e4 dw dx dy e5 => ?_))
  have dz := a.write dx dy ((zX aa))
  refine qM (.bool false) ?_
  refine qe (zA ?_)
  refine wp_ret ?_
  refine zO ?_
  refine xO (cs := [(.slice none 0 0)]) (v := (.bool false)) rfl rfl rfl rfl rfl ag32 sz32 (fun j u hj => by rw [Nat.zero_add]; exact dw.cell hj) ?_
  obtain ⟨d, f⟩ := sw_no (t := t) (z := z) (s := s) (y := y) (fun g => by have x := g.2.1; rw [ao] at x; cases x)
  rw [d, f]
  exact ⟨_, _, rfl, (xG _ _), dz⟩
 refine qW ?_
 refine qW ?_
 refine qD rfl (yW (v := (.bool true)) rfl rfl) ?_
 refine qM (.bool true) ?_
 refine qW ?_
 refine qW ?_
 refine qW ?_
 refine qD rfl (yW (v := (.bool true)) rfl rfl) ?_
 refine qe (zA ?_)
 refine c_ifT rfl rfl ?_
 refine zB (zC ?_)
 refine qD rfl (yU [(.slice none 0 0)] [(.slice none 0 0)] [] Tryz.underlying32 zr32 rfl pl32 rfl (fun _ h => by cases h) rfl) ?_
 refine q0 rfl rfl rfl (yP (cs' := [(.slice none 0 0)]) (us := [(.slice none 0 0)]) (v := (.agg [(.slice none 0 0)].toArray)) sz32 rfl rfl rfl (yE (by rfl)) a.pins am (Nat.le_of_ble_eq_true rfl) rfl (fun e6 d0 d1 d2 e7 => ?_))
 have d3 := a.write d1 d2 ((zX aa))
 refine qM (.bool false) ?_
 refine qe (zA ?_)
 refine wp_ret ?_
 refine zO ?_
 refine xO (cs := [(.slice none 0 0)]) (v := (.bool false)) rfl rfl rfl rfl rfl ag32 sz32 (fun j u hj => by rw [Nat.zero_add]; exact d0.cell hj) ?_
 obtain ⟨d, f⟩ := sw_no (t := t) (z := z) (s := s) (y := y) (fun g => by have x := g.1; rw [an] at x; cases x)
 rw [d, f]
 exact ⟨_, _, rfl, (xG _ _), d3⟩

end SW2
end Go.Proofs.YtfnginkcmcfdfaaGreatDoor

set_option maxRecDepth 20000
set_option maxHeartbeats 2000000
namespace Go.Proofs.YtfnginkcmcfdfaaGreatDoor
namespace NU2
open Go.RowKit Go.GL Go.Proofs
open Go.Proofs.YtfnginkcmcfdfaaGreatDoor.B1
open Go.Proofs.YtfnginkcmcfdfaaGreatDoor.C1
open Go.Proofs.YtfnginkcmcfdfaaGreatDoor.D1
open Go.Proofs.YtfnginkcmcfdfaaGreatDoor.E1
open Go.Proofs.YtfnginkcmcfdfaaGreatDoor.K1
open Go.Proofs.YtfnginkcmcfdfaaGreatDoor.PO1
open Go.Proofs.YtfnginkcmcfdfaaGreatDoor.PL1
open Go.Proofs.YtfnginkcmcfdfaaGreatDoor.NU1


theorem pl34 : (Tryz.prog.underlying 34).bind (placesD Tryz.prog) = some [(0, 1), (1, 1)] := by kernel_rfl


theorem lowest_spec {w : World} {G : Pin} {t : Int} {p : Nat} (hP : Pins G w) (hb : -1000000000000000 ≤ t ∧ t ≤ 1000000000000000) (hp : p ≤ 64) :
  Calls Tryz.prog 122 [(vJ t), (vJ (p : Int))].toArray w fun e w' => ∃ G', e = .returned (.tuple #[(.agg [.int .i64 (lowR (decP (GoodD (lowD p t).1 (((lowD p t).2 : Nat) : Int))) (lowD p t).1), .int .i64 (lowR (decP (GoodD (lowD p t).1 (((lowD p t).2 : Nat) : Int))) (((lowD p t).2 : Nat) : Int))].toArray), .bool (decP (GoodD (lowD p t).1 (((lowD p t).2 : Nat) : Int)))]) ∧ Ext noS G w G' w' := by
 refine zV (n := 26) Tryz.func122 Tryz.ntmps122 rfl rfl ?_
 have r : Ext noS G w G w := Ext.refl hP
 refine zB (zC ?_)
 refine qI rfl (yJ [(vJ 0), (vJ 0)] zr34 rfl r.pins (fun f w2 b4 aw ax ay => ?_))
 have az := r.step ax ay
 have q : w.heap.size ≤ f := by have := r.size; omega
 refine qM (.bool false) ?_
 refine qe (zA (zB ?_))
 refine zZ ?_
 refine yT (fun (k : Nat) (en : Nat → Value) (W : World) => ∃ (ad : Nat → Value) (a : Int) (zp : Int) (g : Pin), en = (upd (upd (upd (upd ad 0 (vJ a)) 1 (vJ zp)) 4 (.pointer (some ⟨f, 0, none⟩))) 5 (.bool false)) ∧ k = zp.toNat ∧ Ext noS G w g W ∧ Pin.le G g ∧ (lowD p t = lowD zp.toNat a) ∧ (0 ≤ zp ∧ zp ≤ 64) ∧ (-1000000000000000 ≤ a ∧ a ≤ 1000000000000000) ∧ (Bx g W f [(vJ 0), (vJ 0)])) _ ⟨_, t, (p : Int), G, (pS 5 (pS 4 (pS 1 (pU 0)))), rfl, az, Pin.le_refl _, (by rw [Int.toNat_natCast]), (by omega), hb, aw⟩ ?_
 rintro k9 _ b6 ⟨ad, a, zp, g, rfl, b7, b, a0, hr, hz, hab, i⟩
 refine zB (zB (zC ?_))
 refine qM (vJ zp) ?_
 refine qD rfl (r_gtr rfl rfl) ?_
 refine qM (.bool (decide ((0 : Int) < zp))) ?_
 refine qbd (p := (0 : Int) < zp) (t := 9) rfl (fun l => ?_) (fun l => ?_)
 ·skip
  refine qN (zU (v := (vJ a)) rfl) ?_
  refine qN (r_rem2 rfl rfl) ?_
  refine qN (r_eql rfl rfl) ?_
  refine qD rfl (yW (v := (.bool (decide ((a.tmod 2 : Int) = 0)))) rfl rfl) ?_
  refine qe (zA ?_)
  refine zY (p := (a.tmod 2 : Int) = 0) rfl rfl (fun c => ?_) (fun c => ?_)
  ·skip
   refine wp_skip ?_
   refine zA ?_
   refine zZ ?_
   refine zB (zC ?_)
   refine qM (vJ a) ?_
   refine qD rfl (r_quo2 rfl rfl ((tmod2 _).1 c) (by omega)) ?_
   refine qM (vJ (a / 2)) ?_
   refine qe (zA (zC ?_))
   refine qM (vJ zp) ?_
   refine qD rfl (r_sub rfl rfl (by omega)) ?_
   refine qM (vJ (zp - 1)) ?_
   refine qe ?_
   refine yL ?_
   refine yN ?_
   refine ⟨_, ?_, _, rfl, _, a / 2, zp - 1, g, (pS 5 (pS 4 (pS 1 (pU 0)))), rfl, b, a0, (hr.trans (low_even (by omega) c)), (by omega), (by omega), i⟩
   omega
  refine wp_exit ?_
  refine yB ?_
  refine yO ?_
  refine yM ?_
  refine zA (zB (zC ?_))
  refine qM (vJ a) ?_
  refine qM (vJ zp) ?_
  refine qD rfl (yU [(vJ 0), (vJ 0)] [(vJ a), (vJ zp)] [(0, (vJ a), [(vJ a)]), (1, (vJ zp), [(vJ zp)])] Tryz.underlying34 zr34 rfl pl34 rfl (List.forall_mem_cons.2 ⟨rfl, (List.forall_mem_cons.2 ⟨rfl, (fun _ h => by cases h)⟩)⟩) rfl) ?_
  refine qI rfl (yJ [(vJ 0), (vJ 0)] zr34 rfl b.pins (fun ae b8 a1 a2 a3 af => ?_))
  have ag := b.step a3 af
  have a4 := i.below af
  have ah : Apart (some ae) (some f) := zI (congrArg some a1) i.lt
  have ai : w.heap.size ≤ ae := by have := b.size; omega
  refine q0 rfl rfl rfl (yP (cs' := [(vJ a), (vJ zp)]) (us := [(vJ a), (vJ zp)]) (v := (.agg [(vJ a), (vJ zp)].toArray)) sz34 rfl rfl rfl (qH (by rfl) (by rfl)) ag.pins a2 (Nat.le_of_ble_eq_true rfl) rfl (fun b9 a5 a6 aj ca => ?_))
  have a7 := ag.write a6 aj ((zX ai))
  have a8 := a4.keptA aj ah.symm
  obtain ⟨cb, cc, s, ak, a9⟩ := a5.shut a7 ai
  have ba := a8.moreA a9 ah.symm
  refine qe (zA (zB (zB (zC ?_))))
  refine qD rfl (yC (cs := [(vJ a), (vJ zp)]) ag34 sz34 rfl (fun j u hj => s.pins _ _ _ (ak _ _ (by simpa using hj)))) ?_
  refine qI rfl (zH (vs := [(.agg [(vJ a), (vJ zp)].toArray)]) Tryz.func101 nm101 rfl rfl rfl ?_)
  refine Calls.mono (xW (t := a) (z := zp) s.pins) ?_
  rintro _ cd ⟨ce, rfl, x⟩
  refine ⟨_, rfl, ?_⟩
  have m := s.tr x
  have al := ba.ext x
  refine qD rfl (qF rfl) ?_
  refine qe (zA ?_)
  refine c_ifn rfl rfl (fun y => ?_) (fun y => ?_)
  ·skip
   refine wp_skip ?_
   refine zA (zB (zC ?_))
   refine qD rfl (yC (cs := [(vJ a), (vJ zp)]) ag34 sz34 rfl (fun j u hj => (Pins.of_le m.pins x.le) _ _ _ (ak _ _ (by simpa using hj)))) ?_
   refine q0 rfl rfl rfl (yP (cs' := [(vJ a), (vJ zp)]) (us := [(vJ a), (vJ zp)]) (v := (.agg [(vJ a), (vJ zp)].toArray)) sz34 rfl rfl rfl (qH (by rfl) (by rfl)) m.pins al (Nat.le_of_ble_eq_true rfl) rfl (fun cf bb bc bd cg => ?_))
   have be := m.write bc bd ((zX q))
   refine qM (.bool true) ?_
   refine qe (zA ?_)
   refine wp_ret ?_
   refine zO ?_
   refine xO (cs := [(vJ a), (vJ zp)]) (v := (.bool true)) rfl rfl rfl rfl rfl ag34 sz34 (fun j u hj => by rw [Nat.zero_add]; exact bb.cell hj) ?_
   have hst := hr.trans (low_stop hz.1 (by first | exact Or.inl c | exact Or.inr c))
   have d : ((zp.toNat : Nat) : Int) = zp := Int.toNat_of_nonneg hz.1
   rw [hst]
   simp only [d]
   exact ⟨_, by rw [y]; rfl, be⟩
  refine zB (zC ?_)
  refine qD rfl (yU [(vJ 0), (vJ 0)] [(vJ 0), (vJ 0)] [] Tryz.underlying34 zr34 rfl pl34 rfl (fun _ h => by cases h) rfl) ?_
  refine q0 rfl rfl rfl (yP (cs' := [(vJ 0), (vJ 0)]) (us := [(vJ 0), (vJ 0)]) (v := (.agg [(vJ 0), (vJ 0)].toArray)) sz34 rfl rfl rfl (qH (by rfl) (by rfl)) m.pins al (Nat.le_of_ble_eq_true rfl) rfl (fun ch bf bg bh ci => ?_))
  have bi := m.write bg bh ((zX q))
  refine qM (.bool false) ?_
  refine qe (zA ?_)
  refine wp_ret ?_
  refine zO ?_
  refine xO (cs := [(vJ 0), (vJ 0)]) (v := (.bool false)) rfl rfl rfl rfl rfl ag34 sz34 (fun j u hj => by rw [Nat.zero_add]; exact bf.cell hj) ?_
  have hst := hr.trans (low_stop hz.1 (by first | exact Or.inl c | exact Or.inr c))
  have d : ((zp.toNat : Nat) : Int) = zp := Int.toNat_of_nonneg hz.1
  rw [hst]
  simp only [d]
  exact ⟨_, by rw [y]; rfl, bi⟩
 refine qW ?_
 refine qW ?_
 refine qW ?_
 refine qD rfl (yI (v := (.bool false)) rfl rfl) ?_
 refine qe (zA ?_)
 refine qO rfl rfl ?_
 refine wp_exit ?_
 refine yB ?_
 refine yO ?_
 refine yM ?_
 refine zA (zB (zC ?_))
 refine qM (vJ a) ?_
 refine qM (vJ zp) ?_
 refine qD rfl (yU [(vJ 0), (vJ 0)] [(vJ a), (vJ zp)] [(0, (vJ a), [(vJ a)]), (1, (vJ zp), [(vJ zp)])] Tryz.underlying34 zr34 rfl pl34 rfl (List.forall_mem_cons.2 ⟨rfl, (List.forall_mem_cons.2 ⟨rfl, (fun _ h => by cases h)⟩)⟩) rfl) ?_
 refine qI rfl (yJ [(vJ 0), (vJ 0)] zr34 rfl b.pins (fun am cj bj bk bl an => ?_))
 have ao := b.step bl an
 have bm := i.below an
 have ap : Apart (some am) (some f) := zI (congrArg some bj) i.lt
 have aq : w.heap.size ≤ am := by have := b.size; omega
 refine q0 rfl rfl rfl (yP (cs' := [(vJ a), (vJ zp)]) (us := [(vJ a), (vJ zp)]) (v := (.agg [(vJ a), (vJ zp)].toArray)) sz34 rfl rfl rfl (qH (by rfl) (by rfl)) ao.pins bk (Nat.le_of_ble_eq_true rfl) rfl (fun ck bn bo ar cl => ?_))
 have bp := ao.write bo ar ((zX aq))
 have bq := bm.keptA ar ap.symm
 obtain ⟨cm, cn, aa, au, br⟩ := bn.shut bp aq
 have bs := bq.moreA br ap.symm
 refine qe (zA (zB (zB (zC ?_))))
 refine qD rfl (yC (cs := [(vJ a), (vJ zp)]) ag34 sz34 rfl (fun j u hj => aa.pins _ _ _ (au _ _ (by simpa using hj)))) ?_
 refine qI rfl (zH (vs := [(.agg [(vJ a), (vJ zp)].toArray)]) Tryz.func101 nm101 rfl rfl rfl ?_)
 refine Calls.mono (xW (t := a) (z := zp) aa.pins) ?_
 rintro _ co ⟨cp, rfl, ab⟩
 refine ⟨_, rfl, ?_⟩
 have o := aa.tr ab
 have av := bs.ext ab
 refine qD rfl (qF rfl) ?_
 refine qe (zA ?_)
 refine c_ifn rfl rfl (fun ac => ?_) (fun ac => ?_)
 ·skip
  refine wp_skip ?_
  refine zA (zB (zC ?_))
  refine qD rfl (yC (cs := [(vJ a), (vJ zp)]) ag34 sz34 rfl (fun j u hj => (Pins.of_le o.pins ab.le) _ _ _ (au _ _ (by simpa using hj)))) ?_
  refine q0 rfl rfl rfl (yP (cs' := [(vJ a), (vJ zp)]) (us := [(vJ a), (vJ zp)]) (v := (.agg [(vJ a), (vJ zp)].toArray)) sz34 rfl rfl rfl (qH (by rfl) (by rfl)) o.pins av (Nat.le_of_ble_eq_true rfl) rfl (fun cq bt bu bv cr => ?_))
  have bw := o.write bu bv ((zX q))
  refine qM (.bool true) ?_
  refine qe (zA ?_)
  refine wp_ret ?_
  refine zO ?_
  refine xO (cs := [(vJ a), (vJ zp)]) (v := (.bool true)) rfl rfl rfl rfl rfl ag34 sz34 (fun j u hj => by rw [Nat.zero_add]; exact bt.cell hj) ?_
  have hst := hr.trans (low_stop hz.1 (by first | exact Or.inl l | exact Or.inr l))
  have d : ((zp.toNat : Nat) : Int) = zp := Int.toNat_of_nonneg hz.1
  rw [hst]
  simp only [d]
  exact ⟨_, by rw [ac]; rfl, bw⟩
 refine zB (zC ?_)
 refine qD rfl (yU [(vJ 0), (vJ 0)] [(vJ 0), (vJ 0)] [] Tryz.underlying34 zr34 rfl pl34 rfl (fun _ h => by cases h) rfl) ?_
 refine q0 rfl rfl rfl (yP (cs' := [(vJ 0), (vJ 0)]) (us := [(vJ 0), (vJ 0)]) (v := (.agg [(vJ 0), (vJ 0)].toArray)) sz34 rfl rfl rfl (qH (by rfl) (by rfl)) o.pins av (Nat.le_of_ble_eq_true rfl) rfl (fun ct bx bz b0 cu => ?_))
 have b2 := o.write bz b0 ((zX q))
 refine qM (.bool false) ?_
 refine qe (zA ?_)
 refine wp_ret ?_
 refine zO ?_
 refine xO (cs := [(vJ 0), (vJ 0)]) (v := (.bool false)) rfl rfl rfl rfl rfl ag34 sz34 (fun j u hj => by rw [Nat.zero_add]; exact bx.cell hj) ?_
 have hst := hr.trans (low_stop hz.1 (by first | exact Or.inl l | exact Or.inr l))
 have d : ((zp.toNat : Nat) : Int) = zp := Int.toNat_of_nonneg hz.1
 rw [hst]
 simp only [d]
 exact ⟨_, by rw [ac]; rfl, b2⟩

end NU2
end Go.Proofs.YtfnginkcmcfdfaaGreatDoor
