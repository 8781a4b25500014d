/- Texts of this claim in one file: PO1, PL1, PA1, SO1, OD1, FO1, NG1, NF1, SM1, MK1, TI1, ST3, UP3, UP4. -/
import Derived.Test.YtfnginkcmcfdfaaGreatDoorUs4
import Derived.Test.YtfnginkcmcfdfaaGreatDoorChecked
set_option maxRecDepth 20000
set_option maxHeartbeats 2000000
namespace Go.Proofs.YtfnginkcmcfdfaaGreatDoor
namespace PO1
open Go.RowKit Go.GL Go.Proofs
open Go.Proofs.YtfnginkcmcfdfaaGreatDoor.B1
open Go.Proofs.YtfnginkcmcfdfaaGreatDoor.K1







theorem mk5 : (Tryz.prog.info? 5).map (fun i => (i.size, i.bytes, i.zero)) = some (1, 1, some (.int .u8 0)) := by kernel_rfl















theorem clone_spec {w : World} {G : Pin} {v : Value} {xs : List Int} (hP : Pins G w) (hv : RSl eInt G v xs) (hs : xs.length ≤ 1048576) :
  Calls Tryz.prog 159 [v].toArray w fun e w' => ∃ (u : Value) (G' : Pin), e = .returned u ∧ Own eInt 3 G' w' w.heap.size u xs ∧ Ext noS G w G' w' := by
 refine zX (n := 8) Tryz.func159 Tryz.ntmps159 rfl rfl ?_
 have a : Ext noS G w G w := Ext.refl hP
 refine zB (zC ?_)
 refine qM (.slice none 0 0) ?_
 refine qe (zA (zB (zB (zC ?_))))
 refine qM v ?_
 refine qD rfl (r_eqlNil Tryz.underlying65 hv rfl rfl) ?_
 refine qe (zA ?_)
 refine c_if rfl rfl (fun c => ?_) (fun c => ?_)
 ·skip
  refine zB (zC ?_)
  refine qM (.slice none 0 0) ?_
  refine qe (zA ?_)
  refine wp_ret ?_
  refine zU ?_
  refine zT (v := (.slice none 0 0)) rfl rfl rfl ?_
  have h := nil_of hv c
  subst h
  exact ⟨_, _, rfl, Own.nil _ _ _ _ _, a⟩
 refine wp_skip ?_
 refine zA (zB (zC ?_))
 refine qI rfl (yS (E := eInt) (e := 3) Tryz.underlying65 sz3 a.pins (fun d i j k l r => ?_))
 have b := a.step k l
 have f : Own eInt 3 G i w.heap.size d ([]) := j.weaken a.size
 refine qM v ?_
 refine qI rfl (oA (E := eInt) (v := d) (u := v) 8 Tryz.underlying65 ap3 (by decide) rfl rfl b.pins f ((hv.mono (Pin.le_refl _)).src b.pins (by decide)) (b.size) (fun g s m o p t => ?_))
 have q := b.write o p ((zY f))
 have x : (([]) ++ xs).length = ([]).length + xs.length := List.length_append
 refine qM g ?_
 refine qe (zA ?_)
 refine wp_ret ?_
 refine zU ?_
 refine zT (v := g) rfl rfl rfl ?_
 exact ⟨_, _, rfl, m, q⟩

theorem sortI_spec {w : World} {G : Pin} {e base : Nat} {v : Value} {xs : List Int} (hP : Pins G w) (hv : Own eInt e G w base v xs) (hl : xs.length ≤ 1073741824) :
  Calls Tryz.prog 152 [v].toArray w fun en w' => ∃ G', en = .returned (.tuple #[]) ∧ Own eInt e G' w' base v (sortM xs) ∧ Ext (inO v.ownBlock) G w G' w' := by
 rcases own_cases hv with ⟨rfl, rfl⟩ | ⟨g, cap, rfl⟩
 ·refine (Tryz.slices_Sort_int_none none 0 w).mono ?_
  rintro en w' ⟨rfl, rfl⟩
  exact ⟨G, rfl, by simpa [sortM] using hv, Ext.refl hP⟩
 ·obtain ⟨_, h1, h2, h3⟩ := own_holds hv
  refine (Tryz.slices_Sort_int g 0 cap xs w h3 h1 (by omega)).mono ?_
  rintro en w' ⟨rfl, m, os, hw⟩
  obtain ⟨a, b, c⟩ := own_put (ys := sortM xs) hv hP hw (sortM_length xs) (List.take_length ..)
  rw [sortM_length] at a
  exact ⟨G, rfl, a, Ext.one b c⟩
theorem compactI_spec {w : World} {G : Pin} {e base : Nat} {v : Value} {xs : List Int} (hP : Pins G w) (hv : Own eInt e G w base v xs) (hl : xs.length ≤ 1073741824) :
  Calls Tryz.prog 160 [v].toArray w fun en w' => ∃ (u : Value) (G' : Pin), en = .returned u ∧ Own eInt e G' w' base u (Go.Lib.compact xs) ∧ Lo w (inO v.ownBlock) u.ownBlock ∧ Ext (inO v.ownBlock) G w G' w' := by
 rcases own_cases hv with ⟨rfl, rfl⟩ | ⟨g, cap, rfl⟩
 ·refine (Tryz.slices_Compact_int_empty none 0 w).mono ?_
  rintro en w' ⟨rfl, rfl⟩
  exact ⟨_, G, rfl, hv, lo_self, Ext.refl hP⟩
 ·obtain ⟨_, h1, h2, h3⟩ := own_holds hv
  refine (Tryz.slices_Compact_int g 0 cap xs w h3 (by omega) h2).mono ?_
  rintro en w' ⟨rfl, m, hw⟩
  have hcl := compact_len xs
  obtain ⟨a, b, c⟩ := own_put (os := #[]) (ys := Go.Lib.compact xs) hv hP (hw.trans (Go.Sort.grow_empty _).symm) (by simp; omega) (List.take_left ..)
  exact ⟨_, G, rfl, a, lo_self, Ext.one b c⟩

theorem distinct_spec {w : World} {G : Pin} {v : Value} {xs : List Int} (hP : Pins G w) (hv : RSl eInt G v xs) (hs : xs.length ≤ 1048576) :
  Calls Tryz.prog 129 [v].toArray w fun e w' => ∃ (u : Value) (G' : Pin), e = .returned u ∧ Own eInt 3 G' w' w.heap.size u (sortL xs) ∧ Ext noS G w G' w' := by
 refine zX (n := 10) Tryz.func129 Tryz.ntmps129 rfl rfl ?_
 have b : Ext noS G w G w := Ext.refl hP
 refine zB (zC ?_)
 refine qM (.slice none 0 0) ?_
 refine qe (zA (zB (zC ?_)))
 refine qM v ?_
 refine qI rfl (zL (vs := [v]) Tryz.func159 nm159 rfl rfl rfl ?_)
 refine Calls.mono (clone_spec b.pins hv (by omega)) ?_
 rintro _ l ⟨a, m, rfl, o, p⟩
 refine ⟨_, rfl, ?_⟩
 have f := b.tr p
 have g : Own eInt 3 m l w.heap.size a xs := o.weaken b.size
 refine qM a ?_
 refine qe (zA (zB (zC ?_)))
 refine qM a ?_
 refine qI rfl (zL (vs := [a]) Tryz.func152 nm152 rfl rfl rfl ?_)
 refine Calls.mono (sortI_spec f.pins g (by omega)) ?_
 rintro _ z ⟨G8, rfl, c, q⟩
 refine ⟨_, rfl, ?_⟩
 have d := f.trans q (fun i hi => (zY g) i hi)
 have ab := sortM_length xs
 refine qe (zA (zB (zC ?_)))
 refine qM a ?_
 refine qI rfl (zL (vs := [a]) Tryz.func160 nm160 rfl rfl rfl ?_)
 refine Calls.mono (compactI_spec d.pins (c.weaken (Nat.zero_le _)) (by omega)) ?_
 rintro _ ac ⟨j, ad, rfl, r, s, t⟩
 refine ⟨_, rfl, ?_⟩
 have x := d.trans t (fun i hi => (zY c) i hi)
 have y := r.up (lo := w.heap.size) (fun k hk => (s k hk).elim (fun h => Nat.le_trans d.size h) (fun h => (c.lt k h).1))
 refine qM j ?_
 refine qe (zA ?_)
 refine wp_ret ?_
 refine zU ?_
 refine zT (v := j) rfl rfl rfl ?_
 exact ⟨_, _, rfl, (by rw [← distinct_eq]; simpa using y), x⟩

theorem node_spec {w : World} {G : Pin} {p : Nat} {L R B : Value} {mm : PM} {q : PSt} (hP : Pins G w) (hpk : Pk 65 3 G w p L R B mm q) (hok : PoolOk q) {x y : Value} {xs ys : List Int} (hx : RSl eInt G x xs) (hy : RSl eInt G y ys) (hlim : q.ns.length + 1 ≤ 1048576) (hls : xs.length ≤ 1048576 ∧ ys.length ≤ 1048576) (hk1 : ∀ i, i < xs.length → 0 ≤ xs.getD i 0 ∧ xs.getD i 0 < q.ns.length) (hk2 : ∀ i, i < ys.length → 0 ≤ ys.getD i 0 ∧ ys.getD i 0 < q.ns.length) :
  Calls Tryz.prog 79 [(.pointer (some ⟨p, 0, none⟩)), x, y].toArray w fun e w' => ∃ (z : Int) (L' R' B' : Value) (q' : PSt) (G' : Pin), e = .returned (vJ z) ∧ Pk 65 3 G' w' p L' R' B' mm q' ∧ PoolOk q' ∧ PX q q' ∧ PLo w p L R B mm L' R' B' ∧ Ext (inP p L R B mm) G w G' w' ∧ PlaceOk q' z ∧ pd q' z = mkG (xs.map (pd q)) (ys.map (pd q)) ∧ q'.ns.length ≤ q.ns.length + 1 ∧ (q'.cm = q.cm ∧ (q'.ns.length = q.ns.length ∨ z = q.ns.length)) := by
 refine zX (n := 130) Tryz.func79 Tryz.ntmps79 rfl rfl ?_
 have cf : Ext (inP p L R B mm) G w G w := Ext.refl hP
 have hpin : PIn w (inP p L R B mm) p L R B mm := PIn.self
 have lf : (q.ns.map Nd.l).length = q.ns.length ∧ (q.ns.map Nd.r).length = q.ns.length := ⟨List.length_map .., List.length_map ..⟩
 have lg : q.bs.length = q.ns.length ∧ q.ns.length ≤ 1048576 := ⟨hok.ar.ok.len, hok.ar.ok.lim⟩
 obtain ⟨d, aq⟩ : ∃ l, l = sortL xs := ⟨_, rfl⟩
 obtain ⟨g, au⟩ : ∃ l, l = sortL ys := ⟨_, rfl⟩
 have bo := sort_bounds hk1
 have cg := sort_bounds hk2
 rw [← aq] at bo
 rw [← au] at cg
 have lh : d.length ≤ 1048576 := by rw [aq]; exact Nat.le_trans xT hls.1
 have li : g.length ≤ 1048576 := by rw [au]; exact Nat.le_trans xT hls.2
 refine zB (zC ?_)
 refine qM (vJ 0) ?_
 refine qe (zA (zB (zC ?_)))
 refine qM x ?_
 refine qI rfl (zL (vs := [x]) Tryz.func129 nm129 rfl rfl rfl ?_)
 refine Calls.mono (distinct_spec cf.pins hx (by omega)) ?_
 rintro _ w5 ⟨u3, G4, rfl, ch, ci⟩
 refine ⟨_, rfl, ?_⟩
 rw [← aq] at ch
 have cj := cf.tr ci
 have dk := hpk.ext ci
 have bp := hpk.new (x := u3.ownBlock) (fun k hk => (ch.lt k hk).1)
 have dl : Own eInt 3 G4 w5 w.heap.size u3 d := ch.weaken cf.size
 refine qM y ?_
 refine qI rfl (zL (vs := [y]) Tryz.func129 nm129 rfl rfl rfl ?_)
 refine Calls.mono (distinct_spec cj.pins (hy.mono ci.le) (by omega)) ?_
 rintro _ gt ⟨t, bq, rfl, br, ck⟩
 refine ⟨_, rfl, ?_⟩
 rw [← au] at br
 have cl := cj.tr ck
 have cn := dl.ext ck
 have dm := dk.ext ck
 have gu := zM br.lt dl.lt
 have a2 := dk.new (x := t.ownBlock) (fun k hk => (br.lt k hk).1)
 have co : Own eInt 3 bq gt w.heap.size t g := br.weaken cj.size
 refine qM u3 ?_
 refine qM t ?_
 refine qe (zA (zB (zC ?_)))
 refine qM u3 ?_
 refine qD rfl (zP Tryz.underlying65 (v := u3) rfl cn.read) ?_
 refine qM t ?_
 refine qD rfl (zP Tryz.underlying65 (v := t) rfl co.read) ?_
 refine qD rfl (yL rfl rfl (by omega)) ?_
 refine qD rfl (r_mul rfl rfl (by omega)) ?_
 refine qD rfl (yL rfl rfl (by omega)) ?_
 refine qI rfl (o_make0 (E := eByte) Tryz.underlying132 mk5 rfl rfl cl.pins (by omega) (by omega) (by omega) (fun a3 gv gw dn bt cp => ?_))
 have gx := cl.step dn bt
 have dp := cn.below bt
 have gy := co.below bt
 have gz := dm.below bt dn
 have g0 : Apart a3.ownBlock u3.ownBlock := zH cp cn.lt
 have g1 : Apart a3.ownBlock t.ownBlock := zH cp co.lt
 have g2 := dm.new (x := a3.ownBlock) (fun k hk => by rw [cp] at hk; cases hk; exact Nat.le_refl _)
 have g3 : Own eByte 5 bq gv w.heap.size a3 ([]) := gw.weaken cl.size
 refine qM a3 ?_
 refine qe (zA (zB (zC ?_)))
 refine qM (vJ 0) ?_
 refine qe (zA (zB (zB (zC ?_))))
 refine qM u3 ?_
 refine qD rfl (zP Tryz.underlying65 (v := u3) rfl dp.read) ?_
 refine qM (vJ 0) ?_
 refine qe (zA ?_)
 refine zZ ?_
 refine yO (fun (k : Nat) (en : Nat → Value) (W : World) => ∃ (ba : Nat → Value) (i : Nat) (kva : Value) (kxa : List UInt8) (bn : Int) (GLa : Pin), en = (upd (upd (upd (upd (upd (upd (upd (upd (upd ba 0 (.pointer (some ⟨p, 0, none⟩))) 1 u3) 2 t) 6 (vJ 0)) 7 kva) 8 (vJ bn)) 28 u3) 29 (vJ (d.length : Int))) 30 (vJ (i : Int))) ∧ k = d.length - i ∧ Ext (inP p L R B mm) G w GLa W ∧ Pin.le bq GLa ∧ (i ≤ d.length) ∧ (kxa = keyL (d.take i)) ∧ (bn = bornOf q.bs (d.take i) 0) ∧ (0 ≤ bn ∧ bn ≤ q.ns.length) ∧ (Own eByte 5 GLa W w.heap.size kva (kxa)) ∧ (Own eInt 3 GLa W w.heap.size u3 (d)) ∧ (Own eInt 3 GLa W w.heap.size t (g)) ∧ (Apart kva.ownBlock u3.ownBlock) ∧ (Apart kva.ownBlock t.ownBlock) ∧ (Pk 65 3 GLa W p L R B mm q) ∧ (NP p L R B mm kva.ownBlock)) _ ⟨_, 0, a3, [], 0, bq, (pS 30 (pS 29 (pS 28 (pS 8 (pS 7 (pS 6 (pS 2 (pS 1 (pU 0))))))))), rfl, gx, Pin.le_refl _, Nat.zero_le _, (by simp [keyL]), rfl, (by omega), g3, dp, gy, g0, g1, gz, g2⟩ ?_
 rintro lj _ lk ⟨ba, i, kva, kxa, bn, GLa, rfl, lm, ax, g4, hji, hka, hbbn, hlbn, bu, bb, cq, bv, bw, cr, bz⟩
 have hkla : kxa.length ≤ 117440640 := by
  have := key_bound (j := i) bo hok.ar.ok.lim
  rw [hka]; omega
 refine zB (zC ?_)
 refine qD rfl (yM rfl rfl) ?_
 refine qe (zA (zB ?_))
 refine yD (p := ((i : Int) : Int) < (d.length : Int)) rfl rfl (fun g5 => ?_) (fun g5 => ?_)
 ·skip
  have hki := bo i (by omega)
  have hbk := hok.ar.ok.born (d.getD i 0).toNat (by omega)
  have g6 := dig13 (n := (d.getD i 0).toNat) (by omega)
  refine wp_skip ?_
  refine zA (zB ?_)
  refine zZ ?_
  refine zB (zC ?_)
  refine qD rfl (zN Tryz.underlying65 sz3 (v := u3) rfl rfl bb.read (by omega) (by omega)) ?_
  refine qD rfl (zK (r := d.getD i 0) rfl ag3 (z := (i : Int)) rfl bb.read (Gadd.pins ax.pins u3) (by omega) (by omega)) ?_
  refine qM (vJ (d.getD i 0)) ?_
  refine qe (zA (zB (zC ?_)))
  refine qM kva ?_
  refine qM (vJ (d.getD i 0)) ?_
  refine qI rfl (zL (vs := [kva, (vJ (d.getD i 0)), (vJ 36)]) Tryz.func130 nm130 rfl rfl rfl ?_)
  refine Calls.mono (appendInt_spec (i := d.getD i 0) ax.pins (bu.weaken (Nat.zero_le _)) (by omega) (by omega)) ?_
  rintro _ ln ⟨cs, dq, rfl, g7, b0, bc⟩
  refine ⟨_, rfl, ?_⟩
  have dr := np_turn bz cr b0
  have ct := ax.trans bc (fun i hi => (zY bu) i hi)
  have g8 := bb.extS bc (notO bv.symm)
  have g9 := cq.extS bc (notO bw.symm)
  have ha := cr.extS bc (fun k hk hx => bz k hx hk)
  have ds : Apart u3.ownBlock cs.ownBlock := ap_turn b0 bv.symm (xH bb)
  have dt : Apart t.ownBlock cs.ownBlock := ap_turn b0 bw.symm (xH cq)
  have hc := g7.up (lo := w.heap.size) (fun k hk => (b0 k hk).elim (fun h => Nat.le_trans ax.size h) (fun h => (bu.lt k h).1))
  have lq : (kxa ++ dig36 (d.getD i 0).toNat).length = kxa.length + (dig36 (d.getD i 0).toNat).length := List.length_append
  refine qI rfl (yE (E := eByte) (e := 5) [(.int .u8 44)] [44] Tryz.underlying132 sz5 zr5 (by exact xF (by rfl)) (yF (by rfl)) rfl rfl rfl rfl (by decide) ct.pins (fun du hd he dv bd ls => ?_))
  have cu := ct.step dv bd
  have dw := g8.below bd
  have dx := g9.below bd
  have dy := hc.below bd
  have dz := ha.below bd dv
  have hf : Own eByte 5 dq hd w.heap.size du ([44]) := he.weaken ct.size
  refine qI rfl (oA (E := eByte) (v := cs) (u := du) 1 Tryz.underlying132 ap5 (by decide) rfl rfl cu.pins dy hf.src (cu.size) (fun b1 lu hg d0 b2 cv => ?_))
  have d1 := cu.write d0 b2 ((zY dy))
  have hh := dw.keptA b2 ds
  have hj := dx.keptA b2 dt
  have b3 := dz.kept b2 d0 dr
  have hm : Apart u3.ownBlock b1.ownBlock := zD ds cv dw.lt
  have hn : Apart t.ownBlock b1.ownBlock := zD dt cv dx.lt
  have ho := np_app dr dz cv
  have lv : ((kxa ++ dig36 (d.getD i 0).toNat) ++ ([44])).length = (kxa ++ dig36 (d.getD i 0).toNat).length + 1 := List.length_append
  refine qM b1 ?_
  refine qe (zA (zC ?_))
  refine qM (vJ bn) ?_
  refine qM (.pointer (some ⟨p, 0, none⟩)) ?_
  refine qD rfl (yU rfl) ?_
  refine qD rfl (zQ (k := 2) rfl Tryz.underlying72 rfl nz65 rfl) ?_
  refine qD rfl (zS (u := B) ag65 rfl (b3.bx.cell (o := 2) rfl)) ?_
  refine qM (vJ (d.getD i 0)) ?_
  refine qD rfl (zN Tryz.underlying65 sz3 (v := B) rfl rfl b3.ob.read (by omega) (by omega)) ?_
  refine qD rfl (zK (r := q.bs.getD (d.getD i 0).toNat 0) rfl ag3 (z := (d.getD i 0)) rfl b3.ob.read (Gadd.pins d1.pins B) (by omega) (by omega)) ?_
  refine qD rfl (yL rfl rfl (by omega)) ?_
  refine qD rfl (r_max rfl rfl) ?_
  refine qM (vJ (max bn ((q.bs.getD (d.getD i 0).toNat 0) + 1))) ?_
  refine qe ?_
  refine yG ?_
  refine zA (zC ?_)
  refine qD rfl (yL rfl rfl (by omega)) ?_
  refine qM (vJ ((i : Int) + 1)) ?_
  refine qe ?_
  refine yH ?_
  refine ⟨_, ?_, _, rfl, _, i + 1, b1, (kxa ++ dig36 (d.getD i 0).toNat) ++ ([44]), max bn ((q.bs.getD (d.getD i 0).toNat 0) + 1), dq, (pS 30 (pS 29 (pS 28 (pS 8 (pS 7 (pS 6 (pS 2 (pS 1 (pU 0))))))))), rfl, d1, (Pin.le_trans g4 bc.le), (by omega), (by rw [key_next (by omega), hka]), (by rw [hbbn, born_next (by omega)]), (by omega), hg, hh, hj, hm.symm, hn.symm, b3, ho⟩
  omega
 refine wp_exit ?_
 refine yC ?_
 refine yK ?_
 refine yI ?_
 refine zA (zB (zC ?_))
 refine qM kva ?_
 refine qI rfl (yE (E := eByte) (e := 5) [(.int .u8 124)] [124] Tryz.underlying132 sz5 zr5 (by exact xF (by rfl)) (yF (by rfl)) rfl rfl rfl rfl (by decide) ax.pins (fun d2 hq hs d3 be lw => ?_))
 have cw := ax.step d3 be
 have d4 := bu.below be
 have d5 := bb.below be
 have d6 := cq.below be
 have d7 := cr.below be d3
 have ht : Own eByte 5 GLa hq w.heap.size d2 ([124]) := hs.weaken ax.size
 refine qI rfl (oA (E := eByte) (v := kva) (u := d2) 1 Tryz.underlying132 ap5 (by decide) rfl rfl cw.pins d4 ht.src (cw.size) (fun b4 lx hu d8 b5 cx => ?_))
 have hv := cw.write d8 b5 ((zY d4))
 have hw := d5.keptA b5 bv.symm
 have d9 := d6.keptA b5 bw.symm
 have h0 := d7.kept b5 d8 bz
 have h1 : Apart u3.ownBlock b4.ownBlock := zD bv.symm cx d5.lt
 have h3 : Apart t.ownBlock b4.ownBlock := zD bw.symm cx d6.lt
 have h4 := np_app bz d7 cx
 have ly : (kxa ++ ([124])).length = kxa.length + 1 := List.length_append
 refine qM b4 ?_
 refine qe (zA (zB (zB (zC ?_))))
 rw [xU (by omega)] at hka hbbn
 have hkk : keyL d ++ [124] = kxa ++ [124] := by rw [hka]
 refine qM t ?_
 refine qD rfl (zP Tryz.underlying65 (v := t) rfl d9.read) ?_
 refine qM (vJ 0) ?_
 refine qe (zA ?_)
 refine zZ ?_
 refine yO (fun (k : Nat) (en : Nat → Value) (W : World) => ∃ (ba : Nat → Value) (m : Nat) (kvb : Value) (kxb : List UInt8) (bm : Int) (GLb : Pin), en = (upd (upd (upd (upd (upd (upd (upd (upd (upd ba 0 (.pointer (some ⟨p, 0, none⟩))) 1 u3) 2 t) 6 (vJ 0)) 7 kvb) 8 (vJ bm)) 53 t) 54 (vJ (g.length : Int))) 55 (vJ (m : Int))) ∧ k = g.length - m ∧ Ext (inP p L R B mm) G w GLb W ∧ Pin.le GLa GLb ∧ (m ≤ g.length) ∧ (kxb = keyL d ++ [124] ++ keyL (g.take m)) ∧ (bm = bornOf q.bs (g.take m) bn) ∧ (0 ≤ bm ∧ bm ≤ q.ns.length) ∧ (Own eByte 5 GLb W w.heap.size kvb (kxb)) ∧ (Own eInt 3 GLb W w.heap.size u3 (d)) ∧ (Own eInt 3 GLb W w.heap.size t (g)) ∧ (Apart kvb.ownBlock u3.ownBlock) ∧ (Apart kvb.ownBlock t.ownBlock) ∧ (Pk 65 3 GLb W p L R B mm q) ∧ (NP p L R B mm kvb.ownBlock)) _ ⟨_, 0, b4, kxa ++ ([124]), bn, GLa, (pS 55 (pS 54 (pS 53 (pS 8 (pS 7 (pS 6 (pS 2 (pS 1 (pU 0))))))))), rfl, hv, Pin.le_refl _, Nat.zero_le _, (by rw [← hkk]; simp [keyL]), rfl, (by omega), hu, hw, d9, h1.symm, h3.symm, h0, h4⟩ ?_
 rintro lz _ av ⟨ba, m, kvb, kxb, bm, GLb, rfl, l0, ay, h5, l1, hkb, hbbm, hlbm, bf, cy, bg, ea, eb, cz, ec⟩
 have hklb : kxb.length ≤ 117440640 := by
  have := key_bound (j := m) cg hok.ar.ok.lim
  have h2 := key_bound (j := d.length) bo hok.ar.ok.lim; rw [hkb, List.length_append, List.length_append]; simp only [List.length_cons, List.length_nil]; rw [xU (Nat.le_refl _)] at h2; omega
 refine zB (zC ?_)
 refine qD rfl (yM rfl rfl) ?_
 refine qe (zA (zB ?_))
 refine yD (p := ((m : Int) : Int) < (g.length : Int)) rfl rfl (fun h7 => ?_) (fun h7 => ?_)
 ·skip
  have hki := cg m (by omega)
  have hbk := hok.ar.ok.born (g.getD m 0).toNat (by omega)
  have g6 := dig13 (n := (g.getD m 0).toNat) (by omega)
  refine wp_skip ?_
  refine zA (zB ?_)
  refine zZ ?_
  refine zB (zC ?_)
  refine qD rfl (zN Tryz.underlying65 sz3 (v := t) rfl rfl bg.read (by omega) (by omega)) ?_
  refine qD rfl (zK (r := g.getD m 0) rfl ag3 (z := (m : Int)) rfl bg.read (Gadd.pins ay.pins t) (by omega) (by omega)) ?_
  refine qM (vJ (g.getD m 0)) ?_
  refine qe (zA (zB (zC ?_)))
  refine qM kvb ?_
  refine qM (vJ (g.getD m 0)) ?_
  refine qI rfl (zL (vs := [kvb, (vJ (g.getD m 0)), (vJ 36)]) Tryz.func130 nm130 rfl rfl rfl ?_)
  refine Calls.mono (appendInt_spec (i := g.getD m 0) ay.pins (bf.weaken (Nat.zero_le _)) (by omega) (by omega)) ?_
  rintro _ l2 ⟨c0, ed, rfl, h8, b6, bh⟩
  refine ⟨_, rfl, ?_⟩
  have ee := np_turn ec cz b6
  have c1 := ay.trans bh (fun i hi => (zY bf) i hi)
  have h9 := cy.extS bh (notO ea.symm)
  have ia := bg.extS bh (notO eb.symm)
  have ib := cz.extS bh (fun k hk hx => ec k hx hk)
  have eg : Apart u3.ownBlock c0.ownBlock := ap_turn b6 ea.symm (xH cy)
  have eh : Apart t.ownBlock c0.ownBlock := ap_turn b6 eb.symm (xH bg)
  have ic := h8.up (lo := w.heap.size) (fun k hk => (b6 k hk).elim (fun h => Nat.le_trans ay.size h) (fun h => (bf.lt k h).1))
  have l3 : (kxb ++ dig36 (g.getD m 0).toNat).length = kxb.length + (dig36 (g.getD m 0).toNat).length := List.length_append
  refine qI rfl (yE (E := eByte) (e := 5) [(.int .u8 44)] [44] Tryz.underlying132 sz5 zr5 (by exact xF (by rfl)) (yF (by rfl)) rfl rfl rfl rfl (by decide) c1.pins (fun ei ie ig ej bi l4 => ?_))
  have c2 := c1.step ej bi
  have ek := h9.below bi
  have em := ia.below bi
  have eo := ic.below bi
  have ep := ib.below bi ej
  have ih : Own eByte 5 ed ie w.heap.size ei ([44]) := ig.weaken c1.size
  refine qI rfl (oA (E := eByte) (v := c0) (u := ei) 1 Tryz.underlying132 ap5 (by decide) rfl rfl c2.pins eo ih.src (c2.size) (fun b7 l5 ii eq b8 c3 => ?_))
  have es := c2.write eq b8 ((zY eo))
  have ij := ek.keptA b8 eg
  have ik := em.keptA b8 eh
  have b9 := ep.kept b8 eq ee
  have il : Apart u3.ownBlock b7.ownBlock := zD eg c3 ek.lt
  have im : Apart t.ownBlock b7.ownBlock := zD eh c3 em.lt
  have io := np_app ee ep c3
  have l6 : ((kxb ++ dig36 (g.getD m 0).toNat) ++ ([44])).length = (kxb ++ dig36 (g.getD m 0).toNat).length + 1 := List.length_append
  refine qM b7 ?_
  refine qe (zA (zC ?_))
  refine qM (vJ bm) ?_
  refine qM (.pointer (some ⟨p, 0, none⟩)) ?_
  refine qD rfl (yU rfl) ?_
  refine qD rfl (zQ (k := 2) rfl Tryz.underlying72 rfl nz65 rfl) ?_
  refine qD rfl (zS (u := B) ag65 rfl (b9.bx.cell (o := 2) rfl)) ?_
  refine qM (vJ (g.getD m 0)) ?_
  refine qD rfl (zN Tryz.underlying65 sz3 (v := B) rfl rfl b9.ob.read (by omega) (by omega)) ?_
  refine qD rfl (zK (r := q.bs.getD (g.getD m 0).toNat 0) rfl ag3 (z := (g.getD m 0)) rfl b9.ob.read (Gadd.pins es.pins B) (by omega) (by omega)) ?_
  refine qD rfl (yL rfl rfl (by omega)) ?_
  refine qD rfl (r_max rfl rfl) ?_
  refine qM (vJ (max bm ((q.bs.getD (g.getD m 0).toNat 0) + 1))) ?_
  refine qe ?_
  refine yG ?_
  refine zA (zC ?_)
  refine qD rfl (yL rfl rfl (by omega)) ?_
  refine qM (vJ ((m : Int) + 1)) ?_
  refine qe ?_
  refine yH ?_
  refine ⟨_, ?_, _, rfl, _, m + 1, b7, (kxb ++ dig36 (g.getD m 0).toNat) ++ ([44]), max bm ((q.bs.getD (g.getD m 0).toNat 0) + 1), ed, (pS 55 (pS 54 (pS 53 (pS 8 (pS 7 (pS 6 (pS 2 (pS 1 (pU 0))))))))), rfl, es, (Pin.le_trans h5 bh.le), (by omega), (by rw [key_next (by omega), hkb]; simp only [List.append_assoc]), (by rw [hbbm, born_next (by omega)]), (by omega), ii, ij, ik, il.symm, im.symm, b9, io⟩
  omega
 refine wp_exit ?_
 refine yC ?_
 refine yK ?_
 refine yI ?_
 refine zA (zB (zB ?_))
 rw [xU (by omega)] at hkb hbbm
 have hkey : kxb = keyN d g := by rw [hkb]; rfl
 have ip := Gadd.pins ay.pins kvb
 have l7 := bf.read
 refine xI (S := fun wz => BxR wz p [L, R, B, (.map (some mm.f)), (.map (some mm.o)), (.map (some mm.c)), (.map (some mm.s)), (.map (some mm.n))] ∧ Pins (Gadd GLb av kvb) wz) (last := 12) (by kernel_rfl) rfl ?_
 have az : Below av.heap.size av av.drew := (Below.refl _ _).drew
 have et := ay.pins.below az
 have bj := ay.step et az
 have c4 := bf.below az
 have iq := cy.below az
 have ir := bg.below az
 have a := cz.below az et
 have ad := ip.below az
 refine dT (i := 0) rfl rfl (by kernel_rfl) (fun _ _ => zR (v := (.pointer (some ⟨p, 0, none⟩))) rfl) ⟨a.bx.reads, ad⟩ ?_
 refine dT (i := 1) rfl rfl (by kernel_rfl) (fun _ _ => yU rfl) ⟨a.bx.reads, ad⟩ ?_
 refine dT (i := 2) rfl rfl (by kernel_rfl) (fun _ _ => zQ (k := 3) rfl Tryz.underlying72 rfl nz67 rfl) ⟨a.bx.reads, ad⟩ ?_
 refine dT (i := 3) rfl rfl (by kernel_rfl) (fun _ hS => zS (u := (.map (some mm.f))) ag67 rfl (hS.1 3 _ rfl)) ⟨a.bx.reads, ad⟩ ?_
 refine dT (i := 4) rfl rfl (by kernel_rfl) (fun _ _ => zR (v := kvb) rfl) ⟨a.bx.reads, ad⟩ ?_
 refine dO (i := 5) (zW (i := 5) rfl rfl rfl (zG rfl _) (EO.run (r_b2s Tryz.underlying132 Tryz.underlying5 Tryz.underlying9 rfl c4.read (Gadd.pins bj.pins kvb)) ?_))
 refine ⟨fun _ => ⟨a.bx.reads, ad⟩, ?_⟩
 refine dO (i := 6) (zW (i := 6) rfl rfl rfl (zG rfl _) (EO.run (run_lookv_int (k := (b2s kxb)) (key_str Tryz.underlying9) Tryz.underlying67 zr3 a.ff rfl rfl) ?_))
 refine ⟨fun _ => ⟨a.bx.reads, ad⟩, ?_⟩
 refine dT (i := 7) rfl rfl (by kernel_rfl) (fun _ _ => zR (v := (.tuple #[(vJ ((Go.GL.look q.fl (b2s kxb)).getD 0)), (.bool ((Go.GL.look q.fl (b2s kxb)).isSome))])) rfl) ⟨a.bx.reads, ad⟩ ?_
 refine dT (i := 8) rfl rfl (by kernel_rfl) (fun _ _ => yX (v := (vJ ((Go.GL.look q.fl (b2s kxb)).getD 0))) rfl rfl) ⟨a.bx.reads, ad⟩ ?_
 refine dT (i := 9) rfl rfl (by kernel_rfl) (fun _ _ => yX (v := (.bool ((Go.GL.look q.fl (b2s kxb)).isSome))) rfl rfl) ⟨a.bx.reads, ad⟩ ?_
 refine dT (i := 10) rfl rfl (by kernel_rfl) (fun _ _ => qG (v := (vJ ((Go.GL.look q.fl (b2s kxb)).getD 0))) rfl) ⟨a.bx.reads, ad⟩ ?_
 refine dT (i := 11) rfl rfl (by kernel_rfl) (fun _ _ => qG (v := (.bool ((Go.GL.look q.fl (b2s kxb)).isSome))) rfl) ⟨a.bx.reads, ad⟩ ?_
 refine yT (by kernel_rfl) ?_
 refine zA (zB (zC ?_))
 refine qM (.bool ((Go.GL.look q.fl (b2s kxb)).isSome)) ?_
 refine qe (zA ?_)
 refine c_if rfl rfl (fun c5 => ?_) (fun c5 => ?_)
 ·skip
  refine zB (zC ?_)
  refine qM (vJ ((Go.GL.look q.fl (b2s kxb)).getD 0)) ?_
  refine qM (vJ ((Go.GL.look q.fl (b2s kxb)).getD 0)) ?_
  refine qe (zA ?_)
  refine wp_ret ?_
  refine zU ?_
  refine zT (v := (vJ ((Go.GL.look q.fl (b2s kxb)).getD 0))) rfl rfl rfl ?_
  obtain ⟨z, hz⟩ := Option.isSome_iff_exists.1 c5
  have hlk := hz
  rw [hkey, aq, au] at hlk
  obtain ⟨f1, f2⟩ := lookF hok hk1 hk2 hlk
  rw [hz]
  exact ⟨z, L, R, B, q, GLb, rfl, a, hok, (PX.refl _), PIn.lo hpin rfl, bj, f1, f2, by omega, rfl, Or.inl rfl⟩
 refine wp_skip ?_
 refine zA (zB (zC ?_))
 refine qM (.pointer (some ⟨p, 0, none⟩)) ?_
 refine qD rfl (yU rfl) ?_
 refine qD rfl (zQ (k := 2) rfl Tryz.underlying72 rfl nz65 rfl) ?_
 refine qD rfl (zS (u := B) ag65 rfl (a.bx.cell (o := 2) rfl)) ?_
 refine qD rfl (zP Tryz.underlying65 (v := B) rfl a.ob.read) ?_
 refine qM (vJ (q.bs.length : Int)) ?_
 refine qe (zA (zB ?_))
 have hnone : Go.GL.look q.fl (b2s kxb) = none := by simpa using c5
 rw [hkey, aq, au] at hnone
 have hadd := hok.add (b := bm) hlim hls hk1 hk2 hnone (by rw [hbbm, hbbn, aq, au])
 have iv := Gadd.pins bj.pins kvb
 have l8 := c4.read
 refine xI (S := fun wz => BxR wz p [L, R, B, (.map (some mm.f)), (.map (some mm.o)), (.map (some mm.c)), (.map (some mm.s)), (.map (some mm.n))] ∧ Pins (Gadd GLb av.drew kvb) wz) (last := 7) (by kernel_rfl) rfl ?_
 have ab : Below av.drew.heap.size av.drew av.drew.drew := (Below.refl _ _).drew
 have iw := bj.pins.below ab
 have c6 := bj.step iw ab
 have ix := c4.below ab
 have eu := iq.below ab
 have ev := ir.below ab
 have ew := a.ol.below ab
 have ex := a.rr.below ab
 have ey := a.ob.below ab
 have al := a.bx.below ab
 have a0 := a.ff.below ab
 have iy := a.fo.below ab
 have iz := a.fc.below ab
 have i0 := a.fs.below ab
 have i1 := a.fn.below ab
 have a1 := iv.below ab
 refine dT (i := 0) rfl rfl (by kernel_rfl) (fun _ _ => zR (v := (.pointer (some ⟨p, 0, none⟩))) rfl) ⟨al.reads, a1⟩ ?_
 refine dT (i := 1) rfl rfl (by kernel_rfl) (fun _ _ => yU rfl) ⟨al.reads, a1⟩ ?_
 refine dT (i := 2) rfl rfl (by kernel_rfl) (fun _ _ => zQ (k := 3) rfl Tryz.underlying72 rfl nz67 rfl) ⟨al.reads, a1⟩ ?_
 refine dT (i := 3) rfl rfl (by kernel_rfl) (fun _ hS => zS (u := (.map (some mm.f))) ag67 rfl (hS.1 3 _ rfl)) ⟨al.reads, a1⟩ ?_
 refine dT (i := 4) rfl rfl (by kernel_rfl) (fun _ _ => zR (v := kvb) rfl) ⟨al.reads, a1⟩ ?_
 refine dT (i := 6) rfl rfl (by kernel_rfl) (fun _ _ => zR (v := (vJ (q.bs.length : Int))) rfl) ⟨al.reads, a1⟩ ?_
 refine dO (i := 5) (zW (i := 5) rfl rfl rfl (zG rfl _) (EO.run (r_b2s Tryz.underlying132 Tryz.underlying5 Tryz.underlying9 rfl ix.read (Gadd.pins c6.pins kvb)) ?_))
 refine ⟨fun _ => ⟨al.reads, a1⟩, ?_⟩
 refine dO (i := 7) (drOp0 (i := 7) rfl rfl rfl (zG rfl _) (qL (val := (fun v : Int => Value.int .i64 v)) (k := (b2s kxb)) (v := (q.bs.length : Int)) (key_str Tryz.underlying9) Tryz.underlying67 rfl rfl rfl c6.pins a0 (fun l9 i3 i4 ae ma => ?_)))
 have i5 := c6.write i4 ae ((PIn.f hpin))
 have i6 := eu.keptA ae (zO a0 eu).symm
 have i7 := ev.keptA ae (zO a0 ev).symm
 have i8 := ew.keptA ae (zO a0 ew).symm
 have i9 := ex.keptA ae (zO a0 ex).symm
 have ja := ey.keptA ae (zO a0 ey).symm
 have ez := al.keptA ae (yB a0 al).symm
 have jb := iy.kept ae (qB a.df.fo).symm
 have jc := iz.kept ae (qB a.df.fc).symm
 have jd := i0.kept ae (qB a.df.fs).symm
 have je := i1.kept ae (qB a.df.fn).symm
 refine ⟨fun h => absurd rfl h, ?_⟩
 refine yT (by kernel_rfl) ?_
 refine zA (zB (zC ?_))
 refine qM (.pointer (some ⟨p, 0, none⟩)) ?_
 refine qM (.pointer (some ⟨p, 0, none⟩)) ?_
 refine qD rfl (yU rfl) ?_
 refine qD rfl (zQ (k := 0) rfl Tryz.underlying72 rfl nz66 rfl) ?_
 refine qD rfl (zS (u := L) ag66 rfl (ez.cell (o := 0) rfl)) ?_
 refine qM u3 ?_
 obtain ⟨jf, ca, c7, e0, bk⟩ := i6.sealed i5
 have jg := i7.moreO ca bk gu
 have jh := i8.moreO ca bk (NP.hl bp).symm
 have ji := i9.moreO ca bk (NP.hr bp).symm
 have jj := ja.moreO ca bk (NP.hb bp).symm
 have jk := ez.moreO bk (NP.hp bp).symm
 refine qI rfl (yE (E := (eSl eInt)) (e := 65) [u3] [d] Tryz.underlying66 sz65 zr65 (by exact xF (⟨_, rfl, e0⟩)) (yF e0.one) rfl rfl rfl rfl (by decide) c7.pins (fun e1 jl jm jn af mb => ?_))
 have c8 := c7.step jn af
 have e2 := jg.below af
 have a4 := jh.below af
 have e3 := ji.below af
 have e4 := jj.below af
 have e5 := jk.below af
 have e6 := i3.below af
 have e7 := jb.below af
 have e8 := jc.below af
 have e9 := jd.below af
 have fa := je.below af
 have jo : Own (eSl eInt) 65 jf jl w.heap.size e1 ([d]) := jm.weaken c7.size
 refine qI rfl (oA (E := (eSl eInt)) (v := L) (u := e1) 24 Tryz.underlying66 ap65 (by decide) rfl rfl c8.pins a4 jo.src (Nat.zero_le _) (fun ac mc c9 jp ag bl => ?_))
 have fb := c8.write jp ag ((PIn.ll hpin))
 have jq := e2.keptA ag (NP.hl a2)
 have jr := e3.keptA ag a.alr.symm
 have js := e4.keptA ag a.alb.symm
 have a5 := e5.keptA ag a.apl
 have fd := e6.kept ag (zO e6 a4)
 have fe := e7.kept ag (zO e7 a4)
 have fg := e8.kept ag (zO e8 a4)
 have fh := e9.kept ag (zO e9 a4)
 have fi := fa.kept ag (zO fa a4)
 have jt : Apart t.ownBlock ac.ownBlock := zD (NP.hl a2) bl e2.lt
 have fj : Apart R.ownBlock ac.ownBlock := zD a.alr.symm bl e3.lt
 have fk : Apart B.ownBlock ac.ownBlock := zD a.alb.symm bl e4.lt
 have cb : Apart (some p) ac.ownBlock := zJ a.apl bl e5.lt
 have ju : Lo w (inP p L R B mm) ac.ownBlock := lo_app (PIn.ll hpin) bl c8.size
 have md : ((q.ns.map Nd.l) ++ ([d])).length = (q.ns.map Nd.l).length + 1 := List.length_append
 refine qD rfl (yU rfl) ?_
 refine qD rfl (zQ (k := 0) rfl Tryz.underlying72 rfl nz66 rfl) ?_
 refine q0 rfl rfl rfl (xA (cs' := [ac, R, B, (.map (some mm.f)), (.map (some mm.o)), (.map (some mm.c)), (.map (some mm.s)), (.map (some mm.n))]) (us := [ac]) (v := ac) sz66 rfl rfl (cells1 c9.one) (yF c9.one) fb.pins a5 (Nat.le_of_ble_eq_true rfl) rfl (fun me fm jv ah mf => ?_))
 have jw := fb.write jv ah ((PIn.lp hpin))
 have jx := jq.keptA ah (NP.hp a2)
 have jy := jr.keptA ah a.apr.symm
 have jz := js.keptA ah a.apb.symm
 have j0 := c9.keptA ah cb.symm
 have j1 := fd.kept ah (yB fd a5)
 have j2 := fe.kept ah (yB fe a5)
 have j3 := fg.kept ah (yB fg a5)
 have j4 := fh.kept ah (yB fh a5)
 have j5 := fi.kept ah (yB fi a5)
 refine qe (zA (zB (zC ?_)))
 refine qM (.pointer (some ⟨p, 0, none⟩)) ?_
 refine qM (.pointer (some ⟨p, 0, none⟩)) ?_
 refine qD rfl (yU rfl) ?_
 refine qD rfl (zQ (k := 1) rfl Tryz.underlying72 rfl nz66 rfl) ?_
 refine qD rfl (zS (u := R) ag66 rfl (fm.cell (o := 1) rfl)) ?_
 refine qM t ?_
 obtain ⟨da, db, dc, fp, cc⟩ := jx.sealed jw
 have j6 := jy.moreO db cc (NP.hr a2).symm
 have j7 := jz.moreO db cc (NP.hb a2).symm
 have j8 := j0.moreO db cc jt.symm
 have j9 := fm.moreO cc (NP.hp a2).symm
 refine qI rfl (yE (E := (eSl eInt)) (e := 65) [t] [g] Tryz.underlying66 sz65 zr65 (by exact xF (⟨_, rfl, fp⟩)) (yF fp.one) rfl rfl rfl rfl (by decide) dc.pins (fun fq ka kb kc ai mg => ?_))
 have dd := dc.step kc ai
 have a6 := j6.below ai
 have fr := j7.below ai
 have ft := j8.below ai
 have fu := j9.below ai
 have fv := j1.below ai
 have fw := j2.below ai
 have fx := j3.below ai
 have fy := j4.below ai
 have fz := j5.below ai
 have kd : Own (eSl eInt) 65 da ka w.heap.size fq ([g]) := kb.weaken dc.size
 refine qI rfl (oA (E := (eSl eInt)) (v := R) (u := fq) 24 Tryz.underlying66 ap65 (by decide) rfl rfl dd.pins a6 kd.src (Nat.zero_le _) (fun aj mh de ke am cd => ?_))
 have f0 := dd.write ke am ((PIn.lr hpin))
 have kf := fr.keptA am a.arb.symm
 have kg := ft.keptA am fj.symm
 have a7 := fu.keptA am a.apr
 have f3 := fv.kept am (zO fv a6)
 have f4 := fw.kept am (zO fw a6)
 have f5 := fx.kept am (zO fx a6)
 have f6 := fy.kept am (zO fy a6)
 have f7 := fz.kept am (zO fz a6)
 have f8 : Apart B.ownBlock aj.ownBlock := zD a.arb.symm cd fr.lt
 have kh : Apart ac.ownBlock aj.ownBlock := zD fj.symm cd ft.lt
 have dg : Apart (some p) aj.ownBlock := zJ a.apr cd fu.lt
 have ki : Lo w (inP p L R B mm) aj.ownBlock := lo_app (PIn.lr hpin) cd dd.size
 have mi : ((q.ns.map Nd.r) ++ ([g])).length = (q.ns.map Nd.r).length + 1 := List.length_append
 refine qD rfl (yU rfl) ?_
 refine qD rfl (zQ (k := 1) rfl Tryz.underlying72 rfl nz66 rfl) ?_
 refine q0 rfl rfl rfl (xA (cs' := [ac, aj, B, (.map (some mm.f)), (.map (some mm.o)), (.map (some mm.c)), (.map (some mm.s)), (.map (some mm.n))]) (us := [aj]) (v := aj) sz66 rfl rfl (cells1 de.one) (yF de.one) f0.pins a7 (Nat.le_of_ble_eq_true rfl) rfl (fun mj f9 kj an mk => ?_))
 have dh := f0.write kj an ((PIn.lp hpin))
 have kk := kf.keptA an a.apb.symm
 have kl := kg.keptA an cb.symm
 have km := de.keptA an dg.symm
 have kn := f3.kept an (yB f3 a7)
 have ko := f4.kept an (yB f4 a7)
 have kp := f5.kept an (yB f5 a7)
 have kq := f6.kept an (yB f6 a7)
 have kr := f7.kept an (yB f7 a7)
 refine qe (zA (zB (zC ?_)))
 refine qM (.pointer (some ⟨p, 0, none⟩)) ?_
 refine qM (.pointer (some ⟨p, 0, none⟩)) ?_
 refine qD rfl (yU rfl) ?_
 refine qD rfl (zQ (k := 2) rfl Tryz.underlying72 rfl nz65 rfl) ?_
 refine qD rfl (zS (u := B) ag65 rfl (f9.cell (o := 2) rfl)) ?_
 refine qM (vJ bm) ?_
 refine qI rfl (yE (E := eInt) (e := 3) [(vJ bm)] [bm] Tryz.underlying65 sz3 zr3 (by exact xF (by rfl)) (yF (by rfl)) rfl rfl rfl rfl (by decide) dh.pins (fun ga ks kt ku ak ml => ?_))
 have di := dh.step ku ak
 have a8 := kk.below ak
 have gb := kl.below ak
 have gc := km.below ak
 have gd := f9.below ak
 have ge := kn.below ak
 have gf := ko.below ak
 have gg := kp.below ak
 have gh := kq.below ak
 have gi := kr.below ak
 have kv : Own eInt 3 da ks w.heap.size ga ([bm]) := kt.weaken dh.size
 refine qI rfl (oA (E := eInt) (v := B) (u := ga) 8 Tryz.underlying65 ap3 (by decide) rfl rfl di.pins a8 kv.src (Nat.zero_le _) (fun aw mn dj kw ao ce => ?_))
 have gj := di.write kw ao ((PIn.lb hpin))
 have kx := gb.keptA ao fk.symm
 have ky := gc.keptA ao f8.symm
 have a9 := gd.keptA ao a.apb
 have gk := ge.kept ao (zO ge a8)
 have gl := gf.kept ao (zO gf a8)
 have gm := gg.kept ao (zO gg a8)
 have gn := gh.kept ao (zO gh a8)
 have gp := gi.kept ao (zO gi a8)
 have kz : Apart ac.ownBlock aw.ownBlock := zD fk.symm ce gb.lt
 have k0 : Apart aj.ownBlock aw.ownBlock := zD f8.symm ce gc.lt
 have gq : Apart (some p) aw.ownBlock := zJ a.apb ce gd.lt
 have k1 : Lo w (inP p L R B mm) aw.ownBlock := lo_app (PIn.lb hpin) ce di.size
 have mo : (q.bs ++ ([bm])).length = q.bs.length + 1 := List.length_append
 refine qD rfl (yU rfl) ?_
 refine qD rfl (zQ (k := 2) rfl Tryz.underlying72 rfl nz65 rfl) ?_
 refine q0 rfl rfl rfl (xA (cs' := [ac, aj, aw, (.map (some mm.f)), (.map (some mm.o)), (.map (some mm.c)), (.map (some mm.s)), (.map (some mm.n))]) (us := [aw]) (v := aw) sz65 rfl rfl (cells1 dj.one) (yF dj.one) gj.pins a9 (Nat.le_of_ble_eq_true rfl) rfl (fun mp k2 k3 ap mq => ?_))
 have k4 := gj.write k3 ap ((PIn.lp hpin))
 have k5 := kx.keptA ap cb.symm
 have k6 := ky.keptA ap dg.symm
 have k7 := dj.keptA ap gq.symm
 have k8 := gk.kept ap (yB gk a9)
 have k9 := gl.kept ap (yB gl a9)
 have la := gm.kept ap (yB gm a9)
 have lc := gn.kept ap (yB gn a9)
 have ld := gp.kept ap (yB gp a9)
 refine qe (zA (zB (zC ?_)))
 refine qM (vJ (q.bs.length : Int)) ?_
 refine qM (vJ (q.bs.length : Int)) ?_
 refine qe (zA ?_)
 refine wp_ret ?_
 refine zU ?_
 refine zT (v := (vJ (q.bs.length : Int))) rfl rfl rfl ?_
 have el : (q.ns.map Nd.l) ++ [d] = (addQ q xs ys bm).ns.map Nd.l := by rw [aq]; simp [addQ]
 have er : (q.ns.map Nd.r) ++ [g] = (addQ q xs ys bm).ns.map Nd.r := by rw [au]; simp [addQ]
 have ef : putE q.fl (b2s kxb) (q.bs.length : Int) = (addQ q xs ys bm).fl := by rw [hkey, aq, au, hok.ar.ok.len]; rfl
 have hol := k5
 have hor := k6
 have hff := k8
 rw [el] at hol
 rw [er] at hor
 rw [ef] at hff
 exact ⟨(q.bs.length : Int), ac, aj, aw, addQ q xs ys bm, da, rfl, ⟨k2, hol, hor, k7, hff, k9, la, lc, ld, cb, dg, gq, kh, kz, k0, a.df⟩, hadd.1, hadd.2.1, ⟨ju, ki, k1⟩, k4, by rw [hok.ar.ok.len]; exact hadd.2.2.1, by rw [hok.ar.ok.len]; exact hadd.2.2.2.1, hadd.2.2.2.2, rfl, Or.inr (by omega)⟩

end PO1
end Go.Proofs.YtfnginkcmcfdfaaGreatDoor

set_option maxRecDepth 20000
set_option maxHeartbeats 2000000
namespace Go.Proofs.YtfnginkcmcfdfaaGreatDoor
namespace PL1
open Go.RowKit Go.GL Go.Proofs
open Go.Proofs.YtfnginkcmcfdfaaGreatDoor.B1
open Go.Proofs.YtfnginkcmcfdfaaGreatDoor.K1
open Go.Proofs.YtfnginkcmcfdfaaGreatDoor.PO1
theorem pl72 : (Tryz.prog.underlying 72).bind (placesD Tryz.prog) = some [(0, 1), (1, 1), (2, 1), (3, 1), (4, 1), (5, 1), (6, 1), (7, 1)] := by kernel_rfl

theorem newPool_spec {w : World} {G : Pin} (hP : Pins G w) :
  Calls Tryz.prog 51 [].toArray w fun e w' => ∃ (p : Nat) (mm : PM) (G' : Pin), e = .returned (.pointer (some ⟨p, 0, none⟩)) ∧ Pk 65 3 G' w' p (.slice none 0 0) (.slice none 0 0) (.slice none 0 0) mm ⟨[], [], [], [], [], [], []⟩ ∧ (∀ k, inP p (.slice none 0 0) (.slice none 0 0) (.slice none 0 0) mm k → w.heap.size ≤ k) ∧ Ext noS G w G' w' := by
 refine zX (n := 8) Tryz.func51 Tryz.ntmps51 rfl rfl ?_
 have o : Ext noS G w G w := Ext.refl hP
 refine zB (zC ?_)
 refine qM (.pointer none) ?_
 refine qe (zA (zB (zC ?_)))
 refine qI rfl (o_makeMap (fun k : ByteArray => Value.string k) (fun v : Int => Value.int .i64 v) o.pins (fun a w2 bo z al am => ?_))
 have q := o.step al am
 have an : w.heap.size ≤ a := by have := o.size; omega
 refine qI rfl (o_makeMap encP2 (fun v : Bool => Value.bool v) q.pins (fun b bp ao aa ap ab => ?_))
 have r := q.step ap ab
 have ac := z.below ab
 have aq : Apart (some b) (some a) := zI (congrArg some ao) z.lt
 have ar : w.heap.size ≤ b := by have := q.size; omega
 refine qI rfl (o_makeMap (fun k : Int => Value.int .i64 k) (fun v : Int => Value.int .i64 v) r.pins (fun c bq ad ae au s => ?_))
 have t := r.step au s
 have af := ac.below s
 have ag := aa.below s
 have av : Apart (some c) (some a) := zI (congrArg some ad) ac.lt
 have aw : Apart (some c) (some b) := zI (congrArg some ad) aa.lt
 have ax : w.heap.size ≤ c := by have := r.size; omega
 refine qI rfl (o_makeMap encP2 (fun v : Int => Value.int .i64 v) t.pins (fun d br u ah ay l => ?_))
 have x := t.step ay l
 have ai := af.below l
 have aj := ag.below l
 have ak := ae.below l
 have az : Apart (some d) (some a) := zI (congrArg some u) af.lt
 have a0 : Apart (some d) (some b) := zI (congrArg some u) ag.lt
 have a1 : Apart (some d) (some c) := zI (congrArg some u) ae.lt
 have a2 : w.heap.size ≤ d := by have := t.size; omega
 refine qI rfl (o_makeMap (fun k : Int => Value.int .i64 k) (fun v : Int => Value.int .i64 v) x.pins (fun f bs m a3 a4 i => ?_))
 have y := x.step a4 i
 have a5 := ai.below i
 have a6 := aj.below i
 have a7 := ak.below i
 have a8 := ah.below i
 have a9 : Apart (some f) (some a) := zI (congrArg some m) ai.lt
 have ba : Apart (some f) (some b) := zI (congrArg some m) aj.lt
 have bb : Apart (some f) (some c) := zI (congrArg some m) ak.lt
 have bc : Apart (some f) (some d) := zI (congrArg some m) ah.lt
 have bd : w.heap.size ≤ f := by have := x.size; omega
 refine qD rfl (xB [(.slice none 0 0), (.slice none 0 0), (.slice none 0 0), (.map none), (.map none), (.map none), (.map none), (.map none)] [(.slice none 0 0), (.slice none 0 0), (.slice none 0 0), (.map (some a)), (.map (some b)), (.map (some c)), (.map (some d)), (.map (some f))] [(3, (.map (some a)), [(.map (some a))]), (4, (.map (some b)), [(.map (some b))]), (5, (.map (some c)), [(.map (some c))]), (6, (.map (some d)), [(.map (some d))]), (7, (.map (some f)), [(.map (some f))])] Tryz.underlying72 zr72 rfl pl72 rfl (List.forall_mem_cons.2 ⟨rfl, (List.forall_mem_cons.2 ⟨rfl, (List.forall_mem_cons.2 ⟨rfl, (List.forall_mem_cons.2 ⟨rfl, (List.forall_mem_cons.2 ⟨rfl, (fun _ h => by cases h)⟩)⟩)⟩)⟩)⟩) rfl) ?_
 refine qI rfl (o_box [(.slice none 0 0), (.slice none 0 0), (.slice none 0 0), (.map (some a)), (.map (some b)), (.map (some c)), (.map (some d)), (.map (some f))] (v := (.agg [(.slice none 0 0), (.slice none 0 0), (.slice none 0 0), (.map (some a)), (.map (some b)), (.map (some c)), (.map (some d)), (.map (some f))].toArray)) rfl rfl y.pins (fun j bt bu be bf g => ?_))
 have bg := y.step bf g
 have bh := a5.below g
 have bi := a6.below g
 have bj := a7.below g
 have bk := a8.below g
 have bl := a3.below g
 have bm : w.heap.size ≤ j := by have := y.size; omega
 refine qM (.pointer (some ⟨j, 0, none⟩)) ?_
 refine qe (zA ?_)
 refine wp_ret ?_
 refine zU ?_
 refine zT (v := (.pointer (some ⟨j, 0, none⟩))) rfl rfl rfl ?_
 have hdf : PDiff ⟨a, b, c, d, f⟩ := ⟨fun e => aq.symm _ rfl (congrArg some e.symm), fun e => av.symm _ rfl (congrArg some e.symm), fun e => az.symm _ rfl (congrArg some e.symm), fun e => a9.symm _ rfl (congrArg some e.symm), fun e => aw.symm _ rfl (congrArg some e.symm), fun e => a0.symm _ rfl (congrArg some e.symm), fun e => ba.symm _ rfl (congrArg some e.symm), fun e => a1.symm _ rfl (congrArg some e.symm), fun e => bb.symm _ rfl (congrArg some e.symm), fun e => bc.symm _ rfl (congrArg some e.symm)⟩
 have hfr : ∀ k, inP j (.slice none 0 0) (.slice none 0 0) (.slice none 0 0) ⟨a, b, c, d, f⟩ k → w.heap.size ≤ k := by rintro k (rfl | hk | hk | hk | rfl | rfl | rfl | rfl | rfl) <;> first | (cases hk; done) | exact bm | exact an | exact ar | exact ax | exact a2 | exact bd
 exact ⟨j, ⟨a, b, c, d, f⟩, _, rfl, ⟨be, (Own.nil _ _ _ _ _), (Own.nil _ _ _ _ _), (Own.nil _ _ _ _ _), bh, bi, bj, bk, bl, apart_none.symm, apart_none.symm, apart_none.symm, apart_none, apart_none, apart_none, hdf⟩, hfr, bg⟩

end PL1
end Go.Proofs.YtfnginkcmcfdfaaGreatDoor

set_option maxRecDepth 20000
set_option maxHeartbeats 2000000
namespace Go.Proofs.YtfnginkcmcfdfaaGreatDoor
namespace PA1
open Go.RowKit Go.GL Go.Proofs










theorem parts_spec {w : World} {G : Pin} {p : Nat} {L R B : Value} {mm : PM} {q : PSt} (hP : Pins G w) (hpk : Pk 65 3 G w p L R B mm q) (hok : PoolOk q) {x : Value} {xs : List Int} (hx : RSl eInt G x xs) (hr : ∀ i, i < xs.length → PlaceOk q (xs.getD i 0)) (hxl : xs.length ≤ 1048576) :
  Calls Tryz.prog 103 [(.pointer (some ⟨p, 0, none⟩)), x].toArray w fun e w' => ∃ (u : Value) (zs : List Int) (G' : Pin), e = .returned u ∧ Own eInt 3 G' w' w.heap.size u zs ∧ PtOk q xs zs zs.length ∧ Ext noS G w G' w' := by
 refine zX (n := 82) Tryz.func103 Tryz.ntmps103 rfl rfl ?_
 have bl : Ext noS G w G w := Ext.refl hP
 have hpin : PIn w (inP p L R B mm) p L R B mm := PIn.self
 have eg : (q.ns.map Nd.l).length = q.ns.length ∧ (q.ns.map Nd.r).length = q.ns.length := ⟨List.length_map .., List.length_map ..⟩
 have eh : q.bs.length = q.ns.length ∧ q.ns.length ≤ 1048576 := ⟨hok.ar.ok.len, hok.ar.ok.lim⟩
 have hm := hx.max
 refine zB (zC ?_)
 refine qM (.slice none 0 0) ?_
 refine qe (zA (zB (zC ?_)))
 refine qI rfl (o_makeMap (fun k : Int => Value.int .i64 k) (fun v : Bool => Value.bool v) bl.pins (fun m3 w4 ej cx b6 b7 => ?_))
 have bm := bl.step b6 b7
 have b8 := hpk.below b7 b6
 have b9 := hpk.new (x := some m3) (fun k hk => by cases hk; omega)
 have ca : w.heap.size ≤ m3 := by have := bl.size; omega
 refine qM (.map (some m3)) ?_
 refine qe (zA (zB (zC ?_)))
 refine qI rfl (yS (E := eInt) (e := 3) Tryz.underlying65 sz3 bm.pins (fun a5 cy cz cb bn c0 => ?_))
 have c1 := bm.step cb bn
 have c2 := cx.below bn
 have c3 := b8.below bn cb
 have c4 := b8.new (x := a5.ownBlock) (fun k hk => by rw [c0] at hk; cases hk; exact Nat.le_refl _)
 have c5 : Own eInt 3 G cy w.heap.size a5 ([]) := cz.weaken bm.size
 refine qM a5 ?_
 refine qe (zA (zB (zB (zC ?_))))
 refine qM x ?_
 refine qD rfl (zP Tryz.underlying65 (v := x) rfl hx) ?_
 refine qM (vJ 0) ?_
 refine qe (zA ?_)
 refine zZ ?_
 refine yO (fun (k : Nat) (en : Nat → Value) (W : World) => ∃ (ad : Nat → Value) (i : Nat) (lv : Value) (ls : List Int) (sn : List (Int × Bool)) (ae : Pin), en = (upd (upd (upd (upd (upd (upd (upd ad 0 (.pointer (some ⟨p, 0, none⟩))) 4 (.slice none 0 0)) 5 (.map (some m3))) 6 lv) 16 x) 17 (vJ (xs.length : Int))) 18 (vJ (i : Int))) ∧ k = xs.length - i ∧ Ext noS G w ae W ∧ Pin.le G ae ∧ (i ≤ xs.length) ∧ (PtOk q (xs.take i) ls 0) ∧ (SnOk sn ls) ∧ (Own eInt 3 ae W w.heap.size lv (ls)) ∧ (Mp (fun k : Int => Value.int .i64 k) (fun v : Bool => Value.bool v) W m3 (sn)) ∧ (Pk 65 3 ae W p L R B mm q) ∧ (NP p L R B mm lv.ownBlock)) _ ⟨_, 0, a5, [], [], G, (pS 18 (pS 17 (pS 16 (pS 6 (pS 5 (pS 4 (pU 0))))))), rfl, c1, Pin.le_refl _, Nat.zero_le _, PtOk.start, SnOk.start, c5, c2, c3, c4⟩ ?_
 rintro ek _ el ⟨ad, i, lv, ls, sn, ae, rfl, em, au, bo, hi, hpt, hsn, a6, av, bp, a7⟩
 have eo := hpt.len
 refine zB (zC ?_)
 refine qD rfl (yM rfl rfl) ?_
 refine qe (zA (zB ?_))
 refine yD (p := ((i : Int) : Int) < (xs.length : Int)) rfl rfl (fun c6 => ?_) (fun c6 => ?_)
 ·skip
  refine wp_skip ?_
  refine zA (zB ?_)
  refine zZ ?_
  refine zB (zC ?_)
  refine qD rfl (zN Tryz.underlying65 sz3 (v := x) rfl rfl hx (by omega) (by omega)) ?_
  refine qD rfl (zK (r := xs.getD i 0) rfl ag3 (z := (i : Int)) rfl hx (Pins.of_le au.pins bo) (by omega) (by omega)) ?_
  refine qM (vJ (xs.getD i 0)) ?_
  refine qe (zA (zB (zC ?_)))
  refine qM (.map (some m3)) ?_
  refine qM (vJ (xs.getD i 0)) ?_
  refine qD rfl (run_look1_bool (k := (xs.getD i 0)) (key_int Tryz.underlying3) Tryz.underlying147 zr4 av rfl rfl) ?_
  refine qD rfl (r_not rfl) ?_
  refine qe (zA ?_)
  refine c_ifn rfl rfl (fun bq => ?_) (fun bq => ?_)
  ·skip
   refine wp_skip ?_
   refine yG ?_
   refine zA (zC ?_)
   refine qD rfl (yL rfl rfl (by omega)) ?_
   refine qM (vJ ((i : Int) + 1)) ?_
   refine qe ?_
   refine yH ?_
   refine ⟨_, ?_, _, rfl, _, i + 1, lv, ls, sn, ae, (pS 18 (pS 17 (pS 16 (pS 6 (pS 5 (pS 4 (pU 0))))))), rfl, au, bo, (by omega), (hpt.rseen (by omega) (hsn.yes bq)), hsn, a6, av, bp, a7⟩
   omega
  refine zB (zC ?_)
  refine qM (.map (some m3)) ?_
  refine qM (vJ (xs.getD i 0)) ?_
  refine q0 rfl rfl rfl (qL (val := (fun v : Bool => Value.bool v)) (k := (xs.getD i 0)) (v := true) (key_int Tryz.underlying3) Tryz.underlying147 rfl rfl rfl au.pins av (fun ep c7 cc br eq => ?_))
  have bt := au.write cc br ((yN ca))
  have c8 := a6.keptA br (zO av a6).symm
  have c9 := bp.kept br cc b9
  refine qe (zA (zC ?_))
  refine qM lv ?_
  refine qM (vJ (xs.getD i 0)) ?_
  refine qI rfl (yE (E := eInt) (e := 3) [(vJ (xs.getD i 0))] [xs.getD i 0] Tryz.underlying65 sz3 zr3 (by exact xF (by rfl)) (yF (by rfl)) rfl rfl rfl rfl (by decide) bt.pins (fun cd da db ce a8 er => ?_))
  have bu := bt.step ce a8
  have bv := c8.below a8
  have cf := c7.below a8
  have cg := c9.below a8 ce
  have dc : Own eInt 3 ae da w.heap.size cd ([xs.getD i 0]) := db.weaken bt.size
  refine qI rfl (oA (E := eInt) (v := lv) (u := cd) 8 Tryz.underlying65 ap3 (by decide) rfl rfl bu.pins bv dc.src (bu.size) (fun ch es dd ci bw de => ?_))
  have df := bu.write ci bw ((zY bv))
  have dg := cf.kept bw (zO cf bv)
  have dh := cg.kept bw ci a7
  have di := np_app a7 cg de
  have et : (ls ++ ([xs.getD i 0])).length = ls.length + 1 := List.length_append
  refine qM ch ?_
  refine qe ?_
  refine yG ?_
  refine zA (zC ?_)
  refine qD rfl (yL rfl rfl (by omega)) ?_
  refine qM (vJ ((i : Int) + 1)) ?_
  refine qe ?_
  refine yH ?_
  refine ⟨_, ?_, _, rfl, _, i + 1, ch, ls ++ ([xs.getD i 0]), putE sn (xs.getD i 0) true, ae, (pS 18 (pS 17 (pS 16 (pS 6 (pS 5 (pS 4 (pU 0))))))), rfl, df, bo, (by omega), (hpt.rnew (by omega) (hsn.no bq) (hr i (by omega))), hsn.put, dd, dg, dh, di⟩
  omega
 refine wp_exit ?_
 refine yC ?_
 refine yK ?_
 refine yI ?_
 refine zA (zB (zB (zC ?_)))
 refine qM (vJ 0) ?_
 refine qe (zA ?_)
 refine zZ ?_
 have hin : i = xs.length := by omega
 rw [hin, xU (Nat.le_refl _)] at hpt
 refine yO (fun (k : Nat) (en : Nat → Value) (W : World) => ∃ (ad : Nat → Value) (a : Nat) (ab : Value) (b : List Int) (a9 : List (Int × Bool)) (af : Pin), en = (upd (upd (upd (upd (upd ad 0 (.pointer (some ⟨p, 0, none⟩))) 4 (.slice none 0 0)) 5 (.map (some m3))) 6 ab) 9 (vJ (a : Int))) ∧ k = q.ns.length - a ∧ Ext noS G w af W ∧ Pin.le ae af ∧ (PtOk q xs b a) ∧ (SnOk a9 b) ∧ (Own eInt 3 af W w.heap.size ab (b)) ∧ (Mp (fun k : Int => Value.int .i64 k) (fun v : Bool => Value.bool v) W m3 (a9)) ∧ (Pk 65 3 af W p L R B mm q) ∧ (NP p L R B mm ab.ownBlock)) _ ⟨_, 0, lv, ls, sn, ae, (pS 9 (pS 6 (pS 5 (pS 4 (pU 0))))), rfl, au, Pin.le_refl _, hpt, hsn, a6, av, bp, a7⟩ ?_
 rintro eu _ al ⟨ad, a, ab, b, a9, af, rfl, ev, am, dj, an, dk, ba, dl, aw, dm⟩
 have ew := an.len
 have ex := an.kl
 refine zB (zB (zC ?_))
 refine qM (vJ (a : Int)) ?_
 refine qM ab ?_
 refine qD rfl (zP Tryz.underlying65 (v := ab) rfl ba.read) ?_
 refine qD rfl (yM rfl rfl) ?_
 refine qe (zA ?_)
 refine yD (p := ((a : Int) : Int) < (b.length : Int)) rfl rfl (fun dn => ?_) (fun dn => ?_)
 ·skip
  have hzp := an.pl _ (yQ (d := (0 : Int)) (show a < b.length by omega))
  have ey := hzp.1
  have ez := hzp.2
  have holl := hok.ar.ok.lens (b.getD a 0).toNat (by omega)
  refine wp_skip ?_
  refine zA (zB ?_)
  refine zZ ?_
  refine zB ?_
  have dp := Gadd.pins am.pins ab
  have dq := Gadd.pins am.pins L
  have dr := Gadd.pins am.pins R
  have bb := ba.read
  have ds := aw.ol.read
  have dt := aw.rr.read
  refine xI (S := fun wz => BxR wz p [L, R, B, (.map (some mm.f)), (.map (some mm.o)), (.map (some mm.c)), (.map (some mm.s)), (.map (some mm.n))] ∧ Pins (Gadd af al ab) wz ∧ Pins (Gadd af al L) wz ∧ Pins (Gadd af al R) wz) (last := 22) (by kernel_rfl) rfl ?_
  have ai : Below al.heap.size al al.drew := (Below.refl _ _).drew
  have cj := am.pins.below ai
  have du := am.step cj ai
  have dv := ba.below ai
  have dw := dl.below ai
  have g := aw.below ai cj
  have t := dp.below ai
  have y := dq.below ai
  have aa := dr.below ai
  refine dT (i := 0) rfl rfl (by kernel_rfl) (fun _ _ => zR (v := (.pointer (some ⟨p, 0, none⟩))) rfl) ⟨g.bx.reads, t, y, aa⟩ ?_
  refine dT (i := 1) rfl rfl (by kernel_rfl) (fun _ _ => yU rfl) ⟨g.bx.reads, t, y, aa⟩ ?_
  refine dT (i := 2) rfl rfl (by kernel_rfl) (fun _ _ => zQ (k := 0) rfl Tryz.underlying72 rfl nz66 rfl) ⟨g.bx.reads, t, y, aa⟩ ?_
  refine dT (i := 3) rfl rfl (by kernel_rfl) (fun _ hS => zS (u := L) ag66 rfl (hS.1 0 _ rfl)) ⟨g.bx.reads, t, y, aa⟩ ?_
  refine dT (i := 4) rfl rfl (by kernel_rfl) (fun _ _ => zR (v := ab) rfl) ⟨g.bx.reads, t, y, aa⟩ ?_
  refine dT (i := 5) rfl rfl (by kernel_rfl) (fun _ _ => zR (v := (vJ (a : Int))) rfl) ⟨g.bx.reads, t, y, aa⟩ ?_
  refine dT (i := 6) rfl rfl (by kernel_rfl) (fun _ _ => zN Tryz.underlying65 sz3 (v := ab) rfl rfl bb (by omega) (by omega)) ⟨g.bx.reads, t, y, aa⟩ ?_
  refine dT (i := 7) rfl rfl (by kernel_rfl) (fun _ hS => zK (r := b.getD a 0) rfl ag3 (z := (a : Int)) rfl bb hS.2.1 (by omega) (by omega)) ⟨g.bx.reads, t, y, aa⟩ ?_
  refine dT (i := 8) rfl rfl (by kernel_rfl) (fun _ _ => zN Tryz.underlying66 sz65 (v := L) rfl rfl ds (by omega) (by omega)) ⟨g.bx.reads, t, y, aa⟩ ?_
  obtain ⟨ax, bc, dx⟩ := nm_sl (aw.ol.at (z := (b.getD a 0)) (by omega) (by omega)) (j := (b.getD a 0).toNat) rfl
  rw [mapl_getD] at bc
  have e0 := bc.max
  refine dT (i := 9) rfl rfl (by kernel_rfl) (fun _ hS => dx ag65 rfl hS.2.2.1) ⟨g.bx.reads, t, y, aa⟩ ?_
  refine dT (i := 10) rfl rfl (by kernel_rfl) (fun _ _ => zR (v := (.pointer (some ⟨p, 0, none⟩))) rfl) ⟨g.bx.reads, t, y, aa⟩ ?_
  refine dT (i := 11) rfl rfl (by kernel_rfl) (fun _ _ => yU rfl) ⟨g.bx.reads, t, y, aa⟩ ?_
  refine dT (i := 12) rfl rfl (by kernel_rfl) (fun _ _ => zQ (k := 1) rfl Tryz.underlying72 rfl nz66 rfl) ⟨g.bx.reads, t, y, aa⟩ ?_
  refine dT (i := 13) rfl rfl (by kernel_rfl) (fun _ hS => zS (u := R) ag66 rfl (hS.1 1 _ rfl)) ⟨g.bx.reads, t, y, aa⟩ ?_
  refine dT (i := 14) rfl rfl (by kernel_rfl) (fun _ _ => zR (v := ab) rfl) ⟨g.bx.reads, t, y, aa⟩ ?_
  refine dT (i := 15) rfl rfl (by kernel_rfl) (fun _ _ => zR (v := (vJ (a : Int))) rfl) ⟨g.bx.reads, t, y, aa⟩ ?_
  refine dT (i := 16) rfl rfl (by kernel_rfl) (fun _ _ => zN Tryz.underlying65 sz3 (v := ab) rfl rfl bb (by omega) (by omega)) ⟨g.bx.reads, t, y, aa⟩ ?_
  refine dT (i := 17) rfl rfl (by kernel_rfl) (fun _ hS => zK (r := b.getD a 0) rfl ag3 (z := (a : Int)) rfl bb hS.2.1 (by omega) (by omega)) ⟨g.bx.reads, t, y, aa⟩ ?_
  refine dT (i := 18) rfl rfl (by kernel_rfl) (fun _ _ => zN Tryz.underlying66 sz65 (v := R) rfl rfl dt (by omega) (by omega)) ⟨g.bx.reads, t, y, aa⟩ ?_
  obtain ⟨ay, bd, dy⟩ := nm_sl (aw.rr.at (z := (b.getD a 0)) (by omega) (by omega)) (j := (b.getD a 0).toNat) rfl
  rw [mapr_getD] at bd
  have e1 := bd.max
  refine dT (i := 19) rfl rfl (by kernel_rfl) (fun _ hS => dy ag65 rfl hS.2.2.2) ⟨g.bx.reads, t, y, aa⟩ ?_
  refine dT (i := 20) rfl rfl (by kernel_rfl) (fun _ _ => r_buildA (m := 1) [(.slice none 0 0), (.slice none 0 0)] [ax, ay] [(0, ax, [ax]), (1, ay, [ay])] Tryz.underlying148 zr148 rfl sz65 rfl (List.forall_mem_cons.2 ⟨(yP bc.one), (List.forall_mem_cons.2 ⟨(yP bd.one), (fun _ h => by cases h)⟩)⟩) rfl) ⟨g.bx.reads, t, y, aa⟩ ?_
  refine dT (i := 21) rfl rfl (by kernel_rfl) (fun _ _ => zR (v := (vJ 0)) rfl) ⟨g.bx.reads, t, y, aa⟩ ?_
  refine yT (by kernel_rfl) ?_
  refine zA ?_
  refine zZ ?_
  refine yO (fun (k : Nat) (en : Nat → Value) (W : World) => ∃ (ad : Nat → Value) (s : Nat) (ao : Value) (ap : List Int) (az : List (Int × Bool)) (aj : Pin), en = (upd (upd (upd (upd (upd (upd (upd ad 0 (.pointer (some ⟨p, 0, none⟩))) 4 (.slice none 0 0)) 5 (.map (some m3))) 6 ao) 9 (vJ (a : Int))) 59 (.agg [ax, ay].toArray)) 60 (vJ (s : Int))) ∧ k = 2 - s ∧ Ext noS G w aj W ∧ Pin.le af aj ∧ (s ≤ 2) ∧ (PtIn q xs ap a (b.getD a 0) (dzL (q.ns.getD (b.getD a 0).toNat default).l (q.ns.getD (b.getD a 0).toNat default).r s)) ∧ (SnOk az ap) ∧ (Own eInt 3 aj W w.heap.size ao (ap)) ∧ (Mp (fun k : Int => Value.int .i64 k) (fun v : Bool => Value.bool v) W m3 (az)) ∧ (Pk 65 3 aj W p L R B mm q) ∧ (NP p L R B mm ao.ownBlock)) _ ⟨_, 0, ab, b, a9, af, (pS 60 (pS 59 (pS 9 (pS 6 (pS 5 (pS 4 (pU 0))))))), rfl, du, Pin.le_refl _, Nat.zero_le _, (PtIn.start an (by omega)), dk, dv, dw, g, dm⟩ ?_
  rintro e2 _ e3 ⟨ad, s, ao, ap, az, aj, rfl, e4, ck, be, hs, bf, cl, cm, cn, co, cp⟩
  have e5 := bf.ok.len
  refine zB (zC ?_)
  refine qD rfl (yM rfl rfl) ?_
  refine qe (zA (zB ?_))
  refine yD (p := ((s : Int) : Int) < 2) rfl rfl (fun dz => ?_) (fun dz => ?_)
  ·skip
   refine wp_skip ?_
   refine zA (zB ?_)
   refine zZ ?_
   refine zB (zC ?_)
   obtain ⟨a0, bg, d0⟩ := name_index2 (bc.mono be) (bd.mono be) (z := (s : Int)) s (by omega) (by omega) rfl
   have e6 := bg.max
   refine qD rfl (d0 Tryz.underlying148 rfl sz65 ag65 rfl rfl) ?_
   refine qM a0 ?_
   refine qe (zA (zB (zC ?_)))
   refine qM a0 ?_
   refine qD rfl (zP Tryz.underlying65 (v := a0) rfl bg) ?_
   refine qM (vJ 0) ?_
   refine qe (zA ?_)
   refine zZ ?_
   refine yO (fun (k : Nat) (en : Nat → Value) (W : World) => ∃ (ad : Nat → Value) (j : Nat) (ak : Value) (ag : List Int) (aq : List (Int × Bool)) (ah : Pin), en = (upd (upd (upd (upd (upd (upd (upd (upd (upd (upd ad 0 (.pointer (some ⟨p, 0, none⟩))) 4 (.slice none 0 0)) 5 (.map (some m3))) 6 ak) 9 (vJ (a : Int))) 59 (.agg [ax, ay].toArray)) 60 (vJ (s : Int))) 63 a0) 64 (vJ ((pick2 s ((q.ns.getD (b.getD a 0).toNat default).l) ((q.ns.getD (b.getD a 0).toNat default).r)).length : Int))) 65 (vJ (j : Int))) ∧ k = (pick2 s (q.ns.getD (b.getD a 0).toNat default).l (q.ns.getD (b.getD a 0).toNat default).r).length - j ∧ Ext noS G w ah W ∧ Pin.le aj ah ∧ (j ≤ (pick2 s (q.ns.getD (b.getD a 0).toNat default).l (q.ns.getD (b.getD a 0).toNat default).r).length) ∧ (PtIn q xs ag a (b.getD a 0) (dzL (q.ns.getD (b.getD a 0).toNat default).l (q.ns.getD (b.getD a 0).toNat default).r s ++ (pick2 s (q.ns.getD (b.getD a 0).toNat default).l (q.ns.getD (b.getD a 0).toNat default).r).take j)) ∧ (SnOk aq ag) ∧ (Own eInt 3 ah W w.heap.size ak (ag)) ∧ (Mp (fun k : Int => Value.int .i64 k) (fun v : Bool => Value.bool v) W m3 (aq)) ∧ (Pk 65 3 ah W p L R B mm q) ∧ (NP p L R B mm ak.ownBlock)) _ ⟨_, 0, ao, ap, az, aj, (pS 65 (pS 64 (pS 63 (pS 60 (pS 59 (pS 9 (pS 6 (pS 5 (pS 4 (pU 0)))))))))), rfl, ck, Pin.le_refl _, Nat.zero_le _, (by rw [List.take_zero, List.append_nil]; exact bf), cl, cm, cn, co, cp⟩ ?_
   rintro e7 _ e8 ⟨ad, j, ak, ag, aq, ah, rfl, e9, a1, bh, hj, a2, a3, bi, a4, bz, bj⟩
   have fa := a2.ok.len
   refine zB (zC ?_)
   refine qD rfl (yM rfl rfl) ?_
   refine qe (zA (zB ?_))
   refine yD (p := ((j : Int) : Int) < ((pick2 s ((q.ns.getD (b.getD a 0).toNat default).l) ((q.ns.getD (b.getD a 0).toNat default).r)).length : Int)) rfl rfl (fun d1 => ?_) (fun d1 => ?_)
   ·skip
    refine wp_skip ?_
    refine zA (zB ?_)
    refine zZ ?_
    refine zB (zC ?_)
    refine qD rfl (zN Tryz.underlying65 sz3 (v := a0) rfl rfl bg (by omega) (by omega)) ?_
    refine qD rfl (zK (r := (pick2 s ((q.ns.getD (b.getD a 0).toNat default).l) ((q.ns.getD (b.getD a 0).toNat default).r)).getD j 0) rfl ag3 (z := (j : Int)) rfl bg (Pins.of_le a1.pins bh) (by omega) (by omega)) ?_
    refine qM (vJ ((pick2 s ((q.ns.getD (b.getD a 0).toNat default).l) ((q.ns.getD (b.getD a 0).toNat default).r)).getD j 0)) ?_
    refine qe (zA (zB (zC ?_)))
    refine qM (.map (some m3)) ?_
    refine qM (vJ ((pick2 s ((q.ns.getD (b.getD a 0).toNat default).l) ((q.ns.getD (b.getD a 0).toNat default).r)).getD j 0)) ?_
    refine qD rfl (run_look1_bool (k := ((pick2 s ((q.ns.getD (b.getD a 0).toNat default).l) ((q.ns.getD (b.getD a 0).toNat default).r)).getD j 0)) (key_int Tryz.underlying3) Tryz.underlying147 zr4 a4 rfl rfl) ?_
    refine qD rfl (r_not rfl) ?_
    refine qe (zA ?_)
    refine c_ifn rfl rfl (fun b0 => ?_) (fun b0 => ?_)
    ·skip
     refine wp_skip ?_
     refine yG ?_
     refine zA (zC ?_)
     refine qD rfl (yL rfl rfl (by omega)) ?_
     refine qM (vJ ((j : Int) + 1)) ?_
     refine qe ?_
     refine yH ?_
     refine ⟨_, ?_, _, rfl, _, j + 1, ak, ag, aq, ah, (pS 65 (pS 64 (pS 63 (pS 60 (pS 59 (pS 9 (pS 6 (pS 5 (pS 4 (pU 0)))))))))), rfl, a1, bh, (by omega), (by rw [xS _ 0 (show j < (pick2 s (q.ns.getD (b.getD a 0).toNat default).l (q.ns.getD (b.getD a 0).toNat default).r).length by omega), ← List.append_assoc]; exact a2.seen (a3.yes b0)), a3, bi, a4, bz, bj⟩
     omega
    refine zB (zC ?_)
    refine qM (.map (some m3)) ?_
    refine qM (vJ ((pick2 s ((q.ns.getD (b.getD a 0).toNat default).l) ((q.ns.getD (b.getD a 0).toNat default).r)).getD j 0)) ?_
    refine q0 rfl rfl rfl (qL (val := (fun v : Bool => Value.bool v)) (k := ((pick2 s ((q.ns.getD (b.getD a 0).toNat default).l) ((q.ns.getD (b.getD a 0).toNat default).r)).getD j 0)) (v := true) (key_int Tryz.underlying3) Tryz.underlying147 rfl rfl rfl a1.pins a4 (fun fb d2 cq b1 fc => ?_))
    have b2 := a1.write cq b1 ((yN ca))
    have d3 := bi.keptA b1 (zO a4 bi).symm
    have d4 := bz.kept b1 cq b9
    refine qe (zA (zC ?_))
    refine qM ak ?_
    refine qM (vJ ((pick2 s ((q.ns.getD (b.getD a 0).toNat default).l) ((q.ns.getD (b.getD a 0).toNat default).r)).getD j 0)) ?_
    refine qI rfl (yE (E := eInt) (e := 3) [(vJ ((pick2 s ((q.ns.getD (b.getD a 0).toNat default).l) ((q.ns.getD (b.getD a 0).toNat default).r)).getD j 0))] [(pick2 s ((q.ns.getD (b.getD a 0).toNat default).l) ((q.ns.getD (b.getD a 0).toNat default).r)).getD j 0] Tryz.underlying65 sz3 zr3 (by exact xF (by rfl)) (yF (by rfl)) rfl rfl rfl rfl (by decide) b2.pins (fun cr d5 d6 cs bk fd => ?_))
    have b3 := b2.step cs bk
    have b4 := d3.below bk
    have ct := d2.below bk
    have cu := d4.below bk cs
    have d7 : Own eInt 3 ah d5 w.heap.size cr ([(pick2 s ((q.ns.getD (b.getD a 0).toNat default).l) ((q.ns.getD (b.getD a 0).toNat default).r)).getD j 0]) := d6.weaken b2.size
    refine qI rfl (oA (E := eInt) (v := ak) (u := cr) 8 Tryz.underlying65 ap3 (by decide) rfl rfl b3.pins b4 d7.src (b3.size) (fun cv fe d8 cw b5 d9 => ?_))
    have ea := b3.write cw b5 ((zY b4))
    have eb := ct.kept b5 (zO ct b4)
    have ec := cu.kept b5 cw bj
    have ed := np_app bj cu d9
    have ff : (ag ++ ([(pick2 s ((q.ns.getD (b.getD a 0).toNat default).l) ((q.ns.getD (b.getD a 0).toNat default).r)).getD j 0])).length = ag.length + 1 := List.length_append
    refine qM cv ?_
    refine qe ?_
    refine yG ?_
    refine zA (zC ?_)
    refine qD rfl (yL rfl rfl (by omega)) ?_
    refine qM (vJ ((j : Int) + 1)) ?_
    refine qe ?_
    refine yH ?_
    refine ⟨_, ?_, _, rfl, _, j + 1, cv, ag ++ ([(pick2 s ((q.ns.getD (b.getD a 0).toNat default).l) ((q.ns.getD (b.getD a 0).toNat default).r)).getD j 0]), putE aq ((pick2 s ((q.ns.getD (b.getD a 0).toNat default).l) ((q.ns.getD (b.getD a 0).toNat default).r)).getD j 0) true, ah, (pS 65 (pS 64 (pS 63 (pS 60 (pS 59 (pS 9 (pS 6 (pS 5 (pS 4 (pU 0)))))))))), rfl, ea, bh, (by omega), (by rw [xS _ 0 (show j < (pick2 s (q.ns.getD (b.getD a 0).toNat default).l (q.ns.getD (b.getD a 0).toNat default).r).length by omega), ← List.append_assoc]; exact a2.new hok (a3.no b0) (dz_in (by omega) (by omega))), a3.put, d8, eb, ec, ed⟩
    omega
   have hjn : j = (pick2 s (q.ns.getD (b.getD a 0).toNat default).l (q.ns.getD (b.getD a 0).toNat default).r).length := by omega
   rw [hjn, xU (Nat.le_refl _)] at a2
   have ee : PtIn q xs ag a (b.getD a 0) (dzL (q.ns.getD (b.getD a 0).toNat default).l (q.ns.getD (b.getD a 0).toNat default).r (s + 1)) := by rw [dz_next (by omega)]; exact a2
   refine wp_exit ?_
   refine yC ?_
   refine yK ?_
   refine yI ?_
   refine yG ?_
   refine zA (zC ?_)
   refine qD rfl (yL rfl rfl (by omega)) ?_
   refine qM (vJ ((s : Int) + 1)) ?_
   refine qe ?_
   refine yH ?_
   refine ⟨_, ?_, _, rfl, _, s + 1, ak, ag, aq, ah, (pS 60 (pS 59 (pS 9 (pS 6 (pS 5 (pS 4 (pU 0))))))), rfl, a1, (Pin.le_trans be bh), (by omega), ee, a3, bi, a4, bz, bj⟩
   omega
  have ef : s = 2 := by omega
  rw [ef] at bf
  have hdone := bf.done (fun o ho => ho)
  have fg := hdone.kl
  refine wp_exit ?_
  refine yC ?_
  refine yK ?_
  refine yI ?_
  refine yG ?_
  refine zA (zC ?_)
  refine qM (vJ (a : Int)) ?_
  refine qD rfl (yL rfl rfl (by omega)) ?_
  refine qM (vJ ((a : Int) + 1)) ?_
  refine qe ?_
  refine yH ?_
  refine ⟨_, ?_, _, rfl, _, a + 1, ao, ap, az, aj, (pS 9 (pS 6 (pS 5 (pS 4 (pU 0))))), rfl, ck, (Pin.le_trans dj be), hdone, cl, cm, cn, co, cp⟩
  omega
 refine wp_exit ?_
 refine yC ?_
 refine yK ?_
 refine yI ?_
 refine zA (zB (zC ?_))
 refine qM ab ?_
 refine qM ab ?_
 refine qe (zA ?_)
 refine wp_ret ?_
 refine zU ?_
 refine zT (v := ab) rfl rfl rfl ?_
 have hkk : a = b.length := by omega
 rw [hkk] at an
 exact ⟨_, _, _, rfl, ba, an, am⟩

end PA1
end Go.Proofs.YtfnginkcmcfdfaaGreatDoor

set_option maxRecDepth 20000
set_option maxHeartbeats 2000000
namespace Go.Proofs.YtfnginkcmcfdfaaGreatDoor
namespace SO1
open Go.RowKit Go.GL Go.Proofs
open Go.Proofs.YtfnginkcmcfdfaaGreatDoor.B1










theorem cmpB_spec {w : World} {G : Pin} {p : Nat} {L R B : Value} {mm : PM} {q : PSt} (hP : Pins G w) (hpk : Pk 65 3 G w p L R B mm q) (hok : PoolOk q) {bx : Nat} (hbx : BxP G bx [.pointer (some ⟨p, 0, none⟩)]) {a b : Int} (ha : PlaceOk q a) (hb : PlaceOk q b) :
  Calls Tryz.prog 116 [(vJ a), (vJ b), (.pointer (some ⟨bx, 0, none⟩))].toArray w fun e w' => e = .returned (vJ (cmpI (bn q a) (bn q b))) ∧ ∃ n os, w' = Go.Sort.grow (w.drewN n) os := by
 refine zX (n := 21) Tryz.func116 Tryz.ntmps116 rfl rfl ?_
 have t : Ext noS G w G w := Ext.refl hP
 have hpin : PIn w (inP p L R B mm) p L R B mm := PIn.self
 have aa : (q.ns.map Nd.l).length = q.ns.length ∧ (q.ns.map Nd.r).length = q.ns.length := ⟨List.length_map .., List.length_map ..⟩
 have ab : q.bs.length = q.ns.length ∧ q.ns.length ≤ 1048576 := ⟨hok.ar.ok.len, hok.ar.ok.lim⟩
 have ac := ha.1
 have ad := ha.2
 have ae := hb.1
 have af := hb.2
 refine zB (zC ?_)
 refine qM (vJ 0) ?_
 refine qe (zA (zB ?_))
 have y := Gadd.pins t.pins B
 have j := hpk.ob.read
 refine xI (S := fun wz => Pins G wz ∧ BxR wz p [L, R, B, (.map (some mm.f)), (.map (some mm.o)), (.map (some mm.c)), (.map (some mm.s)), (.map (some mm.n))] ∧ Pins (Gadd G w B) wz) (last := 16) (by kernel_rfl) rfl ?_
 have m : Below w.heap.size w w.drew := (Below.refl _ _).drew
 have x := t.pins.below m
 have ag : w.drew.drawn = w.drawn + 1 := rfl
 have d := t.step x m
 have g := hpk.below m x
 have h := y.below m
 refine dT (i := 0) rfl rfl (by kernel_rfl) (fun _ hS => zS (u := (.pointer (some ⟨p, 0, none⟩))) ag61 rfl (hS.1 _ _ _ (hbx 0 _ rfl))) ⟨d.pins, g.bx.reads, h⟩ ?_
 refine dT (i := 1) rfl rfl (by kernel_rfl) (fun _ _ => yU rfl) ⟨d.pins, g.bx.reads, h⟩ ?_
 refine dT (i := 2) rfl rfl (by kernel_rfl) (fun _ _ => zQ (k := 2) rfl Tryz.underlying72 rfl nz65 rfl) ⟨d.pins, g.bx.reads, h⟩ ?_
 refine dT (i := 3) rfl rfl (by kernel_rfl) (fun _ hS => zS (u := B) ag65 rfl (hS.2.1 2 _ rfl)) ⟨d.pins, g.bx.reads, h⟩ ?_
 refine dT (i := 4) rfl rfl (by kernel_rfl) (fun _ _ => zR (v := (vJ a)) rfl) ⟨d.pins, g.bx.reads, h⟩ ?_
 refine dT (i := 5) rfl rfl (by kernel_rfl) (fun _ _ => zN Tryz.underlying65 sz3 (v := B) rfl rfl j (by omega) (by omega)) ⟨d.pins, g.bx.reads, h⟩ ?_
 refine dT (i := 6) rfl rfl (by kernel_rfl) (fun _ hS => zK (r := q.bs.getD (a).toNat 0) rfl ag3 (z := a) rfl j hS.2.2 (by omega) (by omega)) ⟨d.pins, g.bx.reads, h⟩ ?_
 refine dT (i := 7) rfl rfl (by kernel_rfl) (fun _ hS => zS (u := (.pointer (some ⟨p, 0, none⟩))) ag61 rfl (hS.1 _ _ _ (hbx 0 _ rfl))) ⟨d.pins, g.bx.reads, h⟩ ?_
 refine dT (i := 8) rfl rfl (by kernel_rfl) (fun _ _ => yU rfl) ⟨d.pins, g.bx.reads, h⟩ ?_
 refine dT (i := 9) rfl rfl (by kernel_rfl) (fun _ _ => zQ (k := 2) rfl Tryz.underlying72 rfl nz65 rfl) ⟨d.pins, g.bx.reads, h⟩ ?_
 refine dT (i := 10) rfl rfl (by kernel_rfl) (fun _ hS => zS (u := B) ag65 rfl (hS.2.1 2 _ rfl)) ⟨d.pins, g.bx.reads, h⟩ ?_
 refine dT (i := 11) rfl rfl (by kernel_rfl) (fun _ _ => zR (v := (vJ b)) rfl) ⟨d.pins, g.bx.reads, h⟩ ?_
 refine dT (i := 12) rfl rfl (by kernel_rfl) (fun _ _ => zN Tryz.underlying65 sz3 (v := B) rfl rfl j (by omega) (by omega)) ⟨d.pins, g.bx.reads, h⟩ ?_
 refine dT (i := 13) rfl rfl (by kernel_rfl) (fun _ hS => zK (r := q.bs.getD (b).toNat 0) rfl ag3 (z := b) rfl j hS.2.2 (by omega) (by omega)) ⟨d.pins, g.bx.reads, h⟩ ?_
 refine dO (i := 14) (zW (i := 14) rfl rfl rfl (zG rfl _) (zL (vs := [(vJ (q.bs.getD (a).toNat 0)), (vJ (q.bs.getD (b).toNat 0))]) Tryz.func97 nm97 rfl rfl rfl ?_))
 refine Calls.mono (cmpCompare_spec d.pins) ?_
 rintro _ _ ⟨rfl, rfl⟩
 refine ⟨_, rfl, ?_⟩
 refine ⟨fun _ => ⟨d.pins, g.bx.reads, h⟩, ?_⟩
 refine dT (i := 15) rfl rfl (by kernel_rfl) (fun _ _ => qG (v := (vJ (cmpI (q.bs.getD (a).toNat 0) (q.bs.getD (b).toNat 0)))) rfl) ⟨d.pins, g.bx.reads, h⟩ ?_
 refine yT (by kernel_rfl) ?_
 refine zA ?_
 refine wp_ret ?_
 refine zU ?_
 refine zT (v := (vJ (cmpI (q.bs.getD (a).toNat 0) (q.bs.getD (b).toNat 0)))) rfl rfl rfl ?_
 exact ⟨rfl, grow_of d.below (by omega)⟩

theorem cmpE_spec {w : World} {G : Pin} {x y : Ent} (hP : Pins G w) (hx : EntOk G x) (hy : EntOk G y) :
  Calls Tryz.prog 119 [(.agg [(vJ x.id), x.l, x.r].toArray), (.agg [(vJ y.id), y.l, y.r].toArray)].toArray w fun e w' => e = .returned (vJ (orL [cmpL x.nd.l y.nd.l, cmpL x.nd.r y.nd.r])) ∧ ∃ n os, w' = Go.Sort.grow (w.drewN n) os := by
 refine zX (n := 21) Tryz.func119 Tryz.ntmps119 rfl rfl ?_
 have g : Ext noS G w G w := Ext.refl hP
 refine zB (zC ?_)
 refine qI rfl (o_boxd [(vJ x.id), x.l, x.r] (v := (.agg [(vJ x.id), x.l, x.r].toArray)) rfl rfl g.pins (fun b1 w2 aw ax ab ac ad => ?_))
 have ae := g.step ac ad
 have af : w.heap.size ≤ b1 := by have := g.size; omega
 obtain ⟨ay, d, h, j, az⟩ := ab.shut ae af
 refine qI rfl (o_boxd [(vJ y.id), y.l, y.r] (v := (.agg [(vJ y.id), y.l, y.r].toArray)) rfl rfl h.pins (fun ag c a0 a1 ah ai aj => ?_))
 have ak := h.step ai aj
 have al : w.heap.size ≤ ag := by have := h.size; omega
 obtain ⟨m, b, o, p, a2⟩ := ah.shut ak al
 refine qM (vJ 0) ?_
 refine qe (zA (zB ?_))
 refine xI (S := fun wz => Pins m wz) (last := 17) (by kernel_rfl) rfl ?_
 have q : Below c.heap.size c c.drew := (Below.refl _ _).drew
 have am := o.pins.below q
 have a3 : c.drew.drawn = c.drawn + 1 := rfl
 have a := o.step am q
 refine dT (i := 0) rfl rfl (by kernel_rfl) (fun _ _ => zQ (k := 1) rfl Tryz.underlying124 rfl nz99 rfl) a.pins ?_
 refine dT (i := 1) rfl rfl (by kernel_rfl) (fun _ _ => zQ (k := 1) rfl Tryz.underlying99 rfl nz65 rfl) a.pins ?_
 refine dT (i := 2) rfl rfl (by kernel_rfl) (fun _ hS => zS (u := x.l) ag65 rfl ((Pins.of_le hS b) _ _ _ (j 1 _ rfl))) a.pins ?_
 refine dT (i := 3) rfl rfl (by kernel_rfl) (fun _ _ => zQ (k := 1) rfl Tryz.underlying124 rfl nz99 rfl) a.pins ?_
 refine dT (i := 4) rfl rfl (by kernel_rfl) (fun _ _ => zQ (k := 1) rfl Tryz.underlying99 rfl nz65 rfl) a.pins ?_
 refine dT (i := 5) rfl rfl (by kernel_rfl) (fun _ hS => zS (u := y.l) ag65 rfl (hS _ _ _ (p 1 _ rfl))) a.pins ?_
 refine dT (i := 7) rfl rfl (by kernel_rfl) (fun _ _ => zQ (k := 1) rfl Tryz.underlying124 rfl nz99 rfl) a.pins ?_
 refine dT (i := 8) rfl rfl (by kernel_rfl) (fun _ _ => zQ (k := 2) rfl Tryz.underlying99 rfl nz65 rfl) a.pins ?_
 refine dT (i := 9) rfl rfl (by kernel_rfl) (fun _ hS => zS (u := x.r) ag65 rfl ((Pins.of_le hS b) _ _ _ (j 2 _ rfl))) a.pins ?_
 refine dT (i := 10) rfl rfl (by kernel_rfl) (fun _ _ => zQ (k := 1) rfl Tryz.underlying124 rfl nz99 rfl) a.pins ?_
 refine dT (i := 11) rfl rfl (by kernel_rfl) (fun _ _ => zQ (k := 2) rfl Tryz.underlying99 rfl nz65 rfl) a.pins ?_
 refine dT (i := 12) rfl rfl (by kernel_rfl) (fun _ hS => zS (u := y.r) ag65 rfl (hS _ _ _ (p 2 _ rfl))) a.pins ?_
 refine dO (i := 6) (zW (i := 6) rfl rfl rfl (zG rfl _) (zL (vs := [x.l, y.l]) Tryz.func98 nm98 rfl rfl rfl ?_))
 refine Calls.mono (slCompare_spec a.pins (hx.1.mono (Pin.le_trans d b)) (hy.1.mono (Pin.le_trans d b))) ?_
 rintro _ _ ⟨rfl, rfl⟩
 refine ⟨_, rfl, ?_⟩
 refine ⟨fun _ => a.pins, ?_⟩
 refine dO (i := 13) (zW (i := 13) rfl rfl rfl (zG rfl _) (zL (vs := [x.r, y.r]) Tryz.func98 nm98 rfl rfl rfl ?_))
 refine Calls.mono (slCompare_spec a.pins (hx.2.1.mono (Pin.le_trans d b)) (hy.2.1.mono (Pin.le_trans d b))) ?_
 rintro _ _ ⟨rfl, rfl⟩
 refine ⟨_, rfl, ?_⟩
 refine ⟨fun _ => a.pins, ?_⟩
 refine dO (i := 14) (zW (i := 14) rfl rfl rfl (zG rfl _) (o_buildFd (E := eInt) (e := 3) [(vJ (cmpL x.nd.l y.nd.l)), (vJ (cmpL x.nd.r y.nd.r))] [cmpL x.nd.l y.nd.l, cmpL x.nd.r y.nd.r] Tryz.underlying65 sz3 zr3 (by exact reps2 (by rfl) (by rfl)) (ones2 (by rfl) (by rfl)) rfl rfl rfl rfl (by decide) a.pins (fun s an a4 ao ap aq a5 => ?_)))
 have t := a.step ap aq
 have ar : Own eInt 3 m an w.heap.size s ([cmpL x.nd.l y.nd.l, cmpL x.nd.r y.nd.r]) := ao.weaken a.size
 refine ⟨fun _ => t.pins, ?_⟩
 obtain ⟨a6, z, f, au, a7⟩ := ar.sealed t
 refine dO (i := 15) (zW (i := 15) rfl rfl rfl (zG rfl _) (zL (vs := [s]) Tryz.func96 nm96 rfl rfl rfl ?_))
 refine Calls.mono (cmpOr_spec f.pins au) ?_
 rintro _ _ ⟨rfl, rfl⟩
 refine ⟨_, rfl, ?_⟩
 refine ⟨fun _ => (Pins.of_le f.pins z), ?_⟩
 refine dM 16 (vJ (orL ([cmpL x.nd.l y.nd.l, cmpL x.nd.r y.nd.r]))) (Pins.of_le f.pins z) ?_
 refine yT (by kernel_rfl) ?_
 refine zA ?_
 refine wp_ret ?_
 refine zU ?_
 refine zT (v := (vJ (orL ([cmpL x.nd.l y.nd.l, cmpL x.nd.r y.nd.r])))) rfl rfl rfl ?_
 exact ⟨rfl, grow_of f.below (by omega)⟩

theorem sortB_spec {w : World} {G : Pin} {p : Nat} {L R B : Value} {mm : PM} {q : PSt} (hP : Pins G w) (hpk : Pk 65 3 G w p L R B mm q) (hok : PoolOk q) {bx base : Nat} (hbx : BxP G bx [.pointer (some ⟨p, 0, none⟩)]) {v : Value} {zs : List Int} (hv : Own eInt 3 G w base v zs) (hz : ∀ z ∈ zs, PlaceOk q z) (hnp : NP p L R B mm v.ownBlock) (hl : zs.length ≤ 1048576) :
  Calls Tryz.prog 115 [v, (.func (.func 116) #[] #[(.pointer (some ⟨bx, 0, none⟩))])].toArray w fun en w' => ∃ ys : List Int, en = .returned (.tuple #[]) ∧ Own eInt 3 G w' base v ys ∧ ys.Perm zs ∧ (∀ i j, i < j → j < ys.length → bn q (ys.getD i 0) ≤ bn q (ys.getD j 0)) ∧ Ext (inO v.ownBlock) G w G w' := by
 have hnone : ∀ a cap, v = .slice a 0 cap → zs = [] → Calls Tryz.prog 115 [v, (.func (.func 116) #[] #[(.pointer (some ⟨bx, 0, none⟩))])].toArray w fun en w' => ∃ ys : List Int, en = .returned (.tuple #[]) ∧ Own eInt 3 G w' base v ys ∧ ys.Perm zs ∧ (∀ i j, i < j → j < ys.length → bn q (ys.getD i 0) ≤ bn q (ys.getD j 0)) ∧ Ext (inO v.ownBlock) G w G w' := by
  rintro a cap rfl rfl
  refine (Tryz.slices_SortFunc_none (α := Int) a cap _ w).mono ?_
  rintro en w' ⟨rfl, rfl⟩
  exact ⟨[], rfl, hv, List.Perm.refl _, fun i j _ hj => absurd hj (Nat.not_lt_zero j), Ext.refl hP⟩
 rcases own_cases hv with ⟨l, o⟩ | ⟨g, cap, hvg⟩
 ·exact hnone _ _ l o
 by_cases h0 : zs.length = 0
 ·exact hnone _ _ (by rw [hvg, h0]) (List.eq_nil_of_length_eq_zero h0)
 subst hvg
 letI : Inhabited (Plc q) := ⟨⟨zs.getD 0 0, hz _ (yQ (by omega))⟩⟩
 obtain ⟨_, r, u, s⟩ := own_holds hv
 obtain ⟨d, hd⟩ : ∃ d, d = (plcs q zs hz).toArray := ⟨_, rfl⟩
 have hdm : d.map (·.1) = zs.toArray := by rw [hd]; simp only [List.map_toArray]; rw [plcs_val hz]
 have hds : d.size = zs.length := by have := congrArg Array.size hdm; simpa using this
 have hH : Go.Sort.Holds (fun x : Plc q => Value.int .i64 x.1) w g 0 d := holds_map (enc' := Value.int .i64) (f := fun x : Plc q => x.1) (fun _ => rfl) (by rw [hdm]; exact s)
 have hcmp : Go.Proofs.CmpLays1 Tryz.prog 116 #[(.pointer (some ⟨bx, 0, none⟩))] (fun x : Plc q => Value.int .i64 x.1) (cfB q) g 0 d.size w := fun m os dk hs x y => by
  have hgr : w.grownBy (Go.Proofs.sortWorld (fun x : Plc q => Value.int .i64 x.1) w g 0 m dk os) (some g) := by
   unfold Go.Proofs.sortWorld
   rw [putRow_map (enc := fun x : Plc q => Value.int .i64 x.1) (enc' := id) (f := fun x : Plc q => Value.int .i64 x.1) (fun _ => rfl)]
   exact grownBy_put
  have hx := Ext.one (hP.grown hgr (fun k hk => by cases hk; exact hv.free g rfl)) hgr
  exact cmpB_spec hx.pins (hpk.extS hx fun k hk hs => hnp k hs hk) hok hbx x.2 y.2
 have hcon := Tryz.slices_SortFunc (fun x : Plc q => Value.int .i64 x.1) (fun _ => rfl) (cfB q) (swoB q) 116 #[(.pointer (some ⟨bx, 0, none⟩))] g 0 cap d w (Go.Proofs.enters_of Tryz.func116 (by kernel_rfl) rfl) hcmp hH r (by omega)
 rw [hds] at hcon
 refine hcon.mono ?_
 rintro en w' ⟨rfl, d', n, os, hp, hs, hw⟩
 rw [← hds] at hp hs
 obtain ⟨hsz, hpl⟩ := perm_list hp
 have hyl : (d'.map (·.1)).toList.length = zs.length := by simp [hsz, hds]
 obtain ⟨a, b, c⟩ := own_put (w' := w') (ys := (d'.map (·.1)).toList) (d := d'.map (·.1)) (os := os) (m := n) hv hP (by rw [hw]; unfold Go.Proofs.sortWorld; rw [putRow_map (enc := fun x : Plc q => Value.int .i64 x.1) (enc' := Value.int .i64) (f := fun x : Plc q => x.1) (fun _ => rfl)]) (by simp [hsz, hds]) (List.take_length ..)
 rw [hyl] at a
 refine ⟨_, rfl, a, ?_, fun i j hij hj => ?_, Ext.one b c⟩
 ·have e := hpl.map (·.1)
  have t : d.toList.map (·.1) = zs := by rw [hd]; exact plcs_val hz
  rw [t] at e; simpa using e
 ·rw [hyl] at hj
  have e := hs i j (Nat.zero_le _) hij (by omega)
  rw [ltB] at e
  have h : ∀ i, i < zs.length → (d'.map (·.1)).toList.getD i 0 = (d'[i]!).1 := fun i hi => by
   rw [getElem!_pos d' i (by omega)]
   simp [List.getD, show i < d'.size by omega]
  rw [h i (by omega), h j hj]
  have := of_decide_eq_false e
  omega

theorem sortE_spec {w : World} {G : Pin} {base lo hi : Nat} {v : Value} {es : List Ent} {LV : List Leaf} (hP : Pins G w) (hv : Own eEnt 124 G w base v es) (hL : Lvs 3 G w lo hi LV) (hm : ∀ x ∈ es, (x.l, x.nd.l) ∈ LV ∧ (x.r, x.nd.r) ∈ LV) (hap : ApL LV v.ownBlock) (hl : es.length ≤ 1048576) :
  Calls Tryz.prog 118 [v, (.func (.func 119) #[] #[])].toArray w fun en w' => ∃ ys : List Ent, en = .returned (.tuple #[]) ∧ Own eEnt 124 G w' base v ys ∧ ys.Perm es ∧ (∀ i j, i < j → j < ys.length → ¬ aheadI (ys.getD j default).nd (ys.getD i default).nd < 0) ∧ Ext (inO v.ownBlock) G w G w' := by
 have hnone : ∀ a cap, v = .slice a 0 cap → es = [] → Calls Tryz.prog 118 [v, (.func (.func 119) #[] #[])].toArray w fun en w' => ∃ ys : List Ent, en = .returned (.tuple #[]) ∧ Own eEnt 124 G w' base v ys ∧ ys.Perm es ∧ (∀ i j, i < j → j < ys.length → ¬ aheadI (ys.getD j default).nd (ys.getD i default).nd < 0) ∧ Ext (inO v.ownBlock) G w G w' := by
  rintro a cap rfl rfl
  refine (Tryz.slices_SortFunc_ent_none (α := Int) a cap _ w).mono ?_
  rintro en w' ⟨rfl, rfl⟩
  exact ⟨[], rfl, hv, List.Perm.refl _, fun i j _ hj => absurd hj (Nat.not_lt_zero j), Ext.refl hP⟩
 rcases own_casesF hv with ⟨q, s⟩ | ⟨g, cap, hvg⟩
 ·exact hnone _ _ q s
 by_cases h0 : es.length = 0
 ·exact hnone _ _ (by rw [hvg, h0]) (List.eq_nil_of_length_eq_zero h0)
 subst hvg
 have hz : ∀ x ∈ es, EntOk (GLv G w LV) x := fun x hx => ⟨hL.read (hm x hx).1, hL.read (hm x hx).2, (hL.own _ (hm x hx).1).one, (hL.own _ (hm x hx).2).one⟩
 letI : Inhabited (EntS (GLv G w LV)) := ⟨⟨es.getD 0 default, hz _ (yQ (by omega))⟩⟩
 obtain ⟨_, t, cells, hcl, hr, z⟩ := own_cellsF hv
 obtain ⟨d, hd⟩ : ∃ d, d = (ents (GLv G w LV) es hz).toArray := ⟨_, rfl⟩
 have hdm : d.toList.map (·.1) = es := by rw [hd]; exact ents_val hz
 have hds : d.size = es.length := by have := congrArg List.length hdm; simpa using this
 have hdi : ∀ i, i < d.size → (d[i]!).1 = es.getD i default := fun i hi => by
  rw [getElem!_pos d i hi]
  have := congrArg (fun l : List Ent => l[i]?) hdm
  simp only [List.getElem?_map, Array.getElem?_toList, Array.getElem?_eq_getElem hi, Option.map_some] at this
  simp [List.getD, ← this]
 have hflat : Go.Sort.flatK (encE (G := GLv G w LV)) 3 d = cells.toArray := flatK_cells (by rw [hds]; exact hcl) fun i hi => by
  have h4 := hr i (es.getD i default) (by simp [List.getD, show i < es.length by omega])
  have e : (cells.drop (i * 3)).take 3 = [.int .i64 (es.getD i default).id, (es.getD i default).l, (es.getD i default).r] := h4.1
  rw [e, ← hdi i hi]; rfl
 have hH : Go.Sort.HoldsK (encE (G := GLv G w LV)) 3 w g 0 d := by unfold Go.Sort.HoldsK; rw [hflat]; exact z
 have hcmp : Go.Proofs.CmpLays Tryz.prog 119 #[] (encE (G := GLv G w LV)) 3 cfE g 0 d.size w := fun m os dk hs x y => by
  have hgr : w.grownBy (Go.Proofs.sortWorldK (encE (G := GLv G w LV)) 3 w g 0 m dk os) (some g) := by
   unfold Go.Proofs.sortWorldK Go.Sort.putRowK
   exact grownBy_put
  have hpp : Pins (GLv G w LV) (Go.Proofs.sortWorldK (encE (G := GLv G w LV)) 3 w g 0 m dk os) := (GLv.pins hP).grown hgr fun k hk o u hG => by
   cases hk
   rcases hG with hG | ⟨⟨p, hp, hpo⟩, _⟩
   ·exact hv.free g rfl o u hG
   ·exact hap p hp g hpo rfl
  exact cmpE_spec hpp x.2 y.2
 have hcon := Tryz.slices_SortFunc_ent 3 (Go.GL.run_isAgg (by kernel_rfl)) (Go.GL.run_sizeOf (by kernel_rfl)) (encE (G := GLv G w LV)) (fun _ => rfl) (fun x u hu => by
  simp only [encE, List.mem_cons, List.not_mem_nil, or_false] at hu
  rcases hu with rfl | rfl | rfl
  ·rfl
  ·exact x.2.2.2.1
  ·exact x.2.2.2.2) cfE (swoE _) 119 #[] g 0 cap d w (Go.Proofs.enters_of Tryz.func119 (by kernel_rfl) rfl) hcmp hH t (by omega)
 rw [hds] at hcon
 refine hcon.mono ?_
 rintro en w' ⟨rfl, d', n, os, hp, hs, hw⟩
 rw [← hds] at hp hs
 obtain ⟨hsz, hpl⟩ := perm_list hp
 have hyl : (d'.toList.map (·.1)).length = es.length := by simp [hsz, hds]
 have f : ∀ i, i < es.length → (d'.toList.map (·.1)).getD i default = (d'[i]!).1 := fun i hi => by
  rw [getElem!_pos d' i (by omega)]
  simp [List.getD, show i < d'.size by omega]
 obtain ⟨a, b, c⟩ := own_putF (ys := d'.toList.map (·.1)) (F := Go.Sort.flatK (encE (G := GLv G w LV)) 3 d') (os := os) (m := n) hv hP hw (by rw [Go.Sort.size_flatK, hsz, hds]; rfl) hyl (fun i y hy => by
  have hi : i < es.length := by have := (List.getElem?_eq_some_iff.1 hy).1; omega
  have e1 := f i hi
  have e0 : (d'.toList.map (·.1)).getD i default = y := by rw [List.getD_eq_getElem?_getD, hy]; rfl
  have h : y = (d'[i]!).1 := e0.symm.trans e1
  have e := chunkK (enc := encE (G := GLv G w LV)) (k := 3) (fun _ => rfl) (d := d') (i := i) (by omega)
  refine ⟨e.trans ?_, ?_, ?_⟩
  ·rw [h]; rfl
  ·rw [h]; exact (d'[i]!).2.2.2.1
  ·rw [h]; exact (d'[i]!).2.2.2.2)
 refine ⟨_, rfl, a, ?_, fun i j hij hj => ?_, Ext.one b c⟩
 ·have e := hpl.map (·.1)
  rw [hdm] at e; exact e
 ·rw [hyl] at hj
  have e := hs i j (Nat.zero_le _) hij (by omega)
  rw [ltE] at e
  rw [f i (by omega), f j hj]
  exact of_decide_eq_false e

end SO1
end Go.Proofs.YtfnginkcmcfdfaaGreatDoor

set_option maxRecDepth 20000
set_option maxHeartbeats 2000000
namespace Go.Proofs.YtfnginkcmcfdfaaGreatDoor
namespace OD1
open Go.RowKit Go.GL Go.Proofs
open Go.Proofs.YtfnginkcmcfdfaaGreatDoor.B1
open Go.Proofs.YtfnginkcmcfdfaaGreatDoor.PO1
open Go.Proofs.YtfnginkcmcfdfaaGreatDoor.PA1
open Go.Proofs.YtfnginkcmcfdfaaGreatDoor.SO1








theorem mk3 : (Tryz.prog.info? 3).map (fun i => (i.size, i.bytes, i.zero)) = some (1, 8, some (.int .i64 0)) := by kernel_rfl
theorem mk99 : (Tryz.prog.info? 99).map (fun i => (i.size, i.bytes, i.zero)) = some (2, 48, some (.agg #[(.slice none 0 0), (.slice none 0 0)])) := by kernel_rfl









theorem pl124 : (Tryz.prog.underlying 124).bind (placesD Tryz.prog) = some [(0, 1), (1, 2)] := by kernel_rfl
theorem pl99 : (Tryz.prog.underlying 99).bind (placesD Tryz.prog) = some [(0, 1), (1, 1)] := by kernel_rfl







theorem ranked_spec {w : World} {G : Pin} {v : Value} {xs : List Int} {m : Nat} {rk : List (Int × Int)} (hP : Pins G w) (hv : RSl eInt G v xs) (hmp : Mp (fun k : Int => Value.int .i64 k) (fun v : Int => Value.int .i64 v) w m rk) (hs : xs.length ≤ 1048576) :
  Calls Tryz.prog 117 [v, (.map (some m))].toArray w fun e w' => ∃ (u : Value) (G' : Pin), e = .returned u ∧ Own eInt 3 G' w' w.heap.size u (sortM (xs.map (rkI rk))) ∧ Ext noS G w G' w' := by
 refine zX (n := 28) Tryz.func117 Tryz.ntmps117 rfl rfl ?_
 have d : Ext noS G w G w := Ext.refl hP
 have hm := hv.max
 have hal : (xs.map (rkI rk)).length = xs.length := List.length_map ..
 have hrl : (List.replicate xs.length (0 : Int)).length = xs.length := List.length_replicate
 refine zB (zC ?_)
 refine qM (.slice none 0 0) ?_
 refine qe (zA (zB (zC ?_)))
 refine qM v ?_
 refine qD rfl (zP Tryz.underlying65 (v := v) rfl hv) ?_
 refine qI rfl (o_make (E := eInt) 0 8 (vJ 0) Tryz.underlying65 mk3 (fun _ => rfl) rfl rfl d.pins (by omega) (by omega) (by omega) (fun a o q s g ai => ?_))
 have t := d.step s g
 have x := hmp.below g
 have y : Own eInt 3 G o w.heap.size a (List.replicate xs.length 0) := q.weaken d.size
 have aj : (List.replicate xs.length 0).length = xs.length := List.length_replicate ..
 refine qM a ?_
 refine qe (zA (zB (zB (zC ?_))))
 refine qM v ?_
 refine qD rfl (zP Tryz.underlying65 (v := v) rfl hv) ?_
 refine qM (vJ 0) ?_
 refine qe (zA ?_)
 refine zZ ?_
 refine yO (fun (k : Nat) (en : Nat → Value) (W : World) => ∃ (h : Nat → Value) (j : Nat) (os : List Int), en = (upd (upd (upd (upd (upd (upd h 1 (.map (some m))) 4 (.slice none 0 0)) 5 a) 11 v) 12 (vJ (xs.length : Int))) 13 (vJ (j : Int))) ∧ k = xs.length - j ∧ Ext noS G w G W ∧ (j ≤ xs.length) ∧ (os = (xs.map (rkI rk)).take j ++ (List.replicate xs.length 0).drop j) ∧ (os.length = xs.length) ∧ (Own eInt 3 G W w.heap.size a (os)) ∧ (Mp (fun k : Int => Value.int .i64 k) (fun v : Int => Value.int .i64 v) W m (rk))) _ ⟨_, 0, List.replicate xs.length 0, (pS 13 (pS 12 (pS 11 (pS 5 (pS 4 (pU 1)))))), rfl, t, Nat.zero_le _, rfl, hrl, y, x⟩ ?_
 rintro ak _ al ⟨h, j, os, rfl, am, c, hj, hr, hol, b, f⟩
 refine zB (zC ?_)
 refine qD rfl (yM rfl rfl) ?_
 refine qe (zA (zB ?_))
 refine yD (p := ((j : Int) : Int) < (xs.length : Int)) rfl rfl (fun aa => ?_) (fun aa => ?_)
 ·skip
  refine wp_skip ?_
  refine zA (zB ?_)
  refine zZ ?_
  refine zB (zC ?_)
  refine qM (vJ (j : Int)) ?_
  refine qD rfl (zN Tryz.underlying65 sz3 (v := v) rfl rfl hv (by omega) (by omega)) ?_
  refine qD rfl (zK (r := xs.getD j 0) rfl ag3 (z := (j : Int)) rfl hv c.pins (by omega) (by omega)) ?_
  refine qM (vJ (j : Int)) ?_
  refine qM (vJ (xs.getD j 0)) ?_
  refine qe (zA (zC ?_))
  refine qM a ?_
  refine qM (vJ (j : Int)) ?_
  refine qM (.map (some m)) ?_
  refine qM (vJ (xs.getD j 0)) ?_
  refine qD rfl (run_look1_int (k := (xs.getD j 0)) (key_int Tryz.underlying3) Tryz.underlying69 zr3 f rfl rfl) ?_
  refine qD rfl (zN Tryz.underlying65 sz3 (v := a) rfl rfl b.read (by omega) (by omega)) ?_
  refine q0 rfl rfl rfl (o_set (E := eInt) (v := a) (u := (vJ ((Go.GL.look rk (xs.getD j 0)).getD 0))) (z := (j : Int)) ((Go.GL.look rk (xs.getD j 0)).getD 0) sz3 rfl rfl rfl rfl c.pins b (by omega) (by omega) (fun an ab ac l ao => ?_))
  have ad := c.write ac l ((zY b))
  have ae := f.kept l (zO f b)
  refine qe ?_
  refine yG ?_
  refine zA (zC ?_)
  refine qD rfl (yL rfl rfl (by omega)) ?_
  refine qM (vJ ((j : Int) + 1)) ?_
  refine qe ?_
  refine yH ?_
  refine ⟨_, ?_, _, rfl, _, j + 1, (os).set j ((Go.GL.look rk (xs.getD j 0)).getD 0), (pS 13 (pS 12 (pS 11 (pS 5 (pS 4 (pU 1)))))), rfl, ad, (by omega), (by rw [hr]; exact cur_set 0 (by omega) (by omega) (rk_getD (by omega))), ((List.length_set ..).trans hol), ab, ae⟩
  omega
 refine wp_exit ?_
 refine yC ?_
 refine yK ?_
 refine yI ?_
 refine zA (zB (zC ?_))
 refine qM a ?_
 refine qI rfl (zL (vs := [a]) Tryz.func152 nm152 rfl rfl rfl ?_)
 refine Calls.mono (sortI_spec c.pins b (by omega)) ?_
 rintro _ ap ⟨aq, rfl, af, ag⟩
 refine ⟨_, rfl, ?_⟩
 have ah := c.trans ag (fun i hi => (zY b) i hi)
 have ar := sortM_length os
 refine qe (zA (zB (zC ?_)))
 refine qM a ?_
 refine qM a ?_
 refine qe (zA ?_)
 refine wp_ret ?_
 refine zU ?_
 refine zT (v := a) rfl rfl rfl ?_
 rw [cur_end (by omega) (by omega)] at hr
 exact ⟨_, _, rfl, (by rw [← hr]; exact af), ah⟩

theorem order_spec {w : World} {G : Pin} {p : Nat} {L R B : Value} {mm : PM} {q : PSt} (hP : Pins G w) (hpk : Pk 65 3 G w p L R B mm q) (hok : PoolOk q) {x : Value} {xs : List Int} (hx : RSl eInt G x xs) (hr : ∀ i, i < xs.length → PlaceOk q (xs.getD i 0)) (hxl : xs.length ≤ 1048576) :
  Calls Tryz.prog 66 [(.pointer (some ⟨p, 0, none⟩)), x].toArray w fun e w' => ∃ (u v : Value) (ls : List Int) (ns : List Nd) (zs : List Int) (G' : Pin), e = .returned (.tuple #[u, v]) ∧ Own eInt 3 G' w' w.heap.size u ls ∧ DForm 99 3 G' w' w.heap.size w'.heap.size v ns ∧ OrI q zs ls ls.length ns ∧ PtOk q xs zs zs.length ∧ Ext noS G w G' w' := by
 refine zX (n := 122) Tryz.func66 Tryz.ntmps66 rfl rfl ?_
 have c0 : Ext noS G w G w := Ext.refl hP
 have hpin : PIn w (inP p L R B mm) p L R B mm := PIn.self
 have ky : (q.ns.map Nd.l).length = q.ns.length ∧ (q.ns.map Nd.r).length = q.ns.length := ⟨List.length_map .., List.length_map ..⟩
 have kz : q.bs.length = q.ns.length ∧ q.ns.length ≤ 1048576 := ⟨hok.ar.ok.len, hok.ar.ok.lim⟩
 have d6 : Lvs 3 G w w.heap.size w.heap.size [] := Lvs.nil
 have hm := hx.max
 refine zB (zC ?_)
 refine qI rfl (o_box [(.pointer (some ⟨p, 0, none⟩))] (v := (.pointer (some ⟨p, 0, none⟩))) rfl rfl c0.pins (fun b3 w4 d7 gh d8 c1 => ?_))
 have gi := c0.step d8 c1
 have gj := (d6.below c1).top
 have gk := hpk.below c1 d8
 have gl : ApL [] (some b3) := ApL.fresh d6 (fun k hk => by rw [(congrArg some d7)] at hk; cases hk; exact Nat.le_refl _)
 have gm := hpk.new (x := (some b3)) (fun k hk => by rw [(congrArg some d7)] at hk; cases hk; exact Nat.le_refl _)
 have gp : w.heap.size ≤ b3 := by have := c0.size; omega
 obtain ⟨k1, c2, cd, be, d9⟩ := gh.shut gi gp
 have ea := gj.more c2 d9 gl
 have c3 := gk.more c2 d9 gm
 refine qM (.slice none 0 0) ?_
 refine qM (.slice none 0 0) ?_
 refine qe (zA (zB (zC ?_)))
 refine qD rfl (zS (u := (.pointer (some ⟨p, 0, none⟩))) ag61 rfl (cd.pins _ _ _ (be 0 _ rfl))) ?_
 refine qM x ?_
 refine qI rfl (zL (vs := [(.pointer (some ⟨p, 0, none⟩)), x]) Tryz.func103 nm103 rfl rfl rfl ?_)
 refine Calls.mono (parts_spec cd.pins c3 hok (hx.mono c2) hr hxl) ?_
 rintro _ gq ⟨d, c4, ce, rfl, c5, a4, a0⟩
 refine ⟨_, rfl, ?_⟩
 have eb := cd.tr a0
 have gr := (ea.ext a0).top
 have ec := c3.ext a0
 have ed : ApL [] d.ownBlock := ApL.fresh ea (fun k hk => (c5.lt k hk).1)
 have c6 := c3.new (x := d.ownBlock) (fun k hk => (c5.lt k hk).1)
 have ee : Own eInt 3 ce gq w.heap.size d c4 := c5.weaken cd.size
 have k2 := a4.len
 refine qM d ?_
 refine qe (zA (zB (zC ?_)))
 refine qM d ?_
 refine qD rfl (r_makeFunc [(.pointer (some ⟨b3, 0, none⟩))] rfl) ?_
 refine qI rfl (zL (vs := [d, (.func (.func 116) #[] #[(.pointer (some ⟨b3, 0, none⟩))])]) Tryz.func115 nm115 rfl rfl rfl ?_)
 refine Calls.mono (sortB_spec eb.pins ec hok (be.mono a0.le) ee a4.pl c6 (by omega)) ?_
 rintro _ k3 ⟨gt, rfl, gu, ef, gw, c7⟩
 refine ⟨_, rfl, ?_⟩
 have c8 := eb.trans c7 (fun i hi => (zY ee) i hi)
 have gx := Lvs.turned gr c7 ed
 have eg := ec.extS c7 (fun k hk hx => c6 k hx hk)
 have k4 := ef.length_eq
 refine qe (zA (zB (zC ?_)))
 refine qI rfl (o_makeMap (fun k : Int => Value.int .i64 k) (fun v : Int => Value.int .i64 v) c8.pins (fun ak k5 k6 gy eh cf => ?_))
 have c9 := c8.step eh cf
 have da := gu.below cf
 have ei := (gx.below cf).top
 have ej := eg.below cf eh
 have gz := eg.new (x := some ak) (fun k hk => by cases hk; omega)
 have g0 : w.heap.size ≤ ak := by have := c8.size; omega
 refine qM (.map (some ak)) ?_
 refine qe (zA (zB (zC ?_)))
 refine qM d ?_
 refine qD rfl (zP Tryz.underlying65 (v := d) rfl da.read) ?_
 refine qI rfl (o_make0 (E := eVal2) Tryz.underlying30 mk99 rfl rfl c9.pins (by omega) (by omega) (by omega) (fun bf g1 g2 ek bt db => ?_))
 have g3 := c9.step ek bt
 have g4 := da.below bt
 have g5 := (ei.below bt).top
 have g6 := gy.below bt
 have g7 := ej.below bt ek
 have g8 : Apart bf.ownBlock d.ownBlock := zH db da.lt
 have g9 : ApL [] bf.ownBlock := ApL.fresh ei (fun k hk => by rw [db] at hk; cases hk; exact Nat.le_refl _)
 have ha := ej.new (x := bf.ownBlock) (fun k hk => by rw [db] at hk; cases hk; exact Nat.le_refl _)
 have hb : Own eVal2 99 ce g1 w.heap.size bf ([]) := g2.weaken c9.size
 refine qM bf ?_
 refine qe (zA (zB (zB (zC ?_))))
 refine qM (vJ 0) ?_
 refine qe (zA ?_)
 refine zZ ?_
 refine yO (fun (k : Nat) (en : Nat → Value) (W : World) => ∃ (al : Nat → Value) (n : Nat) (nv : Value) (done : List Ent) (ps : List (Value × Value)) (rk : List (Int × Int)) (LV : List Leaf) (ls : List Int) (am : Pin), en = (upd (upd (upd (upd (upd (upd (upd al 2 (.pointer (some ⟨b3, 0, none⟩))) 4 (.slice none 0 0)) 5 (.slice none 0 0)) 6 d) 7 (.map (some ak))) 8 nv) 9 (vJ (n : Int))) ∧ k = ls.length - n ∧ Ext noS G w am W ∧ Pin.le ce am ∧ (OrI q c4 ls n (done.map Ent.nd)) ∧ (RkOk ls n rk) ∧ (LV.Perm (lvE done)) ∧ (ps = done.map Ent.pr) ∧ (Own eInt 3 am W w.heap.size d (ls)) ∧ (Own eVal2 99 am W w.heap.size nv (ps)) ∧ (Apart d.ownBlock nv.ownBlock) ∧ (Lvs 3 am W w.heap.size W.heap.size LV) ∧ (ApL LV d.ownBlock) ∧ (ApL LV nv.ownBlock) ∧ (Mp (fun k : Int => Value.int .i64 k) (fun v : Int => Value.int .i64 v) W ak (rk)) ∧ (Pk 65 3 am W p L R B mm q) ∧ (NP p L R B mm nv.ownBlock)) _ ⟨_, 0, bf, [], [], [], [], gt, ce, (pS 9 (pS 8 (pS 7 (pS 6 (pS 5 (pS 4 (pU 2))))))), rfl, g3, Pin.le_refl _, (OrI.start ef gw), (fun i hi => absurd hi (Nat.not_lt_zero i)), (List.Perm.refl _), rfl, g4, hb, g8.symm, g5, ed, g9, g6, g7, ha⟩ ?_
 rintro k7 _ k8 ⟨al, n, nv, done, ps, rk, LV, ls, am, rfl, k9, cg, bu, hor, hrk, hLV, hps, ch, dc, hc, dd, hd, el, he, em, hf⟩
 have hll := hor.perm.length_eq
 have hnl := hor.nl
 have hdl : done.length = n := by have := hor.len; simpa using this
 have hpsl : ps.length = n := by rw [hps, List.length_map]; exact hdl
 have hplk : ∀ i, i < ls.length → 0 ≤ ls.getD i 0 ∧ ls.getD i 0 < q.ns.length := fun i hi => a4.pl _ (hor.mem.1 (yQ hi))
 refine zB (zB (zC ?_))
 refine qM (vJ (n : Int)) ?_
 refine qM d ?_
 refine qD rfl (zP Tryz.underlying65 (v := d) rfl ch.read) ?_
 refine qD rfl (yM rfl rfl) ?_
 refine qe (zA ?_)
 refine yD (p := ((n : Int) : Int) < (ls.length : Int)) rfl rfl (fun hg => ?_) (fun hg => ?_)
 ·skip
  have hzn := hplk n (by omega)
  refine wp_skip ?_
  refine zA ?_
  refine zZ ?_
  refine zB (zC ?_)
  refine qI rfl (yS (E := eEnt) (e := 124) Tryz.underlying121 sz124 cg.pins (fun a5 hh hn eo bg ci => ?_))
  have ho := cg.step eo bg
  have hq := ch.below bg
  have hs := dc.below bg
  have ht := (dd.below bg).top
  have hu := he.below bg
  have hv := em.below bg eo
  have hw : Apart a5.ownBlock d.ownBlock := zH ci ch.lt
  have hy : Apart a5.ownBlock nv.ownBlock := zH ci dc.lt
  have hz : ApL LV a5.ownBlock := ApL.fresh dd (fun k hk => by rw [ci] at hk; cases hk; exact Nat.le_refl _)
  have h0 := em.new (x := a5.ownBlock) (fun k hk => by rw [ci] at hk; cases hk; exact Nat.le_refl _)
  have h1 : Own eEnt 124 am hh w.heap.size a5 ([]) := hn.weaken cg.size
  refine qM a5 ?_
  refine qe (zA (zB (zB (zC ?_))))
  refine qM (vJ (n : Int)) ?_
  refine qM (vJ (n : Int)) ?_
  refine qe (zA ?_)
  refine zZ ?_
  refine c_cutE (fun (en : Nat → Value) (W : World) => ∃ (al : Nat → Value) (kk : Nat) (gv : Value) (gs : List Ent) (aa : List Leaf) (ab : Pin), en = (upd (upd (upd (upd (upd (upd (upd (upd (upd al 2 (.pointer (some ⟨b3, 0, none⟩))) 4 (.slice none 0 0)) 5 (.slice none 0 0)) 6 d) 7 (.map (some ak))) 8 nv) 9 (vJ (n : Int))) 10 gv) 11 (vJ (kk : Int))) ∧ Ext noS G w ab W ∧ Pin.le am ab ∧ (kk = n + gs.length) ∧ (GrI q ls n (gs.map Ent.gn)) ∧ (aa.Perm (lvE done ++ lvE gs)) ∧ (n + gs.length = ls.length ∨ bn q (ls.getD (n + gs.length) 0) ≠ bn q (ls.getD n 0)) ∧ (Own eEnt 124 ab W w.heap.size gv (gs)) ∧ (Own eInt 3 ab W w.heap.size d (ls)) ∧ (Own eVal2 99 ab W w.heap.size nv (ps)) ∧ (Apart gv.ownBlock d.ownBlock) ∧ (Apart gv.ownBlock nv.ownBlock) ∧ (Lvs 3 ab W w.heap.size W.heap.size aa) ∧ (ApL aa gv.ownBlock) ∧ (ApL aa d.ownBlock) ∧ (ApL aa nv.ownBlock) ∧ (Mp (fun k : Int => Value.int .i64 k) (fun v : Int => Value.int .i64 v) W ak (rk)) ∧ (Pk 65 3 ab W p L R B mm q) ∧ (NP p L R B mm gv.ownBlock)) 2 ?_ ?_
  ·rintro _ an ⟨al, kk, gv, gs, aa, ab, rfl, a6, ax, hkk, hgr, a7, hend, bv, cj, de, a8, a9, ck, a1, bw, bz, cl, cm, a2⟩
   have hgl := hgr.le
   rw [List.length_map] at hgl
   have la : 0 < gs.length := Nat.pos_of_ne_zero fun h => hend.elim (fun e => by omega) (fun e => by rw [h] at e; exact e rfl)
   refine yI ?_
   refine zA (zB (zC ?_))
   refine qM gv ?_
   refine qI rfl (zL (vs := [gv, (.func (.func 119) #[] #[])]) Tryz.func118 nm118 rfl rfl rfl ?_)
   refine Calls.mono (sortE_spec a6.pins bv ck (fun x hx => ⟨a7.mem_iff.2 (List.mem_append_right _ (lvE_mem hx).1), a7.mem_iff.2 (List.mem_append_right _ (lvE_mem hx).2)⟩) a1 (by omega)) ?_
   rintro _ lb ⟨y, rfl, ep, cn, h2, bh⟩
   refine ⟨_, rfl, ?_⟩
   have h3 := a6.trans bh (fun i hi => (zY bv) i hi)
   have h4 := cj.extS bh (notO a8.symm)
   have h5 := de.extS bh (notO a9.symm)
   have h6 := Lvs.turned ck bh a1
   have h7 := cl.extS bh (notOb (zO cl bv))
   have h8 := cm.extS bh (fun k hk hx => a2 k hx hk)
   have lc := cn.length_eq
   refine qe (zA (zB (zB (zC ?_))))
   refine qM gv ?_
   refine qD rfl (zP Tryz.underlying121 (v := gv) rfl ep.read) ?_
   refine qM (vJ 0) ?_
   refine qe (zA ?_)
   refine zZ ?_
   have hgp : (y.map Ent.gn).Perm (gs.map Ent.gn) := cn.map _
   have eq : n + y.length ≤ ls.length := by omega
   have hRl : (regroup ls n (y.map Ent.gn)).length = ls.length := regroup_length (by rw [List.length_map]; omega)
   have hRn : (regroup ls n (y.map Ent.gn)).Nodup := (regroup_perm hgr hgp).nodup_iff.2 (hor.perm.nodup_iff.2 a4.nd)
   refine yO (fun (k : Nat) (en : Nat → Value) (W : World) => ∃ (al : Nat → Value) (j : Nat) (ao : Value) (ba : List Int) (a3 : List (Value × Value)) (b0 : List (Int × Int)) (ay : Pin), en = (upd (upd (upd (upd (upd (upd (upd (upd (upd (upd (upd al 2 (.pointer (some ⟨b3, 0, none⟩))) 4 (.slice none 0 0)) 5 (.slice none 0 0)) 6 d) 7 (.map (some ak))) 8 ao) 9 (vJ (n : Int))) 10 gv) 90 gv) 91 (vJ (y.length : Int))) 92 (vJ (j : Int))) ∧ k = y.length - j ∧ Ext noS G w ay W ∧ Pin.le ab ay ∧ (j ≤ y.length) ∧ (ba = ls.take n ++ (y.take j).map Ent.id ++ ls.drop (n + j)) ∧ (RkOk (regroup ls n (y.map Ent.gn)) (n + j) b0) ∧ (a3 = (done ++ y.take j).map Ent.pr) ∧ (Own eInt 3 ay W w.heap.size d (ba)) ∧ (Own eVal2 99 ay W w.heap.size ao (a3)) ∧ (Own eEnt 124 ay W w.heap.size gv (y)) ∧ (Apart d.ownBlock ao.ownBlock) ∧ (Apart ao.ownBlock gv.ownBlock) ∧ (Lvs 3 ay W w.heap.size W.heap.size aa) ∧ (ApL aa d.ownBlock) ∧ (ApL aa ao.ownBlock) ∧ (ApL aa gv.ownBlock) ∧ (Mp (fun k : Int => Value.int .i64 k) (fun v : Int => Value.int .i64 v) W ak (b0)) ∧ (Pk 65 3 ay W p L R B mm q) ∧ (NP p L R B mm ao.ownBlock)) _ ⟨_, 0, nv, ls, ps, rk, ab, (pS 92 (pS 91 (pS 90 (pS 10 (pS 9 (pS 8 (pS 7 (pS 6 (pS 5 (pS 4 (pU 2))))))))))), rfl, h3, Pin.le_refl _, Nat.zero_le _, (by simp), (hrk.reg eq), (by rw [List.take_zero, List.append_nil]; exact hps), h4, h5, ep, hc, a9.symm, h6, bw, bz, a1, h7, h8, hf⟩ ?_
   rintro ld _ lf ⟨al, j, ao, ba, a3, b0, ay, rfl, lg, b1, er, hj, bi, df, b2, dg, dh, b4, co, es, di, dj, dk, h9, et, dl, dm⟩
   have lh : ba.length = ls.length := by rw [bi]; simp; omega
   have hps3l : a3.length = n + j := by rw [b2]; simp; omega
   refine zB (zC ?_)
   refine qD rfl (yM rfl rfl) ?_
   refine qe (zA (zB ?_))
   refine yD (p := ((j : Int) : Int) < (y.length : Int)) rfl rfl (fun ia => ?_) (fun ia => ?_)
   ·skip
    refine wp_skip ?_
    refine zA (zB ?_)
    refine zZ ?_
    refine zB (zC ?_)
    refine qM (vJ (j : Int)) ?_
    refine qD rfl (zN Tryz.underlying121 sz124 (v := gv) rfl rfl b4.read (by omega) (by omega)) ?_
    obtain ⟨li, ib, ic, lj⟩ := nm_el (j := j) default (b4.at (z := (j : Int)) (by omega) (by omega)) rfl
    obtain ⟨rfl, eu, ev⟩ := ib
    refine qD rfl (ic ag124 sz124 rfl (Gadd.pins b1.pins gv)) ?_
    refine qI rfl (xE [(vJ 0), (.slice none 0 0), (.slice none 0 0)] zr124 rfl b1.pins (fun bj lk b5 ew ex bb => ?_))
    have ey := b1.step ex bb
    have ie := dg.below bb
    have ig := dh.below bb
    have ih := b4.below bb
    have ii := (di.below bb).top
    have ez := et.below bb
    have ij := dl.below bb ex
    have e0 : Apart (some bj) d.ownBlock := zH (congrArg some b5) dg.lt
    have e1 : Apart (some bj) ao.ownBlock := zH (congrArg some b5) dh.lt
    have e2 : Apart (some bj) gv.ownBlock := zH (congrArg some b5) b4.lt
    have e3 : ApL aa (some bj) := ApL.fresh di (fun k hk => by rw [(congrArg some b5)] at hk; cases hk; exact Nat.le_refl _)
    have e4 := dl.new (x := (some bj)) (fun k hk => by rw [(congrArg some b5)] at hk; cases hk; exact Nat.le_refl _)
    have e5 : w.heap.size ≤ bj := by have := b1.size; omega
    refine qM (vJ (j : Int)) ?_
    refine q0 rfl rfl rfl (xA (cs' := [(vJ ((y.getD j default).id)), (y.getD j default).l, (y.getD j default).r]) (us := [(vJ ((y.getD j default).id)), (y.getD j default).l, (y.getD j default).r]) (v := (.agg [(vJ ((y.getD j default).id)), (y.getD j default).l, (y.getD j default).r].toArray)) sz124 rfl rfl rfl (ones3 (by rfl) eu ev) ey.pins ew (Nat.le_of_ble_eq_true rfl) rfl (fun ll ik e6 bc lm => ?_))
    have il := ey.write e6 bc ((yN e5))
    have im := ie.keptA bc e0.symm
    have io := ig.keptA bc e1.symm
    have ip := ih.keptA bc e2.symm
    have iq := (ii.kept bc e3).top
    have e7 := ez.kept bc (yB ez ew)
    have ir := ij.kept bc e6 e4
    obtain ⟨e8, bk, dn, dp, b6⟩ := ik.shut il e5
    have cp := im.moreA bk b6 e0.symm
    have it := io.moreA bk b6 e1.symm
    have iu := ip.moreA bk b6 e2.symm
    have iv := iq.more bk b6 e3
    have iw := ir.more bk b6 e4
    refine qe (zA (zB (zC ?_)))
    refine qM d ?_
    refine qM (vJ (n : Int)) ?_
    refine qM (vJ (j : Int)) ?_
    refine qD rfl (yL rfl rfl (by omega)) ?_
    refine qD rfl (zQ (k := 0) rfl Tryz.underlying124 rfl nz3 rfl) ?_
    refine qD rfl (zS (u := (vJ ((y.getD j default).id))) ag3 rfl (dn.pins _ _ _ (dp 0 _ rfl))) ?_
    refine qD rfl (zN Tryz.underlying65 sz3 (v := d) rfl rfl cp.read (by omega) (by omega)) ?_
    refine q0 rfl rfl rfl (o_set (E := eInt) (v := d) (u := (vJ ((y.getD j default).id))) (z := ((n : Int) + (j : Int))) ((y.getD j default).id) sz3 rfl rfl rfl rfl dn.pins cp (by omega) (by omega) (fun ln e9 fa bl lo => ?_))
    have dq := dn.write fa bl ((zY cp))
    have fb := it.keptA bl co.symm
    have fc := iu.keptA bl a8
    have fd := (iv.kept bl dj).top
    have b7 := e7.kept bl (zO e7 cp)
    have ix := iw.kept bl fa c6
    refine qe (zA (zB (zC ?_)))
    refine qM (.map (some ak)) ?_
    refine qD rfl (zQ (k := 0) rfl Tryz.underlying124 rfl nz3 rfl) ?_
    refine qD rfl (zS (u := (vJ ((y.getD j default).id))) ag3 rfl (dq.pins _ _ _ (dp 0 _ rfl))) ?_
    refine qM (vJ (n : Int)) ?_
    refine qM (vJ (j : Int)) ?_
    refine qD rfl (yL rfl rfl (by omega)) ?_
    refine q0 rfl rfl rfl (qL (val := (fun v : Int => Value.int .i64 v)) (k := ((y.getD j default).id)) (v := ((n : Int) + (j : Int))) (key_int Tryz.underlying3) Tryz.underlying69 rfl rfl rfl dq.pins b7 (fun lp iy fe bm lq => ?_))
    have cq := dq.write fe bm ((yN g0))
    have iz := e9.keptA bm (zO b7 e9).symm
    have i0 := fb.keptA bm (zO b7 fb).symm
    have i1 := fc.keptA bm (zO b7 fc).symm
    have i2 := (fd.kept bm (fun p hp => (zO b7 (fd.own p hp)).symm)).top
    have i3 := ix.kept bm fe gz
    refine qe (zA (zC ?_))
    refine qM ao ?_
    refine qD rfl (zQ (k := 1) rfl Tryz.underlying124 rfl nz99 rfl) ?_
    refine qD rfl (xW (cs := [(y.getD j default).l, (y.getD j default).r]) ag99 sz99 rfl (fun j u hj => cq.pins _ _ _ (dp _ _ (by rw [Nat.add_comm]; simpa using hj)))) ?_
    refine qI rfl (xR (E := eVal2) (e := 99) [(y.getD j default).l, (y.getD j default).r] (((y.getD j default).l, (y.getD j default).r) : Value × Value) Tryz.underlying30 sz99 zr99 ⟨rfl, eu, ev⟩ rfl (by decide) cq.pins (fun ff i4 i5 fg bd lr => ?_))
    have dr := cq.step fg bd
    have fh := iz.below bd
    have ds := i0.below bd
    have fi := i1.below bd
    have fj := (i2.below bd).top
    have fk := iy.below bd
    have fl := i3.below bd fg
    have i6 : Own eVal2 99 e8 i4 w.heap.size ff ([(((y.getD j default).l, (y.getD j default).r) : Value × Value)]) := i5.weaken cq.size
    refine qI rfl (oA (E := eVal2) (v := ao) (u := ff) 48 Tryz.underlying30 ap99 (by decide) rfl rfl dr.pins ds i6.src (dr.size) (fun b8 lu i7 fm bo cr => ?_))
    have i8 := dr.write fm bo ((zY ds))
    have i9 := fh.keptA bo co
    have ja := fi.keptA bo es.symm
    have jb := (fj.kept bo dk).top
    have jc := fk.kept bo (zO fk ds)
    have jd := fl.kept bo fm dm
    have je : Apart d.ownBlock b8.ownBlock := zD co cr fh.lt
    have jf : Apart gv.ownBlock b8.ownBlock := zD es.symm cr fi.lt
    have jg : ApL aa b8.ownBlock := ApL.app fj dk cr
    have jh := np_app dm fl cr
    have lv : (a3 ++ ([(((y.getD j default).l, (y.getD j default).r) : Value × Value)])).length = a3.length + 1 := List.length_append
    refine qM b8 ?_
    refine qe ?_
    refine yG ?_
    refine zA (zC ?_)
    refine qD rfl (yL rfl rfl (by omega)) ?_
    refine qM (vJ ((j : Int) + 1)) ?_
    refine qe ?_
    refine yH ?_
    refine ⟨_, ?_, _, rfl, _, j + 1, b8, (ba).set ((n : Int) + (j : Int)).toNat ((y.getD j default).id), a3 ++ ([(((y.getD j default).l, (y.getD j default).r) : Value × Value)]), putE b0 ((y.getD j default).id) ((n : Int) + (j : Int)), e8, (pS 92 (pS 91 (pS 90 (pS 10 (pS 9 (pS 8 (pS 7 (pS 6 (pS 5 (pS 4 (pU 2))))))))))), rfl, i8, (Pin.le_trans er bk), (by omega), (by rw [bi, show ((n : Int) + (j : Int)).toNat = n + j by omega]; exact reg_step (by omega) (by omega)), (df.ent hRn eq (by omega)), (by rw [b2, xS _ default (by omega), ← List.append_assoc, List.map_append (l₁ := done ++ _)]; rfl), i9, i7, ja, je, jf.symm, jb, dj, jg, h9, jc, jd, jh⟩
    omega
   refine wp_exit ?_
   refine yC ?_
   refine yK ?_
   refine yI ?_
   refine zA (zC ?_)
   refine qM (vJ (n : Int)) ?_
   refine qM gv ?_
   refine qD rfl (zP Tryz.underlying121 (v := gv) rfl b4.read) ?_
   refine qD rfl (yL rfl rfl (by omega)) ?_
   refine qM (vJ ((n : Int) + (y.length : Int))) ?_
   refine qe ?_
   refine yG ?_
   refine yH ?_
   have hjn : j = y.length := by omega
   rw [hjn, reg_end] at bi
   rw [hjn] at df b2
   rw [List.take_length] at b2
   have hls3l : ba.length = ls.length := by rw [bi]; exact hRl
   refine ⟨_, ?_, _, rfl, _, n + y.length, ao, done ++ y, a3, b0, aa, ba, ay, (pS 9 (pS 8 (pS 7 (pS 6 (pS 5 (pS 4 (pU 2))))))), rfl, b1, (Pin.le_trans (Pin.le_trans bu ax) er), (by rw [bi]; exact hor.ents hok a4 hgr (by omega) hend cn h2), (by rw [bi]; exact df), (a7.trans (by rw [lvE_app]; exact List.Perm.append_left _ (lvE_perm cn.symm))), b2, dg, dh, co, di, dj, dk, et, dl, dm⟩
   omega
  ·skip
   refine yO (fun (k : Nat) (en : Nat → Value) (W : World) => ∃ (al : Nat → Value) (kk : Nat) (gv : Value) (gs : List Ent) (aa : List Leaf) (ab : Pin), en = (upd (upd (upd (upd (upd (upd (upd (upd (upd al 2 (.pointer (some ⟨b3, 0, none⟩))) 4 (.slice none 0 0)) 5 (.slice none 0 0)) 6 d) 7 (.map (some ak))) 8 nv) 9 (vJ (n : Int))) 10 gv) 11 (vJ (kk : Int))) ∧ k = ls.length - kk ∧ Ext noS G w ab W ∧ Pin.le am ab ∧ (kk = n + gs.length) ∧ (GrI q ls n (gs.map Ent.gn)) ∧ (aa.Perm (lvE done ++ lvE gs)) ∧ (Own eEnt 124 ab W w.heap.size gv (gs)) ∧ (Own eInt 3 ab W w.heap.size d (ls)) ∧ (Own eVal2 99 ab W w.heap.size nv (ps)) ∧ (Apart gv.ownBlock d.ownBlock) ∧ (Apart gv.ownBlock nv.ownBlock) ∧ (Lvs 3 ab W w.heap.size W.heap.size aa) ∧ (ApL aa gv.ownBlock) ∧ (ApL aa d.ownBlock) ∧ (ApL aa nv.ownBlock) ∧ (Mp (fun k : Int => Value.int .i64 k) (fun v : Int => Value.int .i64 v) W ak (rk)) ∧ (Pk 65 3 ab W p L R B mm q) ∧ (NP p L R B mm gv.ownBlock)) _ ⟨_, n, a5, [], LV, am, (pS 11 (pS 10 (pS 9 (pS 8 (pS 7 (pS 6 (pS 5 (pS 4 (pU 2))))))))), rfl, ho, Pin.le_refl _, rfl, (GrI.start hor), (by simpa [lvE] using hLV), h1, hq, hs, hw, hy, ht, hz, hd, el, hu, hv, h0⟩ ?_
   rintro lw _ an ⟨al, kk, gv, gs, aa, ab, rfl, lx, a6, ax, hkk, hgr, a7, bv, cj, de, a8, a9, ck, a1, bw, bz, cl, cm, a2⟩
   have hgl := hgr.le
   rw [List.length_map] at hgl
   refine zB (zB ?_)
   have ji := Gadd.pins a6.pins d
   have jj := Gadd.pins a6.pins B
   have b9 := cj.read
   have ct := cm.ob.read
   refine xI (S := fun wz => Pins (Gadd ab an d) wz ∧ Pins ab wz ∧ BxR wz p [L, R, B, (.map (some mm.f)), (.map (some mm.o)), (.map (some mm.c)), (.map (some mm.s)), (.map (some mm.n))] ∧ Pins (Gadd ab an B) wz) (last := 27) (by kernel_rfl) rfl ?_
   have aq : Below an.heap.size an an.drew := (Below.refl _ _).drew
   have fn := a6.pins.below aq
   have a := a6.step fn aq
   have dt := bv.below aq
   have ca := cj.below aq
   have du := de.below aq
   have dv := (ck.below aq).top
   have dw := cl.below aq
   have b := cm.below aq fn
   have g := ji.below aq
   have m := jj.below aq
   refine dT (i := 0) rfl rfl (by kernel_rfl) (fun _ _ => zR (v := (vJ (kk : Int))) rfl) ⟨g, a.pins, b.bx.reads, m⟩ ?_
   refine dT (i := 1) rfl rfl (by kernel_rfl) (fun _ _ => zR (v := d) rfl) ⟨g, a.pins, b.bx.reads, m⟩ ?_
   refine dT (i := 2) rfl rfl (by kernel_rfl) (fun _ _ => zP Tryz.underlying65 (v := d) rfl b9) ⟨g, a.pins, b.bx.reads, m⟩ ?_
   refine dT (i := 3) rfl rfl (by kernel_rfl) (fun _ _ => yM rfl rfl) ⟨g, a.pins, b.bx.reads, m⟩ ?_
   refine dT (i := 4) rfl rfl (by kernel_rfl) (fun _ _ => zR (v := (.bool (decide (((kk : Int) : Int) < (ls.length : Int))))) rfl) ⟨g, a.pins, b.bx.reads, m⟩ ?_
   refine drbd (p := ((kk : Int) : Int) < (ls.length : Int)) (t := 35) rfl (fun jk => ?_) (fun jk => ?_)
   ·skip
    have hzk := hplk kk (by omega)
    have hollk := hok.ar.ok.lens (ls.getD kk 0).toNat (by omega)
    refine yZ (i := 5) rfl rfl rfl (yR rfl rfl rfl rfl) (by kernel_rfl) (fun _ hS => zS (u := (.pointer (some ⟨p, 0, none⟩))) ag61 rfl ((Pins.of_le hS.2.1 (Pin.le_trans (Pin.le_trans a0.le bu) ax)) _ _ _ (be 0 _ rfl))) ⟨g, a.pins, b.bx.reads, m⟩ ?_
    refine yZ (i := 6) rfl rfl rfl (yR rfl rfl rfl rfl) (by kernel_rfl) (fun _ _ => yU rfl) ⟨g, a.pins, b.bx.reads, m⟩ ?_
    refine yZ (i := 7) rfl rfl rfl (yR rfl rfl rfl rfl) (by kernel_rfl) (fun _ _ => zQ (k := 2) rfl Tryz.underlying72 rfl nz65 rfl) ⟨g, a.pins, b.bx.reads, m⟩ ?_
    refine yZ (i := 8) rfl rfl rfl (yR rfl rfl rfl rfl) (by kernel_rfl) (fun _ hS => zS (u := B) ag65 rfl (hS.2.2.1 2 _ rfl)) ⟨g, a.pins, b.bx.reads, m⟩ ?_
    refine yZ (i := 9) rfl rfl rfl (yR rfl rfl rfl rfl) (by kernel_rfl) (fun _ _ => zR (v := d) rfl) ⟨g, a.pins, b.bx.reads, m⟩ ?_
    refine yZ (i := 10) rfl rfl rfl (yR rfl rfl rfl rfl) (by kernel_rfl) (fun _ _ => zR (v := (vJ (kk : Int))) rfl) ⟨g, a.pins, b.bx.reads, m⟩ ?_
    refine yZ (i := 11) rfl rfl rfl (yR rfl rfl rfl rfl) (by kernel_rfl) (fun _ _ => zN Tryz.underlying65 sz3 (v := d) rfl rfl b9 (by omega) (by omega)) ⟨g, a.pins, b.bx.reads, m⟩ ?_
    refine yZ (i := 12) rfl rfl rfl (yR rfl rfl rfl rfl) (by kernel_rfl) (fun _ hS => zK (r := ls.getD kk 0) rfl ag3 (z := (kk : Int)) rfl b9 hS.1 (by omega) (by omega)) ⟨g, a.pins, b.bx.reads, m⟩ ?_
    refine yZ (i := 13) rfl rfl rfl (yR rfl rfl rfl rfl) (by kernel_rfl) (fun _ _ => zN Tryz.underlying65 sz3 (v := B) rfl rfl ct (by omega) (by omega)) ⟨g, a.pins, b.bx.reads, m⟩ ?_
    refine yZ (i := 14) rfl rfl rfl (yR rfl rfl rfl rfl) (by kernel_rfl) (fun _ hS => zK (r := q.bs.getD (ls.getD kk 0).toNat 0) rfl ag3 (z := (ls.getD kk 0)) rfl ct hS.2.2.2 (by omega) (by omega)) ⟨g, a.pins, b.bx.reads, m⟩ ?_
    refine yZ (i := 15) rfl rfl rfl (yR rfl rfl rfl rfl) (by kernel_rfl) (fun _ hS => zS (u := (.pointer (some ⟨p, 0, none⟩))) ag61 rfl ((Pins.of_le hS.2.1 (Pin.le_trans (Pin.le_trans a0.le bu) ax)) _ _ _ (be 0 _ rfl))) ⟨g, a.pins, b.bx.reads, m⟩ ?_
    refine yZ (i := 16) rfl rfl rfl (yR rfl rfl rfl rfl) (by kernel_rfl) (fun _ _ => yU rfl) ⟨g, a.pins, b.bx.reads, m⟩ ?_
    refine yZ (i := 17) rfl rfl rfl (yR rfl rfl rfl rfl) (by kernel_rfl) (fun _ _ => zQ (k := 2) rfl Tryz.underlying72 rfl nz65 rfl) ⟨g, a.pins, b.bx.reads, m⟩ ?_
    refine yZ (i := 18) rfl rfl rfl (yR rfl rfl rfl rfl) (by kernel_rfl) (fun _ hS => zS (u := B) ag65 rfl (hS.2.2.1 2 _ rfl)) ⟨g, a.pins, b.bx.reads, m⟩ ?_
    refine yZ (i := 19) rfl rfl rfl (yR rfl rfl rfl rfl) (by kernel_rfl) (fun _ _ => zR (v := d) rfl) ⟨g, a.pins, b.bx.reads, m⟩ ?_
    refine yZ (i := 20) rfl rfl rfl (yR rfl rfl rfl rfl) (by kernel_rfl) (fun _ _ => zR (v := (vJ (n : Int))) rfl) ⟨g, a.pins, b.bx.reads, m⟩ ?_
    refine yZ (i := 21) rfl rfl rfl (yR rfl rfl rfl rfl) (by kernel_rfl) (fun _ _ => zN Tryz.underlying65 sz3 (v := d) rfl rfl b9 (by omega) (by omega)) ⟨g, a.pins, b.bx.reads, m⟩ ?_
    refine yZ (i := 22) rfl rfl rfl (yR rfl rfl rfl rfl) (by kernel_rfl) (fun _ hS => zK (r := ls.getD n 0) rfl ag3 (z := (n : Int)) rfl b9 hS.1 (by omega) (by omega)) ⟨g, a.pins, b.bx.reads, m⟩ ?_
    refine yZ (i := 23) rfl rfl rfl (yR rfl rfl rfl rfl) (by kernel_rfl) (fun _ _ => zN Tryz.underlying65 sz3 (v := B) rfl rfl ct (by omega) (by omega)) ⟨g, a.pins, b.bx.reads, m⟩ ?_
    refine yZ (i := 24) rfl rfl rfl (yR rfl rfl rfl rfl) (by kernel_rfl) (fun _ hS => zK (r := q.bs.getD (ls.getD n 0).toNat 0) rfl ag3 (z := (ls.getD n 0)) rfl ct hS.2.2.2 (by omega) (by omega)) ⟨g, a.pins, b.bx.reads, m⟩ ?_
    refine yZ (i := 25) rfl rfl rfl (yR rfl rfl rfl rfl) (by kernel_rfl) (fun _ _ => r_eql rfl rfl) ⟨g, a.pins, b.bx.reads, m⟩ ?_
    refine dT (i := 26) rfl rfl (by kernel_rfl) (fun _ _ => xJ (v := (.bool (decide ((q.bs.getD (ls.getD kk 0).toNat 0 : Int) = (q.bs.getD (ls.getD n 0).toNat 0))))) rfl rfl) ⟨g, a.pins, b.bx.reads, m⟩ ?_
    refine yT (by kernel_rfl) ?_
    refine zA ?_
    refine yD (p := (q.bs.getD (ls.getD kk 0).toNat 0 : Int) = (q.bs.getD (ls.getD n 0).toNat 0)) rfl rfl (fun dx => ?_) (fun dx => ?_)
    ·skip
     refine wp_skip ?_
     refine zA (zB ?_)
     refine zZ ?_
     refine zB (zC ?_)
     refine qM d ?_
     refine qM (vJ (kk : Int)) ?_
     refine qD rfl (zN Tryz.underlying65 sz3 (v := d) rfl rfl ca.read (by omega) (by omega)) ?_
     refine qD rfl (zK (r := ls.getD kk 0) rfl ag3 (z := (kk : Int)) rfl ca.read (Gadd.pins a.pins d) (by omega) (by omega)) ?_
     refine qM (vJ (ls.getD kk 0)) ?_
     refine qe (zA ?_)
     have jl := Gadd.pins a.pins L
     have jm := Gadd.pins a.pins R
     have jn := b.ol.read
     have jo := b.rr.read
     refine xI (S := fun wz => Pins ab wz ∧ BxR wz p [L, R, B, (.map (some mm.f)), (.map (some mm.o)), (.map (some mm.c)), (.map (some mm.s)), (.map (some mm.n))] ∧ Pins (Gadd ab an.drew L) wz ∧ Pins (Gadd ab an.drew R) wz) (last := 25) (by kernel_rfl) rfl ?_
     have au : Below an.drew.heap.size an.drew an.drew.drew := (Below.refl _ _).drew
     have fo := a.pins.below au
     have ad := a.step fo au
     have fp := dt.below au
     have fq := ca.below au
     have fr := du.below au
     have fs := (dv.below au).top
     have ft := dw.below au
     have af := b.below au fo
     have ag := jl.below au
     have ah := jm.below au
     refine dT (i := 0) rfl rfl (by kernel_rfl) (fun _ _ => zR (v := gv) rfl) ⟨ad.pins, af.bx.reads, ag, ah⟩ ?_
     refine dT (i := 1) rfl rfl (by kernel_rfl) (fun _ _ => zR (v := (vJ (ls.getD kk 0))) rfl) ⟨ad.pins, af.bx.reads, ag, ah⟩ ?_
     refine dT (i := 2) rfl rfl (by kernel_rfl) (fun _ hS => zS (u := (.pointer (some ⟨p, 0, none⟩))) ag61 rfl ((Pins.of_le hS.1 (Pin.le_trans (Pin.le_trans a0.le bu) ax)) _ _ _ (be 0 _ rfl))) ⟨ad.pins, af.bx.reads, ag, ah⟩ ?_
     refine dT (i := 3) rfl rfl (by kernel_rfl) (fun _ _ => yU rfl) ⟨ad.pins, af.bx.reads, ag, ah⟩ ?_
     refine dT (i := 4) rfl rfl (by kernel_rfl) (fun _ _ => zQ (k := 0) rfl Tryz.underlying72 rfl nz66 rfl) ⟨ad.pins, af.bx.reads, ag, ah⟩ ?_
     refine dT (i := 5) rfl rfl (by kernel_rfl) (fun _ hS => zS (u := L) ag66 rfl (hS.2.1 0 _ rfl)) ⟨ad.pins, af.bx.reads, ag, ah⟩ ?_
     refine dT (i := 6) rfl rfl (by kernel_rfl) (fun _ _ => zR (v := (vJ (ls.getD kk 0))) rfl) ⟨ad.pins, af.bx.reads, ag, ah⟩ ?_
     refine dT (i := 7) rfl rfl (by kernel_rfl) (fun _ _ => zN Tryz.underlying66 sz65 (v := L) rfl rfl jn (by omega) (by omega)) ⟨ad.pins, af.bx.reads, ag, ah⟩ ?_
     obtain ⟨jp, dy, jq⟩ := nm_sl (b.ol.at (z := (ls.getD kk 0)) (by omega) (by omega)) (j := (ls.getD kk 0).toNat) rfl
     rw [mapl_getD] at dy
     have ly := dy.max
     refine dT (i := 8) rfl rfl (by kernel_rfl) (fun _ hS => jq ag65 rfl hS.2.2.1) ⟨ad.pins, af.bx.reads, ag, ah⟩ ?_
     refine dT (i := 9) rfl rfl (by kernel_rfl) (fun _ _ => zR (v := (.map (some ak))) rfl) ⟨ad.pins, af.bx.reads, ag, ah⟩ ?_
     refine dT (i := 11) rfl rfl (by kernel_rfl) (fun _ hS => zS (u := (.pointer (some ⟨p, 0, none⟩))) ag61 rfl ((Pins.of_le hS.1 (Pin.le_trans (Pin.le_trans a0.le bu) ax)) _ _ _ (be 0 _ rfl))) ⟨ad.pins, af.bx.reads, ag, ah⟩ ?_
     refine dT (i := 12) rfl rfl (by kernel_rfl) (fun _ _ => yU rfl) ⟨ad.pins, af.bx.reads, ag, ah⟩ ?_
     refine dT (i := 13) rfl rfl (by kernel_rfl) (fun _ _ => zQ (k := 1) rfl Tryz.underlying72 rfl nz66 rfl) ⟨ad.pins, af.bx.reads, ag, ah⟩ ?_
     refine dT (i := 14) rfl rfl (by kernel_rfl) (fun _ hS => zS (u := R) ag66 rfl (hS.2.1 1 _ rfl)) ⟨ad.pins, af.bx.reads, ag, ah⟩ ?_
     refine dT (i := 15) rfl rfl (by kernel_rfl) (fun _ _ => zR (v := (vJ (ls.getD kk 0))) rfl) ⟨ad.pins, af.bx.reads, ag, ah⟩ ?_
     refine dT (i := 16) rfl rfl (by kernel_rfl) (fun _ _ => zN Tryz.underlying66 sz65 (v := R) rfl rfl jo (by omega) (by omega)) ⟨ad.pins, af.bx.reads, ag, ah⟩ ?_
     obtain ⟨jr, dz, js⟩ := nm_sl (b.rr.at (z := (ls.getD kk 0)) (by omega) (by omega)) (j := (ls.getD kk 0).toNat) rfl
     rw [mapr_getD] at dz
     have lz := dz.max
     refine dT (i := 17) rfl rfl (by kernel_rfl) (fun _ hS => js ag65 rfl hS.2.2.2) ⟨ad.pins, af.bx.reads, ag, ah⟩ ?_
     refine dT (i := 18) rfl rfl (by kernel_rfl) (fun _ _ => zR (v := (.map (some ak))) rfl) ⟨ad.pins, af.bx.reads, ag, ah⟩ ?_
     refine dO (i := 10) (zW (i := 10) rfl rfl rfl (zG rfl _) (zL (vs := [jp, (.map (some ak))]) Tryz.func117 nm117 rfl rfl rfl ?_))
     refine Calls.mono (ranked_spec ad.pins dy ft (by omega)) ?_
     rintro _ jt ⟨ac, ju, rfl, cb, ae⟩
     refine ⟨_, rfl, ?_⟩
     have cu := ad.tr ae
     have fu := fp.ext ae
     have fv := fq.ext ae
     have fw := fr.ext ae
     have fx := (fs.ext ae).top
     have fy := ft.below ae.below
     have fz := af.ext ae
     have f0 := zM cb.lt fp.lt
     have jv := zM cb.lt fq.lt
     have jw := zM cb.lt fr.lt
     have jx : ApL aa ac.ownBlock := ApL.fresh fs (fun k hk => (cb.lt k hk).1)
     have f1 : Own eInt 3 ju jt w.heap.size ac (sortM (((q.ns.getD (ls.getD kk 0).toNat default).l).map (rkI rk))) := cb.weaken ad.size
     have f2 := ag.below ae.below
     have f3 := ah.below ae.below
     refine ⟨fun _ => ⟨(Pins.of_le cu.pins ae.le), fz.bx.reads, f2, f3⟩, ?_⟩
     refine dO (i := 19) (zW (i := 19) rfl rfl rfl (zG rfl _) (zL (vs := [jr, (.map (some ak))]) Tryz.func117 nm117 rfl rfl rfl ?_))
     refine Calls.mono (ranked_spec cu.pins (dz.mono ae.le) fy (by omega)) ?_
     rintro _ jy ⟨ai, d0, rfl, bp, aj⟩
     refine ⟨_, rfl, ?_⟩
     have bq := cu.tr aj
     have jz := fu.ext aj
     have j0 := fv.ext aj
     have j1 := fw.ext aj
     have d1 := f1.ext aj
     have j2 := (fx.ext aj).top
     have j3 := fy.below aj.below
     have cv := fz.ext aj
     have f4 := zM bp.lt fu.lt
     have j4 := zM bp.lt fv.lt
     have j5 := zM bp.lt fw.lt
     have j6 := zM bp.lt f1.lt
     have j7 : ApL aa ai.ownBlock := ApL.fresh fx (fun k hk => (bp.lt k hk).1)
     have d2 : Own eInt 3 d0 jy w.heap.size ai (sortM (((q.ns.getD (ls.getD kk 0).toNat default).r).map (rkI rk))) := bp.weaken cu.size
     have cw := f2.below aj.below
     have cx := f3.below aj.below
     refine ⟨fun _ => ⟨(Pins.of_le bq.pins (Pin.le_trans ae.le aj.le)), cv.bx.reads, cw, cx⟩, ?_⟩
     refine dT (i := 20) rfl rfl (by kernel_rfl) (fun _ _ => xB [(.slice none 0 0), (.slice none 0 0)] [ac, ai] [(0, ac, [ac]), (1, ai, [ai])] Tryz.underlying99 zr99 rfl pl99 rfl (List.forall_mem_cons.2 ⟨(yP d1.one), (List.forall_mem_cons.2 ⟨(yP d2.one), (fun _ h => by cases h)⟩)⟩) rfl) ⟨(Pins.of_le bq.pins (Pin.le_trans ae.le aj.le)), cv.bx.reads, cw, cx⟩ ?_
     refine dT (i := 21) rfl rfl (by kernel_rfl) (fun _ _ => xB [(vJ 0), (.slice none 0 0), (.slice none 0 0)] [(vJ (ls.getD kk 0)), ac, ai] [(0, (vJ (ls.getD kk 0)), [(vJ (ls.getD kk 0))]), (1, (.agg [ac, ai].toArray), [ac, ai])] Tryz.underlying124 zr124 rfl pl124 rfl (List.forall_mem_cons.2 ⟨rfl, (List.forall_mem_cons.2 ⟨rfl, (fun _ h => by cases h)⟩)⟩) rfl) ⟨(Pins.of_le bq.pins (Pin.le_trans ae.le aj.le)), cv.bx.reads, cw, cx⟩ ?_
     refine dO (i := 22) (zW (i := 22) rfl rfl rfl (zG rfl _) (xR (E := eEnt) (e := 124) [(vJ (ls.getD kk 0)), ac, ai] (⟨ls.getD kk 0, ac, ai, ⟨sortM (((q.ns.getD (ls.getD kk 0).toNat default).l).map (rkI rk)), sortM (((q.ns.getD (ls.getD kk 0).toNat default).r).map (rkI rk))⟩⟩ : Ent) Tryz.underlying121 sz124 zr124 ⟨rfl, d1.one, d2.one⟩ rfl (by decide) bq.pins (fun f5 j8 j9 f6 ap l0 => ?_)))
     have cy := bq.step f6 ap
     have d3 := jz.below ap
     have f7 := j0.below ap
     have f8 := j1.below ap
     have f9 := d1.below ap
     have ga := d2.below ap
     have gb := (j2.below ap).top
     have gc := j3.below ap
     have d4 := cv.below ap f6
     have ka : Own eEnt 124 d0 j8 w.heap.size f5 ([(⟨ls.getD kk 0, ac, ai, ⟨sortM (((q.ns.getD (ls.getD kk 0).toNat default).l).map (rkI rk)), sortM (((q.ns.getD (ls.getD kk 0).toNat default).r).map (rkI rk))⟩⟩ : Ent)]) := j9.weaken bq.size
     have gd := cw.below ap
     have ge := cx.below ap
     refine ⟨fun _ => ⟨(Pins.of_le cy.pins (Pin.le_trans ae.le aj.le)), d4.bx.reads, gd, ge⟩, ?_⟩
     refine dO (i := 23) (zW (i := 23) rfl rfl rfl (zG rfl _) (oA (E := eEnt) (v := gv) (u := f5) 56 Tryz.underlying121 ap124 (by decide) rfl rfl cy.pins d3 ka.src (cy.size) (fun az l1 kb cz av br => ?_)))
     have cc := cy.write cz av ((zY d3))
     have kc := f7.keptA av a8.symm
     have kd := f8.keptA av a9.symm
     have ke := f9.keptA av f0
     have kf := ga.keptA av f4
     have kg := (gb.kept av a1).top
     have kh := gc.kept av (zO gc d3)
     have d5 := d4.kept av cz a2
     have ki : Apart d.ownBlock az.ownBlock := zD a8.symm br f7.lt
     have kj : Apart nv.ownBlock az.ownBlock := zD a9.symm br f8.lt
     have kl : Apart ac.ownBlock az.ownBlock := zD f0 br f9.lt
     have km : Apart ai.ownBlock az.ownBlock := zD f4 br ga.lt
     have kn : ApL aa az.ownBlock := ApL.app gb a1 br
     have ko := np_app a2 d4 br
     have l2 : (gs ++ ([(⟨ls.getD kk 0, ac, ai, ⟨sortM (((q.ns.getD (ls.getD kk 0).toNat default).l).map (rkI rk)), sortM (((q.ns.getD (ls.getD kk 0).toNat default).r).map (rkI rk))⟩⟩ : Ent)])).length = gs.length + 1 := List.length_append
     have gf := Gadd.turn gd (Pins.of_le cc.pins (Pin.le_trans ae.le aj.le)) (Ext.one cz av) (notO (NP.hl a2).symm)
     have gg := Gadd.turn ge (Pins.of_le cc.pins (Pin.le_trans ae.le aj.le)) (Ext.one cz av) (notO (NP.hr a2).symm)
     refine ⟨fun _ => ⟨(Pins.of_le cc.pins (Pin.le_trans ae.le aj.le)), d5.bx.reads, gf, gg⟩, ?_⟩
     refine dT (i := 24) rfl rfl (by kernel_rfl) (fun _ _ => qG (v := az) rfl) ⟨(Pins.of_le cc.pins (Pin.le_trans ae.le aj.le)), d5.bx.reads, gf, gg⟩ ?_
     refine yT (by kernel_rfl) ?_
     refine yG ?_
     refine zA (zC ?_)
     refine qM (vJ (kk : Int)) ?_
     refine qD rfl (yL rfl rfl (by omega)) ?_
     refine qM (vJ ((kk : Int) + 1)) ?_
     refine qe ?_
     refine yH ?_
     have kp := kg.add ke jx
     have kq : ApL (aa ++ [(ac, sortM (((q.ns.getD (ls.getD kk 0).toNat default).l).map (rkI rk)))]) d.ownBlock := bw.add jv
     have kr : ApL (aa ++ [(ac, sortM (((q.ns.getD (ls.getD kk 0).toNat default).l).map (rkI rk)))]) nv.ownBlock := bz.add jw
     have ks : ApL (aa ++ [(ac, sortM (((q.ns.getD (ls.getD kk 0).toNat default).l).map (rkI rk)))]) ai.ownBlock := j7.add j6.symm
     have kt : ApL (aa ++ [(ac, sortM (((q.ns.getD (ls.getD kk 0).toNat default).l).map (rkI rk)))]) az.ownBlock := kn.add kl
     have ku := kp.add kf ks
     have kv : ApL ((aa ++ [(ac, sortM (((q.ns.getD (ls.getD kk 0).toNat default).l).map (rkI rk)))]) ++ [(ai, sortM (((q.ns.getD (ls.getD kk 0).toNat default).r).map (rkI rk)))]) d.ownBlock := kq.add j4
     have kw : ApL ((aa ++ [(ac, sortM (((q.ns.getD (ls.getD kk 0).toNat default).l).map (rkI rk)))]) ++ [(ai, sortM (((q.ns.getD (ls.getD kk 0).toNat default).r).map (rkI rk)))]) nv.ownBlock := kr.add j5
     have kx : ApL ((aa ++ [(ac, sortM (((q.ns.getD (ls.getD kk 0).toNat default).l).map (rkI rk)))]) ++ [(ai, sortM (((q.ns.getD (ls.getD kk 0).toNat default).r).map (rkI rk)))]) az.ownBlock := kt.add km
     refine ⟨_, ?_, _, rfl, _, kk + 1, az, gs ++ ([(⟨ls.getD kk 0, ac, ai, ⟨sortM (((q.ns.getD (ls.getD kk 0).toNat default).l).map (rkI rk)), sortM (((q.ns.getD (ls.getD kk 0).toNat default).r).map (rkI rk))⟩⟩ : Ent)]), (aa ++ [(ac, sortM (((q.ns.getD (ls.getD kk 0).toNat default).l).map (rkI rk)))]) ++ [(ai, sortM (((q.ns.getD (ls.getD kk 0).toNat default).r).map (rkI rk)))], d0, (pS 11 (pS 10 (pS 9 (pS 8 (pS 7 (pS 6 (pS 5 (pS 4 (pU 2))))))))), rfl, cc, (Pin.le_trans (Pin.le_trans ax ae.le) aj.le), (by rw [List.length_append]; simp; omega), (hgr.ent hor hok a4 hrk hkk (by omega) dx), (by rw [lvE_app, ← List.append_assoc, List.append_assoc aa]; exact a7.append_right _), kb, kc, kd, ki.symm, kj.symm, ku, kx, kv, kw, kh, d5, ko⟩
     omega
    refine wp_exit ?_
    refine yC ?_
    refine yK ?_
    exact cutE_in ⟨_, kk, gv, gs, aa, ab, (pS 11 (pS 10 (pS 9 (pS 8 (pS 7 (pS 6 (pS 5 (pS 4 (pU 2))))))))), a, ax, hkk, hgr, a7, (Or.inr (by rw [← hkk]; exact dx)), dt, ca, du, a8, a9, dv, a1, bw, bz, dw, b, a2⟩
   refine xC (i := 5) rfl rfl (yY rfl rfl rfl rfl rfl) (by kernel_rfl) ⟨g, a.pins, b.bx.reads, m⟩ ?_
   refine xC (i := 6) rfl rfl (yY rfl rfl rfl rfl rfl) (by kernel_rfl) ⟨g, a.pins, b.bx.reads, m⟩ ?_
   refine xC (i := 7) rfl rfl (yY rfl rfl rfl rfl rfl) (by kernel_rfl) ⟨g, a.pins, b.bx.reads, m⟩ ?_
   refine xC (i := 8) rfl rfl (yY rfl rfl rfl rfl rfl) (by kernel_rfl) ⟨g, a.pins, b.bx.reads, m⟩ ?_
   refine xC (i := 9) rfl rfl (yY rfl rfl rfl rfl rfl) (by kernel_rfl) ⟨g, a.pins, b.bx.reads, m⟩ ?_
   refine xC (i := 10) rfl rfl (yY rfl rfl rfl rfl rfl) (by kernel_rfl) ⟨g, a.pins, b.bx.reads, m⟩ ?_
   refine xC (i := 11) rfl rfl (yY rfl rfl rfl rfl rfl) (by kernel_rfl) ⟨g, a.pins, b.bx.reads, m⟩ ?_
   refine xC (i := 12) rfl rfl (yY rfl rfl rfl rfl rfl) (by kernel_rfl) ⟨g, a.pins, b.bx.reads, m⟩ ?_
   refine xC (i := 13) rfl rfl (yY rfl rfl rfl rfl rfl) (by kernel_rfl) ⟨g, a.pins, b.bx.reads, m⟩ ?_
   refine xC (i := 14) rfl rfl (yY rfl rfl rfl rfl rfl) (by kernel_rfl) ⟨g, a.pins, b.bx.reads, m⟩ ?_
   refine xC (i := 15) rfl rfl (yY rfl rfl rfl rfl rfl) (by kernel_rfl) ⟨g, a.pins, b.bx.reads, m⟩ ?_
   refine xC (i := 16) rfl rfl (yY rfl rfl rfl rfl rfl) (by kernel_rfl) ⟨g, a.pins, b.bx.reads, m⟩ ?_
   refine xC (i := 17) rfl rfl (yY rfl rfl rfl rfl rfl) (by kernel_rfl) ⟨g, a.pins, b.bx.reads, m⟩ ?_
   refine xC (i := 18) rfl rfl (yY rfl rfl rfl rfl rfl) (by kernel_rfl) ⟨g, a.pins, b.bx.reads, m⟩ ?_
   refine xC (i := 19) rfl rfl (yY rfl rfl rfl rfl rfl) (by kernel_rfl) ⟨g, a.pins, b.bx.reads, m⟩ ?_
   refine xC (i := 20) rfl rfl (yY rfl rfl rfl rfl rfl) (by kernel_rfl) ⟨g, a.pins, b.bx.reads, m⟩ ?_
   refine xC (i := 21) rfl rfl (yY rfl rfl rfl rfl rfl) (by kernel_rfl) ⟨g, a.pins, b.bx.reads, m⟩ ?_
   refine xC (i := 22) rfl rfl (yY rfl rfl rfl rfl rfl) (by kernel_rfl) ⟨g, a.pins, b.bx.reads, m⟩ ?_
   refine xC (i := 23) rfl rfl (yY rfl rfl rfl rfl rfl) (by kernel_rfl) ⟨g, a.pins, b.bx.reads, m⟩ ?_
   refine xC (i := 24) rfl rfl (yY rfl rfl rfl rfl rfl) (by kernel_rfl) ⟨g, a.pins, b.bx.reads, m⟩ ?_
   refine xC (i := 25) rfl rfl (yY rfl rfl rfl rfl rfl) (by kernel_rfl) ⟨g, a.pins, b.bx.reads, m⟩ ?_
   refine dT (i := 26) rfl rfl (by kernel_rfl) (fun _ _ => xG (v := (.bool false)) rfl rfl) ⟨g, a.pins, b.bx.reads, m⟩ ?_
   refine yT (by kernel_rfl) ?_
   refine zA ?_
   refine c_ifF rfl rfl ?_
   refine wp_exit ?_
   refine yC ?_
   refine yK ?_
   exact cutE_in ⟨_, kk, gv, gs, aa, ab, (pS 11 (pS 10 (pS 9 (pS 8 (pS 7 (pS 6 (pS 5 (pS 4 (pU 2))))))))), a, ax, hkk, hgr, a7, (Or.inl (by omega)), dt, ca, du, a8, a9, dv, a1, bw, bz, dw, b, a2⟩
 refine wp_exit ?_
 refine yC ?_
 refine yK ?_
 refine yI ?_
 refine zA (zB (zC ?_))
 refine qM d ?_
 refine qM nv ?_
 refine qM d ?_
 refine qM nv ?_
 refine qe (zA ?_)
 refine wp_ret ?_
 refine zU ?_
 refine c_ret2 (v := d) (u := nv) rfl rfl rfl rfl rfl ?_
 have hnn : n = ls.length := by omega
 rw [hnn] at hor
 have hon := dc
 rw [hps] at hon
 have hlv := dd.perm hLV
 have hap := el.perm hLV
 rw [lvE_lvN] at hlv hap
 exact ⟨_, _, ls, done.map Ent.nd, c4, _, rfl, ch, ⟨done.map Ent.pr, by rw [List.length_map, List.length_map], hon, fun k hk => (hon.lt k hk).2, hlv, hap⟩, hor, a4, cg⟩

end OD1
end Go.Proofs.YtfnginkcmcfdfaaGreatDoor

set_option maxRecDepth 20000
set_option maxHeartbeats 2000000
namespace Go.Proofs.YtfnginkcmcfdfaaGreatDoor
namespace FO1
open Go.RowKit Go.GL Go.Proofs
open Go.Proofs.YtfnginkcmcfdfaaGreatDoor.B1
open Go.Proofs.YtfnginkcmcfdfaaGreatDoor.PO1
open Go.Proofs.YtfnginkcmcfdfaaGreatDoor.PA1
open Go.Proofs.YtfnginkcmcfdfaaGreatDoor.SO1
open Go.Proofs.YtfnginkcmcfdfaaGreatDoor.OD1






theorem pl32 : (Tryz.prog.underlying 32).bind (placesD Tryz.prog) = some [(0, 1)] := by kernel_rfl






theorem form_spec {w : World} {G : Pin} {p : Nat} {L R B : Value} {mm : PM} {q : PSt} (hP : Pins G w) (hpk : Pk 65 3 G w p L R B mm q) (hok : PoolOk q) {i : Int} (hi : PlaceOk q i) :
  Calls Tryz.prog 59 [(.pointer (some ⟨p, 0, none⟩)), (vJ i)].toArray w fun e w' => ∃ (u : Value) (G' : Pin), e = .returned (.tuple #[(.agg [u].toArray), .bool (fitB (pd q i))]) ∧ DForm 99 3 G' w' w.heap.size w'.heap.size u (frmG (pd q i)) ∧ Ext noS G w G' w' := by
 refine zX (n := 44) Tryz.func59 Tryz.ntmps59 rfl rfl ?_
 have aj : Ext noS G w G w := Ext.refl hP
 have hpin : PIn w (inP p L R B mm) p L R B mm := PIn.self
 have ea : (q.ns.map Nd.l).length = q.ns.length ∧ (q.ns.map Nd.r).length = q.ns.length := ⟨List.length_map .., List.length_map ..⟩
 have eb : q.bs.length = q.ns.length ∧ q.ns.length ≤ 1048576 := ⟨hok.ar.ok.len, hok.ar.ok.lim⟩
 have ec := hi.1
 have ed := hi.2
 have a1 := place_one hi
 refine zB (zC ?_)
 refine qI rfl (xE [(.slice none 0 0)] zr32 rfl aj.pins (fun d w4 ef a2 a3 a4 => ?_))
 have ak := aj.step a3 a4
 have a5 := hpk.below a4 a3
 have ac : w.heap.size ≤ d := by have := aj.size; omega
 refine qM (.bool false) ?_
 refine qe (zA (zB (zB (zC ?_))))
 refine qM (.pointer (some ⟨p, 0, none⟩)) ?_
 refine qM (vJ i) ?_
 refine qI rfl (yE (E := eInt) (e := 3) [(vJ i)] [i] Tryz.underlying65 sz3 zr3 (by exact xF (by rfl)) (yF (by rfl)) rfl rfl rfl rfl (by decide) ak.pins (fun ad b4 b5 a6 al a7 => ?_))
 have b6 := ak.step a6 al
 have b7 := a2.below al
 have b8 := a5.below al a6
 have b9 : Apart ad.ownBlock (some d) := zI a7 a2.lt
 have ca := a5.new (x := ad.ownBlock) (fun k hk => by rw [a7] at hk; cases hk; exact Nat.le_refl _)
 have cb : Own eInt 3 G b4 w.heap.size ad ([i]) := b5.weaken ak.size
 obtain ⟨eg, cc, am, cd, a8⟩ := cb.sealed b6
 have ce := b7.moreO a8 b9.symm
 have a9 := b8.moreO cc a8 ca
 refine qI rfl (zL (vs := [(.pointer (some ⟨p, 0, none⟩)), ad]) Tryz.func103 nm103 rfl rfl rfl ?_)
 refine Calls.mono (parts_spec am.pins a9 hok cd a1 (by simp)) ?_
 rintro _ cf ⟨ba, bb, bc, rfl, cg, bd, an⟩
 refine ⟨_, rfl, ?_⟩
 have s := am.tr an
 have ao := ce.ext an
 have be := a9.ext an
 have ch : Own eInt 3 bc cf w.heap.size ba bb := cg.weaken am.size
 have eh := bd.len
 have hfl := form_len hok hi bd
 refine qD rfl (zP Tryz.underlying65 (v := ba) rfl ch.read) ?_
 refine qD rfl (r_gtr rfl rfl) ?_
 refine qe (zA ?_)
 refine yD (p := (120 : Int) < (bb.length : Int)) rfl rfl (fun ci => ?_) (fun ci => ?_)
 ·skip
  refine zB (zC ?_)
  refine qD rfl (xB [(.slice none 0 0)] [(.slice none 0 0)] [] Tryz.underlying32 zr32 rfl pl32 rfl (fun _ h => by cases h) rfl) ?_
  refine q0 rfl rfl rfl (xA (cs' := [(.slice none 0 0)]) (us := [(.slice none 0 0)]) (v := (.agg [(.slice none 0 0)].toArray)) sz32 rfl rfl rfl (yF (by rfl)) s.pins ao (Nat.le_of_ble_eq_true rfl) rfl (fun ei cj ck cl ej => ?_))
  have cm := s.write ck cl ((yN ac))
  refine qM (.bool false) ?_
  refine qe (zA ?_)
  refine wp_ret ?_
  refine zU ?_
  refine xY (cs := [(.slice none 0 0)]) (v := (.bool false)) rfl rfl rfl rfl rfl ag32 sz32 (fun j u hj => by rw [Nat.zero_add]; exact cj.cell hj) ?_
  have hfb : fitB (pd q i) = false := fit_long (by omega)
  rw [hfb, frm_no hfb]
  exact ⟨_, _, rfl, DForm.nil, cm⟩
 refine wp_skip ?_
 refine zA (zB (zC ?_))
 refine qM (.pointer (some ⟨p, 0, none⟩)) ?_
 refine qM (vJ i) ?_
 refine qI rfl (yE (E := eInt) (e := 3) [(vJ i)] [i] Tryz.underlying65 sz3 zr3 (by exact xF (by rfl)) (yF (by rfl)) rfl rfl rfl rfl (by decide) s.pins (fun ae cn co bf ap bg => ?_))
 have cp := s.step bf ap
 have cq := ao.below ap
 have cr := be.below ap bf
 have ct : Apart ae.ownBlock (some d) := zI bg ao.lt
 have cu := be.new (x := ae.ownBlock) (fun k hk => by rw [bg] at hk; cases hk; exact Nat.le_refl _)
 have cv : Own eInt 3 bc cn w.heap.size ae ([i]) := co.weaken s.size
 obtain ⟨ek, cw, af, cx, bh⟩ := cv.sealed cp
 have aq := cq.moreO bh ct.symm
 have bi := cr.moreO cw bh cu
 refine qI rfl (zL (vs := [(.pointer (some ⟨p, 0, none⟩)), ae]) Tryz.func66 nm66 rfl rfl rfl ?_)
 refine Calls.mono (order_spec af.pins bi hok cx a1 (by simp)) ?_
 rintro _ el ⟨au, b, em, c, eo, bj, rfl, ep, cy, cz, c0, av⟩
 refine ⟨_, rfl, ?_⟩
 have c1 := af.tr av
 have c2 := aq.ext av
 have c3 := bi.ext av
 have hfo := cz.form hok c0
 obtain ⟨a, c4, bk, er, bl, c5⟩ := cy.ex
 have bm := bk.weaken af.size
 have c6 := (bl.weaken af.size (Nat.le_refl _)).top
 have c7 : Apart (some d) b.ownBlock := (zV bk.lt aq.lt).symm
 have c8 : ApL (lvN a c) (some d) := fun p hp => zV (bl.own p hp).lt aq.lt
 refine qM (.tuple #[au, b]) ?_
 refine qD rfl (yX (v := au) rfl rfl) ?_
 refine qD rfl (yX (v := b) rfl rfl) ?_
 refine qM au ?_
 refine qM b ?_
 refine qe (zA (zB (zB (zC ?_))))
 refine qM b ?_
 refine qD rfl (zP Tryz.underlying30 (v := b) rfl bm.read) ?_
 refine qM (vJ 0) ?_
 refine qe (zA ?_)
 refine zZ ?_
 have hlo := hfo.1.lo
 have hlf := hfo.eq
 rw [hlf] at hfl
 refine yO (fun (k : Nat) (en : Nat → Value) (W : World) => ∃ (bn : Nat → Value) (j : Nat) (f : Pin), en = (upd (upd (upd (upd (upd bn 4 (.pointer (some ⟨d, 0, none⟩))) 7 b) 24 b) 25 (vJ (a.length : Int))) 26 (vJ (j : Int))) ∧ k = c.length - j ∧ Ext noS G w f W ∧ Pin.le bj f ∧ (j ≤ c.length) ∧ (∀ k, k < j → (c.getD k default).l.length ≤ 24 ∧ (c.getD k default).r.length ≤ 24) ∧ (Own eVal2 99 f W w.heap.size b (a)) ∧ (Bx f W d [(.slice none 0 0)]) ∧ (Lvs 3 f W w.heap.size W.heap.size (lvN a c)) ∧ (ApL (lvN a c) b.ownBlock) ∧ (ApL (lvN a c) (some d)) ∧ (Pk 65 3 f W p L R B mm q)) _ ⟨_, 0, bj, (pS 26 (pS 25 (pS 24 (pS 7 (pU 4))))), rfl, c1, Pin.le_refl _, Nat.zero_le _, (fun k hk => absurd hk (Nat.not_lt_zero k)), bm, c2, c6, c5, c8, c3⟩ ?_
 rintro es _ et ⟨bn, j, f, rfl, eu, o, c9, hj, hop, g, aw, ax, bo, bp, bq⟩
 refine zB (zC ?_)
 refine qD rfl (yM rfl rfl) ?_
 refine qe (zA (zB ?_))
 refine yD (p := ((j : Int) : Int) < (a.length : Int)) rfl rfl (fun da => ?_) (fun da => ?_)
 ·skip
  refine wp_skip ?_
  refine zA (zB ?_)
  refine zZ ?_
  refine zB (zC ?_)
  refine qD rfl (zN Tryz.underlying30 sz99 (v := b) rfl rfl g.read (by omega) (by omega)) ?_
  obtain ⟨ev, db, dc, ew⟩ := nm_el (j := j) default (g.at (z := (j : Int)) (by omega) (by omega)) rfl
  obtain ⟨rfl, dd, de⟩ := db
  refine qD rfl (dc ag99 sz99 rfl (Gadd.pins o.pins b)) ?_
  refine qI rfl (xE [(.slice none 0 0), (.slice none 0 0)] zr99 rfl o.pins (fun y ey ag df br aa => ?_))
  have bt := o.step br aa
  have dg := g.below aa
  have dh := aw.below aa
  have di := (ax.below aa).top
  have dj := bq.below aa br
  have bu : Apart (some y) b.ownBlock := zH (congrArg some ag) g.lt
  have bv : Apart (some y) (some d) := zI (congrArg some ag) aw.lt
  have bw : ApL (lvN a c) (some y) := ApL.fresh ax (fun k hk => by rw [(congrArg some ag)] at hk; cases hk; exact Nat.le_refl _)
  have bx := bq.new (x := (some y)) (fun k hk => by rw [(congrArg some ag)] at hk; cases hk; exact Nat.le_refl _)
  have bz : w.heap.size ≤ y := by have := o.size; omega
  refine q0 rfl rfl rfl (xA (cs' := [(a.getD j default).1, (a.getD j default).2]) (us := [(a.getD j default).1, (a.getD j default).2]) (v := (.agg [(a.getD j default).1, (a.getD j default).2].toArray)) sz99 rfl rfl rfl (ones2 dd de) bt.pins df (Nat.le_of_ble_eq_true rfl) rfl (fun ez dk b0 ab e0 => ?_))
  have dl := bt.write b0 ab ((yN bz))
  have dm := dg.keptA ab bu.symm
  have dn := dh.keptA ab bv.symm
  have dp := (di.kept ab bw).top
  have dq := dj.kept ab b0 bx
  obtain ⟨dr, ah, m, b1, ai⟩ := dk.shut dl bz
  have ds := dm.moreA ah ai bu.symm
  have ay := dn.moreA ai bv.symm
  have az := dp.more ah ai bw
  have dt := dq.more ah ai bx
  refine qe (zA (zB (zC ?_)))
  have hpj : a[j]? = some (a.getD j default) := by simp [List.getD, show j < a.length by omega]
  have hnj : c[j]? = some (c.getD j default) := by simp [List.getD, show j < c.length by omega]
  have du := (az.own _ (lvN_mem hpj hnj).1).read
  have dv := (az.own _ (lvN_mem hpj hnj).2).read
  refine qD rfl (zQ (k := 0) rfl Tryz.underlying99 rfl nz65 rfl) ?_
  refine qD rfl (zS (u := (a.getD j default).1) ag65 rfl (m.pins _ _ _ (b1 0 _ rfl))) ?_
  refine qD rfl (zP Tryz.underlying65 (v := (a.getD j default).1) rfl du) ?_
  refine qD rfl (r_gtr rfl rfl) ?_
  refine qM (.bool (decide ((24 : Int) < (((c.getD j default).l).length : Int)))) ?_
  refine qbd (p := (24 : Int) < (((c.getD j default).l).length : Int)) (t := 34) rfl (fun dw => ?_) (fun dw => ?_)
  ·skip
   refine qW ?_
   refine qW ?_
   refine qW ?_
   refine qW ?_
   refine qD rfl (xJ (v := (.bool true)) rfl rfl) ?_
   refine qe (zA ?_)
   refine c_ifT rfl rfl ?_
   refine zB (zC ?_)
   refine qD rfl (xB [(.slice none 0 0)] [(.slice none 0 0)] [] Tryz.underlying32 zr32 rfl pl32 rfl (fun _ h => by cases h) rfl) ?_
   refine q0 rfl rfl rfl (xA (cs' := [(.slice none 0 0)]) (us := [(.slice none 0 0)]) (v := (.agg [(.slice none 0 0)].toArray)) sz32 rfl rfl rfl (yF (by rfl)) m.pins ay (Nat.le_of_ble_eq_true rfl) rfl (fun e1 dx dy dz e2 => ?_))
   have d0 := m.write dy dz ((yN ac))
   refine qM (.bool false) ?_
   refine qe (zA ?_)
   refine wp_ret ?_
   refine zU ?_
   refine xY (cs := [(.slice none 0 0)]) (v := (.bool false)) rfl rfl rfl rfl rfl ag32 sz32 (fun j u hj => by rw [Nat.zero_add]; exact dx.cell hj) ?_
   have hfb : fitB (pd q i) = false := fit_opt hfo (k := j) (by omega) (by omega)
   rw [hfb, frm_no hfb]
   exact ⟨_, _, rfl, DForm.nil, d0⟩
  refine qN (zQ (k := 1) rfl Tryz.underlying99 rfl nz65 rfl) ?_
  refine qN (zS (u := (a.getD j default).2) ag65 rfl (m.pins _ _ _ (b1 1 _ rfl))) ?_
  refine qN (zP Tryz.underlying65 (v := (a.getD j default).2) rfl dv) ?_
  refine qN (r_gtr rfl rfl) ?_
  refine qD rfl (xG (v := (.bool (decide ((24 : Int) < (((c.getD j default).r).length : Int))))) rfl rfl) ?_
  refine qe (zA ?_)
  refine yD (p := (24 : Int) < (((c.getD j default).r).length : Int)) rfl rfl (fun d1 => ?_) (fun d1 => ?_)
  ·skip
   refine zB (zC ?_)
   refine qD rfl (xB [(.slice none 0 0)] [(.slice none 0 0)] [] Tryz.underlying32 zr32 rfl pl32 rfl (fun _ h => by cases h) rfl) ?_
   refine q0 rfl rfl rfl (xA (cs' := [(.slice none 0 0)]) (us := [(.slice none 0 0)]) (v := (.agg [(.slice none 0 0)].toArray)) sz32 rfl rfl rfl (yF (by rfl)) m.pins ay (Nat.le_of_ble_eq_true rfl) rfl (fun e3 d2 d3 d4 e4 => ?_))
   have d5 := m.write d3 d4 ((yN ac))
   refine qM (.bool false) ?_
   refine qe (zA ?_)
   refine wp_ret ?_
   refine zU ?_
   refine xY (cs := [(.slice none 0 0)]) (v := (.bool false)) rfl rfl rfl rfl rfl ag32 sz32 (fun j u hj => by rw [Nat.zero_add]; exact d2.cell hj) ?_
   have hfb : fitB (pd q i) = false := fit_opt hfo (k := j) (by omega) (by omega)
   rw [hfb, frm_no hfb]
   exact ⟨_, _, rfl, DForm.nil, d5⟩
  refine wp_skip ?_
  refine yG ?_
  refine zA (zC ?_)
  refine qD rfl (yL rfl rfl (by omega)) ?_
  refine qM (vJ ((j : Int) + 1)) ?_
  refine qe ?_
  refine yH ?_
  refine ⟨_, ?_, _, rfl, _, j + 1, dr, (pS 26 (pS 25 (pS 24 (pS 7 (pU 4))))), rfl, m, (Pin.le_trans c9 ah), (by omega), (fun k hk => if h : k = j then h ▸ (by omega) else hop k (by omega)), ds, ay, az, bo, bp, dt⟩
  omega
 refine wp_exit ?_
 refine yC ?_
 refine yK ?_
 refine yI ?_
 refine zA (zB (zC ?_))
 refine qM b ?_
 refine qD rfl (xB [(.slice none 0 0)] [b] [(0, b, [b])] Tryz.underlying32 zr32 rfl pl32 rfl (List.forall_mem_cons.2 ⟨(yP g.one), (fun _ h => by cases h)⟩) rfl) ?_
 refine q0 rfl rfl rfl (xA (cs' := [b]) (us := [b]) (v := (.agg [b].toArray)) sz32 rfl rfl rfl (yF g.one) o.pins aw (Nat.le_of_ble_eq_true rfl) rfl (fun e5 d6 d7 a0 e6 => ?_))
 have d8 := o.write d7 a0 ((yN ac))
 have b2 := g.keptA a0 c7.symm
 have d9 := (ax.kept a0 bp).top
 refine qM (.bool true) ?_
 refine qe (zA ?_)
 refine wp_ret ?_
 refine zU ?_
 refine xY (cs := [b]) (v := (.bool true)) rfl rfl rfl rfl rfl ag32 sz32 (fun j u hj => by rw [Nat.zero_add]; exact d6.cell hj) ?_
 have hfb : fitB (pd q i) = true := fit_yes hfo (by omega) (fun k hk => hop k (by omega))
 rw [hfb, frm_yes hfo hfb]
 exact ⟨_, _, rfl, ⟨a, c4, b2, (fun k hk => (b2.lt k hk).2), d9, bo⟩, d8⟩

end FO1
end Go.Proofs.YtfnginkcmcfdfaaGreatDoor

set_option maxRecDepth 20000
set_option maxHeartbeats 2000000
namespace Go.Proofs.YtfnginkcmcfdfaaGreatDoor
namespace NG1
open Go.RowKit Go.GL Go.Proofs
open Go.Proofs.YtfnginkcmcfdfaaGreatDoor.B1
open Go.Proofs.YtfnginkcmcfdfaaGreatDoor.K1
open Go.Proofs.YtfnginkcmcfdfaaGreatDoor.PO1
open Go.Proofs.YtfnginkcmcfdfaaGreatDoor.PL1












def NegP (m p : Nat) (mm : PM) : Prop := ∀ {w : World} {G : Pin} {L R B : Value} {q : PSt} {f : Int} {qz : PSt} {S : List Nat} (_ : Pins G w) (_ : Pk 65 3 G w p L R B mm q) (_ : PoolOk q) (_ : PlaceOk q f) (_ : Bud qz q S) (_ : ∀ x, SubG (pd q f) x → negG x ∈ S), f.toNat < m →
  Calls Tryz.prog 82 [(.pointer (some ⟨p, 0, none⟩)), (.int .i64 f)].toArray w fun e w' => ∃ (z : Int) (L' R' B' : Value) (q' : PSt) (G' : Pin), e = .returned (.int .i64 z) ∧ Pk 65 3 G' w' p L' R' B' mm q' ∧ PoolOk q' ∧ PX q q' ∧ PLo w p L R B mm L' R' B' ∧ Ext (inP p L R B mm) G w G' w' ∧ PlaceOk q' z ∧ pd q' z = negG (pd q f) ∧ Bud qz q' S

theorem neg_step {w : World} {G : Pin} {L R B : Value} {q : PSt} {f : Int} {p : Nat} {mm : PM} {qz : PSt} {S : List Nat} {m : Nat} (hP : Pins G w) (hpk : Pk 65 3 G w p L R B mm q) (hok : PoolOk q) (hf : PlaceOk q f) (hbd : Bud qz q S) (hS : ∀ x, SubG (pd q f) x → negG x ∈ S) (ih : NegP m p mm) (hm : f.toNat < m + 1) :
  Calls Tryz.prog 82 [(.pointer (some ⟨p, 0, none⟩)), (vJ f)].toArray w fun e w' => ∃ (z : Int) (L' R' B' : Value) (q' : PSt) (G' : Pin), e = .returned (vJ z) ∧ Pk 65 3 G' w' p L' R' B' mm q' ∧ PoolOk q' ∧ PX q q' ∧ PLo w p L R B mm L' R' B' ∧ Ext (inP p L R B mm) G w G' w' ∧ PlaceOk q' z ∧ pd q' z = negG (pd q f) ∧ Bud qz q' S := by
 refine zX (n := 76) Tryz.func82 Tryz.ntmps82 rfl rfl ?_
 have a7 : Ext (inP p L R B mm) G w G w := Ext.refl hP
 have hpin : PIn w (inP p L R B mm) p L R B mm := PIn.self
 have f0 : (q.ns.map Nd.l).length = q.ns.length ∧ (q.ns.map Nd.r).length = q.ns.length := ⟨List.length_map .., List.length_map ..⟩
 have f3 : q.bs.length = q.ns.length ∧ q.ns.length ≤ 1048576 := ⟨hok.ar.ok.len, hok.ar.ok.lim⟩
 have f4 := hf.1
 have f5 := hf.2
 have f6 := hok.ar.ok.lens (f).toNat (by omega)
 refine zB (zC ?_)
 refine qM (vJ 0) ?_
 refine qe (zA (zB (zB (zC ?_))))
 refine qM (.pointer (some ⟨p, 0, none⟩)) ?_
 refine qD rfl (yU rfl) ?_
 refine qD rfl (zQ (k := 7) rfl Tryz.underlying72 rfl nz69 rfl) ?_
 refine qD rfl (zS (u := (.map (some mm.n))) ag69 rfl (hpk.bx.cell (o := 7) rfl)) ?_
 refine qM (vJ f) ?_
 refine qD rfl (run_lookv_int (k := f) (key_int Tryz.underlying3) Tryz.underlying69 zr3 hpk.fn rfl rfl) ?_
 refine qM (.tuple #[(vJ ((Go.GL.look q.gm f).getD 0)), (.bool ((Go.GL.look q.gm f).isSome))]) ?_
 refine qD rfl (yX (v := (vJ ((Go.GL.look q.gm f).getD 0))) rfl rfl) ?_
 refine qD rfl (yX (v := (.bool ((Go.GL.look q.gm f).isSome))) rfl rfl) ?_
 refine qM (vJ ((Go.GL.look q.gm f).getD 0)) ?_
 refine qM (.bool ((Go.GL.look q.gm f).isSome)) ?_
 refine qe (zA (zB (zC ?_)))
 refine qM (.bool ((Go.GL.look q.gm f).isSome)) ?_
 refine qe (zA ?_)
 refine c_if rfl rfl (fun h3 => ?_) (fun h3 => ?_)
 ·skip
  refine zB (zC ?_)
  refine qM (vJ ((Go.GL.look q.gm f).getD 0)) ?_
  refine qM (vJ ((Go.GL.look q.gm f).getD 0)) ?_
  refine qe (zA ?_)
  refine wp_ret ?_
  refine zU ?_
  refine zT (v := (vJ ((Go.GL.look q.gm f).getD 0))) rfl rfl rfl ?_
  obtain ⟨z, hz⟩ := Option.isSome_iff_exists.1 h3
  obtain ⟨_, f1, f2⟩ := hok.neg f z hz
  rw [hz]
  exact ⟨z, L, R, B, q, G, rfl, hpk, hok, (PX.refl _), PIn.lo hpin rfl, a7, f1, f2, hbd⟩
 refine wp_skip ?_
 refine zA (zB (zC ?_))
 refine qI rfl (yS (E := eInt) (e := 3) Tryz.underlying65 sz3 a7.pins (fun u4 w5 dm ch ci dn => ?_))
 have bh := a7.step ch ci
 have cj := hpk.below ci ch
 have dp := hpk.new (x := u4.ownBlock) (fun k hk => by rw [dn] at hk; cases hk; exact Nat.le_refl _)
 have ck : Own eInt 3 G w5 w.heap.size u4 ([]) := dm.weaken a7.size
 refine qI rfl (yS (E := eInt) (e := 3) Tryz.underlying65 sz3 bh.pins (fun aa dq dr cl bi cm => ?_))
 have cn := bh.step cl bi
 have ds := ck.below bi
 have a8 := cj.below bi cl
 have dt : Apart aa.ownBlock u4.ownBlock := zH cm ck.lt
 have du := cj.new (x := aa.ownBlock) (fun k hk => by rw [cm] at hk; cases hk; exact Nat.le_refl _)
 have dv : Own eInt 3 G dq w.heap.size aa ([]) := dr.weaken bh.size
 refine qM u4 ?_
 refine qM aa ?_
 refine qe (zA (zB (zB (zC ?_))))
 refine qM (.pointer (some ⟨p, 0, none⟩)) ?_
 refine qD rfl (yU rfl) ?_
 refine qD rfl (zQ (k := 1) rfl Tryz.underlying72 rfl nz66 rfl) ?_
 refine qD rfl (zS (u := R) ag66 rfl (a8.bx.cell (o := 1) rfl)) ?_
 refine qM (vJ f) ?_
 refine qD rfl (zN Tryz.underlying66 sz65 (v := R) rfl rfl a8.rr.read (by omega) (by omega)) ?_
 obtain ⟨bj, av, dw⟩ := nm_sl (a8.rr.at (z := f) (by omega) (by omega)) (j := (f).toNat) rfl
 rw [mapr_getD] at av
 have f7 := av.max
 refine qD rfl (dw ag65 rfl (Gadd.pins cn.pins R)) ?_
 refine qD rfl (zP Tryz.underlying65 (v := bj) rfl av) ?_
 refine qM (vJ 0) ?_
 refine qe (zA ?_)
 refine zZ ?_
 refine yO (fun (k : Nat) (en : Nat → Value) (W : World) => ∃ (aw : Nat → Value) (b : Nat) (d : Value) (ae : List Int) (ac : Value) (al : Value) (am : Value) (a : PSt) (af : Pin), en = (upd (upd (upd (upd (upd (upd (upd (upd aw 0 (.pointer (some ⟨p, 0, none⟩))) 1 (vJ f)) 4 (vJ 0)) 7 d) 8 aa) 33 bj) 34 (vJ (((q.ns.getD (f).toNat default).r).length : Int))) 35 (vJ (b : Int))) ∧ k = (q.ns.getD (f).toNat default).r.length - b ∧ Ext (inP p L R B mm) G w af W ∧ Pin.le G af ∧ (b ≤ (q.ns.getD (f).toNat default).r.length) ∧ (GsOk a ae ([] ++ ((q.ns.getD (f).toNat default).r.take b).map fun o => negG (pd q o))) ∧ (Bud qz a S) ∧ (Own eInt 3 af W w.heap.size d (ae)) ∧ (Own eInt 3 af W w.heap.size aa ([])) ∧ (Apart d.ownBlock aa.ownBlock) ∧ (Pk 65 3 af W p ac al am mm a) ∧ (PIn w ((inP p L R B mm)) p ac al am mm) ∧ (PoolOk a) ∧ (PX q a) ∧ (NP p ac al am mm d.ownBlock) ∧ (NP p ac al am mm aa.ownBlock)) _ ⟨_, 0, u4, [], L, R, B, q, G, (pS 35 (pS 34 (pS 33 (pS 8 (pS 7 (pS 4 (pS 1 (pU 0)))))))), rfl, cn, Pin.le_refl _, Nat.zero_le _, GsOk.nil, hbd, ds, dv, dt.symm, a8, hpin, hok, (PX.refl _), dp, du⟩ ?_
 rintro f8 _ f9 ⟨aw, b, d, ae, ac, al, am, a, af, rfl, ga, an, co, dx, bk, cp, bl, bm, bn, ax, bo, ak, t, bp, bq⟩
 have gb := t.len
 have gc : (a.ns.map Nd.l).length = a.ns.length ∧ (a.ns.map Nd.r).length = a.ns.length := ⟨List.length_map .., List.length_map ..⟩
 have gd : a.bs.length = a.ns.length ∧ a.ns.length ≤ 1048576 := ⟨ak.ar.ok.len, ak.ar.ok.lim⟩
 have dy := bk.lenj dx
 rw [List.length_nil] at dy
 refine zB (zC ?_)
 refine qD rfl (yM rfl rfl) ?_
 refine qe (zA (zB ?_))
 refine yD (p := ((b : Int) : Int) < (((q.ns.getD (f).toNat default).r).length : Int)) rfl rfl (fun dz => ?_) (fun dz => ?_)
 ·skip
  have hmj : (q.ns.getD (f).toNat default).r.getD b 0 ∈ (q.ns.getD (f).toNat default).r := yQ (show b < (q.ns.getD (f).toNat default).r.length by omega)
  have hoj := (opts_place hok hf).2 _ hmj
  have d0 := hoj.1
  have hoz := ((xD hok.ar.opts (show (f).toNat < q.ns.length by omega)).2 _ hmj).2
  have hsb := sub_r hok hf hmj
  refine wp_skip ?_
  refine zA (zB ?_)
  refine zZ ?_
  refine zB (zC ?_)
  refine qD rfl (zN Tryz.underlying65 sz3 (v := bj) rfl rfl av (by omega) (by omega)) ?_
  refine qD rfl (zK (r := ((q.ns.getD (f).toNat default).r).getD b 0) rfl ag3 (z := (b : Int)) rfl av (Pins.of_le an.pins co) (by omega) (by omega)) ?_
  refine qM (vJ (((q.ns.getD (f).toNat default).r).getD b 0)) ?_
  refine qe (zA (zC ?_))
  refine qM d ?_
  refine qM (.pointer (some ⟨p, 0, none⟩)) ?_
  refine qM (vJ (((q.ns.getD (f).toNat default).r).getD b 0)) ?_
  refine qI rfl (zL (vs := [(.pointer (some ⟨p, 0, none⟩)), (vJ (((q.ns.getD (f).toNat default).r).getD b 0))]) Tryz.func82 nm82 rfl rfl rfl ?_)
  refine Calls.mono (ih an.pins ax ak (t.place hoj) cp (fun x hx => hS x (hsb.trans (by rw [t.pd hok ak hoj] at hx; exact hx))) (by omega)) ?_
  rintro _ ge ⟨ay, d1, d2, d3, ag, cq, rfl, d4, a9, br, bt, ba, d5, d6, d7⟩
  refine ⟨_, rfl, ?_⟩
  have bu := an.trans ba bo
  have d8 := bl.extS ba bp
  have cr := NP.call bp bt (xH bl)
  have d9 := bm.extS ba bq
  have ea := NP.call bq bt (xH bm)
  have eb := PIn.call bo bt an.size
  have gf := br.len
  have gg : (ag.ns.map Nd.l).length = ag.ns.length ∧ (ag.ns.map Nd.r).length = ag.ns.length := ⟨List.length_map .., List.length_map ..⟩
  have gh : ag.bs.length = ag.ns.length ∧ ag.ns.length ≤ 1048576 := ⟨a9.ar.ok.len, a9.ar.ok.lim⟩
  refine qI rfl (yE (E := eInt) (e := 3) [(vJ ay)] [ay] Tryz.underlying65 sz3 zr3 (by exact xF (by rfl)) (yF (by rfl)) rfl rfl rfl rfl (by decide) bu.pins (fun cs ec ed ct bb gi => ?_))
  have bv := bu.step ct bb
  have cu := d8.below bb
  have cv := d9.below bb
  have cw := d4.below bb ct
  have ee : Own eInt 3 cq ec w.heap.size cs ([ay]) := ed.weaken bu.size
  refine qI rfl (oA (E := eInt) (v := d) (u := cs) 8 Tryz.underlying65 ap3 (by decide) rfl rfl bv.pins cu ee.src (bv.size) (fun bw gj ef cx bz cy => ?_))
  have eg := bv.write cx bz ((zY cu))
  have eh := cv.keptA bz bn.symm
  have ei := cw.kept bz cx cr
  have ej : Apart aa.ownBlock bw.ownBlock := zD bn.symm cy cv.lt
  have ek := np_app cr cw cy
  have gk : (ae ++ ([ay])).length = ae.length + 1 := List.length_append
  refine qM bw ?_
  refine qe ?_
  refine yG ?_
  refine zA (zC ?_)
  refine qD rfl (yL rfl rfl (by omega)) ?_
  refine qM (vJ ((b : Int) + 1)) ?_
  refine qe ?_
  refine yH ?_
  refine ⟨_, ?_, _, rfl, _, b + 1, bw, ae ++ ([ay]), d1, d2, d3, ag, cq, (pS 35 (pS 34 (pS 33 (pS 8 (pS 7 (pS 4 (pS 1 (pU 0)))))))), rfl, eg, (Pin.le_trans co ba.le), (by omega), (bk.next br ak a9 d5 (by omega) (d6.trans (by rw [t.pd hok ak hoj]))), d7, ef, eh, ej.symm, ei, eb, a9, (PX.trans t br), ek, ea⟩
  omega
 refine wp_exit ?_
 refine yC ?_
 refine yK ?_
 refine yI ?_
 refine zA (zB (zB (zC ?_)))
 refine qM (.pointer (some ⟨p, 0, none⟩)) ?_
 refine qD rfl (yU rfl) ?_
 refine qD rfl (zQ (k := 0) rfl Tryz.underlying72 rfl nz66 rfl) ?_
 refine qD rfl (zS (u := ac) ag66 rfl (ax.bx.cell (o := 0) rfl)) ?_
 refine qM (vJ f) ?_
 refine qD rfl (zN Tryz.underlying66 sz65 (v := ac) rfl rfl ax.ol.read (by omega) (by omega)) ?_
 obtain ⟨b0, ao, el⟩ := nm_sl (ax.ol.at (z := f) (by omega) (by omega)) (j := (f).toNat) rfl
 rw [mapl_getD] at ao
 have gl := ao.max
 refine qD rfl (el ag65 rfl (Gadd.pins an.pins ac)) ?_
 refine qD rfl (zP Tryz.underlying65 (v := b0) rfl ao) ?_
 refine qM (vJ 0) ?_
 refine qe (zA ?_)
 refine zZ ?_
 have hold : a.ns.getD (f).toNat default = q.ns.getD (f).toNat default := t.old _ (by omega)
 have holdl : (a.ns.getD (f).toNat default).l.length = (q.ns.getD (f).toNat default).l.length := by rw [hold]
 rw [hold] at ao
 have em : b = (q.ns.getD (f).toNat default).r.length := by omega
 have hg1d := bk.done em
 refine yO (fun (k : Nat) (en : Nat → Value) (W : World) => ∃ (aw : Nat → Value) (c : Nat) (ad : Value) (ap : List Int) (az : Value) (a0 : Value) (a1 : Value) (g : PSt) (aq : Pin), en = (upd (upd (upd (upd (upd (upd (upd (upd aw 0 (.pointer (some ⟨p, 0, none⟩))) 1 (vJ f)) 4 (vJ 0)) 7 d) 8 ad) 52 b0) 53 (vJ (((a.ns.getD (f).toNat default).l).length : Int))) 54 (vJ (c : Int))) ∧ k = (q.ns.getD (f).toNat default).l.length - c ∧ Ext (inP p L R B mm) G w aq W ∧ Pin.le af aq ∧ (c ≤ (q.ns.getD (f).toNat default).l.length) ∧ (GsOk g ap ([] ++ ((q.ns.getD (f).toNat default).l.take c).map fun o => negG (pd q o))) ∧ (Bud qz g S) ∧ (GsOk g ae ([] ++ (q.ns.getD (f).toNat default).r.map fun o => negG (pd q o))) ∧ (Own eInt 3 aq W w.heap.size ad (ap)) ∧ (Own eInt 3 aq W w.heap.size d (ae)) ∧ (Apart ad.ownBlock d.ownBlock) ∧ (Pk 65 3 aq W p az a0 a1 mm g) ∧ (PIn w ((inP p L R B mm)) p az a0 a1 mm) ∧ (PoolOk g) ∧ (PX a g) ∧ (NP p az a0 a1 mm ad.ownBlock) ∧ (NP p az a0 a1 mm d.ownBlock)) _ ⟨_, 0, aa, [], ac, al, am, a, af, (pS 54 (pS 53 (pS 52 (pS 8 (pS 7 (pS 4 (pS 1 (pU 0)))))))), rfl, an, Pin.le_refl _, Nat.zero_le _, GsOk.nil, cp, hg1d, bm, bl, bn.symm, ax, bo, ak, (PX.refl _), bq, bp⟩ ?_
 rintro gn _ gp ⟨aw, c, ad, ap, az, a0, a1, g, aq, rfl, gq, a2, cz, eo, b1, b2, hg1e, b3, b4, b5, c0, bc, ab, ah, b6, b7⟩
 have gr := ah.len
 have gs : (g.ns.map Nd.l).length = g.ns.length ∧ (g.ns.map Nd.r).length = g.ns.length := ⟨List.length_map .., List.length_map ..⟩
 have gt : g.bs.length = g.ns.length ∧ g.ns.length ≤ 1048576 := ⟨ab.ar.ok.len, ab.ar.ok.lim⟩
 have ep := b1.lenj eo
 rw [List.length_nil] at ep
 refine zB (zC ?_)
 refine qD rfl (yM rfl rfl) ?_
 refine qe (zA (zB ?_))
 refine yD (p := ((c : Int) : Int) < (((a.ns.getD (f).toNat default).l).length : Int)) rfl rfl (fun er => ?_) (fun er => ?_)
 ·skip
  have hmj : (q.ns.getD (f).toNat default).l.getD c 0 ∈ (q.ns.getD (f).toNat default).l := yQ (show c < (q.ns.getD (f).toNat default).l.length by omega)
  have hoj := (opts_place hok hf).1 _ hmj
  have d0 := hoj.1
  have hoz := ((xD hok.ar.opts (show (f).toNat < q.ns.length by omega)).1 _ hmj).2
  have hsb := sub_l hok hf hmj
  refine wp_skip ?_
  refine zA (zB ?_)
  refine zZ ?_
  refine zB (zC ?_)
  refine qD rfl (zN Tryz.underlying65 sz3 (v := b0) rfl rfl ao (by omega) (by omega)) ?_
  refine qD rfl (zK (r := ((q.ns.getD (f).toNat default).l).getD c 0) rfl ag3 (z := (c : Int)) rfl ao (Pins.of_le a2.pins cz) (by omega) (by omega)) ?_
  refine qM (vJ (((q.ns.getD (f).toNat default).l).getD c 0)) ?_
  refine qe (zA (zC ?_))
  refine qM ad ?_
  refine qM (.pointer (some ⟨p, 0, none⟩)) ?_
  refine qM (vJ (((q.ns.getD (f).toNat default).l).getD c 0)) ?_
  refine qI rfl (zL (vs := [(.pointer (some ⟨p, 0, none⟩)), (vJ (((q.ns.getD (f).toNat default).l).getD c 0))]) Tryz.func82 nm82 rfl rfl rfl ?_)
  refine Calls.mono (ih a2.pins c0 ab ((PX.trans t ah).place hoj) b2 (fun x hx => hS x (hsb.trans (by rw [(PX.trans t ah).pd hok ab hoj] at hx; exact hx))) (by omega)) ?_
  rintro _ gu ⟨a3, es, et, eu, ai, c1, rfl, ev, a4, bd, b8, be, ew, ex, ey⟩
  refine ⟨_, rfl, ?_⟩
  have b9 := a2.trans be bc
  have ez := b3.extS be b6
  have c2 := NP.call b6 b8 (xH b3)
  have e0 := b4.extS be b7
  have e1 := NP.call b7 b8 (xH b4)
  have e2 := PIn.call bc b8 a2.size
  have gv := bd.len
  have gw : (ai.ns.map Nd.l).length = ai.ns.length ∧ (ai.ns.map Nd.r).length = ai.ns.length := ⟨List.length_map .., List.length_map ..⟩
  have gx : ai.bs.length = ai.ns.length ∧ ai.ns.length ≤ 1048576 := ⟨a4.ar.ok.len, a4.ar.ok.lim⟩
  refine qI rfl (yE (E := eInt) (e := 3) [(vJ a3)] [a3] Tryz.underlying65 sz3 zr3 (by exact xF (by rfl)) (yF (by rfl)) rfl rfl rfl rfl (by decide) b9.pins (fun c3 e3 e4 c4 bf gy => ?_))
  have ca := b9.step c4 bf
  have c5 := ez.below bf
  have c6 := e0.below bf
  have c7 := ev.below bf c4
  have e5 : Own eInt 3 c1 e3 w.heap.size c3 ([a3]) := e4.weaken b9.size
  refine qI rfl (oA (E := eInt) (v := ad) (u := c3) 8 Tryz.underlying65 ap3 (by decide) rfl rfl ca.pins c5 e5.src (ca.size) (fun cb gz e6 c8 cc c9 => ?_))
  have e7 := ca.write c8 cc ((zY c5))
  have e8 := c6.keptA cc b5.symm
  have e9 := c7.kept cc c8 c2
  have fa : Apart d.ownBlock cb.ownBlock := zD b5.symm c9 c6.lt
  have fb := np_app c2 c7 c9
  have g0 : (ap ++ ([a3])).length = ap.length + 1 := List.length_append
  refine qM cb ?_
  refine qe ?_
  refine yG ?_
  refine zA (zC ?_)
  refine qD rfl (yL rfl rfl (by omega)) ?_
  refine qM (vJ ((c : Int) + 1)) ?_
  refine qe ?_
  refine yH ?_
  refine ⟨_, ?_, _, rfl, _, c + 1, cb, ap ++ ([a3]), es, et, eu, ai, c1, (pS 54 (pS 53 (pS 52 (pS 8 (pS 7 (pS 4 (pS 1 (pU 0)))))))), rfl, e7, (Pin.le_trans cz be.le), (by omega), (b1.next bd ab a4 ew (by omega) (ex.trans (by rw [(PX.trans t ah).pd hok ab hoj]))), ey, (hg1e.px bd ab a4), e6, e8, fa.symm, e9, e2, a4, (PX.trans ah bd), fb, e1⟩
  omega
 refine wp_exit ?_
 refine yC ?_
 refine yK ?_
 refine yI ?_
 refine zA (zB (zC ?_))
 refine qM (.pointer (some ⟨p, 0, none⟩)) ?_
 refine qM d ?_
 refine qM ad ?_
 obtain ⟨g1, da, fc, fd, db⟩ := b4.sealed a2
 have fe := b3.moreO da db b5
 have ff := c0.moreO da db b7
 obtain ⟨g2, dc, cd, fg, fh⟩ := fe.sealed fc
 have fi := ff.moreO dc fh b6
 have fj : c = (q.ns.getD (f).toNat default).l.length := by omega
 have hg2d := b1.done fj
 have fk := hg1e.len
 have fl := hg2d.len
 rw [List.nil_append, List.length_map] at fk fl
 refine qI rfl (zL (vs := [(.pointer (some ⟨p, 0, none⟩)), d, ad]) Tryz.func79 nm79 rfl rfl rfl ?_)
 refine Calls.mono (node_spec cd.pins fi ab (fd.mono dc) fg (b2.room ab) ⟨by omega, by omega⟩ (xP hg1e.pl) (xP hg2d.pl)) ?_
 rintro _ g3 ⟨aj, fm, fo, fp, s, fq, rfl, ce, a5, a6, fr, fs, dd, ft, fu, fv⟩
 refine ⟨_, rfl, ?_⟩
 have de := cd.trans fs bc
 have df := PIn.call bc fr cd.size
 have g4 := a6.len
 have g5 : (s.ns.map Nd.l).length = s.ns.length ∧ (s.ns.map Nd.r).length = s.ns.length := ⟨List.length_map .., List.length_map ..⟩
 have g6 : s.bs.length = s.ns.length ∧ s.ns.length ≤ 1048576 := ⟨a5.ar.ok.len, a5.ar.ok.lim⟩
 have hng : pd s aj = negG (pd q f) := by rw [ft, hg1e.eq, hg2d.eq, List.nil_append, List.nil_append]; exact neg_node hok hf
 have hbn := b2.node ab a5 a6 fu fv.2 (by rw [hng]; exact hS _ .self)
 have fw := (PX.trans (PX.trans t ah) a6).place hf
 have fx := (PX.trans (PX.trans t ah) a6).pd hok a5 hf
 refine qM (vJ aj) ?_
 refine qe (zA (zB (zC ?_)))
 refine qM (.pointer (some ⟨p, 0, none⟩)) ?_
 refine qD rfl (yU rfl) ?_
 refine qD rfl (zQ (k := 7) rfl Tryz.underlying72 rfl nz69 rfl) ?_
 refine qD rfl (zS (u := (.map (some mm.n))) ag69 rfl (ce.bx.cell (o := 7) rfl)) ?_
 refine qM (vJ f) ?_
 refine qM (vJ aj) ?_
 refine q0 rfl rfl rfl (qL (val := (fun v : Int => Value.int .i64 v)) (k := f) (v := aj) (key_int Tryz.underlying3) Tryz.underlying69 rfl rfl rfl de.pins ce.fn (fun g7 fy dg dh g8 => ?_))
 have fz := de.trans (Ext.one dg dh) (fun i hi => (PIn.n df) i hi)
 have di := ce.setN (Ext.one dg dh) fy
 have bg := PoolOk.setN a5 fw dd (by rw [hng, fx])
 obtain ⟨y, cf⟩ : ∃ q, q = ({ s with gm := putE s.gm f aj } : PSt) := ⟨_, rfl⟩
 rw [← cf] at di bg
 have hq238n : y.ns = s.ns ∧ y.bs = s.bs := by rw [cf]; exact ⟨rfl, rfl⟩
 have hq238x : PX s y := by rw [cf]; exact ⟨Nat.le_refl _, fun _ _ => rfl, fun _ h => h⟩
 have g9 : (y.ns.map Nd.l).length = y.ns.length ∧ (y.ns.map Nd.r).length = y.ns.length := ⟨List.length_map .., List.length_map ..⟩
 have ha : y.bs.length = y.ns.length ∧ y.ns.length ≤ 1048576 := ⟨bg.ar.ok.len, bg.ar.ok.lim⟩
 have hb := hq238x.len
 refine qe (zA (zB (zC ?_)))
 refine qM (vJ aj) ?_
 refine qM (vJ aj) ?_
 refine qe (zA ?_)
 refine wp_ret ?_
 refine zU ?_
 refine zT (v := (vJ aj)) rfl rfl rfl ?_
 exact ⟨_, fm, fo, fp, y, fq, rfl, di, bg, (PX.trans (PX.trans (PX.trans t ah) a6) hq238x), PIn.lo df rfl, fz, dd.same hq238n, (by rw [pd_same hq238n]; exact hng), hbn.same hq238x hq238n⟩

theorem neg_all {p : Nat} {mm : PM} : ∀ m, NegP m p mm
 | 0 => fun _ _ _ _ _ _ h => absurd h (Nat.not_lt_zero _)
 | m + 1 => fun hP hpk hok hf hb hS hm => neg_step hP hpk hok hf hb hS (neg_all m) hm
theorem neg_spec {w : World} {G : Pin} {L R B : Value} {q : PSt} {f : Int} {p : Nat} {mm : PM} {qz : PSt} {S : List Nat} (hP : Pins G w) (hpk : Pk 65 3 G w p L R B mm q) (hok : PoolOk q) (hf : PlaceOk q f) (hbd : Bud qz q S) (hS : ∀ x, SubG (pd q f) x → negG x ∈ S) :
  Calls Tryz.prog 82 [(.pointer (some ⟨p, 0, none⟩)), (.int .i64 f)].toArray w fun e w' => ∃ (z : Int) (L' R' B' : Value) (q' : PSt) (G' : Pin), e = .returned (.int .i64 z) ∧ Pk 65 3 G' w' p L' R' B' mm q' ∧ PoolOk q' ∧ PX q q' ∧ PLo w p L R B mm L' R' B' ∧ Ext (inP p L R B mm) G w G' w' ∧ PlaceOk q' z ∧ pd q' z = negG (pd q f) ∧ Bud qz q' S :=
 neg_all _ hP hpk hok hf hbd hS (Nat.lt_succ_self _)

end NG1
end Go.Proofs.YtfnginkcmcfdfaaGreatDoor

set_option maxRecDepth 20000
set_option maxHeartbeats 2000000
namespace Go.Proofs.YtfnginkcmcfdfaaGreatDoor
namespace NF1
open Go.RowKit Go.GL Go.Proofs
open Go.Proofs.YtfnginkcmcfdfaaGreatDoor.B1
open Go.Proofs.YtfnginkcmcfdfaaGreatDoor.C1
open Go.Proofs.YtfnginkcmcfdfaaGreatDoor.D1
open Go.Proofs.YtfnginkcmcfdfaaGreatDoor.E1
open Go.Proofs.YtfnginkcmcfdfaaGreatDoor.K1
open Go.Proofs.YtfnginkcmcfdfaaGreatDoor.PO1
open Go.Proofs.YtfnginkcmcfdfaaGreatDoor.PL1
open Go.Proofs.YtfnginkcmcfdfaaGreatDoor.PA1
open Go.Proofs.YtfnginkcmcfdfaaGreatDoor.SO1
open Go.Proofs.YtfnginkcmcfdfaaGreatDoor.OD1
open Go.Proofs.YtfnginkcmcfdfaaGreatDoor.FO1
open Go.Proofs.YtfnginkcmcfdfaaGreatDoor.NG1










theorem pl102 : (Tryz.prog.underlying 102).bind (placesD Tryz.prog) = some [(0, 1), (1, 1)] := by kernel_rfl






theorem l5Neg_spec {w : World} {G : Pin} {v : Value} {fs : List Nd} (hP : Pins G w) (hv : RSl eNode G v fs) (hf : FormOk fs) (h1 : 1 ≤ fs.length ∧ fs.length ≤ 524288) :
  Calls Tryz.prog 81 [(.agg [v].toArray)].toArray w fun e w' => ∃ (u : Value) (G' : Pin), e = .returned (.agg [u].toArray) ∧ RSl eNode G' u (formG (negG (gOf fs))) ∧ Ext noS G w G' w' := by
 refine zX (n := 45) Tryz.func81 Tryz.ntmps81 rfl rfl ?_
 have a1 : Ext noS G w G w := Ext.refl hP
 have hm := hv.max
 have hfl := hf.len
 refine zB (zC ?_)
 refine qI rfl (o_box [v] (v := (.agg [v].toArray)) rfl rfl a1.pins (fun b1 w2 fm ct cu cv => ?_))
 have cw := a1.step cu cv
 have cx : w.heap.size ≤ b1 := by have := a1.size; omega
 obtain ⟨G9, ap, a3, a4, fn⟩ := ct.shut cw cx
 refine qI rfl (xE [(.slice none 0 0)] zr32 rfl a3.pins (fun o fo fp bl cy cz => ?_))
 have a5 := a3.step cy cz
 have c0 : w.heap.size ≤ o := by have := a3.size; omega
 refine qe (zA (zB (zC ?_)))
 refine qD rfl (xB [(.slice none 0 0), (.slice none 0 0)] [(.slice none 0 0), (.slice none 0 0)] [] Tryz.underlying102 zr102 rfl pl102 rfl (fun _ h => by cases h) rfl) ?_
 refine qI rfl (o_box [(.slice none 0 0), (.slice none 0 0)] (v := (.agg [(.slice none 0 0), (.slice none 0 0)].toArray)) rfl rfl a5.pins (fun c fq c1 bm c2 bn => ?_))
 have a6 := a5.step c2 bn
 have bo := bl.below bn
 have c3 : Apart (some c) (some o) := zI (congrArg some c1) bl.lt
 have c4 : w.heap.size ≤ c := by have := a5.size; omega
 refine qM (.pointer (some ⟨c, 0, none⟩)) ?_
 refine qe (zA (zB (zC ?_)))
 refine qI rfl (yS (E := eInt) (e := 3) Tryz.underlying65 sz3 a6.pins (fun al c5 c6 c7 a7 bp => ?_))
 have c8 := a6.step c7 a7
 have c9 := bo.below a7
 have da := bm.below a7
 have db : Apart al.ownBlock (some o) := zI bp bo.lt
 have dc : Apart al.ownBlock (some c) := zI bp bm.lt
 have dd : Own eInt 3 G9 c5 w.heap.size al ([]) := c6.weaken a6.size
 refine qM al ?_
 refine qe (zA (zB (zB (zC ?_))))
 refine qM (vJ 0) ?_
 refine qe (zA ?_)
 refine zZ ?_
 refine yO (fun (k : Nat) (en : Nat → Value) (W : World) => ∃ (bq : Nat → Value) (a : Nat) (at_ : Value) (ats : List Int) (q : Value) (s : Value) (m : List Nd) (t : List Int) (x : Pin), en = (upd (upd (upd (upd (upd bq 1 (.pointer (some ⟨b1, 0, none⟩))) 2 (.pointer (some ⟨o, 0, none⟩))) 3 (.pointer (some ⟨c, 0, none⟩))) 4 at_) 5 (vJ (a : Int))) ∧ k = fs.length - a ∧ Ext noS G w x W ∧ Pin.le G9 x ∧ (a ≤ fs.length) ∧ (PoolOk (bkq m t)) ∧ (NkOk (bkq m t) ats a (fun i => negG (den fs i))) ∧ (m.length ≤ a) ∧ (Own eInt 3 x W w.heap.size at_ (ats)) ∧ (Own eNode 99 x W 0 q (m)) ∧ (Own eInt 3 x W 0 s (t)) ∧ (Bx x W o [(.slice none 0 0)]) ∧ (Bx x W c [q, s]) ∧ (Apart at_.ownBlock q.ownBlock) ∧ (Apart at_.ownBlock s.ownBlock) ∧ (Apart at_.ownBlock (some o)) ∧ (Apart at_.ownBlock (some c)) ∧ (Apart q.ownBlock s.ownBlock) ∧ (Apart q.ownBlock (some o)) ∧ (Apart q.ownBlock (some c)) ∧ (Apart s.ownBlock (some o)) ∧ (Apart s.ownBlock (some c)) ∧ (Lo w noS q.ownBlock) ∧ (Lo w noS s.ownBlock)) _ ⟨_, 0, al, [], (.slice none 0 0), (.slice none 0 0), [], [], G9, (pS 5 (pS 4 (pS 3 (pS 2 (pU 1))))), rfl, c8, Pin.le_refl _, Nat.zero_le _, (bkq_ok Ar.empty), NkOk.start, Nat.le_refl 0, dd, (Own.nil _ _ _ _ _), (Own.nil _ _ _ _ _), c9, da, apart_none.symm, apart_none.symm, db, dc, apart_none, apart_none, apart_none, apart_none, apart_none, (lo_none _ _), (lo_none _ _)⟩ ?_
 rintro fr _ a8 ⟨bq, a, at_, ats, q, s, m, t, x, rfl, ft, af, ab, fu, hokb, hnk, hbl, aq, br, bs, bt, bu, de, df, bv, a9, bw, dg, bz, dh, b0, di, dj⟩
 have hnl := hnk.len
 refine zB (zB (zC ?_))
 refine qM (vJ (a : Int)) ?_
 refine qD rfl (zQ (k := 0) rfl Tryz.underlying32 rfl nz30 rfl) ?_
 refine qD rfl (zS (u := v) ag30 rfl ((Pins.of_le af.pins ab) _ _ _ (a4 0 _ rfl))) ?_
 refine qD rfl (zP Tryz.underlying30 (v := v) rfl hv) ?_
 refine qD rfl (yM rfl rfl) ?_
 refine qe (zA ?_)
 refine yD (p := ((a : Int) : Int) < (fs.length : Int)) rfl rfl (fun dk => ?_) (fun dk => ?_)
 ·skip
  have oo := xD hf.opts (show a < fs.length by omega)
  have hfe := hf.lens a (by omega)
  have hol := hnk.opts oo.1
  have hor := hnk.opts oo.2
  have hil : ∀ i, i < (fs.getD a default).l.length → 0 ≤ (fs.getD a default).l.getD i 0 ∧ (fs.getD a default).l.getD i 0 < ats.length := fun i hi => by have h := oo.1 _ (yQ (d := (0 : Int)) hi); omega
  have hir : ∀ i, i < (fs.getD a default).r.length → 0 ≤ (fs.getD a default).r.getD i 0 ∧ (fs.getD a default).r.getD i 0 < ats.length := fun i hi => by have h := oo.2 _ (yQ (d := (0 : Int)) hi); omega
  have hpt := bk_put (xs := atL ats (fs.getD a default).r) (ys := atL ats (fs.getD a default).l) hokb (by omega) ⟨by rw [yW]; omega, by rw [yW]; omega⟩ hor.1 hol.1
  refine wp_skip ?_
  refine zA (zB ?_)
  refine zZ ?_
  refine xI (S := fun wz => Pins x wz) (last := 22) (by kernel_rfl) rfl ?_
  have ad : Below a8.heap.size a8 a8.drew := (Below.refl _ _).drew
  have dl := af.pins.below ad
  have b := af.step dl ad
  have ba := aq.below ad
  have b2 := br.below ad
  have b3 := bs.below ad
  have b4 := bt.below ad
  have b5 := bu.below ad
  refine dM 0 at_ b.pins ?_
  refine dM 1 (.pointer (some ⟨c, 0, none⟩)) b.pins ?_
  refine dM 2 at_ b.pins ?_
  refine dT (i := 3) rfl rfl (by kernel_rfl) (fun _ _ => zQ (k := 0) rfl Tryz.underlying32 rfl nz30 rfl) b.pins ?_
  refine dT (i := 4) rfl rfl (by kernel_rfl) (fun _ hS => zS (u := v) ag30 rfl ((Pins.of_le hS ab) _ _ _ (a4 0 _ rfl))) b.pins ?_
  refine dM 5 (vJ (a : Int)) b.pins ?_
  refine dT (i := 6) rfl rfl (by kernel_rfl) (fun _ _ => zN Tryz.underlying30 sz99 (v := v) rfl rfl hv (by omega) (by omega)) b.pins ?_
  refine dT (i := 7) rfl rfl (by kernel_rfl) (fun _ _ => xN (off := 1) Tryz.underlying99 rfl rfl nz65 (z := (a : Int)) (k := 0) rfl hv (by omega) (by omega)) b.pins ?_
  obtain ⟨dm, b6, dn⟩ := nm_nr (hv.at (z := (a : Int)) (by omega) (by omega)) (j := a) rfl
  have fv := b6.max
  refine dT (i := 8) rfl rfl (by kernel_rfl) (fun _ hS => dn ag65 rfl (Pins.of_le hS (Pin.le_trans ap ab))) b.pins ?_
  refine dM 10 at_ b.pins ?_
  refine dT (i := 11) rfl rfl (by kernel_rfl) (fun _ _ => zQ (k := 0) rfl Tryz.underlying32 rfl nz30 rfl) b.pins ?_
  refine dT (i := 12) rfl rfl (by kernel_rfl) (fun _ hS => zS (u := v) ag30 rfl ((Pins.of_le hS ab) _ _ _ (a4 0 _ rfl))) b.pins ?_
  refine dM 13 (vJ (a : Int)) b.pins ?_
  refine dT (i := 14) rfl rfl (by kernel_rfl) (fun _ _ => zN Tryz.underlying30 sz99 (v := v) rfl rfl hv (by omega) (by omega)) b.pins ?_
  refine dT (i := 15) rfl rfl (by kernel_rfl) (fun _ _ => xN (off := 0) Tryz.underlying99 rfl rfl nz65 (z := (a : Int)) (k := 0) rfl hv (by omega) (by omega)) b.pins ?_
  obtain ⟨dp, b7, dq⟩ := nm_nl (hv.at (z := (a : Int)) (by omega) (by omega)) (j := a) rfl
  have fw := b7.max
  refine dT (i := 16) rfl rfl (by kernel_rfl) (fun _ hS => dq ag65 rfl (Pins.of_le hS (Pin.le_trans ap ab))) b.pins ?_
  refine dO (i := 9) (zW (i := 9) rfl rfl rfl (zG rfl _) (zL (vs := [at_, dm]) Tryz.func127 nm127 rfl rfl rfl ?_))
  refine Calls.mono (xV b.pins (Gadd.pins b.pins at_) ba.read (b6.mono (Pin.le_trans ap ab)) (by omega) hir) ?_
  rintro _ dr ⟨b8, ds, rfl, ag, f⟩
  refine ⟨_, rfl, ?_⟩
  have am := b.tr f
  have bb := ba.ext f
  have b9 := b2.ext f
  have ca := b3.ext f
  have cb := b4.ext f
  have cc := b5.ext f
  have dt := zM ag.lt ba.lt
  have du := zM ag.lt b2.lt
  have dv := zM ag.lt b3.lt
  have dw := zV ag.lt b4.lt
  have dx := zV ag.lt b5.lt
  have cd : Own eInt 3 ds dr w.heap.size b8 (atL ats ((fs.getD a default).r)) := ag.weaken b.size
  refine ⟨fun _ => (Pins.of_le am.pins f.le), ?_⟩
  refine dO (i := 17) (zW (i := 17) rfl rfl rfl (zG rfl _) (zL (vs := [at_, dp]) Tryz.func127 nm127 rfl rfl rfl ?_))
  refine Calls.mono (xV am.pins (Gadd.pins am.pins at_) bb.read (b7.mono (Pin.le_trans (Pin.le_trans ap ab) f.le)) (by omega) hil) ?_
  rintro _ dy ⟨ce, dz, rfl, ae, g⟩
  refine ⟨_, rfl, ?_⟩
  have cf := am.tr g
  have d0 := bb.ext g
  have d1 := b9.ext g
  have d2 := ca.ext g
  have d3 := cd.ext g
  have d4 := cb.ext g
  have d5 := cc.ext g
  have d6 := zM ae.lt bb.lt
  have d7 := zM ae.lt b9.lt
  have d8 := zM ae.lt ca.lt
  have d9 := zM ae.lt cd.lt
  have ea := zV ae.lt cb.lt
  have eb := zV ae.lt cc.lt
  have ec : Own eInt 3 dz dy w.heap.size ce (atL ats ((fs.getD a default).l)) := ae.weaken am.size
  refine ⟨fun _ => (Pins.of_le cf.pins (Pin.le_trans f.le g.le)), ?_⟩
  obtain ⟨fx, y, ed, ee, ah⟩ := d3.sealed cf
  have ef := d0.moreO y ah dt.symm
  have eg := d1.moreO y ah du.symm
  have eh := d2.moreO y ah dv.symm
  have ei := ec.moreO y ah d9
  have ej := d4.moreO ah dw.symm
  have ek := d5.moreO ah dx.symm
  obtain ⟨fy, aa, au, el, an⟩ := ei.sealed ed
  have bc := ef.moreO aa an d6.symm
  have em := eg.moreO aa an d7.symm
  have eo := eh.moreO aa an d8.symm
  have bd := ej.moreO an ea.symm
  have ep := ek.moreO an eb.symm
  refine dO (i := 18) (zW (i := 18) rfl rfl rfl (zG rfl _) (zL (vs := [(.pointer (some ⟨c, 0, none⟩)), b8, ce]) Tryz.func112 nm112 rfl rfl rfl ?_))
  refine Calls.mono (put_spec au.pins ⟨ep, em, eo, bz.symm, b0.symm, bw⟩ hokb.ar.ok (ee.mono aa) el ⟨by rw [yW]; omega, by rw [yW]; omega⟩ (xP hor.1) (xP hol.1)) ?_
  rintro _ fz ⟨av, aw, cg, rfl, ai, ac, be, bf⟩
  refine ⟨_, rfl, ?_⟩
  have bg : ∀ i, inS c q s i → w.heap.size ≤ i ∨ noS i := inS_lo (yN c4) di dj
  have ax := au.trans ac bg
  have bh := notS (u := q) (v := s) a9 de df
  have eq := bc.extS ac bh
  have ch : Apart at_.ownBlock av.ownBlock := xO be bh (xH bc)
  have ci : Apart at_.ownBlock aw.ownBlock := xO bf bh (xH bc)
  have bi := notS (u := q) (v := s) c3.symm dg.symm dh.symm
  have er := bd.extS ac (notSb bi)
  have es : Apart (some o) av.ownBlock := xO be bi (box_lt bd)
  have et : Apart (some o) aw.ownBlock := xO bf bi (box_lt bd)
  have eu := ai.bx
  have ev := ai.ou
  have ew := ai.ov
  have ex := ai.abu
  have ey := ai.abv
  have ez := ai.auv
  have e0 := qH be bg au.size
  have e1 := qH bf bg au.size
  refine ⟨fun _ => (Pins.of_le ax.pins (Pin.le_trans (Pin.le_trans (Pin.le_trans (Pin.le_trans f.le g.le) y) aa) ac.le)), ?_⟩
  refine dO (i := 19) (zW (i := 19) rfl rfl rfl (zG rfl _) (yE (E := eInt) (e := 3) [(vJ (putK m t (atL ats ((fs.getD a default).r)) (atL ats ((fs.getD a default).l))))] [putK m t (atL ats ((fs.getD a default).r)) (atL ats ((fs.getD a default).l))] Tryz.underlying65 sz3 zr3 (by exact xF (by rfl)) (yF (by rfl)) rfl rfl rfl rfl (by decide) ax.pins (fun cj e2 e3 e4 aj f0 => ?_)))
  have ay := ax.step e4 aj
  have ck := eq.below aj
  have cl := ev.below aj
  have cm := ew.below aj
  have cn := er.below aj
  have co := eu.below aj
  have e5 : Own eInt 3 cg e2 w.heap.size cj ([putK m t (atL ats ((fs.getD a default).r)) (atL ats ((fs.getD a default).l))]) := e3.weaken ax.size
  refine ⟨fun _ => (Pins.of_le ay.pins (Pin.le_trans (Pin.le_trans (Pin.le_trans (Pin.le_trans f.le g.le) y) aa) ac.le)), ?_⟩
  refine dO (i := 20) (zW (i := 20) rfl rfl rfl (zG rfl _) (oA (E := eInt) (v := at_) (u := cj) 8 Tryz.underlying65 ap3 (by decide) rfl rfl ay.pins ck e5.src (ay.size) (fun ak f1 e6 e7 ao az => ?_)))
  have bj := ay.write e7 ao ((zY ck))
  have e8 := cl.keptA ao ch.symm
  have e9 := cm.keptA ao ci.symm
  have fa := cn.keptA ao bv.symm
  have fb := co.keptA ao a9.symm
  have fc : Apart av.ownBlock ak.ownBlock := zD ch.symm az cl.lt
  have fd : Apart aw.ownBlock ak.ownBlock := zD ci.symm az cm.lt
  have fe : Apart (some o) ak.ownBlock := zJ bv.symm az cn.lt
  have ff : Apart (some c) ak.ownBlock := zJ a9.symm az co.lt
  have f2 : (ats ++ ([putK m t (atL ats ((fs.getD a default).r)) (atL ats ((fs.getD a default).l))])).length = ats.length + 1 := List.length_append
  refine ⟨fun _ => (Pins.of_le bj.pins (Pin.le_trans (Pin.le_trans (Pin.le_trans (Pin.le_trans f.le g.le) y) aa) ac.le)), ?_⟩
  refine dM 21 ak (Pins.of_le bj.pins (Pin.le_trans (Pin.le_trans (Pin.le_trans (Pin.le_trans f.le g.le) y) aa) ac.le)) ?_
  refine yT (by kernel_rfl) ?_
  refine yG ?_
  refine zA (zC ?_)
  refine qM (vJ (a : Int)) ?_
  refine qD rfl (yL rfl rfl (by omega)) ?_
  refine qM (vJ ((a : Int) + 1)) ?_
  refine qe ?_
  refine yH ?_
  refine ⟨_, ?_, _, rfl, _, a + 1, ak, ats ++ ([putK m t (atL ats ((fs.getD a default).r)) (atL ats ((fs.getD a default).l))]), av, aw, putN m t (atL ats ((fs.getD a default).r)) (atL ats ((fs.getD a default).l)), putB m t (atL ats ((fs.getD a default).r)) (atL ats ((fs.getD a default).l)), cg, (pS 5 (pS 4 (pS 3 (pS 2 (pU 1))))), rfl, bj, (Pin.le_trans (Pin.le_trans (Pin.le_trans (Pin.le_trans (Pin.le_trans ab f.le) g.le) y) aa) ac.le), (by omega), hpt.ok, (hnk.snoc hpt.px hokb hpt.ok hpt.pl (hpt.pd.trans (by rw [hor.2, hol.2]; exact neg_den hf.opts (by omega)))), (by have := hpt.len; omega), e6, e8, e9, fa, fb, fc.symm, fd.symm, fe.symm, ff.symm, ez, es.symm, ex.symm, et.symm, ey.symm, e0, e1⟩
  omega
 refine wp_exit ?_
 refine yC ?_
 refine yK ?_
 refine yI ?_
 refine zA (zB (zC ?_))
 have hkn : a = fs.length := by omega
 have hrt := hnk.at_ (i := fs.length - 1) (by omega)
 rw [show fs.length - 1 = ((ats.length : Int) - 1).toNat by omega] at hrt
 have hgo : negG (den fs ((ats.length : Int) - 1).toNat) = negG (gOf fs) := by unfold gOf; rw [show ((ats.length : Int) - 1).toNat = fs.length - 1 by omega]
 rw [hgo] at hrt
 refine qM (.pointer (some ⟨c, 0, none⟩)) ?_
 refine qM at_ ?_
 refine qM at_ ?_
 refine qD rfl (zP Tryz.underlying65 (v := at_) rfl aq.read) ?_
 refine qD rfl (r_sub rfl rfl (by omega)) ?_
 refine qD rfl (zN Tryz.underlying65 sz3 (v := at_) rfl rfl aq.read (by omega) (by omega)) ?_
 refine qD rfl (zK (r := ats.getD ((ats.length : Int) - 1).toNat 0) rfl ag3 (z := ((ats.length : Int) - 1)) rfl aq.read (Gadd.pins af.pins at_) (by omega) (by omega)) ?_
 refine qI rfl (zL (vs := [(.pointer (some ⟨c, 0, none⟩)), (vJ (ats.getD ((ats.length : Int) - 1).toNat 0))]) Tryz.func90 nm90 rfl rfl rfl ?_)
 refine Calls.mono (form_spec af.pins ⟨bu, br, bs, bz.symm, b0.symm, bw⟩ hokb.ar.ok hrt.1) ?_
 rintro _ f3 ⟨a0, f4, rfl, cp, cq⟩
 refine ⟨_, rfl, ?_⟩
 have cr := af.tr cq
 have fg := bt.ext cq
 refine q0 rfl rfl rfl (xA (cs' := [a0]) (us := [a0]) (v := (.agg [a0].toArray)) sz32 rfl rfl rfl (yF cp.one) cr.pins fg (Nat.le_of_ble_eq_true rfl) rfl (fun f5 fh fi fj f6 => ?_))
 have fk := cr.write fi fj ((yN c0))
 refine qe (zA ?_)
 refine wp_ret ?_
 refine zU ?_
 refine c_retc (cs := [a0]) rfl rfl rfl ag32 sz32 (fun j u hj => by rw [Nat.zero_add]; exact fh.cell hj) ?_
 exact ⟨_, _, rfl, (by rw [← hrt.2, ← book_form hokb hrt.1]; exact cp), fk⟩

end NF1
end Go.Proofs.YtfnginkcmcfdfaaGreatDoor

set_option maxRecDepth 20000
set_option maxHeartbeats 2000000
namespace Go.Proofs.YtfnginkcmcfdfaaGreatDoor
namespace SM1
open Go.RowKit Go.GL Go.Proofs
open Go.Proofs.YtfnginkcmcfdfaaGreatDoor.B1
open Go.Proofs.YtfnginkcmcfdfaaGreatDoor.C1
open Go.Proofs.YtfnginkcmcfdfaaGreatDoor.D1
open Go.Proofs.YtfnginkcmcfdfaaGreatDoor.E1
open Go.Proofs.YtfnginkcmcfdfaaGreatDoor.K1
open Go.Proofs.YtfnginkcmcfdfaaGreatDoor.PO1
open Go.Proofs.YtfnginkcmcfdfaaGreatDoor.PL1
open Go.Proofs.YtfnginkcmcfdfaaGreatDoor.PA1
open Go.Proofs.YtfnginkcmcfdfaaGreatDoor.SO1
open Go.Proofs.YtfnginkcmcfdfaaGreatDoor.OD1
open Go.Proofs.YtfnginkcmcfdfaaGreatDoor.FO1
open Go.Proofs.YtfnginkcmcfdfaaGreatDoor.NG1
open Go.Proofs.YtfnginkcmcfdfaaGreatDoor.NF1


theorem pl32 : (Tryz.prog.underlying 32).bind (placesD Tryz.prog) = some [(0, 1)] := by kernel_rfl


theorem l3If_spec {w : World} {G : Pin} {v : Value} {fs : List Nd} (hP : Pins G w) (hv : RSl eNode G v fs) :
  Calls Tryz.prog 57 [(.agg [v].toArray)].toArray w fun e w' => ∃ (u : Value) (G' : Pin), e = .returned (.tuple #[(.agg [u].toArray), .bool (decP (FitsP fs))]) ∧ RSl eNode G' u (ifF fs) ∧ Ext noS G w G' w' := by
 refine zX (n := 9) Tryz.func57 Tryz.ntmps57 rfl rfl ?_
 have d : Ext noS G w G w := Ext.refl hP
 refine zB (zC ?_)
 refine qI rfl (o_box [v] (v := (.agg [v].toArray)) rfl rfl d.pins (fun o w2 al p q r => ?_))
 have s := d.step q r
 have t : w.heap.size ≤ o := by have := d.size; omega
 obtain ⟨G9, i, f, k, an⟩ := p.shut s t
 refine qI rfl (xE [(.slice none 0 0)] zr32 rfl f.pins (fun x ao ap y aa ab => ?_))
 have g := f.step aa ab
 have l : w.heap.size ≤ x := by have := f.size; omega
 refine qM (.bool false) ?_
 refine qe (zA (zB (zB (zC ?_))))
 refine qD rfl (xW (cs := [v]) ag32 sz32 rfl (fun j u hj => g.pins _ _ _ (k _ _ (by simpa using hj)))) ?_
 refine qI rfl (zL (vs := [(.agg [v].toArray)]) Tryz.func88 nm88 rfl rfl rfl ?_)
 refine Calls.mono (l3Fits_spec g.pins (hv.mono i)) ?_
 rintro _ aq ⟨ar, rfl, c⟩
 refine ⟨_, rfl, ?_⟩
 have a := g.tr c
 have m := y.ext c
 refine qD rfl (r_not rfl) ?_
 refine qe (zA ?_)
 refine c_ifn rfl rfl (fun b => ?_) (fun b => ?_)
 ·skip
  refine wp_skip ?_
  refine zA (zB (zC ?_))
  refine qD rfl (xW (cs := [v]) ag32 sz32 rfl (fun j u hj => (Pins.of_le a.pins c.le) _ _ _ (k _ _ (by simpa using hj)))) ?_
  refine q0 rfl rfl rfl (xA (cs' := [v]) (us := [v]) (v := (.agg [v].toArray)) sz32 rfl rfl rfl (yF hv.one) a.pins m (Nat.le_of_ble_eq_true rfl) rfl (fun au ac ad ae av => ?_))
  have af := a.write ad ae ((yN l))
  refine qM (.bool true) ?_
  refine qe (zA ?_)
  refine wp_ret ?_
  refine zU ?_
  refine xY (cs := [v]) (v := (.bool true)) rfl rfl rfl rfl rfl ag32 sz32 (fun j u hj => by rw [Nat.zero_add]; exact ac.cell hj) ?_
  exact ⟨_, _, congrArg (fun z => Ending.returned (Value.tuple #[(.agg [v].toArray), Value.bool z])) (b).symm, (by unfold ifF; rw [b]; exact (hv.mono (Pin.le_trans i c.le))), af⟩
 refine zB (zC ?_)
 refine qD rfl (xB [(.slice none 0 0)] [(.slice none 0 0)] [] Tryz.underlying32 zr32 rfl pl32 rfl (fun _ h => by cases h) rfl) ?_
 refine q0 rfl rfl rfl (xA (cs' := [(.slice none 0 0)]) (us := [(.slice none 0 0)]) (v := (.agg [(.slice none 0 0)].toArray)) sz32 rfl rfl rfl (yF (by rfl)) a.pins m (Nat.le_of_ble_eq_true rfl) rfl (fun aw ag ah ai ax => ?_))
 have aj := a.write ah ai ((yN l))
 refine qM (.bool false) ?_
 refine qe (zA ?_)
 refine wp_ret ?_
 refine zU ?_
 refine xY (cs := [(.slice none 0 0)]) (v := (.bool false)) rfl rfl rfl rfl rfl ag32 sz32 (fun j u hj => by rw [Nat.zero_add]; exact ag.cell hj) ?_
 exact ⟨_, _, congrArg (fun z => Ending.returned (Value.tuple #[(.agg [(.slice none 0 0)].toArray), Value.bool z])) (b).symm, (by unfold ifF; rw [b]; exact qC _ _), aj⟩

end SM1
end Go.Proofs.YtfnginkcmcfdfaaGreatDoor

set_option maxRecDepth 20000
set_option maxHeartbeats 2000000
namespace Go.Proofs.YtfnginkcmcfdfaaGreatDoor
namespace MK1
open Go.RowKit Go.GL Go.Proofs
open Go.Proofs.YtfnginkcmcfdfaaGreatDoor.B1
open Go.Proofs.YtfnginkcmcfdfaaGreatDoor.C1
open Go.Proofs.YtfnginkcmcfdfaaGreatDoor.D1
open Go.Proofs.YtfnginkcmcfdfaaGreatDoor.E1
open Go.Proofs.YtfnginkcmcfdfaaGreatDoor.K1
open Go.Proofs.YtfnginkcmcfdfaaGreatDoor.PO1
open Go.Proofs.YtfnginkcmcfdfaaGreatDoor.PL1
open Go.Proofs.YtfnginkcmcfdfaaGreatDoor.PA1
open Go.Proofs.YtfnginkcmcfdfaaGreatDoor.SO1
open Go.Proofs.YtfnginkcmcfdfaaGreatDoor.OD1
open Go.Proofs.YtfnginkcmcfdfaaGreatDoor.FO1
open Go.Proofs.YtfnginkcmcfdfaaGreatDoor.NG1
open Go.Proofs.YtfnginkcmcfdfaaGreatDoor.NF1
open Go.Proofs.YtfnginkcmcfdfaaGreatDoor.SM1





theorem pl102 : (Tryz.prog.underlying 102).bind (placesD Tryz.prog) = some [(0, 1), (1, 1)] := by kernel_rfl





theorem l3Make_spec {w : World} {G : Pin} {u v : Value} {fs gs : List (List Nd)} (hP : Pins G w) (hu : RSl (eSl eNode) G u fs) (hv : RSl (eSl eNode) G v gs) (hfa : AllW fs) (hga : AllW gs) :
  Calls Tryz.prog 63 [u, v].toArray w fun e w' => ∃ (u : Value) (G' : Pin), e = .returned (.agg [u].toArray) ∧ RSl eNode G' u (formG (mkGm fs gs)) ∧ Ext noS G w G' w' := by
 refine zX (n := 50) Tryz.func63 Tryz.ntmps63 rfl rfl ?_
 have a6 : Ext noS G w G w := Ext.refl hP
 have hmu := hu.max
 have hmv := hv.max
 have hfle := hfa.len
 have hgle := hga.len
 refine zB (zC ?_)
 refine qI rfl (xE [(.slice none 0 0)] zr32 rfl a6.pins (fun d w2 hf b0 dw dx => ?_))
 have a7 := a6.step dw dx
 have dy : w.heap.size ≤ d := by have := a6.size; omega
 refine qe (zA (zB (zC ?_)))
 refine qD rfl (xB [(.slice none 0 0), (.slice none 0 0)] [(.slice none 0 0), (.slice none 0 0)] [] Tryz.underlying102 zr102 rfl pl102 rfl (fun _ h => by cases h) rfl) ?_
 refine qI rfl (o_box [(.slice none 0 0), (.slice none 0 0)] (v := (.agg [(.slice none 0 0), (.slice none 0 0)].toArray)) rfl rfl a7.pins (fun a hg dz b2 d0 b3 => ?_))
 have a8 := a7.step d0 b3
 have b4 := b0.below b3
 have a9 : Apart (some a) (some d) := zI (congrArg some dz) b0.lt
 have ba : w.heap.size ≤ a := by have := a7.size; omega
 refine qM (.pointer (some ⟨a, 0, none⟩)) ?_
 refine qe (zA (zB (zC ?_)))
 refine qI rfl (yS (E := eInt) (e := 3) Tryz.underlying65 sz3 a8.pins (fun q d1 d2 d3 bb b5 => ?_))
 have bc := a8.step d3 bb
 have b6 := b4.below bb
 have b7 := b2.below bb
 have d4 : Apart q.ownBlock (some d) := zI b5 b4.lt
 have d5 : Apart q.ownBlock (some a) := zI b5 b2.lt
 have b8 : Own eInt 3 G d1 w.heap.size q ([]) := d2.weaken a8.size
 refine qI rfl (yS (E := eInt) (e := 3) Tryz.underlying65 sz3 bc.pins (fun f d6 d7 d8 ao bd => ?_))
 have d9 := bc.step d8 ao
 have ea := b8.below ao
 have eb := b6.below ao
 have ec := b7.below ao
 have ed : Apart f.ownBlock q.ownBlock := zH bd b8.lt
 have ee : Apart f.ownBlock (some d) := zI bd b6.lt
 have ca : Apart f.ownBlock (some a) := zI bd b7.lt
 have ef : Own eInt 3 G d6 w.heap.size f ([]) := d7.weaken bc.size
 refine qM q ?_
 refine qM f ?_
 refine qe (zA (zB (zB (zC ?_))))
 refine qM (vJ 0) ?_
 refine qe (zA ?_)
 refine zZ ?_
 refine yO (fun (k : Nat) (en : Nat → Value) (W : World) => ∃ (ac : Nat → Value) (b : Nat) (atA : Value) (atsA : List Int) (uA : Value) (vA : Value) (nsA : List Nd) (bsA : List Int) (GLA : Pin), en = (upd (upd (upd (upd (upd (upd (upd ac 0 u) 1 v) 4 (.pointer (some ⟨d, 0, none⟩))) 5 (.pointer (some ⟨a, 0, none⟩))) 6 atA) 7 f) 8 (vJ (b : Int))) ∧ k = fs.length - b ∧ Ext noS G w GLA W ∧ Pin.le G GLA ∧ (b ≤ fs.length) ∧ (PoolOk (bkq nsA bsA)) ∧ (GsOk (bkq nsA bsA) atsA ((fs.take b).map gOf)) ∧ (nsA.length ≤ 1000 * b) ∧ (Own eInt 3 GLA W w.heap.size atA (atsA)) ∧ (Own eNode 99 GLA W 0 uA (nsA)) ∧ (Own eInt 3 GLA W 0 vA (bsA)) ∧ (Own eInt 3 GLA W w.heap.size f ([])) ∧ (Bx GLA W d [(.slice none 0 0)]) ∧ (Bx GLA W a [uA, vA]) ∧ (Apart atA.ownBlock uA.ownBlock) ∧ (Apart atA.ownBlock vA.ownBlock) ∧ (Apart atA.ownBlock f.ownBlock) ∧ (Apart atA.ownBlock (some d)) ∧ (Apart atA.ownBlock (some a)) ∧ (Apart uA.ownBlock vA.ownBlock) ∧ (Apart uA.ownBlock f.ownBlock) ∧ (Apart uA.ownBlock (some d)) ∧ (Apart uA.ownBlock (some a)) ∧ (Apart vA.ownBlock f.ownBlock) ∧ (Apart vA.ownBlock (some d)) ∧ (Apart vA.ownBlock (some a)) ∧ (Lo w noS uA.ownBlock) ∧ (Lo w noS vA.ownBlock)) _ ⟨_, 0, q, [], (.slice none 0 0), (.slice none 0 0), [], [], G, (pS 8 (pS 7 (pS 6 (pS 5 (pS 4 (pS 1 (pU 0))))))), rfl, d9, Pin.le_refl _, Nat.zero_le _, (bkq_ok Ar.empty), GsOk.nil, (by simp), ea, (Own.nil _ _ _ _ _), (Own.nil _ _ _ _ _), ef, eb, ec, apart_none.symm, apart_none.symm, ed.symm, d4, d5, apart_none, apart_none, apart_none, apart_none, apart_none, apart_none, apart_none, (lo_none _ _), (lo_none _ _)⟩ ?_
 rintro hh _ hi ⟨ac, b, atA, atsA, uA, vA, nsA, bsA, GLA, rfl, hk, r, ad, hl, hokA, hgsA, hblA, ap, cb, cc, aq, au, cd, ce, cf, be, bf, ae, cg, ch, ci, cj, ck, cl, cm, cn, co⟩
 have hglA := hgsA.len
 rw [List.length_map, List.length_take] at hglA
 refine zB (zB (zC ?_))
 refine qM (vJ (b : Int)) ?_
 refine qM u ?_
 refine qD rfl (zP Tryz.underlying79 (v := u) rfl hu) ?_
 refine qD rfl (yM rfl rfl) ?_
 refine qe (zA ?_)
 refine yD (p := ((b : Int) : Int) < (fs.length : Int)) rfl rfl (fun eg => ?_) (fun eg => ?_)
 ·skip
  have hgd := hfa.ok b (by omega)
  have hgdl := hgd.2.1
  have hgdh := hgd.2.2
  have hrk := bk_root (fs := fs.getD b []) hokA hgd.1 (by omega) (by omega)
  refine wp_skip ?_
  refine zA (zB ?_)
  refine zZ ?_
  refine zC ?_
  refine qM atA ?_
  refine qM (.pointer (some ⟨a, 0, none⟩)) ?_
  refine qM u ?_
  refine qM (vJ (b : Int)) ?_
  refine qD rfl (zN Tryz.underlying79 sz32 (v := u) rfl rfl hu (by omega) (by omega)) ?_
  obtain ⟨eh, cp, ei⟩ := nm_form (hu.at (z := (b : Int)) (by omega) (by omega)) (j := b) rfl
  have hm := cp.max
  refine qD rfl (ei ag32 sz32 rfl (Pins.of_le r.pins ad)) ?_
  refine qI rfl (zL (vs := [(.pointer (some ⟨a, 0, none⟩)), (.agg [eh].toArray)]) Tryz.func91 nm91 rfl rfl rfl ?_)
  refine Calls.mono (root_spec r.pins ⟨cd, cb, cc, cj.symm, cm.symm, cg⟩ hokA.ar.ok (cp.mono ad) ⟨hgd.1, hgdl⟩ (by first | omega | (simp; omega))) ?_
  rintro _ hn ⟨af, ag, cq, rfl, s, ah, av, aw⟩
  refine ⟨_, rfl, ?_⟩
  have bg : ∀ i, inS a uA vA i → w.heap.size ≤ i ∨ noS i := inS_lo (yN ba) cn co
  have bh := r.trans ah bg
  have bi := notS (u := uA) (v := vA) ae ce cf
  have ej := ap.extS ah bi
  have cr : Apart atA.ownBlock af.ownBlock := xO av bi (xH ap)
  have ct : Apart atA.ownBlock ag.ownBlock := xO aw bi (xH ap)
  have bj := notS (u := uA) (v := vA) ca ch.symm ck.symm
  have ek := aq.extS ah bj
  have el : Apart f.ownBlock af.ownBlock := xO av bj (xH aq)
  have em : Apart f.ownBlock ag.ownBlock := xO aw bj (xH aq)
  have bk := notS (u := uA) (v := vA) a9.symm ci.symm cl.symm
  have eo := au.extS ah (notSb bk)
  have ep : Apart (some d) af.ownBlock := xO av bk (box_lt au)
  have er : Apart (some d) ag.ownBlock := xO aw bk (box_lt au)
  have es := s.bx
  have et := s.ou
  have eu := s.ov
  have ev := s.abu
  have ew := s.abv
  have ex := s.auv
  have ey := qH av bg r.size
  have ez := qH aw bg r.size
  refine qI rfl (yE (E := eInt) (e := 3) [(vJ (rootM nsA bsA (fs.getD b [])))] [rootM nsA bsA (fs.getD b [])] Tryz.underlying65 sz3 zr3 (by exact xF (by rfl)) (yF (by rfl)) rfl rfl rfl rfl (by decide) bh.pins (fun cu e0 e1 e2 g ho => ?_))
  have bl := bh.step e2 g
  have cv := ej.below g
  have cw := ek.below g
  have cx := et.below g
  have cy := eu.below g
  have cz := eo.below g
  have c0 := es.below g
  have e3 : Own eInt 3 cq e0 w.heap.size cu ([rootM nsA bsA (fs.getD b [])]) := e1.weaken bh.size
  refine qI rfl (oA (E := eInt) (v := atA) (u := cu) 8 Tryz.underlying65 ap3 (by decide) rfl rfl bl.pins cv e3.src (bl.size) (fun l hp e4 e5 t ai => ?_))
  have e6 := bl.write e5 t ((zY cv))
  have e7 := cw.keptA t be.symm
  have e8 := cx.keptA t cr.symm
  have e9 := cy.keptA t ct.symm
  have fa := cz.keptA t bf.symm
  have fb := c0.keptA t ae.symm
  have fc : Apart f.ownBlock l.ownBlock := zD be.symm ai cw.lt
  have fd : Apart af.ownBlock l.ownBlock := zD cr.symm ai cx.lt
  have fe : Apart ag.ownBlock l.ownBlock := zD ct.symm ai cy.lt
  have ff : Apart (some d) l.ownBlock := zJ bf.symm ai cz.lt
  have fg : Apart (some a) l.ownBlock := zJ ae.symm ai c0.lt
  have hq : (atsA ++ ([rootM nsA bsA (fs.getD b [])])).length = atsA.length + 1 := List.length_append
  refine qM l ?_
  refine qe ?_
  refine yG ?_
  refine zA (zC ?_)
  refine qM (vJ (b : Int)) ?_
  refine qD rfl (yL rfl rfl (by omega)) ?_
  refine qM (vJ ((b : Int) + 1)) ?_
  refine qe ?_
  refine yH ?_
  refine ⟨_, ?_, _, rfl, _, b + 1, l, atsA ++ ([rootM nsA bsA (fs.getD b [])]), af, ag, (addM nsA bsA (fs.getD b [])).2.1, (addM nsA bsA (fs.getD b [])).2.2, cq, (pS 8 (pS 7 (pS 6 (pS 5 (pS 4 (pS 1 (pU 0))))))), rfl, e6, (Pin.le_trans ad ah.le), (by omega), hrk.ok, (by rw [take_map (by omega)]; exact (hgsA.px hrk.px hokA hrk.ok).snoc hrk.pl hrk.pd), (by have h8 := hrk.len; have h9 := hgd.2.2; omega), e4, e8, e9, e7, fa, fb, fd.symm, fe.symm, fc.symm, ff.symm, fg.symm, ex, el.symm, ep.symm, ev.symm, em.symm, er.symm, ew.symm, ey, ez⟩
  omega
 refine wp_exit ?_
 refine yC ?_
 refine yK ?_
 refine yI ?_
 refine zA (zB (zB (zC ?_)))
 refine qM (vJ 0) ?_
 refine qe (zA ?_)
 refine zZ ?_
 have hi5n : b = fs.length := by omega
 have hgsF : GsOk (bkq nsA bsA) atsA (fs.map gOf) := by rw [hi5n, List.take_length] at hgsA; exact hgsA
 refine yO (fun (k : Nat) (en : Nat → Value) (W : World) => ∃ (ac : Nat → Value) (c : Nat) (atB : Value) (atsB : List Int) (uB : Value) (vB : Value) (nsB : List Nd) (bsB : List Int) (GLB : Pin), en = (upd (upd (upd (upd (upd (upd ac 1 v) 4 (.pointer (some ⟨d, 0, none⟩))) 5 (.pointer (some ⟨a, 0, none⟩))) 6 atA) 7 atB) 9 (vJ (c : Int))) ∧ k = gs.length - c ∧ Ext noS G w GLB W ∧ Pin.le GLA GLB ∧ (c ≤ gs.length) ∧ (PoolOk (bkq nsB bsB)) ∧ (GsOk (bkq nsB bsB) atsB ((gs.take c).map gOf)) ∧ (nsB.length ≤ 100000 + 1000 * c) ∧ (GsOk (bkq nsB bsB) atsA (fs.map gOf)) ∧ (Own eInt 3 GLB W w.heap.size atB (atsB)) ∧ (Own eNode 99 GLB W 0 uB (nsB)) ∧ (Own eInt 3 GLB W 0 vB (bsB)) ∧ (Own eInt 3 GLB W w.heap.size atA (atsA)) ∧ (Bx GLB W d [(.slice none 0 0)]) ∧ (Bx GLB W a [uB, vB]) ∧ (Apart atB.ownBlock uB.ownBlock) ∧ (Apart atB.ownBlock vB.ownBlock) ∧ (Apart atB.ownBlock atA.ownBlock) ∧ (Apart atB.ownBlock (some d)) ∧ (Apart atB.ownBlock (some a)) ∧ (Apart uB.ownBlock vB.ownBlock) ∧ (Apart uB.ownBlock atA.ownBlock) ∧ (Apart uB.ownBlock (some d)) ∧ (Apart uB.ownBlock (some a)) ∧ (Apart vB.ownBlock atA.ownBlock) ∧ (Apart vB.ownBlock (some d)) ∧ (Apart vB.ownBlock (some a)) ∧ (Lo w noS uB.ownBlock) ∧ (Lo w noS vB.ownBlock)) _ ⟨_, 0, f, [], uA, vA, nsA, bsA, GLA, (pS 9 (pS 7 (pS 6 (pS 5 (pS 4 (pU 1)))))), rfl, r, Pin.le_refl _, Nat.zero_le _, hokA, GsOk.nil, (by omega), hgsF, aq, cb, cc, ap, au, cd, ch.symm, ck.symm, be.symm, ee, ca, cg, ce.symm, ci, cj, cf.symm, cl, cm, cn, co⟩ ?_
 rintro hr _ hs ⟨ac, c, atB, atsB, uB, vB, nsB, bsB, GLB, rfl, ht, x, bm, hw, hokB, hgsB, hblB, hgsL, ax, c1, c2, ay, az, c3, c4, c5, bn, bo, a0, c6, c7, c8, c9, da, db, dc, dd, de⟩
 have hglB := hgsB.len
 rw [List.length_map, List.length_take] at hglB
 refine zB (zB (zC ?_))
 refine qM (vJ (c : Int)) ?_
 refine qM v ?_
 refine qD rfl (zP Tryz.underlying79 (v := v) rfl hv) ?_
 refine qD rfl (yM rfl rfl) ?_
 refine qe (zA ?_)
 refine yD (p := ((c : Int) : Int) < (gs.length : Int)) rfl rfl (fun fj => ?_) (fun fj => ?_)
 ·skip
  have hgd := hga.ok c (by omega)
  have hgdl := hgd.2.1
  have hgdh := hgd.2.2
  have hrk := bk_root (fs := gs.getD c []) hokB hgd.1 (by omega) (by omega)
  refine wp_skip ?_
  refine zA (zB ?_)
  refine zZ ?_
  refine zC ?_
  refine qM atB ?_
  refine qM (.pointer (some ⟨a, 0, none⟩)) ?_
  refine qM v ?_
  refine qM (vJ (c : Int)) ?_
  refine qD rfl (zN Tryz.underlying79 sz32 (v := v) rfl rfl hv (by omega) (by omega)) ?_
  obtain ⟨fk, df, fl⟩ := nm_form (hv.at (z := (c : Int)) (by omega) (by omega)) (j := c) rfl
  have hx := df.max
  refine qD rfl (fl ag32 sz32 rfl (Pins.of_le x.pins (Pin.le_trans ad bm))) ?_
  refine qI rfl (zL (vs := [(.pointer (some ⟨a, 0, none⟩)), (.agg [fk].toArray)]) Tryz.func91 nm91 rfl rfl rfl ?_)
  refine Calls.mono (root_spec x.pins ⟨c3, c1, c2, c9.symm, dc.symm, c6⟩ hokB.ar.ok (df.mono (Pin.le_trans ad bm)) ⟨hgd.1, hgdl⟩ (by first | omega | (simp; omega))) ?_
  rintro _ hy ⟨aj, ak, dg, rfl, y, al, a1, a2⟩
  refine ⟨_, rfl, ?_⟩
  have bp : ∀ i, inS a uB vB i → w.heap.size ≤ i ∨ noS i := inS_lo (yN ba) dd de
  have bq := x.trans al bp
  have br := notS (u := uB) (v := vB) a0 c4 c5
  have fm := ax.extS al br
  have dh : Apart atB.ownBlock aj.ownBlock := xO a1 br (xH ax)
  have di : Apart atB.ownBlock ak.ownBlock := xO a2 br (xH ax)
  have bs := notS (u := uB) (v := vB) ae c7.symm da.symm
  have fn := ay.extS al bs
  have fo : Apart atA.ownBlock aj.ownBlock := xO a1 bs (xH ay)
  have fp : Apart atA.ownBlock ak.ownBlock := xO a2 bs (xH ay)
  have bt := notS (u := uB) (v := vB) a9.symm c8.symm db.symm
  have fq := az.extS al (notSb bt)
  have fr : Apart (some d) aj.ownBlock := xO a1 bt (box_lt az)
  have ft : Apart (some d) ak.ownBlock := xO a2 bt (box_lt az)
  have fu := y.bx
  have fv := y.ou
  have fw := y.ov
  have fx := y.abu
  have fy := y.abv
  have fz := y.auv
  have f0 := qH a1 bp x.size
  have f1 := qH a2 bp x.size
  refine qI rfl (yE (E := eInt) (e := 3) [(vJ (rootM nsB bsB (gs.getD c [])))] [rootM nsB bsB (gs.getD c [])] Tryz.underlying65 sz3 zr3 (by exact xF (by rfl)) (yF (by rfl)) rfl rfl rfl rfl (by decide) bq.pins (fun dj f2 f3 f4 m hz => ?_))
  have bu := bq.step f4 m
  have dk := fm.below m
  have dl := fn.below m
  have dm := fv.below m
  have dn := fw.below m
  have dp := fq.below m
  have dq := fu.below m
  have f5 : Own eInt 3 dg f2 w.heap.size dj ([rootM nsB bsB (gs.getD c [])]) := f3.weaken bq.size
  refine qI rfl (oA (E := eInt) (v := atB) (u := dj) 8 Tryz.underlying65 ap3 (by decide) rfl rfl bu.pins dk f5.src (bu.size) (fun o h0 f6 f7 aa am => ?_))
  have f8 := bu.write f7 aa ((zY dk))
  have f9 := dl.keptA aa bn.symm
  have ga := dm.keptA aa dh.symm
  have gb := dn.keptA aa di.symm
  have gc := dp.keptA aa bo.symm
  have gd := dq.keptA aa a0.symm
  have ge : Apart atA.ownBlock o.ownBlock := zD bn.symm am dl.lt
  have gf : Apart aj.ownBlock o.ownBlock := zD dh.symm am dm.lt
  have gg : Apart ak.ownBlock o.ownBlock := zD di.symm am dn.lt
  have gh : Apart (some d) o.ownBlock := zJ bo.symm am dp.lt
  have gi : Apart (some a) o.ownBlock := zJ a0.symm am dq.lt
  have h1 : (atsB ++ ([rootM nsB bsB (gs.getD c [])])).length = atsB.length + 1 := List.length_append
  refine qM o ?_
  refine qe ?_
  refine yG ?_
  refine zA (zC ?_)
  refine qM (vJ (c : Int)) ?_
  refine qD rfl (yL rfl rfl (by omega)) ?_
  refine qM (vJ ((c : Int) + 1)) ?_
  refine qe ?_
  refine yH ?_
  refine ⟨_, ?_, _, rfl, _, c + 1, o, atsB ++ ([rootM nsB bsB (gs.getD c [])]), aj, ak, (addM nsB bsB (gs.getD c [])).2.1, (addM nsB bsB (gs.getD c [])).2.2, dg, (pS 9 (pS 7 (pS 6 (pS 5 (pS 4 (pU 1)))))), rfl, f8, (Pin.le_trans bm al.le), (by omega), hrk.ok, (by rw [take_map (by omega)]; exact (hgsB.px hrk.px hokB hrk.ok).snoc hrk.pl hrk.pd), (by have h8 := hrk.len; have h9 := hgd.2.2; omega), (hgsL.px hrk.px hokB hrk.ok), f6, ga, gb, f9, gc, gd, gf.symm, gg.symm, ge.symm, gh.symm, gi.symm, fz, fo.symm, fr.symm, fx.symm, fp.symm, ft.symm, fy.symm, f0, f1⟩
  omega
 refine wp_exit ?_
 refine yC ?_
 refine yK ?_
 refine yI ?_
 refine zA (zB (zC ?_))
 have hj5n : c = gs.length := by omega
 have hgsR : GsOk (bkq nsB bsB) atsB (gs.map gOf) := by rw [hj5n, List.take_length] at hgsB; exact hgsB
 have gj := hgsL.len
 have gk := hgsR.len
 rw [List.length_map] at gj gk
 have hpt := bk_put (xs := atsA) (ys := atsB) hokB (by omega) ⟨by omega, by omega⟩ hgsL.pl hgsR.pl
 have hpd := hpt.pd
 rw [hgsL.eq, hgsR.eq] at hpd
 refine qM (.pointer (some ⟨a, 0, none⟩)) ?_
 refine qM (.pointer (some ⟨a, 0, none⟩)) ?_
 refine qM atA ?_
 refine qM atB ?_
 obtain ⟨h2, bv, gl, gm, an⟩ := ay.sealed x
 have gn := ax.moreO bv an bn
 have gp := c1.moreO bv an c7
 have gq := c2.moreO bv an da
 have gr := az.moreO an bf.symm
 have gt := c3.moreO an ae.symm
 obtain ⟨h3, bw, a3, gu, a4⟩ := gn.sealed gl
 have gv := gp.moreO bw a4 c4.symm
 have gw := gq.moreO bw a4 c5.symm
 have gx := gr.moreO a4 bo.symm
 have gy := gt.moreO a4 a0.symm
 refine qI rfl (zL (vs := [(.pointer (some ⟨a, 0, none⟩)), atA, atB]) Tryz.func112 nm112 rfl rfl rfl ?_)
 refine Calls.mono (put_spec a3.pins ⟨gy, gv, gw, c9.symm, dc.symm, c6⟩ hokB.ar.ok (gm.mono bw) gu ⟨by omega, by omega⟩ (xP hgsL.pl) (xP hgsR.pl)) ?_
 rintro _ h4 ⟨h5, h6, h7, rfl, ab, dr, gz, g0⟩
 refine ⟨_, rfl, ?_⟩
 have bz : ∀ i, inS a uB vB i → w.heap.size ≤ i ∨ noS i := inS_lo (yN ba) dd de
 have ds := a3.trans dr bz
 have g1 := notS (u := uB) (v := vB) a9.symm c8.symm db.symm
 have g2 := gx.extS dr (notSb g1)
 have g3 := ab.bx
 have g4 := ab.ou
 have g5 := ab.ov
 have g6 := ab.abu
 have g7 := ab.abv
 have g8 := ab.auv
 have ia := qH gz bz a3.size
 have ib := qH g0 bz a3.size
 refine qI rfl (zL (vs := [(.pointer (some ⟨a, 0, none⟩)), (vJ (putK nsB bsB atsA atsB))]) Tryz.func90 nm90 rfl rfl rfl ?_)
 refine Calls.mono (form_spec ds.pins ⟨g3, g4, g5, g6, g7, g8⟩ hpt.ok.ar.ok hpt.pl) ?_
 rintro _ ic ⟨a5, ie, rfl, dt, du⟩
 refine ⟨_, rfl, ?_⟩
 have dv := ds.tr du
 have g9 := g2.ext du
 refine q0 rfl rfl rfl (xA (cs' := [a5]) (us := [a5]) (v := (.agg [a5].toArray)) sz32 rfl rfl rfl (yF dt.one) dv.pins g9 (Nat.le_of_ble_eq_true rfl) rfl (fun ig ha hb hc ih => ?_))
 have hd := dv.write hb hc ((yN dy))
 refine qe (zA ?_)
 refine wp_ret ?_
 refine zU ?_
 refine c_retc (cs := [a5]) rfl rfl rfl ag32 sz32 (fun j u hj => by rw [Nat.zero_add]; exact ha.cell hj) ?_
 exact ⟨_, _, rfl, (by rw [show mkGm fs gs = _ from hpd.symm, ← book_form hpt.ok hpt.pl]; exact dt), hd⟩

end MK1
end Go.Proofs.YtfnginkcmcfdfaaGreatDoor

set_option maxRecDepth 20000
set_option maxHeartbeats 2000000
namespace Go.Proofs.YtfnginkcmcfdfaaGreatDoor
namespace TI1
open Go.RowKit Go.GL Go.Proofs
open Go.Proofs.YtfnginkcmcfdfaaGreatDoor.B1
open Go.Proofs.YtfnginkcmcfdfaaGreatDoor.C1
open Go.Proofs.YtfnginkcmcfdfaaGreatDoor.D1
open Go.Proofs.YtfnginkcmcfdfaaGreatDoor.E1
open Go.Proofs.YtfnginkcmcfdfaaGreatDoor.K1
open Go.Proofs.YtfnginkcmcfdfaaGreatDoor.PO1
open Go.Proofs.YtfnginkcmcfdfaaGreatDoor.PL1
open Go.Proofs.YtfnginkcmcfdfaaGreatDoor.PA1
open Go.Proofs.YtfnginkcmcfdfaaGreatDoor.SO1
open Go.Proofs.YtfnginkcmcfdfaaGreatDoor.OD1
open Go.Proofs.YtfnginkcmcfdfaaGreatDoor.FO1
open Go.Proofs.YtfnginkcmcfdfaaGreatDoor.NG1
open Go.Proofs.YtfnginkcmcfdfaaGreatDoor.NF1
open Go.Proofs.YtfnginkcmcfdfaaGreatDoor.SM1
open Go.Proofs.YtfnginkcmcfdfaaGreatDoor.MK1

theorem pl32 : (Tryz.prog.underlying 32).bind (placesD Tryz.prog) = some [(0, 1)] := by kernel_rfl
theorem pl99 : (Tryz.prog.underlying 99).bind (placesD Tryz.prog) = some [(0, 1), (1, 1)] := by kernel_rfl




theorem l5Zero_spec {w : World} {G : Pin} (hP : Pins G w) :
  Calls Tryz.prog 80 [].toArray w fun e w' => ∃ (u : Value) (G' : Pin), e = .returned (.agg [u].toArray) ∧ RSl eNode G' u zF ∧ Ext noS G w G' w' := by
 refine zX (n := 4) Tryz.func80 Tryz.ntmps80 rfl rfl ?_
 have b : Ext noS G w G w := Ext.refl hP
 refine zB (zC ?_)
 refine qI rfl (xE [(.slice none 0 0)] zr32 rfl b.pins (fun f w2 ag g m o => ?_))
 have c := b.step m o
 have p : w.heap.size ≤ f := by have := b.size; omega
 refine qe (zA (zB (zC ?_)))
 refine qD rfl (xB [(.slice none 0 0), (.slice none 0 0)] [(.slice none 0 0), (.slice none 0 0)] [] Tryz.underlying99 zr99 rfl pl99 rfl (fun _ h => by cases h) rfl) ?_
 refine qI rfl (xR (E := eNode) (e := 99) [(.slice none 0 0), (.slice none 0 0)] (⟨[], []⟩ : Nd) Tryz.underlying30 sz99 zr99 ⟨_, _, rfl, (qC _ _), (qC _ _)⟩ rfl (by decide) c.pins (fun a q r s i t => ?_))
 have k := c.step s i
 have x := g.below i
 have y : Apart a.ownBlock (some f) := zI t g.lt
 have d : Own eNode 99 G q w.heap.size a ([(⟨[], []⟩ : Nd)]) := r.weaken c.size
 refine qD rfl (xB [(.slice none 0 0)] [a] [(0, a, [a])] Tryz.underlying32 zr32 rfl pl32 rfl (List.forall_mem_cons.2 ⟨(yP d.one), (fun _ h => by cases h)⟩) rfl) ?_
 refine q0 rfl rfl rfl (xA (cs' := [a]) (us := [a]) (v := (.agg [a].toArray)) sz32 rfl rfl rfl (yF d.one) k.pins x (Nat.le_of_ble_eq_true rfl) rfl (fun ah z aa l ai => ?_))
 have ab := k.write aa l ((yN p))
 have ac := d.keptA l y
 refine qe (zA ?_)
 refine wp_ret ?_
 refine zU ?_
 refine c_retc (cs := [a]) rfl rfl rfl ag32 sz32 (fun j u hj => by rw [Nat.zero_add]; exact z.cell hj) ?_
 obtain ⟨aj, ak, ad, ae, al⟩ := ac.sealed ab
 exact ⟨_, _, rfl, ae, ad⟩

end TI1
end Go.Proofs.YtfnginkcmcfdfaaGreatDoor

set_option maxRecDepth 20000
set_option maxHeartbeats 2000000
namespace Go.Proofs.YtfnginkcmcfdfaaGreatDoor
namespace ST3
open Go.RowKit Go.GL Go.Proofs
open Go.Proofs.YtfnginkcmcfdfaaGreatDoor.B1
open Go.Proofs.YtfnginkcmcfdfaaGreatDoor.C1
open Go.Proofs.YtfnginkcmcfdfaaGreatDoor.D1
open Go.Proofs.YtfnginkcmcfdfaaGreatDoor.E1






theorem pl32 : (Tryz.prog.underlying 32).bind (placesD Tryz.prog) = some [(0, 1)] := by kernel_rfl
theorem pl99 : (Tryz.prog.underlying 99).bind (placesD Tryz.prog) = some [(0, 1), (1, 1)] := by kernel_rfl







theorem l1Own_spec {w : World} {G : Pin} {v : Value} {xs : List Int} (hP : Pins G w) (hv : RSl eInt G v xs) (hs : xs.length ≤ 1048576) :
  Calls Tryz.prog 155 [v].toArray w fun e w' => ∃ (u : Value) (G' : Pin), e = .returned u ∧ Own eInt 3 G' w' w.heap.size u xs ∧ Ext noS G w G' w' := by
 refine zX (n := 6) Tryz.func155 Tryz.ntmps155 rfl rfl ?_
 have b : Ext noS G w G w := Ext.refl hP
 refine zB (zC ?_)
 refine qM (.slice none 0 0) ?_
 refine qe (zA (zB (zC ?_)))
 refine qI rfl (yS (E := eInt) (e := 3) Tryz.underlying65 sz3 b.pins (fun c g h i j p => ?_))
 have a := b.step i j
 have d : Own eInt 3 G g w.heap.size c ([]) := h.weaken b.size
 refine qM v ?_
 refine qI rfl (oA (E := eInt) (v := c) (u := v) 8 Tryz.underlying65 ap3 (by decide) rfl rfl a.pins d ((hv.mono (Pin.le_refl _)).src a.pins (by decide)) (a.size) (fun f q k l m r => ?_))
 have o := a.write l m ((zY d))
 have s : (([]) ++ xs).length = ([]).length + xs.length := List.length_append
 refine qM f ?_
 refine qe (zA ?_)
 refine wp_ret ?_
 refine zU ?_
 refine zT (v := f) rfl rfl rfl ?_
 exact ⟨_, _, rfl, (by simpa using k), o⟩

theorem l1OwnO_spec {w : World} {G : Pin} {base : Nat} {v : Value} {xs : List Int} (hP : Pins G w) (hv : Own eInt 3 G w base v xs) (hs : xs.length ≤ 1048576) :
  Calls Tryz.prog 155 [v].toArray w fun e w' => ∃ (u : Value) (G' : Pin), e = .returned u ∧ Own eInt 3 G' w' w.heap.size u xs ∧ Ext noS G w G' w' := by
 have hP2 := Gadd.pins hP v
 refine (l1Own_spec hP2 hv.read (by omega)).mono ?_
 rintro e w' ⟨u, G', rfl, ho, hx⟩
 exact ⟨u, G, rfl, ho.anti flat_int (Pin.le_trans (Gadd.le _ _ _) hx.le), deep_back hP hx⟩

theorem l8Star_spec {w : World} {G : Pin} {n : Nat} (hP : Pins G w) (hn : n ≤ 1000) :
  Calls Tryz.prog 125 [(vJ (n : Int))].toArray w fun e w' => ∃ (u : Value) (G' : Pin), e = .returned (.agg [u].toArray) ∧ RSl eNode G' u (starF n) ∧ Ext noS G w G' w' := by
 refine zX (n := 29) Tryz.func125 Tryz.ntmps125 rfl rfl ?_
 have al : Ext noS G w G w := Ext.refl hP
 refine zB (zC ?_)
 refine qI rfl (xE [(.slice none 0 0)] zr32 rfl al.pins (fun d w2 e3 bf cj ck => ?_))
 have am := al.step cj ck
 have cl : w.heap.size ≤ d := by have := al.size; omega
 refine qe (zA (zB (zC ?_)))
 refine qI rfl (yS (E := eNode) (e := 99) Tryz.underlying30 sz99 am.pins (fun b cm cn co bg cp => ?_))
 have an := am.step co bg
 have bh := bf.below bg
 have cq : Apart b.ownBlock (some d) := zI cp bf.lt
 have ao : Own eNode 99 G cm w.heap.size b ([]) := cn.weaken am.size
 refine qD rfl (xB [(.slice none 0 0)] [b] [(0, b, [b])] Tryz.underlying32 zr32 rfl pl32 rfl (List.forall_mem_cons.2 ⟨(yP ao.one), (fun _ h => by cases h)⟩) rfl) ?_
 refine qI rfl (xE [(.slice none 0 0)] zr32 rfl an.pins (fun c e4 bi cr ct ap => ?_))
 have bj := an.step ct ap
 have bk := ao.below ap
 have cu := bh.below ap
 have bl : Apart (some c) b.ownBlock := zH (congrArg some bi) ao.lt
 have bm : Apart (some c) (some d) := zI (congrArg some bi) bh.lt
 have bn : w.heap.size ≤ c := by have := an.size; omega
 refine q0 rfl rfl rfl (xA (cs' := [b]) (us := [b]) (v := (.agg [b].toArray)) sz32 rfl rfl rfl (yF bk.one) bj.pins cr (Nat.le_of_ble_eq_true rfl) rfl (fun e5 bo cv aq e6 => ?_))
 have ar := bj.write cv aq ((yN bn))
 have bp := bk.keptA aq bl.symm
 have bq := cu.keptA aq bm.symm
 refine qe (zA (zB (zC ?_)))
 refine qI rfl (yS (E := eInt) (e := 3) Tryz.underlying65 sz3 ar.pins (fun m cw cx cy ad au => ?_))
 have cz := ar.step cy ad
 have c0 := bp.below ad
 have c1 := bq.below ad
 have c2 := bo.below ad
 have c3 : Apart m.ownBlock b.ownBlock := zH au bp.lt
 have c4 : Apart m.ownBlock (some d) := zI au bq.lt
 have c5 : Apart m.ownBlock (some c) := zI au bo.lt
 have c6 : Own eInt 3 G cw w.heap.size m ([]) := cx.weaken ar.size
 refine qM m ?_
 refine qe (zA (zB (zB (zC ?_))))
 refine qM (vJ 0) ?_
 refine qe (zA ?_)
 refine zZ ?_
 refine yO (fun (k : Nat) (en : Nat → Value) (W : World) => ∃ (br : Nat → Value) (a : Nat) (ov : Value) (os : List Nd) (lv : Value) (li : List Int) (g : Pin), en = (upd (upd (upd (upd (upd br 0 (vJ (n : Int))) 2 (.pointer (some ⟨d, 0, none⟩))) 3 (.pointer (some ⟨c, 0, none⟩))) 4 lv) 5 (vJ (a : Int))) ∧ k = n + 1 - a ∧ Ext noS G w g W ∧ Pin.le G g ∧ (a ≤ n + 1) ∧ (os = starN a) ∧ (li = idx a) ∧ (Own eNode 99 g W w.heap.size ov (os)) ∧ (Own eInt 3 g W w.heap.size lv (li)) ∧ (Bx g W d [(.slice none 0 0)]) ∧ (Bx g W c [ov]) ∧ (Apart ov.ownBlock lv.ownBlock) ∧ (Apart ov.ownBlock (some d)) ∧ (Apart ov.ownBlock (some c)) ∧ (Apart lv.ownBlock (some d)) ∧ (Apart lv.ownBlock (some c))) _ ⟨_, 0, b, [], m, [], G, (pS 5 (pS 4 (pS 3 (pS 2 (pU 0))))), rfl, cz, Pin.le_refl _, Nat.zero_le _, rfl, rfl, c0, c6, c1, c2, c3.symm, cq, bl.symm, c4, c5⟩ ?_
 rintro e7 _ av ⟨br, a, ov, os, lv, li, g, rfl, e8, ae, c7, e9, hos, hli, aw, c8, bs, bt, bu, ax, bv, bw, ay⟩
 have hlil : li.length = a := by rw [hli, idx_length]
 have hosl : os.length = a := by rw [hos, starN_len]
 refine zB (zB (zC ?_))
 refine qM (vJ (a : Int)) ?_
 refine qM (vJ (n : Int)) ?_
 refine qD rfl (r_leq rfl rfl) ?_
 refine qe (zA ?_)
 refine yD (p := ((a : Int) : Int) ≤ (n : Int)) rfl rfl (fun c9 => ?_) (fun c9 => ?_)
 ·skip
  refine wp_skip ?_
  refine zA (zB ?_)
  refine zZ ?_
  refine zB ?_
  refine xI (S := fun wz => BxR wz c [ov]) (last := 10) (by kernel_rfl) rfl ?_
  have o : Below av.heap.size av av.drew := (Below.refl _ _).drew
  have da := ae.pins.below o
  have az := ae.step da o
  have bx := aw.below o
  have a0 := c8.below o
  have bz := bs.below o
  have q := bt.below o
  refine dT (i := 0) rfl rfl (by kernel_rfl) (fun _ _ => zQ (k := 0) rfl Tryz.underlying32 rfl nz30 rfl) q.reads ?_
  refine dT (i := 1) rfl rfl (by kernel_rfl) (fun _ hS => zS (u := ov) ag30 rfl (hS 0 _ rfl)) q.reads ?_
  refine dM 2 lv q.reads ?_
  refine dM 4 lv q.reads ?_
  refine dO (i := 3) (zW (i := 3) rfl rfl rfl (zG rfl _) (zL (vs := [lv]) Tryz.func155 nm155 rfl rfl rfl ?_))
  refine Calls.mono (l1OwnO_spec az.pins a0 (by omega)) ?_
  rintro _ db ⟨t, dc, rfl, x, r⟩
  refine ⟨_, rfl, ?_⟩
  have a1 := az.tr r
  have b0 := bx.ext r
  have a2 := a0.ext r
  have b2 := bz.ext r
  have a3 := q.ext r
  have dd := zM x.lt bx.lt
  have de := zM x.lt a0.lt
  have df := zV x.lt bz.lt
  have dg := zV x.lt q.lt
  have b3 : Own eInt 3 dc db w.heap.size t li := x.weaken az.size
  refine ⟨fun _ => a3.reads, ?_⟩
  refine dO (i := 5) (zW (i := 5) rfl rfl rfl (zG rfl _) (zL (vs := [lv]) Tryz.func155 nm155 rfl rfl rfl ?_))
  refine Calls.mono (l1OwnO_spec a1.pins a2 (by omega)) ?_
  rintro _ dh ⟨y, di, rfl, s, l⟩
  refine ⟨_, rfl, ?_⟩
  have dj := a1.tr l
  have dk := b0.ext l
  have dl := a2.ext l
  have b4 := b3.ext l
  have dm := b2.ext l
  have a4 := a3.ext l
  have dn := zM s.lt b0.lt
  have dp := zM s.lt a2.lt
  have dq := zM s.lt b3.lt
  have dr := zV s.lt b2.lt
  have ds := zV s.lt a3.lt
  have b5 : Own eInt 3 di dh w.heap.size y li := s.weaken a1.size
  refine ⟨fun _ => a4.reads, ?_⟩
  refine dT (i := 6) rfl rfl (by kernel_rfl) (fun _ _ => xB [(.slice none 0 0), (.slice none 0 0)] [t, y] [(0, t, [t]), (1, y, [y])] Tryz.underlying99 zr99 rfl pl99 rfl (List.forall_mem_cons.2 ⟨(yP b4.one), (List.forall_mem_cons.2 ⟨(yP b5.one), (fun _ h => by cases h)⟩)⟩) rfl) a4.reads ?_
  obtain ⟨fa, af, dt, du, z⟩ := b4.sealed dj
  have dv := dk.moreO af z dd.symm
  have dw := dl.moreO af z de.symm
  have dx := b5.moreO af z dq
  have dy := dm.moreO z df.symm
  have dz := a4.moreO z dg.symm
  obtain ⟨a5, ag, a6, d0, ah⟩ := dx.sealed dt
  have d1 := dv.moreO ag ah dn.symm
  have d2 := dw.moreO ag ah dp.symm
  have d3 := dy.moreO ah dr.symm
  have d4 := dz.moreO ah ds.symm
  refine dO (i := 7) (zW (i := 7) rfl rfl rfl (zG rfl _) (xR (E := eNode) (e := 99) [t, y] (⟨li, li⟩ : Nd) Tryz.underlying30 sz99 zr99 ⟨_, _, rfl, (du.mono ag), d0⟩ rfl (by decide) a6.pins (fun b6 d5 d6 d7 aa fb => ?_)))
  have a7 := a6.step d7 aa
  have b7 := d1.below aa
  have b8 := d2.below aa
  have b9 := d3.below aa
  have a8 := d4.below aa
  have d8 : Own eNode 99 a5 d5 w.heap.size b6 ([(⟨li, li⟩ : Nd)]) := d6.weaken a6.size
  refine ⟨fun _ => a8.reads, ?_⟩
  refine dO (i := 8) (zW (i := 8) rfl rfl rfl (zG rfl _) (oA (E := eNode) (v := ov) (u := b6) 48 Tryz.underlying30 ap99 (by decide) rfl rfl a7.pins b7 d8.src (a7.size) (fun f fc a9 d9 ai ba => ?_)))
  have ca := a7.write d9 ai ((zY b7))
  have ea := b8.keptA ai bu.symm
  have eb := b9.keptA ai ax.symm
  have bb := a8.keptA ai bv.symm
  have cb : Apart lv.ownBlock f.ownBlock := zD bu.symm ba b8.lt
  have ec : Apart (some d) f.ownBlock := zJ ax.symm ba b9.lt
  have cc : Apart (some c) f.ownBlock := zJ bv.symm ba a8.lt
  have fd : (os ++ ([(⟨li, li⟩ : Nd)])).length = os.length + 1 := List.length_append
  refine ⟨fun _ => bb.reads, ?_⟩
  refine dT (i := 9) rfl rfl (by kernel_rfl) (fun _ _ => zQ (k := 0) rfl Tryz.underlying32 rfl nz30 rfl) bb.reads ?_
  refine dO (i := 10) (drOp0 (i := 10) rfl rfl rfl (zG rfl _) (xA (cs' := [f]) (us := [f]) (v := f) sz30 rfl rfl (cells1 a9.one) (yF a9.one) ca.pins bb (Nat.le_of_ble_eq_true rfl) rfl (fun fe ed ee aj ff => ?_)))
  have bc := ca.write ee aj ((yN bn))
  have ef := ea.keptA aj ay
  have eg := a9.keptA aj cc.symm
  have eh := eb.keptA aj bm.symm
  refine ⟨fun h => absurd rfl h, ?_⟩
  refine yT (by kernel_rfl) ?_
  refine zA (zC ?_)
  refine qM lv ?_
  refine qM (vJ (a : Int)) ?_
  refine qI rfl (yE (E := eInt) (e := 3) [(vJ (a : Int))] [(a : Int)] Tryz.underlying65 sz3 zr3 (by exact xF (by rfl)) (yF (by rfl)) rfl rfl rfl rfl (by decide) bc.pins (fun cd ei ej ek ab fg => ?_))
  have bd := bc.step ek ab
  have ce := ef.below ab
  have cf := eg.below ab
  have cg := eh.below ab
  have ch := ed.below ab
  have el : Own eInt 3 a5 ei w.heap.size cd ([(a : Int)]) := ej.weaken bc.size
  refine qI rfl (oA (E := eInt) (v := lv) (u := cd) 8 Tryz.underlying65 ap3 (by decide) rfl rfl bd.pins ce el.src (bd.size) (fun ac fh em eo ak be => ?_))
  have ep := bd.write eo ak ((zY ce))
  have eq := cf.keptA ak cb.symm
  have er := cg.keptA ak bw.symm
  have es := ch.keptA ak ay.symm
  have et : Apart f.ownBlock ac.ownBlock := zD cb.symm be cf.lt
  have eu : Apart (some d) ac.ownBlock := zJ bw.symm be cg.lt
  have ev : Apart (some c) ac.ownBlock := zJ ay.symm be ch.lt
  have fi : (li ++ ([(a : Int)])).length = li.length + 1 := List.length_append
  refine qM ac ?_
  refine qe ?_
  refine yG ?_
  refine zA (zC ?_)
  refine qM (vJ (a : Int)) ?_
  refine qD rfl (yL rfl rfl (by omega)) ?_
  refine qM (vJ ((a : Int) + 1)) ?_
  refine qe ?_
  refine yH ?_
  refine ⟨_, ?_, _, rfl, _, a + 1, f, os ++ ([(⟨li, li⟩ : Nd)]), ac, li ++ ([(a : Int)]), a5, (pS 5 (pS 4 (pS 3 (pS 2 (pU 0))))), rfl, ep, (Pin.le_trans (Pin.le_trans (Pin.le_trans (Pin.le_trans c7 r.le) l.le) af) ag), (by omega), (by rw [hos, hli, starN_succ]), (by rw [hli, idx_succ]), eq, em, er, es, et, ec.symm, cc.symm, eu.symm, ev.symm⟩
  omega
 refine wp_exit ?_
 refine yC ?_
 refine yK ?_
 refine yI ?_
 refine zA (zB (zC ?_))
 refine qD rfl (xW (cs := [ov]) ag32 sz32 rfl (fun j u hj => bt.cell (by simpa using hj))) ?_
 refine q0 rfl rfl rfl (xA (cs' := [ov]) (us := [ov]) (v := (.agg [ov].toArray)) sz32 rfl rfl rfl (yF aw.one) ae.pins bs (Nat.le_of_ble_eq_true rfl) rfl (fun fj ew ex ci fk => ?_))
 have ey := ae.write ex ci ((yN cl))
 have ez := aw.keptA ci ax
 refine qe (zA ?_)
 refine wp_ret ?_
 refine zU ?_
 refine c_retc (cs := [ov]) rfl rfl rfl ag32 sz32 (fun j u hj => by rw [Nat.zero_add]; exact ew.cell hj) ?_
 obtain ⟨fl, fm, e0, e1, fn⟩ := ez.sealed ey
 exact ⟨_, _, rfl, (by rw [show starF n = os by rw [hos, show a = n + 1 by omega]; rfl]; exact e1), e0⟩

end ST3
end Go.Proofs.YtfnginkcmcfdfaaGreatDoor

set_option maxRecDepth 20000
set_option maxHeartbeats 2000000
namespace Go.Proofs.YtfnginkcmcfdfaaGreatDoor
namespace UP3
open Go.RowKit Go.GL Go.Proofs
open Go.Proofs.YtfnginkcmcfdfaaGreatDoor.B1
open Go.Proofs.YtfnginkcmcfdfaaGreatDoor.C1
open Go.Proofs.YtfnginkcmcfdfaaGreatDoor.D1
open Go.Proofs.YtfnginkcmcfdfaaGreatDoor.E1
open Go.Proofs.YtfnginkcmcfdfaaGreatDoor.K1
open Go.Proofs.YtfnginkcmcfdfaaGreatDoor.PO1
open Go.Proofs.YtfnginkcmcfdfaaGreatDoor.PL1
open Go.Proofs.YtfnginkcmcfdfaaGreatDoor.PA1
open Go.Proofs.YtfnginkcmcfdfaaGreatDoor.SO1
open Go.Proofs.YtfnginkcmcfdfaaGreatDoor.OD1
open Go.Proofs.YtfnginkcmcfdfaaGreatDoor.FO1
open Go.Proofs.YtfnginkcmcfdfaaGreatDoor.NG1
open Go.Proofs.YtfnginkcmcfdfaaGreatDoor.NF1
open Go.Proofs.YtfnginkcmcfdfaaGreatDoor.SM1
open Go.Proofs.YtfnginkcmcfdfaaGreatDoor.MK1
open Go.Proofs.YtfnginkcmcfdfaaGreatDoor.TI1
open Go.Proofs.YtfnginkcmcfdfaaGreatDoor.ST3








def UpqP (m : Nat) : Prop := ∀ {w : World} {G : Pin} {z : Int} {s : Nat} (_ : Pins G w) (_ : 0 ≤ z ∧ z ≤ 12) (_ : s ≤ 15), z.toNat < m → Calls Tryz.prog 75 [(.int .i64 z), (.int .i64 (s : Int))].toArray w fun e w' => ∃ (u : Value) (G' : Pin), e = .returned (.agg [u].toArray) ∧ RSl eNode G' u (formG (upG z.toNat s)) ∧ Ext noS G w G' w'

theorem l8Ups_step {w : World} {G : Pin} {z : Int} {s : Nat} {m : Nat} (hP : Pins G w) (hz : 0 ≤ z ∧ z ≤ 12) (hs : s ≤ 15) (ih : UpqP m) (hm : z.toNat < m + 1) :
  Calls Tryz.prog 75 [(vJ z), (vJ (s : Int))].toArray w fun e w' => ∃ (u : Value) (G' : Pin), e = .returned (.agg [u].toArray) ∧ RSl eNode G' u (formG (upG z.toNat s)) ∧ Ext noS G w G' w' := by
 refine zX (n := 40) Tryz.func75 Tryz.ntmps75 rfl rfl ?_
 have y : Ext noS G w G w := Ext.refl hP
 refine zB (zC ?_)
 refine qI rfl (xE [(.slice none 0 0)] zr32 rfl y.pins (fun b w2 fc c bv bw => ?_))
 have a := y.step bv bw
 have d : w.heap.size ≤ b := by have := y.size; omega
 refine qe (zA (zB ?_))
 refine zZ ?_
 refine zB (zC ?_)
 refine qM (vJ z) ?_
 refine qD rfl (yM rfl rfl) ?_
 refine qM (.bool (decide ((z : Int) < 0))) ?_
 refine qe (zA ?_)
 refine yD (p := (z : Int) < 0) rfl rfl (fun h9 => ?_) (fun h9 => ?_)
 ·skip
  exfalso; omega
 refine zB (zC ?_)
 refine qM (vJ z) ?_
 refine qD rfl (r_eql rfl rfl) ?_
 refine qM (.bool (decide ((z : Int) = 0))) ?_
 refine qe (zA ?_)
 refine yD (p := (z : Int) = 0) rfl rfl (fun bz => ?_) (fun bz => ?_)
 ·skip
  refine zB (zC ?_)
  refine qM (vJ (s : Int)) ?_
  refine qI rfl (zL (vs := [(vJ (s : Int))]) Tryz.func125 nm125 rfl rfl rfl ?_)
  refine Calls.mono (l8Star_spec (n := s) a.pins (by omega)) ?_
  rintro _ fd ⟨f, fe, rfl, an, ao⟩
  refine ⟨_, rfl, ?_⟩
  have ap := a.tr ao
  have b0 := c.ext ao
  refine q0 rfl rfl rfl (xA (cs' := [f]) (us := [f]) (v := (.agg [f].toArray)) sz32 rfl rfl rfl (yF an.one) ap.pins b0 (Nat.le_of_ble_eq_true rfl) rfl (fun ff b2 b3 b4 fg => ?_))
  have b5 := ap.write b3 b4 ((yN d))
  refine qe (zA ?_)
  refine wp_ret ?_
  refine zU ?_
  refine c_retc (cs := [f]) rfl rfl rfl ag32 sz32 (fun j u hj => by rw [Nat.zero_add]; exact b2.cell hj) ?_
  exact ⟨_, _, rfl, (by rw [up_zero (by omega) hs]; exact an), b5⟩
 refine zB (zC ?_)
 refine qM (vJ z) ?_
 refine qD rfl (r_eql rfl rfl) ?_
 refine qM (.bool (decide ((z : Int) = 1))) ?_
 refine qbd (p := (z : Int) = 1) (t := 21) rfl (fun b6 => ?_) (fun b6 => ?_)
 ·skip
  refine qN (zR (v := (vJ (s : Int))) rfl) ?_
  refine qN (r_eql rfl rfl) ?_
  refine qD rfl (xJ (v := (.bool (decide (((s : Int) : Int) = 1)))) rfl rfl) ?_
  refine qM (.bool (decide (((s : Int) : Int) = 1))) ?_
  refine qe (zA ?_)
  refine yD (p := ((s : Int) : Int) = 1) rfl rfl (fun b7 => ?_) (fun b7 => ?_)
  ·skip
   refine zB (zC ?_)
   refine qI rfl (zL (vs := []) Tryz.func80 nm80 rfl rfl rfl ?_)
   refine Calls.mono (l5Zero_spec a.pins ) ?_
   rintro _ fh ⟨b8, fi, rfl, aq, ar⟩
   refine ⟨_, rfl, ?_⟩
   have au := a.tr ar
   have b9 := c.ext ar
   refine qI rfl (zL (vs := [(vJ 1)]) Tryz.func125 nm125 rfl rfl rfl ?_)
   refine Calls.mono (l8Star_spec (n := 1) au.pins (by omega)) ?_
   rintro _ fj ⟨ca, cb, rfl, av, aa⟩
   refine ⟨_, rfl, ?_⟩
   have ab := au.tr aa
   have aw := b9.ext aa
   refine qI rfl (o_buildA (E := (eSl eNode)) (e := 32) [b8, ca] [zF, starF 1] Tryz.underlying79 sz32 zr32 (by exact reps2 (⟨_, rfl, (aq.mono aa.le)⟩) (⟨_, rfl, av⟩)) (ones2 aq.one av.one) rfl rfl rfl rfl (by decide) ab.pins (fun g cc cd ce ax cf => ?_))
   have ay := ab.step ce ax
   have cg := aw.below ax
   have ch : Apart g.ownBlock (some b) := zI cf aw.lt
   have ci : Own (eSl eNode) 32 cb cc w.heap.size g ([zF, starF 1]) := cd.weaken ab.size
   refine qI rfl (zL (vs := []) Tryz.func80 nm80 rfl rfl rfl ?_)
   refine Calls.mono (l5Zero_spec ay.pins ) ?_
   rintro _ fk ⟨cj, ck, rfl, cl, ac⟩
   refine ⟨_, rfl, ?_⟩
   have ad := ay.tr ac
   have az := ci.ext ac
   have a0 := cg.ext ac
   refine qI rfl (xR (E := (eSl eNode)) (e := 32) [cj] zF Tryz.underlying79 sz32 zr32 ⟨_, rfl, cl⟩ rfl (by decide) ad.pins (fun h cm cn co ae a1 => ?_))
   have cp := ad.step co ae
   have cq := az.below ae
   have cr := a0.below ae
   have ct : Apart h.ownBlock g.ownBlock := zH a1 az.lt
   have cu : Apart h.ownBlock (some b) := zI a1 a0.lt
   have cv : Own (eSl eNode) 32 ck cm w.heap.size h ([zF]) := cn.weaken ad.size
   obtain ⟨fl, cw, cx, cy, a2⟩ := cq.sealed cp
   have cz := cv.moreO cw a2 ct
   have c0 := cr.moreO a2 ch.symm
   obtain ⟨fm, c1, a3, c2, c3⟩ := cz.sealed cx
   have c4 := c0.moreO c3 cu.symm
   refine qI rfl (zL (vs := [g, h]) Tryz.func63 nm63 rfl rfl rfl ?_)
   refine Calls.mono (l3Make_spec a3.pins (cy.mono c1) c2 (AllW.two zF_w (star_w (by omega))) zF_w) ?_
   rintro _ fn ⟨i, fo, rfl, a4, a5⟩
   refine ⟨_, rfl, ?_⟩
   have a6 := a3.tr a5
   have c5 := c4.ext a5
   refine q0 rfl rfl rfl (xA (cs' := [i]) (us := [i]) (v := (.agg [i].toArray)) sz32 rfl rfl rfl (yF a4.one) a6.pins c5 (Nat.le_of_ble_eq_true rfl) rfl (fun fp c6 c7 c8 fq => ?_))
   have c9 := a6.write c7 c8 ((yN d))
   refine qe (zA ?_)
   refine wp_ret ?_
   refine zU ?_
   refine c_retc (cs := [i]) rfl rfl rfl ag32 sz32 (fun j u hj => by rw [Nat.zero_add]; exact c6.cell hj) ?_
   exact ⟨_, _, rfl, (by rw [show z.toNat = 1 by omega, show s = 1 by omega, ← up_pairG]; exact a4), c9⟩
  refine wp_skip ?_
  refine yG ?_
  refine zA (zB (zC ?_))
  refine qI rfl (zL (vs := []) Tryz.func80 nm80 rfl rfl rfl ?_)
  refine Calls.mono (l5Zero_spec a.pins ) ?_
  rintro _ fr ⟨da, db, rfl, dc, a7⟩
  refine ⟨_, rfl, ?_⟩
  have af := a.tr a7
  have a8 := c.ext a7
  refine qI rfl (xR (E := (eSl eNode)) (e := 32) [da] zF Tryz.underlying79 sz32 zr32 ⟨_, rfl, dc⟩ rfl (by decide) af.pins (fun k dd de df a9 dg => ?_))
  have ba := af.step df a9
  have dh := a8.below a9
  have di : Apart k.ownBlock (some b) := zI dg a8.lt
  have dj : Own (eSl eNode) 32 db dd w.heap.size k ([zF]) := de.weaken af.size
  refine qM (vJ z) ?_
  refine qD rfl (r_sub rfl rfl (by omega)) ?_
  refine qM (vJ (s : Int)) ?_
  refine qD rfl (r_xor1 rfl rfl (hs)) ?_
  refine qI rfl (zL (vs := [(vJ (z - 1)), (vJ ((flip1 s : Nat) : Int))]) Tryz.func75 nm75 rfl rfl rfl ?_)
  refine Calls.mono (ih (z := z - 1) (s := flip1 s) ba.pins (by omega) (flip_le hs) (by omega)) ?_
  rintro _ fs ⟨dk, dl, rfl, dm, ag⟩
  refine ⟨_, rfl, ?_⟩
  have ah := ba.tr ag
  have bb := dj.ext ag
  have bc := dh.ext ag
  refine qI rfl (xR (E := (eSl eNode)) (e := 32) [dk] (formG (upG (z - 1).toNat (flip1 s))) Tryz.underlying79 sz32 zr32 ⟨_, rfl, dm⟩ rfl (by decide) ah.pins (fun l dn dp dq ai bd => ?_))
  have dr := ah.step dq ai
  have ds := bb.below ai
  have dt := bc.below ai
  have du : Apart l.ownBlock k.ownBlock := zH bd bb.lt
  have dv : Apart l.ownBlock (some b) := zI bd bc.lt
  have dw : Own (eSl eNode) 32 dl dn w.heap.size l ([formG (upG (z - 1).toNat (flip1 s))]) := dp.weaken ah.size
  obtain ⟨ft, dx, dy, dz, be⟩ := ds.sealed dr
  have d0 := dw.moreO dx be du
  have d1 := dt.moreO be di.symm
  obtain ⟨fu, d2, bf, d3, d4⟩ := d0.sealed dy
  have d5 := d1.moreO d4 dv.symm
  refine qI rfl (zL (vs := [k, l]) Tryz.func63 nm63 rfl rfl rfl ?_)
  refine Calls.mono (l3Make_spec bf.pins (dz.mono d2) d3 zF_w (up_form _ _ (by omega) (flip_le hs)).w) ?_
  rintro _ fv ⟨o, fw, rfl, bg, bh⟩
  refine ⟨_, rfl, ?_⟩
  have bi := bf.tr bh
  have d6 := d5.ext bh
  refine q0 rfl rfl rfl (xA (cs' := [o]) (us := [o]) (v := (.agg [o].toArray)) sz32 rfl rfl rfl (yF bg.one) bi.pins d6 (Nat.le_of_ble_eq_true rfl) rfl (fun fx d7 d8 d9 fy => ?_))
  have ea := bi.write d8 d9 ((yN d))
  refine qe (zA ?_)
  refine wp_ret ?_
  refine zU ?_
  refine c_retc (cs := [o]) rfl rfl rfl ag32 sz32 (fun j u hj => by rw [Nat.zero_add]; exact d7.cell hj) ?_
  exact ⟨_, _, rfl, (by rw [← upM_succ (by omega) hs (by omega)]; exact bg), ea⟩
 refine qW ?_
 refine qW ?_
 refine qD rfl (xG (v := (.bool false)) rfl rfl) ?_
 refine qM (.bool false) ?_
 refine qe (zA ?_)
 refine c_ifF rfl rfl ?_
 refine wp_skip ?_
 refine yG ?_
 refine zA (zB (zC ?_))
 refine qI rfl (zL (vs := []) Tryz.func80 nm80 rfl rfl rfl ?_)
 refine Calls.mono (l5Zero_spec a.pins ) ?_
 rintro _ fz ⟨eb, ec, rfl, ed, bj⟩
 refine ⟨_, rfl, ?_⟩
 have aj := a.tr bj
 have bk := c.ext bj
 refine qI rfl (xR (E := (eSl eNode)) (e := 32) [eb] zF Tryz.underlying79 sz32 zr32 ⟨_, rfl, ed⟩ rfl (by decide) aj.pins (fun q ee ef eg bl eh => ?_))
 have bm := aj.step eg bl
 have ei := bk.below bl
 have ej : Apart q.ownBlock (some b) := zI eh bk.lt
 have ek : Own (eSl eNode) 32 ec ee w.heap.size q ([zF]) := ef.weaken aj.size
 refine qM (vJ z) ?_
 refine qD rfl (r_sub rfl rfl (by omega)) ?_
 refine qM (vJ (s : Int)) ?_
 refine qD rfl (r_xor1 rfl rfl (hs)) ?_
 refine qI rfl (zL (vs := [(vJ (z - 1)), (vJ ((flip1 s : Nat) : Int))]) Tryz.func75 nm75 rfl rfl rfl ?_)
 refine Calls.mono (ih (z := z - 1) (s := flip1 s) bm.pins (by omega) (flip_le hs) (by omega)) ?_
 rintro _ f0 ⟨el, em, rfl, en, ak⟩
 refine ⟨_, rfl, ?_⟩
 have al := bm.tr ak
 have bn := ek.ext ak
 have bo := ei.ext ak
 refine qI rfl (xR (E := (eSl eNode)) (e := 32) [el] (formG (upG (z - 1).toNat (flip1 s))) Tryz.underlying79 sz32 zr32 ⟨_, rfl, en⟩ rfl (by decide) al.pins (fun r eo ep eq am bp => ?_))
 have er := al.step eq am
 have es := bn.below am
 have et := bo.below am
 have eu : Apart r.ownBlock q.ownBlock := zH bp bn.lt
 have ev : Apart r.ownBlock (some b) := zI bp bo.lt
 have ew : Own (eSl eNode) 32 em eo w.heap.size r ([formG (upG (z - 1).toNat (flip1 s))]) := ep.weaken al.size
 obtain ⟨f1, ex, ey, ez, bq⟩ := es.sealed er
 have e0 := ew.moreO ex bq eu
 have e1 := et.moreO bq ej.symm
 obtain ⟨f2, e2, br, e3, e4⟩ := e0.sealed ey
 have e5 := e1.moreO e4 ev.symm
 refine qI rfl (zL (vs := [q, r]) Tryz.func63 nm63 rfl rfl rfl ?_)
 refine Calls.mono (l3Make_spec br.pins (ez.mono e2) e3 zF_w (up_form _ _ (by omega) (flip_le hs)).w) ?_
 rintro _ f3 ⟨x, f4, rfl, bs, bt⟩
 refine ⟨_, rfl, ?_⟩
 have bu := br.tr bt
 have e6 := e5.ext bt
 refine q0 rfl rfl rfl (xA (cs' := [x]) (us := [x]) (v := (.agg [x].toArray)) sz32 rfl rfl rfl (yF bs.one) bu.pins e6 (Nat.le_of_ble_eq_true rfl) rfl (fun f5 e7 e8 e9 f6 => ?_))
 have fa := bu.write e8 e9 ((yN d))
 refine qe (zA ?_)
 refine wp_ret ?_
 refine zU ?_
 refine c_retc (cs := [x]) rfl rfl rfl ag32 sz32 (fun j u hj => by rw [Nat.zero_add]; exact e7.cell hj) ?_
 exact ⟨_, _, rfl, (by rw [← upM_succ (by omega) hs (by omega)]; exact bs), fa⟩

theorem upq_all : ∀ m, UpqP m
 | 0 => fun _ _ _ h => absurd h (Nat.not_lt_zero _)
 | m + 1 => fun hP hz hs hm => l8Ups_step hP hz hs (upq_all m) hm
theorem l8UpsP_spec {w : World} {G : Pin} {z : Int} {s : Nat} (hP : Pins G w) (hz : 0 ≤ z ∧ z ≤ 12) (hs : s ≤ 15) :
  Calls Tryz.prog 75 [(.int .i64 z), (.int .i64 (s : Int))].toArray w fun e w' => ∃ (u : Value) (G' : Pin), e = .returned (.agg [u].toArray) ∧ RSl eNode G' u (formG (upG z.toNat s)) ∧ Ext noS G w G' w' :=
 upq_all _ hP hz hs (Nat.lt_succ_self _)

theorem l8UpsN_spec {w : World} {G : Pin} {z : Int} {s : Nat} (hP : Pins G w) (hz : -12 ≤ z ∧ z ≤ 12) (hs : s ≤ 15) (hn : z < 0) :
  Calls Tryz.prog 75 [(.int .i64 z), (.int .i64 (s : Int))].toArray w fun e w' => ∃ (u : Value) (G' : Pin), e = .returned (.agg [u].toArray) ∧ RSl eNode G' u (formG (upI z s)) ∧ Ext noS G w G' w' := by
 refine zX (n := 40) Tryz.func75 Tryz.ntmps75 rfl rfl ?_
 have b : Ext noS G w G w := Ext.refl hP
 have hok := up_ok (n := (-z).toNat) (s := s) (by omega) hs
 refine zB (zC ?_)
 refine qI rfl (xE [(.slice none 0 0)] zr32 rfl b.pins (fun k w2 ag l m o => ?_))
 have c := b.step m o
 have q : w.heap.size ≤ k := by have := b.size; omega
 refine qe (zA (zB ?_))
 refine zZ ?_
 refine zB (zC ?_)
 refine qM (.int .i64 z) ?_
 refine qD rfl (yM rfl rfl) ?_
 refine qM (.bool (decide ((z : Int) < 0))) ?_
 refine qe (zA ?_)
 refine yD (p := (z : Int) < 0) rfl rfl (fun r => ?_) (fun r => ?_)
 ·skip
  refine zB (zC ?_)
  refine qM (.int .i64 z) ?_
  refine qD rfl (r_neg rfl (by omega)) ?_
  refine qM (.int .i64 (s : Int)) ?_
  refine qI rfl (zL (vs := [(.int .i64 (-z)), (.int .i64 (s : Int))]) Tryz.func75 nm75 rfl rfl rfl ?_)
  refine Calls.mono (l8UpsP_spec (z := -z) (s := s) c.pins (by omega) hs) ?_
  rintro _ ah ⟨t, ai, rfl, x, d⟩
  refine ⟨_, rfl, ?_⟩
  have f := c.tr d
  have y := l.ext d
  refine qI rfl (zL (vs := [(.agg [t].toArray)]) Tryz.func81 nm81 rfl rfl rfl ?_)
  refine Calls.mono (l5Neg_spec f.pins x hok.1 (by omega)) ?_
  rintro _ aj ⟨a, ak, rfl, g, h⟩
  refine ⟨_, rfl, ?_⟩
  have i := f.tr h
  have aa := y.ext h
  refine q0 rfl rfl rfl (xA (cs' := [a]) (us := [a]) (v := (.agg [a].toArray)) sz32 rfl rfl rfl (yF g.one) i.pins aa (Nat.le_of_ble_eq_true rfl) rfl (fun al ab ac ad am => ?_))
  have ae := i.write ac ad ((yN q))
  refine qe (zA ?_)
  refine wp_ret ?_
  refine zU ?_
  refine c_retc (cs := [a]) rfl rfl rfl ag32 sz32 (fun j u hj => by rw [Nat.zero_add]; exact ab.cell hj) ?_
  exact ⟨_, _, rfl, (by rw [upI_neg (by omega)]; have hr := g; rwa [up_neg (by omega) hs] at hr), ae⟩
 exfalso; omega

theorem l8Ups_spec {w : World} {G : Pin} {n s : Int} (hP : Pins G w) (hn : -12 ≤ n ∧ n ≤ 12) (hs : 0 ≤ s ∧ s ≤ 15) :
  Calls Tryz.prog 75 [(.int .i64 n), (.int .i64 s)].toArray w fun e w' => ∃ (u : Value) (G' : Pin), e = .returned (.agg [u].toArray) ∧ RSl eNode G' u (formG (upI n s.toNat)) ∧ Ext noS G w G' w' := by
 obtain ⟨k, rfl⟩ : ∃ k : Nat, s = (k : Int) := ⟨s.toNat, by omega⟩
 simp only [Int.toNat_natCast]
 by_cases hn0 : n < 0
 ·exact l8UpsN_spec hP hn (by omega) hn0
 ·refine (l8UpsP_spec hP (by omega) (by omega)).mono ?_
  rintro e w' ⟨u, G', h1, h2, h3⟩
  exact ⟨u, G', h1, by rw [upI_pos hn0]; exact h2, h3⟩

end UP3
end Go.Proofs.YtfnginkcmcfdfaaGreatDoor

set_option maxRecDepth 20000
set_option maxHeartbeats 2000000
namespace Go.Proofs.YtfnginkcmcfdfaaGreatDoor
namespace UP4
open Go.RowKit Go.GL Go.Proofs
open Go.Proofs.YtfnginkcmcfdfaaGreatDoor.B1
open Go.Proofs.YtfnginkcmcfdfaaGreatDoor.C1
open Go.Proofs.YtfnginkcmcfdfaaGreatDoor.D1
open Go.Proofs.YtfnginkcmcfdfaaGreatDoor.E1
open Go.Proofs.YtfnginkcmcfdfaaGreatDoor.K1
open Go.Proofs.YtfnginkcmcfdfaaGreatDoor.PO1
open Go.Proofs.YtfnginkcmcfdfaaGreatDoor.PL1
open Go.Proofs.YtfnginkcmcfdfaaGreatDoor.PA1
open Go.Proofs.YtfnginkcmcfdfaaGreatDoor.SO1
open Go.Proofs.YtfnginkcmcfdfaaGreatDoor.OD1
open Go.Proofs.YtfnginkcmcfdfaaGreatDoor.FO1
open Go.Proofs.YtfnginkcmcfdfaaGreatDoor.NG1
open Go.Proofs.YtfnginkcmcfdfaaGreatDoor.NF1
open Go.Proofs.YtfnginkcmcfdfaaGreatDoor.SM1
open Go.Proofs.YtfnginkcmcfdfaaGreatDoor.MK1
open Go.Proofs.YtfnginkcmcfdfaaGreatDoor.TI1
open Go.Proofs.YtfnginkcmcfdfaaGreatDoor.ST3
open Go.Proofs.YtfnginkcmcfdfaaGreatDoor.UP3




theorem pl32 : (Tryz.prog.underlying 32).bind (placesD Tryz.prog) = some [(0, 1)] := by kernel_rfl


theorem sUpsForm_spec {w : World} {G : Pin} {n s : Int} (hP : Pins G w) :
  Calls Tryz.prog 36 [(vJ n), (vJ s)].toArray w fun e w' => ∃ (u : Value) (G' : Pin), e = .returned (.tuple #[(.agg [u].toArray), .bool (uoB n s)]) ∧ RSl eNode G' u (uoF n s) ∧ Ext noS G w G' w' := by
 refine zX (n := 21) Tryz.func36 Tryz.ntmps36 rfl rfl ?_
 have k : Ext noS G w G w := Ext.refl hP
 refine zB (zC ?_)
 refine qI rfl (xE [(.slice none 0 0)] zr32 rfl k.pins (fun y w2 aw l z aa => ?_))
 have a := k.step z aa
 have m : w.heap.size ≤ y := by have := k.size; omega
 refine qM (.bool false) ?_
 refine qe (zA (zB (zB (zC ?_))))
 refine qM (vJ n) ?_
 refine qI rfl (zL (vs := [(vJ n), (vJ (-12)), (vJ 12)]) Tryz.func74 nm74 rfl rfl rfl ?_)
 refine Calls.mono (l1In_spec a.pins) ?_
 rintro _ _ ⟨rfl, rfl⟩
 refine ⟨_, rfl, ?_⟩
 refine qD rfl (r_not rfl) ?_
 refine qM (.bool (!(decide (((-12) : Int) ≤ n ∧ (n : Int) ≤ 12)))) ?_
 refine qbn (t := 9) rfl (fun b => ?_) (fun b => ?_)
 ·skip
  replace b := of_decide_eq_true b
  refine qN (zR (v := (vJ s)) rfl) ?_
  refine q1g rfl rfl rfl rfl rfl rfl (zL (vs := [(vJ s), (vJ 0), (vJ 15)]) Tryz.func74 nm74 rfl rfl rfl ?_)
  refine Calls.mono (l1In_spec a.pins) ?_
  rintro _ _ ⟨rfl, rfl⟩
  refine ⟨_, rfl, ?_⟩
  refine qN (r_not rfl) ?_
  refine qD rfl (xG (v := (.bool (!(decide ((0 : Int) ≤ s ∧ (s : Int) ≤ 15))))) rfl rfl) ?_
  refine qe (zA ?_)
  refine c_ifn rfl rfl (fun c => ?_) (fun c => ?_)
  ·skip
   replace c := of_decide_eq_true c
   refine wp_skip ?_
   refine zA (zB (zC ?_))
   refine qM (vJ n) ?_
   refine qM (vJ s) ?_
   refine qI rfl (zL (vs := [(vJ n), (vJ s)]) Tryz.func75 nm75 rfl rfl rfl ?_)
   refine Calls.mono (l8Ups_spec (n := n) (s := s) a.pins (by omega) (by omega)) ?_
   rintro _ ax ⟨ab, ay, rfl, ac, o⟩
   refine ⟨_, rfl, ?_⟩
   have p := a.tr o
   have ad := l.ext o
   refine qI rfl (zL (vs := [(.agg [ab].toArray)]) Tryz.func57 nm57 rfl rfl rfl ?_)
   refine Calls.mono (l3If_spec p.pins ac) ?_
   rintro _ az ⟨d, a0, rfl, q, r⟩
   refine ⟨_, rfl, ?_⟩
   have x := p.tr r
   have ae := ad.ext r
   refine qD rfl (yX (v := (.agg [d].toArray)) rfl rfl) ?_
   refine qD rfl (yX (v := (.bool (decP (FitsP (formG (upI n s.toNat)))))) rfl rfl) ?_
   refine q0 rfl rfl rfl (xA (cs' := [d]) (us := [d]) (v := (.agg [d].toArray)) sz32 rfl rfl rfl (yF q.one) x.pins ae (Nat.le_of_ble_eq_true rfl) rfl (fun a1 af ag ah a2 => ?_))
   have ai := x.write ag ah ((yN m))
   refine qM (.bool (decP (FitsP (formG (upI n s.toNat))))) ?_
   refine qe (zA ?_)
   refine wp_ret ?_
   refine zU ?_
   refine xY (cs := [d]) (v := (.bool (decP (FitsP (formG (upI n s.toNat)))))) rfl rfl rfl rfl rfl ag32 sz32 (fun j u hj => by rw [Nat.zero_add]; exact af.cell hj) ?_
   obtain ⟨f, i⟩ := uo_yes (n := n) (s := s) ⟨by omega, by omega⟩
   rw [f, i]
   exact ⟨_, _, rfl, q, ai⟩
  replace c := of_decide_eq_false c
  refine zB (zC ?_)
  refine qD rfl (xB [(.slice none 0 0)] [(.slice none 0 0)] [] Tryz.underlying32 zr32 rfl pl32 rfl (fun _ h => by cases h) rfl) ?_
  refine q0 rfl rfl rfl (xA (cs' := [(.slice none 0 0)]) (us := [(.slice none 0 0)]) (v := (.agg [(.slice none 0 0)].toArray)) sz32 rfl rfl rfl (yF (by rfl)) a.pins l (Nat.le_of_ble_eq_true rfl) rfl (fun a3 aj ak al a4 => ?_))
  have am := a.write ak al ((yN m))
  refine qM (.bool false) ?_
  refine qe (zA ?_)
  refine wp_ret ?_
  refine zU ?_
  refine xY (cs := [(.slice none 0 0)]) (v := (.bool false)) rfl rfl rfl rfl rfl ag32 sz32 (fun j u hj => by rw [Nat.zero_add]; exact aj.cell hj) ?_
  obtain ⟨f, i⟩ := uo_no (n := n) (s := s) (fun g => by have h1 := g.1; have h2 := g.2; omega)
  rw [f, i]
  exact ⟨_, _, rfl, (qC _ _), am⟩
 replace b := of_decide_eq_false b
 refine qW ?_
 refine qW ?_
 refine qW ?_
 refine qD rfl (xJ (v := (.bool true)) rfl rfl) ?_
 refine qe (zA ?_)
 refine c_ifT rfl rfl ?_
 refine zB (zC ?_)
 refine qD rfl (xB [(.slice none 0 0)] [(.slice none 0 0)] [] Tryz.underlying32 zr32 rfl pl32 rfl (fun _ h => by cases h) rfl) ?_
 refine q0 rfl rfl rfl (xA (cs' := [(.slice none 0 0)]) (us := [(.slice none 0 0)]) (v := (.agg [(.slice none 0 0)].toArray)) sz32 rfl rfl rfl (yF (by rfl)) a.pins l (Nat.le_of_ble_eq_true rfl) rfl (fun a5 ap aq ar a6 => ?_))
 have au := a.write aq ar ((yN m))
 refine qM (.bool false) ?_
 refine qe (zA ?_)
 refine wp_ret ?_
 refine zU ?_
 refine xY (cs := [(.slice none 0 0)]) (v := (.bool false)) rfl rfl rfl rfl rfl ag32 sz32 (fun j u hj => by rw [Nat.zero_add]; exact ap.cell hj) ?_
 obtain ⟨f, i⟩ := uo_no (n := n) (s := s) (fun g => by have h1 := g.1; have h2 := g.2; omega)
 rw [f, i]
 exact ⟨_, _, rfl, (qC _ _), au⟩

end UP4
end Go.Proofs.YtfnginkcmcfdfaaGreatDoor
