/- Texts of this claim in one file: ST1, UP1, UP2, UP5, LUP. -/
import Derived.Test.YtfnginkcmcfdfaaGreatDoorUs5
import Derived.Test.YtfnginkcmcfdfaaGreatDoorChecked
set_option maxRecDepth 20000
set_option maxHeartbeats 2000000
namespace Go.Proofs.YtfnginkcmcfdfaaGreatDoor
namespace ST1
open Go.RowKit Go.GL Go.Proofs
open Go.Proofs.YtfnginkcmcfdfaaGreatDoor.B1
open Go.Proofs.YtfnginkcmcfdfaaGreatDoor.K1
open Go.Proofs.YtfnginkcmcfdfaaGreatDoor.PO1







theorem mk5 : (Tryz.prog.info? 5).map (fun i => (i.size, i.bytes, i.zero)) = some (1, 1, some (.int .u8 0)) := by kernel_rfl













theorem distinctO_spec {w : World} {G : Pin} {base : Nat} {v : Value} {xs : List Int} (hP : Pins G w) (hv : Own eInt 3 G w base v xs) (hs : xs.length ≤ 1048576) :
  Calls Tryz.prog 129 [v].toArray w fun e w' => ∃ (u : Value) (G' : Pin), e = .returned u ∧ Own eInt 3 G' w' w.heap.size u (sortL xs) ∧ Ext noS G w G' w' := by
 have hP2 := Gadd.pins hP v
 refine (distinct_spec hP2 hv.read hs).mono ?_
 rintro e w' ⟨u, G', rfl, ho, hx⟩
 exact ⟨u, G, rfl, ho.anti flat_int (Pin.le_trans (Gadd.le _ _ _) hx.le), deep_back hP hx⟩

theorem nodeL_spec {w : World} {G : Pin} {p : Nat} {L R B : Value} {mm : PM} {q : PSt} (hP : Pins G w) (hpk : Pk 65 3 G w p L R B mm q) (hok : PoolOk q) {x : Value} {xs ys : List Int} (hx : Own eInt 3 G w 0 x xs) (_ : NP p L R B mm x.ownBlock) (hxy : xs = ys) (hlim : q.ns.length + 1 ≤ 1048576) (hls : xs.length ≤ 1048576 ∧ ys.length ≤ 1048576) (hk1 : ∀ i, i < xs.length → 0 ≤ xs.getD i 0 ∧ xs.getD i 0 < q.ns.length) (hk2 : ∀ i, i < ys.length → 0 ≤ ys.getD i 0 ∧ ys.getD i 0 < q.ns.length) :
  Calls Tryz.prog 79 [(.pointer (some ⟨p, 0, none⟩)), x, x].toArray w fun e w' => ∃ (z : Int) (L' R' B' : Value) (q' : PSt) (G' : Pin), e = .returned (vJ z) ∧ Pk 65 3 G' w' p L' R' B' mm q' ∧ PoolOk q' ∧ PX q q' ∧ PLo w p L R B mm L' R' B' ∧ Ext (inP p L R B mm) G w G' w' ∧ PlaceOk q' z ∧ pd q' z = mkG (xs.map (pd q)) (ys.map (pd q)) ∧ q'.ns.length ≤ q.ns.length + 1 ∧ (q'.cm = q.cm ∧ (q'.ns.length = q.ns.length ∨ z = q.ns.length)) := by
 refine zX (n := 130) Tryz.func79 Tryz.ntmps79 rfl rfl ?_
 have cn : Ext (inP p L R B mm) G w G w := Ext.refl hP
 have hpin : PIn w (inP p L R B mm) p L R B mm := PIn.self
 have l3 : (q.ns.map Nd.l).length = q.ns.length ∧ (q.ns.map Nd.r).length = q.ns.length := ⟨List.length_map .., List.length_map ..⟩
 have l4 : q.bs.length = q.ns.length ∧ q.ns.length ≤ 1048576 := ⟨hok.ar.ok.len, hok.ar.ok.lim⟩
 obtain ⟨d, ap⟩ : ∃ l, l = sortL xs := ⟨_, rfl⟩
 obtain ⟨g, aq⟩ : ∃ l, l = sortL ys := ⟨_, rfl⟩
 have bz := sort_bounds hk1
 have co := sort_bounds hk2
 rw [← ap] at bz
 rw [← aq] at co
 have l5 : d.length ≤ 1048576 := by rw [ap]; exact Nat.le_trans xT hls.1
 have l6 : g.length ≤ 1048576 := by rw [aq]; exact Nat.le_trans xT hls.2
 refine zB (zC ?_)
 refine qM (vJ 0) ?_
 refine qe (zA (zB (zC ?_)))
 refine qM x ?_
 refine qI rfl (zL (vs := [x]) Tryz.func129 nm129 rfl rfl rfl ?_)
 refine Calls.mono (distinctO_spec cn.pins hx (by omega)) ?_
 rintro _ w5 ⟨y, G4, rfl, cp, cq⟩
 refine ⟨_, rfl, ?_⟩
 rw [← ap] at cp
 have cr := cn.tr cq
 have dl := hx.ext cq
 have dm := hpk.ext cq
 have b0 := hpk.new (x := y.ownBlock) (fun k hk => (cp.lt k hk).1)
 have dn : Own eInt 3 G4 w5 w.heap.size y d := cp.weaken cn.size
 refine qM x ?_
 refine qI rfl (zL (vs := [x]) Tryz.func129 nm129 rfl rfl rfl ?_)
 refine Calls.mono (distinctO_spec cr.pins dl (by omega)) ?_
 rintro _ g3 ⟨t, b1, rfl, b2, b3⟩
 refine ⟨_, rfl, ?_⟩
 rw [hxy, ← aq] at b2
 have cs := cr.tr b3
 have dp := dl.ext b3
 have ct := dn.ext b3
 have dq := dm.ext b3
 have g4 := zM b2.lt dn.lt
 have a2 := dm.new (x := t.ownBlock) (fun k hk => (b2.lt k hk).1)
 have cu : Own eInt 3 b1 g3 w.heap.size t g := b2.weaken cr.size
 refine qM y ?_
 refine qM t ?_
 refine qe (zA (zB (zC ?_)))
 refine qM y ?_
 refine qD rfl (zP Tryz.underlying65 (v := y) rfl ct.read) ?_
 refine qM t ?_
 refine qD rfl (zP Tryz.underlying65 (v := t) rfl cu.read) ?_
 refine qD rfl (yL rfl rfl (by omega)) ?_
 refine qD rfl (r_mul rfl rfl (by omega)) ?_
 refine qD rfl (yL rfl rfl (by omega)) ?_
 refine qI rfl (o_make0 (E := eByte) Tryz.underlying132 mk5 rfl rfl cs.pins (by omega) (by omega) (by omega) (fun aw g5 g6 dr be b4 => ?_))
 have g7 := cs.step dr be
 have g8 := dp.below be
 have ds := ct.below be
 have g9 := cu.below be
 have ha := dq.below be dr
 have hc : Apart aw.ownBlock x.ownBlock := zH b4 dp.lt
 have hd : Apart aw.ownBlock y.ownBlock := zH b4 ct.lt
 have he : Apart aw.ownBlock t.ownBlock := zH b4 cu.lt
 have hf := dq.new (x := aw.ownBlock) (fun k hk => by rw [b4] at hk; cases hk; exact Nat.le_refl _)
 have hg : Own eByte 5 b1 g5 w.heap.size aw ([]) := g6.weaken cs.size
 refine qM aw ?_
 refine qe (zA (zB (zC ?_)))
 refine qM (vJ 0) ?_
 refine qe (zA (zB (zB (zC ?_))))
 refine qM y ?_
 refine qD rfl (zP Tryz.underlying65 (v := y) rfl ds.read) ?_
 refine qM (vJ 0) ?_
 refine qe (zA ?_)
 refine zZ ?_
 refine yO (fun (k : Nat) (en : Nat → Value) (W : World) => ∃ (bf : Nat → Value) (i : Nat) (kva : Value) (kxa : List UInt8) (bn : Int) (GLa : Pin), en = (upd (upd (upd (upd (upd (upd (upd (upd (upd bf 0 (.pointer (some ⟨p, 0, none⟩))) 1 y) 2 t) 6 (vJ 0)) 7 kva) 8 (vJ bn)) 28 y) 29 (vJ (d.length : Int))) 30 (vJ (i : Int))) ∧ k = d.length - i ∧ Ext (inP p L R B mm) G w GLa W ∧ Pin.le b1 GLa ∧ (i ≤ d.length) ∧ (kxa = keyL (d.take i)) ∧ (bn = bornOf q.bs (d.take i) 0) ∧ (0 ≤ bn ∧ bn ≤ q.ns.length) ∧ (Own eByte 5 GLa W w.heap.size kva (kxa)) ∧ (Own eInt 3 GLa W 0 x (xs)) ∧ (Own eInt 3 GLa W w.heap.size y (d)) ∧ (Own eInt 3 GLa W w.heap.size t (g)) ∧ (Apart kva.ownBlock x.ownBlock) ∧ (Apart kva.ownBlock y.ownBlock) ∧ (Apart kva.ownBlock t.ownBlock) ∧ (Pk 65 3 GLa W p L R B mm q) ∧ (NP p L R B mm kva.ownBlock)) _ ⟨_, 0, aw, [], 0, b1, (pS 30 (pS 29 (pS 28 (pS 8 (pS 7 (pS 6 (pS 2 (pS 1 (pU 0))))))))), rfl, g7, Pin.le_refl _, Nat.zero_le _, (by simp [keyL]), rfl, (by omega), hg, g8, ds, g9, hc, hd, he, ha, hf⟩ ?_
 rintro l7 _ l8 ⟨bf, i, kva, kxa, bn, GLa, rfl, l9, ax, hh, hji, hka, hbbn, hlbn, b5, cv, bg, cw, b6, b7, b8, cx, b9⟩
 have hkla : kxa.length ≤ 117440640 := by
  have := key_bound (j := i) bz hok.ar.ok.lim
  rw [hka]; omega
 refine zB (zC ?_)
 refine qD rfl (yM rfl rfl) ?_
 refine qe (zA (zB ?_))
 refine yD (p := ((i : Int) : Int) < (d.length : Int)) rfl rfl (fun hj => ?_) (fun hj => ?_)
 ·skip
  have hki := bz i (by omega)
  have hbk := hok.ar.ok.born (d.getD i 0).toNat (by omega)
  have hm := dig13 (n := (d.getD i 0).toNat) (by omega)
  refine wp_skip ?_
  refine zA (zB ?_)
  refine zZ ?_
  refine zB (zC ?_)
  refine qD rfl (zN Tryz.underlying65 sz3 (v := y) rfl rfl bg.read (by omega) (by omega)) ?_
  refine qD rfl (zK (r := d.getD i 0) rfl ag3 (z := (i : Int)) rfl bg.read (Gadd.pins ax.pins y) (by omega) (by omega)) ?_
  refine qM (vJ (d.getD i 0)) ?_
  refine qe (zA (zB (zC ?_)))
  refine qM kva ?_
  refine qM (vJ (d.getD i 0)) ?_
  refine qI rfl (zL (vs := [kva, (vJ (d.getD i 0)), (vJ 36)]) Tryz.func130 nm130 rfl rfl rfl ?_)
  refine Calls.mono (appendInt_spec (i := d.getD i 0) ax.pins (b5.weaken (Nat.zero_le _)) (by omega) (by omega)) ?_
  rintro _ ma ⟨ca, dt, rfl, hn, bh, a3⟩
  refine ⟨_, rfl, ?_⟩
  have du := np_turn b9 cx bh
  have cy := ax.trans a3 (fun i hi => (zY b5) i hi)
  have ho := cv.extS a3 (notO b6.symm)
  have hq := bg.extS a3 (notO b7.symm)
  have hs := cw.extS a3 (notO b8.symm)
  have ht := cx.extS a3 (fun k hk hx => b9 k hx hk)
  have dv : Apart x.ownBlock ca.ownBlock := ap_turn bh b6.symm (xH cv)
  have dw : Apart y.ownBlock ca.ownBlock := ap_turn bh b7.symm (xH bg)
  have dx : Apart t.ownBlock ca.ownBlock := ap_turn bh b8.symm (xH cw)
  have hu := hn.up (lo := w.heap.size) (fun k hk => (bh k hk).elim (fun h => Nat.le_trans ax.size h) (fun h => (b5.lt k h).1))
  have mb : (kxa ++ dig36 (d.getD i 0).toNat).length = kxa.length + (dig36 (d.getD i 0).toNat).length := List.length_append
  refine qI rfl (yE (E := eByte) (e := 5) [(.int .u8 44)] [44] Tryz.underlying132 sz5 zr5 (by exact xF (by rfl)) (yF (by rfl)) rfl rfl rfl rfl (by decide) cy.pins (fun dy hv hw dz a4 mc => ?_))
  have cz := cy.step dz a4
  have d0 := ho.below a4
  have d1 := hq.below a4
  have d2 := hs.below a4
  have d3 := hu.below a4
  have d4 := ht.below a4 dz
  have hy : Own eByte 5 dt hv w.heap.size dy ([44]) := hw.weaken cy.size
  refine qI rfl (oA (E := eByte) (v := ca) (u := dy) 1 Tryz.underlying132 ap5 (by decide) rfl rfl cz.pins d3 hy.src (cz.size) (fun bi md h0 d5 bj cb => ?_))
  have d6 := cz.write d5 bj ((zY d3))
  have h1 := d0.keptA bj dv
  have h3 := d1.keptA bj dw
  have h4 := d2.keptA bj dx
  have cc := d4.kept bj d5 du
  have h5 : Apart x.ownBlock bi.ownBlock := zD dv cb d0.lt
  have h6 : Apart y.ownBlock bi.ownBlock := zD dw cb d1.lt
  have h7 : Apart t.ownBlock bi.ownBlock := zD dx cb d2.lt
  have h8 := np_app du d4 cb
  have me : ((kxa ++ dig36 (d.getD i 0).toNat) ++ ([44])).length = (kxa ++ dig36 (d.getD i 0).toNat).length + 1 := List.length_append
  refine qM bi ?_
  refine qe (zA (zC ?_))
  refine qM (vJ bn) ?_
  refine qM (.pointer (some ⟨p, 0, none⟩)) ?_
  refine qD rfl (yU rfl) ?_
  refine qD rfl (zQ (k := 2) rfl Tryz.underlying72 rfl nz65 rfl) ?_
  refine qD rfl (zS (u := B) ag65 rfl (cc.bx.cell (o := 2) rfl)) ?_
  refine qM (vJ (d.getD i 0)) ?_
  refine qD rfl (zN Tryz.underlying65 sz3 (v := B) rfl rfl cc.ob.read (by omega) (by omega)) ?_
  refine qD rfl (zK (r := q.bs.getD (d.getD i 0).toNat 0) rfl ag3 (z := (d.getD i 0)) rfl cc.ob.read (Gadd.pins d6.pins B) (by omega) (by omega)) ?_
  refine qD rfl (yL rfl rfl (by omega)) ?_
  refine qD rfl (r_max rfl rfl) ?_
  refine qM (vJ (max bn ((q.bs.getD (d.getD i 0).toNat 0) + 1))) ?_
  refine qe ?_
  refine yG ?_
  refine zA (zC ?_)
  refine qD rfl (yL rfl rfl (by omega)) ?_
  refine qM (vJ ((i : Int) + 1)) ?_
  refine qe ?_
  refine yH ?_
  refine ⟨_, ?_, _, rfl, _, i + 1, bi, (kxa ++ dig36 (d.getD i 0).toNat) ++ ([44]), max bn ((q.bs.getD (d.getD i 0).toNat 0) + 1), dt, (pS 30 (pS 29 (pS 28 (pS 8 (pS 7 (pS 6 (pS 2 (pS 1 (pU 0))))))))), rfl, d6, (Pin.le_trans hh a3.le), (by omega), (by rw [key_next (by omega), hka]), (by rw [hbbn, born_next (by omega)]), (by omega), h0, h1, h3, h4, h5.symm, h6.symm, h7.symm, cc, h8⟩
  omega
 refine wp_exit ?_
 refine yC ?_
 refine yK ?_
 refine yI ?_
 refine zA (zB (zC ?_))
 refine qM kva ?_
 refine qI rfl (yE (E := eByte) (e := 5) [(.int .u8 124)] [124] Tryz.underlying132 sz5 zr5 (by exact xF (by rfl)) (yF (by rfl)) rfl rfl rfl rfl (by decide) ax.pins (fun d7 h9 ia d8 a5 mf => ?_))
 have c0 := ax.step d8 a5
 have d9 := b5.below a5
 have ea := cv.below a5
 have eb := bg.below a5
 have ec := cw.below a5
 have ed := cx.below a5 d8
 have ib : Own eByte 5 GLa h9 w.heap.size d7 ([124]) := ia.weaken ax.size
 refine qI rfl (oA (E := eByte) (v := kva) (u := d7) 1 Tryz.underlying132 ap5 (by decide) rfl rfl c0.pins d9 ib.src (c0.size) (fun bk mg ic ee bl cd => ?_))
 have ie := c0.write ee bl ((zY d9))
 have ig := ea.keptA bl b6.symm
 have ih := eb.keptA bl b7.symm
 have eg := ec.keptA bl b8.symm
 have ii := ed.kept bl ee b9
 have ij : Apart x.ownBlock bk.ownBlock := zD b6.symm cd ea.lt
 have ik : Apart y.ownBlock bk.ownBlock := zD b7.symm cd eb.lt
 have il : Apart t.ownBlock bk.ownBlock := zD b8.symm cd ec.lt
 have im := np_app b9 ed cd
 have mh : (kxa ++ ([124])).length = kxa.length + 1 := List.length_append
 refine qM bk ?_
 refine qe (zA (zB (zB (zC ?_))))
 rw [xU (by omega)] at hka hbbn
 have hkk : keyL d ++ [124] = kxa ++ [124] := by rw [hka]
 refine qM t ?_
 refine qD rfl (zP Tryz.underlying65 (v := t) rfl eg.read) ?_
 refine qM (vJ 0) ?_
 refine qe (zA ?_)
 refine zZ ?_
 refine yO (fun (k : Nat) (en : Nat → Value) (W : World) => ∃ (bf : Nat → Value) (m : Nat) (kvb : Value) (kxb : List UInt8) (bm : Int) (GLb : Pin), en = (upd (upd (upd (upd (upd (upd (upd (upd (upd bf 0 (.pointer (some ⟨p, 0, none⟩))) 1 y) 2 t) 6 (vJ 0)) 7 kvb) 8 (vJ bm)) 53 t) 54 (vJ (g.length : Int))) 55 (vJ (m : Int))) ∧ k = g.length - m ∧ Ext (inP p L R B mm) G w GLb W ∧ Pin.le GLa GLb ∧ (m ≤ g.length) ∧ (kxb = keyL d ++ [124] ++ keyL (g.take m)) ∧ (bm = bornOf q.bs (g.take m) bn) ∧ (0 ≤ bm ∧ bm ≤ q.ns.length) ∧ (Own eByte 5 GLb W w.heap.size kvb (kxb)) ∧ (Own eInt 3 GLb W 0 x (xs)) ∧ (Own eInt 3 GLb W w.heap.size y (d)) ∧ (Own eInt 3 GLb W w.heap.size t (g)) ∧ (Apart kvb.ownBlock x.ownBlock) ∧ (Apart kvb.ownBlock y.ownBlock) ∧ (Apart kvb.ownBlock t.ownBlock) ∧ (Pk 65 3 GLb W p L R B mm q) ∧ (NP p L R B mm kvb.ownBlock)) _ ⟨_, 0, bk, kxa ++ ([124]), bn, GLa, (pS 55 (pS 54 (pS 53 (pS 8 (pS 7 (pS 6 (pS 2 (pS 1 (pU 0))))))))), rfl, ie, Pin.le_refl _, Nat.zero_le _, (by rw [← hkk]; simp [keyL]), rfl, (by omega), ic, ig, ih, eg, ij.symm, ik.symm, il.symm, ii, im⟩ ?_
 rintro mi _ au ⟨bf, m, kvb, kxb, bm, GLb, rfl, mj, ay, io, mk, hkb, hbbm, hlbm, bo, eh, c1, bp, ei, ej, ek, c2, em⟩
 have hklb : kxb.length ≤ 117440640 := by
  have := key_bound (j := m) co hok.ar.ok.lim
  have h2 := key_bound (j := d.length) bz hok.ar.ok.lim; rw [hkb, List.length_append, List.length_append]; simp only [List.length_cons, List.length_nil]; rw [xU (Nat.le_refl _)] at h2; omega
 refine zB (zC ?_)
 refine qD rfl (yM rfl rfl) ?_
 refine qe (zA (zB ?_))
 refine yD (p := ((m : Int) : Int) < (g.length : Int)) rfl rfl (fun iq => ?_) (fun iq => ?_)
 ·skip
  have hki := co m (by omega)
  have hbk := hok.ar.ok.born (g.getD m 0).toNat (by omega)
  have hm := dig13 (n := (g.getD m 0).toNat) (by omega)
  refine wp_skip ?_
  refine zA (zB ?_)
  refine zZ ?_
  refine zB (zC ?_)
  refine qD rfl (zN Tryz.underlying65 sz3 (v := t) rfl rfl bp.read (by omega) (by omega)) ?_
  refine qD rfl (zK (r := g.getD m 0) rfl ag3 (z := (m : Int)) rfl bp.read (Gadd.pins ay.pins t) (by omega) (by omega)) ?_
  refine qM (vJ (g.getD m 0)) ?_
  refine qe (zA (zB (zC ?_)))
  refine qM kvb ?_
  refine qM (vJ (g.getD m 0)) ?_
  refine qI rfl (zL (vs := [kvb, (vJ (g.getD m 0)), (vJ 36)]) Tryz.func130 nm130 rfl rfl rfl ?_)
  refine Calls.mono (appendInt_spec (i := g.getD m 0) ay.pins (bo.weaken (Nat.zero_le _)) (by omega) (by omega)) ?_
  rintro _ ml ⟨ce, eo, rfl, ir, bq, a6⟩
  refine ⟨_, rfl, ?_⟩
  have ep := np_turn em c2 bq
  have c3 := ay.trans a6 (fun i hi => (zY bo) i hi)
  have it := eh.extS a6 (notO ei.symm)
  have iu := c1.extS a6 (notO ej.symm)
  have iv := bp.extS a6 (notO ek.symm)
  have iw := c2.extS a6 (fun k hk hx => em k hx hk)
  have eq : Apart x.ownBlock ce.ownBlock := ap_turn bq ei.symm (xH eh)
  have es : Apart y.ownBlock ce.ownBlock := ap_turn bq ej.symm (xH c1)
  have et : Apart t.ownBlock ce.ownBlock := ap_turn bq ek.symm (xH bp)
  have ix := ir.up (lo := w.heap.size) (fun k hk => (bq k hk).elim (fun h => Nat.le_trans ay.size h) (fun h => (bo.lt k h).1))
  have mn : (kxb ++ dig36 (g.getD m 0).toNat).length = kxb.length + (dig36 (g.getD m 0).toNat).length := List.length_append
  refine qI rfl (yE (E := eByte) (e := 5) [(.int .u8 44)] [44] Tryz.underlying132 sz5 zr5 (by exact xF (by rfl)) (yF (by rfl)) rfl rfl rfl rfl (by decide) c3.pins (fun eu iy iz ev a7 mo => ?_))
  have c4 := c3.step ev a7
  have ew := it.below a7
  have ex := iu.below a7
  have ey := iv.below a7
  have ez := ix.below a7
  have e0 := iw.below a7 ev
  have i0 : Own eByte 5 eo iy w.heap.size eu ([44]) := iz.weaken c3.size
  refine qI rfl (oA (E := eByte) (v := ce) (u := eu) 1 Tryz.underlying132 ap5 (by decide) rfl rfl c4.pins ez i0.src (c4.size) (fun br mp i1 e1 bt cf => ?_))
  have e2 := c4.write e1 bt ((zY ez))
  have i3 := ew.keptA bt eq
  have i4 := ex.keptA bt es
  have i5 := ey.keptA bt et
  have cg := e0.kept bt e1 ep
  have i6 : Apart x.ownBlock br.ownBlock := zD eq cf ew.lt
  have i7 : Apart y.ownBlock br.ownBlock := zD es cf ex.lt
  have i8 : Apart t.ownBlock br.ownBlock := zD et cf ey.lt
  have i9 := np_app ep e0 cf
  have mq : ((kxb ++ dig36 (g.getD m 0).toNat) ++ ([44])).length = (kxb ++ dig36 (g.getD m 0).toNat).length + 1 := List.length_append
  refine qM br ?_
  refine qe (zA (zC ?_))
  refine qM (vJ bm) ?_
  refine qM (.pointer (some ⟨p, 0, none⟩)) ?_
  refine qD rfl (yU rfl) ?_
  refine qD rfl (zQ (k := 2) rfl Tryz.underlying72 rfl nz65 rfl) ?_
  refine qD rfl (zS (u := B) ag65 rfl (cg.bx.cell (o := 2) rfl)) ?_
  refine qM (vJ (g.getD m 0)) ?_
  refine qD rfl (zN Tryz.underlying65 sz3 (v := B) rfl rfl cg.ob.read (by omega) (by omega)) ?_
  refine qD rfl (zK (r := q.bs.getD (g.getD m 0).toNat 0) rfl ag3 (z := (g.getD m 0)) rfl cg.ob.read (Gadd.pins e2.pins B) (by omega) (by omega)) ?_
  refine qD rfl (yL rfl rfl (by omega)) ?_
  refine qD rfl (r_max rfl rfl) ?_
  refine qM (vJ (max bm ((q.bs.getD (g.getD m 0).toNat 0) + 1))) ?_
  refine qe ?_
  refine yG ?_
  refine zA (zC ?_)
  refine qD rfl (yL rfl rfl (by omega)) ?_
  refine qM (vJ ((m : Int) + 1)) ?_
  refine qe ?_
  refine yH ?_
  refine ⟨_, ?_, _, rfl, _, m + 1, br, (kxb ++ dig36 (g.getD m 0).toNat) ++ ([44]), max bm ((q.bs.getD (g.getD m 0).toNat 0) + 1), eo, (pS 55 (pS 54 (pS 53 (pS 8 (pS 7 (pS 6 (pS 2 (pS 1 (pU 0))))))))), rfl, e2, (Pin.le_trans io a6.le), (by omega), (by rw [key_next (by omega), hkb]; simp only [List.append_assoc]), (by rw [hbbm, born_next (by omega)]), (by omega), i1, i3, i4, i5, i6.symm, i7.symm, i8.symm, cg, i9⟩
  omega
 refine wp_exit ?_
 refine yC ?_
 refine yK ?_
 refine yI ?_
 refine zA (zB (zB ?_))
 rw [xU (by omega)] at hkb hbbm
 have hkey : kxb = keyN d g := by rw [hkb]; rfl
 have ja := Gadd.pins ay.pins kvb
 have mr := bo.read
 refine xI (S := fun wz => BxR wz p [L, R, B, (.map (some mm.f)), (.map (some mm.o)), (.map (some mm.c)), (.map (some mm.s)), (.map (some mm.n))] ∧ Pins (Gadd GLb au kvb) wz) (last := 12) (by kernel_rfl) rfl ?_
 have az : Below au.heap.size au au.drew := (Below.refl _ _).drew
 have e3 := ay.pins.below az
 have bu := ay.step e3 az
 have c5 := bo.below az
 have jb := c1.below az
 have jc := bp.below az
 have a := c2.below az e3
 have ac := ja.below az
 refine dT (i := 0) rfl rfl (by kernel_rfl) (fun _ _ => zR (v := (.pointer (some ⟨p, 0, none⟩))) rfl) ⟨a.bx.reads, ac⟩ ?_
 refine dT (i := 1) rfl rfl (by kernel_rfl) (fun _ _ => yU rfl) ⟨a.bx.reads, ac⟩ ?_
 refine dT (i := 2) rfl rfl (by kernel_rfl) (fun _ _ => zQ (k := 3) rfl Tryz.underlying72 rfl nz67 rfl) ⟨a.bx.reads, ac⟩ ?_
 refine dT (i := 3) rfl rfl (by kernel_rfl) (fun _ hS => zS (u := (.map (some mm.f))) ag67 rfl (hS.1 3 _ rfl)) ⟨a.bx.reads, ac⟩ ?_
 refine dT (i := 4) rfl rfl (by kernel_rfl) (fun _ _ => zR (v := kvb) rfl) ⟨a.bx.reads, ac⟩ ?_
 refine dO (i := 5) (zW (i := 5) rfl rfl rfl (zG rfl _) (EO.run (r_b2s Tryz.underlying132 Tryz.underlying5 Tryz.underlying9 rfl c5.read (Gadd.pins bu.pins kvb)) ?_))
 refine ⟨fun _ => ⟨a.bx.reads, ac⟩, ?_⟩
 refine dO (i := 6) (zW (i := 6) rfl rfl rfl (zG rfl _) (EO.run (run_lookv_int (k := (b2s kxb)) (key_str Tryz.underlying9) Tryz.underlying67 zr3 a.ff rfl rfl) ?_))
 refine ⟨fun _ => ⟨a.bx.reads, ac⟩, ?_⟩
 refine dT (i := 7) rfl rfl (by kernel_rfl) (fun _ _ => zR (v := (.tuple #[(vJ ((Go.GL.look q.fl (b2s kxb)).getD 0)), (.bool ((Go.GL.look q.fl (b2s kxb)).isSome))])) rfl) ⟨a.bx.reads, ac⟩ ?_
 refine dT (i := 8) rfl rfl (by kernel_rfl) (fun _ _ => yX (v := (vJ ((Go.GL.look q.fl (b2s kxb)).getD 0))) rfl rfl) ⟨a.bx.reads, ac⟩ ?_
 refine dT (i := 9) rfl rfl (by kernel_rfl) (fun _ _ => yX (v := (.bool ((Go.GL.look q.fl (b2s kxb)).isSome))) rfl rfl) ⟨a.bx.reads, ac⟩ ?_
 refine dT (i := 10) rfl rfl (by kernel_rfl) (fun _ _ => qG (v := (vJ ((Go.GL.look q.fl (b2s kxb)).getD 0))) rfl) ⟨a.bx.reads, ac⟩ ?_
 refine dT (i := 11) rfl rfl (by kernel_rfl) (fun _ _ => qG (v := (.bool ((Go.GL.look q.fl (b2s kxb)).isSome))) rfl) ⟨a.bx.reads, ac⟩ ?_
 refine yT (by kernel_rfl) ?_
 refine zA (zB (zC ?_))
 refine qM (.bool ((Go.GL.look q.fl (b2s kxb)).isSome)) ?_
 refine qe (zA ?_)
 refine c_if rfl rfl (fun c6 => ?_) (fun c6 => ?_)
 ·skip
  refine zB (zC ?_)
  refine qM (vJ ((Go.GL.look q.fl (b2s kxb)).getD 0)) ?_
  refine qM (vJ ((Go.GL.look q.fl (b2s kxb)).getD 0)) ?_
  refine qe (zA ?_)
  refine wp_ret ?_
  refine zU ?_
  refine zT (v := (vJ ((Go.GL.look q.fl (b2s kxb)).getD 0))) rfl rfl rfl ?_
  obtain ⟨z, hz⟩ := Option.isSome_iff_exists.1 c6
  have hlk := hz
  rw [hkey, ap, aq] at hlk
  obtain ⟨f1, f2⟩ := lookF hok hk1 hk2 hlk
  rw [hz]
  exact ⟨z, L, R, B, q, GLb, rfl, a, hok, (PX.refl _), PIn.lo hpin rfl, bu, f1, f2, by omega, rfl, Or.inl rfl⟩
 refine wp_skip ?_
 refine zA (zB (zC ?_))
 refine qM (.pointer (some ⟨p, 0, none⟩)) ?_
 refine qD rfl (yU rfl) ?_
 refine qD rfl (zQ (k := 2) rfl Tryz.underlying72 rfl nz65 rfl) ?_
 refine qD rfl (zS (u := B) ag65 rfl (a.bx.cell (o := 2) rfl)) ?_
 refine qD rfl (zP Tryz.underlying65 (v := B) rfl a.ob.read) ?_
 refine qM (vJ (q.bs.length : Int)) ?_
 refine qe (zA (zB ?_))
 have hnone : Go.GL.look q.fl (b2s kxb) = none := by simpa using c6
 rw [hkey, ap, aq] at hnone
 have hadd := hok.add (b := bm) hlim hls hk1 hk2 hnone (by rw [hbbm, hbbn, ap, aq])
 have jf := Gadd.pins bu.pins kvb
 have ms := c5.read
 refine xI (S := fun wz => BxR wz p [L, R, B, (.map (some mm.f)), (.map (some mm.o)), (.map (some mm.c)), (.map (some mm.s)), (.map (some mm.n))] ∧ Pins (Gadd GLb au.drew kvb) wz) (last := 7) (by kernel_rfl) rfl ?_
 have aa : Below au.drew.heap.size au.drew au.drew.drew := (Below.refl _ _).drew
 have jg := bu.pins.below aa
 have c7 := bu.step jg aa
 have jh := c5.below aa
 have e4 := jb.below aa
 have e5 := jc.below aa
 have e6 := a.ol.below aa
 have e7 := a.rr.below aa
 have e8 := a.ob.below aa
 have ak := a.bx.below aa
 have a0 := a.ff.below aa
 have ji := a.fo.below aa
 have jj := a.fc.below aa
 have jk := a.fs.below aa
 have jl := a.fn.below aa
 have a1 := jf.below aa
 refine dT (i := 0) rfl rfl (by kernel_rfl) (fun _ _ => zR (v := (.pointer (some ⟨p, 0, none⟩))) rfl) ⟨ak.reads, a1⟩ ?_
 refine dT (i := 1) rfl rfl (by kernel_rfl) (fun _ _ => yU rfl) ⟨ak.reads, a1⟩ ?_
 refine dT (i := 2) rfl rfl (by kernel_rfl) (fun _ _ => zQ (k := 3) rfl Tryz.underlying72 rfl nz67 rfl) ⟨ak.reads, a1⟩ ?_
 refine dT (i := 3) rfl rfl (by kernel_rfl) (fun _ hS => zS (u := (.map (some mm.f))) ag67 rfl (hS.1 3 _ rfl)) ⟨ak.reads, a1⟩ ?_
 refine dT (i := 4) rfl rfl (by kernel_rfl) (fun _ _ => zR (v := kvb) rfl) ⟨ak.reads, a1⟩ ?_
 refine dT (i := 6) rfl rfl (by kernel_rfl) (fun _ _ => zR (v := (vJ (q.bs.length : Int))) rfl) ⟨ak.reads, a1⟩ ?_
 refine dO (i := 5) (zW (i := 5) rfl rfl rfl (zG rfl _) (EO.run (r_b2s Tryz.underlying132 Tryz.underlying5 Tryz.underlying9 rfl jh.read (Gadd.pins c7.pins kvb)) ?_))
 refine ⟨fun _ => ⟨ak.reads, a1⟩, ?_⟩
 refine dO (i := 7) (drOp0 (i := 7) rfl rfl rfl (zG rfl _) (qL (val := (fun v : Int => Value.int .i64 v)) (k := (b2s kxb)) (v := (q.bs.length : Int)) (key_str Tryz.underlying9) Tryz.underlying67 rfl rfl rfl c7.pins a0 (fun mt jm jn ad mu => ?_)))
 have jo := c7.write jn ad ((PIn.f hpin))
 have jp := e4.keptA ad (zO a0 e4).symm
 have jq := e5.keptA ad (zO a0 e5).symm
 have jr := e6.keptA ad (zO a0 e6).symm
 have js := e7.keptA ad (zO a0 e7).symm
 have jt := e8.keptA ad (zO a0 e8).symm
 have e9 := ak.keptA ad (yB a0 ak).symm
 have ju := ji.kept ad (qB a.df.fo).symm
 have jv := jj.kept ad (qB a.df.fc).symm
 have jw := jk.kept ad (qB a.df.fs).symm
 have jx := jl.kept ad (qB a.df.fn).symm
 refine ⟨fun h => absurd rfl h, ?_⟩
 refine yT (by kernel_rfl) ?_
 refine zA (zB (zC ?_))
 refine qM (.pointer (some ⟨p, 0, none⟩)) ?_
 refine qM (.pointer (some ⟨p, 0, none⟩)) ?_
 refine qD rfl (yU rfl) ?_
 refine qD rfl (zQ (k := 0) rfl Tryz.underlying72 rfl nz66 rfl) ?_
 refine qD rfl (zS (u := L) ag66 rfl (e9.cell (o := 0) rfl)) ?_
 refine qM y ?_
 obtain ⟨jy, ch, c8, fa, bv⟩ := jp.sealed jo
 have jz := jq.moreO ch bv g4
 have j0 := jr.moreO ch bv (NP.hl b0).symm
 have j1 := js.moreO ch bv (NP.hr b0).symm
 have j2 := jt.moreO ch bv (NP.hb b0).symm
 have j3 := e9.moreO bv (NP.hp b0).symm
 refine qI rfl (yE (E := (eSl eInt)) (e := 65) [y] [d] Tryz.underlying66 sz65 zr65 (by exact xF (⟨_, rfl, fa⟩)) (yF fa.one) rfl rfl rfl rfl (by decide) c8.pins (fun fb j4 j5 j6 ae mv => ?_))
 have c9 := c8.step j6 ae
 have fd := jz.below ae
 have a8 := j0.below ae
 have fe := j1.below ae
 have fg := j2.below ae
 have fh := j3.below ae
 have fi := jm.below ae
 have fj := ju.below ae
 have fk := jv.below ae
 have fm := jw.below ae
 have fp := jx.below ae
 have j7 : Own (eSl eInt) 65 jy j4 w.heap.size fb ([d]) := j5.weaken c8.size
 refine qI rfl (oA (E := (eSl eInt)) (v := L) (u := fb) 24 Tryz.underlying66 ap65 (by decide) rfl rfl c9.pins a8 j7.src (Nat.zero_le _) (fun ab mw da j8 af bw => ?_))
 have fq := c9.write j8 af ((PIn.ll hpin))
 have j9 := fd.keptA af (NP.hl a2)
 have ka := fe.keptA af a.alr.symm
 have kb := fg.keptA af a.alb.symm
 have a9 := fh.keptA af a.apl
 have fr := fi.kept af (zO fi a8)
 have ft := fj.kept af (zO fj a8)
 have fu := fk.kept af (zO fk a8)
 have fv := fm.kept af (zO fm a8)
 have fw := fp.kept af (zO fp a8)
 have kc : Apart t.ownBlock ab.ownBlock := zD (NP.hl a2) bw fd.lt
 have fx : Apart R.ownBlock ab.ownBlock := zD a.alr.symm bw fe.lt
 have fy : Apart B.ownBlock ab.ownBlock := zD a.alb.symm bw fg.lt
 have ci : Apart (some p) ab.ownBlock := zJ a.apl bw fh.lt
 have kd : Lo w (inP p L R B mm) ab.ownBlock := lo_app (PIn.ll hpin) bw c9.size
 have mx : ((q.ns.map Nd.l) ++ ([d])).length = (q.ns.map Nd.l).length + 1 := List.length_append
 refine qD rfl (yU rfl) ?_
 refine qD rfl (zQ (k := 0) rfl Tryz.underlying72 rfl nz66 rfl) ?_
 refine q0 rfl rfl rfl (xA (cs' := [ab, R, B, (.map (some mm.f)), (.map (some mm.o)), (.map (some mm.c)), (.map (some mm.s)), (.map (some mm.n))]) (us := [ab]) (v := ab) sz66 rfl rfl (cells1 da.one) (yF da.one) fq.pins a9 (Nat.le_of_ble_eq_true rfl) rfl (fun my fz ke ag mz => ?_))
 have kf := fq.write ke ag ((PIn.lp hpin))
 have kg := j9.keptA ag (NP.hp a2)
 have kh := ka.keptA ag a.apr.symm
 have ki := kb.keptA ag a.apb.symm
 have kj := da.keptA ag ci.symm
 have kk := fr.kept ag (yB fr a9)
 have kl := ft.kept ag (yB ft a9)
 have km := fu.kept ag (yB fu a9)
 have kn := fv.kept ag (yB fv a9)
 have ko := fw.kept ag (yB fw a9)
 refine qe (zA (zB (zC ?_)))
 refine qM (.pointer (some ⟨p, 0, none⟩)) ?_
 refine qM (.pointer (some ⟨p, 0, none⟩)) ?_
 refine qD rfl (yU rfl) ?_
 refine qD rfl (zQ (k := 1) rfl Tryz.underlying72 rfl nz66 rfl) ?_
 refine qD rfl (zS (u := R) ag66 rfl (fz.cell (o := 1) rfl)) ?_
 refine qM t ?_
 obtain ⟨db, dc, dd, f0, cj⟩ := kg.sealed kf
 have kp := kh.moreO dc cj (NP.hr a2).symm
 have kq := ki.moreO dc cj (NP.hb a2).symm
 have kr := kj.moreO dc cj kc.symm
 have ks := fz.moreO cj (NP.hp a2).symm
 refine qI rfl (yE (E := (eSl eInt)) (e := 65) [t] [g] Tryz.underlying66 sz65 zr65 (by exact xF (⟨_, rfl, f0⟩)) (yF f0.one) rfl rfl rfl rfl (by decide) dd.pins (fun f3 kt ku kv ah m0 => ?_))
 have de := dd.step kv ah
 have ba := kp.below ah
 have f4 := kq.below ah
 have f5 := kr.below ah
 have f6 := ks.below ah
 have f7 := kk.below ah
 have f8 := kl.below ah
 have f9 := km.below ah
 have ga := kn.below ah
 have gb := ko.below ah
 have kw : Own (eSl eInt) 65 db kt w.heap.size f3 ([g]) := ku.weaken dd.size
 refine qI rfl (oA (E := (eSl eInt)) (v := R) (u := f3) 24 Tryz.underlying66 ap65 (by decide) rfl rfl de.pins ba kw.src (Nat.zero_le _) (fun ai m1 dg kx al ck => ?_))
 have gc := de.write kx al ((PIn.lr hpin))
 have ky := f4.keptA al a.arb.symm
 have kz := f5.keptA al fx.symm
 have bb := f6.keptA al a.apr
 have gd := f7.kept al (zO f7 ba)
 have ge := f8.kept al (zO f8 ba)
 have gf := f9.kept al (zO f9 ba)
 have gg := ga.kept al (zO ga ba)
 have gh := gb.kept al (zO gb ba)
 have gi : Apart B.ownBlock ai.ownBlock := zD a.arb.symm ck f4.lt
 have k0 : Apart ab.ownBlock ai.ownBlock := zD fx.symm ck f5.lt
 have dh : Apart (some p) ai.ownBlock := zJ a.apr ck f6.lt
 have k1 : Lo w (inP p L R B mm) ai.ownBlock := lo_app (PIn.lr hpin) ck de.size
 have m2 : ((q.ns.map Nd.r) ++ ([g])).length = (q.ns.map Nd.r).length + 1 := List.length_append
 refine qD rfl (yU rfl) ?_
 refine qD rfl (zQ (k := 1) rfl Tryz.underlying72 rfl nz66 rfl) ?_
 refine q0 rfl rfl rfl (xA (cs' := [ab, ai, B, (.map (some mm.f)), (.map (some mm.o)), (.map (some mm.c)), (.map (some mm.s)), (.map (some mm.n))]) (us := [ai]) (v := ai) sz66 rfl rfl (cells1 dg.one) (yF dg.one) gc.pins bb (Nat.le_of_ble_eq_true rfl) rfl (fun m3 gj k2 am m4 => ?_))
 have di := gc.write k2 am ((PIn.lp hpin))
 have k3 := ky.keptA am a.apb.symm
 have k4 := kz.keptA am ci.symm
 have k5 := dg.keptA am dh.symm
 have k6 := gd.kept am (yB gd bb)
 have k7 := ge.kept am (yB ge bb)
 have k8 := gf.kept am (yB gf bb)
 have k9 := gg.kept am (yB gg bb)
 have la := gh.kept am (yB gh bb)
 refine qe (zA (zB (zC ?_)))
 refine qM (.pointer (some ⟨p, 0, none⟩)) ?_
 refine qM (.pointer (some ⟨p, 0, none⟩)) ?_
 refine qD rfl (yU rfl) ?_
 refine qD rfl (zQ (k := 2) rfl Tryz.underlying72 rfl nz65 rfl) ?_
 refine qD rfl (zS (u := B) ag65 rfl (gj.cell (o := 2) rfl)) ?_
 refine qM (vJ bm) ?_
 refine qI rfl (yE (E := eInt) (e := 3) [(vJ bm)] [bm] Tryz.underlying65 sz3 zr3 (by exact xF (by rfl)) (yF (by rfl)) rfl rfl rfl rfl (by decide) di.pins (fun gk lc ld lf aj m5 => ?_))
 have dj := di.step lf aj
 have bc := k3.below aj
 have gl := k4.below aj
 have gm := k5.below aj
 have gn := gj.below aj
 have gp := k6.below aj
 have gq := k7.below aj
 have gr := k8.below aj
 have gs := k9.below aj
 have gt := la.below aj
 have lg : Own eInt 3 db lc w.heap.size gk ([bm]) := ld.weaken di.size
 refine qI rfl (oA (E := eInt) (v := B) (u := gk) 8 Tryz.underlying65 ap3 (by decide) rfl rfl dj.pins bc lg.src (Nat.zero_le _) (fun av m6 dk lh an cl => ?_))
 have gu := dj.write lh an ((PIn.lb hpin))
 have li := gl.keptA an fy.symm
 have lj := gm.keptA an gi.symm
 have bd := gn.keptA an a.apb
 have gv := gp.kept an (zO gp bc)
 have gw := gq.kept an (zO gq bc)
 have gx := gr.kept an (zO gr bc)
 have gy := gs.kept an (zO gs bc)
 have gz := gt.kept an (zO gt bc)
 have lk : Apart ab.ownBlock av.ownBlock := zD fy.symm cl gl.lt
 have lm : Apart ai.ownBlock av.ownBlock := zD gi.symm cl gm.lt
 have g0 : Apart (some p) av.ownBlock := zJ a.apb cl gn.lt
 have ln : Lo w (inP p L R B mm) av.ownBlock := lo_app (PIn.lb hpin) cl dj.size
 have m7 : (q.bs ++ ([bm])).length = q.bs.length + 1 := List.length_append
 refine qD rfl (yU rfl) ?_
 refine qD rfl (zQ (k := 2) rfl Tryz.underlying72 rfl nz65 rfl) ?_
 refine q0 rfl rfl rfl (xA (cs' := [ab, ai, av, (.map (some mm.f)), (.map (some mm.o)), (.map (some mm.c)), (.map (some mm.s)), (.map (some mm.n))]) (us := [av]) (v := av) sz65 rfl rfl (cells1 dk.one) (yF dk.one) gu.pins bd (Nat.le_of_ble_eq_true rfl) rfl (fun m8 lq ls ao m9 => ?_))
 have lu := gu.write ls ao ((PIn.lp hpin))
 have lv := li.keptA ao ci.symm
 have lw := lj.keptA ao dh.symm
 have lx := dk.keptA ao g0.symm
 have ly := gv.kept ao (yB gv bd)
 have lz := gw.kept ao (yB gw bd)
 have l0 := gx.kept ao (yB gx bd)
 have l1 := gy.kept ao (yB gy bd)
 have l2 := gz.kept ao (yB gz bd)
 refine qe (zA (zB (zC ?_)))
 refine qM (vJ (q.bs.length : Int)) ?_
 refine qM (vJ (q.bs.length : Int)) ?_
 refine qe (zA ?_)
 refine wp_ret ?_
 refine zU ?_
 refine zT (v := (vJ (q.bs.length : Int))) rfl rfl rfl ?_
 have el : (q.ns.map Nd.l) ++ [d] = (addQ q xs ys bm).ns.map Nd.l := by rw [ap]; simp [addQ]
 have er : (q.ns.map Nd.r) ++ [g] = (addQ q xs ys bm).ns.map Nd.r := by rw [aq]; simp [addQ]
 have ef : putE q.fl (b2s kxb) (q.bs.length : Int) = (addQ q xs ys bm).fl := by rw [hkey, ap, aq, hok.ar.ok.len]; rfl
 have hol := lv
 have hor := lw
 have hff := ly
 rw [el] at hol
 rw [er] at hor
 rw [ef] at hff
 exact ⟨(q.bs.length : Int), ab, ai, av, addQ q xs ys bm, db, rfl, ⟨lq, hol, hor, lx, hff, lz, l0, l1, l2, ci, dh, g0, k0, lk, lm, a.df⟩, hadd.1, hadd.2.1, ⟨kd, k1, ln⟩, lu, by rw [hok.ar.ok.len]; exact hadd.2.2.1, by rw [hok.ar.ok.len]; exact hadd.2.2.2.1, hadd.2.2.2.2, rfl, Or.inr (by omega)⟩

theorem star_spec {w : World} {G : Pin} {p : Nat} {L R B : Value} {mm : PM} {q : PSt} (hP : Pins G w) (hpk : Pk 65 3 G w p L R B mm q) (hok : PoolOk q) {n : Nat} (hn : n ≤ 1000) (hl : q.ns.length + n + 1 ≤ 1048575) :
  Calls Tryz.prog 73 [(.pointer (some ⟨p, 0, none⟩)), (vJ (n : Int))].toArray w fun e w' => ∃ (z : Int) (L' R' B' : Value) (q' : PSt) (G' : Pin), e = .returned (vJ z) ∧ Pk 65 3 G' w' p L' R' B' mm q' ∧ PoolOk q' ∧ PX q q' ∧ PLo w p L R B mm L' R' B' ∧ Ext (inP p L R B mm) G w G' w' ∧ PlaceOk q' z ∧ pd q' z = starG n ∧ q'.ns.length ≤ q.ns.length + n + 1 := by
 refine zX (n := 22) Tryz.func73 Tryz.ntmps73 rfl rfl ?_
 have ac : Ext (inP p L R B mm) G w G w := Ext.refl hP
 have hpin : PIn w (inP p L R B mm) p L R B mm := PIn.self
 have b7 : (q.ns.map Nd.l).length = q.ns.length ∧ (q.ns.map Nd.r).length = q.ns.length := ⟨List.length_map .., List.length_map ..⟩
 have b8 : q.bs.length = q.ns.length ∧ q.ns.length ≤ 1048576 := ⟨hok.ar.ok.len, hok.ar.ok.lim⟩
 refine zB (zC ?_)
 refine qM (vJ 0) ?_
 refine qe (zA (zB (zC ?_)))
 refine qI rfl (yS (E := eInt) (e := 3) Tryz.underlying65 sz3 ac.pins (fun j w4 a4 ak al a5 => ?_))
 have a6 := ac.step ak al
 have a7 := hpk.below al ak
 have a8 := hpk.new (x := j.ownBlock) (fun k hk => by rw [a5] at hk; cases hk; exact Nat.le_refl _)
 have a9 : Own eInt 3 G w4 w.heap.size j ([]) := a4.weaken ac.size
 refine qM j ?_
 refine qe (zA (zB (zB (zC ?_))))
 refine qM (vJ (n : Int)) ?_
 refine qM (vJ 0) ?_
 refine qe (zA ?_)
 refine zZ ?_
 refine yO (fun (k : Nat) (en : Nat → Value) (W : World) => ∃ (am : Nat → Value) (b : Nat) (lv : Value) (ls : List Int) (m : Value) (o : Value) (s : Value) (a : PSt) (g : Pin), en = (upd (upd (upd (upd (upd am 0 (.pointer (some ⟨p, 0, none⟩))) 4 (vJ 0)) 5 lv) 7 (vJ (n : Int))) 8 (vJ (b : Int))) ∧ k = n - b ∧ Ext (inP p L R B mm) G w g W ∧ Pin.le G g ∧ (b ≤ n) ∧ (GsOk a ls (starL b)) ∧ (a.ns.length ≤ q.ns.length + b) ∧ (Own eInt 3 g W w.heap.size lv (ls)) ∧ (Pk 65 3 g W p m o s mm a) ∧ (PIn w ((inP p L R B mm)) p m o s mm) ∧ (PoolOk a) ∧ (PX q a) ∧ (NP p m o s mm lv.ownBlock)) _ ⟨_, 0, j, [], L, R, B, q, G, (pS 8 (pS 7 (pS 5 (pS 4 (pU 0))))), rfl, a6, Pin.le_refl _, Nat.zero_le _, GsOk.nil, (by omega), a9, a7, hpin, hok, (PX.refl _), a8⟩ ?_
 rintro b9 _ ca ⟨am, b, lv, ls, m, o, s, a, g, rfl, cb, f, ba, cc, hgs, hnq, t, an, y, h, ad, aa⟩
 have cd := ad.len
 have ce : (a.ns.map Nd.l).length = a.ns.length ∧ (a.ns.map Nd.r).length = a.ns.length := ⟨List.length_map .., List.length_map ..⟩
 have cf : a.bs.length = a.ns.length ∧ a.ns.length ≤ 1048576 := ⟨h.ar.ok.len, h.ar.ok.lim⟩
 have hgl := hgs.len
 have hsl := starL_len b
 refine zB (zC ?_)
 refine qD rfl (yM rfl rfl) ?_
 refine qe (zA (zB ?_))
 refine yD (p := ((b : Int) : Int) < (n : Int)) rfl rfl (fun bb => ?_) (fun bb => ?_)
 ·skip
  refine wp_skip ?_
  refine zA (zB ?_)
  refine zZ ?_
  refine zC ?_
  refine qM lv ?_
  refine qM (.pointer (some ⟨p, 0, none⟩)) ?_
  refine qM lv ?_
  refine qM lv ?_
  refine qI rfl (zL (vs := [(.pointer (some ⟨p, 0, none⟩)), lv, lv]) Tryz.func79 nm79 rfl rfl rfl ?_)
  refine Calls.mono (nodeL_spec f.pins an h (t.weaken (Nat.zero_le _)) aa rfl (by omega) ⟨by omega, by omega⟩ (xP hgs.pl) (xP hgs.pl)) ?_
  rintro _ cg ⟨i, bc, bd, be, c, ao, rfl, bf, ab, ae, ap, af, bg, bh, bi, ch⟩
  refine ⟨_, rfl, ?_⟩
  have ag := f.trans af y
  have bj := t.extS af aa
  have aq := NP.call aa ap (xH t)
  have bk := PIn.call y ap f.size
  have ci := ae.len
  have cj : (c.ns.map Nd.l).length = c.ns.length ∧ (c.ns.map Nd.r).length = c.ns.length := ⟨List.length_map .., List.length_map ..⟩
  have ck : c.bs.length = c.ns.length ∧ c.ns.length ≤ 1048576 := ⟨ab.ar.ok.len, ab.ar.ok.lim⟩
  have cl := bi
  refine qI rfl (yE (E := eInt) (e := 3) [(vJ i)] [i] Tryz.underlying65 sz3 zr3 (by exact xF (by rfl)) (yF (by rfl)) rfl rfl rfl rfl (by decide) ag.pins (fun au bl bm av ah cm => ?_))
  have ai := ag.step av ah
  have aw := bj.below ah
  have ax := bf.below ah av
  have bn : Own eInt 3 ao bl w.heap.size au ([i]) := bm.weaken ag.size
  refine qI rfl (oA (E := eInt) (v := lv) (u := au) 8 Tryz.underlying65 ap3 (by decide) rfl rfl ai.pins aw bn.src (ai.size) (fun ay cn bo az a0 bp => ?_))
  have bq := ai.write az a0 ((zY aw))
  have br := ax.kept a0 az aq
  have bt := np_app aq ax bp
  have co : (ls ++ ([i])).length = ls.length + 1 := List.length_append
  refine qM ay ?_
  refine qe ?_
  refine yG ?_
  refine zA (zC ?_)
  refine qD rfl (yL rfl rfl (by omega)) ?_
  refine qM (vJ ((b : Int) + 1)) ?_
  refine qe ?_
  refine yH ?_
  refine ⟨_, ?_, _, rfl, _, b + 1, ay, ls ++ ([i]), bc, bd, be, c, ao, (pS 8 (pS 7 (pS 5 (pS 4 (pU 0))))), rfl, bq, (Pin.le_trans ba af.le), (by omega), ((hgs.px ae h ab).snoc bg (bh.trans (by rw [hgs.eq]))), (by omega), bo, br, bk, ab, (PX.trans ad ae), bt⟩
  omega
 refine wp_exit ?_
 refine yC ?_
 refine yK ?_
 refine yI ?_
 refine zA (zB (zC ?_))
 refine qM (.pointer (some ⟨p, 0, none⟩)) ?_
 refine qM lv ?_
 refine qM lv ?_
 refine qI rfl (zL (vs := [(.pointer (some ⟨p, 0, none⟩)), lv, lv]) Tryz.func79 nm79 rfl rfl rfl ?_)
 refine Calls.mono (nodeL_spec f.pins an h (t.weaken (Nat.zero_le _)) aa rfl (by omega) ⟨by omega, by omega⟩ (xP hgs.pl) (xP hgs.pl)) ?_
 rintro _ cp ⟨a1, bu, bv, bw, d, bx, rfl, bz, aj, a2, b0, b1, b2, b3, b4, cq⟩
 refine ⟨_, rfl, ?_⟩
 have b5 := f.trans b1 y
 have b6 := PIn.call y b0 f.size
 have cr := a2.len
 have cs : (d.ns.map Nd.l).length = d.ns.length ∧ (d.ns.map Nd.r).length = d.ns.length := ⟨List.length_map .., List.length_map ..⟩
 have ct : d.bs.length = d.ns.length ∧ d.ns.length ≤ 1048576 := ⟨aj.ar.ok.len, aj.ar.ok.lim⟩
 have cu := b4
 refine qM (vJ a1) ?_
 refine qe (zA ?_)
 refine wp_ret ?_
 refine zU ?_
 refine zT (v := (vJ a1)) rfl rfl rfl ?_
 exact ⟨_, bu, bv, bw, d, bx, rfl, bz, aj, (PX.trans ad a2), PIn.lo b6 rfl, b5, b2, (b3.trans (by rw [hgs.eq, show b = n by omega]; rfl)), (by omega)⟩

end ST1
end Go.Proofs.YtfnginkcmcfdfaaGreatDoor

set_option maxRecDepth 20000
set_option maxHeartbeats 2000000
namespace Go.Proofs.YtfnginkcmcfdfaaGreatDoor
namespace UP1
open Go.RowKit Go.GL Go.Proofs
open Go.Proofs.YtfnginkcmcfdfaaGreatDoor.B1
open Go.Proofs.YtfnginkcmcfdfaaGreatDoor.K1
open Go.Proofs.YtfnginkcmcfdfaaGreatDoor.PO1
open Go.Proofs.YtfnginkcmcfdfaaGreatDoor.PL1
open Go.Proofs.YtfnginkcmcfdfaaGreatDoor.ST1





def UpsP (m p : Nat) (mm : PM) : Prop := ∀ {w : World} {G : Pin} {L R B : Value} {q : PSt} {z : Int} {s : Nat} (_ : Pins G w) (_ : Pk 65 3 G w p L R B mm q) (_ : PoolOk q) (_ : 0 ≤ z ∧ z ≤ 12) (_ : s ≤ 15) (_ : q.ns.length + 2 * z.toNat + 20 ≤ 1048575), z.toNat < m →
  Calls Tryz.prog 76 [(.pointer (some ⟨p, 0, none⟩)), (.int .i64 z), (.int .i64 (s : Int))].toArray w fun e w' => ∃ (y : Int) (L' R' B' : Value) (q' : PSt) (G' : Pin), e = .returned (.int .i64 y) ∧ Pk 65 3 G' w' p L' R' B' mm q' ∧ PoolOk q' ∧ PX q q' ∧ PLo w p L R B mm L' R' B' ∧ Ext (inP p L R B mm) G w G' w' ∧ PlaceOk q' y ∧ pd q' y = upG z.toNat s ∧ q'.ns.length ≤ q.ns.length + 2 * z.toNat + 18

theorem ups_step {w : World} {G : Pin} {L R B : Value} {q : PSt} {z : Int} {s p : Nat} {mm : PM} {m : Nat} (hP : Pins G w) (hpk : Pk 65 3 G w p L R B mm q) (hok : PoolOk q) (hz : 0 ≤ z ∧ z ≤ 12) (hs : s ≤ 15) (hl : q.ns.length + 2 * z.toNat + 20 ≤ 1048575) (ih : UpsP m p mm) (hm : z.toNat < m + 1) :
  Calls Tryz.prog 76 [(.pointer (some ⟨p, 0, none⟩)), (vJ z), (vJ (s : Int))].toArray w fun e w' => ∃ (y : Int) (L' R' B' : Value) (q' : PSt) (G' : Pin), e = .returned (vJ y) ∧ Pk 65 3 G' w' p L' R' B' mm q' ∧ PoolOk q' ∧ PX q q' ∧ PLo w p L R B mm L' R' B' ∧ Ext (inP p L R B mm) G w G' w' ∧ PlaceOk q' y ∧ pd q' y = upG z.toNat s ∧ q'.ns.length ≤ q.ns.length + 2 * z.toNat + 18 := by
 refine zX (n := 52) Tryz.func76 Tryz.ntmps76 rfl rfl ?_
 have ax : Ext (inP p L R B mm) G w G w := Ext.refl hP
 have hpin : PIn w (inP p L R B mm) p L R B mm := PIn.self
 have gn : (q.ns.map Nd.l).length = q.ns.length ∧ (q.ns.map Nd.r).length = q.ns.length := ⟨List.length_map .., List.length_map ..⟩
 have gp : q.bs.length = q.ns.length ∧ q.ns.length ≤ 1048576 := ⟨hok.ar.ok.len, hok.ar.ok.lim⟩
 refine zB (zC ?_)
 refine qM (vJ 0) ?_
 refine qe (zA (zB (zC ?_)))
 refine qM (.pointer (some ⟨p, 0, none⟩)) ?_
 refine qI rfl (zL (vs := [(.pointer (some ⟨p, 0, none⟩)), (.slice none 0 0), (.slice none 0 0)]) Tryz.func79 nm79 rfl rfl rfl ?_)
 refine Calls.mono (node_spec ax.pins hpk hok (qC _ _) (qC _ _) (by omega) ⟨by simp, by simp⟩ nil_at nil_at) ?_
 rintro _ gq ⟨a, L8, R9, gt, ab, bh, rfl, ac, c, ae, cw, cx, h, cy, cz, gu⟩
 refine ⟨_, rfl, ?_⟩
 have b := ax.trans cx hpin
 have i := PIn.call hpin cw ax.size
 have gv := ae.len
 have gw : (ab.ns.map Nd.l).length = ab.ns.length ∧ (ab.ns.map Nd.r).length = ab.ns.length := ⟨List.length_map .., List.length_map ..⟩
 have gx : ab.bs.length = ab.ns.length ∧ ab.ns.length ≤ 1048576 := ⟨c.ar.ok.len, c.ar.ok.lim⟩
 have ag := cy.trans (show _ = mkG [] [] from rfl)
 have gy := cz
 refine qM (vJ a) ?_
 refine qe (zA (zB ?_))
 refine zZ ?_
 refine zB (zC ?_)
 refine qM (vJ z) ?_
 refine qD rfl (yM rfl rfl) ?_
 refine qM (.bool (decide ((z : Int) < 0))) ?_
 refine qe (zA ?_)
 refine yD (p := (z : Int) < 0) rfl rfl (fun c0 => ?_) (fun c0 => ?_)
 ·skip
  exfalso; omega
 refine zB (zC ?_)
 refine qM (vJ z) ?_
 refine qD rfl (r_eql rfl rfl) ?_
 refine qM (.bool (decide ((z : Int) = 0))) ?_
 refine qe (zA ?_)
 refine yD (p := (z : Int) = 0) rfl rfl (fun c1 => ?_) (fun c1 => ?_)
 ·skip
  refine zB (zC ?_)
  refine qM (.pointer (some ⟨p, 0, none⟩)) ?_
  refine qM (vJ (s : Int)) ?_
  refine qI rfl (zL (vs := [(.pointer (some ⟨p, 0, none⟩)), (vJ (s : Int))]) Tryz.func73 nm73 rfl rfl rfl ?_)
  refine Calls.mono (star_spec b.pins ac c (n := s) (by omega) (by omega)) ?_
  rintro _ gz ⟨bi, c2, c3, c4, j, c5, rfl, c6, ay, bj, c7, c8, c9, da, db⟩
  refine ⟨_, rfl, ?_⟩
  have dc := b.trans c8 i
  have dd := PIn.call i c7 b.size
  have g0 := bj.len
  have g1 : (j.ns.map Nd.l).length = j.ns.length ∧ (j.ns.map Nd.r).length = j.ns.length := ⟨List.length_map .., List.length_map ..⟩
  have g2 : j.bs.length = j.ns.length ∧ j.ns.length ≤ 1048576 := ⟨ay.ar.ok.len, ay.ar.ok.lim⟩
  have g3 := db
  refine qM (vJ bi) ?_
  refine qe (zA ?_)
  refine wp_ret ?_
  refine zU ?_
  refine zT (v := (vJ bi)) rfl rfl rfl ?_
  have hzz := da
  exact ⟨_, c2, c3, c4, j, c5, rfl, c6, ay, (PX.trans ae bj), PIn.lo dd rfl, dc, c9, (hzz.trans (by rw [show z.toNat = 0 by omega]; rfl)), (by omega)⟩
 refine zB (zC ?_)
 refine qM (vJ z) ?_
 refine qD rfl (r_eql rfl rfl) ?_
 refine qM (.bool (decide ((z : Int) = 1))) ?_
 refine qbd (p := (z : Int) = 1) (t := 29) rfl (fun de => ?_) (fun de => ?_)
 ·skip
  refine qN (zR (v := (vJ (s : Int))) rfl) ?_
  refine qN (r_eql rfl rfl) ?_
  refine qD rfl (xJ (v := (.bool (decide (((s : Int) : Int) = 1)))) rfl rfl) ?_
  refine qM (.bool (decide (((s : Int) : Int) = 1))) ?_
  refine qe (zA ?_)
  refine yD (p := ((s : Int) : Int) = 1) rfl rfl (fun df => ?_) (fun df => ?_)
  ·skip
   refine zB (zC ?_)
   refine qM (.pointer (some ⟨p, 0, none⟩)) ?_
   refine qM (vJ a) ?_
   refine qM (.pointer (some ⟨p, 0, none⟩)) ?_
   refine qI rfl (zL (vs := [(.pointer (some ⟨p, 0, none⟩)), (vJ 1)]) Tryz.func73 nm73 rfl rfl rfl ?_)
   refine Calls.mono (star_spec b.pins ac c (n := 1) (by omega) (by omega)) ?_
   rintro _ g4 ⟨ah, g5, g6, g7, d, bk, rfl, bl, af, ad, dg, dh, di, dj, dk⟩
   refine ⟨_, rfl, ?_⟩
   have az := b.trans dh i
   have bm := PIn.call i dg b.size
   have g8 := ad.len
   have g9 : (d.ns.map Nd.l).length = d.ns.length ∧ (d.ns.map Nd.r).length = d.ns.length := ⟨List.length_map .., List.length_map ..⟩
   have ha : d.bs.length = d.ns.length ∧ d.ns.length ≤ 1048576 := ⟨af.ar.ok.len, af.ar.ok.lim⟩
   have hb := dk
   refine qI rfl (yE (E := eInt) (e := 3) [(vJ a), (vJ ah)] [a, ah] Tryz.underlying65 sz3 zr3 (by exact reps2 (by rfl) (by rfl)) (ones2 (by rfl) (by rfl)) rfl rfl rfl rfl (by decide) az.pins (fun ai dl dm bn bo dn => ?_))
   have a0 := az.step bn bo
   have bp := bl.below bo bn
   have dp := bl.new (x := ai.ownBlock) (fun k hk => by rw [dn] at hk; cases hk; exact Nat.le_refl _)
   have bq : Own eInt 3 bk dl w.heap.size ai ([a, ah]) := dm.weaken az.size
   refine qM (vJ a) ?_
   refine qI rfl (yE (E := eInt) (e := 3) [(vJ a)] [a] Tryz.underlying65 sz3 zr3 (by exact xF (by rfl)) (yF (by rfl)) rfl rfl rfl rfl (by decide) a0.pins (fun aj dq dr br a1 bt => ?_))
   have ds := a0.step br a1
   have dt := bq.below a1
   have du := bp.below a1 br
   have dv : Apart aj.ownBlock ai.ownBlock := zH bt bq.lt
   have dw := bp.new (x := aj.ownBlock) (fun k hk => by rw [bt] at hk; cases hk; exact Nat.le_refl _)
   have dx : Own eInt 3 bk dq w.heap.size aj ([a]) := dr.weaken a0.size
   obtain ⟨hc, bu, dy, dz, bv⟩ := dt.sealed ds
   have d0 := dx.moreO bu bv dv
   have d1 := du.moreO bu bv dp
   obtain ⟨hd, bw, a2, d2, d3⟩ := d0.sealed dy
   have d4 := d1.moreO bw d3 dw
   have d5 := ((ad.pd c af h).trans ag)
   have d6 := dj
   have he := ((ad.pd c af h).trans ag)
   refine qI rfl (zL (vs := [(.pointer (some ⟨p, 0, none⟩)), ai, aj]) Tryz.func79 nm79 rfl rfl rfl ?_)
   refine Calls.mono (node_spec a2.pins d4 af (dz.mono bw) d2 (by omega) ⟨by simp, by simp⟩ (two_at (ad.place h) di) (one_at (ad.place h))) ?_
   rintro _ hf ⟨bx, d7, d8, d9, o, ea, rfl, eb, a3, bz, ec, ed, ee, ef, eg, hg⟩
   refine ⟨_, rfl, ?_⟩
   have eh := a2.trans ed bm
   have ei := PIn.call bm ec a2.size
   have hh := bz.len
   have hi : (o.ns.map Nd.l).length = o.ns.length ∧ (o.ns.map Nd.r).length = o.ns.length := ⟨List.length_map .., List.length_map ..⟩
   have hj : o.bs.length = o.ns.length ∧ o.ns.length ≤ 1048576 := ⟨a3.ar.ok.len, a3.ar.ok.lim⟩
   have a4 := ef.trans (show _ = mkG [pd d a, pd d ah] [pd d a] from rfl)
   rw [d5] at a4
   rw [d6] at a4
   have hn := eg
   refine qM (vJ bx) ?_
   refine qe (zA ?_)
   refine wp_ret ?_
   refine zU ?_
   refine zT (v := (vJ bx)) rfl rfl rfl ?_
   have hzz := a4
   exact ⟨_, d7, d8, d9, o, ea, rfl, eb, a3, (PX.trans (PX.trans ae ad) bz), PIn.lo ei rfl, eh, ee, (hzz.trans (by rw [show z.toNat = 1 by omega, show s = 1 by omega]; rfl)), (by omega)⟩
  refine wp_skip ?_
  refine yG ?_
  refine zA (zB (zC ?_))
  refine qM (.pointer (some ⟨p, 0, none⟩)) ?_
  refine qM (vJ a) ?_
  refine qI rfl (yE (E := eInt) (e := 3) [(vJ a)] [a] Tryz.underlying65 sz3 zr3 (by exact xF (by rfl)) (yF (by rfl)) rfl rfl rfl rfl (by decide) b.pins (fun ak ej ek b0 b1 el => ?_))
  have a5 := b.step b0 b1
  have em := ac.below b1 b0
  have b2 := ac.new (x := ak.ownBlock) (fun k hk => by rw [el] at hk; cases hk; exact Nat.le_refl _)
  have b3 : Own eInt 3 bh ej w.heap.size ak ([a]) := ek.weaken b.size
  refine qM (.pointer (some ⟨p, 0, none⟩)) ?_
  refine qM (vJ z) ?_
  refine qD rfl (r_sub rfl rfl (by omega)) ?_
  refine qM (vJ (s : Int)) ?_
  refine qD rfl (r_xor1 rfl rfl (hs)) ?_
  refine qI rfl (zL (vs := [(.pointer (some ⟨p, 0, none⟩)), (vJ (z - 1)), (vJ ((flip1 s : Nat) : Int))]) Tryz.func76 nm76 rfl rfl rfl ?_)
  refine Calls.mono (ih a5.pins em c (s := flip1 s) (by omega) (flip_le hs) (by omega) (by omega)) ?_
  rintro _ ho ⟨al, hp, hq, hr, f, en, rfl, b4, am, an, b5, b6, eo, ep, eq⟩
  refine ⟨_, rfl, ?_⟩
  have a6 := a5.trans b6 i
  have b7 := b3.extS b6 b2
  have er := NP.call b2 b5 (xH b3)
  have b8 := PIn.call i b5 a5.size
  have ht := an.len
  have hu : (f.ns.map Nd.l).length = f.ns.length ∧ (f.ns.map Nd.r).length = f.ns.length := ⟨List.length_map .., List.length_map ..⟩
  have hv : f.bs.length = f.ns.length ∧ f.ns.length ≤ 1048576 := ⟨am.ar.ok.len, am.ar.ok.lim⟩
  have hw := eq
  refine qI rfl (yE (E := eInt) (e := 3) [(vJ al)] [al] Tryz.underlying65 sz3 zr3 (by exact xF (by rfl)) (yF (by rfl)) rfl rfl rfl rfl (by decide) a6.pins (fun ao es et b9 a7 ca => ?_))
  have eu := a6.step b9 a7
  have ev := b7.below a7
  have ew := b4.below a7 b9
  have ex : Apart ao.ownBlock ak.ownBlock := zH ca b7.lt
  have ey := b4.new (x := ao.ownBlock) (fun k hk => by rw [ca] at hk; cases hk; exact Nat.le_refl _)
  have ez : Own eInt 3 en es w.heap.size ao ([al]) := et.weaken a6.size
  obtain ⟨hx, cb, e0, e1, cc⟩ := ev.sealed eu
  have e2 := ez.moreO cb cc ex
  have e3 := ew.moreO cb cc er
  obtain ⟨hy, cd, a8, e4, e5⟩ := e2.sealed e0
  have e6 := e3.moreO cd e5 ey
  have e7 := ((an.pd c am h).trans ag)
  have e8 := ep
  refine qI rfl (zL (vs := [(.pointer (some ⟨p, 0, none⟩)), ak, ao]) Tryz.func79 nm79 rfl rfl rfl ?_)
  refine Calls.mono (node_spec a8.pins e6 am (e1.mono cd) e4 (by omega) ⟨by simp, by simp⟩ (one_at (an.place h)) (one_at eo)) ?_
  rintro _ h0 ⟨ce, e9, fa, fb, u, fc, rfl, fd, a9, cf, fe, ff, fg, fh, fi, h1⟩
  refine ⟨_, rfl, ?_⟩
  have fj := a8.trans ff b8
  have fk := PIn.call b8 fe a8.size
  have h2 := cf.len
  have h3 : (u.ns.map Nd.l).length = u.ns.length ∧ (u.ns.map Nd.r).length = u.ns.length := ⟨List.length_map .., List.length_map ..⟩
  have h4 : u.bs.length = u.ns.length ∧ u.ns.length ≤ 1048576 := ⟨a9.ar.ok.len, a9.ar.ok.lim⟩
  have ba := fh.trans (show _ = mkG [pd f a] [pd f al] from rfl)
  rw [e7] at ba
  rw [e8] at ba
  have h5 := fi
  refine qM (vJ ce) ?_
  refine qe (zA ?_)
  refine wp_ret ?_
  refine zU ?_
  refine zT (v := (vJ ce)) rfl rfl rfl ?_
  have hzz := ba
  exact ⟨_, e9, fa, fb, u, fc, rfl, fd, a9, (PX.trans (PX.trans ae an) cf), PIn.lo fk rfl, fj, fg, (hzz.trans (upG_succ (by omega) (by omega)).symm), (by omega)⟩
 refine qW ?_
 refine qW ?_
 refine qD rfl (xG (v := (.bool false)) rfl rfl) ?_
 refine qM (.bool false) ?_
 refine qe (zA ?_)
 refine c_ifF rfl rfl ?_
 refine wp_skip ?_
 refine yG ?_
 refine zA (zB (zC ?_))
 refine qM (.pointer (some ⟨p, 0, none⟩)) ?_
 refine qM (vJ a) ?_
 refine qI rfl (yE (E := eInt) (e := 3) [(vJ a)] [a] Tryz.underlying65 sz3 zr3 (by exact xF (by rfl)) (yF (by rfl)) rfl rfl rfl rfl (by decide) b.pins (fun ap fl fm cg ch fn => ?_))
 have bb := b.step cg ch
 have fo := ac.below ch cg
 have ci := ac.new (x := ap.ownBlock) (fun k hk => by rw [fn] at hk; cases hk; exact Nat.le_refl _)
 have cj : Own eInt 3 bh fl w.heap.size ap ([a]) := fm.weaken b.size
 refine qM (.pointer (some ⟨p, 0, none⟩)) ?_
 refine qM (vJ z) ?_
 refine qD rfl (r_sub rfl rfl (by omega)) ?_
 refine qM (vJ (s : Int)) ?_
 refine qD rfl (r_xor1 rfl rfl (hs)) ?_
 refine qI rfl (zL (vs := [(.pointer (some ⟨p, 0, none⟩)), (vJ (z - 1)), (vJ ((flip1 s : Nat) : Int))]) Tryz.func76 nm76 rfl rfl rfl ?_)
 refine Calls.mono (ih bb.pins fo c (s := flip1 s) (by omega) (flip_le hs) (by omega) (by omega)) ?_
 rintro _ h6 ⟨aq, h7, h8, h9, g, fp, rfl, ck, au, av, cl, cm, fq, fr, fs⟩
 refine ⟨_, rfl, ?_⟩
 have bc := bb.trans cm i
 have cn := cj.extS cm ci
 have ft := NP.call ci cl (xH cj)
 have co := PIn.call i cl bb.size
 have ia := av.len
 have ib : (g.ns.map Nd.l).length = g.ns.length ∧ (g.ns.map Nd.r).length = g.ns.length := ⟨List.length_map .., List.length_map ..⟩
 have ic : g.bs.length = g.ns.length ∧ g.ns.length ≤ 1048576 := ⟨au.ar.ok.len, au.ar.ok.lim⟩
 have ie := fs
 refine qI rfl (yE (E := eInt) (e := 3) [(vJ aq)] [aq] Tryz.underlying65 sz3 zr3 (by exact xF (by rfl)) (yF (by rfl)) rfl rfl rfl rfl (by decide) bc.pins (fun aw fu fv cp bd cq => ?_))
 have fw := bc.step cp bd
 have fx := cn.below bd
 have fy := ck.below bd cp
 have fz : Apart aw.ownBlock ap.ownBlock := zH cq cn.lt
 have f0 := ck.new (x := aw.ownBlock) (fun k hk => by rw [cq] at hk; cases hk; exact Nat.le_refl _)
 have f1 : Own eInt 3 fp fu w.heap.size aw ([aq]) := fv.weaken bc.size
 obtain ⟨ig, cr, f2, f3, cs⟩ := fx.sealed fw
 have f4 := f1.moreO cr cs fz
 have f5 := fy.moreO cr cs ft
 obtain ⟨ii, ct, be, f6, f7⟩ := f4.sealed f2
 have f8 := f5.moreO ct f7 f0
 have f9 := ((av.pd c au h).trans ag)
 have ga := fr
 refine qI rfl (zL (vs := [(.pointer (some ⟨p, 0, none⟩)), ap, aw]) Tryz.func79 nm79 rfl rfl rfl ?_)
 refine Calls.mono (node_spec be.pins f8 au (f3.mono ct) f6 (by omega) ⟨by simp, by simp⟩ (one_at (av.place h)) (one_at fq)) ?_
 rintro _ ij ⟨cu, gb, gc, gd, aa, ge, rfl, gf, bf, cv, gg, gh, gi, gj, gk, ik⟩
 refine ⟨_, rfl, ?_⟩
 have gl := be.trans gh co
 have gm := PIn.call co gg be.size
 have il := cv.len
 have im : (aa.ns.map Nd.l).length = aa.ns.length ∧ (aa.ns.map Nd.r).length = aa.ns.length := ⟨List.length_map .., List.length_map ..⟩
 have io : aa.bs.length = aa.ns.length ∧ aa.ns.length ≤ 1048576 := ⟨bf.ar.ok.len, bf.ar.ok.lim⟩
 have bg := gj.trans (show _ = mkG [pd g a] [pd g aq] from rfl)
 rw [f9] at bg
 rw [ga] at bg
 have ip := gk
 refine qM (vJ cu) ?_
 refine qe (zA ?_)
 refine wp_ret ?_
 refine zU ?_
 refine zT (v := (vJ cu)) rfl rfl rfl ?_
 have hzz := bg
 exact ⟨_, gb, gc, gd, aa, ge, rfl, gf, bf, (PX.trans (PX.trans ae av) cv), PIn.lo gm rfl, gl, gi, (hzz.trans (upG_succ (by omega) (by omega)).symm), (by omega)⟩

theorem ups_all {p : Nat} {mm : PM} : ∀ m, UpsP m p mm
 | 0 => fun _ _ _ _ _ _ h => absurd h (Nat.not_lt_zero _)
 | m + 1 => fun hP hpk hok hz hs hl hm => ups_step hP hpk hok hz hs hl (ups_all m) hm
theorem upsP_spec {w : World} {G : Pin} {L R B : Value} {q : PSt} {z : Int} {s p : Nat} {mm : PM} (hP : Pins G w) (hpk : Pk 65 3 G w p L R B mm q) (hok : PoolOk q) (hz : 0 ≤ z ∧ z ≤ 12) (hs : s ≤ 15) (hl : q.ns.length + 2 * z.toNat + 20 ≤ 1048575) :
  Calls Tryz.prog 76 [(.pointer (some ⟨p, 0, none⟩)), (.int .i64 z), (.int .i64 (s : Int))].toArray w fun e w' => ∃ (y : Int) (L' R' B' : Value) (q' : PSt) (G' : Pin), e = .returned (.int .i64 y) ∧ Pk 65 3 G' w' p L' R' B' mm q' ∧ PoolOk q' ∧ PX q q' ∧ PLo w p L R B mm L' R' B' ∧ Ext (inP p L R B mm) G w G' w' ∧ PlaceOk q' y ∧ pd q' y = upG z.toNat s ∧ q'.ns.length ≤ q.ns.length + 2 * z.toNat + 18 :=
 ups_all _ hP hpk hok hz hs hl (Nat.lt_succ_self _)

end UP1
end Go.Proofs.YtfnginkcmcfdfaaGreatDoor

set_option maxRecDepth 20000
set_option maxHeartbeats 2000000
namespace Go.Proofs.YtfnginkcmcfdfaaGreatDoor
namespace UP2
open Go.RowKit Go.GL Go.Proofs
open Go.Proofs.YtfnginkcmcfdfaaGreatDoor.B1
open Go.Proofs.YtfnginkcmcfdfaaGreatDoor.K1
open Go.Proofs.YtfnginkcmcfdfaaGreatDoor.PO1
open Go.Proofs.YtfnginkcmcfdfaaGreatDoor.PL1
open Go.Proofs.YtfnginkcmcfdfaaGreatDoor.NG1
open Go.Proofs.YtfnginkcmcfdfaaGreatDoor.ST1
open Go.Proofs.YtfnginkcmcfdfaaGreatDoor.UP1



theorem upsN_spec {w : World} {G : Pin} {L R B : Value} {q : PSt} {z : Int} {s p : Nat} {mm : PM} (hP : Pins G w) (hpk : Pk 65 3 G w p L R B mm q) (hok : PoolOk q) (hz : -12 ≤ z ∧ z ≤ 12) (hs : s ≤ 15) (hl : q.ns.length ≤ 1000) (hn : z < 0) :
  Calls Tryz.prog 76 [(.pointer (some ⟨p, 0, none⟩)), (vJ z), (vJ (s : Int))].toArray w fun e w' => ∃ (y : Int) (L' R' B' : Value) (q' : PSt) (G' : Pin), e = .returned (vJ y) ∧ Pk 65 3 G' w' p L' R' B' mm q' ∧ PoolOk q' ∧ PX q q' ∧ PLo w p L R B mm L' R' B' ∧ Ext (inP p L R B mm) G w G' w' ∧ PlaceOk q' y ∧ pd q' y = upI z s ∧ q'.ns.length ≤ q.ns.length + 200 := by
 refine zX (n := 52) Tryz.func76 Tryz.ntmps76 rfl rfl ?_
 have f : Ext (inP p L R B mm) G w G w := Ext.refl hP
 have hpin : PIn w (inP p L R B mm) p L R B mm := PIn.self
 have a6 : (q.ns.map Nd.l).length = q.ns.length ∧ (q.ns.map Nd.r).length = q.ns.length := ⟨List.length_map .., List.length_map ..⟩
 have a7 : q.bs.length = q.ns.length ∧ q.ns.length ≤ 1048576 := ⟨hok.ar.ok.len, hok.ar.ok.lim⟩
 refine zB (zC ?_)
 refine qM (vJ 0) ?_
 refine qe (zA (zB (zC ?_)))
 refine qM (.pointer (some ⟨p, 0, none⟩)) ?_
 refine qI rfl (zL (vs := [(.pointer (some ⟨p, 0, none⟩)), (.slice none 0 0), (.slice none 0 0)]) Tryz.func79 nm79 rfl rfl rfl ?_)
 refine Calls.mono (node_spec f.pins hpk hok (qC _ _) (qC _ _) (by omega) ⟨by simp, by simp⟩ nil_at nil_at) ?_
 rintro _ a8 ⟨z3, L8, R9, bb, c, bc, rfl, ac, g, k, ad, ae, bd, af, ag, be⟩
 refine ⟨_, rfl, ?_⟩
 have h := f.trans ae hpin
 have m := PIn.call hpin ad f.size
 have bf := k.len
 have bg : (c.ns.map Nd.l).length = c.ns.length ∧ (c.ns.map Nd.r).length = c.ns.length := ⟨List.length_map .., List.length_map ..⟩
 have bh : c.bs.length = c.ns.length ∧ c.ns.length ≤ 1048576 := ⟨g.ar.ok.len, g.ar.ok.lim⟩
 have bi := af.trans (show _ = mkG [] [] from rfl)
 have bj := ag
 refine qM (vJ z3) ?_
 refine qe (zA (zB ?_))
 refine zZ ?_
 refine zB (zC ?_)
 refine qM (vJ z) ?_
 refine qD rfl (yM rfl rfl) ?_
 refine qM (.bool (decide ((z : Int) < 0))) ?_
 refine qe (zA ?_)
 refine yD (p := (z : Int) < 0) rfl rfl (fun ah => ?_) (fun ah => ?_)
 ·skip
  refine zB (zC ?_)
  refine qM (.pointer (some ⟨p, 0, none⟩)) ?_
  refine qM (.pointer (some ⟨p, 0, none⟩)) ?_
  refine qM (vJ z) ?_
  refine qD rfl (r_neg rfl (by omega)) ?_
  refine qM (vJ (s : Int)) ?_
  refine qI rfl (zL (vs := [(.pointer (some ⟨p, 0, none⟩)), (vJ (-z)), (vJ (s : Int))]) Tryz.func76 nm76 rfl rfl rfl ?_)
  refine Calls.mono (upsP_spec h.pins ac g (z := -z) (s := s) (by omega) hs (by omega)) ?_
  rintro _ bk ⟨ai, bl, bm, bn, a, bo, rfl, aj, i, o, ak, al, am, an, ao⟩
  refine ⟨_, rfl, ?_⟩
  have j := h.trans al m
  have t := PIn.call m ak h.size
  have bp := o.len
  have bq : (a.ns.map Nd.l).length = a.ns.length ∧ (a.ns.map Nd.r).length = a.ns.length := ⟨List.length_map .., List.length_map ..⟩
  have br : a.bs.length = a.ns.length ∧ a.ns.length ≤ 1048576 := ⟨i.ar.ok.len, i.ar.ok.lim⟩
  have bt := ao
  have hpz := an
  have hul := upS_len (-z).toNat s hs
  refine qI rfl (zL (vs := [(.pointer (some ⟨p, 0, none⟩)), (vJ ai)]) Tryz.func82 nm82 rfl rfl rfl ?_)
  refine Calls.mono (neg_spec j.pins aj i am (qz := a) (S := (upS (-z).toNat s).map negG) (Bud.start (by rw [List.length_map]; omega)) (fun x hx => upS_neg (by rw [hpz] at hx; exact hx))) ?_
  rintro _ bu ⟨u, ap, aq, au, b, av, rfl, aw, d, aa, ax, ay, az, a0, a1⟩
  refine ⟨_, rfl, ?_⟩
  have a2 := j.trans ay t
  have a3 := PIn.call t ax j.size
  have bv := aa.len
  have bw : (b.ns.map Nd.l).length = b.ns.length ∧ (b.ns.map Nd.r).length = b.ns.length := ⟨List.length_map .., List.length_map ..⟩
  have bx : b.bs.length = b.ns.length ∧ b.ns.length ≤ 1048576 := ⟨d.ar.ok.len, d.ar.ok.lim⟩
  have a4 := a0.trans (by rw [hpz])
  have a5 := a1.len d
  rw [List.length_map] at a5
  refine qM (vJ u) ?_
  refine qe (zA ?_)
  refine wp_ret ?_
  refine zU ?_
  refine zT (v := (vJ u)) rfl rfl rfl ?_
  exact ⟨_, ap, aq, au, b, av, rfl, aw, d, (PX.trans (PX.trans k o) aa), PIn.lo a3 rfl, a2, az, (a4.trans (upI_neg (by omega)).symm), (by omega)⟩
 exfalso; omega

theorem ups_spec {w : World} {G : Pin} {L R B : Value} {q : PSt} {z : Int} {s p : Nat} {mm : PM} (hP : Pins G w) (hpk : Pk 65 3 G w p L R B mm q) (hok : PoolOk q) (hz : -12 ≤ z ∧ z ≤ 12) (hs : s ≤ 15) (hl : q.ns.length ≤ 1000) :
  Calls Tryz.prog 76 [(.pointer (some ⟨p, 0, none⟩)), (.int .i64 z), (.int .i64 (s : Int))].toArray w fun e w' => ∃ (y : Int) (L' R' B' : Value) (q' : PSt) (G' : Pin), e = .returned (.int .i64 y) ∧ Pk 65 3 G' w' p L' R' B' mm q' ∧ PoolOk q' ∧ PX q q' ∧ PLo w p L R B mm L' R' B' ∧ Ext (inP p L R B mm) G w G' w' ∧ PlaceOk q' y ∧ pd q' y = upI z s ∧ q'.ns.length ≤ q.ns.length + 200 := by
 by_cases hn : z < 0
 ·exact upsN_spec hP hpk hok hz hs hl hn
 ·refine (upsP_spec hP hpk hok (by omega) hs (by omega)).mono ?_
  rintro e w' ⟨y, L', R', B', q', G', a, b, c, d, f, g, h, i, j⟩
  exact ⟨y, L', R', B', q', G', a, b, c, d, f, g, h, i.trans (upI_pos hn).symm, by omega⟩

end UP2
end Go.Proofs.YtfnginkcmcfdfaaGreatDoor

set_option maxRecDepth 20000
set_option maxHeartbeats 2000000
namespace Go.Proofs.YtfnginkcmcfdfaaGreatDoor
namespace UP5
open Go.RowKit Go.GL Go.Proofs
open Go.Proofs.YtfnginkcmcfdfaaGreatDoor.B1
open Go.Proofs.YtfnginkcmcfdfaaGreatDoor.K1
open Go.Proofs.YtfnginkcmcfdfaaGreatDoor.PO1
open Go.Proofs.YtfnginkcmcfdfaaGreatDoor.PL1
open Go.Proofs.YtfnginkcmcfdfaaGreatDoor.PA1
open Go.Proofs.YtfnginkcmcfdfaaGreatDoor.SO1
open Go.Proofs.YtfnginkcmcfdfaaGreatDoor.OD1
open Go.Proofs.YtfnginkcmcfdfaaGreatDoor.FO1
open Go.Proofs.YtfnginkcmcfdfaaGreatDoor.NG1
open Go.Proofs.YtfnginkcmcfdfaaGreatDoor.ST1
open Go.Proofs.YtfnginkcmcfdfaaGreatDoor.UP1
open Go.Proofs.YtfnginkcmcfdfaaGreatDoor.UP2




theorem pl32 : (Tryz.prog.underlying 32).bind (placesD Tryz.prog) = some [(0, 1)] := by kernel_rfl


theorem ups_zspec {w : World} {G : Pin} {L R B : Value} {q : PSt} {n s : Int} {p : Nat} {mm : PM} (hP : Pins G w) (hpk : Pk 65 3 G w p L R B mm q) (hok : PoolOk q) (hn : -12 ≤ n ∧ n ≤ 12) (hs : 0 ≤ s ∧ s ≤ 15) (hl : q.ns.length ≤ 1000) :
  Calls Tryz.prog 76 [(.pointer (some ⟨p, 0, none⟩)), (.int .i64 n), (.int .i64 s)].toArray w fun e w' => ∃ (y : Int) (L' R' B' : Value) (q' : PSt) (G' : Pin), e = .returned (.int .i64 y) ∧ Pk 65 3 G' w' p L' R' B' mm q' ∧ PoolOk q' ∧ PX q q' ∧ PLo w p L R B mm L' R' B' ∧ Ext (inP p L R B mm) G w G' w' ∧ PlaceOk q' y ∧ pd q' y = upI n s.toNat ∧ q'.ns.length ≤ q.ns.length + 200 := by
 obtain ⟨k, rfl⟩ : ∃ k : Nat, s = (k : Int) := ⟨s.toNat, by omega⟩
 simp only [Int.toNat_natCast]
 exact ups_spec hP hpk hok hn (by omega) hl

theorem iUpsForm_dspec {w : World} {G : Pin} {n s : Int} (hP : Pins G w) :
  Calls Tryz.prog 37 [(vJ n), (vJ s)].toArray w fun e w' => ∃ (u : Value) (G' : Pin), e = .returned (.tuple #[(.agg [u].toArray), .bool (uoB n s)]) ∧ DForm 99 3 G' w' w.heap.size w'.heap.size u (uoF n s) ∧ Ext noS G w G' w' := by
 refine zX (n := 31) Tryz.func37 Tryz.ntmps37 rfl rfl ?_
 have ab : Ext noS G w G w := Ext.refl hP
 refine zB (zC ?_)
 refine qI rfl (xE [(.slice none 0 0)] zr32 rfl ab.pins (fun b1 w2 cd m a3 a4 => ?_))
 have a := ab.step a3 a4
 have o : w.heap.size ≤ b1 := by have := ab.size; omega
 refine qM (.bool false) ?_
 refine qe (zA (zB (zB (zC ?_))))
 refine qM (vJ n) ?_
 refine qD rfl (yM rfl rfl) ?_
 refine qM (.bool (decide ((n : Int) < (-12)))) ?_
 refine qbd (p := (n : Int) < (-12)) (t := 9) rfl (fun h9 => ?_) (fun h9 => ?_)
 ·skip
  refine qW ?_
  refine qW ?_
  refine qD rfl (xJ (v := (.bool true)) rfl rfl) ?_
  refine qM (.bool true) ?_
  refine qW ?_
  refine qW ?_
  refine qD rfl (xJ (v := (.bool true)) rfl rfl) ?_
  refine qM (.bool true) ?_
  refine qW ?_
  refine qW ?_
  refine qD rfl (xJ (v := (.bool true)) rfl rfl) ?_
  refine qe (zA ?_)
  refine c_ifT rfl rfl ?_
  refine zB (zC ?_)
  refine qD rfl (xB [(.slice none 0 0)] [(.slice none 0 0)] [] Tryz.underlying32 zr32 rfl pl32 rfl (fun _ h => by cases h) rfl) ?_
  refine q0 rfl rfl rfl (xA (cs' := [(.slice none 0 0)]) (us := [(.slice none 0 0)]) (v := (.agg [(.slice none 0 0)].toArray)) sz32 rfl rfl rfl (yF (by rfl)) a.pins m (Nat.le_of_ble_eq_true rfl) rfl (fun ce a6 a7 a8 cf => ?_))
  have a9 := a.write a7 a8 ((yN o))
  refine qM (.bool false) ?_
  refine qe (zA ?_)
  refine wp_ret ?_
  refine zU ?_
  refine xY (cs := [(.slice none 0 0)]) (v := (.bool false)) rfl rfl rfl rfl rfl ag32 sz32 (fun j u hj => by rw [Nat.zero_add]; exact a6.cell hj) ?_
  obtain ⟨f, i⟩ := uo_no (n := n) (s := s) (fun g => by have h1 := g.1; have h2 := g.2; omega)
  rw [f, i]
  exact ⟨_, _, rfl, DForm.nil, a9⟩
 refine qN (zR (v := (vJ n)) rfl) ?_
 refine qN (r_gtr rfl rfl) ?_
 refine qD rfl (xG (v := (.bool (decide ((12 : Int) < n)))) rfl rfl) ?_
 refine qM (.bool (decide ((12 : Int) < n))) ?_
 refine qbd (p := (12 : Int) < n) (t := 13) rfl (fun ba => ?_) (fun ba => ?_)
 ·skip
  refine qW ?_
  refine qW ?_
  refine qD rfl (xJ (v := (.bool true)) rfl rfl) ?_
  refine qM (.bool true) ?_
  refine qW ?_
  refine qW ?_
  refine qD rfl (xJ (v := (.bool true)) rfl rfl) ?_
  refine qe (zA ?_)
  refine c_ifT rfl rfl ?_
  refine zB (zC ?_)
  refine qD rfl (xB [(.slice none 0 0)] [(.slice none 0 0)] [] Tryz.underlying32 zr32 rfl pl32 rfl (fun _ h => by cases h) rfl) ?_
  refine q0 rfl rfl rfl (xA (cs' := [(.slice none 0 0)]) (us := [(.slice none 0 0)]) (v := (.agg [(.slice none 0 0)].toArray)) sz32 rfl rfl rfl (yF (by rfl)) a.pins m (Nat.le_of_ble_eq_true rfl) rfl (fun cg bb bc bd ch => ?_))
  have be := a.write bc bd ((yN o))
  refine qM (.bool false) ?_
  refine qe (zA ?_)
  refine wp_ret ?_
  refine zU ?_
  refine xY (cs := [(.slice none 0 0)]) (v := (.bool false)) rfl rfl rfl rfl rfl ag32 sz32 (fun j u hj => by rw [Nat.zero_add]; exact bb.cell hj) ?_
  obtain ⟨f, i⟩ := uo_no (n := n) (s := s) (fun g => by have h1 := g.1; have h2 := g.2; omega)
  rw [f, i]
  exact ⟨_, _, rfl, DForm.nil, be⟩
 refine qN (zR (v := (vJ s)) rfl) ?_
 refine qN (yM rfl rfl) ?_
 refine qD rfl (xG (v := (.bool (decide ((s : Int) < 0)))) rfl rfl) ?_
 refine qM (.bool (decide ((s : Int) < 0))) ?_
 refine qbd (p := (s : Int) < 0) (t := 17) rfl (fun bf => ?_) (fun bf => ?_)
 ·skip
  refine qW ?_
  refine qW ?_
  refine qD rfl (xJ (v := (.bool true)) rfl rfl) ?_
  refine qe (zA ?_)
  refine c_ifT rfl rfl ?_
  refine zB (zC ?_)
  refine qD rfl (xB [(.slice none 0 0)] [(.slice none 0 0)] [] Tryz.underlying32 zr32 rfl pl32 rfl (fun _ h => by cases h) rfl) ?_
  refine q0 rfl rfl rfl (xA (cs' := [(.slice none 0 0)]) (us := [(.slice none 0 0)]) (v := (.agg [(.slice none 0 0)].toArray)) sz32 rfl rfl rfl (yF (by rfl)) a.pins m (Nat.le_of_ble_eq_true rfl) rfl (fun ci bg bh bi cj => ?_))
  have bj := a.write bh bi ((yN o))
  refine qM (.bool false) ?_
  refine qe (zA ?_)
  refine wp_ret ?_
  refine zU ?_
  refine xY (cs := [(.slice none 0 0)]) (v := (.bool false)) rfl rfl rfl rfl rfl ag32 sz32 (fun j u hj => by rw [Nat.zero_add]; exact bg.cell hj) ?_
  obtain ⟨f, i⟩ := uo_no (n := n) (s := s) (fun g => by have h1 := g.1; have h2 := g.2; omega)
  rw [f, i]
  exact ⟨_, _, rfl, DForm.nil, bj⟩
 refine qN (zR (v := (vJ s)) rfl) ?_
 refine qN (r_gtr rfl rfl) ?_
 refine qD rfl (xG (v := (.bool (decide ((15 : Int) < s)))) rfl rfl) ?_
 refine qe (zA ?_)
 refine yD (p := (15 : Int) < s) rfl rfl (fun bk => ?_) (fun bk => ?_)
 ·skip
  refine zB (zC ?_)
  refine qD rfl (xB [(.slice none 0 0)] [(.slice none 0 0)] [] Tryz.underlying32 zr32 rfl pl32 rfl (fun _ h => by cases h) rfl) ?_
  refine q0 rfl rfl rfl (xA (cs' := [(.slice none 0 0)]) (us := [(.slice none 0 0)]) (v := (.agg [(.slice none 0 0)].toArray)) sz32 rfl rfl rfl (yF (by rfl)) a.pins m (Nat.le_of_ble_eq_true rfl) rfl (fun ck bl bm bn cl => ?_))
  have bo := a.write bm bn ((yN o))
  refine qM (.bool false) ?_
  refine qe (zA ?_)
  refine wp_ret ?_
  refine zU ?_
  refine xY (cs := [(.slice none 0 0)]) (v := (.bool false)) rfl rfl rfl rfl rfl ag32 sz32 (fun j u hj => by rw [Nat.zero_add]; exact bl.cell hj) ?_
  obtain ⟨f, i⟩ := uo_no (n := n) (s := s) (fun g => by have h1 := g.1; have h2 := g.2; omega)
  rw [f, i]
  exact ⟨_, _, rfl, DForm.nil, bo⟩
 refine wp_skip ?_
 refine zA (zB (zC ?_))
 refine qI rfl (zL (vs := []) Tryz.func51 nm51 rfl rfl rfl ?_)
 refine Calls.mono (newPool_spec a.pins) ?_
 rintro _ bp ⟨k, z, bq, rfl, au, av, aw⟩
 refine ⟨_, rfl, ?_⟩
 have af := a.tr aw
 have br := m.ext aw
 have bt := np_fresh av (x := (some b1)) (box_lt m)
 have bu : PIn w (noS) k (.slice none 0 0) (.slice none 0 0) (.slice none 0 0) z := PIn.fresh av a.size
 obtain ⟨c, ag⟩ : ∃ q, q = (⟨[], [], [], [], [], [], []⟩ : PSt) := ⟨_, rfl⟩
 rw [← ag] at au
 have ah : PoolOk c := by rw [ag]; exact PoolOk.empty
 have hq45l : c.ns.length = 0 := by rw [ag]; rfl
 obtain ⟨ai, aj, ak, al, am, an⟩ : ∃ (l r b : Value), l = .slice none 0 0 ∧ r = .slice none 0 0 ∧ b = .slice none 0 0 := ⟨_, _, _, rfl, rfl, rfl⟩
 have bv : Pk 65 3 bq bp k ai aj ak z c := by rw [al, am, an]; exact au
 have ax : PIn w (noS) k ai aj ak z := by rw [al, am, an]; exact bu
 have cm : (c.ns.map Nd.l).length = c.ns.length ∧ (c.ns.map Nd.r).length = c.ns.length := ⟨List.length_map .., List.length_map ..⟩
 have cn : c.bs.length = c.ns.length ∧ c.ns.length ≤ 1048576 := ⟨ah.ar.ok.len, ah.ar.ok.lim⟩
 have hnp49x : NP k ai aj ak z (some b1) := by rw [al, am, an]; exact bt
 refine qM (.pointer (some ⟨k, 0, none⟩)) ?_
 refine qe (zA (zB (zC ?_)))
 refine qM (.pointer (some ⟨k, 0, none⟩)) ?_
 refine qM (.pointer (some ⟨k, 0, none⟩)) ?_
 refine qM (vJ n) ?_
 refine qM (vJ s) ?_
 refine qI rfl (zL (vs := [(.pointer (some ⟨k, 0, none⟩)), (vJ n), (vJ s)]) Tryz.func76 nm76 rfl rfl rfl ?_)
 refine Calls.mono (ups_zspec af.pins bv ah (n := n) (s := s) (by omega) (by omega) (by omega)) ?_
 rintro _ co ⟨aa, cp, cq, cr, d, ct, rfl, bw, ao, bx, bz, ay, b0, b2, b3⟩
 refine ⟨_, rfl, ?_⟩
 have ap := af.trans ay ax
 have az := br.extS ay (NP.notb hnp49x)
 have cu := PIn.call ax bz af.size
 have cv := bx.len
 have cw : (d.ns.map Nd.l).length = d.ns.length ∧ (d.ns.map Nd.r).length = d.ns.length := ⟨List.length_map .., List.length_map ..⟩
 have cx : d.bs.length = d.ns.length ∧ d.ns.length ≤ 1048576 := ⟨ao.ar.ok.len, ao.ar.ok.lim⟩
 have cy := b3
 refine qI rfl (zL (vs := [(.pointer (some ⟨k, 0, none⟩)), (vJ aa)]) Tryz.func59 nm59 rfl rfl rfl ?_)
 refine Calls.mono (form_spec ap.pins bw ao b0) ?_
 rintro _ b4 ⟨y, cz, rfl, a0, a1⟩
 refine ⟨_, rfl, ?_⟩
 have a2 := ap.tr a1
 have b5 := az.ext a1
 have b6 := a0.one
 refine qD rfl (yX (v := (.agg [y].toArray)) rfl rfl) ?_
 refine qD rfl (yX (v := (.bool (fitB (pd d aa)))) rfl rfl) ?_
 refine q0 rfl rfl rfl (xA (cs' := [y]) (us := [y]) (v := (.agg [y].toArray)) sz32 rfl rfl rfl (yF b6) a2.pins b5 (Nat.le_of_ble_eq_true rfl) rfl (fun c0 b7 b8 aq c1 => ?_))
 have b9 := a2.write b8 aq ((yN o))
 have ca := a0.kept aq (Or.inr az.lt)
 have cb := Nat.le_trans (Nat.le_refl b4.heap.size) aq.size
 refine qM (.bool (fitB (pd d aa))) ?_
 refine qe (zA ?_)
 refine wp_ret ?_
 refine zU ?_
 refine xY (cs := [y]) (v := (.bool (fitB (pd d aa)))) rfl rfl rfl rfl rfl ag32 sz32 (fun j u hj => by rw [Nat.zero_add]; exact b7.cell hj) ?_
 obtain ⟨f, i⟩ := uo_yes (n := n) (s := s) ⟨by omega, by omega⟩
 rw [f, i, ← b2]
 exact ⟨_, _, rfl, (ca.wide ap.size cb), b9⟩

end UP5
end Go.Proofs.YtfnginkcmcfdfaaGreatDoor

set_option maxRecDepth 20000
set_option maxHeartbeats 2000000
namespace Go.Proofs.YtfnginkcmcfdfaaGreatDoor
namespace LUP
open Go.RowKit Go.GL Go.Proofs
open Go.Proofs.YtfnginkcmcfdfaaGreatDoor.B1
open Go.Proofs.YtfnginkcmcfdfaaGreatDoor.C1
open Go.Proofs.YtfnginkcmcfdfaaGreatDoor.D1
open Go.Proofs.YtfnginkcmcfdfaaGreatDoor.E1
open Go.Proofs.YtfnginkcmcfdfaaGreatDoor.G1
open Go.Proofs.YtfnginkcmcfdfaaGreatDoor.L1
open Go.Proofs.YtfnginkcmcfdfaaGreatDoor.NF1
open Go.Proofs.YtfnginkcmcfdfaaGreatDoor.SM1
open Go.Proofs.YtfnginkcmcfdfaaGreatDoor.UP4
open Go.Proofs.YtfnginkcmcfdfaaGreatDoor.UP5

















theorem markNodeX_spec {w : World} {G : Pin} {v : Value} {ps : List (Value × Value)} {ns : List Nd} {kz : Int} {lo hi : Nat} (hP : Pins G w) (ho : Own eVal2 99 G w 0 v ps) (hpl : ps.length = ns.length) (hav : ∀ u ∈ leafV ps, Apart u.ownBlock v.ownBlock) (hF : Lvs 3 G w lo hi (lvN ps ns)) (hsm : Small ns) (hk : 0 ≤ kz ∧ kz ≤ 1099511627776) :
  Calls Tryz.prog 60 [v, (vJ kz)].toArray w fun e w' => e = .returned (vJ (kz + totN ns)) ∧ Lvs 3 G w' lo hi (lvN ps (markN kz ns)) ∧ Ext (inV (leafV ps)) G w G w' := by
 refine zX (n := 27) Tryz.func60 Tryz.ntmps60 rfl rfl ?_
 have ae : Ext (inV (leafV ps)) G w G w := Ext.refl hP
 have hln := hsm.len
 refine zB (zC ?_)
 refine qM (vJ 0) ?_
 refine qe (zA (zB (zB (zC ?_))))
 refine qM (vJ 0) ?_
 refine qe (zA ?_)
 refine zZ ?_
 refine yO (fun (k : Nat) (en : Nat → Value) (W : World) => ∃ (y : Nat → Value) (j : Nat) (q : Int) (A : List Leaf), en = (upd (upd (upd (upd y 0 v) 1 (vJ q)) 4 (vJ 0)) 5 (vJ (j : Int))) ∧ k = ps.length - j ∧ Ext (inV (leafV ps)) G w G W ∧ (j ≤ ps.length) ∧ (0 ≤ q ∧ q ≤ kz + 2097152 * (j : Int)) ∧ (kz + totN ns = q + totN (ns.drop j)) ∧ (lvN ps (markN kz ns) = A ++ lvN (ps.drop j) (markN q (ns.drop j))) ∧ (Lvs 3 G W lo hi (A ++ lvN (ps.drop j) (ns.drop j))) ∧ (Own eVal2 99 G W 0 v (ps))) _ ⟨_, 0, kz, [], (pS 5 (pS 4 (pS 1 (pU 0)))), rfl, ae, Nat.zero_le _, (by omega), rfl, rfl, hF, ho⟩ ?_
 rintro k1 _ w2 ⟨y, j, q, A, rfl, av, d, hj, hq, hqt, hA, i, b⟩
 refine zB (zB (zC ?_))
 refine qM (vJ (j : Int)) ?_
 refine qM v ?_
 refine qD rfl (zP Tryz.underlying30 (v := v) rfl b.read) ?_
 refine qD rfl (yM rfl rfl) ?_
 refine qe (zA ?_)
 refine yD (p := ((j : Int) : Int) < (ps.length : Int)) rfl rfl (fun h6 => ?_) (fun h6 => ?_)
 ·skip
  have hso := hsm.opts j (by omega)
  refine wp_skip ?_
  refine zA (zB ?_)
  refine zZ ?_
  refine zB (zC ?_)
  refine qM v ?_
  refine qM (vJ (j : Int)) ?_
  refine qD rfl (zN Tryz.underlying30 sz99 (v := v) rfl rfl b.read (by omega) (by omega)) ?_
  refine qD rfl (xN (off := 0) Tryz.underlying99 rfl rfl nz65 (z := (j : Int)) (k := 0) rfl b.read (by omega) (by omega)) ?_
  obtain ⟨aw, ah, ax, ai⟩ := nm_el (j := j) default (b.at (z := (j : Int)) (by omega) (by omega)) rfl
  obtain ⟨rfl, ay⟩ := ah
  obtain ⟨a, f⟩ : ∃ u, u = (ps.getD j default).1 := ⟨_, rfl⟩
  refine qD rfl (ai 0 a (by rw [f]; rfl) ag65 rfl (Gadd.pins d.pins v)) ?_
  refine qM (vJ q) ?_
  have aa : a ∈ leafV ps := by rw [f]; exact (leafV_mem (by omega)).1
  have m : Lvs 3 G w2 lo hi (A ++ (a, (ns.getD j default).l) :: (((ps.getD j default).2, (ns.getD j default).r) :: lvN (ps.drop (j + 1)) (ns.drop (j + 1)))) := by rw [f, ← lvN_next (by omega) (by omega)]; exact i
  refine qI rfl (zL (vs := [a, (vJ q)]) Tryz.func108 nm108 rfl rfl rfl ?_)
  refine Calls.mono (markIntS_spec d.pins ((m.own _ (List.mem_append_right _ List.mem_cons_self)).weaken (Nat.zero_le _)) (by omega) (hso.1)) ?_
  rintro _ aj ⟨rfl, ak, ab⟩
  refine ⟨_, rfl, ?_⟩
  have o := mark_grown ab
  have s := d.write ab.pins o (fun k hk => Or.inr ⟨_, aa, hk⟩)
  have g := b.keptA o (hav _ aa).symm
  have al := Lvs.step m (ak.up (fun k hk => ((m.own _ (List.mem_append_right _ List.mem_cons_self)).lt k hk).1)) o
  refine qM (vJ (q + ((ns.getD j default).l.length : Int))) ?_
  refine qe (zA (zC ?_))
  refine qM v ?_
  refine qM (vJ (j : Int)) ?_
  refine qD rfl (zN Tryz.underlying30 sz99 (v := v) rfl rfl g.read (by omega) (by omega)) ?_
  refine qD rfl (xN (off := 1) Tryz.underlying99 rfl rfl nz65 (z := (j : Int)) (k := 0) rfl g.read (by omega) (by omega)) ?_
  obtain ⟨az, am, a0, an⟩ := nm_el (j := j) default (g.at (z := (j : Int)) (by omega) (by omega)) rfl
  obtain ⟨rfl, a1⟩ := am
  obtain ⟨c, h⟩ : ∃ u, u = (ps.getD j default).2 := ⟨_, rfl⟩
  refine qD rfl (an 1 c (by rw [h]; rfl) ag65 rfl (Gadd.pins s.pins v)) ?_
  refine qM (vJ (q + ((ns.getD j default).l.length : Int))) ?_
  have ac : c ∈ leafV ps := by rw [h]; exact (leafV_mem (by omega)).2
  have t : Lvs 3 G aj lo hi ((A ++ [(a, upL (q) (ns.getD j default).l.length)]) ++ (c, (ns.getD j default).r) :: lvN (ps.drop (j + 1)) (ns.drop (j + 1))) := by rw [h, List.append_assoc]; exact al
  refine qI rfl (zL (vs := [c, (vJ (q + ((ns.getD j default).l.length : Int)))]) Tryz.func108 nm108 rfl rfl rfl ?_)
  refine Calls.mono (markIntS_spec s.pins ((t.own _ (List.mem_append_right _ List.mem_cons_self)).weaken (Nat.zero_le _)) (by omega) (hso.2)) ?_
  rintro _ a2 ⟨rfl, ao, ad⟩
  refine ⟨_, rfl, ?_⟩
  have x := mark_grown ad
  have ap := s.write ad.pins x (fun k hk => Or.inr ⟨_, ac, hk⟩)
  have aq := g.keptA x (hav _ ac).symm
  have ar := Lvs.step t (ao.up (fun k hk => ((t.own _ (List.mem_append_right _ List.mem_cons_self)).lt k hk).1)) x
  refine qM (vJ ((q + ((ns.getD j default).l.length : Int)) + ((ns.getD j default).r.length : Int))) ?_
  refine qe ?_
  refine yG ?_
  refine zA (zC ?_)
  refine qM (vJ (j : Int)) ?_
  refine qD rfl (yL rfl rfl (by omega)) ?_
  refine qM (vJ ((j : Int) + 1)) ?_
  refine qe ?_
  refine yH ?_
  refine ⟨_, ?_, _, rfl, _, j + 1, (q + ((ns.getD j default).l.length : Int)) + ((ns.getD j default).r.length : Int), A ++ [(a, upL (q) (ns.getD j default).l.length)] ++ [(c, upL (q + ((ns.getD j default).l.length : Int)) (ns.getD j default).r.length)], (pS 5 (pS 4 (pS 1 (pU 0)))), rfl, ap, (by omega), (by omega), (hqt.trans (by rw [totN_next (by omega)]; omega)), (hA.trans (by rw [lvN_markN (by omega) (by omega), List.append_assoc, List.append_assoc, ← f, ← h]; rfl)), (by rw [List.append_assoc]; exact ar), aq⟩
  omega
 refine wp_exit ?_
 refine yC ?_
 refine yK ?_
 refine yI ?_
 refine zA (zB (zC ?_))
 refine qM (vJ q) ?_
 refine qM (vJ q) ?_
 refine qe (zA ?_)
 refine wp_ret ?_
 refine zU ?_
 refine zT (v := (vJ q)) rfl rfl rfl ?_
 rw [lvN_end (by omega), List.append_nil] at hA
 rw [lvN_end (by omega), List.append_nil] at i
 exact ⟨congrArg (fun z => Ending.returned (Value.int .i64 z)) (by rw [hqt, totN_end (by omega)]; omega), (by rw [hA]; exact i), d⟩

theorem markFormX_spec {w : World} {G : Pin} {v : Value} {ns : List Nd} {kz : Int} {lo hi : Nat} (hP : Pins G w) (hd : DForm 99 3 G w lo hi v ns) (hsz : hi ≤ w.heap.size) (hsm : Small ns) (hk : 0 ≤ kz ∧ kz ≤ 1099511627776) :
  Calls Tryz.prog 23 [(.agg [v].toArray), (.int .i64 kz)].toArray w fun e w' => e = .returned (.int .i64 (kz + totN ns)) ∧ DForm 99 3 G w' lo hi v (markN kz ns) ∧ Ext (inR lo hi) G w G w' := by
 refine zX (n := 10) Tryz.func23 Tryz.ntmps23 rfl rfl ?_
 have a : Ext (inR lo hi) G w G w := Ext.refl hP
 refine zB (zC ?_)
 refine qI rfl (o_box [v] (v := (.agg [v].toArray)) rfl rfl a.pins (fun b w2 h j l c => ?_))
 have m := a.step l c
 have o := hd.below c
 have ah := Nat.le_trans hsz c.size
 have p : hi ≤ b ∨ b < lo := Or.inl (by have e := Option.some.inj (congrArg some h); have := hsz; omega)
 have q : w.heap.size ≤ b := by have := a.size; omega
 obtain ⟨ai, f, d, r, s⟩ := j.shut m q
 have t := o.more f s p
 refine qM (.int .i64 0) ?_
 refine qe (zA (zB (zC ?_)))
 refine qD rfl (zQ (k := 0) rfl Tryz.underlying32 rfl nz30 rfl) ?_
 refine qD rfl (zS (u := v) ag30 rfl (d.pins _ _ _ (r 0 _ rfl))) ?_
 refine qM (.int .i64 kz) ?_
 obtain ⟨aj, x, y, z, aa, ab, ac⟩ := t.mark
 refine qI rfl (zL (vs := [v, (.int .i64 kz)]) Tryz.func60 nm60 rfl rfl rfl ?_)
 refine Calls.mono (markNodeX_spec d.pins x y z aa hsm hk) ?_
 rintro _ ak ⟨rfl, ad, g⟩
 refine ⟨_, rfl, ?_⟩
 have ae := d.trans g (fun i hi => Or.inr (ab i hi))
 have af := ac (markN_length _ _) ad g
 refine qM (.int .i64 (kz + totN ns)) ?_
 refine qe (zA (zB (zC ?_)))
 refine qM (.int .i64 (kz + totN ns)) ?_
 refine qM (.int .i64 (kz + totN ns)) ?_
 refine qe (zA ?_)
 refine wp_ret ?_
 refine zU ?_
 refine zT (v := (.int .i64 (kz + totN ns))) rfl rfl rfl ?_
 exact ⟨rfl, af.anti f, ae.shrink⟩

theorem heldNodeS_spec {w : World} {G : Pin} {v : Value} {ns : List Nd} {kz : Int} (hP : Pins G w) (hv : RSl eNode G v (markN kz ns)) (hsm : Small ns) (hk : 0 ≤ kz ∧ kz ≤ 1099511627776) :
  Calls Tryz.prog 61 [v, (vJ kz)].toArray w fun e w' => e = .returned (vJ (kz + totN ns)) ∧ w' = w := by
 refine zX (n := 31) Tryz.func61 Tryz.ntmps61 rfl rfl ?_
 have h : Ext noS G w G w := Ext.refl hP
 have hul := markN_length kz ns
 have hln := hsm.len
 refine zB (zC ?_)
 refine qM (vJ 0) ?_
 refine qe (zA (zB (zB (zC ?_))))
 refine qM (vJ 0) ?_
 refine qe (zA ?_)
 refine zZ ?_
 refine yO (fun (k : Nat) (en : Nat → Value) (W : World) => ∃ (b : Nat → Value) (j : Nat) (q : Int), en = (upd (upd (upd b 0 v) 1 (vJ q)) 5 (vJ (j : Int))) ∧ k = ns.length - j ∧ Ext noS G w G W ∧ (j ≤ ns.length) ∧ (W = w) ∧ (0 ≤ q ∧ q ≤ kz + 2097152 * (j : Int)) ∧ (kz + totN ns = q + totN (ns.drop j)) ∧ (markN kz ns).drop j = markN q (ns.drop j)) _ ⟨_, 0, kz, (pS 5 (pS 1 (pU 0))), rfl, h, Nat.zero_le _, rfl, (by omega), rfl, rfl⟩ ?_
 rintro u _ x ⟨b, j, q, rfl, y, a, hj, hw, hq, hqt, hA⟩
 subst hw
 refine zB (zB (zC ?_))
 refine qM (vJ (j : Int)) ?_
 refine qM v ?_
 refine qD rfl (zP Tryz.underlying30 (v := v) rfl hv) ?_
 refine qD rfl (yM rfl rfl) ?_
 refine qe (zA ?_)
 refine yD (p := ((j : Int) : Int) < ((markN kz ns).length : Int)) rfl rfl (fun i => ?_) (fun i => ?_)
 ·skip
  have hso := hsm.opts j (by omega)
  have hAj := markN_at (show j < ns.length by omega) hA
  refine wp_skip ?_
  refine zA (zB ?_)
  refine zZ ?_
  refine zB (zC ?_)
  refine qM v ?_
  refine qM (vJ (j : Int)) ?_
  refine qD rfl (zN Tryz.underlying30 sz99 (v := v) rfl rfl hv (by omega) (by omega)) ?_
  refine qD rfl (xN (off := 0) Tryz.underlying99 rfl rfl nz65 (z := (j : Int)) (k := 0) rfl hv (by omega) (by omega)) ?_
  obtain ⟨m, c, o⟩ := nm_nl (hv.at (z := (j : Int)) (by omega) (by omega)) (j := j) rfl
  have aa := c.max
  refine qD rfl (o ag65 rfl a.pins) ?_
  refine qM (vJ q) ?_
  refine qI rfl (zL (vs := [m, (vJ q)]) Tryz.func109 nm109 rfl rfl rfl ?_)
  refine Calls.mono (heldIntS_spec (n := (ns.getD j default).l.length) a.pins (by rw [← hAj.1]; exact c) (by omega) (hso.1)) ?_
  rintro _ _ ⟨rfl, rfl⟩
  refine ⟨_, rfl, ?_⟩
  refine qM (vJ (q + (((ns.getD j default).l.length : Int) : Int))) ?_
  refine qe (zA (zB (zB (zC ?_))))
  refine qM (vJ (q + (((ns.getD j default).l.length : Int) : Int))) ?_
  refine qD rfl (yM rfl rfl) ?_
  refine qe (zA ?_)
  refine yD (p := (q + (((ns.getD j default).l.length : Int) : Int) : Int) < 0) rfl rfl (fun d => ?_) (fun d => ?_)
  ·skip
   refine zB (zC ?_)
   refine qM (vJ (-1)) ?_
   refine qe (zA ?_)
   refine wp_ret ?_
   refine zU ?_
   refine zT (v := (vJ (-1))) rfl rfl rfl ?_
   exact absurd d (by omega)
  refine wp_skip ?_
  refine zA (zB (zC ?_))
  refine qM v ?_
  refine qM (vJ (j : Int)) ?_
  refine qD rfl (zN Tryz.underlying30 sz99 (v := v) rfl rfl hv (by omega) (by omega)) ?_
  refine qD rfl (xN (off := 1) Tryz.underlying99 rfl rfl nz65 (z := (j : Int)) (k := 0) rfl hv (by omega) (by omega)) ?_
  obtain ⟨s, f, t⟩ := nm_nr (hv.at (z := (j : Int)) (by omega) (by omega)) (j := j) rfl
  have ab := f.max
  refine qD rfl (t ag65 rfl a.pins) ?_
  refine qM (vJ (q + (((ns.getD j default).l.length : Int) : Int))) ?_
  refine qI rfl (zL (vs := [s, (vJ (q + (((ns.getD j default).l.length : Int) : Int)))]) Tryz.func109 nm109 rfl rfl rfl ?_)
  refine Calls.mono (heldIntS_spec (n := (ns.getD j default).r.length) a.pins (by rw [← hAj.2.1]; exact f) (by omega) (hso.2)) ?_
  rintro _ _ ⟨rfl, rfl⟩
  refine ⟨_, rfl, ?_⟩
  refine qM (vJ ((q + (((ns.getD j default).l.length : Int) : Int)) + (((ns.getD j default).r.length : Int) : Int))) ?_
  refine qe (zA (zB (zC ?_)))
  refine qM (vJ ((q + (((ns.getD j default).l.length : Int) : Int)) + (((ns.getD j default).r.length : Int) : Int))) ?_
  refine qD rfl (yM rfl rfl) ?_
  refine qe (zA ?_)
  refine yD (p := ((q + (((ns.getD j default).l.length : Int) : Int)) + (((ns.getD j default).r.length : Int) : Int) : Int) < 0) rfl rfl (fun g => ?_) (fun g => ?_)
  ·skip
   refine zB (zC ?_)
   refine qM (vJ (-1)) ?_
   refine qe (zA ?_)
   refine wp_ret ?_
   refine zU ?_
   refine zT (v := (vJ (-1))) rfl rfl rfl ?_
   exact absurd g (by omega)
  refine wp_skip ?_
  refine yG ?_
  refine zA (zC ?_)
  refine qM (vJ (j : Int)) ?_
  refine qD rfl (yL rfl rfl (by omega)) ?_
  refine qM (vJ ((j : Int) + 1)) ?_
  refine qe ?_
  refine yH ?_
  refine ⟨_, ?_, _, rfl, _, j + 1, (q + (((ns.getD j default).l.length : Int) : Int)) + (((ns.getD j default).r.length : Int) : Int), (pS 5 (pS 1 (pU 0))), rfl, a, (by omega), rfl, (by omega), (hqt.trans (by rw [totN_next (by omega)]; omega)), hAj.2.2⟩
  omega
 refine wp_exit ?_
 refine yC ?_
 refine yK ?_
 refine yI ?_
 refine zA (zB (zC ?_))
 refine qM (vJ q) ?_
 refine qM (vJ q) ?_
 refine qe (zA ?_)
 refine wp_ret ?_
 refine zU ?_
 refine zT (v := (vJ q)) rfl rfl rfl ?_
 exact ⟨congrArg (fun z => Ending.returned (Value.int .i64 z)) (by rw [hqt, totN_end (by omega)]; omega), rfl⟩

theorem heldFormX_spec {w : World} {G : Pin} {v : Value} {ns : List Nd} {kz : Int} (hP : Pins G w) (hv : RSl eNode G v (markN kz ns)) (hsm : Small ns) (hk : 0 ≤ kz ∧ kz ≤ 1099511627776) :
  Calls Tryz.prog 24 [(.agg [v].toArray), (.int .i64 kz)].toArray w fun e w' => ∃ G', e = .returned (.int .i64 (kz + totN ns)) ∧ Ext noS G w G' w' := by
 refine zX (n := 12) Tryz.func24 Tryz.ntmps24 rfl rfl ?_
 have a : Ext noS G w G w := Ext.refl hP
 have htn := totN_nonneg ns
 refine zB (zC ?_)
 refine qI rfl (o_box [v] (v := (.agg [v].toArray)) rfl rfl a.pins (fun d o q f g h => ?_))
 have i := a.step g h
 have j : w.heap.size ≤ d := by have := a.size; omega
 obtain ⟨r, l, b, m, s⟩ := f.shut i j
 refine qM (.int .i64 0) ?_
 refine qe (zA (zB (zC ?_)))
 refine qD rfl (zQ (k := 0) rfl Tryz.underlying32 rfl nz30 rfl) ?_
 refine qD rfl (zS (u := v) ag30 rfl (b.pins _ _ _ (m 0 _ rfl))) ?_
 refine qM (.int .i64 kz) ?_
 refine qI rfl (zL (vs := [v, (.int .i64 kz)]) Tryz.func61 nm61 rfl rfl rfl ?_)
 refine Calls.mono (heldNodeS_spec b.pins (hv.mono l) hsm hk) ?_
 rintro _ _ ⟨rfl, rfl⟩
 refine ⟨_, rfl, ?_⟩
 refine qM (.int .i64 (kz + totN ns)) ?_
 refine qe (zA (zB (zB (zC ?_))))
 refine qM (.int .i64 (kz + totN ns)) ?_
 refine qD rfl (yM rfl rfl) ?_
 refine qe (zA ?_)
 refine yD (p := (kz + totN ns : Int) < 0) rfl rfl (fun c => ?_) (fun c => ?_)
 ·skip
  refine zB (zC ?_)
  refine qM (.int .i64 (-1)) ?_
  refine qe (zA ?_)
  refine wp_ret ?_
  refine zU ?_
  refine zT (v := (.int .i64 (-1))) rfl rfl rfl ?_
  exact absurd c (by omega)
 refine wp_skip ?_
 refine zA (zB (zC ?_))
 refine qM (.int .i64 (kz + totN ns)) ?_
 refine qM (.int .i64 (kz + totN ns)) ?_
 refine qe (zA ?_)
 refine wp_ret ?_
 refine zU ?_
 refine zT (v := (.int .i64 (kz + totN ns))) rfl rfl rfl ?_
 exact ⟨_, rfl, b⟩

theorem eqForm_same {w : World} {G : Pin} {u v : Value} {xs : List Nd} (hP : Pins G w) (hu : RSl eNode G u xs) (hv : RSl eNode G v xs) :
  Calls Tryz.prog 20 [(.agg [u].toArray), (.agg [v].toArray)].toArray w fun e w' => ∃ G', e = .returned (.bool true) ∧ Ext noS G w G' w' := by
 refine (eqForm_spec hP hu hv).mono ?_
 rintro e w' ⟨G', rfl, hx⟩
 exact ⟨G', by simp, hx⟩

theorem iUpsForm_spec {w : World} {G : Pin} {n s : Int} (hP : Pins G w) :
  Calls Tryz.prog 37 [.int .i64 n, .int .i64 s].toArray w fun e w' => ∃ (u : Value) (G' : Pin), e = .returned (.tuple #[.agg [u].toArray, .bool (uoB n s)]) ∧ RSl eNode G' u (uoF n s) ∧ Ext noS G w G' w' := by
 refine (iUpsForm_dspec (n := n) (s := s) hP).mono ?_
 rintro e w' ⟨u, G', rfl, hd, hx⟩
 obtain ⟨G'', h1, h2⟩ := hd.give hx
 exact ⟨u, G'', rfl, h1, h2⟩

theorem law {w : World} {G : Pin} {n s : Int} (hP : Pins G w) :
  Calls Tryz.prog 10 [(vJ n), (vJ s)].toArray w fun e w' => ∃ G', e = .returned (.bool true) ∧ Ext noS G w G' w' := by
 refine zX (n := 68) Tryz.func10 Tryz.ntmps10 rfl rfl ?_
 have ak : Ext noS G w G w := Ext.refl hP
 have htf := totN_nonneg (uoF n s)
 refine zB (zC ?_)
 refine qM (.bool false) ?_
 refine qe (zA (zB (zC ?_)))
 refine qM (vJ n) ?_
 refine qM (vJ s) ?_
 refine qI rfl (zL (vs := [(vJ n), (vJ s)]) Tryz.func36 nm36 rfl rfl rfl ?_)
 refine Calls.mono (sUpsForm_spec (n := n) (s := s) ak.pins) ?_
 rintro _ w3 ⟨b, G2, rfl, y, a4⟩
 refine ⟨_, rfl, ?_⟩
 have z := ak.tr a4
 refine qM (.tuple #[(.agg [b].toArray), (.bool (uoB n s))]) ?_
 refine qD rfl (yX (v := (.agg [b].toArray)) rfl rfl) ?_
 refine qD rfl (yX (v := (.bool (uoB n s))) rfl rfl) ?_
 refine qI rfl (xE [(.slice none 0 0)] zr32 rfl z.pins (fun b7 w8 cg a6 a7 a8 => ?_))
 have al := z.step a7 a8
 have am : w.heap.size ≤ b7 := by have := z.size; omega
 refine q0 rfl rfl rfl (xA (cs' := [b]) (us := [b]) (v := (.agg [b].toArray)) sz32 rfl rfl rfl (yF y.one) al.pins a6 (Nat.le_of_ble_eq_true rfl) rfl (fun a9 ba bb bc ch => ?_))
 have bd := al.write bb bc ((yN am))
 obtain ⟨ci, an, q, ao, cj⟩ := ba.shut bd am
 refine qM (.bool (uoB n s)) ?_
 refine qe (zA (zB (zC ?_)))
 refine qM (vJ n) ?_
 refine qM (vJ s) ?_
 refine qI rfl (zL (vs := [(vJ n), (vJ s)]) Tryz.func37 nm37 rfl rfl rfl ?_)
 refine Calls.mono (iUpsForm_dspec (n := n) (s := s) q.pins) ?_
 rintro _ aa ⟨a, ck, rfl, ap, d⟩
 refine ⟨_, rfl, ?_⟩
 have ab := q.tr d
 have be := ap.one
 refine qM (.tuple #[(.agg [a].toArray), (.bool (uoB n s))]) ?_
 refine qD rfl (yX (v := (.agg [a].toArray)) rfl rfl) ?_
 refine qD rfl (yX (v := (.bool (uoB n s))) rfl rfl) ?_
 refine qI rfl (xE [(.slice none 0 0)] zr32 rfl ab.pins (fun ac cl bf bg bh ad => ?_))
 have aq := ab.step bh ad
 have bi := ap.below ad
 have bj := Nat.le_trans (Nat.le_refl aa.heap.size) ad.size
 have ar : aa.heap.size ≤ ac ∨ ac < a9.heap.size := Or.inl (by have e := Option.some.inj (congrArg some bf); have := (Nat.le_refl aa.heap.size); omega)
 have au : w.heap.size ≤ ac := by have := ab.size; omega
 refine q0 rfl rfl rfl (xA (cs' := [a]) (us := [a]) (v := (.agg [a].toArray)) sz32 rfl rfl rfl (yF be) aq.pins bg (Nat.le_of_ble_eq_true rfl) rfl (fun cm bk bl ae cn => ?_))
 have bm := aq.write bl ae ((yN au))
 have bn := bi.kept ae ar
 have bo := Nat.le_trans bj ae.size
 obtain ⟨co, f, g, r, bp⟩ := bk.shut bm au
 have av := bn.more f bp ar
 refine qM (.bool (uoB n s)) ?_
 refine qe (zA (zB (zB (zC ?_))))
 refine qD rfl (xW (cs := [a]) ag32 sz32 rfl (fun j u hj => g.pins _ _ _ (r _ _ (by simpa using hj)))) ?_
 refine qD rfl (xW (cs := [b]) ag32 sz32 rfl (fun j u hj => (Pins.of_le g.pins (Pin.le_trans d.le f)) _ _ _ (ao _ _ (by simpa using hj)))) ?_
 obtain ⟨cp, bq, br, bs, _⟩ := av.read g.pins
 refine qI rfl (zL (vs := [(.agg [a].toArray), (.agg [b].toArray)]) Tryz.func20 nm20 rfl rfl rfl ?_)
 refine Calls.mono (eqForm_same br bs ((y.mono (Pin.le_trans (Pin.le_trans an d.le) f)).mono bq)) ?_
 rintro _ cq ⟨cr, rfl, bt⟩
 refine ⟨_, rfl, ?_⟩
 have t := deep_back g.pins bt
 have af := g.step t.pins t.below
 have bu := av.below t.below
 have bv := Nat.le_trans bo t.below.size
 refine qD rfl (r_not rfl) ?_
 refine qM (.bool false) ?_
 refine qN (zR (v := (.bool (uoB n s))) rfl) ?_
 refine qN (zR (v := (.bool (uoB n s))) rfl) ?_
 refine qN (r_neqB_same Tryz.underlying4 rfl rfl) ?_
 refine qD rfl (xG (v := (.bool false)) rfl rfl) ?_
 refine qe (zA ?_)
 refine c_ifF rfl rfl ?_
 refine wp_skip ?_
 refine zA (zB (zC ?_))
 refine qM (vJ 1) ?_
 refine qe (zA (zB (zC ?_)))
 refine qD rfl (xW (cs := [a]) ag32 sz32 rfl (fun j u hj => af.pins _ _ _ (r _ _ (by simpa using hj)))) ?_
 refine qM (vJ 1) ?_
 refine qI rfl (zL (vs := [(.agg [a].toArray), (vJ 1)]) Tryz.func23 nm23 rfl rfl rfl ?_)
 refine Calls.mono (markFormX_spec (kz := 1) af.pins bu bv (uo_small _ _) (by omega)) ?_
 rintro _ ct ⟨rfl, bw, bx⟩
 refine ⟨_, rfl, ?_⟩
 have aw := af.trans bx (fun i hi => Or.inl (Nat.le_trans q.size hi.1))
 obtain ⟨cu, k, bz, ax, b0⟩ := bw.read aw.pins
 have ag := aw.promise k bz b0 q.size
 refine qM (vJ (1 + totN (uoF n s))) ?_
 refine qe (zA (zB (zC ?_)))
 refine qM (vJ 1) ?_
 refine qe (zA (zB (zC ?_)))
 refine qD rfl (xW (cs := [a]) ag32 sz32 rfl (fun j u hj => (Pins.of_le ag.pins k) _ _ _ (r _ _ (by simpa using hj)))) ?_
 refine qM (vJ 1) ?_
 refine qI rfl (zL (vs := [(.agg [a].toArray), (vJ 1)]) Tryz.func24 nm24 rfl rfl rfl ?_)
 refine Calls.mono (heldFormX_spec (kz := 1) (ns := uoF n s) ag.pins ax (uo_small _ _) (by omega)) ?_
 rintro _ cv ⟨cw, rfl, l⟩
 refine ⟨_, rfl, ?_⟩
 have ay := ag.tr l
 refine qM (vJ (1 + totN (uoF n s))) ?_
 refine qe (zA (zB (zB (zC ?_))))
 refine qM (vJ (1 + totN (uoF n s))) ?_
 refine qD rfl (yM rfl rfl) ?_
 refine qe (zA ?_)
 refine yD (p := (1 + totN (uoF n s) : Int) < 0) rfl rfl (fun az => ?_) (fun az => ?_)
 ·skip
  refine zB (zC ?_)
  refine qM (.bool false) ?_
  refine qe (zA ?_)
  refine wp_ret ?_
  refine zU ?_
  refine zT (v := (.bool false)) rfl rfl rfl ?_
  exfalso; omega
 refine wp_skip ?_
 refine zA (zB (zB (zC ?_)))
 refine qM (vJ (1 + totN (uoF n s))) ?_
 refine qM (vJ (1 + totN (uoF n s))) ?_
 refine qD rfl (r_neq rfl rfl) ?_
 refine qe (zA ?_)
 refine yD (p := (1 + totN (uoF n s) : Int) ≠ (1 + totN (uoF n s))) rfl rfl (fun a0 => ?_) (fun a0 => ?_)
 ·skip
  refine zB (zC ?_)
  refine qM (.bool false) ?_
  refine qe (zA ?_)
  refine wp_ret ?_
  refine zU ?_
  refine zT (v := (.bool false)) rfl rfl rfl ?_
  exfalso; omega
 refine wp_skip ?_
 refine zA (zB (zC ?_))
 refine qM (vJ n) ?_
 refine qM (vJ s) ?_
 refine qI rfl (zL (vs := [(vJ n), (vJ s)]) Tryz.func37 nm37 rfl rfl rfl ?_)
 refine Calls.mono (iUpsForm_spec (n := n) (s := s) ay.pins) ?_
 rintro _ cx ⟨c, cy, rfl, a1, m⟩
 refine ⟨_, rfl, ?_⟩
 have ah := ay.tr m
 refine qM (.tuple #[(.agg [c].toArray), (.bool (uoB n s))]) ?_
 refine qD rfl (yX (v := (.agg [c].toArray)) rfl rfl) ?_
 refine qD rfl (yX (v := (.bool (uoB n s))) rfl rfl) ?_
 refine qI rfl (xE [(.slice none 0 0)] zr32 rfl ah.pins (fun b1 cz c0 b2 b3 b4 => ?_))
 have a2 := ah.step b3 b4
 have a3 : w.heap.size ≤ b1 := by have := ah.size; omega
 refine q0 rfl rfl rfl (xA (cs' := [c]) (us := [c]) (v := (.agg [c].toArray)) sz32 rfl rfl rfl (yF a1.one) a2.pins b2 (Nat.le_of_ble_eq_true rfl) rfl (fun c1 b5 b6 b8 c2 => ?_))
 have b9 := a2.write b6 b8 ((yN a3))
 obtain ⟨c3, o, x, ca, c4⟩ := b5.shut b9 a3
 refine qM (.bool (uoB n s)) ?_
 refine qe (zA (zB (zB (zC ?_))))
 refine qD rfl (xW (cs := [c]) ag32 sz32 rfl (fun j u hj => x.pins _ _ _ (ca _ _ (by simpa using hj)))) ?_
 refine qD rfl (xW (cs := [b]) ag32 sz32 rfl (fun j u hj => (Pins.of_le x.pins (Pin.le_trans (Pin.le_trans (Pin.le_trans (Pin.le_trans (Pin.le_trans d.le f) k) l.le) m.le) o)) _ _ _ (ao _ _ (by simpa using hj)))) ?_
 refine qI rfl (zL (vs := [(.agg [c].toArray), (.agg [b].toArray)]) Tryz.func20 nm20 rfl rfl rfl ?_)
 refine Calls.mono (eqForm_same x.pins (a1.mono o) (y.mono (Pin.le_trans (Pin.le_trans (Pin.le_trans (Pin.le_trans (Pin.le_trans (Pin.le_trans an d.le) f) k) l.le) m.le) o))) ?_
 rintro _ c5 ⟨c6, rfl, ai⟩
 refine ⟨_, rfl, ?_⟩
 have aj := x.tr ai
 refine qD rfl (r_not rfl) ?_
 refine qM (.bool false) ?_
 refine qN (zR (v := (.bool (uoB n s))) rfl) ?_
 refine qN (zR (v := (.bool (uoB n s))) rfl) ?_
 refine qN (r_neqB_same Tryz.underlying4 rfl rfl) ?_
 refine qD rfl (xG (v := (.bool false)) rfl rfl) ?_
 refine qe (zA ?_)
 refine c_ifF rfl rfl ?_
 refine wp_skip ?_
 refine zA (zB (zC ?_))
 refine qM (vJ 1) ?_
 refine qe (zA (zB (zC ?_)))
 refine qD rfl (xW (cs := [a]) ag32 sz32 rfl (fun j u hj => (Pins.of_le aj.pins (Pin.le_trans (Pin.le_trans (Pin.le_trans (Pin.le_trans k l.le) m.le) o) ai.le)) _ _ _ (r _ _ (by simpa using hj)))) ?_
 refine qM (vJ 1) ?_
 refine qI rfl (zL (vs := [(.agg [a].toArray), (vJ 1)]) Tryz.func24 nm24 rfl rfl rfl ?_)
 refine Calls.mono (heldFormX_spec (kz := 1) (ns := uoF n s) aj.pins (ax.mono (Pin.le_trans (Pin.le_trans (Pin.le_trans l.le m.le) o) ai.le)) (uo_small _ _) (by omega)) ?_
 rintro _ c7 ⟨c8, rfl, cb⟩
 refine ⟨_, rfl, ?_⟩
 have cc := aj.tr cb
 refine qM (vJ (1 + totN (uoF n s))) ?_
 refine qe (zA (zB (zB (zC ?_))))
 refine qM (vJ (1 + totN (uoF n s))) ?_
 refine qD rfl (yM rfl rfl) ?_
 refine qe (zA ?_)
 refine yD (p := (1 + totN (uoF n s) : Int) < 0) rfl rfl (fun h => absurd h az) (fun _ => ?_)
 refine wp_skip ?_
 refine zA (zB (zB (zC ?_)))
 refine qM (vJ (1 + totN (uoF n s))) ?_
 refine qM (vJ (1 + totN (uoF n s))) ?_
 refine qD rfl (r_neq rfl rfl) ?_
 refine qe (zA ?_)
 refine yD (p := (1 + totN (uoF n s) : Int) ≠ (1 + totN (uoF n s))) rfl rfl (fun h => absurd h a0) (fun _ => ?_)
 refine wp_skip ?_
 refine zA (zB (zC ?_))
 refine qM (.bool true) ?_
 refine qe (zA ?_)
 refine wp_ret ?_
 refine zU ?_
 refine zT (v := (.bool true)) rfl rfl rfl ?_
 exact ⟨_, rfl, cc⟩

end LUP
end Go.Proofs.YtfnginkcmcfdfaaGreatDoor
