/- Texts of this claim in one file: PO1, PL1, PF1, OR1, SF1, DR1, MK1, DR2, DV1, DV2, WN1, WN2. -/
import Derived.Test.YtkfgdhanaijddaaDoorOc4
import Derived.Test.YtkfgdhanaijddaaDoorChecked
set_option maxRecDepth 20000
set_option maxHeartbeats 2000000
namespace Go.Proofs.YtkfgdhanaijddaaDoor
namespace PO1
open Go.RowKit Go.GL Go.Proofs
open Go.Proofs.YtkfgdhanaijddaaDoor.B1
open Go.Proofs.YtkfgdhanaijddaaDoor.K1







theorem mk5 : (Tryd.prog.info? 5).map (fun i => (i.size, i.bytes, i.zero)) = some (1, 1, some (.int .u8 0)) := by kernel_rfl















theorem clone_spec {w : World} {G : Pin} {v : Value} {xs : List Int} (hP : Pins G w) (hv : RSl eInt G v xs) (hs : xs.length ≤ 1048576) :
  Calls Tryd.prog 82 [v].toArray w fun e w' => ∃ (u : Value) (G' : Pin), e = .returned u ∧ Own eInt 3 G' w' w.heap.size u xs ∧ Ext noS G w G' w' := by
 refine zV (n := 8) Tryd.func82 Tryd.ntmps82 rfl rfl ?_
 have a : Ext noS G w G w := Ext.refl hP
 refine zB (zC ?_)
 refine qM (.slice none 0 0) ?_
 refine qe (zA (zB (zB (zC ?_))))
 refine qM v ?_
 refine qD rfl (r_eqlNil Tryd.underlying40 hv rfl rfl) ?_
 refine qe (zA ?_)
 refine c_if rfl rfl (fun c => ?_) (fun c => ?_)
 ·skip
  refine zB (zC ?_)
  refine qM (.slice none 0 0) ?_
  refine qe (zA ?_)
  refine wp_ret ?_
  refine zP ?_
  refine zM (v := (.slice none 0 0)) rfl rfl rfl ?_
  have h := nil_of hv c
  subst h
  exact ⟨_, _, rfl, Own.nil _ _ _ _ _, a⟩
 refine wp_skip ?_
 refine zA (zB (zC ?_))
 refine qI rfl (xH (E := eInt) (e := 3) Tryd.underlying40 sz3 a.pins (fun d i j k l r => ?_))
 have b := a.step k l
 have f : Own eInt 3 G i w.heap.size d ([]) := j.weaken a.size
 refine qM v ?_
 refine qI rfl (oA (E := eInt) (v := d) (u := v) 8 Tryd.underlying40 ap3 (by decide) rfl rfl b.pins f ((hv.mono (Pin.le_refl _)).src b.pins (by decide)) (b.size) (fun g s m o p t => ?_))
 have q := b.write o p ((zX f))
 have x : (([]) ++ xs).length = ([]).length + xs.length := List.length_append
 refine qM g ?_
 refine qe (zA ?_)
 refine wp_ret ?_
 refine zP ?_
 refine zM (v := g) rfl rfl rfl ?_
 exact ⟨_, _, rfl, m, q⟩

theorem sortI_spec {w : World} {G : Pin} {e base : Nat} {v : Value} {xs : List Int} (hP : Pins G w) (hv : Own eInt e G w base v xs) (hl : xs.length ≤ 1073741824) :
  Calls Tryd.prog 83 [v].toArray w fun en w' => ∃ G', en = .returned (.tuple #[]) ∧ Own eInt e G' w' base v (sortM xs) ∧ Ext (inO v.ownBlock) G w G' w' := by
 rcases own_cases hv with ⟨rfl, rfl⟩ | ⟨g, cap, rfl⟩
 ·refine (Tryd.slices_Sort_int_none none 0 w).mono ?_
  rintro en w' ⟨rfl, rfl⟩
  exact ⟨G, rfl, by simpa [sortM] using hv, Ext.refl hP⟩
 ·obtain ⟨_, h1, h2, h3⟩ := own_holds hv
  refine (Tryd.slices_Sort_int g 0 cap xs w h3 h1 (by omega)).mono ?_
  rintro en w' ⟨rfl, m, os, hw⟩
  obtain ⟨a, b, c⟩ := own_put (ys := sortM xs) hv hP hw (sortM_length xs) (List.take_length ..)
  rw [sortM_length] at a
  exact ⟨G, rfl, a, Ext.one b c⟩
theorem compactI_spec {w : World} {G : Pin} {e base : Nat} {v : Value} {xs : List Int} (hP : Pins G w) (hv : Own eInt e G w base v xs) (hl : xs.length ≤ 1073741824) :
  Calls Tryd.prog 84 [v].toArray w fun en w' => ∃ (u : Value) (G' : Pin), en = .returned u ∧ Own eInt e G' w' base u (Go.Lib.compact xs) ∧ Lo w (inO v.ownBlock) u.ownBlock ∧ Ext (inO v.ownBlock) G w G' w' := by
 rcases own_cases hv with ⟨rfl, rfl⟩ | ⟨g, cap, rfl⟩
 ·refine (Tryd.slices_Compact_int_empty none 0 w).mono ?_
  rintro en w' ⟨rfl, rfl⟩
  exact ⟨_, G, rfl, hv, xB, Ext.refl hP⟩
 ·obtain ⟨_, h1, h2, h3⟩ := own_holds hv
  refine (Tryd.slices_Compact_int g 0 cap xs w h3 (by omega) h2).mono ?_
  rintro en w' ⟨rfl, m, hw⟩
  have hcl := compact_len xs
  obtain ⟨a, b, c⟩ := own_put (os := #[]) (ys := Go.Lib.compact xs) hv hP (hw.trans (Go.Sort.grow_empty _).symm) (by simp; omega) (List.take_left ..)
  exact ⟨_, G, rfl, a, xB, Ext.one b c⟩

theorem distinct_spec {w : World} {G : Pin} {v : Value} {xs : List Int} (hP : Pins G w) (hv : RSl eInt G v xs) (hs : xs.length ≤ 1048576) :
  Calls Tryd.prog 79 [v].toArray w fun e w' => ∃ (u : Value) (G' : Pin), e = .returned u ∧ Own eInt 3 G' w' w.heap.size u (sortL xs) ∧ Ext noS G w G' w' := by
 refine zV (n := 10) Tryd.func79 Tryd.ntmps79 rfl rfl ?_
 have b : Ext noS G w G w := Ext.refl hP
 refine zB (zC ?_)
 refine qM (.slice none 0 0) ?_
 refine qe (zA (zB (zC ?_)))
 refine qM v ?_
 refine qI rfl (zL (vs := [v]) Tryd.func82 nm82 rfl rfl rfl ?_)
 refine Calls.mono (clone_spec b.pins hv (by omega)) ?_
 rintro _ l ⟨a, m, rfl, o, p⟩
 refine ⟨_, rfl, ?_⟩
 have f := b.tr p
 have g : Own eInt 3 m l w.heap.size a xs := o.weaken b.size
 refine qM a ?_
 refine qe (zA (zB (zC ?_)))
 refine qM a ?_
 refine qI rfl (zL (vs := [a]) Tryd.func83 nm83 rfl rfl rfl ?_)
 refine Calls.mono (sortI_spec f.pins g (by omega)) ?_
 rintro _ z ⟨G8, rfl, c, q⟩
 refine ⟨_, rfl, ?_⟩
 have d := f.trans q (fun i hi => (zX g) i hi)
 have ab := sortM_length xs
 refine qe (zA (zB (zC ?_)))
 refine qM a ?_
 refine qI rfl (zL (vs := [a]) Tryd.func84 nm84 rfl rfl rfl ?_)
 refine Calls.mono (compactI_spec d.pins (c.weaken (Nat.zero_le _)) (by omega)) ?_
 rintro _ ac ⟨j, ad, rfl, r, s, t⟩
 refine ⟨_, rfl, ?_⟩
 have x := d.trans t (fun i hi => (zX c) i hi)
 have y := r.up (lo := w.heap.size) (fun k hk => (s k hk).elim (fun h => Nat.le_trans d.size h) (fun h => (c.lt k h).1))
 refine qM j ?_
 refine qe (zA ?_)
 refine wp_ret ?_
 refine zP ?_
 refine zM (v := j) rfl rfl rfl ?_
 exact ⟨_, _, rfl, (by rw [← distinct_eq]; simpa using y), x⟩

theorem node_spec {w : World} {G : Pin} {p : Nat} {L R B : Value} {mm : PM} {q : PSt} (hP : Pins G w) (hpk : Pk 40 3 G w p L R B mm q) (hok : PoolOk q) {x y : Value} {xs ys : List Int} (hx : RSl eInt G x xs) (hy : RSl eInt G y ys) (hlim : q.ns.length + 1 ≤ 1048576) (hls : xs.length ≤ 1048576 ∧ ys.length ≤ 1048576) (hk1 : ∀ i, i < xs.length → 0 ≤ xs.getD i 0 ∧ xs.getD i 0 < q.ns.length) (hk2 : ∀ i, i < ys.length → 0 ≤ ys.getD i 0 ∧ ys.getD i 0 < q.ns.length) :
  Calls Tryd.prog 66 [(.pointer (some ⟨p, 0, none⟩)), x, y].toArray w fun e w' => ∃ (z : Int) (L' R' B' : Value) (q' : PSt) (G' : Pin), e = .returned (vJ z) ∧ Pk 40 3 G' w' p L' R' B' mm q' ∧ PoolOk q' ∧ PX q q' ∧ PLo w p L R B mm L' R' B' ∧ Ext (inP p L R B mm) G w G' w' ∧ PlaceOk q' z ∧ pd q' z = mkG (xs.map (pd q)) (ys.map (pd q)) ∧ q'.ns.length ≤ q.ns.length + 1 ∧ (q'.cm = q.cm ∧ (q'.ns.length = q.ns.length ∨ z = q.ns.length)) := by
 refine zV (n := 130) Tryd.func66 Tryd.ntmps66 rfl rfl ?_
 have cf : Ext (inP p L R B mm) G w G w := Ext.refl hP
 have hpin : PIn w (inP p L R B mm) p L R B mm := PIn.self
 have lf : (q.ns.map Nd.l).length = q.ns.length ∧ (q.ns.map Nd.r).length = q.ns.length := ⟨List.length_map .., List.length_map ..⟩
 have lg : q.bs.length = q.ns.length ∧ q.ns.length ≤ 1048576 := ⟨hok.ar.ok.len, hok.ar.ok.lim⟩
 obtain ⟨d, aq⟩ : ∃ l, l = sortL xs := ⟨_, rfl⟩
 obtain ⟨g, au⟩ : ∃ l, l = sortL ys := ⟨_, rfl⟩
 have bo := sort_bounds hk1
 have cg := sort_bounds hk2
 rw [← aq] at bo
 rw [← au] at cg
 have lh : d.length ≤ 1048576 := by rw [aq]; exact Nat.le_trans qO hls.1
 have li : g.length ≤ 1048576 := by rw [au]; exact Nat.le_trans qO hls.2
 refine zB (zC ?_)
 refine qM (vJ 0) ?_
 refine qe (zA (zB (zC ?_)))
 refine qM x ?_
 refine qI rfl (zL (vs := [x]) Tryd.func79 nm79 rfl rfl rfl ?_)
 refine Calls.mono (distinct_spec cf.pins hx (by omega)) ?_
 rintro _ w5 ⟨u3, G4, rfl, ch, ci⟩
 refine ⟨_, rfl, ?_⟩
 rw [← aq] at ch
 have cj := cf.tr ci
 have dk := hpk.ext ci
 have bp := hpk.new (x := u3.ownBlock) (fun k hk => (ch.lt k hk).1)
 have dl : Own eInt 3 G4 w5 w.heap.size u3 d := ch.weaken cf.size
 refine qM y ?_
 refine qI rfl (zL (vs := [y]) Tryd.func79 nm79 rfl rfl rfl ?_)
 refine Calls.mono (distinct_spec cj.pins (hy.mono ci.le) (by omega)) ?_
 rintro _ gt ⟨t, bq, rfl, br, ck⟩
 refine ⟨_, rfl, ?_⟩
 rw [← au] at br
 have cl := cj.tr ck
 have cn := dl.ext ck
 have dm := dk.ext ck
 have gu := zT br.lt dl.lt
 have a2 := dk.new (x := t.ownBlock) (fun k hk => (br.lt k hk).1)
 have co : Own eInt 3 bq gt w.heap.size t g := br.weaken cj.size
 refine qM u3 ?_
 refine qM t ?_
 refine qe (zA (zB (zC ?_)))
 refine qM u3 ?_
 refine qD rfl (zO Tryd.underlying40 (v := u3) rfl cn.read) ?_
 refine qM t ?_
 refine qD rfl (zO Tryd.underlying40 (v := t) rfl co.read) ?_
 refine qD rfl (yJ rfl rfl (by omega)) ?_
 refine qD rfl (r_mul rfl rfl (by omega)) ?_
 refine qD rfl (yJ rfl rfl (by omega)) ?_
 refine qI rfl (o_make0 (E := eByte) Tryd.underlying22 mk5 rfl rfl cl.pins (by omega) (by omega) (by omega) (fun a3 gv gw dn bt cp => ?_))
 have gx := cl.step dn bt
 have dp := cn.below bt
 have gy := co.below bt
 have gz := dm.below bt dn
 have g0 : Apart a3.ownBlock u3.ownBlock := zG cp cn.lt
 have g1 : Apart a3.ownBlock t.ownBlock := zG cp co.lt
 have g2 := dm.new (x := a3.ownBlock) (fun k hk => by rw [cp] at hk; cases hk; exact Nat.le_refl _)
 have g3 : Own eByte 5 bq gv w.heap.size a3 ([]) := gw.weaken cl.size
 refine qM a3 ?_
 refine qe (zA (zB (zC ?_)))
 refine qM (vJ 0) ?_
 refine qe (zA (zB (zB (zC ?_))))
 refine qM u3 ?_
 refine qD rfl (zO Tryd.underlying40 (v := u3) rfl dp.read) ?_
 refine qM (vJ 0) ?_
 refine qe (zA ?_)
 refine zW ?_
 refine yL (fun (k : Nat) (en : Nat → Value) (W : World) => ∃ (ba : Nat → Value) (i : Nat) (kva : Value) (kxa : List UInt8) (bn : Int) (GLa : Pin), en = (upd (upd (upd (upd (upd (upd (upd (upd (upd ba 0 (.pointer (some ⟨p, 0, none⟩))) 1 u3) 2 t) 6 (vJ 0)) 7 kva) 8 (vJ bn)) 28 u3) 29 (vJ (d.length : Int))) 30 (vJ (i : Int))) ∧ k = d.length - i ∧ Ext (inP p L R B mm) G w GLa W ∧ Pin.le bq GLa ∧ (i ≤ d.length) ∧ (kxa = keyL (d.take i)) ∧ (bn = bornOf q.bs (d.take i) 0) ∧ (0 ≤ bn ∧ bn ≤ q.ns.length) ∧ (Own eByte 5 GLa W w.heap.size kva (kxa)) ∧ (Own eInt 3 GLa W w.heap.size u3 (d)) ∧ (Own eInt 3 GLa W w.heap.size t (g)) ∧ (Apart kva.ownBlock u3.ownBlock) ∧ (Apart kva.ownBlock t.ownBlock) ∧ (Pk 40 3 GLa W p L R B mm q) ∧ (NP p L R B mm kva.ownBlock)) _ ⟨_, 0, a3, [], 0, bq, (pS 30 (pS 29 (pS 28 (pS 8 (pS 7 (pS 6 (pS 2 (pS 1 (pU 0))))))))), rfl, gx, Pin.le_refl _, Nat.zero_le _, (by simp [keyL]), rfl, (by omega), g3, dp, gy, g0, g1, gz, g2⟩ ?_
 rintro lj _ lk ⟨ba, i, kva, kxa, bn, GLa, rfl, lm, ax, g4, hji, hka, hbbn, hlbn, bu, bb, cq, bv, bw, cr, bz⟩
 have hkla : kxa.length ≤ 117440640 := by
  have := key_bound (j := i) bo hok.ar.ok.lim
  rw [hka]; omega
 refine zB (zC ?_)
 refine qD rfl (yU rfl rfl) ?_
 refine qe (zA (zB ?_))
 refine yA (p := ((i : Int) : Int) < (d.length : Int)) rfl rfl (fun g5 => ?_) (fun g5 => ?_)
 ·skip
  have hki := bo i (by omega)
  have hbk := hok.ar.ok.born (d.getD i 0).toNat (by omega)
  have g6 := dig13 (n := (d.getD i 0).toNat) (by omega)
  refine wp_skip ?_
  refine zA (zB ?_)
  refine zW ?_
  refine zB (zC ?_)
  refine qD rfl (zH Tryd.underlying40 sz3 (v := u3) rfl rfl bb.read (by omega) (by omega)) ?_
  refine qD rfl (zK (r := d.getD i 0) rfl ag3 (z := (i : Int)) rfl bb.read (Gadd.pins ax.pins u3) (by omega) (by omega)) ?_
  refine qM (vJ (d.getD i 0)) ?_
  refine qe (zA (zB (zC ?_)))
  refine qM kva ?_
  refine qM (vJ (d.getD i 0)) ?_
  refine qI rfl (zL (vs := [kva, (vJ (d.getD i 0)), (vJ 36)]) Tryd.func80 nm80 rfl rfl rfl ?_)
  refine Calls.mono (appendInt_spec (i := d.getD i 0) ax.pins (bu.weaken (Nat.zero_le _)) (by omega) (by omega)) ?_
  rintro _ ln ⟨cs, dq, rfl, g7, b0, bc⟩
  refine ⟨_, rfl, ?_⟩
  have dr := np_turn bz cr b0
  have ct := ax.trans bc (fun i hi => (zX bu) i hi)
  have g8 := bb.extS bc (notO bv.symm)
  have g9 := cq.extS bc (notO bw.symm)
  have ha := cr.extS bc (fun k hk hx => bz k hx hk)
  have ds : Apart u3.ownBlock cs.ownBlock := ap_turn b0 bv.symm (qK bb)
  have dt : Apart t.ownBlock cs.ownBlock := ap_turn b0 bw.symm (qK cq)
  have hc := g7.up (lo := w.heap.size) (fun k hk => (b0 k hk).elim (fun h => Nat.le_trans ax.size h) (fun h => (bu.lt k h).1))
  have lq : (kxa ++ dig36 (d.getD i 0).toNat).length = kxa.length + (dig36 (d.getD i 0).toNat).length := List.length_append
  refine qI rfl (yV (E := eByte) (e := 5) [(.int .u8 44)] [44] Tryd.underlying22 sz5 zr5 (by exact xU (by rfl)) (yP (by rfl)) rfl rfl rfl rfl (by decide) ct.pins (fun du hd he dv bd ls => ?_))
  have cu := ct.step dv bd
  have dw := g8.below bd
  have dx := g9.below bd
  have dy := hc.below bd
  have dz := ha.below bd dv
  have hf : Own eByte 5 dq hd w.heap.size du ([44]) := he.weaken ct.size
  refine qI rfl (oA (E := eByte) (v := cs) (u := du) 1 Tryd.underlying22 ap5 (by decide) rfl rfl cu.pins dy hf.src (cu.size) (fun b1 lu hg d0 b2 cv => ?_))
  have d1 := cu.write d0 b2 ((zX dy))
  have hh := dw.keptA b2 ds
  have hj := dx.keptA b2 dt
  have b3 := dz.kept b2 d0 dr
  have hm : Apart u3.ownBlock b1.ownBlock := zE ds cv dw.lt
  have hn : Apart t.ownBlock b1.ownBlock := zE dt cv dx.lt
  have ho := np_app dr dz cv
  have lv : ((kxa ++ dig36 (d.getD i 0).toNat) ++ ([44])).length = (kxa ++ dig36 (d.getD i 0).toNat).length + 1 := List.length_append
  refine qM b1 ?_
  refine qe (zA (zC ?_))
  refine qM (vJ bn) ?_
  refine qM (.pointer (some ⟨p, 0, none⟩)) ?_
  refine qD rfl (xA rfl) ?_
  refine qD rfl (zN (k := 2) rfl Tryd.underlying77 rfl nz40 rfl) ?_
  refine qD rfl (zQ (u := B) ag40 rfl (b3.bx.cell (o := 2) rfl)) ?_
  refine qM (vJ (d.getD i 0)) ?_
  refine qD rfl (zH Tryd.underlying40 sz3 (v := B) rfl rfl b3.ob.read (by omega) (by omega)) ?_
  refine qD rfl (zK (r := q.bs.getD (d.getD i 0).toNat 0) rfl ag3 (z := (d.getD i 0)) rfl b3.ob.read (Gadd.pins d1.pins B) (by omega) (by omega)) ?_
  refine qD rfl (yJ rfl rfl (by omega)) ?_
  refine qD rfl (r_max rfl rfl) ?_
  refine qM (vJ (max bn ((q.bs.getD (d.getD i 0).toNat 0) + 1))) ?_
  refine qe ?_
  refine zZ ?_
  refine zA (zC ?_)
  refine qD rfl (yJ rfl rfl (by omega)) ?_
  refine qM (vJ ((i : Int) + 1)) ?_
  refine qe ?_
  refine yC ?_
  refine ⟨_, ?_, _, rfl, _, i + 1, b1, (kxa ++ dig36 (d.getD i 0).toNat) ++ ([44]), max bn ((q.bs.getD (d.getD i 0).toNat 0) + 1), dq, (pS 30 (pS 29 (pS 28 (pS 8 (pS 7 (pS 6 (pS 2 (pS 1 (pU 0))))))))), rfl, d1, (Pin.le_trans g4 bc.le), (by omega), (by rw [key_next (by omega), hka]), (by rw [hbbn, born_next (by omega)]), (by omega), hg, hh, hj, hm.symm, hn.symm, b3, ho⟩
  omega
 refine wp_exit ?_
 refine zY ?_
 refine yH ?_
 refine yD ?_
 refine zA (zB (zC ?_))
 refine qM kva ?_
 refine qI rfl (yV (E := eByte) (e := 5) [(.int .u8 124)] [124] Tryd.underlying22 sz5 zr5 (by exact xU (by rfl)) (yP (by rfl)) rfl rfl rfl rfl (by decide) ax.pins (fun d2 hq hs d3 be lw => ?_))
 have cw := ax.step d3 be
 have d4 := bu.below be
 have d5 := bb.below be
 have d6 := cq.below be
 have d7 := cr.below be d3
 have ht : Own eByte 5 GLa hq w.heap.size d2 ([124]) := hs.weaken ax.size
 refine qI rfl (oA (E := eByte) (v := kva) (u := d2) 1 Tryd.underlying22 ap5 (by decide) rfl rfl cw.pins d4 ht.src (cw.size) (fun b4 lx hu d8 b5 cx => ?_))
 have hv := cw.write d8 b5 ((zX d4))
 have hw := d5.keptA b5 bv.symm
 have d9 := d6.keptA b5 bw.symm
 have h0 := d7.kept b5 d8 bz
 have h1 : Apart u3.ownBlock b4.ownBlock := zE bv.symm cx d5.lt
 have h3 : Apart t.ownBlock b4.ownBlock := zE bw.symm cx d6.lt
 have h4 := np_app bz d7 cx
 have ly : (kxa ++ ([124])).length = kxa.length + 1 := List.length_append
 refine qM b4 ?_
 refine qe (zA (zB (zB (zC ?_))))
 rw [take_all (by omega)] at hka hbbn
 have hkk : keyL d ++ [124] = kxa ++ [124] := by rw [hka]
 refine qM t ?_
 refine qD rfl (zO Tryd.underlying40 (v := t) rfl d9.read) ?_
 refine qM (vJ 0) ?_
 refine qe (zA ?_)
 refine zW ?_
 refine yL (fun (k : Nat) (en : Nat → Value) (W : World) => ∃ (ba : Nat → Value) (m : Nat) (kvb : Value) (kxb : List UInt8) (bm : Int) (GLb : Pin), en = (upd (upd (upd (upd (upd (upd (upd (upd (upd ba 0 (.pointer (some ⟨p, 0, none⟩))) 1 u3) 2 t) 6 (vJ 0)) 7 kvb) 8 (vJ bm)) 53 t) 54 (vJ (g.length : Int))) 55 (vJ (m : Int))) ∧ k = g.length - m ∧ Ext (inP p L R B mm) G w GLb W ∧ Pin.le GLa GLb ∧ (m ≤ g.length) ∧ (kxb = keyL d ++ [124] ++ keyL (g.take m)) ∧ (bm = bornOf q.bs (g.take m) bn) ∧ (0 ≤ bm ∧ bm ≤ q.ns.length) ∧ (Own eByte 5 GLb W w.heap.size kvb (kxb)) ∧ (Own eInt 3 GLb W w.heap.size u3 (d)) ∧ (Own eInt 3 GLb W w.heap.size t (g)) ∧ (Apart kvb.ownBlock u3.ownBlock) ∧ (Apart kvb.ownBlock t.ownBlock) ∧ (Pk 40 3 GLb W p L R B mm q) ∧ (NP p L R B mm kvb.ownBlock)) _ ⟨_, 0, b4, kxa ++ ([124]), bn, GLa, (pS 55 (pS 54 (pS 53 (pS 8 (pS 7 (pS 6 (pS 2 (pS 1 (pU 0))))))))), rfl, hv, Pin.le_refl _, Nat.zero_le _, (by rw [← hkk]; simp [keyL]), rfl, (by omega), hu, hw, d9, h1.symm, h3.symm, h0, h4⟩ ?_
 rintro lz _ av ⟨ba, m, kvb, kxb, bm, GLb, rfl, l0, ay, h5, l1, hkb, hbbm, hlbm, bf, cy, bg, ea, eb, cz, ec⟩
 have hklb : kxb.length ≤ 117440640 := by
  have := key_bound (j := m) cg hok.ar.ok.lim
  have h2 := key_bound (j := d.length) bo hok.ar.ok.lim; rw [hkb, List.length_append, List.length_append]; simp only [List.length_cons, List.length_nil]; rw [take_all (Nat.le_refl _)] at h2; omega
 refine zB (zC ?_)
 refine qD rfl (yU rfl rfl) ?_
 refine qe (zA (zB ?_))
 refine yA (p := ((m : Int) : Int) < (g.length : Int)) rfl rfl (fun h7 => ?_) (fun h7 => ?_)
 ·skip
  have hki := cg m (by omega)
  have hbk := hok.ar.ok.born (g.getD m 0).toNat (by omega)
  have g6 := dig13 (n := (g.getD m 0).toNat) (by omega)
  refine wp_skip ?_
  refine zA (zB ?_)
  refine zW ?_
  refine zB (zC ?_)
  refine qD rfl (zH Tryd.underlying40 sz3 (v := t) rfl rfl bg.read (by omega) (by omega)) ?_
  refine qD rfl (zK (r := g.getD m 0) rfl ag3 (z := (m : Int)) rfl bg.read (Gadd.pins ay.pins t) (by omega) (by omega)) ?_
  refine qM (vJ (g.getD m 0)) ?_
  refine qe (zA (zB (zC ?_)))
  refine qM kvb ?_
  refine qM (vJ (g.getD m 0)) ?_
  refine qI rfl (zL (vs := [kvb, (vJ (g.getD m 0)), (vJ 36)]) Tryd.func80 nm80 rfl rfl rfl ?_)
  refine Calls.mono (appendInt_spec (i := g.getD m 0) ay.pins (bf.weaken (Nat.zero_le _)) (by omega) (by omega)) ?_
  rintro _ l2 ⟨c0, ed, rfl, h8, b6, bh⟩
  refine ⟨_, rfl, ?_⟩
  have ee := np_turn ec cz b6
  have c1 := ay.trans bh (fun i hi => (zX bf) i hi)
  have h9 := cy.extS bh (notO ea.symm)
  have ia := bg.extS bh (notO eb.symm)
  have ib := cz.extS bh (fun k hk hx => ec k hx hk)
  have eg : Apart u3.ownBlock c0.ownBlock := ap_turn b6 ea.symm (qK cy)
  have eh : Apart t.ownBlock c0.ownBlock := ap_turn b6 eb.symm (qK bg)
  have ic := h8.up (lo := w.heap.size) (fun k hk => (b6 k hk).elim (fun h => Nat.le_trans ay.size h) (fun h => (bf.lt k h).1))
  have l3 : (kxb ++ dig36 (g.getD m 0).toNat).length = kxb.length + (dig36 (g.getD m 0).toNat).length := List.length_append
  refine qI rfl (yV (E := eByte) (e := 5) [(.int .u8 44)] [44] Tryd.underlying22 sz5 zr5 (by exact xU (by rfl)) (yP (by rfl)) rfl rfl rfl rfl (by decide) c1.pins (fun ei ie ig ej bi l4 => ?_))
  have c2 := c1.step ej bi
  have ek := h9.below bi
  have em := ia.below bi
  have eo := ic.below bi
  have ep := ib.below bi ej
  have ih : Own eByte 5 ed ie w.heap.size ei ([44]) := ig.weaken c1.size
  refine qI rfl (oA (E := eByte) (v := c0) (u := ei) 1 Tryd.underlying22 ap5 (by decide) rfl rfl c2.pins eo ih.src (c2.size) (fun b7 l5 ii eq b8 c3 => ?_))
  have es := c2.write eq b8 ((zX eo))
  have ij := ek.keptA b8 eg
  have ik := em.keptA b8 eh
  have b9 := ep.kept b8 eq ee
  have il : Apart u3.ownBlock b7.ownBlock := zE eg c3 ek.lt
  have im : Apart t.ownBlock b7.ownBlock := zE eh c3 em.lt
  have io := np_app ee ep c3
  have l6 : ((kxb ++ dig36 (g.getD m 0).toNat) ++ ([44])).length = (kxb ++ dig36 (g.getD m 0).toNat).length + 1 := List.length_append
  refine qM b7 ?_
  refine qe (zA (zC ?_))
  refine qM (vJ bm) ?_
  refine qM (.pointer (some ⟨p, 0, none⟩)) ?_
  refine qD rfl (xA rfl) ?_
  refine qD rfl (zN (k := 2) rfl Tryd.underlying77 rfl nz40 rfl) ?_
  refine qD rfl (zQ (u := B) ag40 rfl (b9.bx.cell (o := 2) rfl)) ?_
  refine qM (vJ (g.getD m 0)) ?_
  refine qD rfl (zH Tryd.underlying40 sz3 (v := B) rfl rfl b9.ob.read (by omega) (by omega)) ?_
  refine qD rfl (zK (r := q.bs.getD (g.getD m 0).toNat 0) rfl ag3 (z := (g.getD m 0)) rfl b9.ob.read (Gadd.pins es.pins B) (by omega) (by omega)) ?_
  refine qD rfl (yJ rfl rfl (by omega)) ?_
  refine qD rfl (r_max rfl rfl) ?_
  refine qM (vJ (max bm ((q.bs.getD (g.getD m 0).toNat 0) + 1))) ?_
  refine qe ?_
  refine zZ ?_
  refine zA (zC ?_)
  refine qD rfl (yJ rfl rfl (by omega)) ?_
  refine qM (vJ ((m : Int) + 1)) ?_
  refine qe ?_
  refine yC ?_
  refine ⟨_, ?_, _, rfl, _, m + 1, b7, (kxb ++ dig36 (g.getD m 0).toNat) ++ ([44]), max bm ((q.bs.getD (g.getD m 0).toNat 0) + 1), ed, (pS 55 (pS 54 (pS 53 (pS 8 (pS 7 (pS 6 (pS 2 (pS 1 (pU 0))))))))), rfl, es, (Pin.le_trans h5 bh.le), (by omega), (by rw [key_next (by omega), hkb]; simp only [List.append_assoc]), (by rw [hbbm, born_next (by omega)]), (by omega), ii, ij, ik, il.symm, im.symm, b9, io⟩
  omega
 refine wp_exit ?_
 refine zY ?_
 refine yH ?_
 refine yD ?_
 refine zA (zB (zB ?_))
 rw [take_all (by omega)] at hkb hbbm
 have hkey : kxb = keyN d g := by rw [hkb]; rfl
 have ip := Gadd.pins ay.pins kvb
 have l7 := bf.read
 refine xE (S := fun wz => BxR wz p [L, R, B, (.map (some mm.f)), (.map (some mm.o)), (.map (some mm.c)), (.map (some mm.s)), (.map (some mm.n))] ∧ Pins (Gadd GLb av kvb) wz) (last := 12) (by kernel_rfl) rfl ?_
 have az : Below av.heap.size av av.drew := (Below.refl _ _).drew
 have et := ay.pins.below az
 have bj := ay.step et az
 have c4 := bf.below az
 have iq := cy.below az
 have ir := bg.below az
 have a := cz.below az et
 have ad := ip.below az
 refine dT (i := 0) rfl rfl (by kernel_rfl) (fun _ _ => zR (v := (.pointer (some ⟨p, 0, none⟩))) rfl) ⟨a.bx.reads, ad⟩ ?_
 refine dT (i := 1) rfl rfl (by kernel_rfl) (fun _ _ => xA rfl) ⟨a.bx.reads, ad⟩ ?_
 refine dT (i := 2) rfl rfl (by kernel_rfl) (fun _ _ => zN (k := 3) rfl Tryd.underlying77 rfl nz71 rfl) ⟨a.bx.reads, ad⟩ ?_
 refine dT (i := 3) rfl rfl (by kernel_rfl) (fun _ hS => zQ (u := (.map (some mm.f))) ag71 rfl (hS.1 3 _ rfl)) ⟨a.bx.reads, ad⟩ ?_
 refine dT (i := 4) rfl rfl (by kernel_rfl) (fun _ _ => zR (v := kvb) rfl) ⟨a.bx.reads, ad⟩ ?_
 refine dO (i := 5) (zS (i := 5) rfl rfl rfl (zD rfl _) (EO.run (r_b2s Tryd.underlying22 Tryd.underlying5 Tryd.underlying9 rfl c4.read (Gadd.pins bj.pins kvb)) ?_))
 refine ⟨fun _ => ⟨a.bx.reads, ad⟩, ?_⟩
 refine dO (i := 6) (zS (i := 6) rfl rfl rfl (zD rfl _) (EO.run (run_lookv_int (k := (b2s kxb)) (key_str Tryd.underlying9) Tryd.underlying71 zr3 a.ff rfl rfl) ?_))
 refine ⟨fun _ => ⟨a.bx.reads, ad⟩, ?_⟩
 refine dT (i := 7) rfl rfl (by kernel_rfl) (fun _ _ => zR (v := (.tuple #[(vJ ((Go.GL.look q.fl (b2s kxb)).getD 0)), (.bool ((Go.GL.look q.fl (b2s kxb)).isSome))])) rfl) ⟨a.bx.reads, ad⟩ ?_
 refine dT (i := 8) rfl rfl (by kernel_rfl) (fun _ _ => xC (v := (vJ ((Go.GL.look q.fl (b2s kxb)).getD 0))) rfl rfl) ⟨a.bx.reads, ad⟩ ?_
 refine dT (i := 9) rfl rfl (by kernel_rfl) (fun _ _ => xC (v := (.bool ((Go.GL.look q.fl (b2s kxb)).isSome))) rfl rfl) ⟨a.bx.reads, ad⟩ ?_
 refine dT (i := 10) rfl rfl (by kernel_rfl) (fun _ _ => r_assign (v := (vJ ((Go.GL.look q.fl (b2s kxb)).getD 0))) rfl) ⟨a.bx.reads, ad⟩ ?_
 refine dT (i := 11) rfl rfl (by kernel_rfl) (fun _ _ => r_assign (v := (.bool ((Go.GL.look q.fl (b2s kxb)).isSome))) rfl) ⟨a.bx.reads, ad⟩ ?_
 refine yE (by kernel_rfl) ?_
 refine zA (zB (zC ?_))
 refine qM (.bool ((Go.GL.look q.fl (b2s kxb)).isSome)) ?_
 refine qe (zA ?_)
 refine c_if rfl rfl (fun c5 => ?_) (fun c5 => ?_)
 ·skip
  refine zB (zC ?_)
  refine qM (vJ ((Go.GL.look q.fl (b2s kxb)).getD 0)) ?_
  refine qM (vJ ((Go.GL.look q.fl (b2s kxb)).getD 0)) ?_
  refine qe (zA ?_)
  refine wp_ret ?_
  refine zP ?_
  refine zM (v := (vJ ((Go.GL.look q.fl (b2s kxb)).getD 0))) rfl rfl rfl ?_
  obtain ⟨z, hz⟩ := Option.isSome_iff_exists.1 c5
  have hlk := hz
  rw [hkey, aq, au] at hlk
  obtain ⟨f1, f2⟩ := lookF hok hk1 hk2 hlk
  rw [hz]
  exact ⟨z, L, R, B, q, GLb, rfl, a, hok, (PX.refl _), PIn.lo hpin rfl, bj, f1, f2, by omega, rfl, Or.inl rfl⟩
 refine wp_skip ?_
 refine zA (zB (zC ?_))
 refine qM (.pointer (some ⟨p, 0, none⟩)) ?_
 refine qD rfl (xA rfl) ?_
 refine qD rfl (zN (k := 2) rfl Tryd.underlying77 rfl nz40 rfl) ?_
 refine qD rfl (zQ (u := B) ag40 rfl (a.bx.cell (o := 2) rfl)) ?_
 refine qD rfl (zO Tryd.underlying40 (v := B) rfl a.ob.read) ?_
 refine qM (vJ (q.bs.length : Int)) ?_
 refine qe (zA (zB ?_))
 have hnone : Go.GL.look q.fl (b2s kxb) = none := by simpa using c5
 rw [hkey, aq, au] at hnone
 have hadd := hok.add (b := bm) hlim hls hk1 hk2 hnone (by rw [hbbm, hbbn, aq, au])
 have iv := Gadd.pins bj.pins kvb
 have l8 := c4.read
 refine xE (S := fun wz => BxR wz p [L, R, B, (.map (some mm.f)), (.map (some mm.o)), (.map (some mm.c)), (.map (some mm.s)), (.map (some mm.n))] ∧ Pins (Gadd GLb av.drew kvb) wz) (last := 7) (by kernel_rfl) rfl ?_
 have ab : Below av.drew.heap.size av.drew av.drew.drew := (Below.refl _ _).drew
 have iw := bj.pins.below ab
 have c6 := bj.step iw ab
 have ix := c4.below ab
 have eu := iq.below ab
 have ev := ir.below ab
 have ew := a.ol.below ab
 have ex := a.rr.below ab
 have ey := a.ob.below ab
 have al := a.bx.below ab
 have a0 := a.ff.below ab
 have iy := a.fo.below ab
 have iz := a.fc.below ab
 have i0 := a.fs.below ab
 have i1 := a.fn.below ab
 have a1 := iv.below ab
 refine dT (i := 0) rfl rfl (by kernel_rfl) (fun _ _ => zR (v := (.pointer (some ⟨p, 0, none⟩))) rfl) ⟨al.reads, a1⟩ ?_
 refine dT (i := 1) rfl rfl (by kernel_rfl) (fun _ _ => xA rfl) ⟨al.reads, a1⟩ ?_
 refine dT (i := 2) rfl rfl (by kernel_rfl) (fun _ _ => zN (k := 3) rfl Tryd.underlying77 rfl nz71 rfl) ⟨al.reads, a1⟩ ?_
 refine dT (i := 3) rfl rfl (by kernel_rfl) (fun _ hS => zQ (u := (.map (some mm.f))) ag71 rfl (hS.1 3 _ rfl)) ⟨al.reads, a1⟩ ?_
 refine dT (i := 4) rfl rfl (by kernel_rfl) (fun _ _ => zR (v := kvb) rfl) ⟨al.reads, a1⟩ ?_
 refine dT (i := 6) rfl rfl (by kernel_rfl) (fun _ _ => zR (v := (vJ (q.bs.length : Int))) rfl) ⟨al.reads, a1⟩ ?_
 refine dO (i := 5) (zS (i := 5) rfl rfl rfl (zD rfl _) (EO.run (r_b2s Tryd.underlying22 Tryd.underlying5 Tryd.underlying9 rfl ix.read (Gadd.pins c6.pins kvb)) ?_))
 refine ⟨fun _ => ⟨al.reads, a1⟩, ?_⟩
 refine dO (i := 7) (qQ (i := 7) rfl rfl rfl (zD rfl _) (o_mapUpdate (val := (fun v : Int => Value.int .i64 v)) (k := (b2s kxb)) (v := (q.bs.length : Int)) (key_str Tryd.underlying9) Tryd.underlying71 rfl rfl rfl c6.pins a0 (fun l9 i3 i4 ae ma => ?_)))
 have i5 := c6.write i4 ae ((PIn.f hpin))
 have i6 := eu.keptA ae (yN a0 eu).symm
 have i7 := ev.keptA ae (yN a0 ev).symm
 have i8 := ew.keptA ae (yN a0 ew).symm
 have i9 := ex.keptA ae (yN a0 ex).symm
 have ja := ey.keptA ae (yN a0 ey).symm
 have ez := al.keptA ae (xI a0 al).symm
 have jb := iy.kept ae (apart_maps a.df.fo).symm
 have jc := iz.kept ae (apart_maps a.df.fc).symm
 have jd := i0.kept ae (apart_maps a.df.fs).symm
 have je := i1.kept ae (apart_maps a.df.fn).symm
 refine ⟨fun h => absurd rfl h, ?_⟩
 refine yE (by kernel_rfl) ?_
 refine zA (zB (zC ?_))
 refine qM (.pointer (some ⟨p, 0, none⟩)) ?_
 refine qM (.pointer (some ⟨p, 0, none⟩)) ?_
 refine qD rfl (xA rfl) ?_
 refine qD rfl (zN (k := 0) rfl Tryd.underlying77 rfl nz75 rfl) ?_
 refine qD rfl (zQ (u := L) ag75 rfl (ez.cell (o := 0) rfl)) ?_
 refine qM u3 ?_
 obtain ⟨jf, ca, c7, e0, bk⟩ := i6.sealed i5
 have jg := i7.moreO ca bk gu
 have jh := i8.moreO ca bk (NP.hl bp).symm
 have ji := i9.moreO ca bk (NP.hr bp).symm
 have jj := ja.moreO ca bk (NP.hb bp).symm
 have jk := ez.moreO bk (NP.hp bp).symm
 refine qI rfl (yV (E := (eSl eInt)) (e := 40) [u3] [d] Tryd.underlying75 sz40 zr40 (by exact xU (⟨_, rfl, e0⟩)) (yP e0.one) rfl rfl rfl rfl (by decide) c7.pins (fun e1 jl jm jn af mb => ?_))
 have c8 := c7.step jn af
 have e2 := jg.below af
 have a4 := jh.below af
 have e3 := ji.below af
 have e4 := jj.below af
 have e5 := jk.below af
 have e6 := i3.below af
 have e7 := jb.below af
 have e8 := jc.below af
 have e9 := jd.below af
 have fa := je.below af
 have jo : Own (eSl eInt) 40 jf jl w.heap.size e1 ([d]) := jm.weaken c7.size
 refine qI rfl (oA (E := (eSl eInt)) (v := L) (u := e1) 24 Tryd.underlying75 ap40 (by decide) rfl rfl c8.pins a4 jo.src (Nat.zero_le _) (fun ac mc c9 jp ag bl => ?_))
 have fb := c8.write jp ag ((PIn.ll hpin))
 have jq := e2.keptA ag (NP.hl a2)
 have jr := e3.keptA ag a.alr.symm
 have js := e4.keptA ag a.alb.symm
 have a5 := e5.keptA ag a.apl
 have fd := e6.kept ag (yN e6 a4)
 have fe := e7.kept ag (yN e7 a4)
 have fg := e8.kept ag (yN e8 a4)
 have fh := e9.kept ag (yN e9 a4)
 have fi := fa.kept ag (yN fa a4)
 have jt : Apart t.ownBlock ac.ownBlock := zE (NP.hl a2) bl e2.lt
 have fj : Apart R.ownBlock ac.ownBlock := zE a.alr.symm bl e3.lt
 have fk : Apart B.ownBlock ac.ownBlock := zE a.alb.symm bl e4.lt
 have cb : Apart (some p) ac.ownBlock := zJ a.apl bl e5.lt
 have ju : Lo w (inP p L R B mm) ac.ownBlock := lo_app (PIn.ll hpin) bl c8.size
 have md : ((q.ns.map Nd.l) ++ ([d])).length = (q.ns.map Nd.l).length + 1 := List.length_append
 refine qD rfl (xA rfl) ?_
 refine qD rfl (zN (k := 0) rfl Tryd.underlying77 rfl nz75 rfl) ?_
 refine q0 rfl rfl rfl (xD (cs' := [ac, R, B, (.map (some mm.f)), (.map (some mm.o)), (.map (some mm.c)), (.map (some mm.s)), (.map (some mm.n))]) (us := [ac]) (v := ac) sz75 rfl rfl (cells1 c9.one) (yP c9.one) fb.pins a5 (Nat.le_of_ble_eq_true rfl) rfl (fun me fm jv ah mf => ?_))
 have jw := fb.write jv ah ((PIn.lp hpin))
 have jx := jq.keptA ah (NP.hp a2)
 have jy := jr.keptA ah a.apr.symm
 have jz := js.keptA ah a.apb.symm
 have j0 := c9.keptA ah cb.symm
 have j1 := fd.kept ah (xI fd a5)
 have j2 := fe.kept ah (xI fe a5)
 have j3 := fg.kept ah (xI fg a5)
 have j4 := fh.kept ah (xI fh a5)
 have j5 := fi.kept ah (xI fi a5)
 refine qe (zA (zB (zC ?_)))
 refine qM (.pointer (some ⟨p, 0, none⟩)) ?_
 refine qM (.pointer (some ⟨p, 0, none⟩)) ?_
 refine qD rfl (xA rfl) ?_
 refine qD rfl (zN (k := 1) rfl Tryd.underlying77 rfl nz75 rfl) ?_
 refine qD rfl (zQ (u := R) ag75 rfl (fm.cell (o := 1) rfl)) ?_
 refine qM t ?_
 obtain ⟨da, db, dc, fp, cc⟩ := jx.sealed jw
 have j6 := jy.moreO db cc (NP.hr a2).symm
 have j7 := jz.moreO db cc (NP.hb a2).symm
 have j8 := j0.moreO db cc jt.symm
 have j9 := fm.moreO cc (NP.hp a2).symm
 refine qI rfl (yV (E := (eSl eInt)) (e := 40) [t] [g] Tryd.underlying75 sz40 zr40 (by exact xU (⟨_, rfl, fp⟩)) (yP fp.one) rfl rfl rfl rfl (by decide) dc.pins (fun fq ka kb kc ai mg => ?_))
 have dd := dc.step kc ai
 have a6 := j6.below ai
 have fr := j7.below ai
 have ft := j8.below ai
 have fu := j9.below ai
 have fv := j1.below ai
 have fw := j2.below ai
 have fx := j3.below ai
 have fy := j4.below ai
 have fz := j5.below ai
 have kd : Own (eSl eInt) 40 da ka w.heap.size fq ([g]) := kb.weaken dc.size
 refine qI rfl (oA (E := (eSl eInt)) (v := R) (u := fq) 24 Tryd.underlying75 ap40 (by decide) rfl rfl dd.pins a6 kd.src (Nat.zero_le _) (fun aj mh de ke am cd => ?_))
 have f0 := dd.write ke am ((PIn.lr hpin))
 have kf := fr.keptA am a.arb.symm
 have kg := ft.keptA am fj.symm
 have a7 := fu.keptA am a.apr
 have f3 := fv.kept am (yN fv a6)
 have f4 := fw.kept am (yN fw a6)
 have f5 := fx.kept am (yN fx a6)
 have f6 := fy.kept am (yN fy a6)
 have f7 := fz.kept am (yN fz a6)
 have f8 : Apart B.ownBlock aj.ownBlock := zE a.arb.symm cd fr.lt
 have kh : Apart ac.ownBlock aj.ownBlock := zE fj.symm cd ft.lt
 have dg : Apart (some p) aj.ownBlock := zJ a.apr cd fu.lt
 have ki : Lo w (inP p L R B mm) aj.ownBlock := lo_app (PIn.lr hpin) cd dd.size
 have mi : ((q.ns.map Nd.r) ++ ([g])).length = (q.ns.map Nd.r).length + 1 := List.length_append
 refine qD rfl (xA rfl) ?_
 refine qD rfl (zN (k := 1) rfl Tryd.underlying77 rfl nz75 rfl) ?_
 refine q0 rfl rfl rfl (xD (cs' := [ac, aj, B, (.map (some mm.f)), (.map (some mm.o)), (.map (some mm.c)), (.map (some mm.s)), (.map (some mm.n))]) (us := [aj]) (v := aj) sz75 rfl rfl (cells1 de.one) (yP de.one) f0.pins a7 (Nat.le_of_ble_eq_true rfl) rfl (fun mj f9 kj an mk => ?_))
 have dh := f0.write kj an ((PIn.lp hpin))
 have kk := kf.keptA an a.apb.symm
 have kl := kg.keptA an cb.symm
 have km := de.keptA an dg.symm
 have kn := f3.kept an (xI f3 a7)
 have ko := f4.kept an (xI f4 a7)
 have kp := f5.kept an (xI f5 a7)
 have kq := f6.kept an (xI f6 a7)
 have kr := f7.kept an (xI f7 a7)
 refine qe (zA (zB (zC ?_)))
 refine qM (.pointer (some ⟨p, 0, none⟩)) ?_
 refine qM (.pointer (some ⟨p, 0, none⟩)) ?_
 refine qD rfl (xA rfl) ?_
 refine qD rfl (zN (k := 2) rfl Tryd.underlying77 rfl nz40 rfl) ?_
 refine qD rfl (zQ (u := B) ag40 rfl (f9.cell (o := 2) rfl)) ?_
 refine qM (vJ bm) ?_
 refine qI rfl (yV (E := eInt) (e := 3) [(vJ bm)] [bm] Tryd.underlying40 sz3 zr3 (by exact xU (by rfl)) (yP (by rfl)) rfl rfl rfl rfl (by decide) dh.pins (fun ga ks kt ku ak ml => ?_))
 have di := dh.step ku ak
 have a8 := kk.below ak
 have gb := kl.below ak
 have gc := km.below ak
 have gd := f9.below ak
 have ge := kn.below ak
 have gf := ko.below ak
 have gg := kp.below ak
 have gh := kq.below ak
 have gi := kr.below ak
 have kv : Own eInt 3 da ks w.heap.size ga ([bm]) := kt.weaken dh.size
 refine qI rfl (oA (E := eInt) (v := B) (u := ga) 8 Tryd.underlying40 ap3 (by decide) rfl rfl di.pins a8 kv.src (Nat.zero_le _) (fun aw mn dj kw ao ce => ?_))
 have gj := di.write kw ao ((PIn.lb hpin))
 have kx := gb.keptA ao fk.symm
 have ky := gc.keptA ao f8.symm
 have a9 := gd.keptA ao a.apb
 have gk := ge.kept ao (yN ge a8)
 have gl := gf.kept ao (yN gf a8)
 have gm := gg.kept ao (yN gg a8)
 have gn := gh.kept ao (yN gh a8)
 have gp := gi.kept ao (yN gi a8)
 have kz : Apart ac.ownBlock aw.ownBlock := zE fk.symm ce gb.lt
 have k0 : Apart aj.ownBlock aw.ownBlock := zE f8.symm ce gc.lt
 have gq : Apart (some p) aw.ownBlock := zJ a.apb ce gd.lt
 have k1 : Lo w (inP p L R B mm) aw.ownBlock := lo_app (PIn.lb hpin) ce di.size
 have mo : (q.bs ++ ([bm])).length = q.bs.length + 1 := List.length_append
 refine qD rfl (xA rfl) ?_
 refine qD rfl (zN (k := 2) rfl Tryd.underlying77 rfl nz40 rfl) ?_
 refine q0 rfl rfl rfl (xD (cs' := [ac, aj, aw, (.map (some mm.f)), (.map (some mm.o)), (.map (some mm.c)), (.map (some mm.s)), (.map (some mm.n))]) (us := [aw]) (v := aw) sz40 rfl rfl (cells1 dj.one) (yP dj.one) gj.pins a9 (Nat.le_of_ble_eq_true rfl) rfl (fun mp k2 k3 ap mq => ?_))
 have k4 := gj.write k3 ap ((PIn.lp hpin))
 have k5 := kx.keptA ap cb.symm
 have k6 := ky.keptA ap dg.symm
 have k7 := dj.keptA ap gq.symm
 have k8 := gk.kept ap (xI gk a9)
 have k9 := gl.kept ap (xI gl a9)
 have la := gm.kept ap (xI gm a9)
 have lc := gn.kept ap (xI gn a9)
 have ld := gp.kept ap (xI gp a9)
 refine qe (zA (zB (zC ?_)))
 refine qM (vJ (q.bs.length : Int)) ?_
 refine qM (vJ (q.bs.length : Int)) ?_
 refine qe (zA ?_)
 refine wp_ret ?_
 refine zP ?_
 refine zM (v := (vJ (q.bs.length : Int))) rfl rfl rfl ?_
 have el : (q.ns.map Nd.l) ++ [d] = (addQ q xs ys bm).ns.map Nd.l := by rw [aq]; simp [addQ]
 have er : (q.ns.map Nd.r) ++ [g] = (addQ q xs ys bm).ns.map Nd.r := by rw [au]; simp [addQ]
 have ef : putE q.fl (b2s kxb) (q.bs.length : Int) = (addQ q xs ys bm).fl := by rw [hkey, aq, au, hok.ar.ok.len]; rfl
 have hol := k5
 have hor := k6
 have hff := k8
 rw [el] at hol
 rw [er] at hor
 rw [ef] at hff
 exact ⟨(q.bs.length : Int), ac, aj, aw, addQ q xs ys bm, da, rfl, ⟨k2, hol, hor, k7, hff, k9, la, lc, ld, cb, dg, gq, kh, kz, k0, a.df⟩, hadd.1, hadd.2.1, ⟨ju, ki, k1⟩, k4, by rw [hok.ar.ok.len]; exact hadd.2.2.1, by rw [hok.ar.ok.len]; exact hadd.2.2.2.1, hadd.2.2.2.2, rfl, Or.inr (by omega)⟩

end PO1
end Go.Proofs.YtkfgdhanaijddaaDoor

set_option maxRecDepth 20000
set_option maxHeartbeats 2000000
namespace Go.Proofs.YtkfgdhanaijddaaDoor
namespace PL1
open Go.RowKit Go.GL Go.Proofs
open Go.Proofs.YtkfgdhanaijddaaDoor.B1
open Go.Proofs.YtkfgdhanaijddaaDoor.K1
open Go.Proofs.YtkfgdhanaijddaaDoor.PO1









theorem mk3 : (Tryd.prog.info? 3).map (fun i => (i.size, i.bytes, i.zero)) = some (1, 8, some (.int .i64 0)) := by kernel_rfl








theorem pl77 : (Tryd.prog.underlying 77).bind (placesD Tryd.prog) = some [(0, 1), (1, 1), (2, 1), (3, 1), (4, 1), (5, 1), (6, 1), (7, 1)] := by kernel_rfl










theorem newPool_spec {w : World} {G : Pin} (hP : Pins G w) :
  Calls Tryd.prog 26 [].toArray w fun e w' => ∃ (p : Nat) (mm : PM) (G' : Pin), e = .returned (.pointer (some ⟨p, 0, none⟩)) ∧ Pk 40 3 G' w' p (.slice none 0 0) (.slice none 0 0) (.slice none 0 0) mm ⟨[], [], [], [], [], [], []⟩ ∧ (∀ k, inP p (.slice none 0 0) (.slice none 0 0) (.slice none 0 0) mm k → w.heap.size ≤ k) ∧ Ext noS G w G' w' := by
 refine zV (n := 8) Tryd.func26 Tryd.ntmps26 rfl rfl ?_
 have o : Ext noS G w G w := Ext.refl hP
 refine zB (zC ?_)
 refine qM (.pointer none) ?_
 refine qe (zA (zB (zC ?_)))
 refine qI rfl (o_makeMap (fun k : ByteArray => Value.string k) (fun v : Int => Value.int .i64 v) o.pins (fun a w2 bo z al am => ?_))
 have q := o.step al am
 have an : w.heap.size ≤ a := by have := o.size; omega
 refine qI rfl (o_makeMap encP2 (fun v : Bool => Value.bool v) q.pins (fun b bp ao aa ap ab => ?_))
 have r := q.step ap ab
 have ac := z.below ab
 have aq : Apart (some b) (some a) := zI (congrArg some ao) z.lt
 have ar : w.heap.size ≤ b := by have := q.size; omega
 refine qI rfl (o_makeMap (fun k : Int => Value.int .i64 k) (fun v : Int => Value.int .i64 v) r.pins (fun c bq ad ae au s => ?_))
 have t := r.step au s
 have af := ac.below s
 have ag := aa.below s
 have av : Apart (some c) (some a) := zI (congrArg some ad) ac.lt
 have aw : Apart (some c) (some b) := zI (congrArg some ad) aa.lt
 have ax : w.heap.size ≤ c := by have := r.size; omega
 refine qI rfl (o_makeMap encP2 (fun v : Int => Value.int .i64 v) t.pins (fun d br u ah ay l => ?_))
 have x := t.step ay l
 have ai := af.below l
 have aj := ag.below l
 have ak := ae.below l
 have az : Apart (some d) (some a) := zI (congrArg some u) af.lt
 have a0 : Apart (some d) (some b) := zI (congrArg some u) ag.lt
 have a1 : Apart (some d) (some c) := zI (congrArg some u) ae.lt
 have a2 : w.heap.size ≤ d := by have := t.size; omega
 refine qI rfl (o_makeMap (fun k : Int => Value.int .i64 k) (fun v : Int => Value.int .i64 v) x.pins (fun f bs m a3 a4 i => ?_))
 have y := x.step a4 i
 have a5 := ai.below i
 have a6 := aj.below i
 have a7 := ak.below i
 have a8 := ah.below i
 have a9 : Apart (some f) (some a) := zI (congrArg some m) ai.lt
 have ba : Apart (some f) (some b) := zI (congrArg some m) aj.lt
 have bb : Apart (some f) (some c) := zI (congrArg some m) ak.lt
 have bc : Apart (some f) (some d) := zI (congrArg some m) ah.lt
 have bd : w.heap.size ≤ f := by have := x.size; omega
 refine qD rfl (xX [(.slice none 0 0), (.slice none 0 0), (.slice none 0 0), (.map none), (.map none), (.map none), (.map none), (.map none)] [(.slice none 0 0), (.slice none 0 0), (.slice none 0 0), (.map (some a)), (.map (some b)), (.map (some c)), (.map (some d)), (.map (some f))] [(3, (.map (some a)), [(.map (some a))]), (4, (.map (some b)), [(.map (some b))]), (5, (.map (some c)), [(.map (some c))]), (6, (.map (some d)), [(.map (some d))]), (7, (.map (some f)), [(.map (some f))])] Tryd.underlying77 zr77 rfl pl77 rfl (List.forall_mem_cons.2 ⟨rfl, (List.forall_mem_cons.2 ⟨rfl, (List.forall_mem_cons.2 ⟨rfl, (List.forall_mem_cons.2 ⟨rfl, (List.forall_mem_cons.2 ⟨rfl, (fun _ h => by cases h)⟩)⟩)⟩)⟩)⟩) rfl) ?_
 refine qI rfl (qA [(.slice none 0 0), (.slice none 0 0), (.slice none 0 0), (.map (some a)), (.map (some b)), (.map (some c)), (.map (some d)), (.map (some f))] (v := (.agg [(.slice none 0 0), (.slice none 0 0), (.slice none 0 0), (.map (some a)), (.map (some b)), (.map (some c)), (.map (some d)), (.map (some f))].toArray)) rfl rfl y.pins (fun j bt bu be bf g => ?_))
 have bg := y.step bf g
 have bh := a5.below g
 have bi := a6.below g
 have bj := a7.below g
 have bk := a8.below g
 have bl := a3.below g
 have bm : w.heap.size ≤ j := by have := y.size; omega
 refine qM (.pointer (some ⟨j, 0, none⟩)) ?_
 refine qe (zA ?_)
 refine wp_ret ?_
 refine zP ?_
 refine zM (v := (.pointer (some ⟨j, 0, none⟩))) rfl rfl rfl ?_
 have hdf : PDiff ⟨a, b, c, d, f⟩ := ⟨fun e => aq.symm _ rfl (congrArg some e.symm), fun e => av.symm _ rfl (congrArg some e.symm), fun e => az.symm _ rfl (congrArg some e.symm), fun e => a9.symm _ rfl (congrArg some e.symm), fun e => aw.symm _ rfl (congrArg some e.symm), fun e => a0.symm _ rfl (congrArg some e.symm), fun e => ba.symm _ rfl (congrArg some e.symm), fun e => a1.symm _ rfl (congrArg some e.symm), fun e => bb.symm _ rfl (congrArg some e.symm), fun e => bc.symm _ rfl (congrArg some e.symm)⟩
 have hfr : ∀ k, inP j (.slice none 0 0) (.slice none 0 0) (.slice none 0 0) ⟨a, b, c, d, f⟩ k → w.heap.size ≤ k := by rintro k (rfl | hk | hk | hk | rfl | rfl | rfl | rfl | rfl) <;> first | (cases hk; done) | exact bm | exact an | exact ar | exact ax | exact a2 | exact bd
 exact ⟨j, ⟨a, b, c, d, f⟩, _, rfl, ⟨be, (Own.nil _ _ _ _ _), (Own.nil _ _ _ _ _), (Own.nil _ _ _ _ _), bh, bi, bj, bk, bl, apart_none.symm, apart_none.symm, apart_none.symm, apart_none, apart_none, apart_none, hdf⟩, hfr, bg⟩

theorem renamed_spec {w : World} {G : Pin} {u v : Value} {xs ys : List Int} (hP : Pins G w) (hu : RSl eInt G u xs) (hv : RSl eInt G v ys) (hs : xs.length ≤ 1048576) (hb : ∀ i, i < xs.length → 0 ≤ xs.getD i 0 ∧ xs.getD i 0 < ys.length) :
  Calls Tryd.prog 67 [u, v].toArray w fun e w' => ∃ (u : Value) (G' : Pin), e = .returned u ∧ Own eInt 3 G' w' w.heap.size u (atL ys xs) ∧ Ext noS G w G' w' := by
 refine zV (n := 27) Tryd.func67 Tryd.ntmps67 rfl rfl ?_
 have d : Ext noS G w G w := Ext.refl hP
 have hm := hu.max
 have hal : (atL ys xs).length = xs.length := yZ
 have hrl : (List.replicate xs.length (0 : Int)).length = xs.length := List.length_replicate
 refine zB (zC ?_)
 refine qM (.slice none 0 0) ?_
 refine qe (zA (zB (zC ?_)))
 refine qM u ?_
 refine qD rfl (zO Tryd.underlying40 (v := u) rfl hu) ?_
 refine qI rfl (o_make (E := eInt) 0 8 (vJ 0) Tryd.underlying40 mk3 (fun _ => rfl) rfl rfl d.pins (by omega) (by omega) (by omega) (fun a g h l m ab => ?_))
 have o := d.step l m
 have q : Own eInt 3 G g w.heap.size a (List.replicate xs.length 0) := h.weaken d.size
 have ac : (List.replicate xs.length 0).length = xs.length := List.length_replicate ..
 refine qM a ?_
 refine qe (zA (zB (zB (zC ?_))))
 refine qM u ?_
 refine qD rfl (zO Tryd.underlying40 (v := u) rfl hu) ?_
 refine qM (vJ 0) ?_
 refine qe (zA ?_)
 refine zW ?_
 refine yL (fun (k : Nat) (en : Nat → Value) (W : World) => ∃ (f : Nat → Value) (j : Nat) (os : List Int), en = (upd (upd (upd (upd (upd (upd f 1 v) 4 (.slice none 0 0)) 5 a) 11 u) 12 (vJ (xs.length : Int))) 13 (vJ (j : Int))) ∧ k = xs.length - j ∧ Ext noS G w G W ∧ (j ≤ xs.length) ∧ (os = (atL ys xs).take j ++ (List.replicate xs.length 0).drop j) ∧ (os.length = xs.length) ∧ (Own eInt 3 G W w.heap.size a (os))) _ ⟨_, 0, List.replicate xs.length 0, (pS 13 (pS 12 (pS 11 (pS 5 (pS 4 (pU 1)))))), rfl, o, Nat.zero_le _, rfl, hrl, q⟩ ?_
 rintro ad _ ae ⟨f, j, os, rfl, af, b, hj, hr, hol, c⟩
 refine zB (zC ?_)
 refine qD rfl (yU rfl rfl) ?_
 refine qe (zA (zB ?_))
 refine yA (p := ((j : Int) : Int) < (xs.length : Int)) rfl rfl (fun s => ?_) (fun s => ?_)
 ·skip
  have hbj := hb j (by omega)
  refine wp_skip ?_
  refine zA (zB ?_)
  refine zW ?_
  refine zB (zC ?_)
  refine qM (vJ (j : Int)) ?_
  refine qD rfl (zH Tryd.underlying40 sz3 (v := u) rfl rfl hu (by omega) (by omega)) ?_
  refine qD rfl (zK (r := xs.getD j 0) rfl ag3 (z := (j : Int)) rfl hu b.pins (by omega) (by omega)) ?_
  refine qM (vJ (j : Int)) ?_
  refine qM (vJ (xs.getD j 0)) ?_
  refine qe (zA (zC ?_))
  refine qM a ?_
  refine qM (vJ (j : Int)) ?_
  refine qM v ?_
  refine qM (vJ (xs.getD j 0)) ?_
  refine qD rfl (zH Tryd.underlying40 sz3 (v := v) rfl rfl hv (by omega) (by omega)) ?_
  refine qD rfl (zK (r := ys.getD (xs.getD j 0).toNat 0) rfl ag3 (z := (xs.getD j 0)) rfl hv b.pins (by omega) (by omega)) ?_
  refine qD rfl (zH Tryd.underlying40 sz3 (v := a) rfl rfl c.read (by omega) (by omega)) ?_
  refine q0 rfl rfl rfl (o_set (E := eInt) (v := a) (u := (vJ (ys.getD (xs.getD j 0).toNat 0))) (z := (j : Int)) (ys.getD (xs.getD j 0).toNat 0) sz3 rfl rfl rfl rfl b.pins c (by omega) (by omega) (fun ag t x y ah => ?_))
  have aa := b.write x y ((zX c))
  refine qe ?_
  refine zZ ?_
  refine zA (zC ?_)
  refine qD rfl (yJ rfl rfl (by omega)) ?_
  refine qM (vJ ((j : Int) + 1)) ?_
  refine qe ?_
  refine yC ?_
  refine ⟨_, ?_, _, rfl, _, j + 1, os.set j (ys.getD (xs.getD j 0).toNat 0), (pS 13 (pS 12 (pS 11 (pS 5 (pS 4 (pU 1)))))), rfl, aa, (by omega), (by rw [hr]; exact cur_set 0 (by omega) (by omega) (at_getD (by omega))), ((List.length_set ..).trans hol), t⟩
  omega
 refine wp_exit ?_
 refine zY ?_
 refine yH ?_
 refine yD ?_
 refine zA (zB (zC ?_))
 refine qM a ?_
 refine qM a ?_
 refine qe (zA ?_)
 refine wp_ret ?_
 refine zP ?_
 refine zM (v := a) rfl rfl rfl ?_
 rw [cur_end (by omega) (by omega)] at hr
 exact ⟨_, _, rfl, (by rw [← hr]; exact c), b⟩

theorem load_spec {w : World} {G : Pin} {p : Nat} {L R B : Value} {mm : PM} {q : PSt} (hP : Pins G w) (hpk : Pk 40 3 G w p L R B mm q) (hok : PoolOk q) {x : Value} {fs : List Nd} (hx : RSl eNode G x fs) (hf : FormOk fs) (hl : q.ns.length + fs.length ≤ 1048576) :
  Calls Tryd.prog 48 [(.pointer (some ⟨p, 0, none⟩)), (.agg [x].toArray)].toArray w fun e w' => ∃ (u : Value) (ats : List Int) (L' R' B' : Value) (q' : PSt) (G' : Pin), e = .returned u ∧ Pk 40 3 G' w' p L' R' B' mm q' ∧ PoolOk q' ∧ PX q q' ∧ PLo w p L R B mm L' R' B' ∧ Ext (inP p L R B mm) G w G' w' ∧ Own eInt 3 G' w' w.heap.size u ats ∧ NP p L' R' B' mm u.ownBlock ∧ LdOk fs q q' fs.length ats := by
 refine zV (n := 34) Tryd.func48 Tryd.ntmps48 rfl rfl ?_
 have ax : Ext (inP p L R B mm) G w G w := Ext.refl hP
 have hpin : PIn w (inP p L R B mm) p L R B mm := PIn.self
 have ee : (q.ns.map Nd.l).length = q.ns.length ∧ (q.ns.map Nd.r).length = q.ns.length := ⟨List.length_map .., List.length_map ..⟩
 have ef : q.bs.length = q.ns.length ∧ q.ns.length ≤ 1048576 := ⟨hok.ar.ok.len, hok.ar.ok.lim⟩
 refine zB (zC ?_)
 refine qI rfl (qA [x] (v := (.agg [x].toArray)) rfl rfl ax.pins (fun b3 w4 cp cq bk bl => ?_))
 have cr := ax.step bk bl
 have cs := hpk.below bl bk
 have ct := hpk.new (x := (some b3)) (fun k hk => by rw [(congrArg some cp)] at hk; cases hk; exact Nat.le_refl _)
 have cu : w.heap.size ≤ b3 := by have := ax.size; omega
 obtain ⟨ay, ak, al, bm, cv⟩ := cq.shut cr cu
 have bn := cs.more ak cv ct
 refine qM (.slice none 0 0) ?_
 refine qe (zA (zB (zC ?_)))
 refine qD rfl (zN (k := 0) rfl Tryd.underlying26 rfl nz24 rfl) ?_
 refine qD rfl (zQ (u := x) ag24 rfl (al.pins _ _ _ (bm 0 _ rfl))) ?_
 refine qD rfl (zO Tryd.underlying24 (v := x) rfl hx) ?_
 refine qI rfl (o_make0 (E := eInt) Tryd.underlying40 mk3 rfl rfl al.pins (by omega) (by omega) (by omega) (fun am cw cx bo bp cy => ?_))
 have bq := al.step bo bp
 have cz := bn.below bp bo
 have c0 := bn.new (x := am.ownBlock) (fun k hk => by rw [cy] at hk; cases hk; exact Nat.le_refl _)
 have c1 : Own eInt 3 ay cw w.heap.size am ([]) := cx.weaken al.size
 refine qM am ?_
 refine qe (zA (zB (zB (zC ?_))))
 refine qD rfl (zN (k := 0) rfl Tryd.underlying26 rfl nz24 rfl) ?_
 refine qD rfl (zQ (u := x) ag24 rfl (bq.pins _ _ _ (bm 0 _ rfl))) ?_
 refine qD rfl (zO Tryd.underlying24 (v := x) rfl hx) ?_
 refine qM (vJ 0) ?_
 refine qe (zA ?_)
 refine zW ?_
 refine yL (fun (k : Nat) (en : Nat → Value) (W : World) => ∃ (br : Nat → Value) (a : Nat) (at_ : Value) (ats : List Int) (t : Value) (y : Value) (aa : Value) (b : PSt) (o : Pin), en = (upd (upd (upd (upd (upd (upd br 0 (.pointer (some ⟨p, 0, none⟩))) 4 (.slice none 0 0)) 5 at_) 13 x) 14 (vJ (fs.length : Int))) 15 (vJ (a : Int))) ∧ k = fs.length - a ∧ Ext (inP p L R B mm) G w o W ∧ Pin.le ay o ∧ (a ≤ fs.length) ∧ (LdOk fs q b a ats) ∧ (Own eInt 3 o W w.heap.size at_ (ats)) ∧ (Pk 40 3 o W p t y aa mm b) ∧ (PIn w ((inP p L R B mm)) p t y aa mm) ∧ (PoolOk b) ∧ (PX q b) ∧ (NP p t y aa mm at_.ownBlock)) _ ⟨_, 0, am, [], L, R, B, q, ay, (pS 15 (pS 14 (pS 13 (pS 5 (pS 4 (pU 0)))))), rfl, bq, Pin.le_refl _, Nat.zero_le _, LdOk.start, c1, cz, hpin, hok, (PX.refl _), c0⟩ ?_
 rintro eh _ ei ⟨br, a, at_, ats, t, y, aa, b, o, rfl, ej, ab, an, hk, hld, az, a0, a1, ac, a2, a3⟩
 have ek := a2.len
 have el : (b.ns.map Nd.l).length = b.ns.length ∧ (b.ns.map Nd.r).length = b.ns.length := ⟨List.length_map .., List.length_map ..⟩
 have em : b.bs.length = b.ns.length ∧ b.ns.length ≤ 1048576 := ⟨ac.ar.ok.len, ac.ar.ok.lim⟩
 have hal := hld.len
 have hah := hld.hi
 have hfl := hf.len
 refine zB (zC ?_)
 refine qD rfl (yU rfl rfl) ?_
 refine qe (zA (zB ?_))
 refine yA (p := ((a : Int) : Int) < (fs.length : Int)) rfl rfl (fun c2 => ?_) (fun c2 => ?_)
 ·skip
  have oo := xG hf.opts (show a < fs.length by omega)
  have hfe := hf.lens a (by omega)
  refine wp_skip ?_
  refine zA (zB ?_)
  refine zW ?_
  refine zB (zC ?_)
  refine qD rfl (zH Tryd.underlying24 sz60 (v := x) rfl rfl hx (by omega) (by omega)) ?_
  obtain ⟨ad, ae, a4, a5, c3⟩ := nm_node (hx.at (z := (a : Int)) (by omega) (by omega)) (j := a) rfl
  have eo := a4.max
  have ep := a5.max
  refine qD rfl (c3 ag60 sz60 rfl (Pins.of_le ab.pins (Pin.le_trans ak an))) ?_
  refine qI rfl (yX [(.slice none 0 0), (.slice none 0 0)] zr60 rfl ab.pins (fun a6 eq bt c4 bu a7 => ?_))
  have bv := ab.step bu a7
  have c5 := az.below a7
  have c6 := a0.below a7 bu
  have bw : Apart (some a6) at_.ownBlock := zG (congrArg some bt) az.lt
  have bx := a0.new (x := (some a6)) (fun k hk => by rw [(congrArg some bt)] at hk; cases hk; exact Nat.le_refl _)
  have bz : w.heap.size ≤ a6 := by have := ab.size; omega
  refine q0 rfl rfl rfl (xD (cs' := [ad, ae]) (us := [ad, ae]) (v := (.agg [ad, ae].toArray)) sz60 rfl rfl rfl (ones2 a4.one a5.one) bv.pins c4 (Nat.le_of_ble_eq_true rfl) rfl (fun ao c7 b0 a8 er => ?_))
  have c8 := bv.write b0 a8 ((yM bz))
  have c9 := c5.keptA a8 bw.symm
  have da := c6.kept a8 b0 bx
  obtain ⟨af, ag, b1, b2, b4⟩ := c7.shut c8 bz
  have db := c9.moreA ag b4 bw.symm
  have dc := da.more ag b4 bx
  refine qe (zA ?_)
  refine xE (S := fun wz => Pins af wz) (last := 14) (by kernel_rfl) rfl ?_
  have ap : Below ao.heap.size ao ao.drew := (Below.refl _ _).drew
  have b5 := b1.pins.below ap
  have c := b1.step b5 ap
  have a9 := db.below ap
  have b6 := dc.below ap b5
  refine dM 0 at_ c.pins ?_
  refine dM 1 (.pointer (some ⟨p, 0, none⟩)) c.pins ?_
  refine dT (i := 2) rfl rfl (by kernel_rfl) (fun _ _ => zN (k := 0) rfl Tryd.underlying60 rfl nz40 rfl) c.pins ?_
  refine dT (i := 3) rfl rfl (by kernel_rfl) (fun _ hS => zQ (u := ad) ag40 rfl (hS _ _ _ (b2 0 _ rfl))) c.pins ?_
  refine dM 4 at_ c.pins ?_
  refine dT (i := 6) rfl rfl (by kernel_rfl) (fun _ _ => zN (k := 1) rfl Tryd.underlying60 rfl nz40 rfl) c.pins ?_
  refine dT (i := 7) rfl rfl (by kernel_rfl) (fun _ hS => zQ (u := ae) ag40 rfl (hS _ _ _ (b2 1 _ rfl))) c.pins ?_
  refine dM 8 at_ c.pins ?_
  refine dO (i := 5) (zS (i := 5) rfl rfl rfl (zD rfl _) (zL (vs := [ad, at_]) Tryd.func67 nm67 rfl rfl rfl ?_))
  refine Calls.mono (renamed_spec (Gadd.pins c.pins at_) ((a4.mono (Pin.le_trans (Pin.le_trans ak an) ag)).mono (Gadd.le _ _ _)) a9.read (by omega) (fun i hi => by have h7 := oo.1 _ (yY (d := (0 : Int)) hi); omega)) ?_
  rintro _ b7 ⟨ba, es, rfl, de, b8⟩
  refine ⟨_, rfl, ?_⟩
  have ah := deep_back c.pins b8
  have bb := de.anti flat_int (Pin.le_trans (Gadd.le af ao.drew at_) b8.le)
  have ai := c.step ah.pins ah.below
  have bc := a9.below ah.below
  have b9 := b6.below ah.below ah.pins
  have df := zT bb.lt a9.lt
  have dg := b6.new (x := ba.ownBlock) (fun k hk => (bb.lt k hk).1)
  have ca : Own eInt 3 af b7 w.heap.size ba (atL ats ((fs.getD a default).l)) := bb.weaken c.size
  have et : (atL ats ((fs.getD a default).l)).length = ((fs.getD a default).l).length := yZ
  refine ⟨fun _ => ai.pins, ?_⟩
  refine dO (i := 9) (zS (i := 9) rfl rfl rfl (zD rfl _) (zL (vs := [ae, at_]) Tryd.func67 nm67 rfl rfl rfl ?_))
  refine Calls.mono (renamed_spec (Gadd.pins ai.pins at_) ((a5.mono (Pin.le_trans (Pin.le_trans ak an) ag)).mono (Gadd.le _ _ _)) bc.read (by omega) (fun i hi => by have h7 := oo.2 _ (yY (d := (0 : Int)) hi); omega)) ?_
  rintro _ dh ⟨bd, eu, rfl, di, cb⟩
  refine ⟨_, rfl, ?_⟩
  have s := deep_back ai.pins cb
  have aq := di.anti flat_int (Pin.le_trans (Gadd.le af b7 at_) cb.le)
  have cc := ai.step s.pins s.below
  have dj := bc.below s.below
  have dk := ca.below s.below
  have dl := b9.below s.below s.pins
  have dm := zT aq.lt bc.lt
  have dn := zT aq.lt ca.lt
  have dp := b9.new (x := bd.ownBlock) (fun k hk => (aq.lt k hk).1)
  have dq : Own eInt 3 af dh w.heap.size bd (atL ats ((fs.getD a default).r)) := aq.weaken ai.size
  have ev : (atL ats ((fs.getD a default).r)).length = ((fs.getD a default).r).length := yZ
  refine ⟨fun _ => cc.pins, ?_⟩
  obtain ⟨ew, f, dr, ds, be⟩ := dk.sealed cc
  have dt := dj.moreO f be df.symm
  have du := dq.moreO f be dn
  have dv := dl.moreO f be dg
  obtain ⟨ex, g, bf, dw, cd⟩ := du.sealed dr
  have ce := dt.moreO g cd dm.symm
  have dx := dv.moreO g cd dp
  refine dO (i := 10) (zS (i := 10) rfl rfl rfl (zD rfl _) (zL (vs := [(.pointer (some ⟨p, 0, none⟩)), ba, bd]) Tryd.func66 nm66 rfl rfl rfl ?_))
  refine Calls.mono (node_spec bf.pins dx ac (ds.mono g) dw (by omega) ⟨by rw [yZ]; omega, by rw [yZ]; omega⟩ (hld.opt oo.1) (hld.opt oo.2)) ?_
  rintro _ ey ⟨aj, dy, dz, d0, h, cf, rfl, d1, au, bg, cg, m, d2, d3, d4, ez⟩
  refine ⟨_, rfl, ?_⟩
  have av := bf.trans m a1
  have d5 := ce.extS m a3
  have ch := NP.call a3 cg (qK ce)
  have d6 := PIn.call a1 cg bf.size
  have e0 := bg.len
  have e1 : (h.ns.map Nd.l).length = h.ns.length ∧ (h.ns.map Nd.r).length = h.ns.length := ⟨List.length_map .., List.length_map ..⟩
  have e2 : h.bs.length = h.ns.length ∧ h.ns.length ≤ 1048576 := ⟨au.ar.ok.len, au.ar.ok.lim⟩
  refine ⟨fun _ => (Pins.of_le av.pins (Pin.le_trans (Pin.le_trans f g) m.le)), ?_⟩
  refine dO (i := 11) (zS (i := 11) rfl rfl rfl (zD rfl _) (yV (E := eInt) (e := 3) [(vJ aj)] [aj] Tryd.underlying40 sz3 zr3 (by exact xU (by rfl)) (yP (by rfl)) rfl rfl rfl rfl (by decide) av.pins (fun ci d7 d8 cj bh e3 => ?_)))
  have aw := av.step cj bh
  have ck := d5.below bh
  have cl := d1.below bh cj
  have d9 : Own eInt 3 cf d7 w.heap.size ci ([aj]) := d8.weaken av.size
  refine ⟨fun _ => (Pins.of_le aw.pins (Pin.le_trans (Pin.le_trans f g) m.le)), ?_⟩
  refine dO (i := 12) (zS (i := 12) rfl rfl rfl (zD rfl _) (oA (E := eInt) (v := at_) (u := ci) 8 Tryd.underlying40 ap3 (by decide) rfl rfl aw.pins ck d9.src (aw.size) (fun cm e4 ea cn co eb => ?_)))
  have bi := aw.write cn co ((zX ck))
  have ec := cl.kept co cn ch
  have ed := np_app ch cl eb
  have e5 : (ats ++ ([aj])).length = ats.length + 1 := List.length_append
  refine ⟨fun _ => (Pins.of_le bi.pins (Pin.le_trans (Pin.le_trans f g) m.le)), ?_⟩
  refine dM 13 cm (Pins.of_le bi.pins (Pin.le_trans (Pin.le_trans f g) m.le)) ?_
  refine yE (by kernel_rfl) ?_
  refine zZ ?_
  refine zA (zC ?_)
  refine qD rfl (yJ rfl rfl (by omega)) ?_
  refine qM (vJ ((a : Int) + 1)) ?_
  refine qe ?_
  refine yC ?_
  refine ⟨_, ?_, _, rfl, _, a + 1, cm, ats ++ ([aj]), dy, dz, d0, h, cf, (pS 15 (pS 14 (pS 13 (pS 5 (pS 4 (pU 0)))))), rfl, bi, (Pin.le_trans (Pin.le_trans (Pin.le_trans (Pin.le_trans an ag) f) g) m.le), (by omega), (hld.step hf (by omega) ac au bg d2 d3 d4), ea, ec, d6, au, (PX.trans a2 bg), ed⟩
  omega
 refine wp_exit ?_
 refine zY ?_
 refine yH ?_
 refine yD ?_
 refine zA (zB (zC ?_))
 refine qM at_ ?_
 refine qM at_ ?_
 refine qe (zA ?_)
 refine wp_ret ?_
 refine zP ?_
 refine zM (v := at_) rfl rfl rfl ?_
 have hkf : a = fs.length := by omega
 rw [hkf] at hld
 exact ⟨at_, ats, t, y, aa, b, o, rfl, a0, ac, a2, PIn.lo a1 rfl, ab, az, a3, hld⟩

theorem root_spec {w : World} {G : Pin} {p : Nat} {L R B : Value} {mm : PM} {q : PSt} (hP : Pins G w) (hpk : Pk 40 3 G w p L R B mm q) (hok : PoolOk q) {x : Value} {fs : List Nd} (hx : RSl eNode G x fs) (hf : FormOk fs) (hl : q.ns.length + fs.length ≤ 1048576) (hf1 : 1 ≤ fs.length) :
  Calls Tryd.prog 28 [(.pointer (some ⟨p, 0, none⟩)), (.agg [x].toArray)].toArray w fun e w' => ∃ (z : Int) (L' R' B' : Value) (q' : PSt) (G' : Pin), e = .returned (vJ z) ∧ Pk 40 3 G' w' p L' R' B' mm q' ∧ PoolOk q' ∧ PX q q' ∧ PLo w p L R B mm L' R' B' ∧ Ext (inP p L R B mm) G w G' w' ∧ PlaceOk q' z ∧ pd q' z = gOf fs ∧ q'.ns.length ≤ q.ns.length + fs.length := by
 refine zV (n := 15) Tryd.func28 Tryd.ntmps28 rfl rfl ?_
 have d : Ext (inP p L R B mm) G w G w := Ext.refl hP
 have hpin : PIn w (inP p L R B mm) p L R B mm := PIn.self
 have av : (q.ns.map Nd.l).length = q.ns.length ∧ (q.ns.map Nd.r).length = q.ns.length := ⟨List.length_map .., List.length_map ..⟩
 have aw : q.bs.length = q.ns.length ∧ q.ns.length ≤ 1048576 := ⟨hok.ar.ok.len, hok.ar.ok.lim⟩
 have hfl := hf.len
 refine zB (zC ?_)
 refine qI rfl (qA [x] (v := (.agg [x].toArray)) rfl rfl d.pins (fun i w4 aa ab m o => ?_))
 have ac := d.step m o
 have ad := hpk.below o m
 have ae := hpk.new (x := (some i)) (fun k hk => by rw [(congrArg some aa)] at hk; cases hk; exact Nat.le_refl _)
 have af : w.heap.size ≤ i := by have := d.size; omega
 obtain ⟨ay, s, c, ag, ah⟩ := ab.shut ac af
 have ai := ad.more s ah ae
 refine qM (vJ 0) ?_
 refine qe (zA (zB (zC ?_)))
 refine qM (.pointer (some ⟨p, 0, none⟩)) ?_
 refine qD rfl (yB (cs := [x]) ag26 sz26 rfl (fun j u hj => c.pins _ _ _ (ag _ _ (by simpa using hj)))) ?_
 refine qI rfl (zL (vs := [(.pointer (some ⟨p, 0, none⟩)), (.agg [x].toArray)]) Tryd.func48 nm48 rfl rfl rfl ?_)
 refine Calls.mono (load_spec c.pins ai hok (hx.mono s) hf hl) ?_
 rintro _ az ⟨b, ats, aj, ak, al, a, am, rfl, an, f, t, ao, ap, aq, a0, g⟩
 refine ⟨_, rfl, ?_⟩
 have y := c.trans ap hpin
 have au := PIn.call hpin ao c.size
 have a1 := t.len
 have a2 : (a.ns.map Nd.l).length = a.ns.length ∧ (a.ns.map Nd.r).length = a.ns.length := ⟨List.length_map .., List.length_map ..⟩
 have a3 : a.bs.length = a.ns.length ∧ a.ns.length ≤ 1048576 := ⟨f.ar.ok.len, f.ar.ok.lim⟩
 have h := aq.weaken c.size
 have a4 := g.len
 refine qM b ?_
 refine qe (zA (zB (zC ?_)))
 refine qM b ?_
 refine qM b ?_
 refine qD rfl (zO Tryd.underlying40 (v := b) rfl h.read) ?_
 refine qD rfl (xZ rfl rfl (by omega)) ?_
 refine qD rfl (zH Tryd.underlying40 sz3 (v := b) rfl rfl h.read (by omega) (by omega)) ?_
 refine qD rfl (zK (r := ats.getD ((ats.length : Int) - 1).toNat 0) rfl ag3 (z := ((ats.length : Int) - 1)) rfl h.read (Gadd.pins y.pins b) (by omega) (by omega)) ?_
 refine qM (vJ (ats.getD ((ats.length : Int) - 1).toNat 0)) ?_
 refine qe (zA ?_)
 refine wp_ret ?_
 refine zP ?_
 refine zM (v := (vJ (ats.getD ((ats.length : Int) - 1).toNat 0))) rfl rfl rfl ?_
 have hrt := g.root hf1
 rw [show fs.length - 1 = ((ats.length : Int) - 1).toNat by omega] at hrt
 exact ⟨_, aj, ak, al, a, am, rfl, an, f, t, PIn.lo au rfl, y, hrt.1, hrt.2, g.hi⟩

def GeP (m : Nat) (p : Nat) (L R B : Value) (mm : PM) : Prop := ∀ {w : World} {G : Pin} {q : PSt} {a b : Int} (_ : Pins G w) (_ : Pk 40 3 G w p L R B mm q) (_ : PoolOk q) (_ : PlaceOk q a) (_ : PlaceOk q b), a.toNat + b.toNat < m →
  Calls Tryd.prog 27 [(.pointer (some ⟨p, 0, none⟩)), (.int .i64 a), (.int .i64 b)].toArray w fun e w' => ∃ (q' : PSt) (G' : Pin), e = .returned (.bool (geB q.ns a b)) ∧ Pk 40 3 G' w' p L R B mm q' ∧ PoolOk q' ∧ PX q q' ∧ (q'.ns = q.ns ∧ q'.bs = q.bs) ∧ Ext (inO (some mm.o)) G w G' w'

theorem ge_step {p : Nat} {L R B : Value} {mm : PM} {m : Nat} {w : World} {G : Pin} {q : PSt} {a b : Int} (hP : Pins G w) (hpk : Pk 40 3 G w p L R B mm q) (hok : PoolOk q) (ha : PlaceOk q a) (hb : PlaceOk q b) (ih : GeP m p L R B mm) (hm : a.toNat + b.toNat < m + 1) :
  Calls Tryd.prog 27 [(.pointer (some ⟨p, 0, none⟩)), (vJ a), (vJ b)].toArray w fun e w' => ∃ (q' : PSt) (G' : Pin), e = .returned (.bool (geB q.ns a b)) ∧ Pk 40 3 G' w' p L R B mm q' ∧ PoolOk q' ∧ PX q q' ∧ (q'.ns = q.ns ∧ q'.bs = q.bs) ∧ Ext (inO (some mm.o)) G w G' w' := by
 refine zV (n := 74) Tryd.func27 Tryd.ntmps27 rfl rfl ?_
 have a3 : Ext (inO (some mm.o)) G w G w := Ext.refl hP
 have hpin : PIn w (inP p L R B mm) p L R B mm := PIn.self
 have dj : (q.ns.map Nd.l).length = q.ns.length ∧ (q.ns.map Nd.r).length = q.ns.length := ⟨List.length_map .., List.length_map ..⟩
 have dk : q.bs.length = q.ns.length ∧ q.ns.length ≤ 1048576 := ⟨hok.ar.ok.len, hok.ar.ok.lim⟩
 have dl := ha.1
 have dm := ha.2
 have dn := hb.1
 have dp := hb.2
 refine zB (zC ?_)
 refine qM (.bool false) ?_
 refine qe (zA (zB (zB (zC ?_))))
 refine qM (vJ a) ?_
 refine qM (vJ b) ?_
 refine qD rfl (r_eql rfl rfl) ?_
 refine qe (zA ?_)
 refine yA (p := (a : Int) = b) rfl rfl (fun h3 => ?_) (fun h3 => ?_)
 ·skip
  refine zB (zC ?_)
  refine qM (.bool true) ?_
  refine qe (zA ?_)
  refine wp_ret ?_
  refine zP ?_
  refine zM (v := (.bool true)) rfl rfl rfl ?_
  exact ⟨q, _, congrArg (fun z => Ending.returned (Value.bool z)) (by rw [h3]; exact geB_refl.symm), hpk, hok, (PX.refl _), ⟨rfl, rfl⟩, a3⟩
 refine wp_skip ?_
 refine zA (zB (zC ?_))
 refine qM (vJ a) ?_
 refine qM (vJ b) ?_
 refine qD rfl (r_buildA (m := 1) [(vJ 0), (vJ 0)] [(vJ a), (vJ b)] [(0, (vJ a), [(vJ a)]), (1, (vJ b), [(vJ b)])] Tryd.underlying78 zr78 rfl sz3 rfl (List.forall_mem_cons.2 ⟨rfl, (List.forall_mem_cons.2 ⟨rfl, (fun _ h => by cases h)⟩)⟩) rfl) ?_
 refine qI rfl (yX [(vJ 0), (vJ 0)] zr78 rfl a3.pins (fun b4 w5 cz c0 b7 b8 => ?_))
 have b9 := a3.step b7 b8
 have c1 := hpk.below b8 b7
 have ca := hpk.new (x := (some b4)) (fun k hk => by rw [(congrArg some cz)] at hk; cases hk; exact Nat.le_refl _)
 have cb : w.heap.size ≤ b4 := by have := a3.size; omega
 refine q0 rfl rfl rfl (xD (cs' := [(vJ a), (vJ b)]) (us := [(vJ a), (vJ b)]) (v := (.agg [(vJ a), (vJ b)].toArray)) sz78 rfl rfl rfl (ones2 (by rfl) (by rfl)) b9.pins c0 (Nat.le_of_ble_eq_true rfl) rfl (fun bh c2 cc cd dr => ?_))
 have c3 := b9.write cc cd ((yM cb))
 have c4 := c1.kept cd cc ca
 obtain ⟨bi, c5, ce, a5, c6⟩ := c2.shut c3 cb
 have c7 := c4.more c5 c6 ca
 refine qe (zA (zB (zB ?_)))
 refine xE (S := fun wz => BxR wz p [L, R, B, (.map (some mm.f)), (.map (some mm.o)), (.map (some mm.c)), (.map (some mm.s)), (.map (some mm.n))] ∧ Pins bi wz) (last := 11) (by kernel_rfl) rfl ?_
 have bj : Below bh.heap.size bh bh.drew := (Below.refl _ _).drew
 have cf := ce.pins.below bj
 have ac := ce.step cf bj
 have aa := c7.below bj cf
 refine dT (i := 0) rfl rfl (by kernel_rfl) (fun _ _ => zR (v := (.pointer (some ⟨p, 0, none⟩))) rfl) ⟨aa.bx.reads, ac.pins⟩ ?_
 refine dT (i := 1) rfl rfl (by kernel_rfl) (fun _ _ => xA rfl) ⟨aa.bx.reads, ac.pins⟩ ?_
 refine dT (i := 2) rfl rfl (by kernel_rfl) (fun _ _ => zN (k := 4) rfl Tryd.underlying77 rfl nz72 rfl) ⟨aa.bx.reads, ac.pins⟩ ?_
 refine dT (i := 3) rfl rfl (by kernel_rfl) (fun _ hS => zQ (u := (.map (some mm.o))) ag72 rfl (hS.1 4 _ rfl)) ⟨aa.bx.reads, ac.pins⟩ ?_
 refine dT (i := 4) rfl rfl (by kernel_rfl) (fun _ hS => yB (cs := [(vJ a), (vJ b)]) ag78 sz78 rfl (fun j u hj => hS.2 _ _ _ (a5 _ _ (by simpa using hj)))) ⟨aa.bx.reads, ac.pins⟩ ?_
 refine dO (i := 5) (zS (i := 5) rfl rfl rfl (zD rfl _) (EO.run (run_lookv_bool (k := ((a, b) : Int × Int)) (key_pair Tryd.underlying78 Tryd.underlying3 sz3) Tryd.underlying72 zr4 aa.fo rfl rfl) ?_))
 refine ⟨fun _ => ⟨aa.bx.reads, ac.pins⟩, ?_⟩
 refine dT (i := 6) rfl rfl (by kernel_rfl) (fun _ _ => zR (v := (.tuple #[(.bool ((Go.GL.look q.om ((a, b) : Int × Int)).getD false)), (.bool ((Go.GL.look q.om ((a, b) : Int × Int)).isSome))])) rfl) ⟨aa.bx.reads, ac.pins⟩ ?_
 refine dT (i := 7) rfl rfl (by kernel_rfl) (fun _ _ => xC (v := (.bool ((Go.GL.look q.om ((a, b) : Int × Int)).getD false))) rfl rfl) ⟨aa.bx.reads, ac.pins⟩ ?_
 refine dT (i := 8) rfl rfl (by kernel_rfl) (fun _ _ => xC (v := (.bool ((Go.GL.look q.om ((a, b) : Int × Int)).isSome))) rfl rfl) ⟨aa.bx.reads, ac.pins⟩ ?_
 refine dT (i := 9) rfl rfl (by kernel_rfl) (fun _ _ => r_assign (v := (.bool ((Go.GL.look q.om ((a, b) : Int × Int)).getD false))) rfl) ⟨aa.bx.reads, ac.pins⟩ ?_
 refine dT (i := 10) rfl rfl (by kernel_rfl) (fun _ _ => r_assign (v := (.bool ((Go.GL.look q.om ((a, b) : Int × Int)).isSome))) rfl) ⟨aa.bx.reads, ac.pins⟩ ?_
 refine yE (by kernel_rfl) ?_
 refine zA (zB (zC ?_))
 refine qM (.bool ((Go.GL.look q.om ((a, b) : Int × Int)).isSome)) ?_
 refine qe (zA ?_)
 refine c_if rfl rfl (fun cg => ?_) (fun cg => ?_)
 ·skip
  refine zB (zC ?_)
  refine qM (.bool ((Go.GL.look q.om ((a, b) : Int × Int)).getD false)) ?_
  refine qM (.bool ((Go.GL.look q.om ((a, b) : Int × Int)).getD false)) ?_
  refine qe (zA ?_)
  refine wp_ret ?_
  refine zP ?_
  refine zM (v := (.bool ((Go.GL.look q.om ((a, b) : Int × Int)).getD false))) rfl rfl rfl ?_
  obtain ⟨z, hz⟩ := Option.isSome_iff_exists.1 cg
  exact ⟨q, _, congrArg (fun z => Ending.returned (Value.bool z)) (by rw [hz]; exact (hok.ord _ _ _ hz).2.2), aa, hok, (PX.refl _), ⟨rfl, rfl⟩, ac⟩
 refine wp_skip ?_
 refine zA (zB (zC ?_))
 refine qM (.bool true) ?_
 refine qe (zA (zB (zB (zC ?_))))
 refine qM (.pointer (some ⟨p, 0, none⟩)) ?_
 refine qD rfl (xA rfl) ?_
 refine qD rfl (zN (k := 1) rfl Tryd.underlying77 rfl nz75 rfl) ?_
 refine qD rfl (zQ (u := R) ag75 rfl (aa.bx.cell (o := 1) rfl)) ?_
 refine qM (vJ a) ?_
 refine qD rfl (zH Tryd.underlying75 sz40 (v := R) rfl rfl aa.rr.read (by omega) (by omega)) ?_
 obtain ⟨bk, av, c8⟩ := nm_sl (aa.rr.at (z := a) (by omega) (by omega)) (j := (a).toNat) rfl
 rw [mapr_getD] at av
 have ds := av.max
 refine qD rfl (c8 ag40 rfl (Gadd.pins ac.pins R)) ?_
 refine qD rfl (zO Tryd.underlying40 (v := bk) rfl av) ?_
 refine qM (vJ 0) ?_
 refine qe (zA ?_)
 refine zW ?_
 have a6 : (q.ns.getD (a).toNat default).r = (q.ns.getD (a).toNat default).r := rfl
 refine yL (fun (k : Nat) (en : Nat → Value) (W : World) => ∃ (aw : Nat → Value) (i : Nat) (g : PSt) (GLr : Pin), en = (upd (upd (upd (upd (upd (upd (upd (upd (upd aw 0 (.pointer (some ⟨p, 0, none⟩))) 1 (vJ a)) 2 (vJ b)) 6 (.bool false)) 7 (.pointer (some ⟨b4, 0, none⟩))) 10 (.bool true)) 38 bk) 39 (vJ (((q.ns.getD (a).toNat default).r).length : Int))) 40 (vJ (i : Int))) ∧ k = (q.ns.getD (a).toNat default).r.length - i ∧ Ext (inO (some mm.o)) G w GLr W ∧ Pin.le bi GLr ∧ (i ≤ (q.ns.getD (a).toNat default).r.length) ∧ (∀ x, x < i → geB q.ns b ((q.ns.getD (a).toNat default).r.getD x 0) = false) ∧ (Pk 40 3 GLr W p L R B mm g) ∧ (PoolOk g) ∧ (PX q g) ∧ (g.ns = q.ns ∧ g.bs = q.bs)) _ ⟨_, 0, q, bi, (pS 40 (pS 39 (pS 38 (pS 10 (pS 7 (pS 6 (pS 2 (pS 1 (pU 0))))))))), rfl, ac, Pin.le_refl _, Nat.zero_le _, (fun q hq => absurd hq (Nat.not_lt_zero q)), aa, hok, (PX.refl _), ⟨rfl, rfl⟩⟩ ?_
 rintro dt _ du ⟨aw, i, g, GLr, rfl, dv, ax, ay, hji, hpr, az, a7, a0, t⟩
 have dw := a0.len
 have dx : (g.ns.map Nd.l).length = g.ns.length ∧ (g.ns.map Nd.r).length = g.ns.length := ⟨List.length_map .., List.length_map ..⟩
 have dy : g.bs.length = g.ns.length ∧ g.ns.length ≤ 1048576 := ⟨a7.ar.ok.len, a7.ar.ok.lim⟩
 have hlnr := congrArg List.length a6
 refine zB (zC ?_)
 refine qD rfl (yU rfl rfl) ?_
 refine qe (zA (zB ?_))
 refine yA (p := ((i : Int) : Int) < (((q.ns.getD (a).toNat default).r).length : Int)) rfl rfl (fun c9 => ?_) (fun c9 => ?_)
 ·skip
  have hki := (xG hok.ar.opts (show (a).toNat < q.ns.length by omega)).2 _ (yY (d := (0 : Int)) (show i < (q.ns.getD (a).toNat default).r.length by omega))
  rw [← a6] at hki
  refine wp_skip ?_
  refine zA (zB ?_)
  refine zW ?_
  refine zB (zC ?_)
  refine qD rfl (zH Tryd.underlying40 sz3 (v := bk) rfl rfl av (by omega) (by omega)) ?_
  refine qD rfl (zK (r := ((q.ns.getD (a).toNat default).r).getD i 0) rfl ag3 (z := (i : Int)) rfl av (Pins.of_le ax.pins ay) (by omega) (by omega)) ?_
  refine qM (vJ (((q.ns.getD (a).toNat default).r).getD i 0)) ?_
  refine qe (zA (zB (zC ?_)))
  refine qM (.pointer (some ⟨p, 0, none⟩)) ?_
  refine qM (vJ b) ?_
  refine qM (vJ (((q.ns.getD (a).toNat default).r).getD i 0)) ?_
  refine qI rfl (zL (vs := [(.pointer (some ⟨p, 0, none⟩)), (vJ b), (vJ (((q.ns.getD (a).toNat default).r).getD i 0))]) Tryd.func27 nm27 rfl rfl rfl ?_)
  refine Calls.mono (ih ax.pins az a7 ⟨by omega, by omega⟩ ⟨by omega, by omega⟩ (by omega)) ?_
  rintro _ bl ⟨ad, ch, rfl, ci, a8, bm, aq, bn⟩
  refine ⟨_, rfl, ?_⟩
  have bo := ax.trans bn (fun i hi => xB i hi)
  have dz := bm.len
  have d0 : (ad.ns.map Nd.l).length = ad.ns.length ∧ (ad.ns.map Nd.r).length = ad.ns.length := ⟨List.length_map .., List.length_map ..⟩
  have d1 : ad.bs.length = ad.ns.length ∧ ad.ns.length ≤ 1048576 := ⟨a8.ar.ok.len, a8.ar.ok.lim⟩
  have d2 := congrArg List.length aq.1
  refine qe (zA ?_)
  refine c_if rfl rfl (fun bp => ?_) (fun bp => ?_)
  ·skip
   refine zB (zC ?_)
   refine qM (.bool false) ?_
   refine qe (zA ?_)
   refine wp_exit ?_
   refine s_blkO rfl ?_
   refine zY ?_
   refine yH ?_
   refine yD ?_
   refine zA (zB (zB (zC ?_)))
   refine qM (.bool false) ?_
   refine qe (zA ?_)
   refine qR rfl rfl ?_
   refine wp_skip ?_
   refine zA (zB ?_)
   refine xE (S := fun wz => BxR wz p [L, R, B, (.map (some mm.f)), (.map (some mm.o)), (.map (some mm.c)), (.map (some mm.s)), (.map (some mm.n))] ∧ Pins ch wz) (last := 6) (by kernel_rfl) rfl ?_
   have bq : Below bl.heap.size bl bl.drew := (Below.refl _ _).drew
   have cj := bo.pins.below bq
   have aj := bo.step cj bq
   have ak := ci.below bq cj
   refine dT (i := 0) rfl rfl (by kernel_rfl) (fun _ _ => zR (v := (.pointer (some ⟨p, 0, none⟩))) rfl) ⟨ak.bx.reads, aj.pins⟩ ?_
   refine dT (i := 1) rfl rfl (by kernel_rfl) (fun _ _ => xA rfl) ⟨ak.bx.reads, aj.pins⟩ ?_
   refine dT (i := 2) rfl rfl (by kernel_rfl) (fun _ _ => zN (k := 4) rfl Tryd.underlying77 rfl nz72 rfl) ⟨ak.bx.reads, aj.pins⟩ ?_
   refine dT (i := 3) rfl rfl (by kernel_rfl) (fun _ hS => zQ (u := (.map (some mm.o))) ag72 rfl (hS.1 4 _ rfl)) ⟨ak.bx.reads, aj.pins⟩ ?_
   refine dT (i := 4) rfl rfl (by kernel_rfl) (fun _ hS => yB (cs := [(vJ a), (vJ b)]) ag78 sz78 rfl (fun j u hj => (Pins.of_le hS.2 (Pin.le_trans ay bn.le)) _ _ _ (a5 _ _ (by simpa using hj)))) ⟨ak.bx.reads, aj.pins⟩ ?_
   refine dT (i := 5) rfl rfl (by kernel_rfl) (fun _ _ => zR (v := (.bool false)) rfl) ⟨ak.bx.reads, aj.pins⟩ ?_
   refine dO (i := 6) (qQ (i := 6) rfl rfl rfl (zD rfl _) (o_mapUpdate (val := (fun v : Bool => Value.bool v)) (k := ((a, b) : Int × Int)) (v := false) (key_pair Tryd.underlying78 Tryd.underlying3 sz3) Tryd.underlying72 rfl rfl rfl aj.pins ak.fo (fun d3 da ck cl d4 => ?_)))
   have db := aj.trans (Ext.one ck cl) (fun i hi => xB i hi)
   have cm := ak.setO (Ext.one ck cl) da
   have hgv : geB q.ns a b = false := geB_no_right hok.ar.opts ha (i := i) (by omega) (by rw [← a6, ← qC t]; exact bp)
   have a9 := PoolOk.setO a8 (ha.same (yQ t aq)) (hb.same (yQ t aq)) (setO_ok (yQ t aq) hgv)
   obtain ⟨af, br⟩ : ∃ q, q = ({ ad with om := putE ad.om ((a, b) : Int × Int) false } : PSt) := ⟨_, rfl⟩
   rw [← br] at cm a9
   have hq83n : af.ns = ad.ns ∧ af.bs = ad.bs := by rw [br]; exact ⟨rfl, rfl⟩
   have hq83x : PX ad af := by rw [br]; exact ⟨Nat.le_refl _, fun _ _ => rfl, fun _ h => h⟩
   have d5 : (af.ns.map Nd.l).length = af.ns.length ∧ (af.ns.map Nd.r).length = af.ns.length := ⟨List.length_map .., List.length_map ..⟩
   have d6 : af.bs.length = af.ns.length ∧ af.ns.length ≤ 1048576 := ⟨a9.ar.ok.len, a9.ar.ok.lim⟩
   have d7 := hq83x.len
   refine ⟨fun h => absurd rfl h, ?_⟩
   refine yE (by kernel_rfl) ?_
   refine zA (zB (zC ?_))
   refine qM (.bool false) ?_
   refine qM (.bool false) ?_
   refine qe (zA ?_)
   refine wp_ret ?_
   refine zP ?_
   refine zM (v := (.bool false)) rfl rfl rfl ?_
   exact ⟨af, _, congrArg (fun z => Ending.returned (Value.bool z)) (hgv.symm), cm, a9, (PX.trans (PX.trans a0 bm) hq83x), (yQ (yQ t aq) hq83n), db⟩
  refine wp_skip ?_
  refine zZ ?_
  refine zA (zC ?_)
  refine qD rfl (yJ rfl rfl (by omega)) ?_
  refine qM (vJ ((i : Int) + 1)) ?_
  refine qe ?_
  refine yC ?_
  refine ⟨_, ?_, _, rfl, _, i + 1, ad, ch, (pS 40 (pS 39 (pS 38 (pS 10 (pS 7 (pS 6 (pS 2 (pS 1 (pU 0))))))))), rfl, bo, (Pin.le_trans ay bn.le), (by omega), (fun x h2 => if h3 : x = i then h3 ▸ (by rw [← a6, ← qC t]; exact bp) else hpr x (by omega)), ci, a8, (PX.trans a0 bm), (yQ t aq)⟩
  omega
 refine wp_exit ?_
 refine zY ?_
 refine yH ?_
 refine yD ?_
 refine zA (zB (zB (zC ?_)))
 refine qM (.bool true) ?_
 refine qe (zA ?_)
 refine c_ifT rfl rfl ?_
 refine zB (zC ?_)
 refine qM (.pointer (some ⟨p, 0, none⟩)) ?_
 refine qD rfl (xA rfl) ?_
 refine qD rfl (zN (k := 0) rfl Tryd.underlying77 rfl nz75 rfl) ?_
 refine qD rfl (zQ (u := L) ag75 rfl (az.bx.cell (o := 0) rfl)) ?_
 refine qM (vJ b) ?_
 refine qD rfl (zH Tryd.underlying75 sz40 (v := L) rfl rfl az.ol.read (by omega) (by omega)) ?_
 obtain ⟨bt, a1, dd⟩ := nm_sl (az.ol.at (z := b) (by omega) (by omega)) (j := (b).toNat) rfl
 rw [mapl_getD] at a1
 have d8 := a1.max
 refine qD rfl (dd ag40 rfl (Gadd.pins ax.pins L)) ?_
 refine qD rfl (zO Tryd.underlying40 (v := bt) rfl a1) ?_
 refine qM (vJ 0) ?_
 refine qe (zA ?_)
 refine zW ?_
 have ba : (g.ns.getD (b).toNat default).l = (q.ns.getD (b).toNat default).l := by rw [t.1]
 refine yL (fun (k : Nat) (en : Nat → Value) (W : World) => ∃ (aw : Nat → Value) (i2 : Nat) (y : PSt) (GLl : Pin), en = (upd (upd (upd (upd (upd (upd (upd (upd aw 0 (.pointer (some ⟨p, 0, none⟩))) 1 (vJ a)) 6 (.bool false)) 7 (.pointer (some ⟨b4, 0, none⟩))) 10 (.bool true)) 56 bt) 57 (vJ (((g.ns.getD (b).toNat default).l).length : Int))) 58 (vJ (i2 : Int))) ∧ k = (q.ns.getD (b).toNat default).l.length - i2 ∧ Ext (inO (some mm.o)) G w GLl W ∧ Pin.le GLr GLl ∧ (i2 ≤ (q.ns.getD (b).toNat default).l.length) ∧ (∀ x, x < i2 → geB q.ns ((q.ns.getD (b).toNat default).l.getD x 0) a = false) ∧ (Pk 40 3 GLl W p L R B mm y) ∧ (PoolOk y) ∧ (PX g y) ∧ (y.ns = g.ns ∧ y.bs = g.bs)) _ ⟨_, 0, g, GLr, (pS 58 (pS 57 (pS 56 (pS 10 (pS 7 (pS 6 (pS 1 (pU 0)))))))), rfl, ax, Pin.le_refl _, Nat.zero_le _, (fun q hq => absurd hq (Nat.not_lt_zero q)), az, a7, (PX.refl _), ⟨rfl, rfl⟩⟩ ?_
 rintro d9 _ bu ⟨aw, i2, y, GLl, rfl, ea, a2, bb, eb, hpl, cn, bc, bd, ag⟩
 have ec := bd.len
 have ed : (y.ns.map Nd.l).length = y.ns.length ∧ (y.ns.map Nd.r).length = y.ns.length := ⟨List.length_map .., List.length_map ..⟩
 have ee : y.bs.length = y.ns.length ∧ y.ns.length ≤ 1048576 := ⟨bc.ar.ok.len, bc.ar.ok.lim⟩
 have hlnl := congrArg List.length ba
 refine zB (zC ?_)
 refine qD rfl (yU rfl rfl) ?_
 refine qe (zA (zB ?_))
 refine yA (p := ((i2 : Int) : Int) < (((g.ns.getD (b).toNat default).l).length : Int)) rfl rfl (fun de => ?_) (fun de => ?_)
 ·skip
  have hki := (xG hok.ar.opts (show (b).toNat < q.ns.length by omega)).1 _ (yY (d := (0 : Int)) (show i2 < (q.ns.getD (b).toNat default).l.length by omega))
  rw [← ba] at hki
  refine wp_skip ?_
  refine zA (zB ?_)
  refine zW ?_
  refine zB (zC ?_)
  refine qD rfl (zH Tryd.underlying40 sz3 (v := bt) rfl rfl a1 (by omega) (by omega)) ?_
  refine qD rfl (zK (r := ((g.ns.getD (b).toNat default).l).getD i2 0) rfl ag3 (z := (i2 : Int)) rfl a1 (Pins.of_le a2.pins bb) (by omega) (by omega)) ?_
  refine qM (vJ (((g.ns.getD (b).toNat default).l).getD i2 0)) ?_
  refine qe (zA (zB (zC ?_)))
  refine qM (.pointer (some ⟨p, 0, none⟩)) ?_
  refine qM (vJ (((g.ns.getD (b).toNat default).l).getD i2 0)) ?_
  refine qM (vJ a) ?_
  refine qI rfl (zL (vs := [(.pointer (some ⟨p, 0, none⟩)), (vJ (((g.ns.getD (b).toNat default).l).getD i2 0)), (vJ a)]) Tryd.func27 nm27 rfl rfl rfl ?_)
  refine Calls.mono (ih a2.pins cn bc ⟨by omega, by omega⟩ ⟨by omega, by omega⟩ (by omega)) ?_
  rintro _ bv ⟨ae, co, rfl, cp, be, bw, au, bz⟩
  refine ⟨_, rfl, ?_⟩
  have b0 := a2.trans bz (fun i hi => xB i hi)
  have ef := bw.len
  have eg : (ae.ns.map Nd.l).length = ae.ns.length ∧ (ae.ns.map Nd.r).length = ae.ns.length := ⟨List.length_map .., List.length_map ..⟩
  have eh : ae.bs.length = ae.ns.length ∧ ae.ns.length ≤ 1048576 := ⟨be.ar.ok.len, be.ar.ok.lim⟩
  have ei := congrArg List.length au.1
  refine qe (zA ?_)
  refine c_if rfl rfl (fun b1 => ?_) (fun b1 => ?_)
  ·skip
   refine zB (zC ?_)
   refine qM (.bool false) ?_
   refine qe (zA ?_)
   refine wp_exit ?_
   refine s_blkO rfl ?_
   refine zY ?_
   refine yH ?_
   refine yD ?_
   refine zA (zB ?_)
   refine xE (S := fun wz => BxR wz p [L, R, B, (.map (some mm.f)), (.map (some mm.o)), (.map (some mm.c)), (.map (some mm.s)), (.map (some mm.n))] ∧ Pins co wz) (last := 6) (by kernel_rfl) rfl ?_
   have b2 : Below bv.heap.size bv bv.drew := (Below.refl _ _).drew
   have cq := b0.pins.below b2
   have al := b0.step cq b2
   have am := cp.below b2 cq
   refine dT (i := 0) rfl rfl (by kernel_rfl) (fun _ _ => zR (v := (.pointer (some ⟨p, 0, none⟩))) rfl) ⟨am.bx.reads, al.pins⟩ ?_
   refine dT (i := 1) rfl rfl (by kernel_rfl) (fun _ _ => xA rfl) ⟨am.bx.reads, al.pins⟩ ?_
   refine dT (i := 2) rfl rfl (by kernel_rfl) (fun _ _ => zN (k := 4) rfl Tryd.underlying77 rfl nz72 rfl) ⟨am.bx.reads, al.pins⟩ ?_
   refine dT (i := 3) rfl rfl (by kernel_rfl) (fun _ hS => zQ (u := (.map (some mm.o))) ag72 rfl (hS.1 4 _ rfl)) ⟨am.bx.reads, al.pins⟩ ?_
   refine dT (i := 4) rfl rfl (by kernel_rfl) (fun _ hS => yB (cs := [(vJ a), (vJ b)]) ag78 sz78 rfl (fun j u hj => (Pins.of_le hS.2 (Pin.le_trans (Pin.le_trans ay bb) bz.le)) _ _ _ (a5 _ _ (by simpa using hj)))) ⟨am.bx.reads, al.pins⟩ ?_
   refine dT (i := 5) rfl rfl (by kernel_rfl) (fun _ _ => zR (v := (.bool false)) rfl) ⟨am.bx.reads, al.pins⟩ ?_
   refine dO (i := 6) (qQ (i := 6) rfl rfl rfl (zD rfl _) (o_mapUpdate (val := (fun v : Bool => Value.bool v)) (k := ((a, b) : Int × Int)) (v := false) (key_pair Tryd.underlying78 Tryd.underlying3 sz3) Tryd.underlying72 rfl rfl rfl al.pins am.fo (fun ej df cr ct ek => ?_)))
   have dg := al.trans (Ext.one cr ct) (fun i hi => xB i hi)
   have cu := am.setO (Ext.one cr ct) df
   have hgv : geB q.ns a b = false := geB_no_left hok.ar.opts hb (i := i2) (by omega) (by rw [← ba, ← qC (yQ t ag)]; exact b1)
   have bf := PoolOk.setO be (ha.same (yQ (yQ t ag) au)) (hb.same (yQ (yQ t ag) au)) (setO_ok (yQ (yQ t ag) au) hgv)
   obtain ⟨ah, b3⟩ : ∃ q, q = ({ ae with om := putE ae.om ((a, b) : Int × Int) false } : PSt) := ⟨_, rfl⟩
   rw [← b3] at cu bf
   have hq135n : ah.ns = ae.ns ∧ ah.bs = ae.bs := by rw [b3]; exact ⟨rfl, rfl⟩
   have hq135x : PX ae ah := by rw [b3]; exact ⟨Nat.le_refl _, fun _ _ => rfl, fun _ h => h⟩
   have el : (ah.ns.map Nd.l).length = ah.ns.length ∧ (ah.ns.map Nd.r).length = ah.ns.length := ⟨List.length_map .., List.length_map ..⟩
   have em : ah.bs.length = ah.ns.length ∧ ah.ns.length ≤ 1048576 := ⟨bf.ar.ok.len, bf.ar.ok.lim⟩
   have eo := hq135x.len
   refine ⟨fun h => absurd rfl h, ?_⟩
   refine yE (by kernel_rfl) ?_
   refine zA (zB (zC ?_))
   refine qM (.bool false) ?_
   refine qM (.bool false) ?_
   refine qe (zA ?_)
   refine wp_ret ?_
   refine zP ?_
   refine zM (v := (.bool false)) rfl rfl rfl ?_
   exact ⟨ah, _, congrArg (fun z => Ending.returned (Value.bool z)) (hgv.symm), cu, bf, (PX.trans (PX.trans (PX.trans a0 bd) bw) hq135x), (yQ (yQ (yQ t ag) au) hq135n), dg⟩
  refine wp_skip ?_
  refine zZ ?_
  refine zA (zC ?_)
  refine qD rfl (yJ rfl rfl (by omega)) ?_
  refine qM (vJ ((i2 : Int) + 1)) ?_
  refine qe ?_
  refine yC ?_
  refine ⟨_, ?_, _, rfl, _, i2 + 1, ae, co, (pS 58 (pS 57 (pS 56 (pS 10 (pS 7 (pS 6 (pS 1 (pU 0)))))))), rfl, b0, (Pin.le_trans bb bz.le), (by omega), (fun x h2 => if h3 : x = i2 then h3 ▸ (by rw [← ba, ← qC (yQ t ag)]; exact b1) else hpl x (by omega)), cp, be, (PX.trans bd bw), (yQ ag au)⟩
  omega
 refine wp_exit ?_
 refine zY ?_
 refine yH ?_
 refine yD ?_
 refine zA (zB ?_)
 refine xE (S := fun wz => BxR wz p [L, R, B, (.map (some mm.f)), (.map (some mm.o)), (.map (some mm.c)), (.map (some mm.s)), (.map (some mm.n))] ∧ Pins GLl wz) (last := 6) (by kernel_rfl) rfl ?_
 have b5 : Below bu.heap.size bu bu.drew := (Below.refl _ _).drew
 have cv := a2.pins.below b5
 have an := a2.step cv b5
 have ao := cn.below b5 cv
 refine dT (i := 0) rfl rfl (by kernel_rfl) (fun _ _ => zR (v := (.pointer (some ⟨p, 0, none⟩))) rfl) ⟨ao.bx.reads, an.pins⟩ ?_
 refine dT (i := 1) rfl rfl (by kernel_rfl) (fun _ _ => xA rfl) ⟨ao.bx.reads, an.pins⟩ ?_
 refine dT (i := 2) rfl rfl (by kernel_rfl) (fun _ _ => zN (k := 4) rfl Tryd.underlying77 rfl nz72 rfl) ⟨ao.bx.reads, an.pins⟩ ?_
 refine dT (i := 3) rfl rfl (by kernel_rfl) (fun _ hS => zQ (u := (.map (some mm.o))) ag72 rfl (hS.1 4 _ rfl)) ⟨ao.bx.reads, an.pins⟩ ?_
 refine dT (i := 4) rfl rfl (by kernel_rfl) (fun _ hS => yB (cs := [(vJ a), (vJ b)]) ag78 sz78 rfl (fun j u hj => (Pins.of_le hS.2 (Pin.le_trans ay bb)) _ _ _ (a5 _ _ (by simpa using hj)))) ⟨ao.bx.reads, an.pins⟩ ?_
 refine dT (i := 5) rfl rfl (by kernel_rfl) (fun _ _ => zR (v := (.bool true)) rfl) ⟨ao.bx.reads, an.pins⟩ ?_
 refine dO (i := 6) (qQ (i := 6) rfl rfl rfl (zD rfl _) (o_mapUpdate (val := (fun v : Bool => Value.bool v)) (k := ((a, b) : Int × Int)) (v := true) (key_pair Tryd.underlying78 Tryd.underlying3 sz3) Tryd.underlying72 rfl rfl rfl an.pins ao.fo (fun ep dh cw cx eq => ?_)))
 have di := an.trans (Ext.one cw cx) (fun i hi => xB i hi)
 have cy := ao.setO (Ext.one cw cx) dh
 have hgv : geB q.ns a b = true := geB_yes hok.ar.opts ha hb (fun i hi => hpr i (by omega)) (fun i hi => hpl i (by omega))
 have bg := PoolOk.setO bc (ha.same (yQ t ag)) (hb.same (yQ t ag)) (setO_ok (yQ t ag) hgv)
 obtain ⟨ai, b6⟩ : ∃ q, q = ({ y with om := putE y.om ((a, b) : Int × Int) true } : PSt) := ⟨_, rfl⟩
 rw [← b6] at cy bg
 have hq152n : ai.ns = y.ns ∧ ai.bs = y.bs := by rw [b6]; exact ⟨rfl, rfl⟩
 have hq152x : PX y ai := by rw [b6]; exact ⟨Nat.le_refl _, fun _ _ => rfl, fun _ h => h⟩
 have er : (ai.ns.map Nd.l).length = ai.ns.length ∧ (ai.ns.map Nd.r).length = ai.ns.length := ⟨List.length_map .., List.length_map ..⟩
 have es : ai.bs.length = ai.ns.length ∧ ai.ns.length ≤ 1048576 := ⟨bg.ar.ok.len, bg.ar.ok.lim⟩
 have et := hq152x.len
 refine ⟨fun h => absurd rfl h, ?_⟩
 refine yE (by kernel_rfl) ?_
 refine zA (zB (zC ?_))
 refine qM (.bool true) ?_
 refine qM (.bool true) ?_
 refine qe (zA ?_)
 refine wp_ret ?_
 refine zP ?_
 refine zM (v := (.bool true)) rfl rfl rfl ?_
 exact ⟨ai, _, congrArg (fun z => Ending.returned (Value.bool z)) (hgv.symm), cy, bg, (PX.trans (PX.trans a0 bd) hq152x), (yQ (yQ t ag) hq152n), di⟩

theorem geP_all {p : Nat} {L R B : Value} {mm : PM} : ∀ m, GeP m p L R B mm
 | 0 => fun _ _ _ _ _ h => absurd h (Nat.not_lt_zero _)
 | m + 1 => fun hP hpk hok ha hb hm => ge_step hP hpk hok ha hb (geP_all m) hm
theorem ge_spec {p : Nat} {L R B : Value} {mm : PM} {w : World} {G : Pin} {q : PSt} {a b : Int} (hP : Pins G w) (hpk : Pk 40 3 G w p L R B mm q) (hok : PoolOk q) (ha : PlaceOk q a) (hb : PlaceOk q b) :
  Calls Tryd.prog 27 [(.pointer (some ⟨p, 0, none⟩)), (.int .i64 a), (.int .i64 b)].toArray w fun e w' => ∃ (q' : PSt) (G' : Pin), e = .returned (.bool (geB q.ns a b)) ∧ Pk 40 3 G' w' p L R B mm q' ∧ PoolOk q' ∧ PX q q' ∧ (q'.ns = q.ns ∧ q'.bs = q.bs) ∧ Ext (inO (some mm.o)) G w G' w' :=
 geP_all _ hP hpk hok ha hb (Nat.lt_succ_self _)

theorem outcome_spec {p : Nat} {L R B : Value} {mm : PM} {w : World} {G : Pin} {q : PSt} {a b : Int} (hP : Pins G w) (hpk : Pk 40 3 G w p L R B mm q) (hok : PoolOk q) (ha : PlaceOk q a) (hb : PlaceOk q b) :
  Calls Tryd.prog 34 [(.pointer (some ⟨p, 0, none⟩)), (vJ a), (vJ b)].toArray w fun e w' => ∃ (q' : PSt) (G' : Pin), e = .returned (vJ (codeI (geB q.ns a b) (geB q.ns b a))) ∧ Pk 40 3 G' w' p L R B mm q' ∧ PoolOk q' ∧ PX q q' ∧ (q'.ns = q.ns ∧ q'.bs = q.bs) ∧ Ext (inO (some mm.o)) G w G' w' := by
 refine zV (n := 26) Tryd.func34 Tryd.ntmps34 rfl rfl ?_
 have ae : Ext (inO (some mm.o)) G w G w := Ext.refl hP
 have hpin : PIn w (inP p L R B mm) p L R B mm := PIn.self
 have aj : (q.ns.map Nd.l).length = q.ns.length ∧ (q.ns.map Nd.r).length = q.ns.length := ⟨List.length_map .., List.length_map ..⟩
 have ak : q.bs.length = q.ns.length ∧ q.ns.length ≤ 1048576 := ⟨hok.ar.ok.len, hok.ar.ok.lim⟩
 have al := ha.1
 have am := ha.2
 have an := hb.1
 have ao := hb.2
 refine zB (zC ?_)
 refine qM (vJ 0) ?_
 refine qe (zA (zB (zC ?_)))
 refine qM (.pointer (some ⟨p, 0, none⟩)) ?_
 refine qM (vJ a) ?_
 refine qM (vJ b) ?_
 refine qI rfl (zL (vs := [(.pointer (some ⟨p, 0, none⟩)), (vJ a), (vJ b)]) Tryd.func27 nm27 rfl rfl rfl ?_)
 refine Calls.mono (ge_spec ae.pins hpk hok (ha.same ⟨rfl, rfl⟩) (hb.same ⟨rfl, rfl⟩)) ?_
 rintro _ w5 ⟨d, G4, rfl, ag, ab, h, c, ah⟩
 refine ⟨_, rfl, ?_⟩
 have af := ae.trans ah (fun i hi => xB i hi)
 have au := h.len
 have av : (d.ns.map Nd.l).length = d.ns.length ∧ (d.ns.map Nd.r).length = d.ns.length := ⟨List.length_map .., List.length_map ..⟩
 have aw : d.bs.length = d.ns.length ∧ d.ns.length ≤ 1048576 := ⟨ab.ar.ok.len, ab.ar.ok.lim⟩
 have ax := congrArg List.length c.1
 refine qM (.pointer (some ⟨p, 0, none⟩)) ?_
 refine qM (vJ b) ?_
 refine qM (vJ a) ?_
 refine qI rfl (zL (vs := [(.pointer (some ⟨p, 0, none⟩)), (vJ b), (vJ a)]) Tryd.func27 nm27 rfl rfl rfl ?_)
 refine Calls.mono (ge_spec af.pins ag ab (hb.same c) (ha.same c)) ?_
 rintro _ ay ⟨f, az, rfl, s, g, j, k, ai⟩
 refine ⟨_, rfl, ?_⟩
 have u := af.trans ai (fun i hi => xB i hi)
 have a0 := j.len
 have a1 : (f.ns.map Nd.l).length = f.ns.length ∧ (f.ns.map Nd.r).length = f.ns.length := ⟨List.length_map .., List.length_map ..⟩
 have a2 : f.bs.length = f.ns.length ∧ f.ns.length ≤ 1048576 := ⟨g.ar.ok.len, g.ar.ok.lim⟩
 have a3 := congrArg List.length k.1
 refine qM (.bool (geB q.ns a b)) ?_
 refine qM (.bool (geB d.ns b a)) ?_
 refine qe (zA (zB ?_))
 refine zW ?_
 refine zB (zC ?_)
 refine qM (.bool (geB q.ns a b)) ?_
 refine qM (.bool (geB q.ns a b)) ?_
 refine qb (t := 19) rfl (fun m => ?_) (fun m => ?_)
 ·skip
  refine qN (zR (v := (.bool (geB d.ns b a))) rfl) ?_
  refine qD rfl (yT (v := (.bool (geB d.ns b a))) rfl rfl) ?_
  refine qM (.bool (geB d.ns b a)) ?_
  refine qe (zA ?_)
  refine c_if rfl rfl (fun x => ?_) (fun x => ?_)
  ·skip
   refine zB (zC ?_)
   refine qM (vJ 4) ?_
   refine qe (zA ?_)
   refine wp_ret ?_
   refine zP ?_
   refine zM (v := (vJ 4)) rfl rfl rfl ?_
   exact ⟨f, _, congrArg (fun z => Ending.returned (Value.int .i64 z)) (by rw [← qC (a := b) (b := a) c]; revert m x; generalize geB _ b a = t1; generalize geB _ a b = t2; cases t1 <;> cases t2 <;> decide), s, g, (PX.trans h j), (yQ c k), u⟩
  refine zB (zC ?_)
  refine qM (.bool (geB q.ns a b)) ?_
  refine qM (.bool (geB q.ns a b)) ?_
  refine qe (zA ?_)
  refine c_if rfl rfl (fun y => ?_) (fun y => ?_)
  ·skip
   refine zB (zC ?_)
   refine qM (vJ 1) ?_
   refine qe (zA ?_)
   refine wp_ret ?_
   refine zP ?_
   refine zM (v := (vJ 1)) rfl rfl rfl ?_
   exact ⟨f, _, congrArg (fun z => Ending.returned (Value.int .i64 z)) (by rw [← qC (a := b) (b := a) c]; revert m x y; generalize geB _ b a = t1; generalize geB _ a b = t2; cases t1 <;> cases t2 <;> decide), s, g, (PX.trans h j), (yQ c k), u⟩
  refine zB (zC ?_)
  refine qM (.bool (geB d.ns b a)) ?_
  refine qM (.bool (geB d.ns b a)) ?_
  refine qe (zA ?_)
  refine c_if rfl rfl (fun ac => ?_) (fun ac => ?_)
  ·skip
   refine zB (zC ?_)
   refine qM (vJ 2) ?_
   refine qe (zA ?_)
   refine wp_ret ?_
   refine zP ?_
   refine zM (v := (vJ 2)) rfl rfl rfl ?_
   exact ⟨f, _, congrArg (fun z => Ending.returned (Value.int .i64 z)) (by rw [← qC (a := b) (b := a) c]; revert m x y ac; generalize geB _ b a = t1; generalize geB _ a b = t2; cases t1 <;> cases t2 <;> decide), s, g, (PX.trans h j), (yQ c k), u⟩
  refine wp_skip ?_
  refine zZ ?_
  refine zA (zB (zC ?_))
  refine qM (vJ 3) ?_
  refine qe (zA ?_)
  refine wp_ret ?_
  refine zP ?_
  refine zM (v := (vJ 3)) rfl rfl rfl ?_
  exact ⟨f, _, congrArg (fun z => Ending.returned (Value.int .i64 z)) (by rw [← qC (a := b) (b := a) c]; revert m x y ac; generalize geB _ b a = t1; generalize geB _ a b = t2; cases t1 <;> cases t2 <;> decide), s, g, (PX.trans h j), (yQ c k), u⟩
 refine qW ?_
 refine qD rfl (yO (v := (.bool false)) rfl rfl) ?_
 refine qM (.bool false) ?_
 refine qe (zA ?_)
 refine qR rfl rfl ?_
 refine zB (zC ?_)
 refine qM (.bool (geB q.ns a b)) ?_
 refine qM (.bool (geB q.ns a b)) ?_
 refine qe (zA ?_)
 refine c_if rfl rfl (fun aa => ?_) (fun aa => ?_)
 ·skip
  refine zB (zC ?_)
  refine qM (vJ 1) ?_
  refine qe (zA ?_)
  refine wp_ret ?_
  refine zP ?_
  refine zM (v := (vJ 1)) rfl rfl rfl ?_
  exact ⟨f, _, congrArg (fun z => Ending.returned (Value.int .i64 z)) (by rw [← qC (a := b) (b := a) c]; revert m aa; generalize geB _ b a = t1; generalize geB _ a b = t2; cases t1 <;> cases t2 <;> decide), s, g, (PX.trans h j), (yQ c k), u⟩
 refine zB (zC ?_)
 refine qM (.bool (geB d.ns b a)) ?_
 refine qM (.bool (geB d.ns b a)) ?_
 refine qe (zA ?_)
 refine c_if rfl rfl (fun ad => ?_) (fun ad => ?_)
 ·skip
  refine zB (zC ?_)
  refine qM (vJ 2) ?_
  refine qe (zA ?_)
  refine wp_ret ?_
  refine zP ?_
  refine zM (v := (vJ 2)) rfl rfl rfl ?_
  exact ⟨f, _, congrArg (fun z => Ending.returned (Value.int .i64 z)) (by rw [← qC (a := b) (b := a) c]; revert m aa ad; generalize geB _ b a = t1; generalize geB _ a b = t2; cases t1 <;> cases t2 <;> decide), s, g, (PX.trans h j), (yQ c k), u⟩
 refine wp_skip ?_
 refine zZ ?_
 refine zA (zB (zC ?_))
 refine qM (vJ 3) ?_
 refine qe (zA ?_)
 refine wp_ret ?_
 refine zP ?_
 refine zM (v := (vJ 3)) rfl rfl rfl ?_
 exact ⟨f, _, congrArg (fun z => Ending.returned (Value.int .i64 z)) (by rw [← qC (a := b) (b := a) c]; revert m aa ad; generalize geB _ b a = t1; generalize geB _ a b = t2; cases t1 <;> cases t2 <;> decide), s, g, (PX.trans h j), (yQ c k), u⟩

end PL1
end Go.Proofs.YtkfgdhanaijddaaDoor

set_option maxRecDepth 20000
set_option maxHeartbeats 2000000
namespace Go.Proofs.YtkfgdhanaijddaaDoor
namespace PF1
open Go.RowKit Go.GL Go.Proofs
open Go.Proofs.YtkfgdhanaijddaaDoor.B1
open Go.Proofs.YtkfgdhanaijddaaDoor.K1
open Go.Proofs.YtkfgdhanaijddaaDoor.PO1
open Go.Proofs.YtkfgdhanaijddaaDoor.PL1






theorem iCompareForms_spec {w : World} {G : Pin} {u v : Value} {ax bs : List Nd} (hP : Pins G w) (hu : RSl eNode G u ax) (hv : RSl eNode G v bs) :
  Calls Tryd.prog 16 [(.agg [u].toArray), (.agg [v].toArray)].toArray w fun e w' => ∃ G', e = .returned (.tuple #[.int .i64 (cfI ax bs), .bool (goodB ax && goodB bs)]) ∧ Ext noS G w G' w' := by
 refine zV (n := 24) Tryd.func16 Tryd.ntmps16 rfl rfl ?_
 have an : Ext noS G w G w := Ext.refl hP
 refine zB (zC ?_)
 refine qI rfl (qA [u] (v := (.agg [u].toArray)) rfl rfl an.pins (fun b1 w2 cf bl bm bn => ?_))
 have bo := an.step bm bn
 have bp : w.heap.size ≤ b1 := by have := an.size; omega
 obtain ⟨G9, ae, ao, a2, ch⟩ := bl.shut bo bp
 refine qI rfl (qA [v] (v := (.agg [v].toArray)) rfl rfl ao.pins (fun bq ci cj br bt bu => ?_))
 have bv := ao.step bt bu
 have bw : w.heap.size ≤ bq := by have := ao.size; omega
 obtain ⟨ck, p, ap, a3, cl⟩ := br.shut bv bw
 refine qM (vJ 0) ?_
 refine qM (.bool false) ?_
 refine qe (zA (zB (zB (zC ?_))))
 refine qD rfl (yB (cs := [u]) ag26 sz26 rfl (fun j u hj => (Pins.of_le ap.pins p) _ _ _ (a2 _ _ (by simpa using hj)))) ?_
 refine qI rfl (zL (vs := [(.agg [u].toArray)]) Tryd.func25 nm25 rfl rfl rfl ?_)
 refine Calls.mono (goodForm_spec ap.pins (hu.mono (Pin.le_trans ae p))) ?_
 rintro _ cm ⟨cn, rfl, g⟩
 refine ⟨_, rfl, ?_⟩
 have af := ap.tr g
 refine qD rfl (xW rfl) ?_
 refine qM (.bool (!(goodB ax))) ?_
 refine qbn (t := 10) rfl (fun aq => ?_) (fun aq => ?_)
 ·skip
  refine qN (yB (cs := [v]) ag26 sz26 rfl (fun j u hj => (Pins.of_le af.pins g.le) _ _ _ (a3 _ _ (by simpa using hj)))) ?_
  refine q1g rfl rfl rfl rfl rfl rfl (zL (vs := [(.agg [v].toArray)]) Tryd.func25 nm25 rfl rfl rfl ?_)
  refine Calls.mono (goodForm_spec af.pins (hv.mono (Pin.le_trans (Pin.le_trans ae p) g.le))) ?_
  rintro _ co ⟨cp, rfl, s⟩
  refine ⟨_, rfl, ?_⟩
  have ag := af.tr s
  refine qN (xW rfl) ?_
  refine qD rfl (yO (v := (.bool (!(goodB bs)))) rfl rfl) ?_
  refine qe (zA ?_)
  refine c_ifn rfl rfl (fun au => ?_) (fun au => ?_)
  ·skip
   refine wp_skip ?_
   refine zA (zB (zC ?_))
   have hga : GoodP ax := goodB_true.1 aq
   have hgb : GoodP bs := goodB_true.1 au
   have hla := hga.lo
   have hlb := hgb.lo
   have hha := hga.hi
   have hhb := hgb.hi
   refine qI rfl (zL (vs := []) Tryd.func26 nm26 rfl rfl rfl ?_)
   refine Calls.mono (newPool_spec ag.pins) ?_
   rintro _ ah ⟨c, av, a4, rfl, a5, bx, x⟩
   refine ⟨_, rfl, ?_⟩
   have a6 := ag.tr x
   have bz : PIn w (noS) c (.slice none 0 0) (.slice none 0 0) (.slice none 0 0) av := PIn.fresh bx ag.size
   obtain ⟨d, aw⟩ : ∃ q, q = (⟨[], [], [], [], [], [], []⟩ : PSt) := ⟨_, rfl⟩
   rw [← aw] at a5
   have ay : PoolOk d := by rw [aw]; exact PoolOk.empty
   have hq45l : d.ns.length = 0 := by rw [aw]; rfl
   obtain ⟨a7, a8, a9, ba, bb, bc⟩ : ∃ (l r b : Value), l = .slice none 0 0 ∧ r = .slice none 0 0 ∧ b = .slice none 0 0 := ⟨_, _, _, rfl, rfl, rfl⟩
   have b0 : Pk 40 3 a4 ah c a7 a8 a9 av d := by rw [ba, bb, bc]; exact a5
   have bd : PIn w (noS) c a7 a8 a9 av := by rw [ba, bb, bc]; exact bz
   have cq : (d.ns.map Nd.l).length = d.ns.length ∧ (d.ns.map Nd.r).length = d.ns.length := ⟨List.length_map .., List.length_map ..⟩
   have cr : d.bs.length = d.ns.length ∧ d.ns.length ≤ 1048576 := ⟨ay.ar.ok.len, ay.ar.ok.lim⟩
   refine qM (.pointer (some ⟨c, 0, none⟩)) ?_
   refine qe (zA (zB ?_))
   refine xE (S := fun wz => Pins a4 wz) (last := 10) (by kernel_rfl) rfl ?_
   have az : Below ah.heap.size ah ah.drew := (Below.refl _ _).drew
   have be := a6.pins.below az
   have f := a6.step be az
   have b2 := b0.below az be
   refine dM 0 (.pointer (some ⟨c, 0, none⟩)) f.pins ?_
   refine dM 1 (.pointer (some ⟨c, 0, none⟩)) f.pins ?_
   refine dT (i := 2) rfl rfl (by kernel_rfl) (fun _ hS => yB (cs := [u]) ag26 sz26 rfl (fun j u hj => (Pins.of_le hS (Pin.le_trans (Pin.le_trans (Pin.le_trans p g.le) s.le) x.le)) _ _ _ (a2 _ _ (by simpa using hj)))) f.pins ?_
   refine dM 4 (.pointer (some ⟨c, 0, none⟩)) f.pins ?_
   refine dT (i := 5) rfl rfl (by kernel_rfl) (fun _ hS => yB (cs := [v]) ag26 sz26 rfl (fun j u hj => (Pins.of_le hS (Pin.le_trans (Pin.le_trans g.le s.le) x.le)) _ _ _ (a3 _ _ (by simpa using hj)))) f.pins ?_
   refine dO (i := 3) (zS (i := 3) rfl rfl rfl (zD rfl _) (zL (vs := [(.pointer (some ⟨c, 0, none⟩)), (.agg [u].toArray)]) Tryd.func28 nm28 rfl rfl rfl ?_))
   refine Calls.mono (root_spec f.pins b2 ay (hu.mono (Pin.le_trans (Pin.le_trans (Pin.le_trans (Pin.le_trans ae p) g.le) s.le) x.le)) (good_form hga) (by omega) hla) ?_
   rintro _ ct ⟨y, cu, cv, cw, h, cx, rfl, b3, ai, b4, b5, k, bf, b6, cy⟩
   refine ⟨_, rfl, ?_⟩
   have aj := f.trans k bd
   have bg := PIn.call bd b5 f.size
   have cz := b4.len
   have c0 : (h.ns.map Nd.l).length = h.ns.length ∧ (h.ns.map Nd.r).length = h.ns.length := ⟨List.length_map .., List.length_map ..⟩
   have c1 : h.bs.length = h.ns.length ∧ h.ns.length ≤ 1048576 := ⟨ai.ar.ok.len, ai.ar.ok.lim⟩
   refine ⟨fun _ => (Pins.of_le aj.pins k.le), ?_⟩
   refine dO (i := 6) (zS (i := 6) rfl rfl rfl (zD rfl _) (zL (vs := [(.pointer (some ⟨c, 0, none⟩)), (.agg [v].toArray)]) Tryd.func28 nm28 rfl rfl rfl ?_))
   refine Calls.mono (root_spec aj.pins b3 ai (hv.mono (Pin.le_trans (Pin.le_trans (Pin.le_trans (Pin.le_trans (Pin.le_trans ae p) g.le) s.le) x.le) k.le)) (good_form hgb) (by omega) hlb) ?_
   rintro _ c2 ⟨aa, c3, c4, c5, a, c6, rfl, b7, ak, a0, b8, ab, b9, ca, c7⟩
   refine ⟨_, rfl, ?_⟩
   have a1 := aj.trans ab bg
   have cb := PIn.call bg b8 aj.size
   have c8 := a0.len
   have c9 : (a.ns.map Nd.l).length = a.ns.length ∧ (a.ns.map Nd.r).length = a.ns.length := ⟨List.length_map .., List.length_map ..⟩
   have da : a.bs.length = a.ns.length ∧ a.ns.length ≤ 1048576 := ⟨ak.ar.ok.len, ak.ar.ok.lim⟩
   refine ⟨fun _ => (Pins.of_le a1.pins (Pin.le_trans k.le ab.le)), ?_⟩
   refine dO (i := 7) (zS (i := 7) rfl rfl rfl (zD rfl _) (zL (vs := [(.pointer (some ⟨c, 0, none⟩)), (vJ y), (vJ aa)]) Tryd.func34 nm34 rfl rfl rfl ?_))
   refine Calls.mono (outcome_spec a1.pins b7 ak (a0.place bf) b9) ?_
   rintro _ db ⟨m, dc, rfl, dd, bh, cc, cd, al⟩
   refine ⟨_, rfl, ?_⟩
   have am := a1.trans al (fun i hi => (PIn.o cb) i hi)
   have de := cc.len
   have df : (m.ns.map Nd.l).length = m.ns.length ∧ (m.ns.map Nd.r).length = m.ns.length := ⟨List.length_map .., List.length_map ..⟩
   have dg : m.bs.length = m.ns.length ∧ m.ns.length ≤ 1048576 := ⟨bh.ar.ok.len, bh.ar.ok.lim⟩
   have dh := congrArg List.length cd.1
   refine ⟨fun _ => (Pins.of_le am.pins (Pin.le_trans (Pin.le_trans k.le ab.le) al.le)), ?_⟩
   refine dM 8 (vJ (codeI (geB a.ns y aa) (geB a.ns aa y))) (Pins.of_le am.pins (Pin.le_trans (Pin.le_trans k.le ab.le) al.le)) ?_
   refine dM 9 (.bool true) (Pins.of_le am.pins (Pin.le_trans (Pin.le_trans k.le ab.le) al.le)) ?_
   refine yE (by kernel_rfl) ?_
   refine zA ?_
   refine wp_ret ?_
   refine zP ?_
   refine xV (v := (vJ (codeI (geB a.ns y aa) (geB a.ns aa y)))) (u := (.bool true)) rfl rfl rfl rfl rfl ?_
   have bi := (a0.pd ai ak bf).trans b6
   have bj := ca
   obtain ⟨e1, e2⟩ := cfI_good hga hgb
   rw [e1, e2]
   exact ⟨_, congrArg (fun z => Ending.returned (Value.tuple #[Value.int .i64 z, Value.bool true])) (by rw [geB_roots bi bj, geB_roots bj bi]), am⟩
  refine zB (zC ?_)
  refine qM (vJ 0) ?_
  refine qM (.bool false) ?_
  refine qe (zA ?_)
  refine wp_ret ?_
  refine zP ?_
  refine xV (v := (vJ 0)) (u := (.bool false)) rfl rfl rfl rfl rfl ?_
  obtain ⟨e1, e2⟩ := cfI_bad (Or.inr au)
  rw [e1, e2]
  exact ⟨_, rfl, ag⟩
 refine qW ?_
 refine qW ?_
 refine qW ?_
 refine qD rfl (yT (v := (.bool true)) rfl rfl) ?_
 refine qe (zA ?_)
 refine c_ifT rfl rfl ?_
 refine zB (zC ?_)
 refine qM (vJ 0) ?_
 refine qM (.bool false) ?_
 refine qe (zA ?_)
 refine wp_ret ?_
 refine zP ?_
 refine xV (v := (vJ 0)) (u := (.bool false)) rfl rfl rfl rfl rfl ?_
 obtain ⟨e1, e2⟩ := cfI_bad (Or.inl aq)
 rw [e1, e2]
 exact ⟨_, rfl, af⟩

end PF1
end Go.Proofs.YtkfgdhanaijddaaDoor

set_option maxRecDepth 20000
set_option maxHeartbeats 2000000
namespace Go.Proofs.YtkfgdhanaijddaaDoor
namespace OR1
open Go.RowKit Go.GL Go.Proofs
open Go.Proofs.YtkfgdhanaijddaaDoor.B1
open Go.Proofs.YtkfgdhanaijddaaDoor.C1
open Go.Proofs.YtkfgdhanaijddaaDoor.D1
open Go.Proofs.YtkfgdhanaijddaaDoor.E1
end OR1
end Go.Proofs.YtkfgdhanaijddaaDoor

set_option maxRecDepth 20000
set_option maxHeartbeats 2000000
namespace Go.Proofs.YtkfgdhanaijddaaDoor
namespace SF1
open Go.RowKit Go.GL Go.Proofs
open Go.Proofs.YtkfgdhanaijddaaDoor.B1
open Go.Proofs.YtkfgdhanaijddaaDoor.C1
open Go.Proofs.YtkfgdhanaijddaaDoor.D1
open Go.Proofs.YtkfgdhanaijddaaDoor.E1
open Go.Proofs.YtkfgdhanaijddaaDoor.OR1
theorem l4Code_spec {w : World} {G : Pin} {p q : Bool} (hP : Pins G w) :
  Calls Tryd.prog 58 [(.bool p), (.bool q)].toArray w fun e w' => ∃ G', e = .returned (vJ (codeI p q)) ∧ Ext noS G w G' w' := by
 refine zV (n := 14) Tryd.func58 Tryd.ntmps58 rfl rfl ?_
 have hX0 : Ext noS G w G w := Ext.refl hP
 refine zB (zC ?_)
 refine qM (vJ 0) ?_
 refine qe (zA (zB ?_))
 refine zW ?_
 refine zB (zC ?_)
 refine qM (.bool p) ?_
 refine qM (.bool p) ?_
 refine qb (t := 7) rfl (fun h1 => ?_) (fun h1 => ?_)
 ·skip
  refine qN (zR (v := (.bool q)) rfl) ?_
  refine qD rfl (yT (v := (.bool q)) rfl rfl) ?_
  refine qM (.bool q) ?_
  refine qe (zA ?_)
  refine c_if rfl rfl (fun h2 => ?_) (fun h2 => ?_)
  ·skip
   refine zB (zC ?_)
   refine qM (vJ 4) ?_
   refine qe (zA ?_)
   refine wp_ret ?_
   refine zP ?_
   refine zM (v := (vJ 4)) rfl rfl rfl ?_
   exact ⟨_, congrArg (fun z => Ending.returned (Value.int .i64 z)) (by revert h1 h2; cases p <;> cases q <;> decide), hX0⟩
  refine zB (zC ?_)
  refine qM (.bool p) ?_
  refine qM (.bool p) ?_
  refine qe (zA ?_)
  refine c_if rfl rfl (fun h3 => ?_) (fun h3 => ?_)
  ·skip
   refine zB (zC ?_)
   refine qM (vJ 1) ?_
   refine qe (zA ?_)
   refine wp_ret ?_
   refine zP ?_
   refine zM (v := (vJ 1)) rfl rfl rfl ?_
   exact ⟨_, congrArg (fun z => Ending.returned (Value.int .i64 z)) (by revert h1 h2 h3; cases p <;> cases q <;> decide), hX0⟩
  refine zB (zC ?_)
  refine qM (.bool q) ?_
  refine qM (.bool q) ?_
  refine qe (zA ?_)
  refine c_if rfl rfl (fun h4 => ?_) (fun h4 => ?_)
  ·skip
   refine zB (zC ?_)
   refine qM (vJ 2) ?_
   refine qe (zA ?_)
   refine wp_ret ?_
   refine zP ?_
   refine zM (v := (vJ 2)) rfl rfl rfl ?_
   exact ⟨_, congrArg (fun z => Ending.returned (Value.int .i64 z)) (by revert h1 h2 h3 h4; cases p <;> cases q <;> decide), hX0⟩
  refine wp_skip ?_
  refine zZ ?_
  refine zA (zB (zC ?_))
  refine qM (vJ 3) ?_
  refine qe (zA ?_)
  refine wp_ret ?_
  refine zP ?_
  refine zM (v := (vJ 3)) rfl rfl rfl ?_
  exact ⟨_, congrArg (fun z => Ending.returned (Value.int .i64 z)) (by revert h1 h2 h3 h4; cases p <;> cases q <;> decide), hX0⟩
 refine qW ?_
 refine qD rfl (yO (v := (.bool false)) rfl rfl) ?_
 refine qM (.bool false) ?_
 refine qe (zA ?_)
 refine qR rfl rfl ?_
 refine zB (zC ?_)
 refine qM (.bool p) ?_
 refine qM (.bool p) ?_
 refine qe (zA ?_)
 refine c_if rfl rfl (fun h5 => ?_) (fun h5 => ?_)
 ·skip
  refine zB (zC ?_)
  refine qM (vJ 1) ?_
  refine qe (zA ?_)
  refine wp_ret ?_
  refine zP ?_
  refine zM (v := (vJ 1)) rfl rfl rfl ?_
  exact ⟨_, congrArg (fun z => Ending.returned (Value.int .i64 z)) (by revert h1 h5; cases p <;> cases q <;> decide), hX0⟩
 refine zB (zC ?_)
 refine qM (.bool q) ?_
 refine qM (.bool q) ?_
 refine qe (zA ?_)
 refine c_if rfl rfl (fun h6 => ?_) (fun h6 => ?_)
 ·skip
  refine zB (zC ?_)
  refine qM (vJ 2) ?_
  refine qe (zA ?_)
  refine wp_ret ?_
  refine zP ?_
  refine zM (v := (vJ 2)) rfl rfl rfl ?_
  exact ⟨_, congrArg (fun z => Ending.returned (Value.int .i64 z)) (by revert h1 h5 h6; cases p <;> cases q <;> decide), hX0⟩
 refine wp_skip ?_
 refine zZ ?_
 refine zA (zB (zC ?_))
 refine qM (vJ 3) ?_
 refine qe (zA ?_)
 refine wp_ret ?_
 refine zP ?_
 refine zM (v := (vJ 3)) rfl rfl rfl ?_
 exact ⟨_, congrArg (fun z => Ending.returned (Value.int .i64 z)) (by revert h1 h5 h6; cases p <;> cases q <;> decide), hX0⟩

end SF1
end Go.Proofs.YtkfgdhanaijddaaDoor

set_option maxRecDepth 20000
set_option maxHeartbeats 2000000
namespace Go.Proofs.YtkfgdhanaijddaaDoor
namespace DR1
open Go.RowKit Go.GL Go.Proofs
open Go.Proofs.YtkfgdhanaijddaaDoor.B1












theorem next_spec {w : World} {G : Pin} {c : Nat} {cv : Value} {code : List UInt8} {a s : Int} (hP : Pins G w) (hB : Bx G w c [cv, .int .i64 a, .int .u64 s]) (hc : RSl eByte G cv code) (ha : 0 ≤ a ∧ a + 1 ≤ 1000000) (_ : 0 ≤ s ∧ s < 18446744073709551616) :
  Calls Tryd.prog 60 [(.pointer (some ⟨c, 0, none⟩))].toArray w fun e w' => ∃ (z : Int) (a' s' : Int), e = .returned (vJ z) ∧ (0 ≤ z ∧ z ≤ 255) ∧ Bx G w' c [cv, .int .i64 a', .int .u64 s'] ∧ (a ≤ a' ∧ a' ≤ a + 1) ∧ (0 ≤ s' ∧ s' < 18446744073709551616) ∧ Ext (inO (some c)) G w G w' := by
 refine zV (n := 62) Tryd.func60 Tryd.ntmps60 rfl rfl ?_
 have ab : Ext (inO (some c)) G w G w := Ext.refl hP
 have hm := hc.max
 refine zB (zC ?_)
 refine qM (vJ 0) ?_
 refine qe (zA (zB (zC ?_)))
 refine qM (vJ 0) ?_
 refine qe (zA (zB (zB ?_)))
 refine xE (S := fun wz => BxR wz c [cv, (vJ a), (.int .u64 s)]) (last := 10) (by kernel_rfl) rfl ?_
 have m : Below w.heap.size w w.drew := (Below.refl _ _).drew
 have ak := ab.pins.below m
 have l := ab.step ak m
 have f := hB.below m
 refine dM 0 (.pointer (some ⟨c, 0, none⟩)) f.reads ?_
 refine dT (i := 1) rfl rfl (by kernel_rfl) (fun _ _ => xA rfl) f.reads ?_
 refine dT (i := 2) rfl rfl (by kernel_rfl) (fun _ _ => zN (k := 1) rfl Tryd.underlying53 rfl nz3 rfl) f.reads ?_
 refine dT (i := 3) rfl rfl (by kernel_rfl) (fun _ hS => zQ (u := (vJ a)) ag3 rfl (hS 1 _ rfl)) f.reads ?_
 refine dM 4 (.pointer (some ⟨c, 0, none⟩)) f.reads ?_
 refine dT (i := 5) rfl rfl (by kernel_rfl) (fun _ _ => xA rfl) f.reads ?_
 refine dT (i := 6) rfl rfl (by kernel_rfl) (fun _ _ => zN (k := 0) rfl Tryd.underlying53 rfl nz22 rfl) f.reads ?_
 refine dT (i := 7) rfl rfl (by kernel_rfl) (fun _ hS => zQ (u := cv) ag22 rfl (hS 0 _ rfl)) f.reads ?_
 refine dT (i := 8) rfl rfl (by kernel_rfl) (fun _ _ => zO Tryd.underlying22 (v := cv) rfl hc) f.reads ?_
 refine dT (i := 9) rfl rfl (by kernel_rfl) (fun _ _ => yU rfl rfl) f.reads ?_
 refine yE (by kernel_rfl) ?_
 refine zA ?_
 refine yA (p := (a : Int) < (code.length : Int)) rfl rfl (fun h5 => ?_) (fun h5 => ?_)
 ·skip
  have a3 := (code.getD a.toNat 0).toNat_lt
  refine xE (S := fun wz => BxR wz c [cv, (vJ a), (.int .u64 s)] ∧ Pins G wz) (last := 12) (by kernel_rfl) rfl ?_
  have q : Below w.drew.heap.size w.drew w.drew.drew := (Below.refl _ _).drew
  have am := l.pins.below q
  have b := l.step am q
  have d := f.below q
  refine dT (i := 0) rfl rfl (by kernel_rfl) (fun _ _ => zR (v := (.pointer (some ⟨c, 0, none⟩))) rfl) ⟨d.reads, b.pins⟩ ?_
  refine dT (i := 1) rfl rfl (by kernel_rfl) (fun _ _ => xA rfl) ⟨d.reads, b.pins⟩ ?_
  refine dT (i := 2) rfl rfl (by kernel_rfl) (fun _ _ => zN (k := 0) rfl Tryd.underlying53 rfl nz22 rfl) ⟨d.reads, b.pins⟩ ?_
  refine dT (i := 3) rfl rfl (by kernel_rfl) (fun _ hS => zQ (u := cv) ag22 rfl (hS.1 0 _ rfl)) ⟨d.reads, b.pins⟩ ?_
  refine dT (i := 4) rfl rfl (by kernel_rfl) (fun _ _ => zR (v := (.pointer (some ⟨c, 0, none⟩))) rfl) ⟨d.reads, b.pins⟩ ?_
  refine dT (i := 5) rfl rfl (by kernel_rfl) (fun _ _ => xA rfl) ⟨d.reads, b.pins⟩ ?_
  refine dT (i := 6) rfl rfl (by kernel_rfl) (fun _ _ => zN (k := 1) rfl Tryd.underlying53 rfl nz3 rfl) ⟨d.reads, b.pins⟩ ?_
  refine dT (i := 7) rfl rfl (by kernel_rfl) (fun _ hS => zQ (u := (vJ a)) ag3 rfl (hS.1 1 _ rfl)) ⟨d.reads, b.pins⟩ ?_
  refine dT (i := 8) rfl rfl (by kernel_rfl) (fun _ _ => zH Tryd.underlying22 sz5 (v := cv) rfl rfl hc (by omega) (by omega)) ⟨d.reads, b.pins⟩ ?_
  refine dT (i := 9) rfl rfl (by kernel_rfl) (fun _ hS => run_load_byte (r := code.getD (a).toNat 0) rfl ag5 (z := a) rfl hc hS.2 (by omega) (by omega)) ⟨d.reads, b.pins⟩ ?_
  refine dT (i := 10) rfl rfl (by kernel_rfl) (fun _ _ => r_conv (j := ((code.getD (a).toNat 0).toNat : Int)) Tryd.underlying5 Tryd.underlying3 rfl (wrapI (by omega))) ⟨d.reads, b.pins⟩ ?_
  refine dT (i := 11) rfl rfl (by kernel_rfl) (fun _ _ => r_assign (v := (vJ ((code.getD (a).toNat 0).toNat : Int))) rfl) ⟨d.reads, b.pins⟩ ?_
  refine yE (by kernel_rfl) ?_
  refine zA (zB (zC ?_))
  refine qM (.pointer (some ⟨c, 0, none⟩)) ?_
  refine qD rfl (xA rfl) ?_
  refine qD rfl (zN (k := 1) rfl Tryd.underlying53 rfl nz3 rfl) ?_
  refine qD rfl (zQ (u := (vJ a)) ag3 rfl (d.cell (o := 1) rfl)) ?_
  refine qD rfl (yJ rfl rfl (by omega)) ?_
  refine qD rfl (xA rfl) ?_
  refine qD rfl (zN (k := 1) rfl Tryd.underlying53 rfl nz3 rfl) ?_
  refine q0 rfl rfl rfl (xD (cs' := [cv, (vJ (a + 1)), (.int .u64 s)]) (us := [(vJ (a + 1))]) (v := (vJ (a + 1))) sz3 rfl rfl rfl (yP (by rfl)) b.pins d (Nat.le_of_ble_eq_true rfl) rfl (fun a4 ac an ao a5 => ?_))
  have ad := b.write an ao (xB)
  refine qe (zA (zB (zC ?_)))
  refine qM (.pointer (some ⟨c, 0, none⟩)) ?_
  refine qM (.pointer (some ⟨c, 0, none⟩)) ?_
  refine qD rfl (xA rfl) ?_
  refine qD rfl (zN (k := 2) rfl Tryd.underlying53 rfl nz51 rfl) ?_
  refine qD rfl (zQ (u := (.int .u64 s)) ag51 rfl (ac.cell (o := 2) rfl)) ?_
  refine qD rfl (r_mulU rfl rfl) ?_
  refine qM (vJ ((code.getD (a).toNat 0).toNat : Int)) ?_
  refine qD rfl (r_conv (j := ((code.getD (a).toNat 0).toNat : Int)) Tryd.underlying3 Tryd.underlying51 rfl (wrapU (by omega))) ?_
  refine qD rfl (r_addU rfl rfl) ?_
  refine qD rfl (r_addU rfl rfl) ?_
  refine qD rfl (xA rfl) ?_
  refine qD rfl (zN (k := 2) rfl Tryd.underlying53 rfl nz51 rfl) ?_
  refine q0 rfl rfl rfl (xD (cs' := [cv, (vJ (a + 1)), (.int .u64 (IntKind.u64.wrap ((IntKind.u64.wrap ((IntKind.u64.wrap (s * 6364136223846793005)) + ((code.getD (a).toNat 0).toNat : Int))) + 868868)))]) (us := [(.int .u64 (IntKind.u64.wrap ((IntKind.u64.wrap ((IntKind.u64.wrap (s * 6364136223846793005)) + ((code.getD (a).toNat 0).toNat : Int))) + 868868)))]) (v := (.int .u64 (IntKind.u64.wrap ((IntKind.u64.wrap ((IntKind.u64.wrap (s * 6364136223846793005)) + ((code.getD (a).toNat 0).toNat : Int))) + 868868)))) sz51 rfl rfl rfl (yP (by rfl)) ad.pins ac (Nat.le_of_ble_eq_true rfl) rfl (fun t ap aq ar a6 => ?_))
  have ae := ad.write aq ar (xB)
  refine qe (zA (zB (zB ?_)))
  refine xE (S := fun wz => BxR wz c [cv, (vJ (a + 1)), (.int .u64 (IntKind.u64.wrap ((IntKind.u64.wrap ((IntKind.u64.wrap (s * 6364136223846793005)) + ((code.getD (a).toNat 0).toNat : Int))) + 868868)))]) (last := 10) (by kernel_rfl) rfl ?_
  have x : Below t.heap.size t t.drew := (Below.refl _ _).drew
  have au := ae.pins.below x
  have af := ae.step au x
  have g := ap.below x
  refine dM 0 (.pointer (some ⟨c, 0, none⟩)) g.reads ?_
  refine dT (i := 1) rfl rfl (by kernel_rfl) (fun _ _ => xA rfl) g.reads ?_
  refine dT (i := 2) rfl rfl (by kernel_rfl) (fun _ _ => zN (k := 1) rfl Tryd.underlying53 rfl nz3 rfl) g.reads ?_
  refine dT (i := 3) rfl rfl (by kernel_rfl) (fun _ hS => zQ (u := (vJ (a + 1))) ag3 rfl (hS 1 _ rfl)) g.reads ?_
  refine dM 4 (.pointer (some ⟨c, 0, none⟩)) g.reads ?_
  refine dT (i := 5) rfl rfl (by kernel_rfl) (fun _ _ => xA rfl) g.reads ?_
  refine dT (i := 6) rfl rfl (by kernel_rfl) (fun _ _ => zN (k := 0) rfl Tryd.underlying53 rfl nz22 rfl) g.reads ?_
  refine dT (i := 7) rfl rfl (by kernel_rfl) (fun _ hS => zQ (u := cv) ag22 rfl (hS 0 _ rfl)) g.reads ?_
  refine dT (i := 8) rfl rfl (by kernel_rfl) (fun _ _ => zO Tryd.underlying22 (v := cv) rfl hc) g.reads ?_
  refine dT (i := 9) rfl rfl (by kernel_rfl) (fun _ _ => r_leq rfl rfl) g.reads ?_
  refine yE (by kernel_rfl) ?_
  refine zA ?_
  refine yA (p := (a + 1 : Int) ≤ (code.length : Int)) rfl rfl (fun av => ?_) (fun av => ?_)
  ·skip
   refine zB (zC ?_)
   refine qM (vJ ((code.getD (a).toNat 0).toNat : Int)) ?_
   refine qM (vJ ((code.getD (a).toNat 0).toNat : Int)) ?_
   refine qe (zA ?_)
   refine wp_ret ?_
   refine zP ?_
   refine zM (v := (vJ ((code.getD (a).toNat 0).toNat : Int))) rfl rfl rfl ?_
   have hwr := wrapU_lt (((IntKind.u64.wrap ((IntKind.u64.wrap (s * 6364136223846793005)) + ((code.getD (a).toNat 0).toNat : Int))) + 868868))
   exact ⟨_, _, _, rfl, (by omega), g, (by omega), (by omega), af⟩
  refine wp_skip ?_
  refine zA (zB (zC ?_))
  refine qM (.pointer (some ⟨c, 0, none⟩)) ?_
  refine qD rfl (xA rfl) ?_
  refine qD rfl (zN (k := 2) rfl Tryd.underlying53 rfl nz51 rfl) ?_
  refine qD rfl (zQ (u := (.int .u64 (IntKind.u64.wrap ((IntKind.u64.wrap ((IntKind.u64.wrap (s * 6364136223846793005)) + ((code.getD (a).toNat 0).toNat : Int))) + 868868)))) ag51 rfl (g.cell (o := 2) rfl)) ?_
  refine qD rfl (r_shrU rfl rfl (by omega)) ?_
  refine qD rfl (r_and rfl rfl) ?_
  have a7 := low8_lt (Int.fdiv (IntKind.u64.wrap ((IntKind.u64.wrap ((IntKind.u64.wrap (s * 6364136223846793005)) + ((code.getD (a).toNat 0).toNat : Int))) + 868868)) (2 ^ (min (40 : Int).toNat 64)))
  refine qD rfl (r_conv (j := andW .u64 (Int.fdiv (IntKind.u64.wrap ((IntKind.u64.wrap ((IntKind.u64.wrap (s * 6364136223846793005)) + ((code.getD (a).toNat 0).toNat : Int))) + 868868)) (2 ^ (min (40 : Int).toNat 64))) 255) Tryd.underlying51 Tryd.underlying3 rfl (wrapI (by omega))) ?_
  refine qM (vJ (andW .u64 (Int.fdiv (IntKind.u64.wrap ((IntKind.u64.wrap ((IntKind.u64.wrap (s * 6364136223846793005)) + ((code.getD (a).toNat 0).toNat : Int))) + 868868)) (2 ^ (min (40 : Int).toNat 64))) 255)) ?_
  refine qe (zA ?_)
  refine wp_ret ?_
  refine zP ?_
  refine zM (v := (vJ (andW .u64 (Int.fdiv (IntKind.u64.wrap ((IntKind.u64.wrap ((IntKind.u64.wrap (s * 6364136223846793005)) + ((code.getD (a).toNat 0).toNat : Int))) + 868868)) (2 ^ (min (40 : Int).toNat 64))) 255))) rfl rfl rfl ?_
  have hwr := wrapU_lt (((IntKind.u64.wrap ((IntKind.u64.wrap (s * 6364136223846793005)) + ((code.getD (a).toNat 0).toNat : Int))) + 868868))
  exact ⟨_, _, _, rfl, (by omega), g, (by omega), (by omega), af⟩
 refine wp_skip ?_
 refine zA (zB (zC ?_))
 refine qM (.pointer (some ⟨c, 0, none⟩)) ?_
 refine qD rfl (xA rfl) ?_
 refine qD rfl (zN (k := 1) rfl Tryd.underlying53 rfl nz3 rfl) ?_
 refine qD rfl (zQ (u := (vJ a)) ag3 rfl (f.cell (o := 1) rfl)) ?_
 refine qD rfl (yJ rfl rfl (by omega)) ?_
 refine qD rfl (xA rfl) ?_
 refine qD rfl (zN (k := 1) rfl Tryd.underlying53 rfl nz3 rfl) ?_
 refine q0 rfl rfl rfl (xD (cs' := [cv, (vJ (a + 1)), (.int .u64 s)]) (us := [(vJ (a + 1))]) (v := (vJ (a + 1))) sz3 rfl rfl rfl (yP (by rfl)) l.pins f (Nat.le_of_ble_eq_true rfl) rfl (fun a8 ag aw ax a9 => ?_))
 have ah := l.write aw ax (xB)
 refine qe (zA (zB (zC ?_)))
 refine qM (.pointer (some ⟨c, 0, none⟩)) ?_
 refine qM (.pointer (some ⟨c, 0, none⟩)) ?_
 refine qD rfl (xA rfl) ?_
 refine qD rfl (zN (k := 2) rfl Tryd.underlying53 rfl nz51 rfl) ?_
 refine qD rfl (zQ (u := (.int .u64 s)) ag51 rfl (ag.cell (o := 2) rfl)) ?_
 refine qD rfl (r_mulU rfl rfl) ?_
 refine qM (vJ 0) ?_
 refine qD rfl (r_conv (j := 0) Tryd.underlying3 Tryd.underlying51 rfl (wrapU (by omega))) ?_
 refine qD rfl (r_addU rfl rfl) ?_
 refine qD rfl (r_addU rfl rfl) ?_
 refine qD rfl (xA rfl) ?_
 refine qD rfl (zN (k := 2) rfl Tryd.underlying53 rfl nz51 rfl) ?_
 refine q0 rfl rfl rfl (xD (cs' := [cv, (vJ (a + 1)), (.int .u64 (IntKind.u64.wrap ((IntKind.u64.wrap ((IntKind.u64.wrap (s * 6364136223846793005)) + 0)) + 868868)))]) (us := [(.int .u64 (IntKind.u64.wrap ((IntKind.u64.wrap ((IntKind.u64.wrap (s * 6364136223846793005)) + 0)) + 868868)))]) (v := (.int .u64 (IntKind.u64.wrap ((IntKind.u64.wrap ((IntKind.u64.wrap (s * 6364136223846793005)) + 0)) + 868868)))) sz51 rfl rfl rfl (yP (by rfl)) ah.pins ag (Nat.le_of_ble_eq_true rfl) rfl (fun y ay az a0 ba => ?_))
 have ai := ah.write az a0 (xB)
 refine qe (zA (zB (zB ?_)))
 refine xE (S := fun wz => BxR wz c [cv, (vJ (a + 1)), (.int .u64 (IntKind.u64.wrap ((IntKind.u64.wrap ((IntKind.u64.wrap (s * 6364136223846793005)) + 0)) + 868868)))]) (last := 10) (by kernel_rfl) rfl ?_
 have aa : Below y.heap.size y y.drew := (Below.refl _ _).drew
 have a1 := ai.pins.below aa
 have aj := ai.step a1 aa
 have h := ay.below aa
 refine dM 0 (.pointer (some ⟨c, 0, none⟩)) h.reads ?_
 refine dT (i := 1) rfl rfl (by kernel_rfl) (fun _ _ => xA rfl) h.reads ?_
 refine dT (i := 2) rfl rfl (by kernel_rfl) (fun _ _ => zN (k := 1) rfl Tryd.underlying53 rfl nz3 rfl) h.reads ?_
 refine dT (i := 3) rfl rfl (by kernel_rfl) (fun _ hS => zQ (u := (vJ (a + 1))) ag3 rfl (hS 1 _ rfl)) h.reads ?_
 refine dM 4 (.pointer (some ⟨c, 0, none⟩)) h.reads ?_
 refine dT (i := 5) rfl rfl (by kernel_rfl) (fun _ _ => xA rfl) h.reads ?_
 refine dT (i := 6) rfl rfl (by kernel_rfl) (fun _ _ => zN (k := 0) rfl Tryd.underlying53 rfl nz22 rfl) h.reads ?_
 refine dT (i := 7) rfl rfl (by kernel_rfl) (fun _ hS => zQ (u := cv) ag22 rfl (hS 0 _ rfl)) h.reads ?_
 refine dT (i := 8) rfl rfl (by kernel_rfl) (fun _ _ => zO Tryd.underlying22 (v := cv) rfl hc) h.reads ?_
 refine dT (i := 9) rfl rfl (by kernel_rfl) (fun _ _ => r_leq rfl rfl) h.reads ?_
 refine yE (by kernel_rfl) ?_
 refine zA ?_
 refine yA (p := (a + 1 : Int) ≤ (code.length : Int)) rfl rfl (fun a2 => ?_) (fun a2 => ?_)
 ·skip
  refine zB (zC ?_)
  refine qM (vJ 0) ?_
  refine qM (vJ 0) ?_
  refine qe (zA ?_)
  refine wp_ret ?_
  refine zP ?_
  refine zM (v := (vJ 0)) rfl rfl rfl ?_
  have hwr := wrapU_lt (((IntKind.u64.wrap ((IntKind.u64.wrap (s * 6364136223846793005)) + 0)) + 868868))
  exact ⟨_, _, _, rfl, (by omega), h, (by omega), (by omega), aj⟩
 refine wp_skip ?_
 refine zA (zB (zC ?_))
 refine qM (.pointer (some ⟨c, 0, none⟩)) ?_
 refine qD rfl (xA rfl) ?_
 refine qD rfl (zN (k := 2) rfl Tryd.underlying53 rfl nz51 rfl) ?_
 refine qD rfl (zQ (u := (.int .u64 (IntKind.u64.wrap ((IntKind.u64.wrap ((IntKind.u64.wrap (s * 6364136223846793005)) + 0)) + 868868)))) ag51 rfl (h.cell (o := 2) rfl)) ?_
 refine qD rfl (r_shrU rfl rfl (by omega)) ?_
 refine qD rfl (r_and rfl rfl) ?_
 have bb := low8_lt (Int.fdiv (IntKind.u64.wrap ((IntKind.u64.wrap ((IntKind.u64.wrap (s * 6364136223846793005)) + 0)) + 868868)) (2 ^ (min (40 : Int).toNat 64)))
 refine qD rfl (r_conv (j := andW .u64 (Int.fdiv (IntKind.u64.wrap ((IntKind.u64.wrap ((IntKind.u64.wrap (s * 6364136223846793005)) + 0)) + 868868)) (2 ^ (min (40 : Int).toNat 64))) 255) Tryd.underlying51 Tryd.underlying3 rfl (wrapI (by omega))) ?_
 refine qM (vJ (andW .u64 (Int.fdiv (IntKind.u64.wrap ((IntKind.u64.wrap ((IntKind.u64.wrap (s * 6364136223846793005)) + 0)) + 868868)) (2 ^ (min (40 : Int).toNat 64))) 255)) ?_
 refine qe (zA ?_)
 refine wp_ret ?_
 refine zP ?_
 refine zM (v := (vJ (andW .u64 (Int.fdiv (IntKind.u64.wrap ((IntKind.u64.wrap ((IntKind.u64.wrap (s * 6364136223846793005)) + 0)) + 868868)) (2 ^ (min (40 : Int).toNat 64))) 255))) rfl rfl rfl ?_
 have hwr := wrapU_lt (((IntKind.u64.wrap ((IntKind.u64.wrap (s * 6364136223846793005)) + 0)) + 868868))
 exact ⟨_, _, _, rfl, (by omega), h, (by omega), (by omega), aj⟩

theorem pick_spec {w : World} {G : Pin} {c : Nat} {cv : Value} {code : List UInt8} {a s : Int} {n : Int} (hP : Pins G w) (hB : Bx G w c [cv, .int .i64 a, .int .u64 s]) (hc : RSl eByte G cv code) (ha : 0 ≤ a ∧ a + 2 ≤ 1000000) (hs : 0 ≤ s ∧ s < 18446744073709551616) (hn : n ≤ 1000) :
  Calls Tryd.prog 35 [(.pointer (some ⟨c, 0, none⟩)), (vJ n)].toArray w fun e w' => ∃ (z : Int) (a' s' : Int), e = .returned (vJ z) ∧ (0 ≤ z ∧ (z < n ∨ z = 0)) ∧ Bx G w' c [cv, .int .i64 a', .int .u64 s'] ∧ (a ≤ a' ∧ a' ≤ a + 2) ∧ (0 ≤ s' ∧ s' < 18446744073709551616) ∧ Ext (inO (some c)) G w G w' := by
 refine zV (n := 20) Tryd.func35 Tryd.ntmps35 rfl rfl ?_
 have f : Ext (inO (some c)) G w G w := Ext.refl hP
 have hm := hc.max
 refine zB (zC ?_)
 refine qM (vJ 0) ?_
 refine qe (zA (zB (zB (zC ?_))))
 refine qM (vJ n) ?_
 refine qD rfl (r_leq rfl rfl) ?_
 refine qe (zA ?_)
 refine yA (p := (n : Int) ≤ 1) rfl rfl (fun j => ?_) (fun j => ?_)
 ·skip
  refine zB (zC ?_)
  refine qM (vJ 0) ?_
  refine qe (zA ?_)
  refine wp_ret ?_
  refine zP ?_
  refine zM (v := (vJ 0)) rfl rfl rfl ?_
  exact ⟨_, _, _, rfl, (by omega), hB, (by omega), (by omega), f⟩
 refine wp_skip ?_
 refine zA (zB (zC ?_))
 refine qM (.pointer (some ⟨c, 0, none⟩)) ?_
 refine qI rfl (zL (vs := [(.pointer (some ⟨c, 0, none⟩))]) Tryd.func60 nm60 rfl rfl rfl ?_)
 refine Calls.mono (next_spec f.pins hB hc (by omega) (by omega)) ?_
 rintro _ u ⟨b, x, y, rfl, aa, h, ab, ac, k⟩
 refine ⟨_, rfl, ?_⟩
 have g := f.trans k (fun i hi => xB i hi)
 refine qM (vJ b) ?_
 refine qe (zA (zB (zB (zC ?_))))
 refine qM (vJ n) ?_
 refine qD rfl (r_gtr rfl rfl) ?_
 refine qe (zA ?_)
 refine yA (p := (200 : Int) < n) rfl rfl (fun l => ?_) (fun l => ?_)
 ·skip
  refine zC ?_
  refine qM (vJ b) ?_
  refine qD rfl (r_mul rfl rfl (by omega)) ?_
  refine qM (.pointer (some ⟨c, 0, none⟩)) ?_
  refine qI rfl (zL (vs := [(.pointer (some ⟨c, 0, none⟩))]) Tryd.func60 nm60 rfl rfl rfl ?_)
  refine Calls.mono (next_spec g.pins h hc (by omega) (by omega)) ?_
  rintro _ ad ⟨d, ae, af, rfl, ag, m, ah, ai, o⟩
  refine ⟨_, rfl, ?_⟩
  have q := g.trans o (fun i hi => xB i hi)
  refine qD rfl (yJ rfl rfl (by omega)) ?_
  refine qM (vJ ((b * 256) + d)) ?_
  refine qe (zA (zB (zC ?_)))
  refine qM (vJ ((b * 256) + d)) ?_
  refine qM (vJ n) ?_
  refine qD rfl (r_rem rfl rfl (by omega) (by omega)) ?_
  refine qM (vJ (((b * 256) + d) % n)) ?_
  refine qe (zA ?_)
  refine wp_ret ?_
  refine zP ?_
  refine zM (v := (vJ (((b * 256) + d) % n))) rfl rfl rfl ?_
  have r := Int.emod_nonneg (((b * 256) + d)) (show n ≠ 0 by omega)
  have t := Int.emod_lt_of_pos (((b * 256) + d)) (show 0 < n by omega)
  exact ⟨_, _, _, rfl, (by omega), m, (by omega), (by omega), q⟩
 refine wp_skip ?_
 refine zA (zB (zC ?_))
 refine qM (vJ b) ?_
 refine qM (vJ n) ?_
 refine qD rfl (r_rem rfl rfl (by omega) (by omega)) ?_
 refine qM (vJ (b % n)) ?_
 refine qe (zA ?_)
 refine wp_ret ?_
 refine zP ?_
 refine zM (v := (vJ (b % n))) rfl rfl rfl ?_
 have r := Int.emod_nonneg (b) (show n ≠ 0 by omega)
 have t := Int.emod_lt_of_pos (b) (show 0 < n by omega)
 exact ⟨_, _, _, rfl, (by omega), h, (by omega), (by omega), g⟩

theorem one_spec {w : World} {G : Pin} {c : Nat} {cv : Value} {code : List UInt8} {a s : Int} {n : Int} (hP : Pins G w) (hB : Bx G w c [cv, .int .i64 a, .int .u64 s]) (hc : RSl eByte G cv code) (ha : 0 ≤ a ∧ a + 2 ≤ 1000000) (hs : 0 ≤ s ∧ s < 18446744073709551616) (hn : n ≤ 1000) :
  Calls Tryd.prog 37 [(.pointer (some ⟨c, 0, none⟩)), (.int .i64 n)].toArray w fun e w' => ∃ (z : Bool) (a' s' : Int), e = .returned (.bool z) ∧ Bx G w' c [cv, .int .i64 a', .int .u64 s'] ∧ (a ≤ a' ∧ a' ≤ a + 2) ∧ (0 ≤ s' ∧ s' < 18446744073709551616) ∧ Ext (inO (some c)) G w G w' := by
 refine zV (n := 9) Tryd.func37 Tryd.ntmps37 rfl rfl ?_
 have b : Ext (inO (some c)) G w G w := Ext.refl hP
 have hm := hc.max
 refine zB (zC ?_)
 refine qM (.bool false) ?_
 refine qe (zA (zB (zC ?_)))
 refine qM (.pointer (some ⟨c, 0, none⟩)) ?_
 refine qM (.int .i64 n) ?_
 refine qI rfl (zL (vs := [(.pointer (some ⟨c, 0, none⟩)), (.int .i64 n)]) Tryd.func35 nm35 rfl rfl rfl ?_)
 refine Calls.mono (pick_spec b.pins hB hc (by omega) (by omega) (n := n) (by omega)) ?_
 rintro _ j ⟨d, k, l, rfl, m, f, o, p, g⟩
 refine ⟨_, rfl, ?_⟩
 have h := b.trans g (fun i hi => xB i hi)
 refine qD rfl (r_eql rfl rfl) ?_
 refine qM (.bool (decide ((d : Int) = 0))) ?_
 refine qe (zA ?_)
 refine wp_ret ?_
 refine zP ?_
 refine zM (v := (.bool (decide ((d : Int) = 0)))) rfl rfl rfl ?_
 exact ⟨_, _, _, rfl, f, (by omega), (by omega), h⟩

theorem among_spec {w : World} {G : Pin} {c : Nat} {cv : Value} {code : List UInt8} {a s : Int} {l : Value} {xs : List Int} (hP : Pins G w) (hB : Bx G w c [cv, .int .i64 a, .int .u64 s]) (hc : RSl eByte G cv code) (ha : 0 ≤ a ∧ a + 2 ≤ 1000000) (hs : 0 ≤ s ∧ s < 18446744073709551616) (hl : RSl eInt G l xs) (hx : 1 ≤ xs.length ∧ xs.length ≤ 1000) :
  Calls Tryd.prog 57 [(.pointer (some ⟨c, 0, none⟩)), l].toArray w fun e w' => ∃ (z : Int) (a' s' : Int), e = .returned (.int .i64 z) ∧ z ∈ xs ∧ Bx G w' c [cv, .int .i64 a', .int .u64 s'] ∧ (a ≤ a' ∧ a' ≤ a + 2) ∧ (0 ≤ s' ∧ s' < 18446744073709551616) ∧ Ext (inO (some c)) G w G w' := by
 refine zV (n := 12) Tryd.func57 Tryd.ntmps57 rfl rfl ?_
 have d : Ext (inO (some c)) G w G w := Ext.refl hP
 have hm := hc.max
 have hml := hl.max
 refine zB (zC ?_)
 refine qM (.int .i64 0) ?_
 refine qe (zA (zB (zC ?_)))
 refine qM l ?_
 refine qM (.pointer (some ⟨c, 0, none⟩)) ?_
 refine qM l ?_
 refine qD rfl (zO Tryd.underlying40 (v := l) rfl hl) ?_
 refine qI rfl (zL (vs := [(.pointer (some ⟨c, 0, none⟩)), (.int .i64 (xs.length : Int))]) Tryd.func35 nm35 rfl rfl rfl ?_)
 refine Calls.mono (pick_spec d.pins hB hc (by omega) (by omega) (n := (xs.length : Int)) (by omega)) ?_
 rintro _ j ⟨b, k, m, rfl, o, g, p, q, h⟩
 refine ⟨_, rfl, ?_⟩
 have f := d.trans h (fun i hi => xB i hi)
 refine qD rfl (zH Tryd.underlying40 sz3 (v := l) rfl rfl hl (by omega) (by omega)) ?_
 refine qD rfl (zK (r := xs.getD (b).toNat 0) rfl ag3 (z := b) rfl hl f.pins (by omega) (by omega)) ?_
 refine qM (.int .i64 (xs.getD (b).toNat 0)) ?_
 refine qe (zA ?_)
 refine wp_ret ?_
 refine zP ?_
 refine zM (v := (.int .i64 (xs.getD (b).toNat 0))) rfl rfl rfl ?_
 exact ⟨_, _, _, rfl, yY (by omega), g, (by omega), (by omega), f⟩

end DR1
end Go.Proofs.YtkfgdhanaijddaaDoor

set_option maxRecDepth 20000
set_option maxHeartbeats 2000000
namespace Go.Proofs.YtkfgdhanaijddaaDoor
namespace MK1
open Go.RowKit Go.GL Go.Proofs
open Go.Proofs.YtkfgdhanaijddaaDoor.B1
open Go.Proofs.YtkfgdhanaijddaaDoor.C1
open Go.Proofs.YtkfgdhanaijddaaDoor.D1
open Go.Proofs.YtkfgdhanaijddaaDoor.E1





theorem pl83 : (Tryd.prog.underlying 83).bind (placesD Tryd.prog) = some [(0, 1), (1, 1)] := by kernel_rfl





theorem l3Make_own {w : World} {G : Pin} {u v : Value} {fs gs : List (List Nd)} (hP : Pins G w) (hu : RSl (eSl eNode) G u fs) (hv : RSl (eSl eNode) G v gs) (hfa : AllW fs) (hga : AllW gs) :
  Calls Tryd.prog 40 [u, v].toArray w fun e w' => ∃ (u : Value) (G' : Pin), e = .returned (.agg [u].toArray) ∧ RSl eNode G' u (formG (mkGm fs gs)) ∧ Ext noS G w G' w' ∧ ∃ Gi, Own eNode 60 Gi w' w.heap.size u (formG (mkGm fs gs)) ∧ Pin.le Gi G' := by
 refine zV (n := 50) Tryd.func40 Tryd.ntmps40 rfl rfl ?_
 have a8 : Ext noS G w G w := Ext.refl hP
 have hmu := hu.max
 have hmv := hv.max
 have hfle := hfa.len
 have hgle := hga.len
 refine zB (zC ?_)
 refine qI rfl (yX [(.slice none 0 0)] zr26 rfl a8.pins (fun g w2 hp b5 d2 d3 => ?_))
 have a9 := a8.step d2 d3
 have d4 : w.heap.size ≤ g := by have := a8.size; omega
 refine qe (zA (zB (zC ?_)))
 refine qD rfl (xX [(.slice none 0 0), (.slice none 0 0)] [(.slice none 0 0), (.slice none 0 0)] [] Tryd.underlying83 zr83 rfl pl83 rfl (fun _ h => by cases h) rfl) ?_
 refine qI rfl (qA [(.slice none 0 0), (.slice none 0 0)] (v := (.agg [(.slice none 0 0), (.slice none 0 0)].toArray)) rfl rfl a9.pins (fun c hq d5 b6 d6 b7 => ?_))
 have ba := a9.step d6 b7
 have b8 := b5.below b7
 have bb : Apart (some c) (some g) := zI (congrArg some d5) b5.lt
 have bc : w.heap.size ≤ c := by have := a9.size; omega
 refine qM (.pointer (some ⟨c, 0, none⟩)) ?_
 refine qe (zA (zB (zC ?_)))
 refine qI rfl (xH (E := eInt) (e := 3) Tryd.underlying40 sz3 ba.pins (fun s d7 d8 d9 bd ca => ?_))
 have be := ba.step d9 bd
 have cb := b8.below bd
 have cc := b6.below bd
 have ea : Apart s.ownBlock (some g) := zI ca b8.lt
 have eb : Apart s.ownBlock (some c) := zI ca b6.lt
 have cd : Own eInt 3 G d7 w.heap.size s ([]) := d8.weaken ba.size
 refine qI rfl (xH (E := eInt) (e := 3) Tryd.underlying40 sz3 be.pins (fun l ec ed ee au bf => ?_))
 have ef := be.step ee au
 have eg := cd.below au
 have eh := cb.below au
 have ei := cc.below au
 have ej : Apart l.ownBlock s.ownBlock := zG bf cd.lt
 have ek : Apart l.ownBlock (some g) := zI bf cb.lt
 have ce : Apart l.ownBlock (some c) := zI bf cc.lt
 have el : Own eInt 3 G ec w.heap.size l ([]) := ed.weaken be.size
 refine qM s ?_
 refine qM l ?_
 refine qe (zA (zB (zB (zC ?_))))
 refine qM (vJ 0) ?_
 refine qe (zA ?_)
 refine zW ?_
 refine yL (fun (k : Nat) (en : Nat → Value) (W : World) => ∃ (ae : Nat → Value) (d : Nat) (atA : Value) (atsA : List Int) (uA : Value) (vA : Value) (nsA : List Nd) (bsA : List Int) (GLA : Pin), en = (upd (upd (upd (upd (upd (upd (upd ae 0 u) 1 v) 4 (.pointer (some ⟨g, 0, none⟩))) 5 (.pointer (some ⟨c, 0, none⟩))) 6 atA) 7 l) 8 (vJ (d : Int))) ∧ k = fs.length - d ∧ Ext noS G w GLA W ∧ Pin.le G GLA ∧ (d ≤ fs.length) ∧ (PoolOk (bkq nsA bsA)) ∧ (GsOk (bkq nsA bsA) atsA ((fs.take d).map gOf)) ∧ (nsA.length ≤ 1000 * d) ∧ (Own eInt 3 GLA W w.heap.size atA (atsA)) ∧ (Own eNode 60 GLA W 0 uA (nsA)) ∧ (Own eInt 3 GLA W 0 vA (bsA)) ∧ (Own eInt 3 GLA W w.heap.size l ([])) ∧ (Bx GLA W g [(.slice none 0 0)]) ∧ (Bx GLA W c [uA, vA]) ∧ (Apart atA.ownBlock uA.ownBlock) ∧ (Apart atA.ownBlock vA.ownBlock) ∧ (Apart atA.ownBlock l.ownBlock) ∧ (Apart atA.ownBlock (some g)) ∧ (Apart atA.ownBlock (some c)) ∧ (Apart uA.ownBlock vA.ownBlock) ∧ (Apart uA.ownBlock l.ownBlock) ∧ (Apart uA.ownBlock (some g)) ∧ (Apart uA.ownBlock (some c)) ∧ (Apart vA.ownBlock l.ownBlock) ∧ (Apart vA.ownBlock (some g)) ∧ (Apart vA.ownBlock (some c)) ∧ (Lo w noS uA.ownBlock) ∧ (Lo w noS vA.ownBlock)) _ ⟨_, 0, s, [], (.slice none 0 0), (.slice none 0 0), [], [], G, (pS 8 (pS 7 (pS 6 (pS 5 (pS 4 (pS 1 (pU 0))))))), rfl, ef, Pin.le_refl _, Nat.zero_le _, (bkq_ok Ar.empty), GsOk.nil, (by simp), eg, (Own.nil _ _ _ _ _), (Own.nil _ _ _ _ _), el, eh, ei, apart_none.symm, apart_none.symm, ej.symm, ea, eb, apart_none, apart_none, apart_none, apart_none, apart_none, apart_none, apart_none, (lo_none _ _), (lo_none _ _)⟩ ?_
 rintro hr _ hs ⟨ae, d, atA, atsA, uA, vA, nsA, bsA, GLA, rfl, ht, t, af, hw, hokA, hgsA, hblA, av, cf, cg, aw, ax, ch, ci, cj, bg, bh, ag, ck, cl, cm, cn, co, cp, cq, cr, ct⟩
 have hglA := hgsA.len
 rw [List.length_map, List.length_take] at hglA
 refine zB (zB (zC ?_))
 refine qM (vJ (d : Int)) ?_
 refine qM u ?_
 refine qD rfl (zO Tryd.underlying38 (v := u) rfl hu) ?_
 refine qD rfl (yU rfl rfl) ?_
 refine qe (zA ?_)
 refine yA (p := ((d : Int) : Int) < (fs.length : Int)) rfl rfl (fun em => ?_) (fun em => ?_)
 ·skip
  have hgd := hfa.ok d (by omega)
  have hgdl := hgd.2.1
  have hgdh := hgd.2.2
  have hrk := bk_root (fs := fs.getD d []) hokA hgd.1 (by omega) (by omega)
  refine wp_skip ?_
  refine zA (zB ?_)
  refine zW ?_
  refine zC ?_
  refine qM atA ?_
  refine qM (.pointer (some ⟨c, 0, none⟩)) ?_
  refine qM u ?_
  refine qM (vJ (d : Int)) ?_
  refine qD rfl (zH Tryd.underlying38 sz26 (v := u) rfl rfl hu (by omega) (by omega)) ?_
  obtain ⟨eo, cu, ep⟩ := nm_form (hu.at (z := (d : Int)) (by omega) (by omega)) (j := d) rfl
  have hx := cu.max
  refine qD rfl (ep ag26 sz26 rfl (Pins.of_le t.pins af)) ?_
  refine qI rfl (zL (vs := [(.pointer (some ⟨c, 0, none⟩)), (.agg [eo].toArray)]) Tryd.func53 nm53 rfl rfl rfl ?_)
  refine Calls.mono (root_spec t.pins ⟨ch, cf, cg, cn.symm, cq.symm, ck⟩ hokA.ar.ok (cu.mono af) ⟨hgd.1, hgdl⟩ (by first | omega | (simp; omega))) ?_
  rintro _ hy ⟨ah, ai, cv, rfl, x, aj, ay, az⟩
  refine ⟨_, rfl, ?_⟩
  have bi : ∀ i, inS c uA vA i → w.heap.size ≤ i ∨ noS i := inS_lo (yM bc) cr ct
  have bj := t.trans aj bi
  have bk := notS (u := uA) (v := vA) ag ci cj
  have er := av.extS aj bk
  have cw : Apart atA.ownBlock ah.ownBlock := xY ay bk (qK av)
  have cx : Apart atA.ownBlock ai.ownBlock := xY az bk (qK av)
  have bl := notS (u := uA) (v := vA) ce cl.symm co.symm
  have es := aw.extS aj bl
  have et : Apart l.ownBlock ah.ownBlock := xY ay bl (qK aw)
  have eu : Apart l.ownBlock ai.ownBlock := xY az bl (qK aw)
  have bm := notS (u := uA) (v := vA) bb.symm cm.symm cp.symm
  have ev := ax.extS aj (notSb bm)
  have ew : Apart (some g) ah.ownBlock := xY ay bm (box_lt ax)
  have ex : Apart (some g) ai.ownBlock := xY az bm (box_lt ax)
  have ey := x.bx
  have ez := x.ou
  have e0 := x.ov
  have e1 := x.abu
  have e2 := x.abv
  have e3 := x.auv
  have e4 := qJ ay bi t.size
  have e5 := qJ az bi t.size
  refine qI rfl (yV (E := eInt) (e := 3) [(vJ (rootM nsA bsA (fs.getD d [])))] [rootM nsA bsA (fs.getD d [])] Tryd.underlying40 sz3 zr3 (by exact xU (by rfl)) (yP (by rfl)) rfl rfl rfl rfl (by decide) bj.pins (fun cy e6 e7 e8 m hz => ?_))
  have bn := bj.step e8 m
  have cz := er.below m
  have c0 := es.below m
  have c1 := ez.below m
  have c2 := e0.below m
  have c3 := ev.below m
  have c4 := ey.below m
  have e9 : Own eInt 3 cv e6 w.heap.size cy ([rootM nsA bsA (fs.getD d [])]) := e7.weaken bj.size
  refine qI rfl (oA (E := eInt) (v := atA) (u := cy) 8 Tryd.underlying40 ap3 (by decide) rfl rfl bn.pins cz e9.src (bn.size) (fun o h0 fa fb y ak => ?_))
  have fc := bn.write fb y ((zX cz))
  have fd := c0.keptA y bg.symm
  have fe := c1.keptA y cw.symm
  have ff := c2.keptA y cx.symm
  have fg := c3.keptA y bh.symm
  have fh := c4.keptA y ag.symm
  have fi : Apart l.ownBlock o.ownBlock := zE bg.symm ak c0.lt
  have fj : Apart ah.ownBlock o.ownBlock := zE cw.symm ak c1.lt
  have fk : Apart ai.ownBlock o.ownBlock := zE cx.symm ak c2.lt
  have fl : Apart (some g) o.ownBlock := zJ bh.symm ak c3.lt
  have fm : Apart (some c) o.ownBlock := zJ ag.symm ak c4.lt
  have h1 : (atsA ++ ([rootM nsA bsA (fs.getD d [])])).length = atsA.length + 1 := List.length_append
  refine qM o ?_
  refine qe ?_
  refine zZ ?_
  refine zA (zC ?_)
  refine qM (vJ (d : Int)) ?_
  refine qD rfl (yJ rfl rfl (by omega)) ?_
  refine qM (vJ ((d : Int) + 1)) ?_
  refine qe ?_
  refine yC ?_
  refine ⟨_, ?_, _, rfl, _, d + 1, o, atsA ++ ([rootM nsA bsA (fs.getD d [])]), ah, ai, (addM nsA bsA (fs.getD d [])).2.1, (addM nsA bsA (fs.getD d [])).2.2, cv, (pS 8 (pS 7 (pS 6 (pS 5 (pS 4 (pS 1 (pU 0))))))), rfl, fc, (Pin.le_trans af aj.le), (by omega), hrk.ok, (by rw [take_map (by omega)]; exact (hgsA.px hrk.px hokA hrk.ok).snoc hrk.pl hrk.pd), (by have h8 := hrk.len; have h9 := hgd.2.2; omega), fa, fe, ff, fd, fg, fh, fj.symm, fk.symm, fi.symm, fl.symm, fm.symm, e3, et.symm, ew.symm, e1.symm, eu.symm, ex.symm, e2.symm, e4, e5⟩
  omega
 refine wp_exit ?_
 refine zY ?_
 refine yH ?_
 refine yD ?_
 refine zA (zB (zB (zC ?_)))
 refine qM (vJ 0) ?_
 refine qe (zA ?_)
 refine zW ?_
 have hi5n : d = fs.length := by omega
 have hgsF : GsOk (bkq nsA bsA) atsA (fs.map gOf) := by rw [hi5n, List.take_length] at hgsA; exact hgsA
 refine yL (fun (k : Nat) (en : Nat → Value) (W : World) => ∃ (ae : Nat → Value) (f : Nat) (atB : Value) (atsB : List Int) (uB : Value) (vB : Value) (nsB : List Nd) (bsB : List Int) (GLB : Pin), en = (upd (upd (upd (upd (upd (upd ae 1 v) 4 (.pointer (some ⟨g, 0, none⟩))) 5 (.pointer (some ⟨c, 0, none⟩))) 6 atA) 7 atB) 9 (vJ (f : Int))) ∧ k = gs.length - f ∧ Ext noS G w GLB W ∧ Pin.le GLA GLB ∧ (f ≤ gs.length) ∧ (PoolOk (bkq nsB bsB)) ∧ (GsOk (bkq nsB bsB) atsB ((gs.take f).map gOf)) ∧ (nsB.length ≤ 100000 + 1000 * f) ∧ (GsOk (bkq nsB bsB) atsA (fs.map gOf)) ∧ (Own eInt 3 GLB W w.heap.size atB (atsB)) ∧ (Own eNode 60 GLB W 0 uB (nsB)) ∧ (Own eInt 3 GLB W 0 vB (bsB)) ∧ (Own eInt 3 GLB W w.heap.size atA (atsA)) ∧ (Bx GLB W g [(.slice none 0 0)]) ∧ (Bx GLB W c [uB, vB]) ∧ (Apart atB.ownBlock uB.ownBlock) ∧ (Apart atB.ownBlock vB.ownBlock) ∧ (Apart atB.ownBlock atA.ownBlock) ∧ (Apart atB.ownBlock (some g)) ∧ (Apart atB.ownBlock (some c)) ∧ (Apart uB.ownBlock vB.ownBlock) ∧ (Apart uB.ownBlock atA.ownBlock) ∧ (Apart uB.ownBlock (some g)) ∧ (Apart uB.ownBlock (some c)) ∧ (Apart vB.ownBlock atA.ownBlock) ∧ (Apart vB.ownBlock (some g)) ∧ (Apart vB.ownBlock (some c)) ∧ (Lo w noS uB.ownBlock) ∧ (Lo w noS vB.ownBlock)) _ ⟨_, 0, l, [], uA, vA, nsA, bsA, GLA, (pS 9 (pS 7 (pS 6 (pS 5 (pS 4 (pU 1)))))), rfl, t, Pin.le_refl _, Nat.zero_le _, hokA, GsOk.nil, (by omega), hgsF, aw, cf, cg, av, ax, ch, cl.symm, co.symm, bg.symm, ek, ce, ck, ci.symm, cm, cn, cj.symm, cp, cq, cr, ct⟩ ?_
 rintro h2 _ h3 ⟨ae, f, atB, atsB, uB, vB, nsB, bsB, GLB, rfl, h4, aa, bo, h5, hokB, hgsB, hblB, hgsL, a0, c5, c6, a1, a2, c7, c8, c9, bp, bq, a3, da, db, dc, dd, de, df, dg, dh, di⟩
 have hglB := hgsB.len
 rw [List.length_map, List.length_take] at hglB
 refine zB (zB (zC ?_))
 refine qM (vJ (f : Int)) ?_
 refine qM v ?_
 refine qD rfl (zO Tryd.underlying38 (v := v) rfl hv) ?_
 refine qD rfl (yU rfl rfl) ?_
 refine qe (zA ?_)
 refine yA (p := ((f : Int) : Int) < (gs.length : Int)) rfl rfl (fun fp => ?_) (fun fp => ?_)
 ·skip
  have hgd := hga.ok f (by omega)
  have hgdl := hgd.2.1
  have hgdh := hgd.2.2
  have hrk := bk_root (fs := gs.getD f []) hokB hgd.1 (by omega) (by omega)
  refine wp_skip ?_
  refine zA (zB ?_)
  refine zW ?_
  refine zC ?_
  refine qM atB ?_
  refine qM (.pointer (some ⟨c, 0, none⟩)) ?_
  refine qM v ?_
  refine qM (vJ (f : Int)) ?_
  refine qD rfl (zH Tryd.underlying38 sz26 (v := v) rfl rfl hv (by omega) (by omega)) ?_
  obtain ⟨fq, dj, fr⟩ := nm_form (hv.at (z := (f : Int)) (by omega) (by omega)) (j := f) rfl
  have h6 := dj.max
  refine qD rfl (fr ag26 sz26 rfl (Pins.of_le aa.pins (Pin.le_trans af bo))) ?_
  refine qI rfl (zL (vs := [(.pointer (some ⟨c, 0, none⟩)), (.agg [fq].toArray)]) Tryd.func53 nm53 rfl rfl rfl ?_)
  refine Calls.mono (root_spec aa.pins ⟨c7, c5, c6, dd.symm, dg.symm, da⟩ hokB.ar.ok (dj.mono (Pin.le_trans af bo)) ⟨hgd.1, hgdl⟩ (by first | omega | (simp; omega))) ?_
  rintro _ h7 ⟨al, am, dk, rfl, ab, an, a4, a5⟩
  refine ⟨_, rfl, ?_⟩
  have br : ∀ i, inS c uB vB i → w.heap.size ≤ i ∨ noS i := inS_lo (yM bc) dh di
  have bs := aa.trans an br
  have bt := notS (u := uB) (v := vB) a3 c8 c9
  have ft := a0.extS an bt
  have dl : Apart atB.ownBlock al.ownBlock := xY a4 bt (qK a0)
  have dm : Apart atB.ownBlock am.ownBlock := xY a5 bt (qK a0)
  have bu := notS (u := uB) (v := vB) ag db.symm de.symm
  have fu := a1.extS an bu
  have fv : Apart atA.ownBlock al.ownBlock := xY a4 bu (qK a1)
  have fw : Apart atA.ownBlock am.ownBlock := xY a5 bu (qK a1)
  have bv := notS (u := uB) (v := vB) bb.symm dc.symm df.symm
  have fx := a2.extS an (notSb bv)
  have fy : Apart (some g) al.ownBlock := xY a4 bv (box_lt a2)
  have fz : Apart (some g) am.ownBlock := xY a5 bv (box_lt a2)
  have f0 := ab.bx
  have f1 := ab.ou
  have f2 := ab.ov
  have f3 := ab.abu
  have f4 := ab.abv
  have f5 := ab.auv
  have f6 := qJ a4 br aa.size
  have f7 := qJ a5 br aa.size
  refine qI rfl (yV (E := eInt) (e := 3) [(vJ (rootM nsB bsB (gs.getD f [])))] [rootM nsB bsB (gs.getD f [])] Tryd.underlying40 sz3 zr3 (by exact xU (by rfl)) (yP (by rfl)) rfl rfl rfl rfl (by decide) bs.pins (fun dn f8 f9 ga q ia => ?_))
  have bw := bs.step ga q
  have dp := ft.below q
  have dq := fu.below q
  have dr := f1.below q
  have ds := f2.below q
  have dt := fx.below q
  have du := f0.below q
  have gb : Own eInt 3 dk f8 w.heap.size dn ([rootM nsB bsB (gs.getD f [])]) := f9.weaken bs.size
  refine qI rfl (oA (E := eInt) (v := atB) (u := dn) 8 Tryd.underlying40 ap3 (by decide) rfl rfl bw.pins dp gb.src (bw.size) (fun r ib gc gd ac ao => ?_))
  have ge := bw.write gd ac ((zX dp))
  have gf := dq.keptA ac bp.symm
  have gg := dr.keptA ac dl.symm
  have gh := ds.keptA ac dm.symm
  have gi := dt.keptA ac bq.symm
  have gj := du.keptA ac a3.symm
  have gk : Apart atA.ownBlock r.ownBlock := zE bp.symm ao dq.lt
  have gl : Apart al.ownBlock r.ownBlock := zE dl.symm ao dr.lt
  have gm : Apart am.ownBlock r.ownBlock := zE dm.symm ao ds.lt
  have gn : Apart (some g) r.ownBlock := zJ bq.symm ao dt.lt
  have gp : Apart (some c) r.ownBlock := zJ a3.symm ao du.lt
  have ic : (atsB ++ ([rootM nsB bsB (gs.getD f [])])).length = atsB.length + 1 := List.length_append
  refine qM r ?_
  refine qe ?_
  refine zZ ?_
  refine zA (zC ?_)
  refine qM (vJ (f : Int)) ?_
  refine qD rfl (yJ rfl rfl (by omega)) ?_
  refine qM (vJ ((f : Int) + 1)) ?_
  refine qe ?_
  refine yC ?_
  refine ⟨_, ?_, _, rfl, _, f + 1, r, atsB ++ ([rootM nsB bsB (gs.getD f [])]), al, am, (addM nsB bsB (gs.getD f [])).2.1, (addM nsB bsB (gs.getD f [])).2.2, dk, (pS 9 (pS 7 (pS 6 (pS 5 (pS 4 (pU 1)))))), rfl, ge, (Pin.le_trans bo an.le), (by omega), hrk.ok, (by rw [take_map (by omega)]; exact (hgsB.px hrk.px hokB hrk.ok).snoc hrk.pl hrk.pd), (by have h8 := hrk.len; have h9 := hgd.2.2; omega), (hgsL.px hrk.px hokB hrk.ok), gc, gg, gh, gf, gi, gj, gl.symm, gm.symm, gk.symm, gn.symm, gp.symm, f5, fv.symm, fy.symm, f3.symm, fw.symm, fz.symm, f4.symm, f6, f7⟩
  omega
 refine wp_exit ?_
 refine zY ?_
 refine yH ?_
 refine yD ?_
 refine zA (zB (zC ?_))
 have hj5n : f = gs.length := by omega
 have hgsR : GsOk (bkq nsB bsB) atsB (gs.map gOf) := by rw [hj5n, List.take_length] at hgsB; exact hgsB
 have gq := hgsL.len
 have gr := hgsR.len
 rw [List.length_map] at gq gr
 have hpt := bk_put (xs := atsA) (ys := atsB) hokB (by omega) ⟨by omega, by omega⟩ hgsL.pl hgsR.pl
 have hpd := hpt.pd
 rw [hgsL.eq, hgsR.eq] at hpd
 refine qM (.pointer (some ⟨c, 0, none⟩)) ?_
 refine qM (.pointer (some ⟨c, 0, none⟩)) ?_
 refine qM atA ?_
 refine qM atB ?_
 obtain ⟨ie, bz, gt, gu, ap⟩ := a1.sealed aa
 have gv := a0.moreO bz ap bp
 have gw := c5.moreO bz ap db
 have gx := c6.moreO bz ap de
 have gy := a2.moreO ap bh.symm
 have gz := c7.moreO ap ag.symm
 obtain ⟨ig, b0, a6, g0, a7⟩ := gv.sealed gt
 have g1 := gw.moreO b0 a7 c8.symm
 have g2 := gx.moreO b0 a7 c9.symm
 have g3 := gy.moreO a7 bq.symm
 have g4 := gz.moreO a7 a3.symm
 refine qI rfl (zL (vs := [(.pointer (some ⟨c, 0, none⟩)), atA, atB]) Tryd.func63 nm63 rfl rfl rfl ?_)
 refine Calls.mono (put_spec a6.pins ⟨g4, g1, g2, dd.symm, dg.symm, da⟩ hokB.ar.ok (gu.mono b0) g0 ⟨by omega, by omega⟩ (places_of hgsL.pl) (places_of hgsR.pl)) ?_
 rintro _ b2 ⟨ih, ii, ij, rfl, ad, dv, g5, g6⟩
 refine ⟨_, rfl, ?_⟩
 have b3 : ∀ i, inS c uB vB i → w.heap.size ≤ i ∨ noS i := inS_lo (yM bc) dh di
 have b4 := a6.trans dv b3
 have g7 := notS (u := uB) (v := vB) bb.symm dc.symm df.symm
 have dw := g3.extS dv (notSb g7)
 have dx := ad.bx
 have g8 := ad.ou
 have g9 := ad.ov
 have ha := ad.abu
 have hb := ad.abv
 have hc := ad.auv
 have ik := qJ g5 b3 a6.size
 have il := qJ g6 b3 a6.size
 refine qI rfl (zL (vs := [(.pointer (some ⟨c, 0, none⟩)), (vJ (putK nsB bsB atsA atsB))]) Tryd.func52 nm52 rfl rfl rfl ?_)
 refine Calls.mono (form_own b4.pins ⟨dx, g8, g9, ha, hb, hc⟩ hpt.ok.ar.ok hpt.pl) ?_
 rintro _ im ⟨aq, hd, rfl, dy, dz, he⟩
 refine ⟨_, rfl, ?_⟩
 have io : g < b2.heap.size := dw.lt
 have ip : c < b2.heap.size := dx.lt
 have d0 := b4.tr dz
 have hf := dw.ext dz
 refine q0 rfl rfl rfl (xD (cs' := [aq]) (us := [aq]) (v := (.agg [aq].toArray)) sz26 rfl rfl rfl (yP dy.one) d0.pins hf (Nat.le_of_ble_eq_true rfl) rfl (fun hg hh hi d1 iq => ?_))
 have hk := d0.write hi d1 ((yM d4))
 have hl : ∃ Gi, Own eNode 60 Gi hg b2.heap.size aq (formM (putN nsB bsB atsA atsB) (putB nsB bsB atsA atsB) (putK nsB bsB atsA atsB).toNat) ∧ Pin.le Gi hd := let ⟨Gi, a, b⟩ := he; ⟨Gi, a.keptA d1 (fun k hm hn => by cases hn; have := (a.lt _ hm).1; omega), b⟩
 refine qe (zA ?_)
 refine wp_ret ?_
 refine zP ?_
 refine c_retc (cs := [aq]) rfl rfl rfl ag26 sz26 (fun j u hj => by rw [Nat.zero_add]; exact hh.cell hj) ?_
 have hfe : mkGm fs gs = _ := hpd.symm
 obtain ⟨Gi, hoi, hli⟩ := hl
 exact ⟨_, _, rfl, (by rw [hfe, ← book_form hpt.ok hpt.pl]; exact dy), hk, (by rw [hfe, ← book_form hpt.ok hpt.pl]; exact ⟨Gi, hoi.weaken b4.size, hli⟩)⟩

end MK1
end Go.Proofs.YtkfgdhanaijddaaDoor

set_option maxRecDepth 20000
set_option maxHeartbeats 2000000
namespace Go.Proofs.YtkfgdhanaijddaaDoor
namespace DR2
open Go.RowKit Go.GL Go.Proofs
open Go.Proofs.YtkfgdhanaijddaaDoor.B1
open Go.Proofs.YtkfgdhanaijddaaDoor.C1
open Go.Proofs.YtkfgdhanaijddaaDoor.D1
open Go.Proofs.YtkfgdhanaijddaaDoor.E1
open Go.Proofs.YtkfgdhanaijddaaDoor.MK1
open Go.Proofs.YtkfgdhanaijddaaDoor.DR1









theorem xN {w : World} {G : Pin} {base : Nat} {Q : List Nat} {vs us ws : List Value} {u v : Value} (hP : Pins G w) (hF : Fr 60 base G w Q vs) (hq : KQ Q) (hl : Q.length ≤ 60) (hb : base ≤ w.heap.size)
  (hu : RSl eVal G u us) (hv : RSl eVal G v ws) (hmu : ∀ x ∈ us, x ∈ vs) (hmv : ∀ x ∈ ws, x ∈ vs) (hlu : us.length ≤ 100) (hlv : ws.length ≤ 100) :
  Calls Tryd.prog 40 [u, v].toArray w fun e w' => ∃ (x : Value) (g : Nat) (G' : Pin), e = .returned (.agg [x].toArray) ∧ KQ (g :: Q) ∧ Fr 60 base G' w' (g :: Q) (x :: vs) ∧ Ext noS G w G' w' := by
 obtain ⟨gs, g1, g2, g3⟩ := (hF.mem hmu).games
 obtain ⟨hs, h1, h2, h3⟩ := (hF.mem hmv).games
 have ru := vals_read hu (by rw [List.length_map]; exact g1) g3
 have rv := vals_read hv (by rw [List.length_map]; exact h1) h3
 have wu := hq.allW (by omega) g2 (by omega)
 have wv := hq.allW (by omega) h2 (by omega)
 refine (l3Make_own hP ru rv wu wv).mono fun e w' ⟨x, G', e1, hr, hx, Gi, ho, hle⟩ => ?_
 have hk := hq.add (by omega) g2 h2 (by omega) (by omega)
 have hm := hk.is _ List.mem_cons_self
 exact ⟨x, _, G', e1, hk, (hF.ext hx).cons ⟨⟨Gi, ho.weaken hb, hle⟩, hr, hm.1.lo⟩, hx⟩

theorem l3Small_spec {w : World} {G : Pin} (hP : Pins G w) :
  Calls Tryd.prog 61 [].toArray w fun e w' => ∃ (u : Value) (vs : List Value) (Q : List Nat) (G' : Pin), e = .returned u ∧ Own eVal 26 G' w' w.heap.size u vs ∧ Fr 60 w.heap.size G' w' Q vs ∧ KQ Q ∧ vs.length = 9 ∧ Q.length = 9 ∧ Ext noS G w G' w' := by
 refine zV (n := 59) Tryd.func61 Tryd.ntmps61 rfl rfl ?_
 have bi : Ext noS G w G w := Ext.refl hP
 have ey : Fr 60 w.heap.size G w [] [] := Fr.nil
 refine zB (zC ?_)
 refine qM (.slice none 0 0) ?_
 refine qe (zA (zB (zC ?_)))
 refine qI rfl (zL (vs := [(.slice none 0 0), (.slice none 0 0)]) Tryd.func40 nm40 rfl rfl rfl ?_)
 refine Calls.mono (xN bi.pins ey KQ.nil (by first | omega | (simp; done) | (simp; omega)) bi.size (nil_reads _ _) (nil_reads _ _) (by simp) (by simp) (by first | omega | simp) (by first | omega | simp)) ?_
 rintro _ w4 ⟨a, g2, G3, rfl, ez, cq, e0⟩
 refine ⟨_, rfl, ?_⟩
 have bj := bi.tr e0
 have m := cq.one List.mem_cons_self
 refine qI rfl (yX [(.slice none 0 0)] zr26 rfl bj.pins (fun e1 ls lu cr e2 ct => ?_))
 have cu := bj.step e2 ct
 have e3 := cq.below ct
 have cv : w.heap.size ≤ e1 := by have := bj.size; omega
 refine q0 rfl rfl rfl (xD (cs' := [a]) (us := [a]) (v := (.agg [a].toArray)) sz26 rfl rfl rfl (yP m) cu.pins cr (Nat.le_of_ble_eq_true rfl) rfl (fun lv e4 e5 cw lw => ?_))
 have e6 := cu.write e5 cw ((yM cv))
 have e7 := e3.kept cw (fun k hk o u => by cases hk; exact cr.free o u)
 obtain ⟨e8, e9, a5, aj, lx⟩ := e4.shut e6 cv
 have fa := e7.le e9
 refine qe (zA (zB (zC ?_)))
 refine qD rfl (yB (cs := [a]) ag26 sz26 rfl (fun j u hj => a5.pins _ _ _ (aj _ _ (by simpa using hj)))) ?_
 refine qI rfl (xL (E := eVal) (e := 26) [a] a Tryd.underlying38 sz26 zr26 ⟨rfl, m⟩ rfl (by decide) a5.pins (fun cx fb fc fd cy ly => ?_))
 have fe := a5.step fd cy
 have ff := fa.below cy
 have fg : Own eVal 26 e8 fb w.heap.size cx ([a]) := fc.weaken a5.size
 obtain ⟨lz, ak, bk, fh, l0⟩ := fg.sealed fe
 have fi := ff.le ak
 refine qI rfl (zL (vs := [cx, (.slice none 0 0)]) Tryd.func40 nm40 rfl rfl rfl ?_)
 refine Calls.mono (xN bk.pins fi ez (by first | omega | (simp; done) | (simp; omega)) bk.size fh (nil_reads _ _) (by simp) (by simp) (by first | omega | simp) (by first | omega | simp)) ?_
 rintro _ l1 ⟨f, l2, l3, rfl, fj, cz, al⟩
 refine ⟨_, rfl, ?_⟩
 have bl := bk.tr al
 have a1 := cz.one List.mem_cons_self
 refine qI rfl (yX [(.slice none 0 0)] zr26 rfl bl.pins (fun fk l4 l5 c0 fl c1 => ?_))
 have c2 := bl.step fl c1
 have fm := cz.below c1
 have c3 : w.heap.size ≤ fk := by have := bl.size; omega
 refine q0 rfl rfl rfl (xD (cs' := [f]) (us := [f]) (v := (.agg [f].toArray)) sz26 rfl rfl rfl (yP a1) c2.pins c0 (Nat.le_of_ble_eq_true rfl) rfl (fun l6 fn fo c4 l7 => ?_))
 have fp := c2.write fo c4 ((yM c3))
 have fq := fm.kept c4 (fun k hk o u => by cases hk; exact c0.free o u)
 obtain ⟨fr, am, a6, bm, l8⟩ := fn.shut fp c3
 have fs := fq.le am
 refine qe (zA (zB (zC ?_)))
 refine qD rfl (yB (cs := [a]) ag26 sz26 rfl (fun j u hj => (Pins.of_le a6.pins (Pin.le_trans (Pin.le_trans ak al.le) am)) _ _ _ (aj _ _ (by simpa using hj)))) ?_
 refine qI rfl (xL (E := eVal) (e := 26) [a] a Tryd.underlying38 sz26 zr26 ⟨rfl, m⟩ rfl (by decide) a6.pins (fun c5 ft fu fv c6 l9 => ?_))
 have fw := a6.step fv c6
 have fx := fs.below c6
 have fy : Own eVal 26 fr ft w.heap.size c5 ([a]) := fu.weaken a6.size
 obtain ⟨ma, aa, bn, fz, mb⟩ := fy.sealed fw
 have f0 := fx.le aa
 refine qI rfl (zL (vs := [(.slice none 0 0), c5]) Tryd.func40 nm40 rfl rfl rfl ?_)
 refine Calls.mono (xN bn.pins f0 fj (by first | omega | (simp; done) | (simp; omega)) bn.size (nil_reads _ _) fz (by simp) (by simp) (by first | omega | simp) (by first | omega | simp)) ?_
 rintro _ mc ⟨ag, md, me, rfl, f1, c7, ab⟩
 refine ⟨_, rfl, ?_⟩
 have bo := bn.tr ab
 have a7 := c7.one List.mem_cons_self
 refine qI rfl (yX [(.slice none 0 0)] zr26 rfl bo.pins (fun f2 mf mg c8 f3 c9 => ?_))
 have da := bo.step f3 c9
 have f4 := c7.below c9
 have db : w.heap.size ≤ f2 := by have := bo.size; omega
 refine q0 rfl rfl rfl (xD (cs' := [ag]) (us := [ag]) (v := (.agg [ag].toArray)) sz26 rfl rfl rfl (yP a7) da.pins c8 (Nat.le_of_ble_eq_true rfl) rfl (fun mh f5 f6 dc mi => ?_))
 have f7 := da.write f6 dc ((yM db))
 have f8 := f4.kept dc (fun k hk o u => by cases hk; exact c8.free o u)
 obtain ⟨dd, ac, a8, de, mj⟩ := f5.shut f7 db
 have f9 := f8.le ac
 refine qe (zA (zB (zC ?_)))
 refine qD rfl (yB (cs := [a]) ag26 sz26 rfl (fun j u hj => (Pins.of_le a8.pins (Pin.le_trans (Pin.le_trans (Pin.le_trans (Pin.le_trans (Pin.le_trans ak al.le) am) aa) ab.le) ac)) _ _ _ (aj _ _ (by simpa using hj)))) ?_
 refine qI rfl (xL (E := eVal) (e := 26) [a] a Tryd.underlying38 sz26 zr26 ⟨rfl, m⟩ rfl (by decide) a8.pins (fun bp ga gb gc df mk => ?_))
 have a9 := a8.step gc df
 have gd := f9.below df
 have dg : Own eVal 26 dd ga w.heap.size bp ([a]) := gb.weaken a8.size
 refine qD rfl (yB (cs := [a]) ag26 sz26 rfl (fun j u hj => (Pins.of_le a9.pins (Pin.le_trans (Pin.le_trans (Pin.le_trans (Pin.le_trans (Pin.le_trans ak al.le) am) aa) ab.le) ac)) _ _ _ (aj _ _ (by simpa using hj)))) ?_
 refine qI rfl (xL (E := eVal) (e := 26) [a] a Tryd.underlying38 sz26 zr26 ⟨rfl, m⟩ rfl (by decide) a9.pins (fun bq ge gf gg br gh => ?_))
 have gi := a9.step gg br
 have gj := dg.below br
 have gk := gd.below br
 have gl : Apart bq.ownBlock bp.ownBlock := zG gh dg.lt
 have gm : Own eVal 26 dd ge w.heap.size bq ([a]) := gf.weaken a9.size
 obtain ⟨ml, t, gn, gp, gq⟩ := gj.sealed gi
 have gr := gm.moreO t gq gl
 have gs := gk.le t
 obtain ⟨mm, x, bs, gt, mn⟩ := gr.sealed gn
 have gu := gs.le x
 refine qI rfl (zL (vs := [bp, bq]) Tryd.func40 nm40 rfl rfl rfl ?_)
 refine Calls.mono (xN bs.pins gu f1 (by first | omega | (simp; done) | (simp; omega)) bs.size (gp.mono x) gt (by simp) (by simp) (by first | omega | simp) (by first | omega | simp)) ?_
 rintro _ mo ⟨b, mp, mq, rfl, gv, dh, ad⟩
 refine ⟨_, rfl, ?_⟩
 have bt := bs.tr ad
 have ar := dh.one List.mem_cons_self
 refine qI rfl (yX [(.slice none 0 0)] zr26 rfl bt.pins (fun gw mr ms di gx dj => ?_))
 have dk := bt.step gx dj
 have gy := dh.below dj
 have dl : w.heap.size ≤ gw := by have := bt.size; omega
 refine q0 rfl rfl rfl (xD (cs' := [b]) (us := [b]) (v := (.agg [b].toArray)) sz26 rfl rfl rfl (yP ar) dk.pins di (Nat.le_of_ble_eq_true rfl) rfl (fun mt gz g0 dm mu => ?_))
 have g1 := dk.write g0 dm ((yM dl))
 have g3 := gy.kept dm (fun k hk o u => by cases hk; exact di.free o u)
 obtain ⟨dn, ae, ba, a2, mv⟩ := gz.shut g1 dl
 have g4 := g3.le ae
 refine qe (zA (zB (zC ?_)))
 refine qD rfl (yB (cs := [a]) ag26 sz26 rfl (fun j u hj => (Pins.of_le ba.pins (Pin.le_trans (Pin.le_trans (Pin.le_trans (Pin.le_trans (Pin.le_trans (Pin.le_trans (Pin.le_trans (Pin.le_trans (Pin.le_trans ak al.le) am) aa) ab.le) ac) t) x) ad.le) ae)) _ _ _ (aj _ _ (by simpa using hj)))) ?_
 refine qI rfl (xL (E := eVal) (e := 26) [a] a Tryd.underlying38 sz26 zr26 ⟨rfl, m⟩ rfl (by decide) ba.pins (fun bu g5 g6 g7 dp mw => ?_))
 have bb := ba.step g7 dp
 have g8 := g4.below dp
 have dq : Own eVal 26 dn g5 w.heap.size bu ([a]) := g6.weaken ba.size
 refine qD rfl (yB (cs := [b]) ag26 sz26 rfl (fun j u hj => bb.pins _ _ _ (a2 _ _ (by simpa using hj)))) ?_
 refine qI rfl (xL (E := eVal) (e := 26) [b] b Tryd.underlying38 sz26 zr26 ⟨rfl, ar⟩ rfl (by decide) bb.pins (fun bv g9 ha hb bw hc => ?_))
 have hd := bb.step hb bw
 have he := dq.below bw
 have hf := g8.below bw
 have hg : Apart bv.ownBlock bu.ownBlock := zG hc dq.lt
 have hh : Own eVal 26 dn g9 w.heap.size bv ([b]) := ha.weaken bb.size
 obtain ⟨mx, c, hi, hl, hm⟩ := he.sealed hd
 have hn := hh.moreO c hm hg
 have ho := hf.le c
 obtain ⟨my, d, bx, hp, mz⟩ := hn.sealed hi
 have hq := ho.le d
 refine qI rfl (zL (vs := [bu, bv]) Tryd.func40 nm40 rfl rfl rfl ?_)
 refine Calls.mono (xN bx.pins hq gv (by first | omega | (simp; done) | (simp; omega)) bx.size (hl.mono d) hp (by simp) (by simp) (by first | omega | simp) (by first | omega | simp)) ?_
 rintro _ m0 ⟨aw, m1, m2, rfl, hr, dr, g⟩
 refine ⟨_, rfl, ?_⟩
 have bz := bx.tr g
 have b0 := dr.one List.mem_cons_self
 refine qI rfl (yX [(.slice none 0 0)] zr26 rfl bz.pins (fun hs m3 m4 ds ht dt => ?_))
 have du := bz.step ht dt
 have hu := dr.below dt
 have dv : w.heap.size ≤ hs := by have := bz.size; omega
 refine q0 rfl rfl rfl (xD (cs' := [aw]) (us := [aw]) (v := (.agg [aw].toArray)) sz26 rfl rfl rfl (yP b0) du.pins ds (Nat.le_of_ble_eq_true rfl) rfl (fun m5 hv hw dw m6 => ?_))
 have hx := du.write hw dw ((yM dv))
 have hy := hu.kept dw (fun k hk o u => by cases hk; exact ds.free o u)
 obtain ⟨dx, h, bc, hz, m7⟩ := hv.shut hx dv
 have h0 := hy.le h
 refine qe (zA (zB (zC ?_)))
 refine qD rfl (yB (cs := [a]) ag26 sz26 rfl (fun j u hj => (Pins.of_le bc.pins (Pin.le_trans (Pin.le_trans (Pin.le_trans (Pin.le_trans (Pin.le_trans (Pin.le_trans (Pin.le_trans (Pin.le_trans (Pin.le_trans (Pin.le_trans (Pin.le_trans (Pin.le_trans (Pin.le_trans ak al.le) am) aa) ab.le) ac) t) x) ad.le) ae) c) d) g.le) h)) _ _ _ (aj _ _ (by simpa using hj)))) ?_
 refine qI rfl (xL (E := eVal) (e := 26) [a] a Tryd.underlying38 sz26 zr26 ⟨rfl, m⟩ rfl (by decide) bc.pins (fun b1 h1 h2 h3 dy m8 => ?_))
 have bd := bc.step h3 dy
 have h4 := h0.below dy
 have dz : Own eVal 26 dx h1 w.heap.size b1 ([a]) := h2.weaken bc.size
 refine qD rfl (yB (cs := [f]) ag26 sz26 rfl (fun j u hj => (Pins.of_le bd.pins (Pin.le_trans (Pin.le_trans (Pin.le_trans (Pin.le_trans (Pin.le_trans (Pin.le_trans (Pin.le_trans (Pin.le_trans (Pin.le_trans (Pin.le_trans aa ab.le) ac) t) x) ad.le) ae) c) d) g.le) h)) _ _ _ (bm _ _ (by simpa using hj)))) ?_
 refine qI rfl (xL (E := eVal) (e := 26) [f] f Tryd.underlying38 sz26 zr26 ⟨rfl, a1⟩ rfl (by decide) bd.pins (fun b2 h5 h6 h7 b3 h8 => ?_))
 have h9 := bd.step h7 b3
 have ia := dz.below b3
 have ib := h4.below b3
 have ic : Apart b2.ownBlock b1.ownBlock := zG h8 dz.lt
 have ie : Own eVal 26 dx h5 w.heap.size b2 ([f]) := h6.weaken bd.size
 obtain ⟨m9, i, ig, ih, ii⟩ := ia.sealed h9
 have ij := ie.moreO i ii ic
 have ik := ib.le i
 obtain ⟨na, l, b4, il, nb⟩ := ij.sealed ig
 have im := ik.le l
 refine qI rfl (zL (vs := [b1, b2]) Tryd.func40 nm40 rfl rfl rfl ?_)
 refine Calls.mono (xN b4.pins im hr (by first | omega | (simp; done) | (simp; omega)) b4.size (ih.mono l) il (by simp) (by simp) (by first | omega | simp) (by first | omega | simp)) ?_
 rintro _ nc ⟨ax, nd, ne, rfl, io, d0, p⟩
 refine ⟨_, rfl, ?_⟩
 have b5 := b4.tr p
 have b6 := d0.one List.mem_cons_self
 refine qI rfl (yX [(.slice none 0 0)] zr26 rfl b5.pins (fun ip nf ng d1 iq d2 => ?_))
 have d3 := b5.step iq d2
 have ir := d0.below d2
 have d4 : w.heap.size ≤ ip := by have := b5.size; omega
 refine q0 rfl rfl rfl (xD (cs' := [ax]) (us := [ax]) (v := (.agg [ax].toArray)) sz26 rfl rfl rfl (yP b6) d3.pins d1 (Nat.le_of_ble_eq_true rfl) rfl (fun nh it iu d5 ni => ?_))
 have iv := d3.write iu d5 ((yM d4))
 have iw := ir.kept d5 (fun k hk o u => by cases hk; exact d1.free o u)
 obtain ⟨d6, q, be, ix, nj⟩ := it.shut iv d4
 have iy := iw.le q
 refine qe (zA (zB (zC ?_)))
 refine qD rfl (yB (cs := [f]) ag26 sz26 rfl (fun j u hj => (Pins.of_le be.pins (Pin.le_trans (Pin.le_trans (Pin.le_trans (Pin.le_trans (Pin.le_trans (Pin.le_trans (Pin.le_trans (Pin.le_trans (Pin.le_trans (Pin.le_trans (Pin.le_trans (Pin.le_trans (Pin.le_trans (Pin.le_trans aa ab.le) ac) t) x) ad.le) ae) c) d) g.le) h) i) l) p.le) q)) _ _ _ (bm _ _ (by simpa using hj)))) ?_
 refine qI rfl (xL (E := eVal) (e := 26) [f] f Tryd.underlying38 sz26 zr26 ⟨rfl, a1⟩ rfl (by decide) be.pins (fun b7 iz i0 i1 d7 nk => ?_))
 have bf := be.step i1 d7
 have i2 := iy.below d7
 have d8 : Own eVal 26 d6 iz w.heap.size b7 ([f]) := i0.weaken be.size
 refine qD rfl (yB (cs := [ag]) ag26 sz26 rfl (fun j u hj => (Pins.of_le bf.pins (Pin.le_trans (Pin.le_trans (Pin.le_trans (Pin.le_trans (Pin.le_trans (Pin.le_trans (Pin.le_trans (Pin.le_trans (Pin.le_trans (Pin.le_trans (Pin.le_trans t x) ad.le) ae) c) d) g.le) h) i) l) p.le) q)) _ _ _ (de _ _ (by simpa using hj)))) ?_
 refine qI rfl (xL (E := eVal) (e := 26) [ag] ag Tryd.underlying38 sz26 zr26 ⟨rfl, a7⟩ rfl (by decide) bf.pins (fun b8 i3 i4 i5 b9 i6 => ?_))
 have i7 := bf.step i5 b9
 have i8 := d8.below b9
 have i9 := i2.below b9
 have ja : Apart b8.ownBlock b7.ownBlock := zG i6 d8.lt
 have jb : Own eVal 26 d6 i3 w.heap.size b8 ([ag]) := i4.weaken bf.size
 obtain ⟨nl, r, jc, jd, je⟩ := i8.sealed i7
 have jf := jb.moreO r je ja
 have jg := i9.le r
 obtain ⟨nm, s, ca, jh, nn⟩ := jf.sealed jc
 have ji := jg.le s
 refine qI rfl (zL (vs := [b7, b8]) Tryd.func40 nm40 rfl rfl rfl ?_)
 refine Calls.mono (xN ca.pins ji io (by first | omega | (simp; done) | (simp; omega)) ca.size (jd.mono s) jh (by simp) (by simp) (by first | omega | simp) (by first | omega | simp)) ?_
 rintro _ no ⟨ay, np, nq, rfl, jj, d9, y⟩
 refine ⟨_, rfl, ?_⟩
 have cb := ca.tr y
 have cc := d9.one List.mem_cons_self
 refine qI rfl (yX [(.slice none 0 0)] zr26 rfl cb.pins (fun jk nr ns ea jl eb => ?_))
 have ec := cb.step jl eb
 have jm := d9.below eb
 have ed : w.heap.size ≤ jk := by have := cb.size; omega
 refine q0 rfl rfl rfl (xD (cs' := [ay]) (us := [ay]) (v := (.agg [ay].toArray)) sz26 rfl rfl rfl (yP cc) ec.pins ea (Nat.le_of_ble_eq_true rfl) rfl (fun nt jn jo ee nu => ?_))
 have jp := ec.write jo ee ((yM ed))
 have jq := jm.kept ee (fun k hk o u => by cases hk; exact ea.free o u)
 obtain ⟨ef, z, a3, jr, nv⟩ := jn.shut jp ed
 have js := jq.le z
 refine qe (zA (zB (zC ?_)))
 refine qD rfl (yB (cs := [a]) ag26 sz26 rfl (fun j u hj => (Pins.of_le a3.pins (Pin.le_trans (Pin.le_trans (Pin.le_trans (Pin.le_trans (Pin.le_trans (Pin.le_trans (Pin.le_trans (Pin.le_trans (Pin.le_trans (Pin.le_trans (Pin.le_trans (Pin.le_trans (Pin.le_trans (Pin.le_trans (Pin.le_trans (Pin.le_trans (Pin.le_trans (Pin.le_trans (Pin.le_trans (Pin.le_trans (Pin.le_trans ak al.le) am) aa) ab.le) ac) t) x) ad.le) ae) c) d) g.le) h) i) l) p.le) q) r) s) y.le) z)) _ _ _ (aj _ _ (by simpa using hj)))) ?_
 refine qD rfl (yB (cs := [b]) ag26 sz26 rfl (fun j u hj => (Pins.of_le a3.pins (Pin.le_trans (Pin.le_trans (Pin.le_trans (Pin.le_trans (Pin.le_trans (Pin.le_trans (Pin.le_trans (Pin.le_trans (Pin.le_trans (Pin.le_trans (Pin.le_trans c d) g.le) h) i) l) p.le) q) r) s) y.le) z)) _ _ _ (a2 _ _ (by simpa using hj)))) ?_
 refine qI rfl (o_buildA (E := eVal) (e := 26) [a, b] [a, b] Tryd.underlying38 sz26 zr26 (by exact reps2 (⟨rfl, m⟩) (⟨rfl, ar⟩)) (ones2 m ar) rfl rfl rfl rfl (by decide) a3.pins (fun cd jt ju jv eg nw => ?_))
 have a4 := a3.step jv eg
 have jw := js.below eg
 have eh : Own eVal 26 ef jt w.heap.size cd ([a, b]) := ju.weaken a3.size
 refine qD rfl (yB (cs := [a]) ag26 sz26 rfl (fun j u hj => (Pins.of_le a4.pins (Pin.le_trans (Pin.le_trans (Pin.le_trans (Pin.le_trans (Pin.le_trans (Pin.le_trans (Pin.le_trans (Pin.le_trans (Pin.le_trans (Pin.le_trans (Pin.le_trans (Pin.le_trans (Pin.le_trans (Pin.le_trans (Pin.le_trans (Pin.le_trans (Pin.le_trans (Pin.le_trans (Pin.le_trans (Pin.le_trans (Pin.le_trans ak al.le) am) aa) ab.le) ac) t) x) ad.le) ae) c) d) g.le) h) i) l) p.le) q) r) s) y.le) z)) _ _ _ (aj _ _ (by simpa using hj)))) ?_
 refine qD rfl (yB (cs := [b]) ag26 sz26 rfl (fun j u hj => (Pins.of_le a4.pins (Pin.le_trans (Pin.le_trans (Pin.le_trans (Pin.le_trans (Pin.le_trans (Pin.le_trans (Pin.le_trans (Pin.le_trans (Pin.le_trans (Pin.le_trans (Pin.le_trans c d) g.le) h) i) l) p.le) q) r) s) y.le) z)) _ _ _ (a2 _ _ (by simpa using hj)))) ?_
 refine qI rfl (o_buildA (E := eVal) (e := 26) [a, b] [a, b] Tryd.underlying38 sz26 zr26 (by exact reps2 (⟨rfl, m⟩) (⟨rfl, ar⟩)) (ones2 m ar) rfl rfl rfl rfl (by decide) a4.pins (fun ce jx jy jz cf j0 => ?_))
 have j1 := a4.step jz cf
 have j2 := eh.below cf
 have j3 := jw.below cf
 have j4 : Apart ce.ownBlock cd.ownBlock := zG j0 eh.lt
 have j5 : Own eVal 26 ef jx w.heap.size ce ([a, b]) := jy.weaken a4.size
 obtain ⟨nx, ah, j6, j7, j8⟩ := j2.sealed j1
 have j9 := j5.moreO ah j8 j4
 have ka := j3.le ah
 obtain ⟨ny, ai, cg, kb, nz⟩ := j9.sealed j6
 have kc := ka.le ai
 refine qI rfl (zL (vs := [cd, ce]) Tryd.func40 nm40 rfl rfl rfl ?_)
 refine Calls.mono (xN cg.pins kc jj (by first | omega | (simp; done) | (simp; omega)) cg.size (j7.mono ai) kb (by simp) (by simp) (by first | omega | simp) (by first | omega | simp)) ?_
 rintro _ n0 ⟨az, n1, n2, rfl, kd, ei, an⟩
 refine ⟨_, rfl, ?_⟩
 have ch := cg.tr an
 have ci := ei.one List.mem_cons_self
 refine qI rfl (yX [(.slice none 0 0)] zr26 rfl ch.pins (fun ke n3 n4 ej kf ek => ?_))
 have el := ch.step kf ek
 have kg := ei.below ek
 have em : w.heap.size ≤ ke := by have := ch.size; omega
 refine q0 rfl rfl rfl (xD (cs' := [az]) (us := [az]) (v := (.agg [az].toArray)) sz26 rfl rfl rfl (yP ci) el.pins ej (Nat.le_of_ble_eq_true rfl) rfl (fun n5 kh ki en n6 => ?_))
 have kj := el.write ki en ((yM em))
 have kk := kg.kept en (fun k hk o u => by cases hk; exact ej.free o u)
 obtain ⟨eo, ao, bg, kl, n7⟩ := kh.shut kj em
 have km := kk.le ao
 refine qe (zA (zB (zC ?_)))
 refine qD rfl (yB (cs := [b]) ag26 sz26 rfl (fun j u hj => (Pins.of_le bg.pins (Pin.le_trans (Pin.le_trans (Pin.le_trans (Pin.le_trans (Pin.le_trans (Pin.le_trans (Pin.le_trans (Pin.le_trans (Pin.le_trans (Pin.le_trans (Pin.le_trans (Pin.le_trans (Pin.le_trans (Pin.le_trans (Pin.le_trans c d) g.le) h) i) l) p.le) q) r) s) y.le) z) ah) ai) an.le) ao)) _ _ _ (a2 _ _ (by simpa using hj)))) ?_
 refine qI rfl (xL (E := eVal) (e := 26) [b] b Tryd.underlying38 sz26 zr26 ⟨rfl, ar⟩ rfl (by decide) bg.pins (fun cj kn ko kp ep n8 => ?_))
 have bh := bg.step kp ep
 have kq := km.below ep
 have eq : Own eVal 26 eo kn w.heap.size cj ([b]) := ko.weaken bg.size
 refine qD rfl (yB (cs := [a]) ag26 sz26 rfl (fun j u hj => (Pins.of_le bh.pins (Pin.le_trans (Pin.le_trans (Pin.le_trans (Pin.le_trans (Pin.le_trans (Pin.le_trans (Pin.le_trans (Pin.le_trans (Pin.le_trans (Pin.le_trans (Pin.le_trans (Pin.le_trans (Pin.le_trans (Pin.le_trans (Pin.le_trans (Pin.le_trans (Pin.le_trans (Pin.le_trans (Pin.le_trans (Pin.le_trans (Pin.le_trans (Pin.le_trans (Pin.le_trans (Pin.le_trans (Pin.le_trans ak al.le) am) aa) ab.le) ac) t) x) ad.le) ae) c) d) g.le) h) i) l) p.le) q) r) s) y.le) z) ah) ai) an.le) ao)) _ _ _ (aj _ _ (by simpa using hj)))) ?_
 refine qI rfl (xL (E := eVal) (e := 26) [a] a Tryd.underlying38 sz26 zr26 ⟨rfl, m⟩ rfl (by decide) bh.pins (fun ck kr ks kt cl ku => ?_))
 have kv := bh.step kt cl
 have kw := eq.below cl
 have kx := kq.below cl
 have ky : Apart ck.ownBlock cj.ownBlock := zG ku eq.lt
 have kz : Own eVal 26 eo kr w.heap.size ck ([a]) := ks.weaken bh.size
 obtain ⟨n9, ap, k0, k1, k2⟩ := kw.sealed kv
 have k3 := kz.moreO ap k2 ky
 have k4 := kx.le ap
 obtain ⟨oa, aq, cm, k5, ob⟩ := k3.sealed k0
 have k6 := k4.le aq
 refine qI rfl (zL (vs := [cj, ck]) Tryd.func40 nm40 rfl rfl rfl ?_)
 refine Calls.mono (xN cm.pins k6 kd (by first | omega | (simp; done) | (simp; omega)) cm.size (k1.mono aq) k5 (by simp) (by simp) (by first | omega | simp) (by first | omega | simp)) ?_
 rintro _ oc ⟨a0, od, oe, rfl, k7, er, au⟩
 refine ⟨_, rfl, ?_⟩
 have cn := cm.tr au
 have co := er.one List.mem_cons_self
 refine qI rfl (yX [(.slice none 0 0)] zr26 rfl cn.pins (fun k8 og oh es k9 et => ?_))
 have eu := cn.step k9 et
 have la := er.below et
 have ev : w.heap.size ≤ k8 := by have := cn.size; omega
 refine q0 rfl rfl rfl (xD (cs' := [a0]) (us := [a0]) (v := (.agg [a0].toArray)) sz26 rfl rfl rfl (yP co) eu.pins es (Nat.le_of_ble_eq_true rfl) rfl (fun oi lb lc ew oj => ?_))
 have ld := eu.write lc ew ((yM ev))
 have lf := la.kept ew (fun k hk o u => by cases hk; exact es.free o u)
 obtain ⟨lg, av, af, lh, ok⟩ := lb.shut ld ev
 have li := lf.le av
 refine qe (zA (zB (zC ?_)))
 refine qD rfl (yB (cs := [a]) ag26 sz26 rfl (fun j u hj => (Pins.of_le af.pins (Pin.le_trans (Pin.le_trans (Pin.le_trans (Pin.le_trans (Pin.le_trans (Pin.le_trans (Pin.le_trans (Pin.le_trans (Pin.le_trans (Pin.le_trans (Pin.le_trans (Pin.le_trans (Pin.le_trans (Pin.le_trans (Pin.le_trans (Pin.le_trans (Pin.le_trans (Pin.le_trans (Pin.le_trans (Pin.le_trans (Pin.le_trans (Pin.le_trans (Pin.le_trans (Pin.le_trans (Pin.le_trans (Pin.le_trans (Pin.le_trans (Pin.le_trans (Pin.le_trans ak al.le) am) aa) ab.le) ac) t) x) ad.le) ae) c) d) g.le) h) i) l) p.le) q) r) s) y.le) z) ah) ai) an.le) ao) ap) aq) au.le) av)) _ _ _ (aj _ _ (by simpa using hj)))) ?_
 refine qD rfl (yB (cs := [f]) ag26 sz26 rfl (fun j u hj => (Pins.of_le af.pins (Pin.le_trans (Pin.le_trans (Pin.le_trans (Pin.le_trans (Pin.le_trans (Pin.le_trans (Pin.le_trans (Pin.le_trans (Pin.le_trans (Pin.le_trans (Pin.le_trans (Pin.le_trans (Pin.le_trans (Pin.le_trans (Pin.le_trans (Pin.le_trans (Pin.le_trans (Pin.le_trans (Pin.le_trans (Pin.le_trans (Pin.le_trans (Pin.le_trans (Pin.le_trans (Pin.le_trans (Pin.le_trans (Pin.le_trans aa ab.le) ac) t) x) ad.le) ae) c) d) g.le) h) i) l) p.le) q) r) s) y.le) z) ah) ai) an.le) ao) ap) aq) au.le) av)) _ _ _ (bm _ _ (by simpa using hj)))) ?_
 refine qD rfl (yB (cs := [ag]) ag26 sz26 rfl (fun j u hj => (Pins.of_le af.pins (Pin.le_trans (Pin.le_trans (Pin.le_trans (Pin.le_trans (Pin.le_trans (Pin.le_trans (Pin.le_trans (Pin.le_trans (Pin.le_trans (Pin.le_trans (Pin.le_trans (Pin.le_trans (Pin.le_trans (Pin.le_trans (Pin.le_trans (Pin.le_trans (Pin.le_trans (Pin.le_trans (Pin.le_trans (Pin.le_trans (Pin.le_trans (Pin.le_trans (Pin.le_trans t x) ad.le) ae) c) d) g.le) h) i) l) p.le) q) r) s) y.le) z) ah) ai) an.le) ao) ap) aq) au.le) av)) _ _ _ (de _ _ (by simpa using hj)))) ?_
 refine qD rfl (yB (cs := [b]) ag26 sz26 rfl (fun j u hj => (Pins.of_le af.pins (Pin.le_trans (Pin.le_trans (Pin.le_trans (Pin.le_trans (Pin.le_trans (Pin.le_trans (Pin.le_trans (Pin.le_trans (Pin.le_trans (Pin.le_trans (Pin.le_trans (Pin.le_trans (Pin.le_trans (Pin.le_trans (Pin.le_trans (Pin.le_trans (Pin.le_trans (Pin.le_trans (Pin.le_trans c d) g.le) h) i) l) p.le) q) r) s) y.le) z) ah) ai) an.le) ao) ap) aq) au.le) av)) _ _ _ (a2 _ _ (by simpa using hj)))) ?_
 refine qD rfl (yB (cs := [aw]) ag26 sz26 rfl (fun j u hj => (Pins.of_le af.pins (Pin.le_trans (Pin.le_trans (Pin.le_trans (Pin.le_trans (Pin.le_trans (Pin.le_trans (Pin.le_trans (Pin.le_trans (Pin.le_trans (Pin.le_trans (Pin.le_trans (Pin.le_trans (Pin.le_trans (Pin.le_trans (Pin.le_trans i l) p.le) q) r) s) y.le) z) ah) ai) an.le) ao) ap) aq) au.le) av)) _ _ _ (hz _ _ (by simpa using hj)))) ?_
 refine qD rfl (yB (cs := [ax]) ag26 sz26 rfl (fun j u hj => (Pins.of_le af.pins (Pin.le_trans (Pin.le_trans (Pin.le_trans (Pin.le_trans (Pin.le_trans (Pin.le_trans (Pin.le_trans (Pin.le_trans (Pin.le_trans (Pin.le_trans (Pin.le_trans r s) y.le) z) ah) ai) an.le) ao) ap) aq) au.le) av)) _ _ _ (ix _ _ (by simpa using hj)))) ?_
 refine qD rfl (yB (cs := [ay]) ag26 sz26 rfl (fun j u hj => (Pins.of_le af.pins (Pin.le_trans (Pin.le_trans (Pin.le_trans (Pin.le_trans (Pin.le_trans (Pin.le_trans (Pin.le_trans ah ai) an.le) ao) ap) aq) au.le) av)) _ _ _ (jr _ _ (by simpa using hj)))) ?_
 refine qD rfl (yB (cs := [az]) ag26 sz26 rfl (fun j u hj => (Pins.of_le af.pins (Pin.le_trans (Pin.le_trans (Pin.le_trans ap aq) au.le) av)) _ _ _ (kl _ _ (by simpa using hj)))) ?_
 refine qD rfl (yB (cs := [a0]) ag26 sz26 rfl (fun j u hj => af.pins _ _ _ (lh _ _ (by simpa using hj)))) ?_
 refine qI rfl (o_buildA (E := eVal) (e := 26) [a, f, ag, b, aw, ax, ay, az, a0] [a, f, ag, b, aw, ax, ay, az, a0] Tryd.underlying38 sz26 zr26 (repsC (⟨rfl, m⟩) (repsC (⟨rfl, a1⟩) (repsC (⟨rfl, a7⟩) (repsC (⟨rfl, ar⟩) (repsC (⟨rfl, b0⟩) (repsC (⟨rfl, b6⟩) (repsC (⟨rfl, cc⟩) (repsC (⟨rfl, ci⟩) (repsC (⟨rfl, co⟩) repsN))))))))) (onesC m (onesC a1 (onesC a7 (onesC ar (onesC b0 (onesC b6 (onesC cc (onesC ci (onesC co onesN))))))))) rfl rfl rfl rfl (by decide) af.pins (fun cp lj lk ll ex ol => ?_))
 have lm := af.step ll ex
 have ln := li.below ex
 have lo : Own eVal 26 lg lj w.heap.size cp ([a, f, ag, b, aw, ax, ay, az, a0]) := lk.weaken af.size
 refine qM cp ?_
 refine qe (zA ?_)
 refine wp_ret ?_
 refine zP ?_
 refine zM (v := cp) rfl rfl rfl ?_
 exact ⟨_, _, _, _, rfl, lo, ln.mem (by simp), k7, rfl, rfl, lm⟩

theorem some_spec {w : World} {G : Pin} {c : Nat} {cv : Value} {code : List UInt8} {a s : Int} {l : Value} {vs : List Value} {m : Int} (hP : Pins G w) (hB : Bx G w c [cv, .int .i64 a, .int .u64 s]) (hc : RSl eByte G cv code) (ha : 0 ≤ a ∧ a + 6 ≤ 1000000) (hs : 0 ≤ s ∧ s < 18446744073709551616) (hl : RSl eVal G l vs) (hn : 1 ≤ vs.length ∧ vs.length ≤ 1000) (hm2 : 0 ≤ m ∧ m ≤ 2) :
  Calls Tryd.prog 62 [(.pointer (some ⟨c, 0, none⟩)), l, (vJ m)].toArray w fun e w' => ∃ (u : Value) (ys : List Value) (a' s' : Int) (G' : Pin), e = .returned u ∧ Own eVal 26 G' w' w.heap.size u ys ∧ (∀ y ∈ ys, y ∈ vs) ∧ ys.length ≤ 2 ∧ Bx G' w' c [cv, .int .i64 a', .int .u64 s'] ∧ (a ≤ a' ∧ a' ≤ a + 6) ∧ (0 ≤ s' ∧ s' < 18446744073709551616) ∧ Ext (inO (some c)) G w G' w' := by
 refine zV (n := 31) Tryd.func62 Tryd.ntmps62 rfl rfl ?_
 have r : Ext (inO (some c)) G w G w := Ext.refl hP
 have hm := hc.max
 refine zB (zC ?_)
 refine qM (.slice none 0 0) ?_
 refine qe (zA (zB (zC ?_)))
 refine qI rfl (xH (E := eVal) (e := 26) Tryd.underlying38 sz26 r.pins (fun f w2 ar au ae av => ?_))
 have af := r.step au ae
 have aw := hB.below ae
 have ag : Apart f.ownBlock (some c) := zI av hB.lt
 have ax : Own eVal 26 G w2 w.heap.size f ([]) := ar.weaken r.size
 refine qM f ?_
 refine qe (zA (zB (zC ?_)))
 refine qM (.pointer (some ⟨c, 0, none⟩)) ?_
 refine qM (vJ m) ?_
 refine qD rfl (yJ rfl rfl (by omega)) ?_
 refine qI rfl (zL (vs := [(.pointer (some ⟨c, 0, none⟩)), (vJ (m + 1))]) Tryd.func35 nm35 rfl rfl rfl ?_)
 refine Calls.mono (pick_spec af.pins aw hc (by omega) (by omega) (n := (m + 1)) (by omega)) ?_
 rintro _ bm ⟨d, ay, az, rfl, bn, a0, bo, bp, ah⟩
 refine ⟨_, rfl, ?_⟩
 have a2 := af.trans ah (fun i hi => xB i hi)
 have a3 := ax.extS ah (notO ag)
 refine qM (vJ d) ?_
 refine qe (zA (zB (zB (zC ?_))))
 refine qM (vJ 0) ?_
 refine qe (zA ?_)
 refine zW ?_
 refine yL (fun (k : Nat) (en : Nat → Value) (W : World) => ∃ (ai : Nat → Value) (i : Nat) (ov : Value) (ys : List Value) (g : Int) (o : Int) (GL : Pin), en = (upd (upd (upd (upd (upd (upd ai 0 (.pointer (some ⟨c, 0, none⟩))) 1 l) 6 (.slice none 0 0)) 7 ov) 8 (vJ d)) 9 (vJ (i : Int))) ∧ k = (d).toNat - i ∧ Ext (inO (some c)) G w GL W ∧ Pin.le G GL ∧ (i : Int) ≤ d ∧ (∀ y ∈ ys, y ∈ vs) ∧ (ys.length = i) ∧ (a ≤ g ∧ g ≤ a + 2 + 2 * (i : Int)) ∧ (0 ≤ o ∧ o < 18446744073709551616) ∧ (Own eVal 26 GL W w.heap.size ov (ys)) ∧ (Bx GL W c [cv, (vJ g), (.int .u64 o)]) ∧ (Apart ov.ownBlock (some c))) _ ⟨_, 0, f, [], ay, az, G, (pS 9 (pS 8 (pS 7 (pS 6 (pS 1 (pU 0)))))), rfl, a2, Pin.le_refl _, (by omega), (fun y hy => (List.not_mem_nil hy).elim), rfl, (by omega), (by omega), a3, a0, ag⟩ ?_
 rintro bq _ br ⟨ai, i, ov, ys, g, o, GL, rfl, bs, t, x, hi, hys, hyl, hda, hds, aj, ak, aa⟩
 refine zB (zB (zC ?_))
 refine qM (vJ (i : Int)) ?_
 refine qM (vJ d) ?_
 refine qD rfl (yU rfl rfl) ?_
 refine qe (zA ?_)
 refine yA (p := ((i : Int) : Int) < d) rfl rfl (fun a4 => ?_) (fun a4 => ?_)
 ·skip
  refine wp_skip ?_
  refine zA (zB ?_)
  refine zW ?_
  refine zC ?_
  refine qM ov ?_
  refine qM l ?_
  refine qM (.pointer (some ⟨c, 0, none⟩)) ?_
  refine qM l ?_
  refine qD rfl (zO Tryd.underlying38 (v := l) rfl hl) ?_
  refine qI rfl (zL (vs := [(.pointer (some ⟨c, 0, none⟩)), (vJ (vs.length : Int))]) Tryd.func35 nm35 rfl rfl rfl ?_)
  refine Calls.mono (pick_spec t.pins ak (hc.mono x) (by omega) (by omega) (n := (vs.length : Int)) (by omega)) ?_
  rintro _ bt ⟨b, a5, a6, rfl, bu, a7, bv, bw, al⟩
  refine ⟨_, rfl, ?_⟩
  have q := t.trans al (fun i hi => xB i hi)
  have a8 := aj.extS al (notO aa)
  refine qD rfl (zH Tryd.underlying38 sz26 (v := l) rfl rfl hl (by omega) (by omega)) ?_
  obtain ⟨bx, a9, ba, bz⟩ := nm_el (j := (b).toNat) default (hl.at (z := b) (by omega) (by omega)) rfl
  obtain ⟨rfl, bb⟩ := a9
  refine qD rfl (ba ag26 sz26 rfl (Pins.of_le q.pins x)) ?_
  refine qI rfl (xL (E := eVal) (e := 26) [(vs.getD (b).toNat default)] (vs.getD (b).toNat default) Tryd.underlying38 sz26 zr26 ⟨rfl, bb⟩ rfl (by decide) q.pins (fun am bc bd be ab b0 => ?_))
  have ac := q.step be ab
  have an := a8.below ab
  have ao := a7.below ab
  have bf : Own eVal 26 GL bc w.heap.size am ([(vs.getD (b).toNat default)]) := bd.weaken q.size
  refine qI rfl (oA (E := eVal) (v := ov) (u := am) 24 Tryd.underlying38 ap26 (by decide) rfl rfl ac.pins an bf.src (ac.size) (fun ad b1 bg bh ap bi => ?_))
  have bj := ac.write bh ap ((zX an))
  have bk := ao.keptA ap aa.symm
  have bl : Apart (some c) ad.ownBlock := zJ aa.symm bi ao.lt
  have b2 : (ys ++ ([(vs.getD (b).toNat default)])).length = ys.length + 1 := List.length_append
  refine qM ad ?_
  refine qe ?_
  refine zZ ?_
  refine zA (zC ?_)
  refine qM (vJ (i : Int)) ?_
  refine qD rfl (yJ rfl rfl (by omega)) ?_
  refine qM (vJ ((i : Int) + 1)) ?_
  refine qe ?_
  refine yC ?_
  refine ⟨_, ?_, _, rfl, _, i + 1, ad, ys ++ ([(vs.getD (b).toNat default)]), a5, a6, GL, (pS 9 (pS 8 (pS 7 (pS 6 (pS 1 (pU 0)))))), rfl, bj, x, (by omega), (fun y hy => (List.mem_append.1 hy).elim (hys y) (fun h => by rw [List.mem_singleton.1 h]; exact yY (by omega))), (by simp; omega), (by omega), (by omega), bg, bk, bl.symm⟩
  omega
 refine wp_exit ?_
 refine zY ?_
 refine yH ?_
 refine yD ?_
 refine zA (zB (zC ?_))
 refine qM ov ?_
 refine qM ov ?_
 refine qe (zA ?_)
 refine wp_ret ?_
 refine zP ?_
 refine zM (v := ov) rfl rfl rfl ?_
 exact ⟨_, _, _, _, _, rfl, aj, hys, (by omega), ak, (by omega), (by omega), t⟩

theorem someO_spec {w : World} {G : Pin} {c : Nat} {cv : Value} {code : List UInt8} {a s : Int} {l : Value} {vs : List Value} {m : Int} {e base : Nat} (hP : Pins G w) (hB : Bx G w c [cv, .int .i64 a, .int .u64 s]) (hc : RSl eByte G cv code) (ha : 0 ≤ a ∧ a + 6 ≤ 1000000) (hs : 0 ≤ s ∧ s < 18446744073709551616) (hl : Own eVal e G w base l vs) (hap : Apart (some c) l.ownBlock) (hn : 1 ≤ vs.length ∧ vs.length ≤ 1000) (hm2 : 0 ≤ m ∧ m ≤ 2) :
  Calls Tryd.prog 62 [(.pointer (some ⟨c, 0, none⟩)), l, (.int .i64 m)].toArray w fun e w' => ∃ (u : Value) (ys : List Value) (a' s' : Int), e = .returned u ∧ Own eVal 26 G w' w.heap.size u ys ∧ (∀ y ∈ ys, y ∈ vs) ∧ ys.length ≤ 2 ∧ Bx G w' c [cv, .int .i64 a', .int .u64 s'] ∧ (a ≤ a' ∧ a' ≤ a + 6) ∧ (0 ≤ s' ∧ s' < 18446744073709551616) ∧ Ext (inO (some c)) G w G w' := by
 have hb2 : Bx (Gadd G w l) w c [cv, .int .i64 a, .int .u64 s] := ⟨hB.heap, fun o u hu => hu.elim (hB.free o u) (fun h => hap c rfl h.1)⟩
 refine (some_spec (Gadd.pins hP l) hb2 (hc.mono (Gadd.le _ _ _)) ha hs hl.read hn hm2).mono fun e w' ⟨u, ys, a', s', G', e1, ho, hm, hy, hb, h1, h2, hx⟩ => ?_
 have hle : Pin.le G G' := Pin.le_trans (Gadd.le _ _ _) hx.le
 exact ⟨u, ys, a', s', e1, ownV_anti ho hle, hm, hy, hb.anti hle, h1, h2, ext_back (Gadd.le _ _ _) hx⟩

theorem dform_spec {w : World} {G : Pin} {c : Nat} {cv : Value} {code : List UInt8} {a s : Int} {n : Int} (hP : Pins G w) (hB : Bx G w c [cv, .int .i64 a, .int .u64 s]) (hc : RSl eByte G cv code) (ha : 0 ≤ a ∧ a + (12 * n + 4) ≤ 1000000) (hs : 0 ≤ s ∧ s < 18446744073709551616) (hn : 0 ≤ n ∧ n ≤ 6) :
  Calls Tryd.prog 36 [(.pointer (some ⟨c, 0, none⟩)), (vJ n)].toArray w fun e w' => ∃ (u : Value) (g : Nat) (a' s' : Int) (G' : Pin), e = .returned (.agg [u].toArray) ∧ Own eNode 60 G' w' w.heap.size u (formG g) ∧ IsForm g (formG g) ∧ ((formG g).length : Int) ≤ 9 + n ∧ Bx G' w' c [cv, .int .i64 a', .int .u64 s'] ∧ (a ≤ a' ∧ a' ≤ a + (12 * n + 4)) ∧ (0 ≤ s' ∧ s' < 18446744073709551616) ∧ Ext (inO (some c)) G w G' w' := by
 refine zV (n := 40) Tryd.func36 Tryd.ntmps36 rfl rfl ?_
 have au : Ext (inO (some c)) G w G w := Ext.refl hP
 have hm := hc.max
 refine zB (zC ?_)
 refine qI rfl (yX [(.slice none 0 0)] zr26 rfl au.pins (fun h w2 b3 bh b4 bi => ?_))
 have ae := au.step b4 bi
 have bj := hB.below bi
 have l : Apart (some h) (some c) := zI (congrArg some b3) hB.lt
 have bk : w.heap.size ≤ h := by have := au.size; omega
 refine qe (zA (zB (zC ?_)))
 refine qI rfl (zL (vs := []) Tryd.func61 nm61 rfl rfl rfl ?_)
 refine Calls.mono (l3Small_spec ae.pins) ?_
 rintro _ b5 ⟨av, bl, b6, aw, rfl, ax, b7, b8, el, em, d⟩
 refine ⟨_, rfl, ?_⟩
 have b9 := ae.tr d
 have ca := bj.ext d
 have cb := bh.ext d
 have cc := zU ax.lt bj.lt
 have cd := zU ax.lt bh.lt
 have ce : Own eVal 26 aw b5 w.heap.size av bl := ax.weaken ae.size
 have cf := b7.wide ae.size
 refine qM av ?_
 refine qe (zA (zB (zB (zC ?_))))
 refine qM (vJ 0) ?_
 refine qe (zA ?_)
 refine zW ?_
 refine yL (fun (k : Nat) (en : Nat → Value) (W : World) => ∃ (bm : Nat → Value) (i : Nat) (lv : Value) (ls : List Value) (Q : List Nat) (a1 : Int) (s1 : Int) (GL : Pin), en = (upd (upd (upd (upd (upd bm 0 (.pointer (some ⟨c, 0, none⟩))) 1 (vJ n)) 4 (.pointer (some ⟨h, 0, none⟩))) 5 lv) 6 (vJ (i : Int))) ∧ k = n.toNat - i ∧ Ext (inO (some c)) G w GL W ∧ Pin.le aw GL ∧ (i : Int) ≤ n ∧ (Fr 60 w.heap.size GL W Q ls) ∧ (KQ Q) ∧ (ls.length = 9 + i) ∧ (Q.length = 9 + i) ∧ (a ≤ a1 ∧ a1 ≤ a + 12 * (i : Int)) ∧ (0 ≤ s1 ∧ s1 < 18446744073709551616) ∧ (Own eVal 26 GL W w.heap.size lv (ls)) ∧ (Bx GL W c [cv, (vJ a1), (.int .u64 s1)]) ∧ (Bx GL W h [(.slice none 0 0)]) ∧ (Apart lv.ownBlock (some c)) ∧ (Apart lv.ownBlock (some h))) _ ⟨_, 0, av, bl, b6, a, s, aw, (pS 6 (pS 5 (pS 4 (pS 1 (pU 0))))), rfl, b9, Pin.le_refl _, (by omega), cf, b8, (by omega), (by omega), (by omega), (by omega), ce, ca, cb, cc, cd⟩ ?_
 rintro eo _ ep ⟨bm, i, lv, ls, Q, a1, s1, GL, rfl, eq, m, q, hi, hfl, hkl, hll, hQl, hda, hds, ah, r, ay, b, bn⟩
 refine zB (zB (zC ?_))
 refine qM (vJ (i : Int)) ?_
 refine qM (vJ n) ?_
 refine qD rfl (yU rfl rfl) ?_
 refine qe (zA ?_)
 refine yA (p := ((i : Int) : Int) < n) rfl rfl (fun cg => ?_) (fun cg => ?_)
 ·skip
  refine wp_skip ?_
  refine zA (zB ?_)
  refine zW ?_
  refine zB (zC ?_)
  refine qM (.pointer (some ⟨c, 0, none⟩)) ?_
  refine qM lv ?_
  refine qI rfl (zL (vs := [(.pointer (some ⟨c, 0, none⟩)), lv, (vJ 2)]) Tryd.func62 nm62 rfl rfl rfl ?_)
  refine Calls.mono (someO_spec m.pins r (hc.mono (Pin.le_trans d.le q)) (by omega) (by omega) ah b.symm (by omega) (by omega)) ?_
  rintro _ ch ⟨ai, ci, er, es, rfl, aj, cj, et, az, eu, ev, ak⟩
  refine ⟨_, rfl, ?_⟩
  have a0 := m.trans ak (fun i hi => xB i hi)
  have a2 := ah.extS ak (notO b)
  have bo := ay.extS ak (notOb l)
  have ck := hfl.turned ak (fun k hk o u => by cases hk; exact r.free o u)
  have cl := zT aj.lt ah.lt
  have bp := zU aj.lt r.lt
  have cm := zU aj.lt ay.lt
  have bq : Own eVal 26 GL ch w.heap.size ai ci := aj.weaken m.size
  refine qM ai ?_
  refine qe (zA (zC ?_))
  refine qM lv ?_
  refine qM ai ?_
  refine qM (.pointer (some ⟨c, 0, none⟩)) ?_
  refine qM lv ?_
  refine qI rfl (zL (vs := [(.pointer (some ⟨c, 0, none⟩)), lv, (vJ 2)]) Tryd.func62 nm62 rfl rfl rfl ?_)
  refine Calls.mono (someO_spec a0.pins az (hc.mono (Pin.le_trans d.le q)) (by omega) (by omega) a2 b.symm (by omega) (by omega)) ?_
  rintro _ cn ⟨br, co, cp, cq, rfl, t, cr, ew, ct, ex, ey, x⟩
  refine ⟨_, rfl, ?_⟩
  have cu := a0.trans x (fun i hi => xB i hi)
  have cw := a2.extS x (notO b)
  have cx := bq.extS x (notO bp)
  have cy := bo.extS x (notOb l)
  have cz := ck.turned x (fun k hk o u => by cases hk; exact az.free o u)
  have c0 := zT t.lt a2.lt
  have c1 := zT t.lt bq.lt
  have c2 := zU t.lt az.lt
  have c3 := zU t.lt bo.lt
  have c4 : Own eVal 26 GL cn w.heap.size br co := t.weaken a0.size
  obtain ⟨ez, al, c5, c6, am⟩ := cx.sealed cu
  have c7 := cw.moreO al am cl.symm
  have c8 := c4.moreO al am c1
  have c9 := ct.moreO am bp.symm
  have da := cy.moreO am cm.symm
  have db := cz.le al
  obtain ⟨e0, an, a3, dc, a4⟩ := c8.sealed c5
  have dd := c7.moreO an a4 c0.symm
  have de := c9.moreO a4 c2.symm
  have df := da.moreO a4 c3.symm
  have dg := db.le an
  refine qI rfl (zL (vs := [ai, br]) Tryd.func40 nm40 rfl rfl rfl ?_)
  refine Calls.mono (xN a3.pins dg hkl (by first | omega | (simp; done) | (simp; omega)) a3.size (c6.mono an) dc cj cr (by first | omega | simp) (by first | omega | simp)) ?_
  rintro _ e1 ⟨y, dh, bs, rfl, di, bt, aa⟩
  refine ⟨_, rfl, ?_⟩
  have a5 := a3.tr aa
  have dj := dd.ext aa
  have dk := de.ext aa
  have dl := df.ext aa
  have dm := bt.one List.mem_cons_self
  refine qI rfl (xL (E := eVal) (e := 26) [y] y Tryd.underlying38 sz26 zr26 ⟨rfl, dm⟩ rfl (by decide) a5.pins (fun bu dn dp dq ab e2 => ?_))
  have a6 := a5.step dq ab
  have a7 := dj.below ab
  have bv := dk.below ab
  have bw := dl.below ab
  have dr := bt.below ab
  have ds : Own eVal 26 bs dn w.heap.size bu ([y]) := dp.weaken a5.size
  refine qI rfl (oA (E := eVal) (v := lv) (u := bu) 24 Tryd.underlying38 ap26 (by decide) rfl rfl a6.pins a7 ds.src (a6.size) (fun ao e3 dt du ap bx => ?_))
  have dv := a6.write du ap ((zX a7))
  have dw := bv.keptA ap b.symm
  have dx := bw.keptA ap bn.symm
  have dy := dr.kept ap a7.free
  have dz : Apart (some c) ao.ownBlock := zJ b.symm bx bv.lt
  have d0 : Apart (some h) ao.ownBlock := zJ bn.symm bx bw.lt
  have e4 : (ls ++ ([y])).length = ls.length + 1 := List.length_append
  refine qM ao ?_
  refine qe ?_
  refine zZ ?_
  refine zA (zC ?_)
  refine qM (vJ (i : Int)) ?_
  refine qD rfl (yJ rfl rfl (by omega)) ?_
  refine qM (vJ ((i : Int) + 1)) ?_
  refine qe ?_
  refine yC ?_
  refine ⟨_, ?_, _, rfl, _, i + 1, ao, ls ++ ([y]), (dh :: Q), cp, cq, bs, (pS 6 (pS 5 (pS 4 (pS 1 (pU 0))))), rfl, dv, (Pin.le_trans (Pin.le_trans (Pin.le_trans q al) an) aa.le), (by omega), (dy.mem snoc_mem), di, (by simp; omega), (by simp; omega), (by omega), (by omega), dt, dw, dx, dz.symm, d0.symm⟩
  omega
 refine wp_exit ?_
 refine zY ?_
 refine yH ?_
 refine yD ?_
 refine zA (zB (zB (zC ?_)))
 refine qM (.pointer (some ⟨c, 0, none⟩)) ?_
 refine qI rfl (zL (vs := [(.pointer (some ⟨c, 0, none⟩)), (vJ 3)]) Tryd.func37 nm37 rfl rfl rfl ?_)
 refine Calls.mono (one_spec m.pins r (hc.mono (Pin.le_trans d.le q)) (by omega) (by omega) (n := 3) (by omega)) ?_
 rintro _ e5 ⟨e6, e7, e8, rfl, a8, e9, fa, aq⟩
 refine ⟨_, rfl, ?_⟩
 have ac := m.trans aq (fun i hi => xB i hi)
 have ad := ah.extS aq (notO b)
 have a9 := ay.extS aq (notOb l)
 have bz := hfl.turned aq (fun k hk o u => by cases hk; exact r.free o u)
 refine qe (zA ?_)
 refine c_if rfl rfl (fun d1 => ?_) (fun d1 => ?_)
 ·skip
  refine zB (zC ?_)
  refine qM lv ?_
  refine qM (.pointer (some ⟨c, 0, none⟩)) ?_
  refine qM lv ?_
  refine qD rfl (zO Tryd.underlying38 (v := lv) rfl ad.read) ?_
  refine qI rfl (zL (vs := [(.pointer (some ⟨c, 0, none⟩)), (vJ (ls.length : Int))]) Tryd.func35 nm35 rfl rfl rfl ?_)
  refine Calls.mono (pick_spec ac.pins a8 (hc.mono (Pin.le_trans d.le q)) (by omega) (by omega) (n := (ls.length : Int)) (by omega)) ?_
  rintro _ fb ⟨f, fc, fd, rfl, fe, d2, ff, fg, ar⟩
  refine ⟨_, rfl, ?_⟩
  have ba := ac.trans ar (fun i hi => xB i hi)
  have b0 := ad.extS ar (notO b)
  have b2 := a9.extS ar (notOb l)
  have d3 := bz.turned ar (fun k hk o u => by cases hk; exact a8.free o u)
  refine qD rfl (zH Tryd.underlying38 sz26 (v := lv) rfl rfl b0.read (by omega) (by omega)) ?_
  obtain ⟨fh, d4, d5, fi⟩ := nm_el (j := (f).toNat) default (b0.at (z := f) (by omega) (by omega)) rfl
  obtain ⟨rfl, d6⟩ := d4
  refine qD rfl (d5 ag26 sz26 rfl (Gadd.pins ba.pins lv)) ?_
  refine q0 rfl rfl rfl (xD (cs' := [(ls.getD (f).toNat default)]) (us := [(ls.getD (f).toNat default)]) (v := (.agg [(ls.getD (f).toNat default)].toArray)) sz26 rfl rfl rfl (yP d6) ba.pins b2 (Nat.le_of_ble_eq_true rfl) rfl (fun fj d7 d8 bb fk => ?_))
  have d9 := ba.write d8 bb ((yM bk))
  have ea := d2.keptA bb l.symm
  have eb := d3.kept bb (fun k hk o u => by cases hk; exact b2.free o u)
  refine qe (zA ?_)
  refine wp_ret ?_
  refine zP ?_
  refine c_retc (cs := [(ls.getD (f).toNat default)]) rfl rfl rfl ag26 sz26 (fun j u hj => by rw [Nat.zero_add]; exact d7.cell hj) ?_
  obtain ⟨g, hgq, htk⟩ := eb (ls.getD (f).toNat default) (yY (by omega))
  obtain ⟨G2, bd, be, bf⟩ := htk.give hP d9
  have hw := hkl.w (by omega) hgq
  exact ⟨_, g, _, _, G2, rfl, bd, hkl.is g hgq, (by omega), ea.anti bf, (by omega), (by omega), be⟩
 refine wp_skip ?_
 refine zA (zB (zC ?_))
 refine qM lv ?_
 refine qM lv ?_
 refine qD rfl (zO Tryd.underlying38 (v := lv) rfl ad.read) ?_
 refine qD rfl (xZ rfl rfl (by omega)) ?_
 refine qD rfl (zH Tryd.underlying38 sz26 (v := lv) rfl rfl ad.read (by omega) (by omega)) ?_
 obtain ⟨fl, ec, ed, fm⟩ := nm_el (j := ((ls.length : Int) - 1).toNat) default (ad.at (z := ((ls.length : Int) - 1)) (by omega) (by omega)) rfl
 obtain ⟨rfl, ee⟩ := ec
 refine qD rfl (ed ag26 sz26 rfl (Gadd.pins ac.pins lv)) ?_
 refine q0 rfl rfl rfl (xD (cs' := [(ls.getD ((ls.length : Int) - 1).toNat default)]) (us := [(ls.getD ((ls.length : Int) - 1).toNat default)]) (v := (.agg [(ls.getD ((ls.length : Int) - 1).toNat default)].toArray)) sz26 rfl rfl rfl (yP ee) ac.pins a9 (Nat.le_of_ble_eq_true rfl) rfl (fun fn ef eg bg fo => ?_))
 have eh := ac.write eg bg ((yM bk))
 have ei := a8.keptA bg l.symm
 have ej := bz.kept bg (fun k hk o u => by cases hk; exact a9.free o u)
 refine qe (zA ?_)
 refine wp_ret ?_
 refine zP ?_
 refine c_retc (cs := [(ls.getD ((ls.length : Int) - 1).toNat default)]) rfl rfl rfl ag26 sz26 (fun j u hj => by rw [Nat.zero_add]; exact ef.cell hj) ?_
 obtain ⟨g, hgq, htk⟩ := ej (ls.getD ((ls.length : Int) - 1).toNat default) (yY (by omega))
 obtain ⟨G2, bd, be, bf⟩ := htk.give hP eh
 have hw := hkl.w (by omega) hgq
 exact ⟨_, g, _, _, G2, rfl, bd, hkl.is g hgq, (by omega), ei.anti bf, (by omega), (by omega), be⟩

end DR2
end Go.Proofs.YtkfgdhanaijddaaDoor

set_option maxRecDepth 20000
set_option maxHeartbeats 2000000
namespace Go.Proofs.YtkfgdhanaijddaaDoor
namespace DV1
open Go.RowKit Go.GL Go.Proofs
open Go.Proofs.YtkfgdhanaijddaaDoor.B1
open Go.Proofs.YtkfgdhanaijddaaDoor.C1
open Go.Proofs.YtkfgdhanaijddaaDoor.D1
open Go.Proofs.YtkfgdhanaijddaaDoor.E1
open Go.Proofs.YtkfgdhanaijddaaDoor.MK1
open Go.Proofs.YtkfgdhanaijddaaDoor.DR1
open Go.Proofs.YtkfgdhanaijddaaDoor.DR2












theorem pl60 : (Tryd.prog.underlying 60).bind (placesD Tryd.prog) = some [(0, 1), (1, 1)] := by kernel_rfl








theorem l1Own_spec {w : World} {G : Pin} {v : Value} {xs : List Int} (hP : Pins G w) (hv : RSl eInt G v xs) (hs : xs.length ≤ 1048576) :
  Calls Tryd.prog 56 [v].toArray w fun e w' => ∃ (u : Value) (G' : Pin), e = .returned u ∧ Own eInt 3 G' w' w.heap.size u xs ∧ Ext noS G w G' w' := by
 refine zV (n := 6) Tryd.func56 Tryd.ntmps56 rfl rfl ?_
 have b : Ext noS G w G w := Ext.refl hP
 refine zB (zC ?_)
 refine qM (.slice none 0 0) ?_
 refine qe (zA (zB (zC ?_)))
 refine qI rfl (xH (E := eInt) (e := 3) Tryd.underlying40 sz3 b.pins (fun c g h i j p => ?_))
 have a := b.step i j
 have d : Own eInt 3 G g w.heap.size c ([]) := h.weaken b.size
 refine qM v ?_
 refine qI rfl (o_append (E := eInt) (v := c) (u := v) 8 Tryd.underlying40 ap3 (by decide) rfl rfl a.pins d ((hv.mono (Pin.le_refl _)).src a.pins (by decide)) (by first | omega | (rw [List.nil_append]; omega) | (rw [List.length_nil]; omega) | (rw [List.length_append]; omega) | (simp; done) | (simp; omega) | (simp only [List.length_cons, List.length_nil]; omega) | (simp only [List.length_append, List.length_cons, List.length_nil]; omega)) (by first | omega | (rw [List.nil_append]; omega) | (rw [List.length_nil]; omega) | (rw [List.length_append]; omega) | (simp; done) | (simp; omega) | (simp only [List.length_cons, List.length_nil]; omega) | (simp only [List.length_append, List.length_cons, List.length_nil]; omega)) (a.size) (fun f q k l m r => ?_))
 have o := a.write l m ((zX d))
 have s : (([]) ++ xs).length = ([]).length + xs.length := List.length_append
 refine qM f ?_
 refine qe (zA ?_)
 refine wp_ret ?_
 refine zP ?_
 refine zM (v := f) rfl rfl rfl ?_
 exact ⟨_, _, rfl, (by simpa using k), o⟩

theorem anyForm_spec {w : World} {G : Pin} {c : Nat} {cv : Value} {code : List UInt8} {a s : Int} {n : Int} (hP : Pins G w) (hB : Bx G w c [cv, .int .i64 a, .int .u64 s]) (hc : RSl eByte G cv code) (ha : 0 ≤ a ∧ a + (12 * n + 10) ≤ 1000000) (hs : 0 ≤ s ∧ s < 18446744073709551616) (hn : 0 ≤ n ∧ n ≤ 6) :
  Calls Tryd.prog 31 [(.pointer (some ⟨c, 0, none⟩)), (vJ n)].toArray w fun e w' => ∃ (u : Value) (ns : List Nd) (a' s' : Int) (G' : Pin), e = .returned (.agg [u].toArray) ∧ RSl eNode G' u ns ∧ Bx G' w' c [cv, .int .i64 a', .int .u64 s'] ∧ (a ≤ a' ∧ a' ≤ a + (12 * n + 10)) ∧ (0 ≤ s' ∧ s' < 18446744073709551616) ∧ Ext (inO (some c)) G w G' w' := by
 refine zV (n := 77) Tryd.func31 Tryd.ntmps31 rfl rfl ?_
 have cm : Ext (inO (some c)) G w G w := Ext.refl hP
 have hm := hc.max
 refine zB (zC ?_)
 refine qI rfl (yX [(.slice none 0 0)] zr26 rfl cm.pins (fun b1 w2 gd dw ge dx => ?_))
 have cn := cm.step ge dx
 have dy := hB.below dx
 have ab : Apart (some b1) (some c) := zI (congrArg some gd) hB.lt
 have ay : w.heap.size ≤ b1 := by have := cm.size; omega
 refine qe (zA (zB (zC ?_)))
 refine qM (.pointer (some ⟨c, 0, none⟩)) ?_
 refine qM (vJ n) ?_
 refine qI rfl (zL (vs := [(.pointer (some ⟨c, 0, none⟩)), (vJ n)]) Tryd.func36 nm36 rfl rfl rfl ?_)
 refine Calls.mono (dform_spec (n := n) cn.pins dy hc (by omega) (by omega) (by omega)) ?_
 rintro _ gf ⟨b, f, np, nq, bo, rfl, co, dz, nr, d0, nt, nu, az⟩
 refine ⟨_, rfl, ?_⟩
 have cp := cn.trans az (fun i hi => xB i hi)
 have d1 := dw.extS az (notOb ab)
 have g := zU co.lt dy.lt
 have ac := zU co.lt dw.lt
 have d2 : Own eNode 60 bo gf w.heap.size b (formG f) := co.weaken cn.size
 have nv := dz.1.lo
 refine qI rfl (yX [(.slice none 0 0)] zr26 rfl cp.pins (fun q nw cq gg gh bp => ?_))
 have d3 := cp.step gh bp
 have d4 := d2.below bp
 have gi := d0.below bp
 have gj := d1.below bp
 have ak : Apart (some q) b.ownBlock := zG (congrArg some cq) d2.lt
 have an : Apart (some q) (some c) := zI (congrArg some cq) d0.lt
 have cr : Apart (some q) (some b1) := zI (congrArg some cq) d1.lt
 have ct : w.heap.size ≤ q := by have := cp.size; omega
 refine q0 rfl rfl rfl (xD (cs' := [b]) (us := [b]) (v := (.agg [b].toArray)) sz26 rfl rfl rfl (yP d4.one) d3.pins gg (Nat.le_of_ble_eq_true rfl) rfl (fun nx d5 gk bq ny => ?_))
 have d6 := d3.write gk bq ((yM ct))
 have d7 := d4.keptA bq ak.symm
 have gl := gi.keptA bq an.symm
 have gm := gj.keptA bq cr.symm
 refine qe (zA (zB (zC ?_)))
 refine qM (.pointer (some ⟨c, 0, none⟩)) ?_
 refine qD rfl (zN (k := 0) rfl Tryd.underlying26 rfl nz24 rfl) ?_
 refine qD rfl (zQ (u := b) ag24 rfl (d5.cell (o := 0) rfl)) ?_
 refine qD rfl (zO Tryd.underlying24 (v := b) rfl d7.read) ?_
 refine qI rfl (zL (vs := [(.pointer (some ⟨c, 0, none⟩)), (vJ ((formG f).length : Int))]) Tryd.func35 nm35 rfl rfl rfl ?_)
 refine Calls.mono (pick_spec d6.pins gl (hc.mono az.le) (by omega) (by omega) (n := ((formG f).length : Int)) (by omega)) ?_
 rintro _ nz ⟨d, n0, n1, rfl, n2, gn, n3, n4, br⟩
 refine ⟨_, rfl, ?_⟩
 have d8 := d6.trans br (fun i hi => xB i hi)
 have gp := d7.extS br (notO g)
 have gq := gm.extS br (notOb ab)
 have gr := d5.extS br (notOb an)
 refine qM (vJ d) ?_
 refine qe (zA (zB (zB (zC ?_))))
 refine qM (.pointer (some ⟨c, 0, none⟩)) ?_
 refine qI rfl (zL (vs := [(.pointer (some ⟨c, 0, none⟩)), (vJ 24)]) Tryd.func35 nm35 rfl rfl rfl ?_)
 refine Calls.mono (pick_spec d8.pins gn (hc.mono az.le) (by omega) (by omega) (n := 24) (by omega)) ?_
 rintro _ bs ⟨al, n5, n6, rfl, n7, ao, n8, n9, bt⟩
 refine ⟨_, rfl, ?_⟩
 have t := d8.trans bt (fun i hi => xB i hi)
 have x := gp.extS bt (notO g)
 have ap := gq.extS bt (notOb ab)
 have ad := gr.extS bt (notOb an)
 refine qe (zA ?_)
 refine zW ?_
 refine zB (zC ?_)
 refine qD rfl (r_eql rfl rfl) ?_
 refine qM (.bool (decide ((al : Int) = 0))) ?_
 refine qe (zA ?_)
 refine yA (p := (al : Int) = 0) rfl rfl (fun gs => ?_) (fun gs => ?_)
 ·skip
  have hlk := (isform_ok dz (by omega)).lens (d).toNat (by omega)
  have gt := Gadd.pins t.pins b
  have a0 := x.read
  refine xE (S := fun wz => BxR wz q [b] ∧ Pins (Gadd bo bs b) wz) (last := 18) (by kernel_rfl) rfl ?_
  have aq : Below bs.heap.size bs bs.drew := (Below.refl _ _).drew
  have gu := t.pins.below aq
  have a1 := t.step gu aq
  have bu := x.below aq
  have bv := ao.below aq
  have bw := ap.below aq
  have m := ad.below aq
  have y := gt.below aq
  refine dT (i := 0) rfl rfl (by kernel_rfl) (fun _ _ => zN (k := 0) rfl Tryd.underlying26 rfl nz24 rfl) ⟨m.reads, y⟩ ?_
  refine dT (i := 1) rfl rfl (by kernel_rfl) (fun _ hS => zQ (u := b) ag24 rfl (hS.1 0 _ rfl)) ⟨m.reads, y⟩ ?_
  refine dT (i := 2) rfl rfl (by kernel_rfl) (fun _ _ => zR (v := (vJ d)) rfl) ⟨m.reads, y⟩ ?_
  refine dT (i := 3) rfl rfl (by kernel_rfl) (fun _ _ => zN (k := 0) rfl Tryd.underlying26 rfl nz24 rfl) ⟨m.reads, y⟩ ?_
  refine dT (i := 4) rfl rfl (by kernel_rfl) (fun _ hS => zQ (u := b) ag24 rfl (hS.1 0 _ rfl)) ⟨m.reads, y⟩ ?_
  refine dT (i := 5) rfl rfl (by kernel_rfl) (fun _ _ => zR (v := (vJ d)) rfl) ⟨m.reads, y⟩ ?_
  refine dT (i := 6) rfl rfl (by kernel_rfl) (fun _ _ => zH Tryd.underlying24 sz60 (v := b) rfl rfl a0 (by omega) (by omega)) ⟨m.reads, y⟩ ?_
  refine dT (i := 7) rfl rfl (by kernel_rfl) (fun _ _ => xJ (off := 0) Tryd.underlying60 rfl rfl nz40 (z := d) (k := 0) rfl a0 (by omega) (by omega)) ⟨m.reads, y⟩ ?_
  obtain ⟨d9, cu, gv⟩ := nm_nl (x.at (z := d) (by omega) (by omega)) (j := (d).toNat) rfl
  have oa := cu.max
  refine dT (i := 8) rfl rfl (by kernel_rfl) (fun _ hS => gv ag40 rfl hS.2) ⟨m.reads, y⟩ ?_
  refine dT (i := 10) rfl rfl (by kernel_rfl) (fun _ _ => zR (v := (.pointer (some ⟨c, 0, none⟩))) rfl) ⟨m.reads, y⟩ ?_
  refine dT (i := 11) rfl rfl (by kernel_rfl) (fun _ _ => zR (v := (vJ d)) rfl) ⟨m.reads, y⟩ ?_
  refine qL (i := 9) (j := 12) (by kernel_rfl) ?_ ?_
  ·skip
   refine (zS (i := 9) rfl rfl rfl (zD rfl _) (zL (vs := [d9]) Tryd.func56 nm56 rfl rfl rfl ?_))
   refine Calls.mono (l1Own_spec a1.pins cu (by omega)) ?_
   rintro _ gw ⟨cw, ea, rfl, a9, ah⟩
   refine ⟨_, rfl, ?_⟩
   have cx := a1.tr ah
   have eb := bu.ext ah
   have ec := bv.ext ah
   have ed := bw.ext ah
   have cy := m.ext ah
   have cz := zT a9.lt bu.lt
   have c0 := zU a9.lt bv.lt
   have ee := zU a9.lt bw.lt
   have ef := zU a9.lt m.lt
   have eg : Own eInt 3 ea gw w.heap.size cw (((formG f).getD (d).toNat default).l) := a9.weaken a1.size
   have eh := y.below ah.below
   refine ⟨fun _ => ⟨cy.reads, eh⟩, ?_⟩
   refine dO (i := 12) (zS (i := 12) rfl rfl rfl (zD rfl _) (yV (E := eInt) (e := 3) [(vJ 0), (vJ d), (vJ (-1)), (vJ 1)] [0, d, (-1), 1] Tryd.underlying40 sz3 zr3 (by exact reps4 (by rfl) (by rfl) (by rfl) (by rfl)) (ones4 (by rfl) (by rfl) (by rfl) (by rfl)) rfl rfl rfl rfl (by decide) cx.pins (fun ar gx gy gz au ba => ?_)))
   have g0 := cx.step gz au
   have g1 := eb.below au
   have g2 := eg.below au
   have g3 := ec.below au
   have g4 := ed.below au
   have ei := cy.below au
   have g5 : Apart ar.ownBlock b.ownBlock := zG ba eb.lt
   have g6 : Apart ar.ownBlock cw.ownBlock := zG ba eg.lt
   have g7 : Apart ar.ownBlock (some c) := zI ba ec.lt
   have g8 : Apart ar.ownBlock (some b1) := zI ba ed.lt
   have g9 : Apart ar.ownBlock (some q) := zI ba cy.lt
   have hb : Own eInt 3 ea gx w.heap.size ar ([0, d, (-1), 1]) := gy.weaken cx.size
   have ej := eh.below au
   refine ⟨fun _ => ⟨ei.reads, ej⟩, ?_⟩
   obtain ⟨hd, bb, ek, he, bc⟩ := hb.sealed g0
   have hf := g1.moreO bb bc g5.symm
   have hg := g2.moreO bb bc g6.symm
   have hh := g3.moreO bc g7.symm
   have hk := g4.moreO bc g8.symm
   have hl := ei.moreO bc g9.symm
   refine dO (i := 13) (zS (i := 13) rfl rfl rfl (zD rfl _) (zL (vs := [(.pointer (some ⟨c, 0, none⟩)), ar]) Tryd.func57 nm57 rfl rfl rfl ?_))
   refine Calls.mono (among_spec ek.pins hh (hc.mono (Pin.le_trans (Pin.le_trans az.le ah.le) bb)) (by omega) (by omega) he (by simp)) ?_
   rintro _ ob ⟨bx, oc, od, rfl, oe, ho, og, oh, a2⟩
   refine ⟨_, rfl, ?_⟩
   have bz := ek.trans a2 (fun i hi => xB i hi)
   have hp := hf.extS a2 (notO g)
   have hq := hg.extS a2 (notO c0)
   have hr := hk.extS a2 (notOb ab)
   have el := hl.extS a2 (notOb an)
   have em := Gadd.turn ej (Pins.of_le bz.pins (Pin.le_trans ah.le bb)) a2 (notO g)
   refine ⟨fun _ => ⟨el.reads, em⟩, ?_⟩
   refine dO (i := 14) (zS (i := 14) rfl rfl rfl (zD rfl _) (yV (E := eInt) (e := 3) [(vJ bx)] [bx] Tryd.underlying40 sz3 zr3 (by exact xU (by rfl)) (yP (by rfl)) rfl rfl rfl rfl (by decide) bz.pins (fun en ht hu hv av oi => ?_)))
   have c1 := bz.step hv av
   have eo := hp.below av
   have ep := hq.below av
   have eq := ho.below av
   have er := hr.below av
   have c2 := el.below av
   have hw : Own eInt 3 hd ht w.heap.size en ([bx]) := hu.weaken bz.size
   have es := em.below av
   refine ⟨fun _ => ⟨c2.reads, es⟩, ?_⟩
   refine dO (i := 15) (zS (i := 15) rfl rfl rfl (zD rfl _) (o_append (E := eInt) (v := cw) (u := en) 8 Tryd.underlying40 ap3 (by decide) rfl rfl c1.pins ep hw.src (by first | omega | (rw [List.nil_append]; omega) | (rw [List.length_nil]; omega) | (rw [List.length_append]; omega) | (simp; done) | (simp; omega) | (simp only [List.length_cons, List.length_nil]; omega) | (simp only [List.length_append, List.length_cons, List.length_nil]; omega)) (by first | omega | (rw [List.nil_append]; omega) | (rw [List.length_nil]; omega) | (rw [List.length_append]; omega) | (simp; done) | (simp; omega) | (simp only [List.length_cons, List.length_nil]; omega) | (simp only [List.length_append, List.length_cons, List.length_nil]; omega)) (c1.size) (fun bd oj hx et a3 b0 => ?_)))
   have eu := c1.write et a3 ((zX ep))
   have hy := eo.keptA a3 cz.symm
   have hz := eq.keptA a3 c0.symm
   have h0 := er.keptA a3 ee.symm
   have b2 := c2.keptA a3 ef.symm
   have h1 : Apart b.ownBlock bd.ownBlock := zE cz.symm b0 eo.lt
   have h2 : Apart (some c) bd.ownBlock := zJ c0.symm b0 eq.lt
   have h3 : Apart (some b1) bd.ownBlock := zJ ee.symm b0 er.lt
   have h4 : Apart (some q) bd.ownBlock := zJ ef.symm b0 c2.lt
   have ok : ((((formG f).getD (d).toNat default).l) ++ ([bx])).length = (((formG f).getD (d).toNat default).l).length + 1 := List.length_append
   have c3 := Gadd.turn es (Pins.of_le eu.pins (Pin.le_trans ah.le bb)) (Ext.one et a3) (notO cz.symm)
   refine ⟨fun _ => ⟨b2.reads, c3⟩, ?_⟩
   refine dO (i := 16) (zS (i := 16) rfl rfl rfl (zD rfl _) (EO.run (zH Tryd.underlying24 sz60 (v := b) rfl rfl a0 (by omega) (by omega)) ⟨fun _ => ⟨b2.reads, c3⟩, ?_⟩))
   refine dT (i := 17) rfl rfl (by kernel_rfl) (fun _ _ => xJ (off := 0) Tryd.underlying60 rfl rfl nz40 (z := d) (k := 0) rfl a0 (by omega) (by omega)) ⟨b2.reads, c3⟩ ?_
   obtain ⟨ol, h5, ev, h6, b3⟩ := hx.sealed eu
   have ew := hy.moreO h5 b3 h1
   have h7 := hz.moreO b3 h2
   have h8 := h0.moreO b3 h3
   have h9 := b2.moreO b3 h4
   refine dO (i := 18) (qQ (i := 18) rfl rfl rfl (zD rfl _) (o_setNL (v := b) (z := d) (u := bd) sz40 rfl rfl h6 ev.pins ew (by omega) (by omega) (fun om ex ia b4 oo => ?_)))
   have ey := ev.write ia b4 ((zX ew))
   have ib := h7.keptA b4 g.symm
   have ic := h8.keptA b4 ac.symm
   have ie := h9.keptA b4 ak
   refine ⟨fun h => absurd rfl h, ?_⟩
   refine yE (by kernel_rfl) ?_
   refine zZ ?_
   refine zA (zB (zC ?_))
   refine qD rfl (yB (cs := [b]) ag26 sz26 rfl (fun j u hj => ie.cell (by simpa using hj))) ?_
   refine q0 rfl rfl rfl (xD (cs' := [b]) (us := [b]) (v := (.agg [b].toArray)) sz26 rfl rfl rfl (yP ex.one) ey.pins ic (Nat.le_of_ble_eq_true rfl) rfl (fun op ig ih c4 oq => ?_))
   have ii := ey.write ih c4 ((yM ay))
   have ij := ex.keptA c4 ac
   have ik := ib.keptA c4 ab.symm
   refine qe (zA ?_)
   refine wp_ret ?_
   refine zP ?_
   refine c_retc (cs := [b]) rfl rfl rfl ag26 sz26 (fun j u hj => by rw [Nat.zero_add]; exact ig.cell hj) ?_
   obtain ⟨os, ot, il, im, io⟩ := ij.sealed ii
   have ip := ik.moreO io g.symm
   exact ⟨_, _, _, _, _, rfl, im, ip, (by omega), (by omega), il⟩
  ·skip
   refine (zS (i := 12) rfl rfl rfl (zD rfl _) (yV (E := eInt) (e := 3) [(vJ 0), (vJ d), (vJ (-1)), (vJ 1)] [0, d, (-1), 1] Tryd.underlying40 sz3 zr3 (by exact reps4 (by rfl) (by rfl) (by rfl) (by rfl)) (ones4 (by rfl) (by rfl) (by rfl) (by rfl)) rfl rfl rfl rfl (by decide) a1.pins (fun a4 iq ir it a5 b5 => ?_)))
   have c5 := a1.step it a5
   have ez := bu.below a5
   have e0 := bv.below a5
   have e1 := bw.below a5
   have c6 := m.below a5
   have iu : Apart a4.ownBlock b.ownBlock := zG b5 bu.lt
   have iv : Apart a4.ownBlock (some c) := zI b5 bv.lt
   have iw : Apart a4.ownBlock (some b1) := zI b5 bw.lt
   have ix : Apart a4.ownBlock (some q) := zI b5 m.lt
   have e2 : Own eInt 3 bo iq w.heap.size a4 ([0, d, (-1), 1]) := ir.weaken a1.size
   have e3 := y.below a5
   refine ⟨fun _ => ⟨c6.reads, e3⟩, ?_⟩
   refine dO (i := 9) (zS (i := 9) rfl rfl rfl (zD rfl _) (zL (vs := [d9]) Tryd.func56 nm56 rfl rfl rfl ?_))
   refine Calls.mono (l1Own_spec c5.pins cu (by omega)) ?_
   rintro _ iy ⟨e4, iz, rfl, a6, ag⟩
   refine ⟨_, rfl, ?_⟩
   have i0 := c5.tr ag
   have i1 := ez.ext ag
   have i2 := e2.ext ag
   have i3 := e0.ext ag
   have i4 := e1.ext ag
   have e5 := c6.ext ag
   have c7 := zT a6.lt ez.lt
   have i5 := zT a6.lt e2.lt
   have c8 := zU a6.lt e0.lt
   have e6 := zU a6.lt e1.lt
   have e7 := zU a6.lt c6.lt
   have i6 : Own eInt 3 iz iy w.heap.size e4 (((formG f).getD (d).toNat default).l) := a6.weaken c5.size
   have e8 := e3.below ag.below
   refine ⟨fun _ => ⟨e5.reads, e8⟩, ?_⟩
   obtain ⟨i7, be, e9, i8, bf⟩ := i2.sealed i0
   have i9 := i1.moreO be bf iu.symm
   have ja := i6.moreO be bf i5
   have jb := i3.moreO bf iv.symm
   have jc := i4.moreO bf iw.symm
   have jd := e5.moreO bf ix.symm
   refine dO (i := 13) (zS (i := 13) rfl rfl rfl (zD rfl _) (zL (vs := [(.pointer (some ⟨c, 0, none⟩)), a4]) Tryd.func57 nm57 rfl rfl rfl ?_))
   refine Calls.mono (among_spec e9.pins jb (hc.mono (Pin.le_trans (Pin.le_trans az.le ag.le) be)) (by omega) (by omega) i8 (by simp)) ?_
   rintro _ ou ⟨b6, ov, ow, rfl, ox, je, oy, oz, a7⟩
   refine ⟨_, rfl, ?_⟩
   have b7 := e9.trans a7 (fun i hi => xB i hi)
   have jf := i9.extS a7 (notO g)
   have jg := ja.extS a7 (notO c8)
   have jh := jc.extS a7 (notOb ab)
   have fa := jd.extS a7 (notOb an)
   have fb := Gadd.turn e8 (Pins.of_le b7.pins (Pin.le_trans ag.le be)) a7 (notO g)
   refine ⟨fun _ => ⟨fa.reads, fb⟩, ?_⟩
   refine dO (i := 14) (zS (i := 14) rfl rfl rfl (zD rfl _) (yV (E := eInt) (e := 3) [(vJ b6)] [b6] Tryd.underlying40 sz3 zr3 (by exact xU (by rfl)) (yP (by rfl)) rfl rfl rfl rfl (by decide) b7.pins (fun fc ji jj jk aw o0 => ?_)))
   have c9 := b7.step jk aw
   have fd := jf.below aw
   have fe := jg.below aw
   have ff := je.below aw
   have fg := jh.below aw
   have da := fa.below aw
   have jl : Own eInt 3 i7 ji w.heap.size fc ([b6]) := jj.weaken b7.size
   have fh := fb.below aw
   refine ⟨fun _ => ⟨da.reads, fh⟩, ?_⟩
   refine dO (i := 15) (zS (i := 15) rfl rfl rfl (zD rfl _) (o_append (E := eInt) (v := e4) (u := fc) 8 Tryd.underlying40 ap3 (by decide) rfl rfl c9.pins fe jl.src (by first | omega | (rw [List.nil_append]; omega) | (rw [List.length_nil]; omega) | (rw [List.length_append]; omega) | (simp; done) | (simp; omega) | (simp only [List.length_cons, List.length_nil]; omega) | (simp only [List.length_append, List.length_cons, List.length_nil]; omega)) (by first | omega | (rw [List.nil_append]; omega) | (rw [List.length_nil]; omega) | (rw [List.length_append]; omega) | (simp; done) | (simp; omega) | (simp only [List.length_cons, List.length_nil]; omega) | (simp only [List.length_append, List.length_cons, List.length_nil]; omega)) (c9.size) (fun bg o1 jm fi a8 b8 => ?_)))
   have fj := c9.write fi a8 ((zX fe))
   have jn := fd.keptA a8 c7.symm
   have jo := ff.keptA a8 c8.symm
   have jp := fg.keptA a8 e6.symm
   have b9 := da.keptA a8 e7.symm
   have jq : Apart b.ownBlock bg.ownBlock := zE c7.symm b8 fd.lt
   have jr : Apart (some c) bg.ownBlock := zJ c8.symm b8 ff.lt
   have js : Apart (some b1) bg.ownBlock := zJ e6.symm b8 fg.lt
   have jt : Apart (some q) bg.ownBlock := zJ e7.symm b8 da.lt
   have o2 : ((((formG f).getD (d).toNat default).l) ++ ([b6])).length = (((formG f).getD (d).toNat default).l).length + 1 := List.length_append
   have db := Gadd.turn fh (Pins.of_le fj.pins (Pin.le_trans ag.le be)) (Ext.one fi a8) (notO c7.symm)
   refine ⟨fun _ => ⟨b9.reads, db⟩, ?_⟩
   refine dO (i := 16) (zS (i := 16) rfl rfl rfl (zD rfl _) (EO.run (zH Tryd.underlying24 sz60 (v := b) rfl rfl a0 (by omega) (by omega)) ⟨fun _ => ⟨b9.reads, db⟩, ?_⟩))
   refine dT (i := 17) rfl rfl (by kernel_rfl) (fun _ _ => xJ (off := 0) Tryd.underlying60 rfl rfl nz40 (z := d) (k := 0) rfl a0 (by omega) (by omega)) ⟨b9.reads, db⟩ ?_
   obtain ⟨o3, ju, fk, jv, ca⟩ := jm.sealed fj
   have fl := jn.moreO ju ca jq
   have jw := jo.moreO ca jr
   have jx := jp.moreO ca js
   have jy := b9.moreO ca jt
   refine dO (i := 18) (qQ (i := 18) rfl rfl rfl (zD rfl _) (o_setNL (v := b) (z := d) (u := bg) sz40 rfl rfl jv fk.pins fl (by omega) (by omega) (fun o4 fm jz cb o5 => ?_)))
   have fn := fk.write jz cb ((zX fl))
   have j0 := jw.keptA cb g.symm
   have j1 := jx.keptA cb ac.symm
   have j2 := jy.keptA cb ak
   refine ⟨fun h => absurd rfl h, ?_⟩
   refine yE (by kernel_rfl) ?_
   refine zZ ?_
   refine zA (zB (zC ?_))
   refine qD rfl (yB (cs := [b]) ag26 sz26 rfl (fun j u hj => j2.cell (by simpa using hj))) ?_
   refine q0 rfl rfl rfl (xD (cs' := [b]) (us := [b]) (v := (.agg [b].toArray)) sz26 rfl rfl rfl (yP fm.one) fn.pins j1 (Nat.le_of_ble_eq_true rfl) rfl (fun o6 j3 j4 dc o7 => ?_))
   have j5 := fn.write j4 dc ((yM ay))
   have j6 := fm.keptA dc ac
   have j7 := j0.keptA dc ab.symm
   refine qe (zA ?_)
   refine wp_ret ?_
   refine zP ?_
   refine c_retc (cs := [b]) rfl rfl rfl ag26 sz26 (fun j u hj => by rw [Nat.zero_add]; exact j3.cell hj) ?_
   obtain ⟨o8, o9, j8, j9, ka⟩ := j6.sealed j5
   have kb := j7.moreO ka g.symm
   exact ⟨_, _, _, _, _, rfl, j9, kb, (by omega), (by omega), j8⟩
 refine zB (zC ?_)
 refine qD rfl (r_eql rfl rfl) ?_
 refine qM (.bool (decide ((al : Int) = 1))) ?_
 refine qe (zA ?_)
 refine yA (p := (al : Int) = 1) rfl rfl (fun kc => ?_) (fun kc => ?_)
 ·skip
  refine zC ?_
  refine qD rfl (zN (k := 0) rfl Tryd.underlying26 rfl nz24 rfl) ?_
  refine qD rfl (zQ (u := b) ag24 rfl (ad.cell (o := 0) rfl)) ?_
  refine qI rfl (yV (E := eInt) (e := 3) [(vJ 0)] [0] Tryd.underlying40 sz3 zr3 (by exact xU (by rfl)) (yP (by rfl)) rfl rfl rfl rfl (by decide) t.pins (fun ai kd ke kf bh cc => ?_))
  have kg := t.step kf bh
  have kh := x.below bh
  have ki := ao.below bh
  have kj := ap.below bh
  have kk := ad.below bh
  have kl : Apart ai.ownBlock b.ownBlock := zG cc x.lt
  have km : Apart ai.ownBlock (some c) := zI cc ao.lt
  have kn : Apart ai.ownBlock (some b1) := zI cc ap.lt
  have ko : Apart ai.ownBlock (some q) := zI cc ad.lt
  have fo : Own eInt 3 bo kd w.heap.size ai ([0]) := ke.weaken t.size
  refine qD rfl (xX [(.slice none 0 0), (.slice none 0 0)] [(.slice none 0 0), ai] [(1, ai, [ai])] Tryd.underlying60 zr60 rfl pl60 rfl (List.forall_mem_cons.2 ⟨(xK fo.one), (fun _ h => by cases h)⟩) rfl) ?_
  obtain ⟨kp, kq, dd, kr, cd⟩ := fo.sealed kg
  have ks := kh.moreO kq cd kl.symm
  have kt := ki.moreO cd km.symm
  have ku := kj.moreO cd kn.symm
  have kv := kk.moreO cd ko.symm
  refine qI rfl (xL (E := eNode) (e := 60) [(.slice none 0 0), ai] (⟨[], [0]⟩ : Nd) Tryd.underlying24 sz60 zr60 ⟨_, _, rfl, (nil_reads _ _), kr⟩ rfl (by decide) dd.pins (fun fp kw kx ky bi pa => ?_))
  have de := dd.step ky bi
  have fq := ks.below bi
  have fr := kt.below bi
  have fs := ku.below bi
  have ft := kv.below bi
  have kz : Own eNode 60 kp kw w.heap.size fp ([(⟨[], [0]⟩ : Nd)]) := kx.weaken dd.size
  refine qI rfl (o_append (E := eNode) (v := b) (u := fp) 48 Tryd.underlying24 ap60 (by decide) rfl rfl de.pins fq kz.src (by first | omega | (rw [List.nil_append]; omega) | (rw [List.length_nil]; omega) | (rw [List.length_append]; omega) | (simp; done) | (simp; omega) | (simp only [List.length_cons, List.length_nil]; omega) | (simp only [List.length_append, List.length_cons, List.length_nil]; omega)) (by first | omega | (rw [List.nil_append]; omega) | (rw [List.length_nil]; omega) | (rw [List.length_append]; omega) | (simp; done) | (simp; omega) | (simp only [List.length_cons, List.length_nil]; omega) | (simp only [List.length_append, List.length_cons, List.length_nil]; omega)) (de.size) (fun ae pb df k0 ce dg => ?_))
  have fu := de.write k0 ce ((zX fq))
  have k1 := fr.keptA ce g.symm
  have k2 := fs.keptA ce ac.symm
  have k3 := ft.keptA ce ak
  have k4 : Apart (some c) ae.ownBlock := zJ g.symm dg fr.lt
  have k5 : Apart (some b1) ae.ownBlock := zJ ac.symm dg fs.lt
  have k6 : Apart (some q) ae.ownBlock := zJ ak dg ft.lt
  have pc : ((formG f) ++ ([(⟨[], [0]⟩ : Nd)])).length = (formG f).length + 1 := List.length_append
  refine qD rfl (zN (k := 0) rfl Tryd.underlying26 rfl nz24 rfl) ?_
  refine q0 rfl rfl rfl (xD (cs' := [ae]) (us := [ae]) (v := ae) sz24 rfl rfl (cells1 df.one) (yP df.one) fu.pins k3 (Nat.le_of_ble_eq_true rfl) rfl (fun pd k7 k8 cf pe => ?_))
  have fv := fu.write k8 cf ((yM ct))
  have fw := df.keptA cf k6.symm
  have k9 := k1.keptA cf an.symm
  have la := k2.keptA cf cr.symm
  refine qe ?_
  refine zZ ?_
  refine zA (zB (zC ?_))
  refine qD rfl (yB (cs := [ae]) ag26 sz26 rfl (fun j u hj => k7.cell (by simpa using hj))) ?_
  refine q0 rfl rfl rfl (xD (cs' := [ae]) (us := [ae]) (v := (.agg [ae].toArray)) sz26 rfl rfl rfl (yP fw.one) fv.pins la (Nat.le_of_ble_eq_true rfl) rfl (fun pf lb lc dh pg => ?_))
  have ld := fv.write lc dh ((yM ay))
  have lf := fw.keptA dh k5.symm
  have lg := k9.keptA dh ab.symm
  refine qe (zA ?_)
  refine wp_ret ?_
  refine zP ?_
  refine c_retc (cs := [ae]) rfl rfl rfl ag26 sz26 (fun j u hj => by rw [Nat.zero_add]; exact lb.cell hj) ?_
  obtain ⟨ph, pi, lh, li, lj⟩ := lf.sealed ld
  have lk := lg.moreO lj k4
  exact ⟨_, _, _, _, _, rfl, li, lk, (by omega), (by omega), lh⟩
 refine zB (zC ?_)
 refine qD rfl (r_eql rfl rfl) ?_
 refine qM (.bool (decide ((al : Int) = 2))) ?_
 refine qe (zA ?_)
 refine yA (p := (al : Int) = 2) rfl rfl (fun ll => ?_) (fun ll => ?_)
 ·skip
  refine zC ?_
  refine qD rfl (zN (k := 0) rfl Tryd.underlying26 rfl nz24 rfl) ?_
  refine qD rfl (zQ (u := b) ag24 rfl (ad.cell (o := 0) rfl)) ?_
  refine qD rfl (zN (k := 0) rfl Tryd.underlying26 rfl nz24 rfl) ?_
  refine qD rfl (zQ (u := b) ag24 rfl (ad.cell (o := 0) rfl)) ?_
  refine qD rfl (zO Tryd.underlying24 (v := b) rfl x.read) ?_
  refine qD rfl (xZ rfl rfl (by omega)) ?_
  obtain ⟨af, di, dj, lm⟩ := own_cut x ((((formG f).length : Int) - 1).toNat) (((formG f).length : Int) - 1) (by omega) rfl (by omega) (by omega)
  have ln : Apart af.ownBlock (some c) := by rw [dj]; exact g
  have lp : Apart af.ownBlock (some b1) := by rw [dj]; exact ac
  have lq : Apart (some q) af.ownBlock := by rw [dj]; exact ak
  refine qD rfl (lm Tryd.underlying24 sz60 rfl rfl rfl) ?_
  refine qD rfl (zN (k := 0) rfl Tryd.underlying26 rfl nz24 rfl) ?_
  refine q0 rfl rfl rfl (xD (cs' := [af]) (us := [af]) (v := af) sz24 rfl rfl (cells1 di.one) (yP di.one) t.pins ad (Nat.le_of_ble_eq_true rfl) rfl (fun pj lr ls cg pk => ?_))
  have fx := t.write ls cg ((yM ct))
  have fy := di.keptA cg lq.symm
  have lu := ao.keptA cg an.symm
  have lv := ap.keptA cg cr.symm
  refine qe ?_
  refine zZ ?_
  refine zA (zB (zC ?_))
  refine qD rfl (yB (cs := [af]) ag26 sz26 rfl (fun j u hj => lr.cell (by simpa using hj))) ?_
  refine q0 rfl rfl rfl (xD (cs' := [af]) (us := [af]) (v := (.agg [af].toArray)) sz26 rfl rfl rfl (yP fy.one) fx.pins lv (Nat.le_of_ble_eq_true rfl) rfl (fun pl lw lx dk pm => ?_))
  have ly := fx.write lx dk ((yM ay))
  have lz := fy.keptA dk lp
  have l0 := lu.keptA dk ab.symm
  refine qe (zA ?_)
  refine wp_ret ?_
  refine zP ?_
  refine c_retc (cs := [af]) rfl rfl rfl ag26 sz26 (fun j u hj => by rw [Nat.zero_add]; exact lw.cell hj) ?_
  obtain ⟨pn, po, l1, l2, l3⟩ := lz.sealed ly
  have l4 := l0.moreO l3 ln.symm
  exact ⟨_, _, _, _, _, rfl, l2, l4, (by omega), (by omega), l1⟩
 refine zB (zC ?_)
 refine qD rfl (r_eql rfl rfl) ?_
 refine qM (.bool (decide ((al : Int) = 3))) ?_
 refine qe (zA ?_)
 refine yA (p := (al : Int) = 3) rfl rfl (fun l5 => ?_) (fun l5 => ?_)
 ·skip
  refine zB (zC ?_)
  refine qD rfl (zN (k := 0) rfl Tryd.underlying26 rfl nz24 rfl) ?_
  refine qD rfl (zQ (u := b) ag24 rfl (ad.cell (o := 0) rfl)) ?_
  refine qD rfl (zH Tryd.underlying24 sz60 (v := b) rfl rfl x.read (by omega) (by omega)) ?_
  obtain ⟨bj, bk, dl, dm, l6⟩ := nm_node (x.at (z := 0) (by omega) (by omega)) (j := 0) rfl
  have pp := dl.max
  have pq := dm.max
  refine qD rfl (l6 ag60 sz60 rfl (Gadd.pins t.pins b)) ?_
  refine qI rfl (yX [(.slice none 0 0), (.slice none 0 0)] zr60 rfl t.pins (fun bl pr ch l7 l8 bm => ?_))
  have fz := t.step l8 bm
  have l9 := x.below bm
  have ma := ao.below bm
  have mb := ap.below bm
  have mc := ad.below bm
  have f0 : Apart (some bl) b.ownBlock := zG (congrArg some ch) x.lt
  have f1 : Apart (some bl) (some c) := zI (congrArg some ch) ao.lt
  have f2 : Apart (some bl) (some b1) := zI (congrArg some ch) ap.lt
  have f3 : Apart (some bl) (some q) := zI (congrArg some ch) ad.lt
  have f4 : w.heap.size ≤ bl := by have := t.size; omega
  refine q0 rfl rfl rfl (xD (cs' := [bj, bk]) (us := [bj, bk]) (v := (.agg [bj, bk].toArray)) sz60 rfl rfl rfl (ones2 dl.one dm.one) fz.pins l7 (Nat.le_of_ble_eq_true rfl) rfl (fun ci md me bn ps => ?_))
  have mf := fz.write me bn ((yM f4))
  have mg := l9.keptA bn f0.symm
  have mh := ma.keptA bn f1.symm
  have mi := mb.keptA bn f2.symm
  have mj := mc.keptA bn f3.symm
  obtain ⟨dn, dp, dq, mk, cj⟩ := md.shut mf f4
  have dr := mg.moreA dp cj f0.symm
  have ml := mh.moreA cj f1.symm
  have mm := mi.moreA cj f2.symm
  have mn := mj.moreA cj f3.symm
  refine qe (zA (zB ?_))
  have mo := Gadd.pins dq.pins b
  have f5 := dr.read
  refine xE (S := fun wz => BxR wz q [b] ∧ Pins (Gadd dn ci b) wz) (last := 8) (by kernel_rfl) rfl ?_
  have ax : Below ci.heap.size ci ci.drew := (Below.refl _ _).drew
  have mp := dq.pins.below ax
  have f6 := dq.step mp ax
  have f7 := dr.below ax
  have mq := ml.below ax
  have mr := mm.below ax
  have aj := mn.below ax
  have am := mo.below ax
  refine dT (i := 0) rfl rfl (by kernel_rfl) (fun _ _ => zN (k := 0) rfl Tryd.underlying26 rfl nz24 rfl) ⟨aj.reads, am⟩ ?_
  refine dT (i := 1) rfl rfl (by kernel_rfl) (fun _ hS => zQ (u := b) ag24 rfl (hS.1 0 _ rfl)) ⟨aj.reads, am⟩ ?_
  refine dT (i := 2) rfl rfl (by kernel_rfl) (fun _ _ => zN (k := 0) rfl Tryd.underlying26 rfl nz24 rfl) ⟨aj.reads, am⟩ ?_
  refine dT (i := 3) rfl rfl (by kernel_rfl) (fun _ hS => zQ (u := b) ag24 rfl (hS.1 0 _ rfl)) ⟨aj.reads, am⟩ ?_
  refine dT (i := 4) rfl rfl (by kernel_rfl) (fun _ _ => zR (v := (vJ d)) rfl) ⟨aj.reads, am⟩ ?_
  refine dT (i := 5) rfl rfl (by kernel_rfl) (fun _ _ => zH Tryd.underlying24 sz60 (v := b) rfl rfl f5 (by omega) (by omega)) ⟨aj.reads, am⟩ ?_
  obtain ⟨ms, mt, f8, f9, mu⟩ := nm_node (dr.at (z := d) (by omega) (by omega)) (j := (d).toNat) rfl
  have pt := f8.max
  have pu := f9.max
  refine dT (i := 6) rfl rfl (by kernel_rfl) (fun _ hS => mu ag60 sz60 rfl hS.2) ⟨aj.reads, am⟩ ?_
  refine dT (i := 7) rfl rfl (by kernel_rfl) (fun _ _ => zH Tryd.underlying24 sz60 (v := b) rfl rfl f5 (by omega) (by omega)) ⟨aj.reads, am⟩ ?_
  refine dO (i := 8) (qQ (i := 8) rfl rfl rfl (zD rfl _) (o_set (E := eNode) (v := b) (u := (.agg [ms, mt].toArray)) (z := 0) ((⟨((formG f).getD (d).toNat default).l, ((formG f).getD (d).toNat default).r⟩ : Nd)) sz60 rfl rfl rfl ⟨_, _, rfl, f8, f9⟩ f6.pins f7 (by omega) (by omega) (fun mv mw mx ck pv => ?_)))
  have ds := f6.write mx ck ((zX f7))
  have my := mq.keptA ck g.symm
  have mz := mr.keptA ck ac.symm
  have ga := aj.keptA ck ak
  have dt : Own eNode 60 dn mv w.heap.size b ((formG f).set 0 (⟨((formG f).getD (d).toNat default).l, ((formG f).getD (d).toNat default).r⟩ : Nd)) := mw
  have pw : ((formG f).set 0 (⟨((formG f).getD (d).toNat default).l, ((formG f).getD (d).toNat default).r⟩ : Nd)).length = (formG f).length := List.length_set ..
  refine ⟨fun h => absurd rfl h, ?_⟩
  refine yE (by kernel_rfl) ?_
  refine zA (zC ?_)
  refine qD rfl (zN (k := 0) rfl Tryd.underlying26 rfl nz24 rfl) ?_
  refine qD rfl (zQ (u := b) ag24 rfl (ga.cell (o := 0) rfl)) ?_
  refine qM (vJ d) ?_
  refine qD rfl (yB (cs := [bj, bk]) ag60 sz60 rfl (fun j u hj => ds.pins _ _ _ (mk _ _ (by simpa using hj)))) ?_
  refine qD rfl (zH Tryd.underlying24 sz60 (v := b) rfl rfl dt.read (by omega) (by omega)) ?_
  refine q0 rfl rfl rfl (o_set (E := eNode) (v := b) (u := (.agg [bj, bk].toArray)) (z := d) ((⟨((formG f).getD 0 default).l, ((formG f).getD 0 default).r⟩ : Nd)) sz60 rfl rfl rfl ⟨_, _, rfl, (dl.mono dp), (dm.mono dp)⟩ ds.pins dt (by omega) (by omega) (fun m0 m1 m2 cl px => ?_))
  have gb := ds.write m2 cl ((zX dt))
  have m3 := my.keptA cl g.symm
  have m4 := mz.keptA cl ac.symm
  have m5 := ga.keptA cl ak
  have gc : Own eNode 60 dn m0 w.heap.size b (((formG f).set 0 (⟨((formG f).getD (d).toNat default).l, ((formG f).getD (d).toNat default).r⟩ : Nd)).set (d).toNat (⟨((formG f).getD 0 default).l, ((formG f).getD 0 default).r⟩ : Nd)) := m1
  have py : (((formG f).set 0 (⟨((formG f).getD (d).toNat default).l, ((formG f).getD (d).toNat default).r⟩ : Nd)).set (d).toNat (⟨((formG f).getD 0 default).l, ((formG f).getD 0 default).r⟩ : Nd)).length = ((formG f).set 0 (⟨((formG f).getD (d).toNat default).l, ((formG f).getD (d).toNat default).r⟩ : Nd)).length := List.length_set ..
  refine qe ?_
  refine zZ ?_
  refine zA (zB (zC ?_))
  refine qD rfl (yB (cs := [b]) ag26 sz26 rfl (fun j u hj => m5.cell (by simpa using hj))) ?_
  refine q0 rfl rfl rfl (xD (cs' := [b]) (us := [b]) (v := (.agg [b].toArray)) sz26 rfl rfl rfl (yP gc.one) gb.pins m4 (Nat.le_of_ble_eq_true rfl) rfl (fun pz m6 m7 du p0 => ?_))
  have m8 := gb.write m7 du ((yM ay))
  have m9 := gc.keptA du ac
  have na := m3.keptA du ab.symm
  refine qe (zA ?_)
  refine wp_ret ?_
  refine zP ?_
  refine c_retc (cs := [b]) rfl rfl rfl ag26 sz26 (fun j u hj => by rw [Nat.zero_add]; exact m6.cell hj) ?_
  obtain ⟨p1, p2, nb, nc, nd⟩ := m9.sealed m8
  have ne := na.moreO nd g.symm
  exact ⟨_, _, _, _, _, rfl, nc, ne, (by omega), (by omega), nb⟩
 refine wp_skip ?_
 refine zZ ?_
 refine zA (zB (zC ?_))
 refine qD rfl (yB (cs := [b]) ag26 sz26 rfl (fun j u hj => ad.cell (by simpa using hj))) ?_
 refine q0 rfl rfl rfl (xD (cs' := [b]) (us := [b]) (v := (.agg [b].toArray)) sz26 rfl rfl rfl (yP x.one) t.pins ap (Nat.le_of_ble_eq_true rfl) rfl (fun p3 nf ng dv p4 => ?_))
 have nh := t.write ng dv ((yM ay))
 have ni := x.keptA dv ac
 have nj := ao.keptA dv ab.symm
 refine qe (zA ?_)
 refine wp_ret ?_
 refine zP ?_
 refine c_retc (cs := [b]) rfl rfl rfl ag26 sz26 (fun j u hj => by rw [Nat.zero_add]; exact nf.cell hj) ?_
 obtain ⟨p5, p6, nk, nl, nm⟩ := ni.sealed nh
 have nn := nj.moreO nm g.symm
 exact ⟨_, _, _, _, _, rfl, nl, nn, (by omega), (by omega), nk⟩

end DV1
end Go.Proofs.YtkfgdhanaijddaaDoor

set_option maxRecDepth 20000
set_option maxHeartbeats 2000000
namespace Go.Proofs.YtkfgdhanaijddaaDoor
namespace DV2
open Go.RowKit Go.GL Go.Proofs
open Go.Proofs.YtkfgdhanaijddaaDoor.B1
open Go.Proofs.YtkfgdhanaijddaaDoor.C1
open Go.Proofs.YtkfgdhanaijddaaDoor.D1
open Go.Proofs.YtkfgdhanaijddaaDoor.E1
open Go.Proofs.YtkfgdhanaijddaaDoor.MK1
open Go.Proofs.YtkfgdhanaijddaaDoor.DR1
open Go.Proofs.YtkfgdhanaijddaaDoor.DR2
open Go.Proofs.YtkfgdhanaijddaaDoor.DV1


theorem pl26 : (Tryd.prog.underlying 26).bind (placesD Tryd.prog) = some [(0, 1)] := by kernel_rfl
theorem pl53 : (Tryd.prog.underlying 53).bind (placesD Tryd.prog) = some [(0, 1), (1, 1), (2, 1)] := by kernel_rfl
theorem pl60 : (Tryd.prog.underlying 60).bind (placesD Tryd.prog) = some [(0, 1), (1, 1)] := by kernel_rfl





theorem drOutcomeOf_spec {w : World} {G : Pin} {v : Value} {code : List UInt8} (hP : Pins G w) (hc : RSl eByte G v code) :
  Calls Tryd.prog 13 [v].toArray w fun e w' => ∃ (g : Value) (r : List Nd) (G' : Pin), e = .returned (.agg [g].toArray) ∧ RSl eNode G' g r ∧ Ext noS G w G' w' := by
 refine zV (n := 9) Tryd.func13 Tryd.ntmps13 rfl rfl ?_
 have c : Ext noS G w G w := Ext.refl hP
 have hm := hc.max
 refine zB (zC ?_)
 refine qI rfl (yX [(.slice none 0 0)] zr26 rfl c.pins (fun k w2 ak l s t => ?_))
 have d := c.step s t
 have x : w.heap.size ≤ k := by have := c.size; omega
 refine qe (zA (zB (zC ?_)))
 refine qM v ?_
 refine qD rfl (xX [(.slice none 0 0), (.int .i64 0), (.int .u64 0)] [v, (.int .i64 0), (.int .u64 0)] [(0, v, [v])] Tryd.underlying53 zr53 rfl pl53 rfl (List.forall_mem_cons.2 ⟨(xK hc.one), (fun _ h => by cases h)⟩) rfl) ?_
 refine qI rfl (qA [v, (.int .i64 0), (.int .u64 0)] (v := (.agg [v, (.int .i64 0), (.int .u64 0)].toArray)) rfl rfl d.pins (fun a al y z aa m => ?_))
 have o := d.step aa m
 have ab := l.below m
 have ac : Apart (some a) (some k) := zI (congrArg some y) l.lt
 have ad : w.heap.size ≤ a := by have := d.size; omega
 refine qM (.pointer (some ⟨a, 0, none⟩)) ?_
 refine qe (zA (zB (zC ?_)))
 refine qM (.pointer (some ⟨a, 0, none⟩)) ?_
 refine qI rfl (zL (vs := [(.pointer (some ⟨a, 0, none⟩)), (.int .i64 4)]) Tryd.func31 nm31 rfl rfl rfl ?_)
 refine Calls.mono (anyForm_spec (n := 4) o.pins z hc (by omega) (by omega) (by omega)) ?_
 rintro _ am ⟨b, an, ao, ap, aq, rfl, f, ar, au, av, p⟩
 refine ⟨_, rfl, ?_⟩
 have q := o.trans p (fun i hi => (yM ad) i hi)
 have ae := ab.extS p (notOb ac.symm)
 have aw := f.max
 refine q0 rfl rfl rfl (xD (cs' := [b]) (us := [b]) (v := (.agg [b].toArray)) sz26 rfl rfl rfl (yP f.one) q.pins ae (Nat.le_of_ble_eq_true rfl) rfl (fun ax af ag ah ay => ?_))
 have ai := q.write ag ah ((yM x))
 refine qe (zA ?_)
 refine wp_ret ?_
 refine zP ?_
 refine c_retc (cs := [b]) rfl rfl rfl ag26 sz26 (fun j u hj => by rw [Nat.zero_add]; exact af.cell hj) ?_
 exact ⟨_, _, _, rfl, f, ai⟩

theorem vBig_spec {w : World} {G : Pin} {v : Value} {code : List UInt8} (hP : Pins G w) (hc : RSl eByte G v code) :
  Calls Tryd.prog 6 [v].toArray w fun e w' => e = .returned (.bool (decide ((65536 : Int) < (code.length : Int)))) ∧ Ext noS G w G w' := by
 refine zV (n := 6) Tryd.func6 Tryd.ntmps6 rfl rfl ?_
 have hX0 : Ext noS G w G w := Ext.refl hP
 have hm := hc.max
 refine zB (zC ?_)
 refine qM (.bool false) ?_
 refine qe (zA (zB (zC ?_)))
 refine qM v ?_
 refine qD rfl (zO Tryd.underlying22 (v := v) rfl hc) ?_
 refine qD rfl (r_gtr rfl rfl) ?_
 refine qM (.bool (decide ((65536 : Int) < (code.length : Int)))) ?_
 refine qe (zA ?_)
 refine wp_ret ?_
 refine zP ?_
 refine zM (v := (.bool (decide ((65536 : Int) < (code.length : Int))))) rfl rfl rfl ?_
 exact ⟨rfl, hX0⟩

theorem vZero_spec {w : World} {G : Pin} (hP : Pins G w) :
  Calls Tryd.prog 17 [].toArray w fun e w' => ∃ (u : Value) (G' : Pin), e = .returned (.agg [u].toArray) ∧ RSl eNode G' u zF ∧ Ext noS G w G' w' := by
 refine zV (n := 4) Tryd.func17 Tryd.ntmps17 rfl rfl ?_
 have b : Ext noS G w G w := Ext.refl hP
 refine zB (zC ?_)
 refine qI rfl (yX [(.slice none 0 0)] zr26 rfl b.pins (fun f w2 ag g m o => ?_))
 have c := b.step m o
 have p : w.heap.size ≤ f := by have := b.size; omega
 refine qe (zA (zB (zC ?_)))
 refine qD rfl (xX [(.slice none 0 0), (.slice none 0 0)] [(.slice none 0 0), (.slice none 0 0)] [] Tryd.underlying60 zr60 rfl pl60 rfl (fun _ h => by cases h) rfl) ?_
 refine qI rfl (xL (E := eNode) (e := 60) [(.slice none 0 0), (.slice none 0 0)] (⟨[], []⟩ : Nd) Tryd.underlying24 sz60 zr60 ⟨_, _, rfl, (nil_reads _ _), (nil_reads _ _)⟩ rfl (by decide) c.pins (fun a q r s i t => ?_))
 have k := c.step s i
 have x := g.below i
 have y : Apart a.ownBlock (some f) := zI t g.lt
 have d : Own eNode 60 G q w.heap.size a ([(⟨[], []⟩ : Nd)]) := r.weaken c.size
 refine qD rfl (xX [(.slice none 0 0)] [a] [(0, a, [a])] Tryd.underlying26 zr26 rfl pl26 rfl (List.forall_mem_cons.2 ⟨(xK d.one), (fun _ h => by cases h)⟩) rfl) ?_
 refine q0 rfl rfl rfl (xD (cs' := [a]) (us := [a]) (v := (.agg [a].toArray)) sz26 rfl rfl rfl (yP d.one) k.pins x (Nat.le_of_ble_eq_true rfl) rfl (fun ah z aa l ai => ?_))
 have ab := k.write aa l ((yM p))
 have ac := d.keptA l y
 refine qe (zA ?_)
 refine wp_ret ?_
 refine zP ?_
 refine c_retc (cs := [a]) rfl rfl rfl ag26 sz26 (fun j u hj => by rw [Nat.zero_add]; exact z.cell hj) ?_
 obtain ⟨aj, ak, ad, ae, al⟩ := ac.sealed ab
 exact ⟨_, _, rfl, ae, ad⟩

end DV2
end Go.Proofs.YtkfgdhanaijddaaDoor

set_option maxRecDepth 20000
set_option maxHeartbeats 2000000
namespace Go.Proofs.YtkfgdhanaijddaaDoor
namespace WN1
open Go.RowKit Go.GL Go.Proofs
open Go.Proofs.YtkfgdhanaijddaaDoor.B1
open Go.Proofs.YtkfgdhanaijddaaDoor.C1
open Go.Proofs.YtkfgdhanaijddaaDoor.D1
open Go.Proofs.YtkfgdhanaijddaaDoor.E1




theorem mk4 : (Tryd.prog.info? 4).map (fun i => (i.size, i.bytes, i.zero)) = some (1, 1, some (.bool false)) := by kernel_rfl





theorem wins_spec {w : World} {G : Pin} {v : Value} {ns : List Nd} (hP : Pins G w) (hv : RSl eNode G v ns) (hg : GoodP ns) :
  Calls Tryd.prog 32 [v].toArray w fun e w' => ∃ (u x : Value) (ls rs : List Bool) (G' : Pin), e = .returned (.tuple #[u, x]) ∧ RSl eBool G' u ls ∧ RSl eBool G' x rs ∧ FwOk winL ns ns.length ls ∧ FwOk winR ns ns.length rs ∧ Ext noS G w G' w' := by
 refine zV (n := 72) Tryd.func32 Tryd.ntmps32 rfl rfl ?_
 have a7 : Ext noS G w G w := Ext.refl hP
 have hm := hv.max
 have hlo := hg.lo
 have hhi := hg.hi
 have hoo := (good_form hg).opts
 refine zB (zC ?_)
 refine qM (.slice none 0 0) ?_
 refine qM (.slice none 0 0) ?_
 refine qe (zA (zB ?_))
 refine c_cut (fun (en : Nat → Value) (W : World) => ∃ (f : Nat → Value) (a : Value) (b : Value) (G3 : Pin), en = (upd (upd (upd (upd (upd f 0 v) 2 (.slice none 0 0)) 3 (.slice none 0 0)) 4 a) 5 b) ∧ Ext noS G w G3 W ∧ Pin.le G G3 ∧ (Own eBool 4 G3 W w.heap.size a (List.replicate ns.length false)) ∧ (Own eBool 4 G3 W w.heap.size b (List.replicate ns.length false)) ∧ (Apart a.ownBlock b.ownBlock)) ?_ ?_
 ·rintro _ w4 ⟨f, a, b, G3, rfl, bp, az, bq, br, ae⟩
  refine zA (zB (zB (zC ?_)))
  refine qM v ?_
  refine qD rfl (zO Tryd.underlying24 (v := v) rfl hv) ?_
  refine qM (vJ 0) ?_
  refine qe (zA ?_)
  refine zW ?_
  refine yL (fun (k : Nat) (en : Nat → Value) (W : World) => ∃ (f : Nat → Value) (i : Nat) (ls : List Bool) (rs : List Bool) (af : Pin), en = (upd (upd (upd (upd (upd (upd (upd f 2 (.slice none 0 0)) 3 (.slice none 0 0)) 4 a) 5 b) 18 v) 19 (vJ (ns.length : Int))) 20 (vJ (i : Int))) ∧ k = ns.length - i ∧ Ext noS G w af W ∧ Pin.le G3 af ∧ (i ≤ ns.length) ∧ (FwOk winL ns i ls) ∧ (FwOk winR ns i rs) ∧ (Own eBool 4 af W w.heap.size a (ls)) ∧ (Own eBool 4 af W w.heap.size b (rs))) _ ⟨_, 0, List.replicate ns.length false, List.replicate ns.length false, G3, (pS 20 (pS 19 (pS 18 (pS 5 (pS 4 (pS 3 (pU 2))))))), rfl, bp, Pin.le_refl _, Nat.zero_le _, (FwOk.start (by omega)), (FwOk.start (by omega)), bq, br⟩ ?_
  rintro dp _ dq ⟨f, i, ls, rs, af, rfl, dr, ag, ao, hi, hla, hlb, a0, a1⟩
  have hll := hla.len
  have hlr := hlb.len
  refine zB (zC ?_)
  refine qD rfl (yU rfl rfl) ?_
  refine qe (zA (zB ?_))
  refine yA (p := ((i : Int) : Int) < (ns.length : Int)) rfl rfl (fun bs => ?_) (fun bs => ?_)
  ·skip
   have hopt := xG hoo (show i < ns.length by omega)
   refine wp_skip ?_
   refine zA (zB ?_)
   refine zW ?_
   refine zB (zC ?_)
   refine qM (vJ (i : Int)) ?_
   refine qD rfl (zH Tryd.underlying24 sz60 (v := v) rfl rfl hv (by omega) (by omega)) ?_
   obtain ⟨ab, ac, ah, ai, bt⟩ := nm_node (hv.at (z := (i : Int)) (by omega) (by omega)) (j := i) rfl
   have ds := ah.max
   have dt := ai.max
   refine qD rfl (bt ag60 sz60 rfl (Pins.of_le ag.pins (Pin.le_trans az ao))) ?_
   refine qI rfl (yX [(.slice none 0 0), (.slice none 0 0)] zr60 rfl ag.pins (fun ap du a8 bu bv a2 => ?_))
   have a9 := ag.step bv a2
   have bw := a0.below a2
   have bx := a1.below a2
   have ba : Apart (some ap) a.ownBlock := zG (congrArg some a8) a0.lt
   have bb : Apart (some ap) b.ownBlock := zG (congrArg some a8) a1.lt
   have bc : w.heap.size ≤ ap := by have := ag.size; omega
   refine qM (vJ (i : Int)) ?_
   refine q0 rfl rfl rfl (xD (cs' := [ab, ac]) (us := [ab, ac]) (v := (.agg [ab, ac].toArray)) sz60 rfl rfl rfl (ones2 ah.one ai.one) a9.pins bu (Nat.le_of_ble_eq_true rfl) rfl (fun dv bz b0 a3 dw => ?_))
   have b1 := a9.write b0 a3 ((yM bc))
   have b2 := bw.keptA a3 ba.symm
   have b3 := bx.keptA a3 bb.symm
   obtain ⟨ad, aj, bd, be, bf⟩ := bz.shut b1 bc
   have b4 := b2.moreA aj bf ba.symm
   have b5 := b3.moreA aj bf bb.symm
   refine qe (zA (zB (zB (zC ?_))))
   refine qD rfl (zN (k := 0) rfl Tryd.underlying60 rfl nz40 rfl) ?_
   refine qD rfl (zQ (u := ab) ag40 rfl (bd.pins _ _ _ (be 0 _ rfl))) ?_
   refine qD rfl (zO Tryd.underlying40 (v := ab) rfl ah) ?_
   refine qM (vJ 0) ?_
   refine qe (zA ?_)
   refine zW ?_
   have b6 : ∀ q, q < (ns.getD i default).l.length → 0 ≤ (ns.getD i default).l.getD q 0 ∧ (ns.getD i default).l.getD q 0 < i := fun q hq => hopt.1 _ (yY hq)
   refine yL (fun (k : Nat) (en : Nat → Value) (W : World) => ∃ (f : Nat → Value) (j : Nat) (d : List Bool), en = (upd (upd (upd (upd (upd (upd (upd (upd (upd (upd (upd (upd f 2 (.slice none 0 0)) 3 (.slice none 0 0)) 4 a) 5 b) 6 (vJ (i : Int))) 7 (.pointer (some ⟨ap, 0, none⟩))) 18 v) 19 (vJ (ns.length : Int))) 20 (vJ (i : Int))) 26 ab) 27 (vJ (((ns.getD i default).l).length : Int))) 28 (vJ (j : Int))) ∧ k = (ns.getD i default).l.length - j ∧ Ext noS G w ad W ∧ (j ≤ (ns.getD i default).l.length) ∧ (d = ls.set i (anyN rs ((ns.getD i default).l.take j))) ∧ (Own eBool 4 ad W w.heap.size a (d)) ∧ (Own eBool 4 ad W w.heap.size b (rs))) _ ⟨_, 0, ls, (pS 28 (pS 27 (pS 26 (pS 20 (pS 19 (pS 18 (pS 7 (pS 6 (pS 5 (pS 4 (pS 3 (pU 2)))))))))))), rfl, bd, Nat.zero_le _, (fw_set hla (by omega)), b4, b5⟩ ?_
   rintro dx _ dy ⟨f, j, d, rfl, dz, h, d0, ak, m, al⟩
   have d1 : d.length = ns.length := by rw [ak, List.length_set]; omega
   refine zB (zC ?_)
   refine qD rfl (yU rfl rfl) ?_
   refine qe (zA (zB ?_))
   refine yA (p := ((j : Int) : Int) < (((ns.getD i default).l).length : Int)) rfl rfl (fun b7 => ?_) (fun b7 => ?_)
   ·skip
    have hoq := b6 j (by omega)
    refine wp_skip ?_
    refine zA (zB ?_)
    refine zW ?_
    refine zB (zC ?_)
    refine qD rfl (zH Tryd.underlying40 sz3 (v := ab) rfl rfl ah (by omega) (by omega)) ?_
    refine qD rfl (zK (r := ((ns.getD i default).l).getD j 0) rfl ag3 (z := (j : Int)) rfl ah (Pins.of_le h.pins (Pin.le_trans (Pin.le_trans az ao) aj)) (by omega) (by omega)) ?_
    refine qM (vJ (((ns.getD i default).l).getD j 0)) ?_
    refine qe (zA (zC ?_))
    refine qM a ?_
    refine qM (vJ (i : Int)) ?_
    refine qM a ?_
    refine qM (vJ (i : Int)) ?_
    refine qD rfl (zH Tryd.underlying55 sz4 (v := a) rfl rfl m.read (by omega) (by omega)) ?_
    refine qD rfl (yF (r := d.getD i false) rfl ag4 (z := (i : Int)) rfl m.read (Gadd.pins h.pins a) (by omega) (by omega)) ?_
    refine qM (.bool (d.getD i false)) ?_
    refine qb (t := 38) rfl (fun a4 => ?_) (fun a4 => ?_)
    ·skip
     refine qW ?_
     refine qW ?_
     refine qW ?_
     refine qW ?_
     refine qW ?_
     refine qD rfl (yT (v := (.bool true)) rfl rfl) ?_
     refine qD rfl (zH Tryd.underlying55 sz4 (v := a) rfl rfl m.read (by omega) (by omega)) ?_
     refine q0 rfl rfl rfl (o_set (E := eBool) (v := a) (u := (.bool true)) (z := (i : Int)) (true) sz4 rfl rfl rfl rfl h.pins m (by omega) (by omega) (fun d2 b8 b9 bg d3 => ?_))
     have ca := h.write b9 bg ((zX m))
     have cb := al.keptA bg ae.symm
     refine qe ?_
     refine zZ ?_
     refine zA (zC ?_)
     refine qD rfl (yJ rfl rfl (by omega)) ?_
     refine qM (vJ ((j : Int) + 1)) ?_
     refine qe ?_
     refine yC ?_
     refine ⟨_, ?_, _, rfl, _, j + 1, (d).set i true, (pS 28 (pS 27 (pS 26 (pS 20 (pS 19 (pS 18 (pS 7 (pS 6 (pS 5 (pS 4 (pS 3 (pU 2)))))))))))), rfl, ca, (by omega), (fw_next ak (by omega) (by omega) (by rw [a4]; rfl)), b8, cb⟩
     omega
    refine qN (zR (v := b) rfl) ?_
    refine qN (zR (v := (vJ (((ns.getD i default).l).getD j 0))) rfl) ?_
    refine qN (zH Tryd.underlying55 sz4 (v := b) rfl rfl al.read (by omega) (by omega)) ?_
    refine qN (yF (r := rs.getD (((ns.getD i default).l).getD j 0).toNat false) rfl ag4 (z := (((ns.getD i default).l).getD j 0)) rfl al.read (Gadd.pins h.pins b) (by omega) (by omega)) ?_
    refine qN (xW rfl) ?_
    refine qD rfl (yO (v := (.bool (!(rs.getD (((ns.getD i default).l).getD j 0).toNat false)))) rfl rfl) ?_
    refine qD rfl (zH Tryd.underlying55 sz4 (v := a) rfl rfl m.read (by omega) (by omega)) ?_
    refine q0 rfl rfl rfl (o_set (E := eBool) (v := a) (u := (.bool (!(rs.getD (((ns.getD i default).l).getD j 0).toNat false)))) (z := (i : Int)) (!(rs.getD (((ns.getD i default).l).getD j 0).toNat false)) sz4 rfl rfl rfl rfl h.pins m (by omega) (by omega) (fun d4 cc cd bh d5 => ?_))
    have ce := h.write cd bh ((zX m))
    have cf := al.keptA bh ae.symm
    refine qe ?_
    refine zZ ?_
    refine zA (zC ?_)
    refine qD rfl (yJ rfl rfl (by omega)) ?_
    refine qM (vJ ((j : Int) + 1)) ?_
    refine qe ?_
    refine yC ?_
    refine ⟨_, ?_, _, rfl, _, j + 1, (d).set i (!(rs.getD (((ns.getD i default).l).getD j 0).toNat false)), (pS 28 (pS 27 (pS 26 (pS 20 (pS 19 (pS 18 (pS 7 (pS 6 (pS 5 (pS 4 (pS 3 (pU 2)))))))))))), rfl, ce, (by omega), (fw_next ak (by omega) (by omega) (by rw [a4]; rfl)), cc, cf⟩
    omega
   refine wp_exit ?_
   refine zY ?_
   refine yH ?_
   refine yD ?_
   refine zA (zB (zC ?_))
   refine qD rfl (zN (k := 1) rfl Tryd.underlying60 rfl nz40 rfl) ?_
   refine qD rfl (zQ (u := ac) ag40 rfl (h.pins _ _ _ (be 1 _ rfl))) ?_
   refine qD rfl (zO Tryd.underlying40 (v := ac) rfl ai) ?_
   refine qM (vJ 0) ?_
   refine qe (zA ?_)
   refine zW ?_
   have cg : ∀ q, q < (ns.getD i default).r.length → 0 ≤ (ns.getD i default).r.getD q 0 ∧ (ns.getD i default).r.getD q 0 < i := fun q hq => hopt.2 _ (yY hq)
   refine yL (fun (k : Nat) (en : Nat → Value) (W : World) => ∃ (f : Nat → Value) (c : Nat) (o : List Bool), en = (upd (upd (upd (upd (upd (upd (upd (upd (upd (upd (upd f 2 (.slice none 0 0)) 3 (.slice none 0 0)) 4 a) 5 b) 6 (vJ (i : Int))) 18 v) 19 (vJ (ns.length : Int))) 20 (vJ (i : Int))) 48 ac) 49 (vJ (((ns.getD i default).r).length : Int))) 50 (vJ (c : Int))) ∧ k = (ns.getD i default).r.length - c ∧ Ext noS G w ad W ∧ (c ≤ (ns.getD i default).r.length) ∧ (o = rs.set i (anyN d ((ns.getD i default).r.take c))) ∧ (Own eBool 4 ad W w.heap.size b (o)) ∧ (Own eBool 4 ad W w.heap.size a (d))) _ ⟨_, 0, rs, (pS 50 (pS 49 (pS 48 (pS 20 (pS 19 (pS 18 (pS 6 (pS 5 (pS 4 (pS 3 (pU 2))))))))))), rfl, h, Nat.zero_le _, (fw_set hlb (by omega)), al, m⟩ ?_
   rintro d6 _ d7 ⟨f, c, o, rfl, d8, y, d9, aq, s, am⟩
   have ea : o.length = ns.length := by rw [aq, List.length_set]; omega
   refine zB (zC ?_)
   refine qD rfl (yU rfl rfl) ?_
   refine qe (zA (zB ?_))
   refine yA (p := ((c : Int) : Int) < (((ns.getD i default).r).length : Int)) rfl rfl (fun ch => ?_) (fun ch => ?_)
   ·skip
    have hoq := cg c (by omega)
    refine wp_skip ?_
    refine zA (zB ?_)
    refine zW ?_
    refine zB (zC ?_)
    refine qD rfl (zH Tryd.underlying40 sz3 (v := ac) rfl rfl ai (by omega) (by omega)) ?_
    refine qD rfl (zK (r := ((ns.getD i default).r).getD c 0) rfl ag3 (z := (c : Int)) rfl ai (Pins.of_le y.pins (Pin.le_trans (Pin.le_trans az ao) aj)) (by omega) (by omega)) ?_
    refine qM (vJ (((ns.getD i default).r).getD c 0)) ?_
    refine qe (zA (zC ?_))
    refine qM b ?_
    refine qM (vJ (i : Int)) ?_
    refine qM b ?_
    refine qM (vJ (i : Int)) ?_
    refine qD rfl (zH Tryd.underlying55 sz4 (v := b) rfl rfl s.read (by omega) (by omega)) ?_
    refine qD rfl (yF (r := o.getD i false) rfl ag4 (z := (i : Int)) rfl s.read (Gadd.pins y.pins b) (by omega) (by omega)) ?_
    refine qM (.bool (o.getD i false)) ?_
    refine qb (t := 60) rfl (fun a5 => ?_) (fun a5 => ?_)
    ·skip
     refine qW ?_
     refine qW ?_
     refine qW ?_
     refine qW ?_
     refine qW ?_
     refine qD rfl (yT (v := (.bool true)) rfl rfl) ?_
     refine qD rfl (zH Tryd.underlying55 sz4 (v := b) rfl rfl s.read (by omega) (by omega)) ?_
     refine q0 rfl rfl rfl (o_set (E := eBool) (v := b) (u := (.bool true)) (z := (i : Int)) (true) sz4 rfl rfl rfl rfl y.pins s (by omega) (by omega) (fun eb ci cj bi ec => ?_))
     have ck := y.write cj bi ((zX s))
     have cl := am.keptA bi ae
     refine qe ?_
     refine zZ ?_
     refine zA (zC ?_)
     refine qD rfl (yJ rfl rfl (by omega)) ?_
     refine qM (vJ ((c : Int) + 1)) ?_
     refine qe ?_
     refine yC ?_
     refine ⟨_, ?_, _, rfl, _, c + 1, (o).set i true, (pS 50 (pS 49 (pS 48 (pS 20 (pS 19 (pS 18 (pS 6 (pS 5 (pS 4 (pS 3 (pU 2))))))))))), rfl, ck, (by omega), (fw_next aq (by omega) (by omega) (by rw [a5]; rfl)), ci, cl⟩
     omega
    refine qN (zR (v := a) rfl) ?_
    refine qN (zR (v := (vJ (((ns.getD i default).r).getD c 0))) rfl) ?_
    refine qN (zH Tryd.underlying55 sz4 (v := a) rfl rfl am.read (by omega) (by omega)) ?_
    refine qN (yF (r := d.getD (((ns.getD i default).r).getD c 0).toNat false) rfl ag4 (z := (((ns.getD i default).r).getD c 0)) rfl am.read (Gadd.pins y.pins a) (by omega) (by omega)) ?_
    refine qN (xW rfl) ?_
    refine qD rfl (yO (v := (.bool (!(d.getD (((ns.getD i default).r).getD c 0).toNat false)))) rfl rfl) ?_
    refine qD rfl (zH Tryd.underlying55 sz4 (v := b) rfl rfl s.read (by omega) (by omega)) ?_
    refine q0 rfl rfl rfl (o_set (E := eBool) (v := b) (u := (.bool (!(d.getD (((ns.getD i default).r).getD c 0).toNat false)))) (z := (i : Int)) (!(d.getD (((ns.getD i default).r).getD c 0).toNat false)) sz4 rfl rfl rfl rfl y.pins s (by omega) (by omega) (fun ed cm cn bj ee => ?_))
    have co := y.write cn bj ((zX s))
    have cp := am.keptA bj ae
    refine qe ?_
    refine zZ ?_
    refine zA (zC ?_)
    refine qD rfl (yJ rfl rfl (by omega)) ?_
    refine qM (vJ ((c : Int) + 1)) ?_
    refine qe ?_
    refine yC ?_
    refine ⟨_, ?_, _, rfl, _, c + 1, (o).set i (!(d.getD (((ns.getD i default).r).getD c 0).toNat false)), (pS 50 (pS 49 (pS 48 (pS 20 (pS 19 (pS 18 (pS 6 (pS 5 (pS 4 (pS 3 (pU 2))))))))))), rfl, co, (by omega), (fw_next aq (by omega) (by omega) (by rw [a5]; rfl)), cm, cp⟩
    omega
   refine wp_exit ?_
   refine zY ?_
   refine yH ?_
   refine yD ?_
   refine zZ ?_
   refine zA (zC ?_)
   refine qD rfl (yJ rfl rfl (by omega)) ?_
   refine qM (vJ ((i : Int) + 1)) ?_
   refine qe ?_
   refine yC ?_
   have hja := List.take_of_length_le (show (ns.getD i default).l.length ≤ j by omega)
   have hjb := List.take_of_length_le (show (ns.getD i default).r.length ≤ c by omega)
   refine ⟨_, ?_, _, rfl, _, i + 1, d, o, ad, (pS 20 (pS 19 (pS 18 (pS 5 (pS 4 (pS 3 (pU 2))))))), rfl, y, (Pin.le_trans ao aj), (by omega), (by rw [ak, hja]; exact hla.put (by omega) (anyN_L hoo (by omega) (fun k hk => hlb.old k hk))), (by rw [aq, hjb]; exact hlb.put (by omega) (anyN_R hoo (by omega) (fun k hk => by rw [ak]; exact hla.keep hk))), am, s⟩
   omega
  refine wp_exit ?_
  refine zY ?_
  refine yH ?_
  refine yD ?_
  refine zA (zB (zC ?_))
  refine qM a ?_
  refine qM b ?_
  refine qM a ?_
  refine qM b ?_
  refine qe (zA ?_)
  refine wp_ret ?_
  refine zP ?_
  refine xV (v := a) (u := b) rfl rfl rfl rfl rfl ?_
  obtain ⟨ef, cq, cr, cs, ct⟩ := a0.sealed ag
  have cu := a1.moreO cq ct ae.symm
  obtain ⟨eg, cv, cw, cx, eh⟩ := cu.sealed cr
  have hin : i = ns.length := by omega
  rw [hin] at hla hlb
  exact ⟨_, _, _, _, _, rfl, (cs.mono cv), cx, hla, hlb, cw⟩
 ·skip
  refine xE (S := fun wz => Pins G wz) (last := 8) (by kernel_rfl) rfl ?_
  have bk : Below w.heap.size w w.drew := (Below.refl _ _).drew
  have cy := a7.pins.below bk
  have g := a7.step cy bk
  refine dM 0 v g.pins ?_
  refine dT (i := 1) rfl rfl (by kernel_rfl) (fun _ _ => zO Tryd.underlying24 (v := v) rfl hv) g.pins ?_
  refine dM 3 v g.pins ?_
  refine dT (i := 4) rfl rfl (by kernel_rfl) (fun _ _ => zO Tryd.underlying24 (v := v) rfl hv) g.pins ?_
  refine qL (i := 2) (j := 5) (by kernel_rfl) ?_ ?_
  ·skip
   refine (zS (i := 2) rfl rfl rfl (zD rfl _) (o_make (E := eBool) false 1 (.bool false) Tryd.underlying55 mk4 (fun _ => rfl) rfl rfl g.pins (by omega) (by omega) (by omega) (fun ar cz c0 c3 c4 ei => ?_)))
   have an := g.step c3 c4
   have bl : Own eBool 4 G cz w.heap.size ar (List.replicate ns.length false) := c0.weaken g.size
   have ej : (List.replicate ns.length false).length = ns.length := List.length_replicate ..
   refine ⟨fun _ => an.pins, ?_⟩
   refine dM 6 ar an.pins ?_
   refine dO (i := 5) (zS (i := 5) rfl rfl rfl (zD rfl _) (o_make (E := eBool) false 1 (.bool false) Tryd.underlying55 mk4 (fun _ => rfl) rfl rfl an.pins (by omega) (by omega) (by omega) (fun au c5 c6 c7 bm c8 => ?_)))
   have a6 := an.step c7 bm
   have c9 := bl.below bm
   have da : Apart au.ownBlock ar.ownBlock := zG c8 bl.lt
   have db : Own eBool 4 G c5 w.heap.size au (List.replicate ns.length false) := c6.weaken an.size
   have ek : (List.replicate ns.length false).length = ns.length := List.length_replicate ..
   refine ⟨fun _ => a6.pins, ?_⟩
   refine dM 7 au a6.pins ?_
   refine yE (by kernel_rfl) ?_
   exact xS ⟨_, ar, au, G, (pS 5 (pS 4 (pS 3 (pS 2 (pU 0))))), a6, (Pin.le_refl _), c9, db, da.symm⟩
  ·skip
   refine (zS (i := 5) rfl rfl rfl (zD rfl _) (o_make (E := eBool) false 1 (.bool false) Tryd.underlying55 mk4 (fun _ => rfl) rfl rfl g.pins (by omega) (by omega) (by omega) (fun av dc dd de df el => ?_)))
   have aw := g.step de df
   have bn : Own eBool 4 G dc w.heap.size av (List.replicate ns.length false) := dd.weaken g.size
   have em : (List.replicate ns.length false).length = ns.length := List.length_replicate ..
   refine ⟨fun _ => aw.pins, ?_⟩
   refine dO (i := 2) (zS (i := 2) rfl rfl rfl (zD rfl _) (o_make (E := eBool) false 1 (.bool false) Tryd.underlying55 mk4 (fun _ => rfl) rfl rfl aw.pins (by omega) (by omega) (by omega) (fun ax dg dh di bo dj => ?_)))
   have ay := aw.step di bo
   have dk := bn.below bo
   have dl : Apart ax.ownBlock av.ownBlock := zG dj bn.lt
   have dm : Own eBool 4 G dg w.heap.size ax (List.replicate ns.length false) := dh.weaken aw.size
   have eo : (List.replicate ns.length false).length = ns.length := List.length_replicate ..
   refine ⟨fun _ => ay.pins, ?_⟩
   refine dM 6 ax ay.pins ?_
   refine dM 7 av ay.pins ?_
   refine yE (by kernel_rfl) ?_
   exact xS ⟨_, ax, av, G, (pS 5 (pS 4 (pS 3 (pS 2 (pU 0))))), ay, (Pin.le_refl _), dm, dk, dl⟩

end WN1
end Go.Proofs.YtkfgdhanaijddaaDoor

set_option maxRecDepth 20000
set_option maxHeartbeats 2000000
namespace Go.Proofs.YtkfgdhanaijddaaDoor
namespace WN2
open Go.RowKit Go.GL Go.Proofs
open Go.Proofs.YtkfgdhanaijddaaDoor.B1
open Go.Proofs.YtkfgdhanaijddaaDoor.C1
open Go.Proofs.YtkfgdhanaijddaaDoor.D1
open Go.Proofs.YtkfgdhanaijddaaDoor.E1











theorem l4Wins_spec {w : World} {G : Pin} {v : Value} {ns : List Nd} (hP : Pins G w) (hv : RSl eNode G v ns) (hg : GoodP ns) :
  Calls Tryd.prog 76 [(.agg [v].toArray)].toArray w fun e w' => ∃ (u x : Value) (G' : Pin), e = .returned (.tuple #[u, x]) ∧ RSl eBool G' u (wnL ns ns.length) ∧ RSl eBool G' x (wnR ns ns.length) ∧ Ext noS G w G' w' := by
 refine zV (n := 84) Tryd.func76 Tryd.ntmps76 rfl rfl ?_
 have ae : Ext noS G w G w := Ext.refl hP
 have hm := hv.max
 have hlo := hg.lo
 have hhi := hg.hi
 have hoo := (good_form hg).opts
 refine zB (zC ?_)
 refine qI rfl (qA [v] (v := (.agg [v].toArray)) rfl rfl ae.pins (fun y w2 c1 be bf bg => ?_))
 have bh := ae.step bf bg
 have bi : w.heap.size ≤ y := by have := ae.size; omega
 obtain ⟨G9, h, af, m, c2⟩ := be.shut bh bi
 refine qM (.slice none 0 0) ?_
 refine qM (.slice none 0 0) ?_
 refine qe (zA (zB (zC ?_)))
 refine qI rfl (xH (E := eBool) (e := 4) Tryd.underlying55 sz4 af.pins (fun ab bj bk bm bn c3 => ?_))
 have ag := af.step bm bn
 have ax : Own eBool 4 G9 bj w.heap.size ab ([]) := bk.weaken af.size
 refine qI rfl (xH (E := eBool) (e := 4) Tryd.underlying55 sz4 ag.pins (fun ac bo bp bq ay bs => ?_))
 have bt := ag.step bq ay
 have bu := ax.below ay
 have bv : Apart ac.ownBlock ab.ownBlock := zG bs ax.lt
 have bw : Own eBool 4 G9 bo w.heap.size ac ([]) := bp.weaken ag.size
 refine qM ab ?_
 refine qM ac ?_
 refine qe (zA (zB (zB (zC ?_))))
 refine qM (vJ 0) ?_
 refine qe (zA ?_)
 refine zW ?_
 refine yL (fun (k : Nat) (en : Nat → Value) (W : World) => ∃ (g : Nat → Value) (i : Nat) (la : Value) (lb : Value) (b : Pin), en = (upd (upd (upd (upd (upd (upd g 1 (.pointer (some ⟨y, 0, none⟩))) 2 (.slice none 0 0)) 3 (.slice none 0 0)) 4 la) 5 lb) 6 (vJ (i : Int))) ∧ k = ns.length - i ∧ Ext noS G w b W ∧ Pin.le G9 b ∧ (i ≤ ns.length) ∧ (Own eBool 4 b W w.heap.size la (wnL ns i)) ∧ (Own eBool 4 b W w.heap.size lb (wnR ns i)) ∧ (Apart la.ownBlock lb.ownBlock)) _ ⟨_, 0, ab, ac, G9, (pS 6 (pS 5 (pS 4 (pS 3 (pS 2 (pU 1)))))), rfl, bt, Pin.le_refl _, Nat.zero_le _, bu, bw, bv.symm⟩ ?_
 rintro c4 _ c5 ⟨g, i, la, lb, b, rfl, c6, ah, c, hi, az, a0, ai⟩
 have hll := wnL_len ns i
 have hlr := wnR_len ns i
 refine zB (zB (zC ?_))
 refine qM (vJ (i : Int)) ?_
 refine qD rfl (zN (k := 0) rfl Tryd.underlying26 rfl nz24 rfl) ?_
 refine qD rfl (zQ (u := v) ag24 rfl ((Pins.of_le ah.pins c) _ _ _ (m 0 _ rfl))) ?_
 refine qD rfl (zO Tryd.underlying24 (v := v) rfl hv) ?_
 refine qD rfl (yU rfl rfl) ?_
 refine qe (zA ?_)
 refine yA (p := ((i : Int) : Int) < (ns.length : Int)) rfl rfl (fun bx => ?_) (fun bx => ?_)
 ·skip
  have hopt := xG hoo (show i < ns.length by omega)
  refine wp_skip ?_
  refine zA (zB ?_)
  refine zW ?_
  refine zB (zC ?_)
  refine qM (.bool false) ?_
  refine qM (.bool false) ?_
  refine qe (zA (zB (zB (zC ?_))))
  refine qM (vJ 0) ?_
  refine qe (zA ?_)
  refine zW ?_
  have bz : ∀ q, q < (ns.getD i default).l.length → 0 ≤ (ns.getD i default).l.getD q 0 ∧ (ns.getD i default).l.getD q 0 < i := fun q hq => hopt.1 _ (yY hq)
  refine yL (fun (k : Nat) (en : Nat → Value) (W : World) => ∃ (g : Nat → Value) (j : Nat) (bl : Bool), en = (upd (upd (upd (upd (upd (upd (upd (upd (upd g 1 (.pointer (some ⟨y, 0, none⟩))) 2 (.slice none 0 0)) 3 (.slice none 0 0)) 4 la) 5 lb) 6 (vJ (i : Int))) 7 (.bool bl)) 8 (.bool false)) 9 (vJ (j : Int))) ∧ k = (ns.getD i default).l.length - j ∧ Ext noS G w b W ∧ (j ≤ (ns.getD i default).l.length) ∧ (bl = anyN (wnR ns i) ((ns.getD i default).l.take j)) ∧ (Own eBool 4 b W w.heap.size la (wnL ns i)) ∧ (Own eBool 4 b W w.heap.size lb (wnR ns i))) _ ⟨_, 0, false, (pS 9 (pS 8 (pS 7 (pS 6 (pS 5 (pS 4 (pS 3 (pS 2 (pU 1))))))))), rfl, ah, Nat.zero_le _, rfl, az, a0⟩ ?_
  rintro c7 _ c8 ⟨g, j, bl, rfl, c9, f, da, hbl, aj, o⟩
  refine zB (zB (zC ?_))
  refine qM (vJ (j : Int)) ?_
  refine qD rfl (zN (k := 0) rfl Tryd.underlying26 rfl nz24 rfl) ?_
  refine qD rfl (zQ (u := v) ag24 rfl ((Pins.of_le f.pins c) _ _ _ (m 0 _ rfl))) ?_
  refine qM (vJ (i : Int)) ?_
  refine qD rfl (zH Tryd.underlying24 sz60 (v := v) rfl rfl hv (by omega) (by omega)) ?_
  refine qD rfl (xJ (off := 0) Tryd.underlying60 rfl rfl nz40 (z := (i : Int)) (k := 0) rfl hv (by omega) (by omega)) ?_
  obtain ⟨b0, a1, b2⟩ := nm_nl (hv.at (z := (i : Int)) (by omega) (by omega)) (j := i) rfl
  have db := a1.max
  refine qD rfl (b2 ag40 rfl (Pins.of_le f.pins (Pin.le_trans h c))) ?_
  refine qD rfl (zO Tryd.underlying40 (v := b0) rfl a1) ?_
  refine qD rfl (yU rfl rfl) ?_
  refine qe (zA ?_)
  refine yA (p := ((j : Int) : Int) < (((ns.getD i default).l).length : Int)) rfl rfl (fun b3 => ?_) (fun b3 => ?_)
  ·skip
   have hoq := bz j (by omega)
   refine wp_skip ?_
   refine zA (zB ?_)
   refine zW ?_
   refine zC ?_
   refine qM (.bool bl) ?_
   refine qM (.bool bl) ?_
   refine qb (t := 32) rfl (fun ak => ?_) (fun ak => ?_)
   ·skip
    refine qW ?_
    refine qW ?_
    refine qW ?_
    refine qW ?_
    refine qW ?_
    refine qW ?_
    refine qW ?_
    refine qW ?_
    refine qW ?_
    refine qW ?_
    refine qW ?_
    refine qW ?_
    refine qW ?_
    refine qD rfl (yT (v := (.bool true)) rfl rfl) ?_
    refine qM (.bool true) ?_
    refine qe ?_
    refine zZ ?_
    refine zA (zC ?_)
    refine qM (vJ (j : Int)) ?_
    refine qD rfl (yJ rfl rfl (by omega)) ?_
    refine qM (vJ ((j : Int) + 1)) ?_
    refine qe ?_
    refine yC ?_
    refine ⟨_, ?_, _, rfl, _, j + 1, true, (pS 9 (pS 8 (pS 7 (pS 6 (pS 5 (pS 4 (pS 3 (pS 2 (pU 1))))))))), rfl, f, (by omega), (by rw [anyN_next (by omega), ← hbl, ak]; rfl), aj, o⟩
    omega
   refine qN (zR (v := lb) rfl) ?_
   refine qN (zN (k := 0) rfl Tryd.underlying26 rfl nz24 rfl) ?_
   refine qN (zQ (u := v) ag24 rfl ((Pins.of_le f.pins c) _ _ _ (m 0 _ rfl))) ?_
   refine qN (zR (v := (vJ (i : Int))) rfl) ?_
   refine qN (zH Tryd.underlying24 sz60 (v := v) rfl rfl hv (by omega) (by omega)) ?_
   refine qN (xJ (off := 0) Tryd.underlying60 rfl rfl nz40 (z := (i : Int)) (k := 0) rfl hv (by omega) (by omega)) ?_
   obtain ⟨b4, al, b5⟩ := nm_nl (hv.at (z := (i : Int)) (by omega) (by omega)) (j := i) rfl
   have dc := al.max
   refine qN (b5 ag40 rfl (Pins.of_le f.pins (Pin.le_trans h c))) ?_
   refine qN (zR (v := (vJ (j : Int))) rfl) ?_
   refine qN (zH Tryd.underlying40 sz3 (v := b4) rfl rfl al (by omega) (by omega)) ?_
   refine qN (zK (r := ((ns.getD i default).l).getD j 0) rfl ag3 (z := (j : Int)) rfl al (Pins.of_le f.pins (Pin.le_trans h c)) (by omega) (by omega)) ?_
   refine qN (zH Tryd.underlying55 sz4 (v := lb) rfl rfl o.read (by omega) (by omega)) ?_
   refine qN (yF (r := (wnR ns i).getD (((ns.getD i default).l).getD j 0).toNat false) rfl ag4 (z := (((ns.getD i default).l).getD j 0)) rfl o.read (Gadd.pins f.pins lb) (by omega) (by omega)) ?_
   refine qN (xW rfl) ?_
   refine qD rfl (yO (v := (.bool (!((wnR ns i).getD (((ns.getD i default).l).getD j 0).toNat false)))) rfl rfl) ?_
   refine qM (.bool (!((wnR ns i).getD (((ns.getD i default).l).getD j 0).toNat false))) ?_
   refine qe ?_
   refine zZ ?_
   refine zA (zC ?_)
   refine qM (vJ (j : Int)) ?_
   refine qD rfl (yJ rfl rfl (by omega)) ?_
   refine qM (vJ ((j : Int) + 1)) ?_
   refine qe ?_
   refine yC ?_
   refine ⟨_, ?_, _, rfl, _, j + 1, !((wnR ns i).getD (((ns.getD i default).l).getD j 0).toNat false), (pS 9 (pS 8 (pS 7 (pS 6 (pS 5 (pS 4 (pS 3 (pS 2 (pU 1))))))))), rfl, f, (by omega), (by rw [anyN_next (by omega), ← hbl, ak]; rfl), aj, o⟩
   omega
  refine wp_exit ?_
  refine zY ?_
  refine yH ?_
  refine yD ?_
  refine zA (zB (zB (zC ?_)))
  refine qM (vJ 0) ?_
  refine qe (zA ?_)
  refine zW ?_
  have b6 : ∀ q, q < (ns.getD i default).r.length → 0 ≤ (ns.getD i default).r.getD q 0 ∧ (ns.getD i default).r.getD q 0 < i := fun q hq => hopt.2 _ (yY hq)
  refine yL (fun (k : Nat) (en : Nat → Value) (W : World) => ∃ (g : Nat → Value) (a : Nat) (br : Bool), en = (upd (upd (upd (upd (upd (upd (upd (upd (upd g 1 (.pointer (some ⟨y, 0, none⟩))) 2 (.slice none 0 0)) 3 (.slice none 0 0)) 4 la) 5 lb) 6 (vJ (i : Int))) 7 (.bool bl)) 8 (.bool br)) 10 (vJ (a : Int))) ∧ k = (ns.getD i default).r.length - a ∧ Ext noS G w b W ∧ (a ≤ (ns.getD i default).r.length) ∧ (br = anyN (wnL ns i) ((ns.getD i default).r.take a)) ∧ (Own eBool 4 b W w.heap.size la (wnL ns i)) ∧ (Own eBool 4 b W w.heap.size lb (wnR ns i))) _ ⟨_, 0, false, (pS 10 (pS 8 (pS 7 (pS 6 (pS 5 (pS 4 (pS 3 (pS 2 (pU 1))))))))), rfl, f, Nat.zero_le _, rfl, aj, o⟩ ?_
  rintro dd _ de ⟨g, a, br, rfl, df, d, dg, hbr, s, am⟩
  refine zB (zB (zC ?_))
  refine qM (vJ (a : Int)) ?_
  refine qD rfl (zN (k := 0) rfl Tryd.underlying26 rfl nz24 rfl) ?_
  refine qD rfl (zQ (u := v) ag24 rfl ((Pins.of_le d.pins c) _ _ _ (m 0 _ rfl))) ?_
  refine qM (vJ (i : Int)) ?_
  refine qD rfl (zH Tryd.underlying24 sz60 (v := v) rfl rfl hv (by omega) (by omega)) ?_
  refine qD rfl (xJ (off := 1) Tryd.underlying60 rfl rfl nz40 (z := (i : Int)) (k := 0) rfl hv (by omega) (by omega)) ?_
  obtain ⟨b7, a2, b8⟩ := nm_nr (hv.at (z := (i : Int)) (by omega) (by omega)) (j := i) rfl
  have dh := a2.max
  refine qD rfl (b8 ag40 rfl (Pins.of_le d.pins (Pin.le_trans h c))) ?_
  refine qD rfl (zO Tryd.underlying40 (v := b7) rfl a2) ?_
  refine qD rfl (yU rfl rfl) ?_
  refine qe (zA ?_)
  refine yA (p := ((a : Int) : Int) < (((ns.getD i default).r).length : Int)) rfl rfl (fun b9 => ?_) (fun b9 => ?_)
  ·skip
   have hoq := b6 a (by omega)
   refine wp_skip ?_
   refine zA (zB ?_)
   refine zW ?_
   refine zC ?_
   refine qM (.bool br) ?_
   refine qM (.bool br) ?_
   refine qb (t := 59) rfl (fun an => ?_) (fun an => ?_)
   ·skip
    refine qW ?_
    refine qW ?_
    refine qW ?_
    refine qW ?_
    refine qW ?_
    refine qW ?_
    refine qW ?_
    refine qW ?_
    refine qW ?_
    refine qW ?_
    refine qW ?_
    refine qW ?_
    refine qW ?_
    refine qD rfl (yT (v := (.bool true)) rfl rfl) ?_
    refine qM (.bool true) ?_
    refine qe ?_
    refine zZ ?_
    refine zA (zC ?_)
    refine qM (vJ (a : Int)) ?_
    refine qD rfl (yJ rfl rfl (by omega)) ?_
    refine qM (vJ ((a : Int) + 1)) ?_
    refine qe ?_
    refine yC ?_
    refine ⟨_, ?_, _, rfl, _, a + 1, true, (pS 10 (pS 8 (pS 7 (pS 6 (pS 5 (pS 4 (pS 3 (pS 2 (pU 1))))))))), rfl, d, (by omega), (by rw [anyN_next (by omega), ← hbr, an]; rfl), s, am⟩
    omega
   refine qN (zR (v := la) rfl) ?_
   refine qN (zN (k := 0) rfl Tryd.underlying26 rfl nz24 rfl) ?_
   refine qN (zQ (u := v) ag24 rfl ((Pins.of_le d.pins c) _ _ _ (m 0 _ rfl))) ?_
   refine qN (zR (v := (vJ (i : Int))) rfl) ?_
   refine qN (zH Tryd.underlying24 sz60 (v := v) rfl rfl hv (by omega) (by omega)) ?_
   refine qN (xJ (off := 1) Tryd.underlying60 rfl rfl nz40 (z := (i : Int)) (k := 0) rfl hv (by omega) (by omega)) ?_
   obtain ⟨ca, ao, cb⟩ := nm_nr (hv.at (z := (i : Int)) (by omega) (by omega)) (j := i) rfl
   have di := ao.max
   refine qN (cb ag40 rfl (Pins.of_le d.pins (Pin.le_trans h c))) ?_
   refine qN (zR (v := (vJ (a : Int))) rfl) ?_
   refine qN (zH Tryd.underlying40 sz3 (v := ca) rfl rfl ao (by omega) (by omega)) ?_
   refine qN (zK (r := ((ns.getD i default).r).getD a 0) rfl ag3 (z := (a : Int)) rfl ao (Pins.of_le d.pins (Pin.le_trans h c)) (by omega) (by omega)) ?_
   refine qN (zH Tryd.underlying55 sz4 (v := la) rfl rfl s.read (by omega) (by omega)) ?_
   refine qN (yF (r := (wnL ns i).getD (((ns.getD i default).r).getD a 0).toNat false) rfl ag4 (z := (((ns.getD i default).r).getD a 0)) rfl s.read (Gadd.pins d.pins la) (by omega) (by omega)) ?_
   refine qN (xW rfl) ?_
   refine qD rfl (yO (v := (.bool (!((wnL ns i).getD (((ns.getD i default).r).getD a 0).toNat false)))) rfl rfl) ?_
   refine qM (.bool (!((wnL ns i).getD (((ns.getD i default).r).getD a 0).toNat false))) ?_
   refine qe ?_
   refine zZ ?_
   refine zA (zC ?_)
   refine qM (vJ (a : Int)) ?_
   refine qD rfl (yJ rfl rfl (by omega)) ?_
   refine qM (vJ ((a : Int) + 1)) ?_
   refine qe ?_
   refine yC ?_
   refine ⟨_, ?_, _, rfl, _, a + 1, !((wnL ns i).getD (((ns.getD i default).r).getD a 0).toNat false), (pS 10 (pS 8 (pS 7 (pS 6 (pS 5 (pS 4 (pS 3 (pS 2 (pU 1))))))))), rfl, d, (by omega), (by rw [anyN_next (by omega), ← hbr, an]; rfl), s, am⟩
   omega
  refine wp_exit ?_
  refine zY ?_
  refine yH ?_
  refine yD ?_
  refine zA (zB (zC ?_))
  refine qM la ?_
  refine qM (.bool bl) ?_
  refine qI rfl (yV (E := eBool) (e := 4) [(.bool bl)] [bl] Tryd.underlying55 sz4 zr4 (by exact xU (by rfl)) (yP (by rfl)) rfl rfl rfl rfl (by decide) d.pins (fun a3 cc cd ce ap dj => ?_))
  have aq := d.step ce ap
  have a4 := s.below ap
  have a5 := am.below ap
  have cf : Own eBool 4 b cc w.heap.size a3 ([bl]) := cd.weaken d.size
  refine qI rfl (oA (E := eBool) (v := la) (u := a3) 1 Tryd.underlying55 ap4 (by decide) rfl rfl aq.pins a4 cf.src (aq.size) (fun ad dk cg ch a6 ci => ?_))
  have ar := aq.write ch a6 ((zX a4))
  have cj := a5.keptA a6 ai.symm
  have a7 : Apart lb.ownBlock ad.ownBlock := zE ai.symm ci a5.lt
  have dl : ((wnL ns i) ++ ([bl])).length = (wnL ns i).length + 1 := List.length_append
  refine qM ad ?_
  refine qe (zA (zC ?_))
  refine qM lb ?_
  refine qM (.bool br) ?_
  refine qI rfl (yV (E := eBool) (e := 4) [(.bool br)] [br] Tryd.underlying55 sz4 zr4 (by exact xU (by rfl)) (yP (by rfl)) rfl rfl rfl rfl (by decide) ar.pins (fun a8 ck cl cm au dm => ?_))
  have av := ar.step cm au
  have a9 := cj.below au
  have ba := cg.below au
  have cn : Own eBool 4 b ck w.heap.size a8 ([br]) := cl.weaken ar.size
  refine qI rfl (oA (E := eBool) (v := lb) (u := a8) 1 Tryd.underlying55 ap4 (by decide) rfl rfl av.pins a9 cn.src (av.size) (fun aw dn bb co bc cp => ?_))
  have cq := av.write co bc ((zX a9))
  have bd := ba.keptA bc a7.symm
  have cr : Apart ad.ownBlock aw.ownBlock := zE a7.symm cp ba.lt
  have dp : ((wnR ns i) ++ ([br])).length = (wnR ns i).length + 1 := List.length_append
  refine qM aw ?_
  refine qe ?_
  refine zZ ?_
  refine zA (zC ?_)
  refine qM (vJ (i : Int)) ?_
  refine qD rfl (yJ rfl rfl (by omega)) ?_
  refine qM (vJ ((i : Int) + 1)) ?_
  refine qe ?_
  refine yC ?_
  have hja := List.take_of_length_le (show (ns.getD i default).l.length ≤ j by omega)
  have hjb := List.take_of_length_le (show (ns.getD i default).r.length ≤ a by omega)
  rw [hja, anyN_L hoo (by omega) (fun k hk => wnR_at hk)] at hbl
  rw [hjb, anyN_R hoo (by omega) (fun k hk => wnL_at hk)] at hbr
  have hea : wnL ns i ++ [bl] = wnL ns (i + 1) := by rw [wnL_next, hbl]
  have heb : wnR ns i ++ [br] = wnR ns (i + 1) := by rw [wnR_next, hbr]
  rw [hea] at bd
  rw [heb] at bb
  refine ⟨_, ?_, _, rfl, _, i + 1, ad, aw, b, (pS 6 (pS 5 (pS 4 (pS 3 (pS 2 (pU 1)))))), rfl, cq, c, (by omega), bd, bb, cr⟩
  omega
 refine wp_exit ?_
 refine zY ?_
 refine yH ?_
 refine yD ?_
 refine zA (zB (zC ?_))
 refine qM la ?_
 refine qM lb ?_
 refine qM la ?_
 refine qM lb ?_
 refine qe (zA ?_)
 refine wp_ret ?_
 refine zP ?_
 refine xV (v := la) (u := lb) rfl rfl rfl rfl rfl ?_
 obtain ⟨dq, cs, ct, cu, cv⟩ := az.sealed ah
 have cw := a0.moreO cs cv ai.symm
 obtain ⟨dr, cx, cy, cz, ds⟩ := cw.sealed ct
 have hin : i = ns.length := by omega
 subst hin
 exact ⟨_, _, _, rfl, (cu.mono cx), cz, cy⟩

end WN2
end Go.Proofs.YtkfgdhanaijddaaDoor
