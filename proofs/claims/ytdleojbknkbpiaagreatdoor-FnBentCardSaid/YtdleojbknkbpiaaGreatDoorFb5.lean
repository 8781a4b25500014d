/- Texts of this claim. -/
import Derived.Test.YtdleojbknkbpiaaGreatDoorFb4
import Derived.Test.YtdleojbknkbpiaaGreatDoorChecked
set_option maxRecDepth 20000
set_option maxHeartbeats 2000000
namespace Go.Proofs.YtdleojbknkbpiaaGreatDoor
open Go.RowKit Go.GL Go.Proofs
namespace PO1
open B1 K1
theorem mk5 : (Tryz.prog.info? 5).map (fun i => (i.size, i.bytes, i.zero)) = some (1, 1, some (.int .u8 0)) := by kernel_rfl
variable {G : Pin} {v : Value} {xs : List Int} {e base : Nat}
theorem clone_spec {w : World} (hP : Pins G w) (hv : RSl eInt G v xs) (hs : xs.length ≤ 1048576) :
  Calls Tryz.prog 84 #[v] w fun e w' => ∃ (u : Value) (G' : Pin), e = .returned u ∧ Own eInt 3 G' w' w.heap.size u xs ∧ Ext noS G w G' w' := by
 refine yA (n := 8) Tryz.func84 Tryz.ntmps84 rfl rfl ?_
 have a := exr noS hP
 refine w9d ?_
 refine qM (.slice none 0 0) ?_
 refine qe (zA (w9b ?_))
 refine qM v ?_
 refine qD rfl (r_eqlNil dB hv rfl rfl) (qe (zA ?_))
 refine c_if rfl rfl (fun c => ?_) (fun c => ?_)
 refine w9d ?_
 refine qM (.slice none 0 0) ?_
 refine qe (zA ?_)
 refine cN (zQ (zS (v := .slice none 0 0) rfl rfl rfl ?_))
 have h := nil_of hv c
 subst h
 exact ⟨_, _, rfl, Own.nil _ _ _ _ _, a⟩
 refine cM (w9a ?_)
 refine qI rfl (xD (E := eInt) (e := 3) dB sz3 a.pins (fun d i j k l r => ?_))
 have b := a.step k l
 have f := j.weaken a.size
 refine qM v ?_
 refine qI rfl (oA (E := eInt) (v := d) (u := v) 8 dB ap3 (by decide) rfl rfl b.pins f ((hv.mono (cI _)).src b.pins (by decide)) (b.size) (fun g s m o p t => ?_))
 have q := b.write o p ((yG f))
 have x := la2 ([]) xs
 refine qM g ?_
 refine qe (zA ?_)
 exact cN (zQ (zS (v := g) rfl rfl rfl (⟨_, _, rfl, m, q⟩)))
theorem sortI_spec {w : World} (hP : Pins G w) (hv : Own eInt e G w base v xs) (hl : xs.length ≤ 1073741824) :
  Calls Tryz.prog 85 #[v] w fun en w' => ∃ G', en = .returned (.tuple #[]) ∧ Own eInt e G' w' base v (sortM xs) ∧ Ext (inO v.ownBlock) G w G' w' := by
 rcases nS hv with ⟨rfl, rfl⟩ | ⟨g, cap, rfl⟩
 ·refine (Tryz.slices_Sort_int_none none 0 w).mono ?_
  rintro en w' ⟨rfl, rfl⟩
  exact ⟨G, rfl, by simpa [sortM] using hv, Ext.refl hP⟩
 ·obtain ⟨_, h1, h2, h3⟩ := nR hv
  refine (Tryz.slices_Sort_int g 0 cap xs w h3 h1 (by omega)).mono ?_
  rintro en w' ⟨rfl, m, os, hw⟩
  obtain ⟨a, b, c⟩ := own_put (ys := sortM xs) hv hP hw (kT xs) (List.take_length ..)
  rw [kT] at a
  exact ⟨G, rfl, a, Ext.one b c⟩
theorem nF {w : World} (hP : Pins G w) (hv : Own eInt e G w base v xs) (hl : xs.length ≤ 1073741824) :
  Calls Tryz.prog 86 #[v] w fun en w' => ∃ (u : Value) (G' : Pin), en = .returned u ∧ Own eInt e G' w' base u (Go.Lib.compact xs) ∧ Lo w (inO v.ownBlock) u.ownBlock ∧ Ext (inO v.ownBlock) G w G' w' := by
 rcases nS hv with ⟨rfl, rfl⟩ | ⟨g, cap, rfl⟩
 ·refine (Tryz.slices_Compact_int_empty none 0 w).mono ?_
  rintro en w' ⟨rfl, rfl⟩
  exact ⟨_, G, rfl, hv, xA, Ext.refl hP⟩
 ·obtain ⟨_, h1, h2, h3⟩ := nR hv
  refine (Tryz.slices_Compact_int g 0 cap xs w h3 (by omega) h2).mono ?_
  rintro en w' ⟨rfl, m, hw⟩
  have hcl := compact_len xs
  obtain ⟨a, b, c⟩ := own_put (os := #[]) (ys := Go.Lib.compact xs) hv hP (hw.trans (Go.Sort.grow_empty _).symm) (by simp; omega) (List.take_left ..)
  exact ⟨_, G, rfl, a, xA, Ext.one b c⟩
theorem fW {w : World} (hP : Pins G w) (hv : RSl eInt G v xs) (hs : xs.length ≤ 1048576) :
  Calls Tryz.prog 81 #[v] w fun e w' => ∃ (u : Value) (G' : Pin), e = .returned u ∧ Own eInt 3 G' w' w.heap.size u (sortL xs) ∧ Ext noS G w G' w' := by
 refine yA (n := 10) Tryz.func81 Tryz.ntmps81 rfl rfl ?_
 have b := exr noS hP
 refine w9d ?_
 refine qM (.slice none 0 0) ?_
 refine qe (w9a ?_)
 refine qM v ?_
 refine qI rfl (zO (vs := [v]) Tryz.func84 nm84 rfl rfl rfl ?_)
 refine cC (clone_spec b.pins hv (by omega)) ?_
 rintro _ l ⟨a, m, rfl, o, p⟩
 refine rt9 ?_
 have f := b.tr p
 have g := o.weaken b.size
 refine qM a ?_
 refine qe (w9a ?_)
 refine qM a ?_
 refine qI rfl (zO (vs := [a]) Tryz.func85 nm85 rfl rfl rfl ?_)
 refine cC (sortI_spec f.pins g (by omega)) ?_
 rintro _ z ⟨G8, rfl, c, q⟩
 refine rt9 ?_
 have d := f.trans q (fun i hi => (yG g) i hi)
 have ab := kT xs
 refine qe (w9a ?_)
 refine qM a ?_
 refine qI rfl (zO (vs := [a]) Tryz.func86 nm86 rfl rfl rfl ?_)
 refine cC (nF d.pins (c.weaken (cH _)) (by omega)) ?_
 rintro _ ac ⟨j, ad, rfl, r, s, t⟩
 refine rt9 ?_
 have x := d.trans t (fun i hi => (yG c) i hi)
 have y := r.up (lo := w.heap.size) (fun k hk => (s k hk).elim (fun h => cP d.size h) (fun h => (c.lt k h).1))
 refine qM j ?_
 refine qe (zA ?_)
 exact cN (zQ (zS (v := j) rfl rfl rfl (⟨_, _, rfl, (by rw [← distinct_eq]; simpa using y), x⟩)))
theorem node_spec {w : World} {p : Nat} {L R B : Value} {mm : PM} {q : PSt} (hP : Pins G w) (hpk : Pk 40 3 G w p L R B mm q) (hok : PoolOk q) {x y : Value} {ys : List Int} (hx : RSl eInt G x xs) (hy : RSl eInt G y ys) (hlim : q.ns.length + 1 ≤ 1048576) (hls : xs.length ≤ 1048576 ∧ ys.length ≤ 1048576) (hk1 : ∀ i, i < xs.length → 0 ≤ xs.getD i 0 ∧ xs.getD i 0 < q.ns.length) (hk2 : ∀ i, i < ys.length → 0 ≤ ys.getD i 0 ∧ ys.getD i 0 < q.ns.length) :
  Calls Tryz.prog 75 #[vP p, x, y] w fun e w' => ∃ (z : Int) (L' R' B' : Value) (q' : PSt) (G' : Pin), e = .returned (vJ z) ∧ Pk 40 3 G' w' p L' R' B' mm q' ∧ PoolOk q' ∧ PX q q' ∧ PLo w p L R B mm L' R' B' ∧ Ext (inP p L R B mm) G w G' w' ∧ PlaceOk q' z ∧ pd q' z = mkG (xs.map (pd q)) (ys.map (pd q)) ∧ q'.ns.length ≤ q.ns.length + 1 ∧ (q'.cm = q.cm ∧ (q'.ns.length = q.ns.length ∨ z = q.ns.length)) := by
 refine yA (n := 130) Tryz.func75 Tryz.ntmps75 rfl rfl ?_
 have cc := exr (inP p L R B mm) hP
 have hpin : PIn w (inP p L R B mm) p L R B mm := PIn.self
 have lf := pkl q
 have lg := pkb hok
 obtain ⟨d, ao⟩ : ∃ l, l = sortL xs := ⟨_, rfl⟩
 obtain ⟨g, ap⟩ : ∃ l, l = sortL ys := ⟨_, rfl⟩
 have bl := rA hk1
 have cd := rA hk2
 rw [← ao] at bl
 rw [← ap] at cd
 have lh : d.length ≤ 1048576 := by rw [ao]; exact cP jG hls.1
 have li : g.length ≤ 1048576 := by rw [ap]; exact cP jG hls.2
 refine w9d ?_
 refine qM (vJ 0) ?_
 refine qe (w9a ?_)
 refine qM x ?_
 refine qI rfl (zO (vs := [x]) Tryz.func81 nm81 rfl rfl rfl ?_)
 refine cC (fW cc.pins hx (by omega)) ?_
 rintro _ w5 ⟨t, G4, rfl, ce, cf⟩
 refine rt9 ?_
 rw [← ao] at ce
 have cg := cc.tr cf
 have dh := hpk.ext cf
 have bo := hpk.new (x := t.ownBlock) (fun k hk => (ce.lt k hk).1)
 have di := ce.weaken cc.size
 refine qM y ?_
 refine qI rfl (zO (vs := [y]) Tryz.func81 nm81 rfl rfl rfl ?_)
 refine cC (fW cg.pins (hy.mono cf.le) (by omega)) ?_
 rintro _ gt ⟨aa, bp, rfl, bq, ch⟩
 refine rt9 ?_
 rw [← ap] at bq
 have ci := cg.tr ch
 have cj := di.ext ch
 have dj := dh.ext ch
 have gu := zT bq.lt di.lt
 have a0 := dh.new (x := aa.ownBlock) (fun k hk => (bq.lt k hk).1)
 have ck := bq.weaken cg.size
 refine qM t ?_
 refine qM aa ?_
 refine qe (w9a ?_)
 refine qM t ?_
 refine qD rfl (run_len dB (v := t) rfl cj.read) (qM aa ?_)
 refine qD rfl (run_len dB (v := aa) rfl ck.read) (qD rfl (yP rfl rfl (by omega)) (qD rfl (r_mul rfl rfl (by omega)) (qD rfl (yP rfl rfl (by omega)) (qI rfl (o_make0 (E := eByte) dN mk5 rfl rfl ci.pins (by omega) (by omega) (by omega) (fun br gv gw dk bt cl => ?_))))))
 have gx := ci.step dk bt
 have dl := cj.below bt
 have gy := ck.below bt
 have gz := dj.below bt dk
 have g0 := zL cl cj.lt
 have g1 := zL cl ck.lt
 have g2 := dj.new (x := br.ownBlock) (fun k hk => by rw [cl] at hk; cases hk; exact cG _)
 have g3 := gw.weaken ci.size
 refine qM br ?_
 refine qe (w9a ?_)
 refine qM (vJ 0) ?_
 refine qe (zA (w9b ?_))
 refine qM t ?_
 refine qD rfl (run_len dB (v := t) rfl dl.read) (qM (vJ 0) ?_)
 refine qe (zA ?_)
 refine zX (yO (fun k en W => ∃ (a8 : Nat → Value) (i : Nat) (kva : Value) (kxa : List UInt8) (bn : Int) (GLa : Pin), en = (upd (upd (upd (upd (upd (upd (upd (upd (upd a8 0 (vP p)) 1 t) 2 aa) 6 (vJ 0)) 7 kva) 8 (vJ bn)) 28 t) 29 (vJ (d.length : Int))) 30 (vJ (i : Int))) ∧ k = d.length - i ∧ Ext (inP p L R B mm) G w GLa W ∧ Pin.le bp GLa ∧ (i ≤ d.length) ∧ (kxa = keyL (d.take i)) ∧ (bn = bornOf q.bs (d.take i) 0) ∧ (0 ≤ bn ∧ bn ≤ q.ns.length) ∧ (Own eByte 5 GLa W w.heap.size kva (kxa)) ∧ (Own eInt 3 GLa W w.heap.size t (d)) ∧ (Own eInt 3 GLa W w.heap.size aa (g)) ∧ (Apart kva.ownBlock t.ownBlock) ∧ (Apart kva.ownBlock aa.ownBlock) ∧ (Pk 40 3 GLa W p L R B mm q) ∧ (NP p L R B mm kva.ownBlock)) _ ⟨_, 0, br, [], 0, bp, (pS 30 (pS 29 (pS 28 (pS 8 (pS 7 (pS 6 (pS 2 (pS 1 (pU 0))))))))), rfl, gx, cI _, cH _, (by simp [keyL]), rfl, (by omega), g3, dl, gy, g0, g1, gz, g2⟩ ?_)
 rintro lj _ lk ⟨a8, i, kva, kxa, bn, GLa, rfl, lm, au, g4, hji, hka, hbbn, hlbn, bu, a9, cn, bv, bw, co, bz⟩
 have hkla : kxa.length ≤ 117440640 := by
  have := tK (j := i) bl hok.ar.ok.lim
  rw [hka]; omega
 refine w9d ?_
 refine qD rfl (yR rfl rfl) (qe (zA (zB ?_)))
 refine yE (p := ((i : Int) : Int) < (d.length : Int)) rfl rfl (fun g5 => ?_) (fun g5 => ?_)
 have hki := bl i (by omega)
 have hbk := hok.ar.ok.born (d.getD i 0).toNat (by omega)
 have g6 := dig13 (n := (d.getD i 0).toNat) (by omega)
 refine cM (zA (zB ?_))
 refine zX (w9d ?_)
 refine qD rfl (zI dB sz3 (v := t) rfl rfl a9.read (by omega) (by omega)) (qD rfl (zN (r := d.getD i 0) rfl ag3 (z := (i : Int)) rfl a9.read (cK au.pins t) (by omega) (by omega)) (qM (vJ (d.getD i 0)) ?_))
 refine qe (w9a ?_)
 refine qM kva ?_
 refine qM (vJ (d.getD i 0)) ?_
 refine qI rfl (zO (vs := [kva, vJ (d.getD i 0), vJ 36]) Tryz.func82 nm82 rfl rfl rfl ?_)
 refine cC (fK (i := d.getD i 0) au.pins (bu.weaken (cH _)) (by omega) (by omega)) ?_
 rintro _ ln ⟨cp, dm, rfl, g7, b0, ba⟩
 refine rt9 ?_
 have dn := np_turn bz co b0
 have cq := au.trans ba (fun i hi => (yG bu) i hi)
 have g8 := a9.extS ba (notO bv.symm)
 have g9 := cn.extS ba (notO bw.symm)
 have ha := co.extS ba (fun k hk hx => bz k hx hk)
 have dp : Apart t.ownBlock cp.ownBlock := rQ b0 bv.symm (jE a9)
 have dq : Apart aa.ownBlock cp.ownBlock := rQ b0 bw.symm (jE cn)
 have hc := g7.up (lo := w.heap.size) (fun k hk => (b0 k hk).elim (fun h => cP au.size h) (fun h => (bu.lt k h).1))
 have lq := la2 kxa (dig36 (d.getD i 0).toNat)
 refine qI rfl (yX (E := eByte) (e := 5) [.int .u8 44] [44] dN sz5 zr5 (by exact qG (by rfl)) (yF (by rfl)) rfl rfl rfl rfl (by decide) cq.pins (fun dr hd he ds bb ls => ?_))
 have cr := cq.step ds bb
 have dt := g8.below bb
 have du := g9.below bb
 have dv := hc.below bb
 have dw := ha.below bb ds
 have hf := he.weaken cq.size
 refine qI rfl (oA (E := eByte) (v := cp) (u := dr) 1 dN ap5 (by decide) rfl rfl cr.pins dv hf.src (cr.size) (fun dx lu hg dy b1 cs => ?_))
 have dz := cr.write dy b1 ((yG dv))
 have hh := dt.keptA b1 dp
 have hj := du.keptA b1 dq
 have b2 := dw.kept b1 dy dn
 have hm := zJ dp cs dt.lt
 have hn := zJ dq cs du.lt
 have ho := pW dn dw cs
 have lv := la1 (kxa ++ dig36 (d.getD i 0).toNat) 44
 refine qM dx ?_
 refine qe (zA (zC ?_))
 refine qM (vJ bn) ?_
 refine qM (vP p) ?_
 refine qD rfl (yU rfl) (qD rfl (zK (k := 2) rfl dL rfl nz40 rfl) (qD rfl (zM (u := B) ag40 rfl (b2.bx.cell (o := 2) rfl)) (qM (vJ (d.getD i 0)) ?_)))
 refine qD rfl (zI dB sz3 (v := B) rfl rfl b2.ob.read (by omega) (by omega)) (qD rfl (zN (r := q.bs.getD (d.getD i 0).toNat 0) rfl ag3 (z := d.getD i 0) rfl b2.ob.read (cK dz.pins B) (by omega) (by omega)) (qD rfl (yP rfl rfl (by omega)) (qD rfl (r_max rfl rfl) (qM (vJ (max bn ((q.bs.getD (d.getD i 0).toNat 0) + 1))) ?_))))
 refine qe (w9c ?_)
 refine qD rfl (yP rfl rfl (by omega)) (qM (vJ ((i : Int) + 1)) ?_)
 refine qe (yK (⟨_, ?_, _, rfl, _, i + 1, dx, (kxa ++ dig36 (d.getD i 0).toNat) ++ ([44]), max bn ((q.bs.getD (d.getD i 0).toNat 0) + 1), dm, (pS 30 (pS 29 (pS 28 (pS 8 (pS 7 (pS 6 (pS 2 (pS 1 (pU 0))))))))), rfl, dz, (cA g4 ba.le), (by omega), (by rw [key_next (by omega), hka]), (by rw [hbbn, fS (by omega)]), (by omega), hg, hh, hj, hm.symm, hn.symm, b2, ho⟩))
 omega
 refine cO (zZ (yM (yL (w9a ?_))))
 refine qM kva ?_
 refine qI rfl (yX (E := eByte) (e := 5) [.int .u8 124] [124] dN sz5 zr5 (by exact qG (by rfl)) (yF (by rfl)) rfl rfl rfl rfl (by decide) au.pins (fun d0 hq hs d1 bc lw => ?_))
 have ct := au.step d1 bc
 have d2 := bu.below bc
 have d3 := a9.below bc
 have d4 := cn.below bc
 have d5 := co.below bc d1
 have ht := hs.weaken au.size
 refine qI rfl (oA (E := eByte) (v := kva) (u := d0) 1 dN ap5 (by decide) rfl rfl ct.pins d2 ht.src (ct.size) (fun d6 lx hu d7 b3 cu => ?_))
 have hv := ct.write d7 b3 ((yG d2))
 have hw := d3.keptA b3 bv.symm
 have d8 := d4.keptA b3 bw.symm
 have h0 := d5.kept b3 d7 bz
 have h1 := zJ bv.symm cu d3.lt
 have h3 := zJ bw.symm cu d4.lt
 have h4 := pW bz d5 cu
 have ly := la1 kxa 124
 refine qM d6 ?_
 refine qe (zA (w9b ?_))
 rw [qZ (by omega)] at hka hbbn
 have hkk : keyL d ++ [124] = kxa ++ [124] := by rw [hka]
 refine qM aa ?_
 refine qD rfl (run_len dB (v := aa) rfl d8.read) (qM (vJ 0) ?_)
 refine qe (zA ?_)
 refine zX (yO (fun k en W => ∃ (a8 : Nat → Value) (m : Nat) (kvb : Value) (kxb : List UInt8) (bm : Int) (GLb : Pin), en = (upd (upd (upd (upd (upd (upd (upd (upd (upd a8 0 (vP p)) 1 t) 2 aa) 6 (vJ 0)) 7 kvb) 8 (vJ bm)) 53 aa) 54 (vJ (g.length : Int))) 55 (vJ (m : Int))) ∧ k = g.length - m ∧ Ext (inP p L R B mm) G w GLb W ∧ Pin.le GLa GLb ∧ (m ≤ g.length) ∧ (kxb = keyL d ++ [124] ++ keyL (g.take m)) ∧ (bm = bornOf q.bs (g.take m) bn) ∧ (0 ≤ bm ∧ bm ≤ q.ns.length) ∧ (Own eByte 5 GLb W w.heap.size kvb (kxb)) ∧ (Own eInt 3 GLb W w.heap.size t (d)) ∧ (Own eInt 3 GLb W w.heap.size aa (g)) ∧ (Apart kvb.ownBlock t.ownBlock) ∧ (Apart kvb.ownBlock aa.ownBlock) ∧ (Pk 40 3 GLb W p L R B mm q) ∧ (NP p L R B mm kvb.ownBlock)) _ ⟨_, 0, d6, kxa ++ ([124]), bn, GLa, (pS 55 (pS 54 (pS 53 (pS 8 (pS 7 (pS 6 (pS 2 (pS 1 (pU 0))))))))), rfl, hv, cI _, cH _, (by rw [← hkk]; simp [keyL]), rfl, (by omega), hu, hw, d8, h1.symm, h3.symm, h0, h4⟩ ?_)
 rintro lz _ aq ⟨a8, m, kvb, kxb, bm, GLb, rfl, l0, av, h5, l1, hkb, hbbm, hlbm, bd, cv, be, d9, ea, cw, eb⟩
 have hklb : kxb.length ≤ 117440640 := by
  have := tK (j := m) cd hok.ar.ok.lim
  have h2 := tK (j := d.length) bl hok.ar.ok.lim; rw [hkb, List.length_append, List.length_append]; simp only [List.length_cons, List.length_nil]; rw [qZ (cG _)] at h2; omega
 refine w9d ?_
 refine qD rfl (yR rfl rfl) (qe (zA (zB ?_)))
 refine yE (p := ((m : Int) : Int) < (g.length : Int)) rfl rfl (fun h7 => ?_) (fun h7 => ?_)
 have hki := cd m (by omega)
 have hbk := hok.ar.ok.born (g.getD m 0).toNat (by omega)
 have g6 := dig13 (n := (g.getD m 0).toNat) (by omega)
 refine cM (zA (zB ?_))
 refine zX (w9d ?_)
 refine qD rfl (zI dB sz3 (v := aa) rfl rfl be.read (by omega) (by omega)) (qD rfl (zN (r := g.getD m 0) rfl ag3 (z := (m : Int)) rfl be.read (cK av.pins aa) (by omega) (by omega)) (qM (vJ (g.getD m 0)) ?_))
 refine qe (w9a ?_)
 refine qM kvb ?_
 refine qM (vJ (g.getD m 0)) ?_
 refine qI rfl (zO (vs := [kvb, vJ (g.getD m 0), vJ 36]) Tryz.func82 nm82 rfl rfl rfl ?_)
 refine cC (fK (i := g.getD m 0) av.pins (bd.weaken (cH _)) (by omega) (by omega)) ?_
 rintro _ l2 ⟨cx, ec, rfl, h8, b4, bf⟩
 refine rt9 ?_
 have ed := np_turn eb cw b4
 have cy := av.trans bf (fun i hi => (yG bd) i hi)
 have h9 := cv.extS bf (notO d9.symm)
 have ia := be.extS bf (notO ea.symm)
 have ib := cw.extS bf (fun k hk hx => eb k hx hk)
 have ee : Apart t.ownBlock cx.ownBlock := rQ b4 d9.symm (jE cv)
 have eg : Apart aa.ownBlock cx.ownBlock := rQ b4 ea.symm (jE be)
 have ic := h8.up (lo := w.heap.size) (fun k hk => (b4 k hk).elim (fun h => cP av.size h) (fun h => (bd.lt k h).1))
 have l3 := la2 kxb (dig36 (g.getD m 0).toNat)
 refine qI rfl (yX (E := eByte) (e := 5) [.int .u8 44] [44] dN sz5 zr5 (by exact qG (by rfl)) (yF (by rfl)) rfl rfl rfl rfl (by decide) cy.pins (fun eh ie ig ei bg l4 => ?_))
 have cz := cy.step ei bg
 have ej := h9.below bg
 have ek := ia.below bg
 have em := ic.below bg
 have eo := ib.below bg ei
 have ih := ig.weaken cy.size
 refine qI rfl (oA (E := eByte) (v := cx) (u := eh) 1 dN ap5 (by decide) rfl rfl cz.pins em ih.src (cz.size) (fun ep l5 ii eq b5 c0 => ?_))
 have es := cz.write eq b5 ((yG em))
 have ij := ej.keptA b5 ee
 have ik := ek.keptA b5 eg
 have b6 := eo.kept b5 eq ed
 have il := zJ ee c0 ej.lt
 have im := zJ eg c0 ek.lt
 have io := pW ed eo c0
 have l6 := la1 (kxb ++ dig36 (g.getD m 0).toNat) 44
 refine qM ep ?_
 refine qe (zA (zC ?_))
 refine qM (vJ bm) ?_
 refine qM (vP p) ?_
 refine qD rfl (yU rfl) (qD rfl (zK (k := 2) rfl dL rfl nz40 rfl) (qD rfl (zM (u := B) ag40 rfl (b6.bx.cell (o := 2) rfl)) (qM (vJ (g.getD m 0)) ?_)))
 refine qD rfl (zI dB sz3 (v := B) rfl rfl b6.ob.read (by omega) (by omega)) (qD rfl (zN (r := q.bs.getD (g.getD m 0).toNat 0) rfl ag3 (z := g.getD m 0) rfl b6.ob.read (cK es.pins B) (by omega) (by omega)) (qD rfl (yP rfl rfl (by omega)) (qD rfl (r_max rfl rfl) (qM (vJ (max bm ((q.bs.getD (g.getD m 0).toNat 0) + 1))) ?_))))
 refine qe (w9c ?_)
 refine qD rfl (yP rfl rfl (by omega)) (qM (vJ ((m : Int) + 1)) ?_)
 refine qe (yK (⟨_, ?_, _, rfl, _, m + 1, ep, (kxb ++ dig36 (g.getD m 0).toNat) ++ ([44]), max bm ((q.bs.getD (g.getD m 0).toNat 0) + 1), ec, (pS 55 (pS 54 (pS 53 (pS 8 (pS 7 (pS 6 (pS 2 (pS 1 (pU 0))))))))), rfl, es, (cA h5 bf.le), (by omega), (by rw [key_next (by omega), hkb]; simp only [List.append_assoc]), (by rw [hbbm, fS (by omega)]), (by omega), ii, ij, ik, il.symm, im.symm, b6, io⟩))
 omega
 refine cO (zZ (yM (yL (zA (zB (zB ?_))))))
 rw [qZ (by omega)] at hkb hbbm
 have hkey : kxb = keyN d g := by rw [hkb]; rfl
 have ip := cK av.pins kvb
 have l7 := bd.read
 refine yQ (S := fun wz => BxR wz p [L, R, B, .map (some mm.f), .map (some mm.o), .map (some mm.c), .map (some mm.s), .map (some mm.n)] ∧ Pins (Gadd GLb aq kvb) wz) (last := 12) (by kernel_rfl) rfl ?_
 have aw := bdr aq
 have et := av.pins.below aw
 have bh := av.step et aw
 have c1 := bd.below aw
 have iq := cv.below aw
 have ir := be.below aw
 have a := cw.below aw et
 have ac := ip.below aw
 refine dT (i := 0) rfl rfl (by kernel_rfl) (fun _ _ => zU (v := vP p) rfl) ⟨a.bx.reads, ac⟩ ?_
 refine dT (i := 1) rfl rfl (by kernel_rfl) (fun _ _ => yU rfl) ⟨a.bx.reads, ac⟩ ?_
 refine dT (i := 2) rfl rfl (by kernel_rfl) (fun _ _ => zK (k := 3) rfl dL rfl nz94 rfl) ⟨a.bx.reads, ac⟩ ?_
 refine dT (i := 3) rfl rfl (by kernel_rfl) (fun _ hS => zM (u := .map (some mm.f)) ag94 rfl (hS.1 3 _ rfl)) ⟨a.bx.reads, ac⟩ ?_
 refine dT (i := 4) rfl rfl (by kernel_rfl) (fun _ _ => zU (v := kvb) rfl) ⟨a.bx.reads, ac⟩ ?_
 refine dP (i := 5) rfl rfl (EO.run (r_b2s dN Tryz.underlying5 dZ rfl c1.read (cK bh.pins kvb)) ?_)
 refine ⟨fun _ => ⟨a.bx.reads, ac⟩, ?_⟩
 refine dP (i := 6) rfl rfl (EO.run (mW (k := b2s kxb) (key_str dZ) Tryz.underlying94 zr3 a.ff rfl rfl) ?_)
 refine ⟨fun _ => ⟨a.bx.reads, ac⟩, ?_⟩
 refine dT (i := 7) rfl rfl (by kernel_rfl) (fun _ _ => zU (v := .tuple #[vJ ((Go.GL.look q.fl (b2s kxb)).getD 0), .bool ((Go.GL.look q.fl (b2s kxb)).isSome)]) rfl) ⟨a.bx.reads, ac⟩ ?_
 refine dT (i := 8) rfl rfl (by kernel_rfl) (fun _ _ => yV (v := vJ ((Go.GL.look q.fl (b2s kxb)).getD 0)) rfl rfl) ⟨a.bx.reads, ac⟩ ?_
 refine dT (i := 9) rfl rfl (by kernel_rfl) (fun _ _ => yV (v := .bool ((Go.GL.look q.fl (b2s kxb)).isSome)) rfl rfl) ⟨a.bx.reads, ac⟩ ?_
 refine dT (i := 10) rfl rfl (by kernel_rfl) (fun _ _ => jB (v := vJ ((Go.GL.look q.fl (b2s kxb)).getD 0)) rfl) ⟨a.bx.reads, ac⟩ ?_
 refine dT (i := 11) rfl rfl (by kernel_rfl) (fun _ _ => jB (v := .bool ((Go.GL.look q.fl (b2s kxb)).isSome)) rfl) ⟨a.bx.reads, ac⟩ ?_
 refine zY (by kernel_rfl) (w9a ?_)
 refine qM (.bool ((Go.GL.look q.fl (b2s kxb)).isSome)) ?_
 refine qe (zA ?_)
 refine c_if rfl rfl (fun c2 => ?_) (fun c2 => ?_)
 refine w9d ?_
 refine qM (vJ ((Go.GL.look q.fl (b2s kxb)).getD 0)) ?_
 refine qM (vJ ((Go.GL.look q.fl (b2s kxb)).getD 0)) ?_
 refine qe (zA ?_)
 refine cN (zQ (zS (v := vJ ((Go.GL.look q.fl (b2s kxb)).getD 0)) rfl rfl rfl ?_))
 obtain ⟨z, hz⟩ := Option.isSome_iff_exists.1 c2
 have hlk := hz
 rw [hkey, ao, ap] at hlk
 obtain ⟨f1, f2⟩ := lookF hok hk1 hk2 hlk
 rw [hz]
 exact ⟨z, L, R, B, q, GLb, rfl, a, hok, (PX.refl _), PIn.lo hpin rfl, bh, f1, f2, by omega, rfl, cE rfl⟩
 refine cM (w9a ?_)
 refine qM (vP p) ?_
 refine qD rfl (yU rfl) (qD rfl (zK (k := 2) rfl dL rfl nz40 rfl) (qD rfl (zM (u := B) ag40 rfl (a.bx.cell (o := 2) rfl)) (qD rfl (run_len dB (v := B) rfl a.ob.read) (qM (vJ (q.bs.length : Int)) ?_))))
 refine qe (zA (zB ?_))
 have hnone : Go.GL.look q.fl (b2s kxb) = none := by simpa using c2
 rw [hkey, ao, ap] at hnone
 have hadd := hok.add (b := bm) hlim hls hk1 hk2 hnone (by rw [hbbm, hbbn, ao, ap])
 have iv := cK bh.pins kvb
 have l8 := c1.read
 refine yQ (S := fun wz => BxR wz p [L, R, B, .map (some mm.f), .map (some mm.o), .map (some mm.c), .map (some mm.s), .map (some mm.n)] ∧ Pins (Gadd GLb aq.drew kvb) wz) (last := 7) (by kernel_rfl) rfl ?_
 have ab : Below aq.drew.heap.size aq.drew aq.drew.drew := (Below.refl _ _).drew
 have iw := bh.pins.below ab
 have c3 := bh.step iw ab
 have ix := c1.below ab
 have eu := iq.below ab
 have ev := ir.below ab
 have ew := a.ol.below ab
 have ex := a.rr.below ab
 have ey := a.ob.below ab
 have aj := a.bx.below ab
 have ax := a.ff.below ab
 have iy := a.fo.below ab
 have iz := a.fc.below ab
 have i0 := a.fs.below ab
 have i1 := a.fn.below ab
 have ay := iv.below ab
 refine dT (i := 0) rfl rfl (by kernel_rfl) (fun _ _ => zU (v := vP p) rfl) ⟨aj.reads, ay⟩ ?_
 refine dT (i := 1) rfl rfl (by kernel_rfl) (fun _ _ => yU rfl) ⟨aj.reads, ay⟩ ?_
 refine dT (i := 2) rfl rfl (by kernel_rfl) (fun _ _ => zK (k := 3) rfl dL rfl nz94 rfl) ⟨aj.reads, ay⟩ ?_
 refine dT (i := 3) rfl rfl (by kernel_rfl) (fun _ hS => zM (u := .map (some mm.f)) ag94 rfl (hS.1 3 _ rfl)) ⟨aj.reads, ay⟩ ?_
 refine dT (i := 4) rfl rfl (by kernel_rfl) (fun _ _ => zU (v := kvb) rfl) ⟨aj.reads, ay⟩ ?_
 refine dT (i := 6) rfl rfl (by kernel_rfl) (fun _ _ => zU (v := vJ (q.bs.length : Int)) rfl) ⟨aj.reads, ay⟩ ?_
 refine dP (i := 5) rfl rfl (EO.run (r_b2s dN Tryz.underlying5 dZ rfl ix.read (cK c3.pins kvb)) ?_)
 refine ⟨fun _ => ⟨aj.reads, ay⟩, ?_⟩
 refine dO (i := 7) (xJ (i := 7) rfl rfl rfl (yB rfl _) (vX (val := (fun v : Int => Value.int .i64 v)) (k := b2s kxb) (v := (q.bs.length : Int)) (key_str dZ) Tryz.underlying94 rfl rfl rfl c3.pins ax (fun l9 i3 i4 ad ma => ?_)))
 have i5 := c3.write i4 ad ((PIn.f hpin))
 have i6 := eu.keptA ad (yY ax eu).symm
 have i7 := ev.keptA ad (yY ax ev).symm
 have i8 := ew.keptA ad (yY ax ew).symm
 have i9 := ex.keptA ad (yY ax ex).symm
 have ja := ey.keptA ad (yY ax ey).symm
 have ez := aj.keptA ad (xL ax aj).symm
 have jb := iy.kept ad (fB a.df.fo).symm
 have jc := iz.kept ad (fB a.df.fc).symm
 have jd := i0.kept ad (fB a.df.fs).symm
 have je := i1.kept ad (fB a.df.fn).symm
 refine ⟨fun h => absurd rfl h, ?_⟩
 refine zY (by kernel_rfl) (w9a ?_)
 refine qM (vP p) ?_
 refine qM (vP p) ?_
 refine qD rfl (yU rfl) (qD rfl (zK (k := 0) rfl dL rfl nz97 rfl) (qD rfl (zM (u := L) ag97 rfl (ez.cell (o := 0) rfl)) (qM t ?_)))
 obtain ⟨jf, b7, c4, e0, bi⟩ := i6.sealed i5
 have jg := i7.moreO b7 bi gu
 have jh := i8.moreO b7 bi (NP.hl bo).symm
 have ji := i9.moreO b7 bi (NP.hr bo).symm
 have jj := ja.moreO b7 bi (NP.hb bo).symm
 have jk := ez.moreO bi (NP.hp bo).symm
 refine qI rfl (yX (E := eSl eInt) (e := 40) [t] [d] dY sz40 zr40 (by exact qG (⟨_, rfl, e0⟩)) (yF e0.one) rfl rfl rfl rfl (by decide) c4.pins (fun e1 jl jm jn ae mb => ?_))
 have c5 := c4.step jn ae
 have e2 := jg.below ae
 have a1 := jh.below ae
 have e3 := ji.below ae
 have e4 := jj.below ae
 have e5 := jk.below ae
 have e6 := i3.below ae
 have e7 := jb.below ae
 have e8 := jc.below ae
 have e9 := jd.below ae
 have fa := je.below ae
 have jo := jm.weaken c4.size
 refine qI rfl (oA (E := eSl eInt) (v := L) (u := e1) 24 dY ap40 (by decide) rfl rfl c5.pins a1 jo.src (cH _) (fun az mc c6 jp af bj => ?_))
 have fb := c5.write jp af ((PIn.ll hpin))
 have jq := e2.keptA af (NP.hl a0)
 have jr := e3.keptA af a.alr.symm
 have js := e4.keptA af a.alb.symm
 have a2 := e5.keptA af a.apl
 have fd := e6.kept af (yY e6 a1)
 have fe := e7.kept af (yY e7 a1)
 have fg := e8.kept af (yY e8 a1)
 have fh := e9.kept af (yY e9 a1)
 have fi := fa.kept af (yY fa a1)
 have jt := zJ (NP.hl a0) bj e2.lt
 have fj := zJ a.alr.symm bj e3.lt
 have fk := zJ a.alb.symm bj e4.lt
 have b8 := zP a.apl bj e5.lt
 have ju : Lo w (inP p L R B mm) az.ownBlock := tI (PIn.ll hpin) bj c5.size
 have md := la1 (q.ns.map Nd.l) d
 refine qD rfl (yU rfl) (qD rfl (zK (k := 0) rfl dL rfl nz97 rfl) (q0 rfl rfl rfl (o_stp (cs' := [az, R, B, .map (some mm.f), .map (some mm.o), .map (some mm.c), .map (some mm.s), .map (some mm.n)]) (us := [az]) (v := az) sz97 rfl rfl (vK c6.one) (yF c6.one) fb.pins a2 (cD rfl) rfl (fun me fm jv ag mf => ?_))))
 have jw := fb.write jv ag ((PIn.lp hpin))
 have jx := jq.keptA ag (NP.hp a0)
 have jy := jr.keptA ag a.apr.symm
 have jz := js.keptA ag a.apb.symm
 have j0 := c6.keptA ag b8.symm
 have j1 := fd.kept ag (xL fd a2)
 have j2 := fe.kept ag (xL fe a2)
 have j3 := fg.kept ag (xL fg a2)
 have j4 := fh.kept ag (xL fh a2)
 have j5 := fi.kept ag (xL fi a2)
 refine qe (w9a ?_)
 refine qM (vP p) ?_
 refine qM (vP p) ?_
 refine qD rfl (yU rfl) (qD rfl (zK (k := 1) rfl dL rfl nz97 rfl) (qD rfl (zM (u := R) ag97 rfl (fm.cell (o := 1) rfl)) (qM aa ?_)))
 obtain ⟨c7, c8, c9, fp, b9⟩ := jx.sealed jw
 have j6 := jy.moreO c8 b9 (NP.hr a0).symm
 have j7 := jz.moreO c8 b9 (NP.hb a0).symm
 have j8 := j0.moreO c8 b9 jt.symm
 have j9 := fm.moreO b9 (NP.hp a0).symm
 refine qI rfl (yX (E := eSl eInt) (e := 40) [aa] [g] dY sz40 zr40 (by exact qG (⟨_, rfl, fp⟩)) (yF fp.one) rfl rfl rfl rfl (by decide) c9.pins (fun fq ka kb kc ah mg => ?_))
 have da := c9.step kc ah
 have a3 := j6.below ah
 have fr := j7.below ah
 have ft := j8.below ah
 have fu := j9.below ah
 have fv := j1.below ah
 have fw := j2.below ah
 have fx := j3.below ah
 have fy := j4.below ah
 have fz := j5.below ah
 have kd := kb.weaken c9.size
 refine qI rfl (oA (E := eSl eInt) (v := R) (u := fq) 24 dY ap40 (by decide) rfl rfl da.pins a3 kd.src (cH _) (fun a4 mh db ke ak ca => ?_))
 have f0 := da.write ke ak ((PIn.lr hpin))
 have kf := fr.keptA ak a.arb.symm
 have kg := ft.keptA ak fj.symm
 have a5 := fu.keptA ak a.apr
 have f3 := fv.kept ak (yY fv a3)
 have f4 := fw.kept ak (yY fw a3)
 have f5 := fx.kept ak (yY fx a3)
 have f6 := fy.kept ak (yY fy a3)
 have f7 := fz.kept ak (yY fz a3)
 have f8 := zJ a.arb.symm ca fr.lt
 have kh := zJ fj.symm ca ft.lt
 have dc := zP a.apr ca fu.lt
 have ki : Lo w (inP p L R B mm) a4.ownBlock := tI (PIn.lr hpin) ca da.size
 have mi := la1 (q.ns.map Nd.r) g
 refine qD rfl (yU rfl) (qD rfl (zK (k := 1) rfl dL rfl nz97 rfl) (q0 rfl rfl rfl (o_stp (cs' := [az, a4, B, .map (some mm.f), .map (some mm.o), .map (some mm.c), .map (some mm.s), .map (some mm.n)]) (us := [a4]) (v := a4) sz97 rfl rfl (vK db.one) (yF db.one) f0.pins a5 (cD rfl) rfl (fun mj f9 kj al mk => ?_))))
 have dd := f0.write kj al ((PIn.lp hpin))
 have kk := kf.keptA al a.apb.symm
 have kl := kg.keptA al b8.symm
 have km := db.keptA al dc.symm
 have kn := f3.kept al (xL f3 a5)
 have ko := f4.kept al (xL f4 a5)
 have kp := f5.kept al (xL f5 a5)
 have kq := f6.kept al (xL f6 a5)
 have kr := f7.kept al (xL f7 a5)
 refine qe (w9a ?_)
 refine qM (vP p) ?_
 refine qM (vP p) ?_
 refine qD rfl (yU rfl) (qD rfl (zK (k := 2) rfl dL rfl nz40 rfl) (qD rfl (zM (u := B) ag40 rfl (f9.cell (o := 2) rfl)) (qM (vJ bm) ?_)))
 refine qI rfl (yX (E := eInt) (e := 3) [vJ bm] [bm] dB sz3 zr3 (by exact qG (by rfl)) (yF (by rfl)) rfl rfl rfl rfl (by decide) dd.pins (fun ga ks kt ku ai ml => ?_))
 have de := dd.step ku ai
 have a6 := kk.below ai
 have gb := kl.below ai
 have gc := km.below ai
 have gd := f9.below ai
 have ge := kn.below ai
 have gf := ko.below ai
 have gg := kp.below ai
 have gh := kq.below ai
 have gi := kr.below ai
 have kv := kt.weaken dd.size
 refine qI rfl (oA (E := eInt) (v := B) (u := ga) 8 dB ap3 (by decide) rfl rfl de.pins a6 kv.src (cH _) (fun bk mn dg kw am cb => ?_))
 have gj := de.write kw am ((PIn.lb hpin))
 have kx := gb.keptA am fk.symm
 have ky := gc.keptA am f8.symm
 have a7 := gd.keptA am a.apb
 have gk := ge.kept am (yY ge a6)
 have gl := gf.kept am (yY gf a6)
 have gm := gg.kept am (yY gg a6)
 have gn := gh.kept am (yY gh a6)
 have gp := gi.kept am (yY gi a6)
 have kz := zJ fk.symm cb gb.lt
 have k0 := zJ f8.symm cb gc.lt
 have gq := zP a.apb cb gd.lt
 have k1 : Lo w (inP p L R B mm) bk.ownBlock := tI (PIn.lb hpin) cb de.size
 have mo := la1 q.bs bm
 refine qD rfl (yU rfl) (qD rfl (zK (k := 2) rfl dL rfl nz40 rfl) (q0 rfl rfl rfl (o_stp (cs' := [az, a4, bk, .map (some mm.f), .map (some mm.o), .map (some mm.c), .map (some mm.s), .map (some mm.n)]) (us := [bk]) (v := bk) sz40 rfl rfl (vK dg.one) (yF dg.one) gj.pins a7 (cD rfl) rfl (fun mp k2 k3 an mq => ?_))))
 have k4 := gj.write k3 an ((PIn.lp hpin))
 have k5 := kx.keptA an b8.symm
 have k6 := ky.keptA an dc.symm
 have k7 := dg.keptA an gq.symm
 have k8 := gk.kept an (xL gk a7)
 have k9 := gl.kept an (xL gl a7)
 have la := gm.kept an (xL gm a7)
 have lc := gn.kept an (xL gn a7)
 have ld := gp.kept an (xL gp a7)
 refine qe (w9a ?_)
 refine qM (vJ (q.bs.length : Int)) ?_
 refine qM (vJ (q.bs.length : Int)) ?_
 refine qe (zA ?_)
 refine cN (zQ (zS (v := vJ (q.bs.length : Int)) rfl rfl rfl ?_))
 have el : (q.ns.map Nd.l) ++ [d] = (addQ q xs ys bm).ns.map Nd.l := by rw [ao]; simp [addQ]
 have er : (q.ns.map Nd.r) ++ [g] = (addQ q xs ys bm).ns.map Nd.r := by rw [ap]; simp [addQ]
 have ef : putE q.fl (b2s kxb) (q.bs.length : Int) = (addQ q xs ys bm).fl := by rw [hkey, ao, ap, hok.ar.ok.len]; rfl
 have hol := k5
 have hor := k6
 have hff := k8
 rw [el] at hol
 rw [er] at hor
 rw [ef] at hff
 exact ⟨(q.bs.length : Int), az, a4, bk, addQ q xs ys bm, c7, rfl, ⟨k2, hol, hor, k7, hff, k9, la, lc, ld, b8, dc, gq, kh, kz, k0, a.df⟩, hadd.1, hadd.2.1, ⟨ju, ki, k1⟩, k4, by rw [hok.ar.ok.len]; exact hadd.2.2.1, by rw [hok.ar.ok.len]; exact hadd.2.2.2.1, hadd.2.2.2.2, rfl, cF (by omega)⟩
end PO1
namespace PL1
open B1 K1 PO1
theorem mk3 : (Tryz.prog.info? 3).map (fun i => (i.size, i.bytes, i.zero)) = some (1, 8, some (.int .i64 0)) := by kernel_rfl
theorem pl99 : (Tryz.prog.underlying 99).bind (placesD Tryz.prog) = some [(0, 1), (1, 1), (2, 1), (3, 1), (4, 1), (5, 1), (6, 1), (7, 1)] := by kernel_rfl
variable {G : Pin} {p : Nat} {L R B x : Value} {mm : PM} {q : PSt} {fs : List Nd} {a b : Int}
theorem pX {w : World} (hP : Pins G w) :
  Calls Tryz.prog 25 #[] w fun e w' => ∃ (p : Nat) (mm : PM) (G' : Pin), e = .returned (vP p) ∧ Pk 40 3 G' w' p vN vN vN mm ⟨[], [], [], [], [], [], []⟩ ∧ (∀ k, inP p vN vN vN mm k → w.heap.size ≤ k) ∧ Ext noS G w G' w' := by
 refine yA (n := 8) Tryz.func25 Tryz.ntmps25 rfl rfl ?_
 have o := exr noS hP
 refine w9d ?_
 refine qM (.pointer none) ?_
 refine qe (w9a ?_)
 refine qI rfl (kL (fun k : ByteArray => Value.string k) (fun v : Int => Value.int .i64 v) o.pins (fun a w2 bo z al am => ?_))
 have q := o.step al am
 have an : w.heap.size ≤ a := by have := o.size; omega
 refine qI rfl (kL encP2 (fun v : Bool => Value.bool v) q.pins (fun b bp ao aa ap ab => ?_))
 have r := q.step ap ab
 have ac := z.below ab
 have aq := zF (cgA some ao) z.lt
 have ar : w.heap.size ≤ b := by have := q.size; omega
 refine qI rfl (kL (fun k : Int => Value.int .i64 k) (fun v : Int => Value.int .i64 v) r.pins (fun c bq ad ae au s => ?_))
 have t := r.step au s
 have af := ac.below s
 have ag := aa.below s
 have av := zF (cgA some ad) ac.lt
 have aw := zF (cgA some ad) aa.lt
 have ax : w.heap.size ≤ c := by have := r.size; omega
 refine qI rfl (kL encP2 (fun v : Int => Value.int .i64 v) t.pins (fun d br u ah ay l => ?_))
 have x := t.step ay l
 have ai := af.below l
 have aj := ag.below l
 have ak := ae.below l
 have az := zF (cgA some u) af.lt
 have a0 := zF (cgA some u) ag.lt
 have a1 := zF (cgA some u) ae.lt
 have a2 : w.heap.size ≤ d := by have := t.size; omega
 refine qI rfl (kL (fun k : Int => Value.int .i64 k) (fun v : Int => Value.int .i64 v) x.pins (fun f bs m a3 a4 i => ?_))
 have y := x.step a4 i
 have a5 := ai.below i
 have a6 := aj.below i
 have a7 := ak.below i
 have a8 := ah.below i
 have a9 := zF (cgA some m) ai.lt
 have ba := zF (cgA some m) aj.lt
 have bb := zF (cgA some m) ak.lt
 have bc := zF (cgA some m) ah.lt
 have bd : w.heap.size ≤ f := by have := x.size; omega
 refine qD rfl (xQ [vN, vN, vN, .map none, .map none, .map none, .map none, .map none] [vN, vN, vN, .map (some a), .map (some b), .map (some c), .map (some d), .map (some f)] [(3, (.map (some a)), [.map (some a)]), (4, (.map (some b)), [.map (some b)]), (5, (.map (some c)), [.map (some c)]), (6, (.map (some d)), [.map (some d)]), (7, (.map (some f)), [.map (some f)])] dL zr99 rfl pl99 rfl (cL.2 ⟨rfl, (cL.2 ⟨rfl, (cL.2 ⟨rfl, (cL.2 ⟨rfl, (cL.2 ⟨rfl, (fun _ h => by cases h)⟩)⟩)⟩)⟩)⟩) rfl) (qI rfl (xH [vN, vN, vN, .map (some a), .map (some b), .map (some c), .map (some d), .map (some f)] (v := .agg #[vN, vN, vN, .map (some a), .map (some b), .map (some c), .map (some d), .map (some f)]) rfl rfl y.pins (fun j bt bu be bf g => ?_)))
 have bg := y.step bf g
 have bh := a5.below g
 have bi := a6.below g
 have bj := a7.below g
 have bk := a8.below g
 have bl := a3.below g
 have bm : w.heap.size ≤ j := by have := y.size; omega
 refine qM (vP j) ?_
 refine qe (zA ?_)
 refine cN (zQ (zS (v := vP j) rfl rfl rfl ?_))
 have hdf : PDiff ⟨a, b, c, d, f⟩ := ⟨fun e => aq.symm _ rfl (cgA some e.symm), fun e => av.symm _ rfl (cgA some e.symm), fun e => az.symm _ rfl (cgA some e.symm), fun e => a9.symm _ rfl (cgA some e.symm), fun e => aw.symm _ rfl (cgA some e.symm), fun e => a0.symm _ rfl (cgA some e.symm), fun e => ba.symm _ rfl (cgA some e.symm), fun e => a1.symm _ rfl (cgA some e.symm), fun e => bb.symm _ rfl (cgA some e.symm), fun e => bc.symm _ rfl (cgA some e.symm)⟩
 have hfr : ∀ k, inP j vN vN vN ⟨a, b, c, d, f⟩ k → w.heap.size ≤ k := by rintro k (rfl | hk | hk | hk | rfl | rfl | rfl | rfl | rfl) <;> first | (cases hk; done) | exact bm | exact an | exact ar | exact ax | exact a2 | exact bd
 exact ⟨j, ⟨a, b, c, d, f⟩, _, rfl, ⟨be, (Own.nil _ _ _ _ _), (Own.nil _ _ _ _ _), (Own.nil _ _ _ _ _), bh, bi, bj, bk, bl, apart_none.symm, apart_none.symm, apart_none.symm, apart_none, apart_none, apart_none, hdf⟩, hfr, bg⟩
theorem gM {w : World} {u v : Value} {xs ys : List Int} (hP : Pins G w) (hu : RSl eInt G u xs) (hv : RSl eInt G v ys) (hs : xs.length ≤ 1048576) (hb : ∀ i, i < xs.length → 0 ≤ xs.getD i 0 ∧ xs.getD i 0 < ys.length) :
  Calls Tryz.prog 57 #[u, v] w fun e w' => ∃ (u : Value) (G' : Pin), e = .returned u ∧ Own eInt 3 G' w' w.heap.size u (atL ys xs) ∧ Ext noS G w G' w' := by
 refine yA (n := 27) Tryz.func57 Tryz.ntmps57 rfl rfl ?_
 have d := exr noS hP
 have hm := hu.max
 have hal : (atL ys xs).length = xs.length := xC
 have hrl : (List.replicate xs.length (0 : Int)).length = xs.length := List.length_replicate
 refine w9d ?_
 refine qM vN ?_
 refine qe (w9a ?_)
 refine qM u ?_
 refine qD rfl (run_len dB (v := u) rfl hu) (qI rfl (fG (E := eInt) 0 8 (vJ 0) dB mk3 (fun _ => rfl) rfl rfl d.pins (by omega) (by omega) (by omega) (fun a g h l m ab => ?_)))
 have o := d.step l m
 have q : Own eInt 3 G g w.heap.size a (List.replicate xs.length 0) := h.weaken d.size
 have ac : (List.replicate xs.length 0).length = xs.length := List.length_replicate ..
 refine qM a ?_
 refine qe (zA (w9b ?_))
 refine qM u ?_
 refine qD rfl (run_len dB (v := u) rfl hu) (qM (vJ 0) ?_)
 refine qe (zA ?_)
 refine zX (yO (fun k en W => ∃ (f : Nat → Value) (j : Nat) (os : List Int), en = (upd (upd (upd (upd (upd (upd f 1 v) 4 vN) 5 a) 11 u) 12 (vJ (xs.length : Int))) 13 (vJ (j : Int))) ∧ k = xs.length - j ∧ Ext noS G w G W ∧ (j ≤ xs.length) ∧ (os = (atL ys xs).take j ++ (List.replicate xs.length 0).drop j) ∧ (os.length = xs.length) ∧ (Own eInt 3 G W w.heap.size a (os))) _ ⟨_, 0, List.replicate xs.length 0, (pS 13 (pS 12 (pS 11 (pS 5 (pS 4 (pU 1)))))), rfl, o, cH _, rfl, hrl, q⟩ ?_)
 rintro ad _ ae ⟨f, j, os, rfl, af, b, hj, hr, hol, c⟩
 refine w9d ?_
 refine qD rfl (yR rfl rfl) (qe (zA (zB ?_)))
 refine yE (p := ((j : Int) : Int) < (xs.length : Int)) rfl rfl (fun s => ?_) (fun s => ?_)
 have hbj := hb j (by omega)
 refine cM (zA (zB ?_))
 refine zX (w9d ?_)
 refine qM (vJ (j : Int)) ?_
 refine qD rfl (zI dB sz3 (v := u) rfl rfl hu (by omega) (by omega)) (qD rfl (zN (r := xs.getD j 0) rfl ag3 (z := (j : Int)) rfl hu b.pins (by omega) (by omega)) (qM (vJ (j : Int)) ?_))
 refine qM (vJ (xs.getD j 0)) ?_
 refine qe (zA (zC ?_))
 refine qM a ?_
 refine qM (vJ (j : Int)) ?_
 refine qM v ?_
 refine qM (vJ (xs.getD j 0)) ?_
 refine qD rfl (zI dB sz3 (v := v) rfl rfl hv (by omega) (by omega)) (qD rfl (zN (r := ys.getD (xs.getD j 0).toNat 0) rfl ag3 (z := xs.getD j 0) rfl hv b.pins (by omega) (by omega)) (qD rfl (zI dB sz3 (v := a) rfl rfl c.read (by omega) (by omega)) (q0 rfl rfl rfl (jL (E := eInt) (v := a) (u := vJ (ys.getD (xs.getD j 0).toNat 0)) (z := (j : Int)) (ys.getD (xs.getD j 0).toNat 0) sz3 rfl rfl rfl rfl b.pins c (by omega) (by omega) (fun ag t x y ah => ?_)))))
 have aa := b.write x y ((yG c))
 refine qe (w9c ?_)
 refine qD rfl (yP rfl rfl (by omega)) (qM (vJ ((j : Int) + 1)) ?_)
 refine qe (yK (⟨_, ?_, _, rfl, _, j + 1, os.set j (ys.getD (xs.getD j 0).toNat 0), (pS 13 (pS 12 (pS 11 (pS 5 (pS 4 (pU 1)))))), rfl, aa, (by omega), (by rw [hr]; exact cur_set 0 (by omega) (by omega) (at_getD (by omega))), ((cR ..).trans hol), t⟩))
 omega
 refine cO (zZ (yM (yL (w9a ?_))))
 refine qM a ?_
 refine qM a ?_
 refine qe (zA ?_)
 refine cN (zQ (zS (v := a) rfl rfl rfl ?_))
 rw [cur_end (by omega) (by omega)] at hr
 exact ⟨_, _, rfl, (by rw [← hr]; exact c), b⟩
theorem load_spec {w : World} (hP : Pins G w) (hpk : Pk 40 3 G w p L R B mm q) (hok : PoolOk q) (hx : RSl eNode G x fs) (hf : FormOk fs) (hl : q.ns.length + fs.length ≤ 1048576) :
  Calls Tryz.prog 55 [vP p, .agg #[x]].toArray w fun e w' => ∃ (u : Value) (ats : List Int) (L' R' B' : Value) (q' : PSt) (G' : Pin), e = .returned u ∧ Pk 40 3 G' w' p L' R' B' mm q' ∧ PoolOk q' ∧ PX q q' ∧ PLo w p L R B mm L' R' B' ∧ Ext (inP p L R B mm) G w G' w' ∧ Own eInt 3 G' w' w.heap.size u ats ∧ NP p L' R' B' mm u.ownBlock ∧ LdOk fs q q' fs.length ats := by
 refine yA (n := 34) Tryz.func55 Tryz.ntmps55 rfl rfl ?_
 have ax := exr (inP p L R B mm) hP
 have hpin : PIn w (inP p L R B mm) p L R B mm := PIn.self
 have ee := pkl q
 have ef := pkb hok
 refine w9d ?_
 refine qI rfl (xH [x] (v := .agg #[x]) rfl rfl ax.pins (fun b3 w4 cp cq bj bk => ?_))
 have cr := ax.step bj bk
 have cs := hpk.below bk bj
 have ct := hpk.new (x := some b3) (fun k hk => by rw [cgA some cp] at hk; cases hk; exact cG _)
 have cu : w.heap.size ≤ b3 := by have := ax.size; omega
 obtain ⟨ay, ak, al, bl, cv⟩ := cq.shut cr cu
 have bm := cs.more ak cv ct
 refine qM vN ?_
 refine qe (w9a ?_)
 refine qD rfl (zK (k := 0) rfl dE rfl nz24 rfl) (qD rfl (zM (u := x) ag24 rfl (al.pins _ _ _ (bl 0 _ rfl))) (qD rfl (run_len dC (v := x) rfl hx) (qI rfl (o_make0 (E := eInt) dB mk3 rfl rfl al.pins (by omega) (by omega) (by omega) (fun am cw cx bn bo cy => ?_)))))
 have bp := al.step bn bo
 have cz := bm.below bo bn
 have c0 := bm.new (x := am.ownBlock) (fun k hk => by rw [cy] at hk; cases hk; exact cG _)
 have c1 := cx.weaken al.size
 refine qM am ?_
 refine qe (zA (w9b ?_))
 refine qD rfl (zK (k := 0) rfl dE rfl nz24 rfl) (qD rfl (zM (u := x) ag24 rfl (bp.pins _ _ _ (bl 0 _ rfl))) (qD rfl (run_len dC (v := x) rfl hx) (qM (vJ 0) ?_)))
 refine qe (zA ?_)
 refine zX (yO (fun k en W => ∃ (bq : Nat → Value) (a : Nat) (at_ : Value) (ats : List Int) (t : Value) (y : Value) (aa : Value) (b : PSt) (o : Pin), en = (upd (upd (upd (upd (upd (upd bq 0 (vP p)) 4 vN) 5 at_) 13 x) 14 (vJ (fs.length : Int))) 15 (vJ (a : Int))) ∧ k = fs.length - a ∧ Ext (inP p L R B mm) G w o W ∧ Pin.le ay o ∧ (a ≤ fs.length) ∧ (LdOk fs q b a ats) ∧ (Own eInt 3 o W w.heap.size at_ (ats)) ∧ (Pk 40 3 o W p t y aa mm b) ∧ (PIn w ((inP p L R B mm)) p t y aa mm) ∧ (PoolOk b) ∧ (PX q b) ∧ (NP p t y aa mm at_.ownBlock)) _ ⟨_, 0, am, [], L, R, B, q, ay, (pS 15 (pS 14 (pS 13 (pS 5 (pS 4 (pU 0)))))), rfl, bp, cI _, cH _, LdOk.start, c1, cz, hpin, hok, (PX.refl _), c0⟩ ?_)
 rintro eh _ ei ⟨bq, a, at_, ats, t, y, aa, b, o, rfl, ej, ab, an, hk, hld, az, a0, a1, ac, a2, a3⟩
 have ek := a2.len
 have el := pkl b
 have em := pkb ac
 have hal := hld.len
 have hah := hld.hi
 have hfl := hf.len
 refine w9d ?_
 refine qD rfl (yR rfl rfl) (qe (zA (zB ?_)))
 refine yE (p := ((a : Int) : Int) < (fs.length : Int)) rfl rfl (fun c2 => ?_) (fun c2 => ?_)
 have oo := xI hf.opts (show a < fs.length by omega)
 have hfe := hf.lens a (by omega)
 refine cM (zA (zB ?_))
 refine zX (w9d ?_)
 refine qD rfl (zI dC sz76 (v := x) rfl rfl hx (by omega) (by omega)) ?_
 obtain ⟨ad, ae, a4, a5, c3⟩ := vD (hx.at (z := (a : Int)) (by omega) (by omega)) (j := a) rfl
 have eo := a4.max
 have ep := a5.max
 refine qD rfl (c3 ag76 sz76 rfl (cB ab.pins (cA ak an))) (qI rfl (yN [vN, vN] zr76 rfl ab.pins (fun br eq bt c4 bu a6 => ?_)))
 have bv := ab.step bu a6
 have c5 := az.below a6
 have c6 := a0.below a6 bu
 have bw := zL (cgA some bt) az.lt
 have bx := a0.new (x := some br) (fun k hk => by rw [cgA some bt] at hk; cases hk; exact cG _)
 have bz : w.heap.size ≤ br := by have := ab.size; omega
 refine q0 rfl rfl rfl (o_stp (cs' := [ad, ae]) (us := [ad, ae]) (v := .agg #[ad, ae]) sz76 rfl rfl rfl (jZ a4.one a5.one) bv.pins c4 (cD rfl) rfl (fun ao c7 b0 a7 er => ?_))
 have c8 := bv.write b0 a7 ((zW bz))
 have c9 := c5.keptA a7 bw.symm
 have da := c6.kept a7 b0 bx
 obtain ⟨af, ag, b1, b2, b4⟩ := c7.shut c8 bz
 have db := c9.moreA ag b4 bw.symm
 have dc := da.more ag b4 bx
 refine qe (zA ?_)
 refine yQ (S := fun wz => Pins af wz) (last := 14) (by kernel_rfl) rfl ?_
 have ap := bdr ao
 have b5 := b1.pins.below ap
 have c := b1.step b5 ap
 have a8 := db.below ap
 have b6 := dc.below ap b5
 refine dM 0 at_ c.pins ?_
 refine dM 1 (vP p) c.pins ?_
 refine dT (i := 2) rfl rfl (by kernel_rfl) (fun _ _ => zK (k := 0) rfl dF rfl nz40 rfl) c.pins ?_
 refine dT (i := 3) rfl rfl (by kernel_rfl) (fun _ hS => zM (u := ad) ag40 rfl (hS _ _ _ (b2 0 _ rfl))) c.pins ?_
 refine dM 4 at_ c.pins ?_
 refine dT (i := 6) rfl rfl (by kernel_rfl) (fun _ _ => zK (k := 1) rfl dF rfl nz40 rfl) c.pins ?_
 refine dT (i := 7) rfl rfl (by kernel_rfl) (fun _ hS => zM (u := ae) ag40 rfl (hS _ _ _ (b2 1 _ rfl))) c.pins ?_
 refine dM 8 at_ c.pins ?_
 refine dP (i := 5) rfl rfl (zO (vs := [ad, at_]) Tryz.func57 nm57 rfl rfl rfl ?_)
 refine cC (gM (cK c.pins at_) ((a4.mono (cA (cA ak an) ag)).mono (Gadd.le _ _ _)) a8.read (by omega) (fun i hi => by have h7 := oo.1 _ (xG (d := (0 : Int)) hi); omega)) ?_
 rintro _ b7 ⟨a9, es, rfl, de, b8⟩
 refine rt9 ?_
 have ah := tQ c.pins b8
 have ba := de.anti gZ (cA (Gadd.le af ao.drew at_) b8.le)
 have ai := c.step ah.pins ah.below
 have bb := a8.below ah.below
 have b9 := b6.below ah.below ah.pins
 have df := zT ba.lt a8.lt
 have dg := b6.new (x := a9.ownBlock) (fun k hk => (ba.lt k hk).1)
 have ca := ba.weaken c.size
 have et : (atL ats ((fs.getD a default).l)).length = ((fs.getD a default).l).length := xC
 refine ⟨fun _ => ai.pins, ?_⟩
 refine dP (i := 9) rfl rfl (zO (vs := [ae, at_]) Tryz.func57 nm57 rfl rfl rfl ?_)
 refine cC (gM (cK ai.pins at_) ((a5.mono (cA (cA ak an) ag)).mono (Gadd.le _ _ _)) bb.read (by omega) (fun i hi => by have h7 := oo.2 _ (xG (d := (0 : Int)) hi); omega)) ?_
 rintro _ dh ⟨bc, eu, rfl, di, cb⟩
 refine rt9 ?_
 have s := tQ ai.pins cb
 have aq := di.anti gZ (cA (Gadd.le af b7 at_) cb.le)
 have cc := ai.step s.pins s.below
 have dj := bb.below s.below
 have dk := ca.below s.below
 have dl := b9.below s.below s.pins
 have dm := zT aq.lt bb.lt
 have dn := zT aq.lt ca.lt
 have dp := b9.new (x := bc.ownBlock) (fun k hk => (aq.lt k hk).1)
 have dq := aq.weaken ai.size
 have ev : (atL ats ((fs.getD a default).r)).length = ((fs.getD a default).r).length := xC
 refine ⟨fun _ => cc.pins, ?_⟩
 obtain ⟨ew, f, dr, ds, bd⟩ := dk.sealed cc
 have dt := dj.moreO f bd df.symm
 have du := dq.moreO f bd dn
 have dv := dl.moreO f bd dg
 obtain ⟨ex, g, be, dw, cd⟩ := du.sealed dr
 have ce := dt.moreO g cd dm.symm
 have dx := dv.moreO g cd dp
 refine dP (i := 10) rfl rfl (zO (vs := [vP p, a9, bc]) Tryz.func75 nm75 rfl rfl rfl ?_)
 refine cC (node_spec be.pins dx ac (ds.mono g) dw (by omega) ⟨by rw [xC]; omega, by rw [xC]; omega⟩ (hld.opt oo.1) (hld.opt oo.2)) ?_
 rintro _ ey ⟨aj, dy, dz, d0, h, cf, rfl, d1, au, bf, cg, m, d2, d3, d4, ez⟩
 refine rt9 ?_
 have av := be.trans m a1
 have d5 := ce.extS m a3
 have ch := NP.call a3 cg (jE ce)
 have d6 := PIn.call a1 cg be.size
 have e0 := bf.len
 have e1 := pkl h
 have e2 := pkb au
 refine ⟨fun _ => (cB av.pins (cA (cA f g) m.le)), ?_⟩
 refine dP (i := 11) rfl rfl (yX (E := eInt) (e := 3) [vJ aj] [aj] dB sz3 zr3 (by exact qG (by rfl)) (yF (by rfl)) rfl rfl rfl rfl (by decide) av.pins (fun ci d7 d8 cj bg e3 => ?_))
 have aw := av.step cj bg
 have ck := d5.below bg
 have cl := d1.below bg cj
 have d9 := d8.weaken av.size
 refine ⟨fun _ => (cB aw.pins (cA (cA f g) m.le)), ?_⟩
 refine dP (i := 12) rfl rfl (oA (E := eInt) (v := at_) (u := ci) 8 dB ap3 (by decide) rfl rfl aw.pins ck d9.src (aw.size) (fun cm e4 ea cn co eb => ?_))
 have bh := aw.write cn co ((yG ck))
 have ec := cl.kept co cn ch
 have ed := pW ch cl eb
 have e5 := la1 ats aj
 refine ⟨fun _ => (cB bh.pins (cA (cA f g) m.le)), ?_⟩
 refine dM 13 cm (cB bh.pins (cA (cA f g) m.le)) ?_
 refine zY (by kernel_rfl) (w9c ?_)
 refine qD rfl (yP rfl rfl (by omega)) (qM (vJ ((a : Int) + 1)) ?_)
 refine qe (yK (⟨_, ?_, _, rfl, _, a + 1, cm, ats ++ ([aj]), dy, dz, d0, h, cf, (pS 15 (pS 14 (pS 13 (pS 5 (pS 4 (pU 0)))))), rfl, bh, (cA (cA (cA (cA an ag) f) g) m.le), (by omega), (hld.step hf (by omega) ac au bf d2 d3 d4), ea, ec, d6, au, (PX.trans a2 bf), ed⟩))
 omega
 refine cO (zZ (yM (yL (w9a ?_))))
 refine qM at_ ?_
 refine qM at_ ?_
 refine qe (zA ?_)
 refine cN (zQ (zS (v := at_) rfl rfl rfl ?_))
 have hkf : a = fs.length := by omega
 rw [hkf] at hld
 exact ⟨at_, ats, t, y, aa, b, o, rfl, a0, ac, a2, PIn.lo a1 rfl, ab, az, a3, hld⟩
theorem jI {w : World} (hP : Pins G w) (hpk : Pk 40 3 G w p L R B mm q) (hok : PoolOk q) (hx : RSl eNode G x fs) (hf : FormOk fs) (hl : q.ns.length + fs.length ≤ 1048576) (hf1 : 1 ≤ fs.length) :
  Calls Tryz.prog 27 [vP p, .agg #[x]].toArray w fun e w' => ∃ (z : Int) (L' R' B' : Value) (q' : PSt) (G' : Pin), e = .returned (vJ z) ∧ Pk 40 3 G' w' p L' R' B' mm q' ∧ PoolOk q' ∧ PX q q' ∧ PLo w p L R B mm L' R' B' ∧ Ext (inP p L R B mm) G w G' w' ∧ PlaceOk q' z ∧ pd q' z = gOf fs ∧ q'.ns.length ≤ q.ns.length + fs.length := by
 refine yA (n := 15) Tryz.func27 Tryz.ntmps27 rfl rfl ?_
 have d := exr (inP p L R B mm) hP
 have hpin : PIn w (inP p L R B mm) p L R B mm := PIn.self
 have av := pkl q
 have aw := pkb hok
 have hfl := hf.len
 refine w9d ?_
 refine qI rfl (xH [x] (v := .agg #[x]) rfl rfl d.pins (fun i w4 aa ab m o => ?_))
 have ac := d.step m o
 have ad := hpk.below o m
 have ae := hpk.new (x := some i) (fun k hk => by rw [cgA some aa] at hk; cases hk; exact cG _)
 have af : w.heap.size ≤ i := by have := d.size; omega
 obtain ⟨ay, s, c, ag, ah⟩ := ab.shut ac af
 have ai := ad.more s ah ae
 refine qM (vJ 0) ?_
 refine qe (w9a ?_)
 refine qM (vP p) ?_
 refine qD rfl (zR (cs := [x]) ag26 sz26 rfl (fun j u hj => c.pins _ _ _ (ag _ _ (by simpa using hj)))) (qI rfl (zO (vs := [vP p, .agg #[x]]) Tryz.func55 nm55 rfl rfl rfl ?_))
 refine cC (load_spec c.pins ai hok (hx.mono s) hf hl) ?_
 rintro _ az ⟨b, ats, aj, ak, al, a, am, rfl, an, f, t, ao, ap, aq, a0, g⟩
 refine rt9 ?_
 have y := c.trans ap hpin
 have au := PIn.call hpin ao c.size
 have a1 := t.len
 have a2 := pkl a
 have a3 := pkb f
 have h := aq.weaken c.size
 have a4 := g.len
 refine qM b ?_
 refine qe (w9a ?_)
 refine qM b ?_
 refine qM b ?_
 refine qD rfl (run_len dB (v := b) rfl h.read) (qD rfl (xR rfl rfl (by omega)) (qD rfl (zI dB sz3 (v := b) rfl rfl h.read (by omega) (by omega)) (qD rfl (zN (r := ats.getD ((ats.length : Int) - 1).toNat 0) rfl ag3 (z := (ats.length : Int) - 1) rfl h.read (cK y.pins b) (by omega) (by omega)) (qM (vJ (ats.getD ((ats.length : Int) - 1).toNat 0)) ?_))))
 refine qe (zA ?_)
 refine cN (zQ (zS (v := vJ (ats.getD ((ats.length : Int) - 1).toNat 0)) rfl rfl rfl ?_))
 have hrt := g.root hf1
 rw [show fs.length - 1 = ((ats.length : Int) - 1).toNat by omega] at hrt
 exact ⟨_, aj, ak, al, a, am, rfl, an, f, t, PIn.lo au rfl, y, hrt.1, hrt.2, g.hi⟩
def GeP (m : Nat) (p : Nat) (L R B : Value) (mm : PM) : Prop := ∀ {w : World} {G : Pin} {q : PSt} {a b : Int} (_ : Pins G w) (_ : Pk 40 3 G w p L R B mm q) (_ : PoolOk q) (_ : PlaceOk q a) (_ : PlaceOk q b), a.toNat + b.toNat < m →
  Calls Tryz.prog 26 #[.pointer (some ⟨p, 0, none⟩), .int .i64 a, .int .i64 b] w fun e w' => ∃ (q' : PSt) (G' : Pin), e = .returned (.bool (geB q.ns a b)) ∧ Pk 40 3 G' w' p L R B mm q' ∧ PoolOk q' ∧ PX q q' ∧ (q'.ns = q.ns ∧ q'.bs = q.bs) ∧ Ext (inO (some mm.o)) G w G' w'
theorem ge_step {m : Nat} {w : World} (hP : Pins G w) (hpk : Pk 40 3 G w p L R B mm q) (hok : PoolOk q) (ha : PlaceOk q a) (hb : PlaceOk q b) (ih : GeP m p L R B mm) (hm : a.toNat + b.toNat < m + 1) :
  Calls Tryz.prog 26 #[vP p, vJ a, vJ b] w fun e w' => ∃ (q' : PSt) (G' : Pin), e = .returned (.bool (geB q.ns a b)) ∧ Pk 40 3 G' w' p L R B mm q' ∧ PoolOk q' ∧ PX q q' ∧ (q'.ns = q.ns ∧ q'.bs = q.bs) ∧ Ext (inO (some mm.o)) G w G' w' := by
 refine yA (n := 74) Tryz.func26 Tryz.ntmps26 rfl rfl ?_
 have a3 := exr (inO (some mm.o)) hP
 have hpin : PIn w (inP p L R B mm) p L R B mm := PIn.self
 have dj := pkl q
 have dk := pkb hok
 have dl := ha.1
 have dm := ha.2
 have dn := hb.1
 have dp := hb.2
 refine w9d ?_
 refine qM (.bool false) ?_
 refine qe (zA (w9b ?_))
 refine qM (vJ a) ?_
 refine qM (vJ b) ?_
 refine qD rfl (xY rfl rfl) (qe (zA ?_))
 refine yE (p := (a : Int) = b) rfl rfl (fun h3 => ?_) (fun h3 => ?_)
 refine w9d ?_
 refine qM (.bool true) ?_
 refine qe (zA ?_)
 exact cN (zQ (zS (v := .bool true) rfl rfl rfl (⟨q, _, cgA eB (by rw [h3]; exact geB_refl.symm), hpk, hok, (PX.refl _), ⟨rfl, rfl⟩, a3⟩)))
 refine cM (w9a ?_)
 refine qM (vJ a) ?_
 refine qM (vJ b) ?_
 refine qD rfl (kI (m := 1) [vJ 0, vJ 0] [vJ a, vJ b] [(0, (vJ a), [vJ a]), (1, (vJ b), [vJ b])] dV zr66 rfl sz3 rfl (cL.2 ⟨rfl, (cL.2 ⟨rfl, (fun _ h => by cases h)⟩)⟩) rfl) (qI rfl (yN [vJ 0, vJ 0] zr66 rfl a3.pins (fun b4 w5 cz c0 b7 b8 => ?_)))
 have b9 := a3.step b7 b8
 have c1 := hpk.below b8 b7
 have ca := hpk.new (x := some b4) (fun k hk => by rw [cgA some cz] at hk; cases hk; exact cG _)
 have cb : w.heap.size ≤ b4 := by have := a3.size; omega
 refine q0 rfl rfl rfl (o_stp (cs' := [vJ a, vJ b]) (us := [vJ a, vJ b]) (v := .agg #[vJ a, vJ b]) sz66 rfl rfl rfl (jZ (by rfl) (by rfl)) b9.pins c0 (cD rfl) rfl (fun bh c2 cc cd dr => ?_))
 have c3 := b9.write cc cd ((zW cb))
 have c4 := c1.kept cd cc ca
 obtain ⟨bi, c5, ce, a5, c6⟩ := c2.shut c3 cb
 have c7 := c4.more c5 c6 ca
 refine qe (zA (zB (zB ?_)))
 refine yQ (S := fun wz => BxR wz p [L, R, B, .map (some mm.f), .map (some mm.o), .map (some mm.c), .map (some mm.s), .map (some mm.n)] ∧ Pins bi wz) (last := 11) (by kernel_rfl) rfl ?_
 have bj := bdr bh
 have cf := ce.pins.below bj
 have ac := ce.step cf bj
 have aa := c7.below bj cf
 refine dT (i := 0) rfl rfl (by kernel_rfl) (fun _ _ => zU (v := vP p) rfl) ⟨aa.bx.reads, ac.pins⟩ ?_
 refine dT (i := 1) rfl rfl (by kernel_rfl) (fun _ _ => yU rfl) ⟨aa.bx.reads, ac.pins⟩ ?_
 refine dT (i := 2) rfl rfl (by kernel_rfl) (fun _ _ => zK (k := 4) rfl dL rfl nz95 rfl) ⟨aa.bx.reads, ac.pins⟩ ?_
 refine dT (i := 3) rfl rfl (by kernel_rfl) (fun _ hS => zM (u := .map (some mm.o)) ag95 rfl (hS.1 4 _ rfl)) ⟨aa.bx.reads, ac.pins⟩ ?_
 refine dT (i := 4) rfl rfl (by kernel_rfl) (fun _ hS => zR (cs := [vJ a, vJ b]) ag66 sz66 rfl (fun j u hj => hS.2 _ _ _ (a5 _ _ (by simpa using hj)))) ⟨aa.bx.reads, ac.pins⟩ ?_
 refine dP (i := 5) rfl rfl (EO.run (rW (k := ((a, b) : Int × Int)) (gQ dV dW sz3) Tryz.underlying95 zr4 aa.fo rfl rfl) ?_)
 refine ⟨fun _ => ⟨aa.bx.reads, ac.pins⟩, ?_⟩
 refine dT (i := 6) rfl rfl (by kernel_rfl) (fun _ _ => zU (v := .tuple #[.bool ((Go.GL.look q.om ((a, b) : Int × Int)).getD false), .bool ((Go.GL.look q.om ((a, b) : Int × Int)).isSome)]) rfl) ⟨aa.bx.reads, ac.pins⟩ ?_
 refine dT (i := 7) rfl rfl (by kernel_rfl) (fun _ _ => yV (v := .bool ((Go.GL.look q.om ((a, b) : Int × Int)).getD false)) rfl rfl) ⟨aa.bx.reads, ac.pins⟩ ?_
 refine dT (i := 8) rfl rfl (by kernel_rfl) (fun _ _ => yV (v := .bool ((Go.GL.look q.om ((a, b) : Int × Int)).isSome)) rfl rfl) ⟨aa.bx.reads, ac.pins⟩ ?_
 refine dT (i := 9) rfl rfl (by kernel_rfl) (fun _ _ => jB (v := .bool ((Go.GL.look q.om ((a, b) : Int × Int)).getD false)) rfl) ⟨aa.bx.reads, ac.pins⟩ ?_
 refine dT (i := 10) rfl rfl (by kernel_rfl) (fun _ _ => jB (v := .bool ((Go.GL.look q.om ((a, b) : Int × Int)).isSome)) rfl) ⟨aa.bx.reads, ac.pins⟩ ?_
 refine zY (by kernel_rfl) (w9a ?_)
 refine qM (.bool ((Go.GL.look q.om ((a, b) : Int × Int)).isSome)) ?_
 refine qe (zA ?_)
 refine c_if rfl rfl (fun cg => ?_) (fun cg => ?_)
 refine w9d ?_
 refine qM (.bool ((Go.GL.look q.om ((a, b) : Int × Int)).getD false)) ?_
 refine qM (.bool ((Go.GL.look q.om ((a, b) : Int × Int)).getD false)) ?_
 refine qe (zA ?_)
 refine cN (zQ (zS (v := .bool ((Go.GL.look q.om ((a, b) : Int × Int)).getD false)) rfl rfl rfl ?_))
 obtain ⟨z, hz⟩ := Option.isSome_iff_exists.1 cg
 exact ⟨q, _, cgA eB (by rw [hz]; exact (hok.ord _ _ _ hz).2.2), aa, hok, (PX.refl _), ⟨rfl, rfl⟩, ac⟩
 refine cM (w9a ?_)
 refine qM (.bool true) ?_
 refine qe (zA (w9b ?_))
 refine qM (vP p) ?_
 refine qD rfl (yU rfl) (qD rfl (zK (k := 1) rfl dL rfl nz97 rfl) (qD rfl (zM (u := R) ag97 rfl (aa.bx.cell (o := 1) rfl)) (qM (vJ a) ?_)))
 refine qD rfl (zI dY sz40 (v := R) rfl rfl aa.rr.read (by omega) (by omega)) ?_
 obtain ⟨bk, av, c8⟩ := nm_sl (aa.rr.at (z := a) (by omega) (by omega)) (j := (a).toNat) rfl
 rw [mapr_getD] at av
 have ds := av.max
 refine qD rfl (c8 ag40 rfl (cK ac.pins R)) (qD rfl (run_len dB (v := bk) rfl av) (qM (vJ 0) ?_))
 refine qe (zA ?_)
 refine zX ?_
 have a6 : (q.ns.getD (a).toNat default).r = (q.ns.getD (a).toNat default).r := rfl
 refine yO (fun k en W => ∃ (aw : Nat → Value) (i : Nat) (g : PSt) (GLr : Pin), en = (upd (upd (upd (upd (upd (upd (upd (upd (upd aw 0 (vP p)) 1 (vJ a)) 2 (vJ b)) 6 (.bool false)) 7 (vP b4)) 10 (.bool true)) 38 bk) 39 (vJ (((q.ns.getD (a).toNat default).r).length : Int))) 40 (vJ (i : Int))) ∧ k = (q.ns.getD (a).toNat default).r.length - i ∧ Ext (inO (some mm.o)) G w GLr W ∧ Pin.le bi GLr ∧ (i ≤ (q.ns.getD (a).toNat default).r.length) ∧ (∀ x, x < i → geB q.ns b ((q.ns.getD (a).toNat default).r.getD x 0) = false) ∧ (Pk 40 3 GLr W p L R B mm g) ∧ (PoolOk g) ∧ (PX q g) ∧ (g.ns = q.ns ∧ g.bs = q.bs)) _ ⟨_, 0, q, bi, (pS 40 (pS 39 (pS 38 (pS 10 (pS 7 (pS 6 (pS 2 (pS 1 (pU 0))))))))), rfl, ac, cI _, cH _, (fun q hq => absurd hq (cJ q)), aa, hok, (PX.refl _), ⟨rfl, rfl⟩⟩ ?_
 rintro dt _ du ⟨aw, i, g, GLr, rfl, dv, ax, ay, hji, hpr, az, a7, a0, t⟩
 have dw := a0.len
 have dx := pkl g
 have dy := pkb a7
 have hlnr := cgA List.length a6
 refine w9d ?_
 refine qD rfl (yR rfl rfl) (qe (zA (zB ?_)))
 refine yE (p := ((i : Int) : Int) < (((q.ns.getD (a).toNat default).r).length : Int)) rfl rfl (fun c9 => ?_) (fun c9 => ?_)
 have hki := (xI hok.ar.opts (show (a).toNat < q.ns.length by omega)).2 _ (xG (d := (0 : Int)) (show i < (q.ns.getD (a).toNat default).r.length by omega))
 rw [← a6] at hki
 refine cM (zA (zB ?_))
 refine zX (w9d ?_)
 refine qD rfl (zI dB sz3 (v := bk) rfl rfl av (by omega) (by omega)) (qD rfl (zN (r := ((q.ns.getD (a).toNat default).r).getD i 0) rfl ag3 (z := (i : Int)) rfl av (cB ax.pins ay) (by omega) (by omega)) (qM (vJ (((q.ns.getD (a).toNat default).r).getD i 0)) ?_))
 refine qe (w9a ?_)
 refine qM (vP p) ?_
 refine qM (vJ b) ?_
 refine qM (vJ (((q.ns.getD (a).toNat default).r).getD i 0)) ?_
 refine qI rfl (zO (vs := [vP p, vJ b, vJ (((q.ns.getD (a).toNat default).r).getD i 0)]) Tryz.func26 nm26 rfl rfl rfl ?_)
 refine cC (ih ax.pins az a7 ⟨by omega, by omega⟩ ⟨by omega, by omega⟩ (by omega)) ?_
 rintro _ bl ⟨ad, ch, rfl, ci, a8, bm, aq, bn⟩
 refine rt9 ?_
 have bo := ax.trans bn (fun i hi => xA i hi)
 have dz := bm.len
 have d0 := pkl ad
 have d1 := pkb a8
 have d2 := cgA List.length aq.1
 refine qe (zA ?_)
 refine c_if rfl rfl (fun bp => ?_) (fun bp => ?_)
 refine w9d ?_
 refine qM (.bool false) ?_
 refine qe (zA ?_)
 refine cO (s_blkO rfl (zZ (yM (yL (zA (w9b ?_))))))
 refine qM (.bool false) ?_
 refine qe (zA ?_)
 refine qY rfl rfl (cM (zA (zB ?_)))
 refine yQ (S := fun wz => BxR wz p [L, R, B, .map (some mm.f), .map (some mm.o), .map (some mm.c), .map (some mm.s), .map (some mm.n)] ∧ Pins ch wz) (last := 6) (by kernel_rfl) rfl ?_
 have bq := bdr bl
 have cj := bo.pins.below bq
 have aj := bo.step cj bq
 have ak := ci.below bq cj
 refine dT (i := 0) rfl rfl (by kernel_rfl) (fun _ _ => zU (v := vP p) rfl) ⟨ak.bx.reads, aj.pins⟩ ?_
 refine dT (i := 1) rfl rfl (by kernel_rfl) (fun _ _ => yU rfl) ⟨ak.bx.reads, aj.pins⟩ ?_
 refine dT (i := 2) rfl rfl (by kernel_rfl) (fun _ _ => zK (k := 4) rfl dL rfl nz95 rfl) ⟨ak.bx.reads, aj.pins⟩ ?_
 refine dT (i := 3) rfl rfl (by kernel_rfl) (fun _ hS => zM (u := .map (some mm.o)) ag95 rfl (hS.1 4 _ rfl)) ⟨ak.bx.reads, aj.pins⟩ ?_
 refine dT (i := 4) rfl rfl (by kernel_rfl) (fun _ hS => zR (cs := [vJ a, vJ b]) ag66 sz66 rfl (fun j u hj => (cB hS.2 (cA ay bn.le)) _ _ _ (a5 _ _ (by simpa using hj)))) ⟨ak.bx.reads, aj.pins⟩ ?_
 refine dT (i := 5) rfl rfl (by kernel_rfl) (fun _ _ => zU (v := .bool false) rfl) ⟨ak.bx.reads, aj.pins⟩ ?_
 refine dO (i := 6) (xJ (i := 6) rfl rfl rfl (yB rfl _) (vX (val := (fun v : Bool => Value.bool v)) (k := ((a, b) : Int × Int)) (v := false) (gQ dV dW sz3) Tryz.underlying95 rfl rfl rfl aj.pins ak.fo (fun d3 da ck cl d4 => ?_)))
 have db := aj.trans (Ext.one ck cl) (fun i hi => xA i hi)
 have cm := ak.setO (Ext.one ck cl) da
 have hgv : geB q.ns a b = false := gY hok.ar.opts ha (i := i) (by omega) (by rw [← a6, ← gX t]; exact bp)
 have a9 := PoolOk.setO a8 (ha.same (xK t aq)) (hb.same (xK t aq)) (pL (xK t aq) hgv)
 obtain ⟨af, br⟩ : ∃ q, q = ({ ad with om := putE ad.om ((a, b) : Int × Int) false } : PSt) := ⟨_, rfl⟩
 rw [← br] at cm a9
 have hq83n : af.ns = ad.ns ∧ af.bs = ad.bs := by rw [br]; exact ⟨rfl, rfl⟩
 have hq83x : PX ad af := by rw [br]; exact ⟨cG _, fun _ _ => rfl, fun _ h => h⟩
 have d5 := pkl af
 have d6 := pkb a9
 have d7 := hq83x.len
 refine ⟨fun h => absurd rfl h, ?_⟩
 refine zY (by kernel_rfl) (w9a ?_)
 refine qM (.bool false) ?_
 refine qM (.bool false) ?_
 refine qe (zA ?_)
 exact cN (zQ (zS (v := .bool false) rfl rfl rfl (⟨af, _, cgA eB (hgv.symm), cm, a9, (PX.trans (PX.trans a0 bm) hq83x), (xK (xK t aq) hq83n), db⟩)))
 refine cM (w9c ?_)
 refine qD rfl (yP rfl rfl (by omega)) (qM (vJ ((i : Int) + 1)) ?_)
 refine qe (yK (⟨_, ?_, _, rfl, _, i + 1, ad, ch, (pS 40 (pS 39 (pS 38 (pS 10 (pS 7 (pS 6 (pS 2 (pS 1 (pU 0))))))))), rfl, bo, (cA ay bn.le), (by omega), (fun x h2 => if h3 : x = i then h3 ▸ (by rw [← a6, ← gX t]; exact bp) else hpr x (by omega)), ci, a8, (PX.trans a0 bm), (xK t aq)⟩))
 omega
 refine cO (zZ (yM (yL (zA (w9b ?_)))))
 refine qM (.bool true) ?_
 refine qe (zA ?_)
 refine xW rfl rfl (w9d ?_)
 refine qM (vP p) ?_
 refine qD rfl (yU rfl) (qD rfl (zK (k := 0) rfl dL rfl nz97 rfl) (qD rfl (zM (u := L) ag97 rfl (az.bx.cell (o := 0) rfl)) (qM (vJ b) ?_)))
 refine qD rfl (zI dY sz40 (v := L) rfl rfl az.ol.read (by omega) (by omega)) ?_
 obtain ⟨bt, a1, dd⟩ := nm_sl (az.ol.at (z := b) (by omega) (by omega)) (j := (b).toNat) rfl
 rw [mapl_getD] at a1
 have d8 := a1.max
 refine qD rfl (dd ag40 rfl (cK ax.pins L)) (qD rfl (run_len dB (v := bt) rfl a1) (qM (vJ 0) ?_))
 refine qe (zA ?_)
 refine zX ?_
 have ba : (g.ns.getD (b).toNat default).l = (q.ns.getD (b).toNat default).l := by rw [t.1]
 refine yO (fun k en W => ∃ (aw : Nat → Value) (i2 : Nat) (y : PSt) (GLl : Pin), en = (upd (upd (upd (upd (upd (upd (upd (upd aw 0 (vP p)) 1 (vJ a)) 6 (.bool false)) 7 (vP b4)) 10 (.bool true)) 56 bt) 57 (vJ (((g.ns.getD (b).toNat default).l).length : Int))) 58 (vJ (i2 : Int))) ∧ k = (q.ns.getD (b).toNat default).l.length - i2 ∧ Ext (inO (some mm.o)) G w GLl W ∧ Pin.le GLr GLl ∧ (i2 ≤ (q.ns.getD (b).toNat default).l.length) ∧ (∀ x, x < i2 → geB q.ns ((q.ns.getD (b).toNat default).l.getD x 0) a = false) ∧ (Pk 40 3 GLl W p L R B mm y) ∧ (PoolOk y) ∧ (PX g y) ∧ (y.ns = g.ns ∧ y.bs = g.bs)) _ ⟨_, 0, g, GLr, (pS 58 (pS 57 (pS 56 (pS 10 (pS 7 (pS 6 (pS 1 (pU 0)))))))), rfl, ax, cI _, cH _, (fun q hq => absurd hq (cJ q)), az, a7, (PX.refl _), ⟨rfl, rfl⟩⟩ ?_
 rintro d9 _ bu ⟨aw, i2, y, GLl, rfl, ea, a2, bb, eb, hpl, cn, bc, bd, ag⟩
 have ec := bd.len
 have ed := pkl y
 have ee := pkb bc
 have hlnl := cgA List.length ba
 refine w9d ?_
 refine qD rfl (yR rfl rfl) (qe (zA (zB ?_)))
 refine yE (p := ((i2 : Int) : Int) < (((g.ns.getD (b).toNat default).l).length : Int)) rfl rfl (fun de => ?_) (fun de => ?_)
 have hki := (xI hok.ar.opts (show (b).toNat < q.ns.length by omega)).1 _ (xG (d := (0 : Int)) (show i2 < (q.ns.getD (b).toNat default).l.length by omega))
 rw [← ba] at hki
 refine cM (zA (zB ?_))
 refine zX (w9d ?_)
 refine qD rfl (zI dB sz3 (v := bt) rfl rfl a1 (by omega) (by omega)) (qD rfl (zN (r := ((g.ns.getD (b).toNat default).l).getD i2 0) rfl ag3 (z := (i2 : Int)) rfl a1 (cB a2.pins bb) (by omega) (by omega)) (qM (vJ (((g.ns.getD (b).toNat default).l).getD i2 0)) ?_))
 refine qe (w9a ?_)
 refine qM (vP p) ?_
 refine qM (vJ (((g.ns.getD (b).toNat default).l).getD i2 0)) ?_
 refine qM (vJ a) ?_
 refine qI rfl (zO (vs := [vP p, vJ (((g.ns.getD (b).toNat default).l).getD i2 0), vJ a]) Tryz.func26 nm26 rfl rfl rfl ?_)
 refine cC (ih a2.pins cn bc ⟨by omega, by omega⟩ ⟨by omega, by omega⟩ (by omega)) ?_
 rintro _ bv ⟨ae, co, rfl, cp, be, bw, au, bz⟩
 refine rt9 ?_
 have b0 := a2.trans bz (fun i hi => xA i hi)
 have ef := bw.len
 have eg := pkl ae
 have eh := pkb be
 have ei := cgA List.length au.1
 refine qe (zA ?_)
 refine c_if rfl rfl (fun b1 => ?_) (fun b1 => ?_)
 refine w9d ?_
 refine qM (.bool false) ?_
 refine qe (zA ?_)
 refine cO (s_blkO rfl (zZ (yM (yL (zA (zB ?_))))))
 refine yQ (S := fun wz => BxR wz p [L, R, B, .map (some mm.f), .map (some mm.o), .map (some mm.c), .map (some mm.s), .map (some mm.n)] ∧ Pins co wz) (last := 6) (by kernel_rfl) rfl ?_
 have b2 := bdr bv
 have cq := b0.pins.below b2
 have al := b0.step cq b2
 have am := cp.below b2 cq
 refine dT (i := 0) rfl rfl (by kernel_rfl) (fun _ _ => zU (v := vP p) rfl) ⟨am.bx.reads, al.pins⟩ ?_
 refine dT (i := 1) rfl rfl (by kernel_rfl) (fun _ _ => yU rfl) ⟨am.bx.reads, al.pins⟩ ?_
 refine dT (i := 2) rfl rfl (by kernel_rfl) (fun _ _ => zK (k := 4) rfl dL rfl nz95 rfl) ⟨am.bx.reads, al.pins⟩ ?_
 refine dT (i := 3) rfl rfl (by kernel_rfl) (fun _ hS => zM (u := .map (some mm.o)) ag95 rfl (hS.1 4 _ rfl)) ⟨am.bx.reads, al.pins⟩ ?_
 refine dT (i := 4) rfl rfl (by kernel_rfl) (fun _ hS => zR (cs := [vJ a, vJ b]) ag66 sz66 rfl (fun j u hj => (cB hS.2 (cA (cA ay bb) bz.le)) _ _ _ (a5 _ _ (by simpa using hj)))) ⟨am.bx.reads, al.pins⟩ ?_
 refine dT (i := 5) rfl rfl (by kernel_rfl) (fun _ _ => zU (v := .bool false) rfl) ⟨am.bx.reads, al.pins⟩ ?_
 refine dO (i := 6) (xJ (i := 6) rfl rfl rfl (yB rfl _) (vX (val := (fun v : Bool => Value.bool v)) (k := ((a, b) : Int × Int)) (v := false) (gQ dV dW sz3) Tryz.underlying95 rfl rfl rfl al.pins am.fo (fun ej df cr ct ek => ?_)))
 have dg := al.trans (Ext.one cr ct) (fun i hi => xA i hi)
 have cu := am.setO (Ext.one cr ct) df
 have hgv : geB q.ns a b = false := rE hok.ar.opts hb (i := i2) (by omega) (by rw [← ba, ← gX (xK t ag)]; exact b1)
 have bf := PoolOk.setO be (ha.same (xK (xK t ag) au)) (hb.same (xK (xK t ag) au)) (pL (xK (xK t ag) au) hgv)
 obtain ⟨ah, b3⟩ : ∃ q, q = ({ ae with om := putE ae.om ((a, b) : Int × Int) false } : PSt) := ⟨_, rfl⟩
 rw [← b3] at cu bf
 have hq135n : ah.ns = ae.ns ∧ ah.bs = ae.bs := by rw [b3]; exact ⟨rfl, rfl⟩
 have hq135x : PX ae ah := by rw [b3]; exact ⟨cG _, fun _ _ => rfl, fun _ h => h⟩
 have el := pkl ah
 have em := pkb bf
 have eo := hq135x.len
 refine ⟨fun h => absurd rfl h, ?_⟩
 refine zY (by kernel_rfl) (w9a ?_)
 refine qM (.bool false) ?_
 refine qM (.bool false) ?_
 refine qe (zA ?_)
 exact cN (zQ (zS (v := .bool false) rfl rfl rfl (⟨ah, _, cgA eB (hgv.symm), cu, bf, (PX.trans (PX.trans (PX.trans a0 bd) bw) hq135x), (xK (xK (xK t ag) au) hq135n), dg⟩)))
 refine cM (w9c ?_)
 refine qD rfl (yP rfl rfl (by omega)) (qM (vJ ((i2 : Int) + 1)) ?_)
 refine qe (yK (⟨_, ?_, _, rfl, _, i2 + 1, ae, co, (pS 58 (pS 57 (pS 56 (pS 10 (pS 7 (pS 6 (pS 1 (pU 0)))))))), rfl, b0, (cA bb bz.le), (by omega), (fun x h2 => if h3 : x = i2 then h3 ▸ (by rw [← ba, ← gX (xK t ag)]; exact b1) else hpl x (by omega)), cp, be, (PX.trans bd bw), (xK ag au)⟩))
 omega
 refine cO (zZ (yM (yL (zA (zB ?_)))))
 refine yQ (S := fun wz => BxR wz p [L, R, B, .map (some mm.f), .map (some mm.o), .map (some mm.c), .map (some mm.s), .map (some mm.n)] ∧ Pins GLl wz) (last := 6) (by kernel_rfl) rfl ?_
 have b5 := bdr bu
 have cv := a2.pins.below b5
 have an := a2.step cv b5
 have ao := cn.below b5 cv
 refine dT (i := 0) rfl rfl (by kernel_rfl) (fun _ _ => zU (v := vP p) rfl) ⟨ao.bx.reads, an.pins⟩ ?_
 refine dT (i := 1) rfl rfl (by kernel_rfl) (fun _ _ => yU rfl) ⟨ao.bx.reads, an.pins⟩ ?_
 refine dT (i := 2) rfl rfl (by kernel_rfl) (fun _ _ => zK (k := 4) rfl dL rfl nz95 rfl) ⟨ao.bx.reads, an.pins⟩ ?_
 refine dT (i := 3) rfl rfl (by kernel_rfl) (fun _ hS => zM (u := .map (some mm.o)) ag95 rfl (hS.1 4 _ rfl)) ⟨ao.bx.reads, an.pins⟩ ?_
 refine dT (i := 4) rfl rfl (by kernel_rfl) (fun _ hS => zR (cs := [vJ a, vJ b]) ag66 sz66 rfl (fun j u hj => (cB hS.2 (cA ay bb)) _ _ _ (a5 _ _ (by simpa using hj)))) ⟨ao.bx.reads, an.pins⟩ ?_
 refine dT (i := 5) rfl rfl (by kernel_rfl) (fun _ _ => zU (v := .bool true) rfl) ⟨ao.bx.reads, an.pins⟩ ?_
 refine dO (i := 6) (xJ (i := 6) rfl rfl rfl (yB rfl _) (vX (val := (fun v : Bool => Value.bool v)) (k := ((a, b) : Int × Int)) (v := true) (gQ dV dW sz3) Tryz.underlying95 rfl rfl rfl an.pins ao.fo (fun ep dh cw cx eq => ?_)))
 have di := an.trans (Ext.one cw cx) (fun i hi => xA i hi)
 have cy := ao.setO (Ext.one cw cx) dh
 have hgv : geB q.ns a b = true := geB_yes hok.ar.opts ha hb (fun i hi => hpr i (by omega)) (fun i hi => hpl i (by omega))
 have bg := PoolOk.setO bc (ha.same (xK t ag)) (hb.same (xK t ag)) (pL (xK t ag) hgv)
 obtain ⟨ai, b6⟩ : ∃ q, q = ({ y with om := putE y.om ((a, b) : Int × Int) true } : PSt) := ⟨_, rfl⟩
 rw [← b6] at cy bg
 have hq152n : ai.ns = y.ns ∧ ai.bs = y.bs := by rw [b6]; exact ⟨rfl, rfl⟩
 have hq152x : PX y ai := by rw [b6]; exact ⟨cG _, fun _ _ => rfl, fun _ h => h⟩
 have er := pkl ai
 have es := pkb bg
 have et := hq152x.len
 refine ⟨fun h => absurd rfl h, ?_⟩
 refine zY (by kernel_rfl) (w9a ?_)
 refine qM (.bool true) ?_
 refine qM (.bool true) ?_
 refine qe (zA ?_)
 exact cN (zQ (zS (v := .bool true) rfl rfl rfl (⟨ai, _, cgA eB (hgv.symm), cy, bg, (PX.trans (PX.trans a0 bd) hq152x), (xK (xK t ag) hq152n), di⟩)))
theorem geP_all {p : Nat} {L R B : Value} {mm : PM} : ∀ m, GeP m p L R B mm
 | 0 => fun _ _ _ _ _ h => absurd h (cJ _)
 | m + 1 => fun hP hpk hok ha hb hm => ge_step hP hpk hok ha hb (geP_all m) hm
theorem ge_spec {w : World} (hP : Pins G w) (hpk : Pk 40 3 G w p L R B mm q) (hok : PoolOk q) (ha : PlaceOk q a) (hb : PlaceOk q b) :
  Calls Tryz.prog 26 #[.pointer (some ⟨p, 0, none⟩), .int .i64 a, .int .i64 b] w fun e w' => ∃ (q' : PSt) (G' : Pin), e = .returned (.bool (geB q.ns a b)) ∧ Pk 40 3 G' w' p L R B mm q' ∧ PoolOk q' ∧ PX q q' ∧ (q'.ns = q.ns ∧ q'.bs = q.bs) ∧ Ext (inO (some mm.o)) G w G' w' :=
 geP_all _ hP hpk hok ha hb (Nat.lt_succ_self _)
end PL1
namespace OR1
open B1 C1 D1 E1
def GeqC (m : Nat) (o b : Nat) (bu bv kv : Value) (ns : List Nd) (bs : List Int) : Prop := ∀ {w : World} {G : Pin} {ks : List Int} {x y : Int} (_ : Pins G w) (_ : Od 76 3 G w o b bu bv kv ns bs ks) (_ : 0 ≤ x ∧ x < ns.length) (_ : 0 ≤ y ∧ y < ns.length) (_ : ks.length = ns.length * ns.length), x.toNat + y.toNat < m → KOk ns ks (x.toNat + y.toNat + 1) →
  Calls Tryz.prog 59 #[.pointer (some ⟨o, 0, none⟩), .int .i64 x, .int .i64 y] w fun e w' => ∃ (ks' : List Int) (G' : Pin), e = .returned (.bool (geB ns x y)) ∧ Od 76 3 G' w' o b bu bv kv ns bs ks' ∧ KRes ns ks ks' (x.toNat + y.toNat + 1) ∧ Ext (inO kv.ownBlock) G w G' w'
variable {G : Pin} {m b : Nat} {bu bv kv : Value} {ns : List Nd} {bs ks : List Int} {x y : Int}
theorem look_spec {w : World} {o : Nat} (hP : Pins G w) (hO : Od 76 3 G w o b bu bv kv ns bs ks) (hx : 0 ≤ x ∧ x < ns.length) (hy : 0 ≤ y ∧ y < ns.length) (hkl : ks.length = ns.length * ns.length) (hok : BookOk ns bs) (ih : GeqC m o b bu bv kv ns bs) (hm : x.toNat + y.toNat ≤ m) (hkok : KOk ns ks (x.toNat + y.toNat)) :
  Calls Tryz.prog 76 #[vP o, vJ x, vJ y] w fun e w' => ∃ (ks' : List Int) (G' : Pin), e = .returned (.bool (geB ns x y)) ∧ Od 76 3 G' w' o b bu bv kv ns bs ks' ∧ KRes ns ks ks' (x.toNat + y.toNat) ∧ Ext (inO kv.ownBlock) G w G' w' := by
 refine yA (n := 75) Tryz.func76 Tryz.ntmps76 rfl rfl ?_
 have a4 := exr (inO kv.ownBlock) hP
 have hB := hO.bk
 have hbx := hB.bx
 have hou := hB.ou
 have hov := hB.ov
 have habu := hB.abu
 have habv := hB.abv
 have hauv := hB.auv
 have hlen := hok.len
 have hlim := hok.lim
 have hox := hO.ox
 have a5 := hO.ok
 have haok := hO.aok
 have habk := hO.abk
 have hauk := hO.auk
 have havk := hO.avk
 have hlok : Lo w (inO kv.ownBlock) kv.ownBlock := xA
 have hoo : OptsOk ns := hok.optsOk
 have hlens := hok.lens
 refine w9d ?_
 refine qM (.bool false) ?_
 refine qe (zA (w9b ?_))
 refine qM (vJ 0) ?_
 refine qe (zA ?_)
 refine zX (yO (fun k en W => ∃ (t : Nat → Value) (i : Nat) (kqr : List Int) (GLr : Pin), en = (upd (upd (upd (upd t 0 (vP o)) 1 (vJ x)) 2 (vJ y)) 7 (vJ (i : Int))) ∧ k = (ns.getD (x).toNat default).r.length - i ∧ Ext (inO kv.ownBlock) G w GLr W ∧ Pin.le G GLr ∧ (i ≤ (ns.getD (x).toNat default).r.length) ∧ (KRes ns ks kqr (x.toNat + y.toNat)) ∧ (∀ q, q < i → geB ns y ((ns.getD (x).toNat default).r.getD q 0) = false) ∧ (Own eInt 3 GLr W 0 kv (kqr)) ∧ (Own eNode 76 GLr W 0 bu (ns)) ∧ (Own eInt 3 GLr W 0 bv (bs)) ∧ (Bx GLr W b [bu, bv]) ∧ (Bx GLr W o [vP b, kv])) _ ⟨_, 0, ks, G, (pS 7 (pS 2 (pS 1 (pU 0)))), rfl, a4, cI _, cH _, (KRes.refl hkok), (fun q hq => absurd hq (cJ q)), a5, hou, hov, hbx, hox⟩ ?_)
 rintro k1 _ w2 ⟨t, i, kqr, GLr, rfl, bp, f, a6, hji, hkrr, hpr, am, c, ae, aa, ab⟩
 have hklr := hkrr.len
 refine w9b ?_
 refine qM (vJ (i : Int)) ?_
 refine qM (vP o) ?_
 refine qD rfl (yU rfl) (qD rfl (zK (k := 0) rfl dS rfl nz90 rfl) (qD rfl (zM (u := vP b) ag90 rfl (ab.cell (o := 0) rfl)) (qD rfl (yU rfl) (qD rfl (zK (k := 0) rfl dJ rfl nz24 rfl) (qD rfl (zM (u := bu) ag24 rfl (aa.cell (o := 0) rfl)) (qM (vJ x) ?_))))))
 refine qD rfl (zI dC sz76 (v := bu) rfl rfl c.read (by omega) (by omega)) (qD rfl (yI (off := 1) dF rfl rfl nz40 (z := x) (k := 0) rfl c.read (by omega) (by omega)) ?_)
 obtain ⟨a7, an, a8⟩ := qV (c.at (z := x) (by omega) (by omega)) (j := (x).toNat) rfl
 have bq := an.max
 refine qD rfl (a8 ag40 rfl (cK f.pins bu)) (qD rfl (run_len dB (v := a7) rfl an) (qD rfl (yR rfl rfl) (qe (zA ?_))))
 refine yE (p := ((i : Int) : Int) < (((ns.getD (x).toNat default).r).length : Int)) rfl rfl (fun a9 => ?_) (fun a9 => ?_)
 have hki := hoo.right (j := (x).toNat) (i := i) (by omega) (by omega)
 refine cM (zA (zB ?_))
 refine zX (w9d ?_)
 refine qM (vP o) ?_
 refine qM (vJ y) ?_
 refine qM (vP o) ?_
 refine qD rfl (yU rfl) (qD rfl (zK (k := 0) rfl dS rfl nz90 rfl) (qD rfl (zM (u := vP b) ag90 rfl (ab.cell (o := 0) rfl)) (qD rfl (yU rfl) (qD rfl (zK (k := 0) rfl dJ rfl nz24 rfl) (qD rfl (zM (u := bu) ag24 rfl (aa.cell (o := 0) rfl)) (qM (vJ x) ?_))))))
 refine qD rfl (zI dC sz76 (v := bu) rfl rfl c.read (by omega) (by omega)) (qD rfl (yI (off := 1) dF rfl rfl nz40 (z := x) (k := 0) rfl c.read (by omega) (by omega)) ?_)
 obtain ⟨ba, af, bb⟩ := qV (c.at (z := x) (by omega) (by omega)) (j := (x).toNat) rfl
 have br := af.max
 refine qD rfl (bb ag40 rfl (cK f.pins bu)) (qM (vJ (i : Int)) ?_)
 refine qD rfl (zI dB sz3 (v := ba) rfl rfl af (by omega) (by omega)) (qD rfl (zN (r := ((ns.getD (x).toNat default).r).getD i 0) rfl ag3 (z := (i : Int)) rfl af f.pins (by omega) (by omega)) (qI rfl (zO (vs := [vP o, vJ y, vJ (((ns.getD (x).toNat default).r).getD i 0)]) Tryz.func59 nm59 rfl rfl rfl ?_)))
 refine cC (ih f.pins ⟨⟨aa, c, ae, habu, habv, hauv⟩, ab, am, haok, habk, hauk, havk⟩ (by omega) (by omega) (by omega) (by omega) (hkrr.ok.mono (by omega))) ?_
 rintro _ bt ⟨bc, bd, rfl, ao, ag, g⟩
 refine rt9 ?_
 have ap := f.trans g (fun i hi => hlok i hi)
 have aq := c.extS g (notO hauk)
 have ar := ae.extS g (notO havk)
 have au := aa.extS g (yZ habk)
 have av := ab.extS g (yZ haok)
 have bw := ag.len
 refine qe (zA ?_)
 refine c_if rfl rfl (fun ah => ?_) (fun ah => ?_)
 refine w9d ?_
 refine qM (.bool false) ?_
 refine qe (zA ?_)
 exact cN (zQ (zS (v := .bool false) rfl rfl rfl (⟨_, _, cgA eB (gY hoo hx (by omega) ah).symm, ⟨⟨au, aq, ar, habu, habv, hauv⟩, av, ao.ok, haok, habk, hauk, havk⟩, (hkrr.wide ag (by omega)), ap⟩)))
 refine cM (w9c ?_)
 refine qM (vJ (i : Int)) ?_
 refine qD rfl (yP rfl rfl (by omega)) (qM (vJ ((i : Int) + 1)) ?_)
 refine qe (yK (⟨_, ?_, _, rfl, _, i + 1, bc, bd, (pS 7 (pS 2 (pS 1 (pU 0)))), rfl, ap, (cA a6 g.le), (by omega), (hkrr.wide ag (by omega)), (fun q hq => if h3 : q = i then h3 ▸ ah else hpr q (by omega)), ao.ok, aq, ar, au, av⟩))
 omega
 refine cO (zZ (yM (yL (zA (w9b ?_)))))
 refine qM (vJ 0) ?_
 refine qe (zA ?_)
 refine zX (yO (fun k en W => ∃ (t : Nat → Value) (a : Nat) (kql : List Int) (GLl : Pin), en = (upd (upd (upd (upd t 0 (vP o)) 1 (vJ x)) 2 (vJ y)) 8 (vJ (a : Int))) ∧ k = (ns.getD (y).toNat default).l.length - a ∧ Ext (inO kv.ownBlock) G w GLl W ∧ Pin.le GLr GLl ∧ (a ≤ (ns.getD (y).toNat default).l.length) ∧ (KRes ns ks kql (x.toNat + y.toNat)) ∧ (∀ q, q < a → geB ns ((ns.getD (y).toNat default).l.getD q 0) x = false) ∧ (Own eInt 3 GLl W 0 kv (kql)) ∧ (Own eNode 76 GLl W 0 bu (ns)) ∧ (Own eInt 3 GLl W 0 bv (bs)) ∧ (Bx GLl W b [bu, bv]) ∧ (Bx GLl W o [vP b, kv])) _ ⟨_, 0, kqr, GLr, (pS 8 (pS 2 (pS 1 (pU 0)))), rfl, f, cI _, cH _, hkrr, (fun q hq => absurd hq (cJ q)), am, c, ae, aa, ab⟩ ?_)
 rintro bz _ b0 ⟨t, a, kql, GLl, rfl, b1, h, be, b2, hkrl, hpl, aw, d, ai, ac, ad⟩
 have hkll := hkrl.len
 refine w9b ?_
 refine qM (vJ (a : Int)) ?_
 refine qM (vP o) ?_
 refine qD rfl (yU rfl) (qD rfl (zK (k := 0) rfl dS rfl nz90 rfl) (qD rfl (zM (u := vP b) ag90 rfl (ad.cell (o := 0) rfl)) (qD rfl (yU rfl) (qD rfl (zK (k := 0) rfl dJ rfl nz24 rfl) (qD rfl (zM (u := bu) ag24 rfl (ac.cell (o := 0) rfl)) (qM (vJ y) ?_))))))
 refine qD rfl (zI dC sz76 (v := bu) rfl rfl d.read (by omega) (by omega)) (qD rfl (yI (off := 0) dF rfl rfl nz40 (z := y) (k := 0) rfl d.read (by omega) (by omega)) ?_)
 obtain ⟨bf, ax, bg⟩ := jC (d.at (z := y) (by omega) (by omega)) (j := (y).toNat) rfl
 have b3 := ax.max
 refine qD rfl (bg ag40 rfl (cK h.pins bu)) (qD rfl (run_len dB (v := bf) rfl ax) (qD rfl (yR rfl rfl) (qe (zA ?_))))
 refine yE (p := ((a : Int) : Int) < (((ns.getD (y).toNat default).l).length : Int)) rfl rfl (fun bh => ?_) (fun bh => ?_)
 have hki := hoo.left (j := (y).toNat) (i := a) (by omega) (by omega)
 refine cM (zA (zB ?_))
 refine zX (w9d ?_)
 refine qM (vP o) ?_
 refine qM (vP o) ?_
 refine qD rfl (yU rfl) (qD rfl (zK (k := 0) rfl dS rfl nz90 rfl) (qD rfl (zM (u := vP b) ag90 rfl (ad.cell (o := 0) rfl)) (qD rfl (yU rfl) (qD rfl (zK (k := 0) rfl dJ rfl nz24 rfl) (qD rfl (zM (u := bu) ag24 rfl (ac.cell (o := 0) rfl)) (qM (vJ y) ?_))))))
 refine qD rfl (zI dC sz76 (v := bu) rfl rfl d.read (by omega) (by omega)) (qD rfl (yI (off := 0) dF rfl rfl nz40 (z := y) (k := 0) rfl d.read (by omega) (by omega)) ?_)
 obtain ⟨bi, aj, bj⟩ := jC (d.at (z := y) (by omega) (by omega)) (j := (y).toNat) rfl
 have b4 := aj.max
 refine qD rfl (bj ag40 rfl (cK h.pins bu)) (qM (vJ (a : Int)) ?_)
 refine qD rfl (zI dB sz3 (v := bi) rfl rfl aj (by omega) (by omega)) (qD rfl (zN (r := ((ns.getD (y).toNat default).l).getD a 0) rfl ag3 (z := (a : Int)) rfl aj h.pins (by omega) (by omega)) (qM (vJ x) ?_))
 refine qI rfl (zO (vs := [vP o, vJ (((ns.getD (y).toNat default).l).getD a 0), vJ x]) Tryz.func59 nm59 rfl rfl rfl ?_)
 refine cC (ih h.pins ⟨⟨ac, d, ai, habu, habv, hauv⟩, ad, aw, haok, habk, hauk, havk⟩ (by omega) (by omega) (by omega) (by omega) (hkrl.ok.mono (by omega))) ?_
 rintro _ b5 ⟨bl, bm, rfl, ay, ak, s⟩
 refine rt9 ?_
 have az := h.trans s (fun i hi => hlok i hi)
 have a0 := d.extS s (notO hauk)
 have a1 := ai.extS s (notO havk)
 have a2 := ac.extS s (yZ habk)
 have a3 := ad.extS s (yZ haok)
 have b6 := ak.len
 refine qe (zA ?_)
 refine c_if rfl rfl (fun al => ?_) (fun al => ?_)
 refine w9d ?_
 refine qM (.bool false) ?_
 refine qe (zA ?_)
 exact cN (zQ (zS (v := .bool false) rfl rfl rfl (⟨_, _, cgA eB (rE hoo hy (by omega) al).symm, ⟨⟨a2, a0, a1, habu, habv, hauv⟩, a3, ay.ok, haok, habk, hauk, havk⟩, (hkrl.wide ak (by omega)), az⟩)))
 refine cM (w9c ?_)
 refine qM (vJ (a : Int)) ?_
 refine qD rfl (yP rfl rfl (by omega)) (qM (vJ ((a : Int) + 1)) ?_)
 refine qe (yK (⟨_, ?_, _, rfl, _, a + 1, bl, bm, (pS 8 (pS 2 (pS 1 (pU 0)))), rfl, az, (cA be s.le), (by omega), (hkrl.wide ak (by omega)), (fun q hq => if h3 : q = a then h3 ▸ al else hpl q (by omega)), ay.ok, a0, a1, a2, a3⟩))
 omega
 refine cO (zZ (yM (yL (w9a ?_))))
 refine qM (.bool true) ?_
 refine qe (zA ?_)
 exact cN (zQ (zS (v := .bool true) rfl rfl rfl (⟨_, _, cgA eB (geB_yes hoo hx hy (fun q hq => hpr q (by omega)) (fun q hq => hpl q (by omega))).symm, ⟨⟨ac, d, ai, habu, habv, hauv⟩, ad, aw, haok, habk, hauk, havk⟩, hkrl, h⟩)))
theorem geq_step {w : World} {o : Nat} (hP : Pins G w) (hO : Od 76 3 G w o b bu bv kv ns bs ks) (hx : 0 ≤ x ∧ x < ns.length) (hy : 0 ≤ y ∧ y < ns.length) (hkl : ks.length = ns.length * ns.length) (hok : BookOk ns bs) (ih : GeqC m o b bu bv kv ns bs) (hm : x.toNat + y.toNat < m + 1) (hkok : KOk ns ks (x.toNat + y.toNat + 1)) :
  Calls Tryz.prog 59 #[vP o, vJ x, vJ y] w fun e w' => ∃ (ks' : List Int) (G' : Pin), e = .returned (.bool (geB ns x y)) ∧ Od 76 3 G' w' o b bu bv kv ns bs ks' ∧ KRes ns ks ks' (x.toNat + y.toNat + 1) ∧ Ext (inO kv.ownBlock) G w G' w' := by
 refine yA (n := 52) Tryz.func59 Tryz.ntmps59 rfl rfl ?_
 have d := exr (inO kv.ownBlock) hP
 have hB := hO.bk
 have hbx := hB.bx
 have hou := hB.ou
 have hov := hB.ov
 have habu := hB.abu
 have habv := hB.abv
 have hauv := hB.auv
 have hlen := hok.len
 have hlim := hok.lim
 have hox := hO.ox
 have c := hO.ok
 have haok := hO.aok
 have habk := hO.abk
 have hauk := hO.auk
 have havk := hO.avk
 have hlok : Lo w (inO kv.ownBlock) kv.ownBlock := xA
 have hoo : OptsOk ns := hok.optsOk
 have hlens := hok.lens
 have hib := idx_bd hx hy hok.lim
 refine w9d ?_
 refine qM (.bool false) ?_
 refine qe (w9a ?_)
 refine qM (vJ x) ?_
 refine qM (vP o) ?_
 refine qD rfl (yU rfl) (qD rfl (zK (k := 0) rfl dS rfl nz90 rfl) (qD rfl (zM (u := vP b) ag90 rfl (hox.cell (o := 0) rfl)) (qD rfl (yU rfl) (qD rfl (zK (k := 0) rfl dJ rfl nz24 rfl) (qD rfl (zM (u := bu) ag24 rfl (hbx.cell (o := 0) rfl)) (qD rfl (run_len dC (v := bu) rfl hou.read) (qD rfl (r_mul rfl rfl (by omega)) (qM (vJ y) ?_))))))))
 refine qD rfl (yP rfl rfl (by omega)) (qM (vJ ((x * (ns.length : Int)) + y)) ?_)
 refine qe (zA (w9b ?_))
 refine qM (vP o) ?_
 refine qD rfl (yU rfl) (qD rfl (zK (k := 1) rfl dS rfl nz40 rfl) (qD rfl (zM (u := kv) ag40 rfl (hox.cell (o := 1) rfl)) (qM (vJ ((x * (ns.length : Int)) + y)) ?_)))
 refine qD rfl (zI dB sz3 (v := kv) rfl rfl c.read (by omega) (by omega)) (qD rfl (zN (r := ks.getD ((x * (ns.length : Int)) + y).toNat 0) rfl ag3 (z := (x * (ns.length : Int)) + y) rfl c.read (cK d.pins kv) (by omega) (by omega)) (qD rfl (xY rfl rfl) (qe (zA ?_))))
 refine yE (p := (ks.getD ((x * (ns.length : Int)) + y).toNat 0 : Int) = 0) rfl rfl (fun h1 => ?_) (fun h1 => ?_)
 refine w9d ?_
 refine qM (vP o) ?_
 refine qD rfl (yU rfl) (qD rfl (zK (k := 1) rfl dS rfl nz40 rfl) (qD rfl (zM (u := kv) ag40 rfl (hox.cell (o := 1) rfl)) (qM (vJ ((x * (ns.length : Int)) + y)) ?_)))
 refine qD rfl (zI dB sz3 (v := kv) rfl rfl c.read (by omega) (by omega)) (q0 rfl rfl rfl (jL (E := eInt) (v := kv) (u := vJ 2) (z := (x * (ns.length : Int)) + y) (2) sz3 rfl rfl rfl rfl d.pins c (by omega) (by omega) (fun w2 an ao f az => ?_)))
 have ac := d.write ao f (hlok)
 have ad := hou.keptA f hauk
 have ae := hov.keptA f havk
 have af := hbx.keptA f habk
 have ag := hox.keptA f haok
 have ap : Own eInt 3 G w2 0 kv ((ks).set ((x * (ns.length : Int)) + y).toNat 2) := an
 have a0 : ((ks).set ((x * (ns.length : Int)) + y).toNat 2).length = ks.length := cR ..
 refine qe (w9a ?_)
 refine qM (vP o) ?_
 refine qM (vJ x) ?_
 refine qM (vJ y) ?_
 refine qI rfl (zO (vs := [vP o, vJ x, vJ y]) Tryz.func76 nm76 rfl rfl rfl ?_)
 refine cC (look_spec ac.pins ⟨⟨af, ad, ae, habu, habv, hauv⟩, ag, ap, haok, habk, hauk, havk⟩ hx hy (by rw [cR]; exact hkl) hok ih (by omega) (KRes.prov hx hy hkok).1) ?_
 rintro _ a1 ⟨a, aq, rfl, g, s, h⟩
 refine rt9 ?_
 have l := ac.trans h (fun i hi => hlok i hi)
 have ah := ad.extS h (notO hauk)
 have ai := ae.extS h (notO havk)
 have aj := af.extS h (yZ habk)
 have q := ag.extS h (yZ haok)
 have a2 := s.len
 refine qe (zA ?_)
 refine c_if rfl rfl (fun t => ?_) (fun t => ?_)
 refine zC (qM (vP o) ?_)
 refine qD rfl (yU rfl) (qD rfl (zK (k := 1) rfl dS rfl nz40 rfl) (qD rfl (zM (u := kv) ag40 rfl (q.cell (o := 1) rfl)) (qM (vJ ((x * (ns.length : Int)) + y)) ?_)))
 refine qD rfl (zI dB sz3 (v := kv) rfl rfl g.ok.read (by omega) (by omega)) (q0 rfl rfl rfl (jL (E := eInt) (v := kv) (u := vJ 1) (z := (x * (ns.length : Int)) + y) (1) sz3 rfl rfl rfl rfl l.pins g.ok (by omega) (by omega) (fun ar au av j a3 => ?_)))
 have ak := l.write av j (hlok)
 have aw := ah.keptA j hauk
 have ax := ai.keptA j havk
 have ay := aj.keptA j habk
 have al := q.keptA j haok
 have aa : Own eInt 3 aq ar 0 kv ((a).set ((x * (ns.length : Int)) + y).toNat 1) := au
 have a4 : ((a).set ((x * (ns.length : Int)) + y).toNat 1).length = a.length := cR ..
 refine qe (w9a ?_)
 refine qM (vP o) ?_
 refine qD rfl (yU rfl) (qD rfl (zK (k := 1) rfl dS rfl nz40 rfl) (qD rfl (zM (u := kv) ag40 rfl (al.cell (o := 1) rfl)) (qM (vJ ((x * (ns.length : Int)) + y)) ?_)))
 refine qD rfl (zI dB sz3 (v := kv) rfl rfl aa.read (by omega) (by omega)) (qD rfl (zN (r := ((a).set ((x * (ns.length : Int)) + y).toNat 1).getD ((x * (ns.length : Int)) + y).toNat 0) rfl ag3 (z := (x * (ns.length : Int)) + y) rfl aa.read (cK ak.pins kv) (by omega) (by omega)) (qD rfl (xY rfl rfl) (qM (.bool (decide ((((a).set ((x * (ns.length : Int)) + y).toNat 1).getD ((x * (ns.length : Int)) + y).toNat 0 : Int) = 1))) ?_)))
 refine qe (zA ?_)
 refine cN (zQ (zS (v := .bool (decide ((((a).set ((x * (ns.length : Int)) + y).toNat 1).getD ((x * (ns.length : Int)) + y).toNat 0 : Int) = 1))) rfl rfl rfl ?_))
 have htold := KRes.told hx hy hkl hkok s (if_pos t).symm
 exact ⟨_, _, cgA eB htold.2, ⟨⟨ay, aw, ax, habu, habv, hauv⟩, al, aa, haok, habk, hauk, havk⟩, htold.1, ak⟩
 refine cM (w9a ?_)
 refine qM (vP o) ?_
 refine qD rfl (yU rfl) (qD rfl (zK (k := 1) rfl dS rfl nz40 rfl) (qD rfl (zM (u := kv) ag40 rfl (q.cell (o := 1) rfl)) (qM (vJ ((x * (ns.length : Int)) + y)) ?_)))
 refine qD rfl (zI dB sz3 (v := kv) rfl rfl g.ok.read (by omega) (by omega)) (qD rfl (zN (r := a.getD ((x * (ns.length : Int)) + y).toNat 0) rfl ag3 (z := (x * (ns.length : Int)) + y) rfl g.ok.read (cK l.pins kv) (by omega) (by omega)) (qD rfl (xY rfl rfl) (qM (.bool (decide ((a.getD ((x * (ns.length : Int)) + y).toNat 0 : Int) = 1))) ?_)))
 refine qe (zA ?_)
 refine cN (zQ (zS (v := .bool (decide ((a.getD ((x * (ns.length : Int)) + y).toNat 0 : Int) = 1))) rfl rfl rfl ?_))
 have htold := KRes.told hx hy hkl hkok s (if_neg (by rw [t]; decide)).symm
 exact ⟨_, _, cgA eB htold.2, ⟨⟨aj, ah, ai, habu, habv, hauv⟩, q, g.ok, haok, habk, hauk, havk⟩, htold.1, l⟩
 refine cM (w9a ?_)
 refine qM (vP o) ?_
 refine qD rfl (yU rfl) (qD rfl (zK (k := 1) rfl dS rfl nz40 rfl) (qD rfl (zM (u := kv) ag40 rfl (hox.cell (o := 1) rfl)) (qM (vJ ((x * (ns.length : Int)) + y)) ?_)))
 refine qD rfl (zI dB sz3 (v := kv) rfl rfl c.read (by omega) (by omega)) (qD rfl (zN (r := ks.getD ((x * (ns.length : Int)) + y).toNat 0) rfl ag3 (z := (x * (ns.length : Int)) + y) rfl c.read (cK d.pins kv) (by omega) (by omega)) (qD rfl (xY rfl rfl) (qM (.bool (decide ((ks.getD ((x * (ns.length : Int)) + y).toNat 0 : Int) = 1))) ?_)))
 refine qe (zA ?_)
 exact cN (zQ (zS (v := .bool (decide ((ks.getD ((x * (ns.length : Int)) + y).toNat 0 : Int) = 1))) rfl rfl rfl (⟨_, _, cgA eB (KOk.known hx hy hkok h1), ⟨⟨hbx, hou, hov, habu, habv, hauv⟩, hox, c, haok, habk, hauk, havk⟩, KRes.refl hkok, d⟩)))
theorem geq_all {o b : Nat} {bu bv kv : Value} {ns : List Nd} {bs : List Int} (hok : BookOk ns bs) : ∀ m, GeqC m o b bu bv kv ns bs
 | 0 => fun _ _ _ _ _ h _ => absurd h (cJ _)
 | m + 1 => fun hP hO hx hy hkl hm hk => geq_step hP hO hx hy hkl hok (geq_all hok m) hm hk
theorem geq_spec {w : World} {o : Nat} (hP : Pins G w) (hO : Od 76 3 G w o b bu bv kv ns bs ks) (hx : 0 ≤ x ∧ x < ns.length) (hy : 0 ≤ y ∧ y < ns.length) (hkl : ks.length = ns.length * ns.length) (hok : BookOk ns bs) (hkok : KOk ns ks (x.toNat + y.toNat + 1)) :
  Calls Tryz.prog 59 #[.pointer (some ⟨o, 0, none⟩), .int .i64 x, .int .i64 y] w fun e w' => ∃ (ks' : List Int) (G' : Pin), e = .returned (.bool (geB ns x y)) ∧ Od 76 3 G' w' o b bu bv kv ns bs ks' ∧ KRes ns ks ks' (x.toNat + y.toNat + 1) ∧ Ext (inO kv.ownBlock) G w G' w' :=
 geq_all hok _ hP hO hx hy hkl (Nat.lt_succ_self _) hkok
end OR1
namespace SF1
open B1 C1 D1 E1 OR1
theorem mk3 : (Tryz.prog.info? 3).map (fun i => (i.size, i.bytes, i.zero)) = some (1, 8, some (.int .i64 0)) := by kernel_rfl
theorem pl117 : (Tryz.prog.underlying 117).bind (placesD Tryz.prog) = some [(0, 1), (1, 1)] := by kernel_rfl
theorem pl92 : (Tryz.prog.underlying 92).bind (placesD Tryz.prog) = some [(0, 1), (1, 1)] := by kernel_rfl
variable {G : Pin}
theorem nU {w : World} {b : Nat} {bu bv : Value} {ns : List Nd} {bs : List Int} (hP : Pins G w) (hB : Bk 76 3 G w b bu bv ns bs) (hok : BookOk ns bs) :
  Calls Tryz.prog 58 #[vP b] w fun e w' => ∃ (o : Nat) (kv : Value) (G' : Pin), e = .returned (vP o) ∧ Bx G' w' o [.pointer (some ⟨b, 0, none⟩), kv] ∧ Own eInt 3 G' w' w.heap.size kv (List.replicate (ns.length * ns.length) 0) ∧ w.heap.size ≤ o ∧ Apart (some o) kv.ownBlock ∧ Ext noS G w G' w' := by
 refine yA (n := 18) Tryz.func58 Tryz.ntmps58 rfl rfl ?_
 have j := exr noS hP
 have hbx := hB.bx
 have hou := hB.ou
 have hov := hB.ov
 have habu := hB.abu
 have habv := hB.abv
 have hauv := hB.auv
 have hlen := hok.len
 have hlim := hok.lim
 have hsq := sq_bd hok.lim
 refine w9d ?_
 refine qM (.pointer none) ?_
 refine qe (zA (zB ?_))
 have aa := cK j.pins bu
 have x := hou.read
 refine yQ (S := fun wz => BxR wz b [bu, bv] ∧ Pins (Gadd G w bu) wz) (last := 16) (by kernel_rfl) rfl ?_
 have f := bdr w
 have ab := j.pins.below f
 have l := j.step ab f
 have a := hbx.below f
 have c := aa.below f
 refine dT (i := 0) rfl rfl (by kernel_rfl) (fun _ _ => zU (v := vP b) rfl) ⟨a.reads, c⟩ ?_
 refine dT (i := 1) rfl rfl (by kernel_rfl) (fun _ _ => zU (v := vP b) rfl) ⟨a.reads, c⟩ ?_
 refine dT (i := 2) rfl rfl (by kernel_rfl) (fun _ _ => yU rfl) ⟨a.reads, c⟩ ?_
 refine dT (i := 3) rfl rfl (by kernel_rfl) (fun _ _ => zK (k := 0) rfl dJ rfl nz24 rfl) ⟨a.reads, c⟩ ?_
 refine dT (i := 4) rfl rfl (by kernel_rfl) (fun _ hS => zM (u := bu) ag24 rfl (hS.1 0 _ rfl)) ⟨a.reads, c⟩ ?_
 refine dT (i := 5) rfl rfl (by kernel_rfl) (fun _ _ => run_len dC (v := bu) rfl x) ⟨a.reads, c⟩ ?_
 refine dT (i := 6) rfl rfl (by kernel_rfl) (fun _ _ => zU (v := vP b) rfl) ⟨a.reads, c⟩ ?_
 refine dT (i := 7) rfl rfl (by kernel_rfl) (fun _ _ => yU rfl) ⟨a.reads, c⟩ ?_
 refine dT (i := 8) rfl rfl (by kernel_rfl) (fun _ _ => zK (k := 0) rfl dJ rfl nz24 rfl) ⟨a.reads, c⟩ ?_
 refine dT (i := 9) rfl rfl (by kernel_rfl) (fun _ hS => zM (u := bu) ag24 rfl (hS.1 0 _ rfl)) ⟨a.reads, c⟩ ?_
 refine dT (i := 10) rfl rfl (by kernel_rfl) (fun _ _ => run_len dC (v := bu) rfl x) ⟨a.reads, c⟩ ?_
 refine dT (i := 11) rfl rfl (by kernel_rfl) (fun _ _ => r_mul rfl rfl (by omega)) ⟨a.reads, c⟩ ?_
 refine dP (i := 12) rfl rfl (fG (E := eInt) 0 8 (vJ 0) dB mk3 (fun _ => rfl) rfl rfl l.pins (by omega) (by omega) (by omega) (fun d ac ad ae m am => ?_))
 have p := l.step ae m
 have q := a.below m
 have r : Own eInt 3 G ac w.heap.size d (List.replicate ((ns.length : Int) * (ns.length : Int)).toNat 0) := ad.weaken l.size
 have an : (List.replicate ((ns.length : Int) * (ns.length : Int)).toNat 0).length = ((ns.length : Int) * (ns.length : Int)).toNat := List.length_replicate ..
 have s := c.below m
 refine ⟨fun _ => ⟨q.reads, s⟩, ?_⟩
 refine dT (i := 13) rfl rfl (by kernel_rfl) (fun _ _ => xQ [.pointer none, vN] [vP b, d] [(0, (vP b), [vP b]), (1, d, [d])] dS zr117 rfl pl117 rfl (cL.2 ⟨rfl, (cL.2 ⟨(xB r.one), (fun _ h => by cases h)⟩)⟩) rfl) ⟨q.reads, s⟩ ?_
 refine dP (i := 14) rfl rfl (xH [vP b, d] (v := .agg #[vP b, d]) rfl rfl p.pins (fun t ao af ag ah g => ?_))
 have ai := p.step ah g
 have aj := r.below g
 have y := q.below g
 have ak := zL (cgA some af) r.lt
 have al : w.heap.size ≤ t := by have := p.size; omega
 have z := s.below g
 refine ⟨fun _ => ⟨y.reads, z⟩, ?_⟩
 refine dT (i := 15) rfl rfl (by kernel_rfl) (fun _ _ => jB (v := vP t) rfl) ⟨y.reads, z⟩ ?_
 refine zY (by kernel_rfl) (zA (cN (zQ (zS (v := vP t) rfl rfl rfl ?_))))
 have hrow := aj
 rw [sq_nat] at hrow
 exact ⟨_, _, _, rfl, ag, hrow, al, ak, ai⟩
theorem jP {w : World} {u v : Value} {ax bs : List Nd} (hP : Pins G w) (hu : RSl eNode G u ax) (hv : RSl eNode G v bs) (ha : FormOk ax ∧ 1 ≤ ax.length) (hb : FormOk bs ∧ 1 ≤ bs.length) (hl : ax.length + bs.length ≤ 1048576) :
  Calls Tryz.prog 30 [.agg #[u], .agg #[v]].toArray w fun e w' => ∃ G', e = .returned (.bool (decP (geG (gOf ax) (gOf bs)))) ∧ Ext noS G w G' w' := by
 refine yA (n := 21) Tryz.func30 Tryz.ntmps30 rfl rfl ?_
 have p := exr noS hP
 have g := jD qO ha.1 (by simp; omega)
 have hlen := g.hi
 simp only [List.length_nil, cQ] at hlen
 have k := jD g.book hb.1 (by omega)
 have aj := gL g ha.2
 have ak := gL k hb.2
 have b0 := k.lo
 have hge := ge_roots ha hb hl _ _ rfl rfl
 refine w9d ?_
 refine qI rfl (xH [u] (v := .agg #[u]) rfl rfl p.pins (fun b1 w2 b3 am an ao => ?_))
 have ap := p.step an ao
 have aq : w.heap.size ≤ b1 := by have := p.size; omega
 obtain ⟨G9, ac, q, ar, b5⟩ := am.shut ap aq
 refine qI rfl (xH [v] (v := .agg #[v]) rfl rfl q.pins (fun au b6 b7 av aw ay => ?_))
 have az := q.step aw ay
 have a0 : w.heap.size ≤ au := by have := q.size; omega
 obtain ⟨b8, r, s, a1, b9⟩ := av.shut az a0
 refine qM (.bool false) ?_
 refine qe (w9a ?_)
 refine qD rfl (xQ [vN, vN] [vN, vN] [] dJ zr92 rfl pl92 rfl (fun _ h => by cases h) rfl) (qI rfl (xH [vN, vN] (v := .agg #[vN, vN]) rfl rfl s.pins (fun a ca cb a2 a3 a4 => ?_)))
 have d := s.step a3 a4
 have ad : w.heap.size ≤ a := by have := s.size; omega
 refine qM (vP a) ?_
 refine qe (w9a ?_)
 refine qM (vP a) ?_
 refine qD rfl (zR (cs := [u]) ag26 sz26 rfl (fun j u hj => (cB d.pins r) _ _ _ (ar _ _ (by simpa using hj)))) (qI rfl (zO (vs := [vP a, .agg #[u]]) Tryz.func52 nm52 rfl rfl rfl ?_))
 refine cC (jI d.pins ⟨a2, (Own.nil _ _ _ _ _), (Own.nil _ _ _ _ _), apart_none.symm, apart_none.symm, apart_none⟩ qO (hu.mono (cA ac r)) ha (by first | omega | (simp; omega))) ?_
 rintro _ cc ⟨a5, a6, cd, rfl, b, t, a7, a8⟩
 refine rt9 ?_
 have x : ∀ i, inS a vN vN i → w.heap.size ≤ i ∨ noS i := kE (zW ad) (vZ _ _) (vZ _ _)
 have f := d.trans t x
 have a9 := b.bx
 have ba := b.ou
 have bb := b.ov
 have bc := b.abu
 have bd := b.abv
 have be := b.auv
 have bf := xU a7 x d.size
 have bg := xU a8 x d.size
 refine qM (vJ (rootM ([]) ([]) ax)) ?_
 refine qe (w9a ?_)
 refine qM (vP a) ?_
 refine qD rfl (zR (cs := [v]) ag26 sz26 rfl (fun j u hj => (cB f.pins t.le) _ _ _ (a1 _ _ (by simpa using hj)))) (qI rfl (zO (vs := [vP a, .agg #[v]]) Tryz.func52 nm52 rfl rfl rfl ?_))
 refine cC (jI f.pins ⟨a9, ba, bb, bc, bd, be⟩ g.book (hv.mono (cA (cA ac r) t.le)) hb (by first | omega | (simp; omega))) ?_
 rintro _ ce ⟨cf, cg, ch, rfl, c, bh, bi, bj⟩
 refine rt9 ?_
 have y : ∀ i, inS a a5 a6 i → w.heap.size ≤ i ∨ noS i := kE (zW ad) bf bg
 have l := f.trans bh y
 have z := c.bx
 have aa := c.ou
 have ab := c.ov
 have ae := c.abu
 have af := c.abv
 have ag := c.auv
 have ci := xU bi y f.size
 have cj := xU bj y f.size
 refine qM (vJ (rootM ((addM ([]) ([]) ax).2.1) ((addM ([]) ([]) ax).2.2) bs)) ?_
 refine qe (w9a ?_)
 refine qM (vP a) ?_
 refine qI rfl (zO (vs := [vP a]) Tryz.func58 nm58 rfl rfl rfl ?_)
 refine cC (nU l.pins ⟨z, aa, ab, ae, af, ag⟩ k.book) ?_
 rintro _ ck ⟨bk, cl, cm, rfl, bl, m, bm, bn, o⟩
 refine rt9 ?_
 have ah := l.tr o
 have bo := aa.ext o
 have bp := ab.ext o
 have bq := z.ext o
 have br := zT m.lt aa.lt
 have bt := zT m.lt ab.lt
 have bu := zV m.lt z.lt
 have cn := cP l.size bm
 have ai := m.weaken l.size
 refine qM (vJ (rootM ([]) ([]) ax)) ?_
 refine qM (vJ (rootM ((addM ([]) ([]) ax).2.1) ((addM ([]) ([]) ax).2.2) bs)) ?_
 refine qI rfl (zO (vs := [vP bk, vJ (rootM ([]) ([]) ax), vJ (rootM ((addM ([]) ([]) ax).2.1) ((addM ([]) ([]) ax).2.2) bs)]) Tryz.func59 nm59 rfl rfl rfl ?_)
 refine cC (geq_spec ah.pins ⟨⟨bq, bo, bp, ae, af, ag⟩, bl, (ai.weaken (cH _)), bn, bu.symm, br.symm, bt.symm⟩ ⟨aj.1, by omega⟩ ak (by simp) k.book KOk.zero) ?_
 rintro _ co ⟨cp, cq, rfl, cr, bv, bw⟩
 refine rt9 ?_
 have bz := ah.trans bw (fun i hi => (yG ai) i hi)
 have ct := bv.len
 refine qM (.bool (geB ((addM ((addM ([]) ([]) ax).2.1) ((addM ([]) ([]) ax).2.2) bs).2.1) (rootM ([]) ([]) ax) (rootM ((addM ([]) ([]) ax).2.1) ((addM ([]) ([]) ax).2.2) bs))) ?_
 refine qe (zA ?_)
 exact cN (zQ (zS (v := .bool (geB ((addM ((addM ([]) ([]) ax).2.1) ((addM ([]) ([]) ax).2.2) bs).2.1) (rootM ([]) ([]) ax) (rootM ((addM ([]) ([]) ax).2.1) ((addM ([]) ([]) ax).2.2) bs))) rfl rfl rfl (⟨_, cgA eB hge.1, bz⟩)))
end SF1
namespace P1
open B1 C1 E1
theorem eg66 : (Tryz.prog.eqGuardType Tryz.prog.depth 66) = false := by kernel_rfl
variable {G : Pin} {u v cr cl : Value} {ns bs : List Nd} {x y : Int} {ps : List Cl}
theorem mY {w : World} (hP : Pins G w) (hu : RSl eNode G u ns) (hv : RSl eNode G v bs) (hx : 0 ≤ x ∧ x < ns.length) (hy : 0 ≤ y ∧ y < bs.length) (hs : (ns.getD x.toNat default).l.length ≤ 1048576 ∧ (bs.getD y.toNat default).r.length ≤ 1048576) :
  Calls Tryz.prog 46 #[u, v, vJ x, vJ y] w fun e w' => ∃ (u : Value) (G' : Pin), e = .returned u ∧ Own eP2 66 G' w' w.heap.size u (rightsP ns bs x y) ∧ Ext noS G w G' w' := by
 refine yA (n := 50) Tryz.func46 Tryz.ntmps46 rfl rfl ?_
 have aa := exr noS hP
 refine w9d ?_
 refine qM vN ?_
 refine qe (w9a ?_)
 refine qI rfl (xD (E := eP2) (e := 66) dU sz66 aa.pins (fun u1 w2 au av aw bj => ?_))
 have ag := aa.step av aw
 have ax := au.weaken aa.size
 refine qM u1 ?_
 refine qe (zA (w9b ?_))
 refine qM u ?_
 refine qM (vJ x) ?_
 refine qD rfl (zI dC sz76 (v := u) rfl rfl hu (by omega) (by omega)) (qD rfl (yI (off := 0) dF rfl rfl nz40 (z := x) (k := 0) rfl hu (by omega) (by omega)) ?_)
 obtain ⟨u9, i, ay⟩ := jC (hu.at (z := x) (by omega) (by omega)) (j := (x).toNat) rfl
 have bk := i.max
 refine qD rfl (ay ag40 rfl ag.pins) (qD rfl (run_len dB (v := u9) rfl i) (qM (vJ 0) ?_))
 refine qe (zA ?_)
 refine zX (yO (fun k en W => ∃ (d : Nat → Value) (j : Nat) (o : Value) (os : List (Int × Int)), en = (upd (upd (upd (upd (upd (upd (upd (upd d 1 v) 2 (vJ x)) 3 (vJ y)) 8 vN) 9 o) 19 u9) 20 (vJ (((ns.getD (x).toNat default).l).length : Int))) 21 (vJ (j : Int))) ∧ k = (ns.getD x.toNat default).l.length - j ∧ Ext noS G w G W ∧ (j ≤ (ns.getD x.toNat default).l.length) ∧ (os = ((ns.getD x.toNat default).l.take j).map (fun l => (l, y))) ∧ (os.length = j) ∧ (Own eP2 66 G W w.heap.size o (os))) _ ⟨_, 0, u1, [], (pS 21 (pS 20 (pS 19 (pS 9 (pS 8 (pS 3 (pS 2 (pU 1)))))))), rfl, ag, cH _, rfl, rfl, ax⟩ ?_)
 rintro bl _ bm ⟨d, j, o, os, rfl, bn, c, hj, hr, hol, ah⟩
 refine w9d ?_
 refine qD rfl (yR rfl rfl) (qe (zA (zB ?_)))
 refine yE (p := ((j : Int) : Int) < (((ns.getD (x).toNat default).l).length : Int)) rfl rfl (fun az => ?_) (fun az => ?_)
 refine cM (zA (zB ?_))
 refine zX (w9d ?_)
 refine qD rfl (zI dB sz3 (v := u9) rfl rfl i (by omega) (by omega)) (qD rfl (zN (r := ((ns.getD (x).toNat default).l).getD j 0) rfl ag3 (z := (j : Int)) rfl i c.pins (by omega) (by omega)) (qM (vJ (((ns.getD (x).toNat default).l).getD j 0)) ?_))
 refine qe (zA (zC ?_))
 refine qM o ?_
 refine qM (vJ (((ns.getD (x).toNat default).l).getD j 0)) ?_
 refine qM (vJ y) ?_
 refine qD rfl (kI (m := 1) [vJ 0, vJ 0] [vJ (((ns.getD (x).toNat default).l).getD j 0), vJ y] [(0, (vJ (((ns.getD (x).toNat default).l).getD j 0)), [vJ (((ns.getD (x).toNat default).l).getD j 0)]), (1, (vJ y), [vJ y])] dV zr66 rfl sz3 rfl (cL.2 ⟨rfl, (cL.2 ⟨rfl, (fun _ h => by cases h)⟩)⟩) rfl) (qI rfl (xF (E := eP2) (e := 66) [vJ (((ns.getD (x).toNat default).l).getD j 0), vJ y] (((ns.getD (x).toNat default).l).getD j 0, y) dU sz66 zr66 rfl rfl (by decide) c.pins (fun ai a0 a1 a2 aj bo => ?_)))
 have ad := c.step a2 aj
 have ak := ah.below aj
 have a3 := a1.weaken c.size
 refine qI rfl (oA (E := eP2) (v := o) (u := ai) 16 dU ap66 (by decide) rfl rfl ad.pins ak a3.src (ad.size) (fun al bp a4 a5 a6 bq => ?_))
 have a7 := ad.write a5 a6 ((yG ak))
 have br := la1 os (((ns.getD (x).toNat default).l).getD j 0, y)
 refine qM al ?_
 refine qe (w9c ?_)
 refine qD rfl (yP rfl rfl (by omega)) (qM (vJ ((j : Int) + 1)) ?_)
 refine qe (yK (⟨_, ?_, _, rfl, _, j + 1, al, os ++ [((ns.getD x.toNat default).l.getD j 0, y)], (pS 21 (pS 20 (pS 19 (pS 9 (pS 8 (pS 3 (pS 2 (pU 1)))))))), rfl, a7, (by omega), (by rw [hr]; exact kN (f := (fun l => (l, y))) 0 (by omega)), (by rw [List.length_append, hol]; rfl), a4⟩))
 omega
 refine cO (zZ (yM (yL (zA (w9b ?_)))))
 refine qM v ?_
 refine qM (vJ y) ?_
 refine qD rfl (zI dC sz76 (v := v) rfl rfl hv (by omega) (by omega)) (qD rfl (yI (off := 1) dF rfl rfl nz40 (z := y) (k := 0) rfl hv (by omega) (by omega)) ?_)
 obtain ⟨ae, s, a8⟩ := qV (hv.at (z := y) (by omega) (by omega)) (j := (y).toNat) rfl
 have bt := s.max
 refine qD rfl (a8 ag40 rfl c.pins) (qD rfl (run_len dB (v := ae) rfl s) (qM (vJ 0) ?_))
 refine qe (zA ?_)
 refine zX (yO (fun k en W => ∃ (d : Nat → Value) (q : Nat) (a : Value) (b : List (Int × Int)), en = (upd (upd (upd (upd (upd (upd d 2 (vJ x)) 8 vN) 9 a) 36 ae) 37 (vJ (((bs.getD (y).toNat default).r).length : Int))) 38 (vJ (q : Int))) ∧ k = (bs.getD y.toNat default).r.length - q ∧ Ext noS G w G W ∧ (q ≤ (bs.getD y.toNat default).r.length) ∧ (b = os ++ ((bs.getD y.toNat default).r.take q).map (fun k => (x, k))) ∧ (b.length = j + q) ∧ (Own eP2 66 G W w.heap.size a (b))) _ ⟨_, 0, o, os, (pS 38 (pS 37 (pS 36 (pS 9 (pS 8 (pU 2)))))), rfl, c, cH _, (by simp), hol, ah⟩ ?_)
 rintro bu _ bv ⟨d, q, a, b, rfl, bw, g, hq, t, a9, am⟩
 refine w9d ?_
 refine qD rfl (yR rfl rfl) (qe (zA (zB ?_)))
 refine yE (p := ((q : Int) : Int) < (((bs.getD (y).toNat default).r).length : Int)) rfl rfl (fun ba => ?_) (fun ba => ?_)
 refine cM (zA (zB ?_))
 refine zX (w9d ?_)
 refine qD rfl (zI dB sz3 (v := ae) rfl rfl s (by omega) (by omega)) (qD rfl (zN (r := ((bs.getD (y).toNat default).r).getD q 0) rfl ag3 (z := (q : Int)) rfl s g.pins (by omega) (by omega)) (qM (vJ (((bs.getD (y).toNat default).r).getD q 0)) ?_))
 refine qe (zA (zC ?_))
 refine qM a ?_
 refine qM (vJ x) ?_
 refine qM (vJ (((bs.getD (y).toNat default).r).getD q 0)) ?_
 refine qD rfl (kI (m := 1) [vJ 0, vJ 0] [vJ x, vJ (((bs.getD (y).toNat default).r).getD q 0)] [(0, (vJ x), [vJ x]), (1, (vJ (((bs.getD (y).toNat default).r).getD q 0)), [vJ (((bs.getD (y).toNat default).r).getD q 0)])] dV zr66 rfl sz3 rfl (cL.2 ⟨rfl, (cL.2 ⟨rfl, (fun _ h => by cases h)⟩)⟩) rfl) (qI rfl (xF (E := eP2) (e := 66) [vJ x, vJ (((bs.getD (y).toNat default).r).getD q 0)] (x, ((bs.getD (y).toNat default).r).getD q 0) dU sz66 zr66 rfl rfl (by decide) g.pins (fun an bb bc bd ao bx => ?_)))
 have af := g.step bd ao
 have ap := am.below ao
 have be := bc.weaken g.size
 refine qI rfl (oA (E := eP2) (v := a) (u := an) 16 dU ap66 (by decide) rfl rfl af.pins ap be.src (af.size) (fun aq bz bf bg bh b0 => ?_))
 have bi := af.write bg bh ((yG ap))
 have b1 := la1 b (x, ((bs.getD (y).toNat default).r).getD q 0)
 refine qM aq ?_
 refine qe (w9c ?_)
 refine qD rfl (yP rfl rfl (by omega)) (qM (vJ ((q : Int) + 1)) ?_)
 refine qe (yK (⟨_, ?_, _, rfl, _, q + 1, aq, b ++ [(x, (bs.getD y.toNat default).r.getD q 0)], (pS 38 (pS 37 (pS 36 (pS 9 (pS 8 (pU 2)))))), rfl, bi, (by omega), (by rw [t, List.append_assoc]; exact cgA (os ++ ·) (kN (f := (fun k => (x, k))) 0 (by omega))), (by rw [List.length_append, a9]; rfl), bf⟩))
 omega
 refine cO (zZ (yM (yL (w9a ?_))))
 refine qM a ?_
 refine qM a ?_
 refine qe (zA ?_)
 refine cN (zQ (zS (v := a) rfl rfl rfl ?_))
 rw [qZ (by omega)] at hr t
 rw [hr] at t
 exact ⟨_, _, rfl, (by unfold rightsP; rw [← t]; exact am), g⟩
theorem sE {w : World} (hP : Pins G w) (hu : RSl eNode G u ns) (hv : RSl eNode G v bs) (hx : 0 ≤ x ∧ x < ns.length) (hy : 0 ≤ y ∧ y < bs.length) (hs : (ns.getD x.toNat default).l.length ≤ 1048576 ∧ (bs.getD y.toNat default).r.length ≤ 1048576) :
  Calls Tryz.prog 47 #[u, v, vJ x, vJ y] w fun e w' => ∃ (u : Value) (G' : Pin), e = .returned u ∧ Own eP2 66 G' w' w.heap.size u (leftsP ns bs x y) ∧ Ext noS G w G' w' := by
 refine yA (n := 50) Tryz.func47 Tryz.ntmps47 rfl rfl ?_
 have aa := exr noS hP
 refine w9d ?_
 refine qM vN ?_
 refine qe (w9a ?_)
 refine qI rfl (xD (E := eP2) (e := 66) dU sz66 aa.pins (fun u1 w2 au av aw bj => ?_))
 have ag := aa.step av aw
 have ax := au.weaken aa.size
 refine qM u1 ?_
 refine qe (zA (w9b ?_))
 refine qM u ?_
 refine qM (vJ x) ?_
 refine qD rfl (zI dC sz76 (v := u) rfl rfl hu (by omega) (by omega)) (qD rfl (yI (off := 0) dF rfl rfl nz40 (z := x) (k := 0) rfl hu (by omega) (by omega)) ?_)
 obtain ⟨u9, i, ay⟩ := jC (hu.at (z := x) (by omega) (by omega)) (j := (x).toNat) rfl
 have bk := i.max
 refine qD rfl (ay ag40 rfl ag.pins) (qD rfl (run_len dB (v := u9) rfl i) (qM (vJ 0) ?_))
 refine qe (zA ?_)
 refine zX (yO (fun k en W => ∃ (d : Nat → Value) (j : Nat) (o : Value) (os : List (Int × Int)), en = (upd (upd (upd (upd (upd (upd (upd (upd d 1 v) 2 (vJ x)) 3 (vJ y)) 8 vN) 9 o) 19 u9) 20 (vJ (((ns.getD (x).toNat default).l).length : Int))) 21 (vJ (j : Int))) ∧ k = (ns.getD x.toNat default).l.length - j ∧ Ext noS G w G W ∧ (j ≤ (ns.getD x.toNat default).l.length) ∧ (os = ((ns.getD x.toNat default).l.take j).map (fun k => (k, y))) ∧ (os.length = j) ∧ (Own eP2 66 G W w.heap.size o (os))) _ ⟨_, 0, u1, [], (pS 21 (pS 20 (pS 19 (pS 9 (pS 8 (pS 3 (pS 2 (pU 1)))))))), rfl, ag, cH _, rfl, rfl, ax⟩ ?_)
 rintro bl _ bm ⟨d, j, o, os, rfl, bn, c, hj, hr, hol, ah⟩
 refine w9d ?_
 refine qD rfl (yR rfl rfl) (qe (zA (zB ?_)))
 refine yE (p := ((j : Int) : Int) < (((ns.getD (x).toNat default).l).length : Int)) rfl rfl (fun az => ?_) (fun az => ?_)
 refine cM (zA (zB ?_))
 refine zX (w9d ?_)
 refine qD rfl (zI dB sz3 (v := u9) rfl rfl i (by omega) (by omega)) (qD rfl (zN (r := ((ns.getD (x).toNat default).l).getD j 0) rfl ag3 (z := (j : Int)) rfl i c.pins (by omega) (by omega)) (qM (vJ (((ns.getD (x).toNat default).l).getD j 0)) ?_))
 refine qe (zA (zC ?_))
 refine qM o ?_
 refine qM (vJ (((ns.getD (x).toNat default).l).getD j 0)) ?_
 refine qM (vJ y) ?_
 refine qD rfl (kI (m := 1) [vJ 0, vJ 0] [vJ (((ns.getD (x).toNat default).l).getD j 0), vJ y] [(0, (vJ (((ns.getD (x).toNat default).l).getD j 0)), [vJ (((ns.getD (x).toNat default).l).getD j 0)]), (1, (vJ y), [vJ y])] dV zr66 rfl sz3 rfl (cL.2 ⟨rfl, (cL.2 ⟨rfl, (fun _ h => by cases h)⟩)⟩) rfl) (qI rfl (xF (E := eP2) (e := 66) [vJ (((ns.getD (x).toNat default).l).getD j 0), vJ y] (((ns.getD (x).toNat default).l).getD j 0, y) dU sz66 zr66 rfl rfl (by decide) c.pins (fun ai a0 a1 a2 aj bo => ?_)))
 have ad := c.step a2 aj
 have ak := ah.below aj
 have a3 := a1.weaken c.size
 refine qI rfl (oA (E := eP2) (v := o) (u := ai) 16 dU ap66 (by decide) rfl rfl ad.pins ak a3.src (ad.size) (fun al bp a4 a5 a6 bq => ?_))
 have a7 := ad.write a5 a6 ((yG ak))
 have br := la1 os (((ns.getD (x).toNat default).l).getD j 0, y)
 refine qM al ?_
 refine qe (w9c ?_)
 refine qD rfl (yP rfl rfl (by omega)) (qM (vJ ((j : Int) + 1)) ?_)
 refine qe (yK (⟨_, ?_, _, rfl, _, j + 1, al, os ++ [((ns.getD x.toNat default).l.getD j 0, y)], (pS 21 (pS 20 (pS 19 (pS 9 (pS 8 (pS 3 (pS 2 (pU 1)))))))), rfl, a7, (by omega), (by rw [hr]; exact kN (f := (fun k => (k, y))) 0 (by omega)), (by rw [List.length_append, hol]; rfl), a4⟩))
 omega
 refine cO (zZ (yM (yL (zA (w9b ?_)))))
 refine qM v ?_
 refine qM (vJ y) ?_
 refine qD rfl (zI dC sz76 (v := v) rfl rfl hv (by omega) (by omega)) (qD rfl (yI (off := 1) dF rfl rfl nz40 (z := y) (k := 0) rfl hv (by omega) (by omega)) ?_)
 obtain ⟨ae, s, a8⟩ := qV (hv.at (z := y) (by omega) (by omega)) (j := (y).toNat) rfl
 have bt := s.max
 refine qD rfl (a8 ag40 rfl c.pins) (qD rfl (run_len dB (v := ae) rfl s) (qM (vJ 0) ?_))
 refine qe (zA ?_)
 refine zX (yO (fun k en W => ∃ (d : Nat → Value) (q : Nat) (a : Value) (b : List (Int × Int)), en = (upd (upd (upd (upd (upd (upd d 2 (vJ x)) 8 vN) 9 a) 36 ae) 37 (vJ (((bs.getD (y).toNat default).r).length : Int))) 38 (vJ (q : Int))) ∧ k = (bs.getD y.toNat default).r.length - q ∧ Ext noS G w G W ∧ (q ≤ (bs.getD y.toNat default).r.length) ∧ (b = os ++ ((bs.getD y.toNat default).r.take q).map (fun r => (x, r))) ∧ (b.length = j + q) ∧ (Own eP2 66 G W w.heap.size a (b))) _ ⟨_, 0, o, os, (pS 38 (pS 37 (pS 36 (pS 9 (pS 8 (pU 2)))))), rfl, c, cH _, (by simp), hol, ah⟩ ?_)
 rintro bu _ bv ⟨d, q, a, b, rfl, bw, g, hq, t, a9, am⟩
 refine w9d ?_
 refine qD rfl (yR rfl rfl) (qe (zA (zB ?_)))
 refine yE (p := ((q : Int) : Int) < (((bs.getD (y).toNat default).r).length : Int)) rfl rfl (fun ba => ?_) (fun ba => ?_)
 refine cM (zA (zB ?_))
 refine zX (w9d ?_)
 refine qD rfl (zI dB sz3 (v := ae) rfl rfl s (by omega) (by omega)) (qD rfl (zN (r := ((bs.getD (y).toNat default).r).getD q 0) rfl ag3 (z := (q : Int)) rfl s g.pins (by omega) (by omega)) (qM (vJ (((bs.getD (y).toNat default).r).getD q 0)) ?_))
 refine qe (zA (zC ?_))
 refine qM a ?_
 refine qM (vJ x) ?_
 refine qM (vJ (((bs.getD (y).toNat default).r).getD q 0)) ?_
 refine qD rfl (kI (m := 1) [vJ 0, vJ 0] [vJ x, vJ (((bs.getD (y).toNat default).r).getD q 0)] [(0, (vJ x), [vJ x]), (1, (vJ (((bs.getD (y).toNat default).r).getD q 0)), [vJ (((bs.getD (y).toNat default).r).getD q 0)])] dV zr66 rfl sz3 rfl (cL.2 ⟨rfl, (cL.2 ⟨rfl, (fun _ h => by cases h)⟩)⟩) rfl) (qI rfl (xF (E := eP2) (e := 66) [vJ x, vJ (((bs.getD (y).toNat default).r).getD q 0)] (x, ((bs.getD (y).toNat default).r).getD q 0) dU sz66 zr66 rfl rfl (by decide) g.pins (fun an bb bc bd ao bx => ?_)))
 have af := g.step bd ao
 have ap := am.below ao
 have be := bc.weaken g.size
 refine qI rfl (oA (E := eP2) (v := a) (u := an) 16 dU ap66 (by decide) rfl rfl af.pins ap be.src (af.size) (fun aq bz bf bg bh b0 => ?_))
 have bi := af.write bg bh ((yG ap))
 have b1 := la1 b (x, ((bs.getD (y).toNat default).r).getD q 0)
 refine qM aq ?_
 refine qe (w9c ?_)
 refine qD rfl (yP rfl rfl (by omega)) (qM (vJ ((q : Int) + 1)) ?_)
 refine qe (yK (⟨_, ?_, _, rfl, _, q + 1, aq, b ++ [(x, (bs.getD y.toNat default).r.getD q 0)], (pS 38 (pS 37 (pS 36 (pS 9 (pS 8 (pU 2)))))), rfl, bi, (by omega), (by rw [t, List.append_assoc]; exact cgA (os ++ ·) (kN (f := (fun r => (x, r))) 0 (by omega))), (by rw [List.length_append, a9]; rfl), bf⟩))
 omega
 refine cO (zZ (yM (yL (w9a ?_))))
 refine qM a ?_
 refine qM a ?_
 refine qe (zA ?_)
 refine cN (zQ (zS (v := a) rfl rfl rfl ?_))
 rw [qZ (by omega)] at hr t
 rw [hr] at t
 exact ⟨_, _, rfl, (by unfold leftsP; rw [← t]; exact am), g⟩
theorem eX {w : World} {l : List (Int × Int)} (hP : Pins G w) (hv : RSl eP2 G v l) :
  Calls Tryz.prog 78 [v, .agg #[vJ x, vJ y]].toArray w fun e w' => ∃ G', e = .returned (vJ (idxG ((x, y) : Int × Int) 0 l)) ∧ Ext noS G w G' w' := by
 refine yA (n := 19) Tryz.func78 Tryz.ntmps78 rfl rfl ?_
 have b := exr noS hP
 have hm := hv.max
 refine w9d ?_
 refine qI rfl (xH [vJ x, vJ y] (v := .agg #[vJ x, vJ y]) rfl rfl b.pins (fun h w2 ak r s t => ?_))
 have aa := b.step s t
 have ab : w.heap.size ≤ h := by have := b.size; omega
 obtain ⟨m, ac, ad, ae, al⟩ := r.shut aa ab
 refine qM (vJ 0) ?_
 refine qe (zA (w9b ?_))
 refine qM v ?_
 refine qD rfl (run_len dU (v := v) rfl hv) (qM (vJ 0) ?_)
 refine qe (zA ?_)
 refine zX (yO (fun k en W => ∃ (o : Nat → Value) (j : Nat), en = (upd (upd (upd (upd o 0 v) 3 (vP h)) 7 (vJ (l.length : Int))) 8 (vJ (j : Int))) ∧ k = l.length - j ∧ Ext noS G w m W ∧ (j ≤ l.length) ∧ (idxG ((x, y) : Int × Int) 0 l = idxG (x, y) j (l.drop j))) _ ⟨_, 0, (pS 8 (pS 7 (pS 3 (pU 0)))), rfl, ad, cH _, rfl⟩ ?_)
 rintro am _ c ⟨o, j, rfl, an, f, hj, hr⟩
 refine w9d ?_
 refine qD rfl (yR rfl rfl) (qe (zA (zB ?_)))
 refine yE (p := ((j : Int) : Int) < (l.length : Int)) rfl rfl (fun af => ?_) (fun af => ?_)
 refine cM (zA (zB ?_))
 refine zX (w9d ?_)
 refine qM (vJ (j : Int)) ?_
 refine qM (vJ (j : Int)) ?_
 refine qe (zA (zB ?_))
 refine yQ (S := fun wz => Pins m wz) (last := 6) (by kernel_rfl) rfl ?_
 have q := bdr c
 have ag := f.pins.below q
 have a := f.step ag q
 refine dT (i := 0) rfl rfl (by kernel_rfl) (fun _ hS => zR (cs := [vJ x, vJ y]) ag66 sz66 rfl (fun j u hj => hS _ _ _ (ae _ _ (by simpa using hj)))) a.pins ?_
 refine dM 1 v a.pins ?_
 refine dM 2 (vJ (j : Int)) a.pins ?_
 refine dT (i := 3) rfl rfl (by kernel_rfl) (fun _ _ => zI dU sz66 (v := v) rfl rfl hv (by omega) (by omega)) a.pins ?_
 obtain ⟨ao, ah, ai, ap⟩ := xX (j := j) default (hv.at (z := (j : Int)) (by omega) (by omega)) rfl
 obtain rfl := ah
 refine dT (i := 4) rfl rfl (by kernel_rfl) (fun _ hS => ai ag66 sz66 rfl (cB hS ac)) a.pins ?_
 refine dT (i := 5) rfl rfl (by kernel_rfl) (fun _ _ => r_eqlP dV dW sz3 eg66 rfl rfl) a.pins ?_
 refine zY (by kernel_rfl) (zA (yE (p := ((x, y) : Int × Int) = ((l.getD j default).1, (l.getD j default).2)) rfl rfl (fun g => ?_) (fun g => ?_)))
 refine w9d ?_
 refine qM (vJ (j : Int)) ?_
 refine qM (vJ (j : Int)) ?_
 refine qe (zA ?_)
 exact cN (zQ (zS (v := vJ (j : Int)) rfl rfl rfl (⟨_, cgA eI ((hr.trans (idxG_hit (d := default) (by omega) g)).symm), a⟩)))
 refine cM (w9c ?_)
 refine qD rfl (yP rfl rfl (by omega)) (qM (vJ ((j : Int) + 1)) ?_)
 refine qe (yK (⟨_, ?_, _, rfl, _, j + 1, (pS 8 (pS 7 (pS 3 (pU 0)))), rfl, a, (by omega), (hr.trans (idxG_next (d := default) (by omega) g))⟩))
 omega
 refine cO (zZ (yM (yL (w9a ?_))))
 refine qM (vJ (-1)) ?_
 refine qe (zA ?_)
 exact cN (zQ (zS (v := vJ (-1)) rfl rfl rfl (⟨_, cgA eI ((hr.trans (idxG_end (by omega))).symm), f⟩)))
theorem mB {w : World} {l : List (Int × Int)} (hP : Pins G w) (hv : RSl eP2 G v l) :
  Calls Tryz.prog 69 [v, .agg #[.int .i64 x, .int .i64 y]].toArray w fun e w' => ∃ G', e = .returned (.bool (decide ((x, y) ∈ l))) ∧ Ext noS G w G' w' := by
 refine yA (n := 9) Tryz.func69 Tryz.ntmps69 rfl rfl ?_
 have a := exr noS hP
 refine w9d ?_
 refine qI rfl (xH [.int .i64 x, .int .i64 y] (v := .agg #[.int .i64 x, .int .i64 y]) rfl rfl a.pins (fun c q r d f g => ?_))
 have h := a.step f g
 have i : w.heap.size ≤ c := by have := a.size; omega
 obtain ⟨s, k, b, m, t⟩ := d.shut h i
 refine qM (.bool false) ?_
 refine qe (w9a ?_)
 refine qM v ?_
 refine qD rfl (zR (cs := [.int .i64 x, .int .i64 y]) ag66 sz66 rfl (fun j u hj => b.pins _ _ _ (m _ _ (by simpa using hj)))) (qI rfl (zO (vs := [v, .agg #[.int .i64 x, .int .i64 y]]) Tryz.func78 nm78 rfl rfl rfl ?_))
 refine cC (eX b.pins (hv.mono k)) ?_
 rintro _ z ⟨aa, rfl, o⟩
 refine rt9 ?_
 have p := b.tr o
 refine qD rfl (vU rfl rfl) (qM (.bool (decide ((0 : Int) ≤ (idxG ((x, y) : Int × Int) 0 l)))) ?_)
 refine qe (zA ?_)
 exact cN (zQ (zS (v := .bool (decide ((0 : Int) ≤ (idxG ((x, y) : Int × Int) 0 l)))) rfl rfl rfl (⟨_, cgA eB (decide_eq_decide.2 (idxG_mem (by omega))), p⟩)))
theorem tC {w : World} {pl bf : Int} {l : List (Int × Int)} (hP : Pins G w) (hu : RSl eClaim G u ps) (hv : RSl eP2 G v l) (hb : bf ≤ ps.length) :
  Calls Tryz.prog 45 [.agg #[u], vJ pl, vJ bf, v].toArray w fun e w' => ∃ G', e = .returned (.bool (decP (AnsP ps pl bf l))) ∧ Ext noS G w G' w' := by
 refine yA (n := 31) Tryz.func45 Tryz.ntmps45 rfl rfl ?_
 have f := exr noS hP
 refine w9d ?_
 refine qI rfl (xH [u] (v := .agg #[u]) rfl rfl f.pins (fun y g av aa ab ac => ?_))
 have ad := f.step ab ac
 have ae : w.heap.size ≤ y := by have := f.size; omega
 obtain ⟨G9, o, d, s, aw⟩ := aa.shut ad ae
 refine qM (.bool false) ?_
 refine qe (zA (w9b ?_))
 refine qM (vJ pl) ?_
 refine qD rfl (yR rfl rfl) (qM (.bool (decide ((pl : Int) < 0))) ?_)
 refine qbd (p := (pl : Int) < 0) (t := 11) rfl (fun ag => ?_) (fun ag => ?_)
 refine qW ?_
 refine qW ?_
 refine qW ?_
 refine qD rfl (yJ (v := .bool true) rfl rfl) (qe (zA ?_))
 refine xW rfl rfl (w9d ?_)
 refine qM (.bool false) ?_
 refine qe (zA ?_)
 exact cN (zQ (zS (v := .bool false) rfl rfl rfl (⟨_, cgA eB (decP_false.2 (fun a => by have h1 := a.1; have h2 := a.2.1; omega)).symm, d⟩)))
 refine qN (zU (v := vJ pl) rfl) ?_
 refine qN (zU (v := vJ bf) rfl) ?_
 refine qN (vU rfl rfl) ?_
 refine qD rfl (yH (v := .bool (decide ((bf : Int) ≤ pl))) rfl rfl) (qe (zA ?_))
 refine yE (p := (bf : Int) ≤ pl) rfl rfl (fun aj => ?_) (fun aj => ?_)
 refine w9d ?_
 refine qM (.bool false) ?_
 refine qe (zA ?_)
 exact cN (zQ (zS (v := .bool false) rfl rfl rfl (⟨_, cgA eB (decP_false.2 (fun a => by have h1 := a.1; have h2 := a.2.1; omega)).symm, d⟩)))
 refine cM (zA (zB ?_))
 refine yQ (S := fun wz => Pins G9 wz) (last := 16) (by kernel_rfl) rfl ?_
 have x := bdr g
 have ak := d.pins.below x
 have c := d.step ak x
 refine dM 0 v c.pins ?_
 refine dT (i := 1) rfl rfl (by kernel_rfl) (fun _ _ => zK (k := 0) rfl dI rfl nz27 rfl) c.pins ?_
 refine dT (i := 2) rfl rfl (by kernel_rfl) (fun _ hS => zM (u := u) ag27 rfl (hS _ _ _ (s 0 _ rfl))) c.pins ?_
 refine dM 3 (vJ pl) c.pins ?_
 refine dT (i := 4) rfl rfl (by kernel_rfl) (fun _ _ => zI dG sz53 (v := u) rfl rfl hu (by omega) (by omega)) c.pins ?_
 refine dT (i := 5) rfl rfl (by kernel_rfl) (fun _ _ => yI (off := 0) dD rfl rfl nz3 (z := pl) (k := 0) rfl hu (by omega) (by omega)) c.pins ?_
 obtain ⟨ax, al, ay, am⟩ := xX (j := (pl).toNat) default (hu.at (z := pl) (by omega) (by omega)) rfl
 obtain ⟨az, a0, rfl, an, ao⟩ := al
 have a1 := an.max
 have a2 := ao.max
 refine dT (i := 6) rfl rfl (by kernel_rfl) (fun _ hS => am 0 _ rfl ag3 rfl (cB hS o)) c.pins ?_
 refine dT (i := 7) rfl rfl (by kernel_rfl) (fun _ _ => zK (k := 0) rfl dI rfl nz27 rfl) c.pins ?_
 refine dT (i := 8) rfl rfl (by kernel_rfl) (fun _ hS => zM (u := u) ag27 rfl (hS _ _ _ (s 0 _ rfl))) c.pins ?_
 refine dM 9 (vJ pl) c.pins ?_
 refine dT (i := 10) rfl rfl (by kernel_rfl) (fun _ _ => zI dG sz53 (v := u) rfl rfl hu (by omega) (by omega)) c.pins ?_
 refine dT (i := 11) rfl rfl (by kernel_rfl) (fun _ _ => yI (off := 1) dD rfl rfl nz3 (z := pl) (k := 0) rfl hu (by omega) (by omega)) c.pins ?_
 obtain ⟨a3, ap, a4, aq⟩ := xX (j := (pl).toNat) default (hu.at (z := pl) (by omega) (by omega)) rfl
 obtain ⟨a5, a6, rfl, ar, au⟩ := ap
 have a7 := ar.max
 have a8 := au.max
 refine dT (i := 12) rfl rfl (by kernel_rfl) (fun _ hS => aq 1 _ rfl ag3 rfl (cB hS o)) c.pins ?_
 refine dT (i := 13) rfl rfl (by kernel_rfl) (fun _ _ => kI (m := 1) [vJ 0, vJ 0] [vJ ((ps.getD (pl).toNat default).a), vJ ((ps.getD (pl).toNat default).b)] [(0, (vJ ((ps.getD (pl).toNat default).a)), [vJ ((ps.getD (pl).toNat default).a)]), (1, (vJ ((ps.getD (pl).toNat default).b)), [vJ ((ps.getD (pl).toNat default).b)])] dV zr66 rfl sz3 rfl (cL.2 ⟨rfl, (cL.2 ⟨rfl, (fun _ h => by cases h)⟩)⟩) rfl) c.pins ?_
 refine dP (i := 14) rfl rfl (zO (vs := [v, .agg #[vJ ((ps.getD (pl).toNat default).a), vJ ((ps.getD (pl).toNat default).b)]]) Tryz.func69 nm69 rfl rfl rfl ?_)
 refine cC (mB c.pins (hv.mono o)) ?_
 rintro _ a9 ⟨ba, rfl, q⟩
 refine rt9 ?_
 have r := c.tr q
 refine ⟨fun _ => (cB r.pins q.le), ?_⟩
 refine dM 15 (.bool (decide (((ps.getD (pl).toNat default).a, (ps.getD (pl).toNat default).b) ∈ l))) (cB r.pins q.le) ?_
 refine zY (by kernel_rfl) (zA (cN (zQ (zS (v := .bool (decide (((ps.getD (pl).toNat default).a, (ps.getD (pl).toNat default).b) ∈ l))) rfl rfl rfl (⟨_, cgA eB ?_, r⟩)))))
 by_cases hm : prC (ps.getD pl.toNat default) ∈ l
 ·exact (decide_eq_true hm).trans (decP_true.2 ⟨by omega, by omega, hm⟩).symm
 ·exact (decide_eq_false hm).trans (decP_false.2 (fun a => hm a.2.2)).symm
theorem fX {w : World} {x : Value} {kz : Int} (hP : Pins G w) (hu : RSl eClaim G u ps) (ha : RSl eNode G v ns) (hb : RSl eNode G x bs) (hk : 0 ≤ kz ∧ kz < ps.length) (hga : GoodP ns) (hgb : GoodP bs) :
  Calls Tryz.prog 20 [.agg #[u], vJ kz, v, x].toArray w fun e w' => ∃ G', e = .returned (.bool (decP (RightP ns bs ps kz.toNat))) ∧ Ext noS G w G' w' := by
 refine yA (n := 115) Tryz.func20 Tryz.ntmps20 rfl rfl ?_
 have a3 := exr noS hP
 refine w9d ?_
 refine qI rfl (xH [u] (v := .agg #[u]) rfl rfl a3.pins (fun b1 w2 cy bo bp bq => ?_))
 have br := a3.step bp bq
 have bt : w.heap.size ≤ b1 := by have := a3.size; omega
 obtain ⟨G9, s, ak, a5, c0⟩ := bo.shut br bt
 refine qM (.bool false) ?_
 refine qe (w9a ?_)
 refine qD rfl (zK (k := 0) rfl dI rfl nz27 rfl) (qD rfl (zM (u := u) ag27 rfl (ak.pins _ _ _ (a5 0 _ rfl))) (qM (vJ kz) ?_))
 refine qD rfl (zI dG sz53 (v := u) rfl rfl hu (by omega) (by omega)) ?_
 obtain ⟨c1, bu, bv, c2⟩ := xX (j := (kz).toNat) default (hu.at (z := kz) (by omega) (by omega)) rfl
 obtain ⟨af, ag, rfl, al, am⟩ := bu
 have c3 := al.max
 have c4 := am.max
 refine qD rfl (bv ag53 sz53 rfl (cB ak.pins s)) (qI rfl (yN [vJ 0, vJ 0, vN, vN] zr53 rfl ak.pins (fun a6 c5 c6 bw bx bz => ?_)))
 have bd := ak.step bx bz
 have be : w.heap.size ≤ a6 := by have := ak.size; omega
 refine q0 rfl rfl rfl (o_stp (cs' := [vJ ((ps.getD (kz).toNat default).a), vJ ((ps.getD (kz).toNat default).b), af, ag]) (us := [vJ ((ps.getD (kz).toNat default).a), vJ ((ps.getD (kz).toNat default).b), af, ag]) (v := .agg #[vJ ((ps.getD (kz).toNat default).a), vJ ((ps.getD (kz).toNat default).b), af, ag]) sz53 rfl rfl rfl (gO (by rfl) (by rfl) al.one am.one) bd.pins bw (cD rfl) rfl (fun a7 b0 b2 b3 c7 => ?_))
 have b4 := bd.write b2 b3 ((zW be))
 obtain ⟨a8, o, ab, aa, c8⟩ := b0.shut b4 be
 refine qe (zA (w9b ?_))
 refine qD rfl (zK (k := 0) rfl dD rfl nz3 rfl) (qD rfl (zM (u := vJ ((ps.getD (kz).toNat default).a)) ag3 rfl (ab.pins _ _ _ (aa 0 _ rfl))) (qD rfl (yR rfl rfl) (qM (.bool (decide (((ps.getD (kz).toNat default).a : Int) < 0))) ?_)))
 refine qbd (p := ((ps.getD (kz).toNat default).a : Int) < 0) (t := 24) rfl (fun b5 => ?_) (fun b5 => ?_)
 refine qW ?_
 refine qW ?_
 refine qW ?_
 refine qW ?_
 refine qW ?_
 refine qD rfl (yJ (v := .bool true) rfl rfl) (qM (.bool true) ?_)
 refine qW ?_
 refine qW ?_
 refine qW ?_
 refine qD rfl (yJ (v := .bool true) rfl rfl) (qM (.bool true) ?_)
 refine qW ?_
 refine qW ?_
 refine qW ?_
 refine qW ?_
 refine qW ?_
 refine qD rfl (yJ (v := .bool true) rfl rfl) (qe (zA ?_))
 refine xW rfl rfl (w9d ?_)
 refine qM (.bool false) ?_
 refine qe (zA ?_)
 exact cN (zQ (zS (v := .bool false) rfl rfl rfl (⟨_, cgA eB (decP_false.2 (fun g => by have h1 := g.ra; have h2 := g.rb; have h3 := g.hr; have h4 := g.hl; omega)).symm, ab⟩)))
 refine qN (zK (k := 0) rfl dD rfl nz3 rfl) ?_
 refine qN (zM (u := vJ ((ps.getD (kz).toNat default).a)) ag3 rfl (ab.pins _ _ _ (aa 0 _ rfl))) ?_
 refine qN (zU (v := v) rfl) ?_
 refine qN (run_len dC (v := v) rfl ha) ?_
 refine qN (vU rfl rfl) ?_
 refine qD rfl (yH (v := .bool (decide (((ns.length : Int) : Int) ≤ ((ps.getD (kz).toNat default).a)))) rfl rfl) (qM (.bool (decide (((ns.length : Int) : Int) ≤ ((ps.getD (kz).toNat default).a)))) ?_)
 refine qbd (p := ((ns.length : Int) : Int) ≤ ((ps.getD (kz).toNat default).a)) (t := 31) rfl (fun b6 => ?_) (fun b6 => ?_)
 refine qW ?_
 refine qW ?_
 refine qW ?_
 refine qD rfl (yJ (v := .bool true) rfl rfl) (qM (.bool true) ?_)
 refine qW ?_
 refine qW ?_
 refine qW ?_
 refine qW ?_
 refine qW ?_
 refine qD rfl (yJ (v := .bool true) rfl rfl) (qe (zA ?_))
 refine xW rfl rfl (w9d ?_)
 refine qM (.bool false) ?_
 refine qe (zA ?_)
 exact cN (zQ (zS (v := .bool false) rfl rfl rfl (⟨_, cgA eB (decP_false.2 (fun g => by have h1 := g.ra; have h2 := g.rb; have h3 := g.hr; have h4 := g.hl; omega)).symm, ab⟩)))
 refine qN (zK (k := 1) rfl dD rfl nz3 rfl) ?_
 refine qN (zM (u := vJ ((ps.getD (kz).toNat default).b)) ag3 rfl (ab.pins _ _ _ (aa 1 _ rfl))) ?_
 refine qN (yR rfl rfl) ?_
 refine qD rfl (yH (v := .bool (decide (((ps.getD (kz).toNat default).b : Int) < 0))) rfl rfl) (qM (.bool (decide (((ps.getD (kz).toNat default).b : Int) < 0))) ?_)
 refine qbd (p := ((ps.getD (kz).toNat default).b : Int) < 0) (t := 36) rfl (fun b7 => ?_) (fun b7 => ?_)
 refine qW ?_
 refine qW ?_
 refine qW ?_
 refine qW ?_
 refine qW ?_
 refine qD rfl (yJ (v := .bool true) rfl rfl) (qe (zA ?_))
 refine xW rfl rfl (w9d ?_)
 refine qM (.bool false) ?_
 refine qe (zA ?_)
 exact cN (zQ (zS (v := .bool false) rfl rfl rfl (⟨_, cgA eB (decP_false.2 (fun g => by have h1 := g.ra; have h2 := g.rb; have h3 := g.hr; have h4 := g.hl; omega)).symm, ab⟩)))
 refine qN (zK (k := 1) rfl dD rfl nz3 rfl) ?_
 refine qN (zM (u := vJ ((ps.getD (kz).toNat default).b)) ag3 rfl (ab.pins _ _ _ (aa 1 _ rfl))) ?_
 refine qN (zU (v := x) rfl) ?_
 refine qN (run_len dC (v := x) rfl hb) ?_
 refine qN (vU rfl rfl) ?_
 refine qD rfl (yH (v := .bool (decide (((bs.length : Int) : Int) ≤ ((ps.getD (kz).toNat default).b)))) rfl rfl) (qe (zA ?_))
 refine yE (p := ((bs.length : Int) : Int) ≤ ((ps.getD (kz).toNat default).b)) rfl rfl (fun b8 => ?_) (fun b8 => ?_)
 refine w9d ?_
 refine qM (.bool false) ?_
 refine qe (zA ?_)
 exact cN (zQ (zS (v := .bool false) rfl rfl rfl (⟨_, cgA eB (decP_false.2 (fun g => by have h1 := g.ra; have h2 := g.rb; have h3 := g.hr; have h4 := g.hl; omega)).symm, ab⟩)))
 refine cM (zA (zB ?_))
 refine yQ (S := fun wz => Pins a8 wz) (last := 14) (by kernel_rfl) rfl ?_
 have bf := bdr a7
 have b9 := ab.pins.below bf
 have c := ab.step b9 bf
 refine dM 0 v c.pins ?_
 refine dT (i := 1) rfl rfl (by kernel_rfl) (fun _ _ => zK (k := 0) rfl dD rfl nz3 rfl) c.pins ?_
 refine dT (i := 2) rfl rfl (by kernel_rfl) (fun _ hS => zM (u := vJ ((ps.getD (kz).toNat default).a)) ag3 rfl (hS _ _ _ (aa 0 _ rfl))) c.pins ?_
 refine dT (i := 3) rfl rfl (by kernel_rfl) (fun _ _ => zI dC sz76 (v := v) rfl rfl ha (by omega) (by omega)) c.pins ?_
 refine dT (i := 4) rfl rfl (by kernel_rfl) (fun _ _ => yI (off := 1) dF rfl rfl nz40 (z := (ps.getD (kz).toNat default).a) (k := 0) rfl ha (by omega) (by omega)) c.pins ?_
 obtain ⟨ah, aq, ca⟩ := qV (ha.at (z := (ps.getD (kz).toNat default).a) (by omega) (by omega)) (j := ((ps.getD (kz).toNat default).a).toNat) rfl
 have c9 := aq.max
 refine dT (i := 5) rfl rfl (by kernel_rfl) (fun _ hS => ca ag40 rfl (cB hS (cA s o))) c.pins ?_
 refine dM 6 x c.pins ?_
 refine dT (i := 7) rfl rfl (by kernel_rfl) (fun _ _ => zK (k := 1) rfl dD rfl nz3 rfl) c.pins ?_
 refine dT (i := 8) rfl rfl (by kernel_rfl) (fun _ hS => zM (u := vJ ((ps.getD (kz).toNat default).b)) ag3 rfl (hS _ _ _ (aa 1 _ rfl))) c.pins ?_
 refine dT (i := 9) rfl rfl (by kernel_rfl) (fun _ _ => zI dC sz76 (v := x) rfl rfl hb (by omega) (by omega)) c.pins ?_
 refine dT (i := 10) rfl rfl (by kernel_rfl) (fun _ _ => yI (off := 0) dF rfl rfl nz40 (z := (ps.getD (kz).toNat default).b) (k := 0) rfl hb (by omega) (by omega)) c.pins ?_
 obtain ⟨ae, ar, cb⟩ := jC (hb.at (z := (ps.getD (kz).toNat default).b) (by omega) (by omega)) (j := ((ps.getD (kz).toNat default).b).toNat) rfl
 have da := ar.max
 refine dT (i := 11) rfl rfl (by kernel_rfl) (fun _ hS => cb ag40 rfl (cB hS (cA s o))) c.pins ?_
 refine dM 12 ah c.pins ?_
 refine dM 13 ae c.pins ?_
 refine zY (by kernel_rfl) (zA (w9b ?_))
 refine qD rfl (zK (k := 2) rfl dD rfl nz40 rfl) (qD rfl (zM (u := af) ag40 rfl (c.pins _ _ _ (aa 2 _ rfl))) (qD rfl (run_len dB (v := af) rfl al) (qM ah ?_)))
 refine qD rfl (run_len dB (v := ah) rfl aq) (qD rfl (jU rfl rfl) (qM (.bool (decide (((((ps.getD (kz).toNat default).r).length : Int) : Int) ≠ (((ns.getD ((ps.getD (kz).toNat default).a).toNat default).r).length : Int)))) ?_))
 refine qbd (p := ((((ps.getD (kz).toNat default).r).length : Int) : Int) ≠ (((ns.getD ((ps.getD (kz).toNat default).a).toNat default).r).length : Int)) (t := 61) rfl (fun cc => ?_) (fun cc => ?_)
 refine qW ?_
 refine qW ?_
 refine qW ?_
 refine qW ?_
 refine qW ?_
 refine qW ?_
 refine qD rfl (yJ (v := .bool true) rfl rfl) (qe (zA ?_))
 refine xW rfl rfl (w9d ?_)
 refine qM (.bool false) ?_
 refine qe (zA ?_)
 exact cN (zQ (zS (v := .bool false) rfl rfl rfl (⟨_, cgA eB (decP_false.2 (fun g => by have h1 := g.ra; have h2 := g.rb; have h3 := g.hr; have h4 := g.hl; omega)).symm, c⟩)))
 refine qN (zK (k := 3) rfl dD rfl nz40 rfl) ?_
 refine qN (zM (u := ag) ag40 rfl (c.pins _ _ _ (aa 3 _ rfl))) ?_
 refine qN (run_len dB (v := ag) rfl am) ?_
 refine qN (zU (v := ae) rfl) ?_
 refine qN (run_len dB (v := ae) rfl ar) ?_
 refine qN (jU rfl rfl) ?_
 refine qD rfl (yH (v := .bool (decide (((((ps.getD (kz).toNat default).l).length : Int) : Int) ≠ (((bs.getD ((ps.getD (kz).toNat default).b).toNat default).l).length : Int)))) rfl rfl) (qe (zA ?_))
 refine yE (p := ((((ps.getD (kz).toNat default).l).length : Int) : Int) ≠ (((bs.getD ((ps.getD (kz).toNat default).b).toNat default).l).length : Int)) rfl rfl (fun cd => ?_) (fun cd => ?_)
 refine w9d ?_
 refine qM (.bool false) ?_
 refine qe (zA ?_)
 exact cN (zQ (zS (v := .bool false) rfl rfl rfl (⟨_, cgA eB (decP_false.2 (fun g => by have h1 := g.ra; have h2 := g.rb; have h3 := g.hr; have h4 := g.hl; omega)).symm, c⟩)))
 refine cM (zA (w9b ?_))
 refine qM ah ?_
 refine qD rfl (run_len dB (v := ah) rfl aq) (qM (vJ 0) ?_)
 refine qe (zA ?_)
 refine zX (yO (fun k en W => ∃ (au : Nat → Value) (i : Nat) (GLi : Pin), en = (upd (upd (upd (upd (upd (upd (upd (upd (upd au 1 (vJ kz)) 2 v) 3 x) 4 (vP b1)) 9 (vP a6)) 11 ae) 69 ah) 70 (vJ (((ns.getD ((ps.getD (kz).toNat default).a).toNat default).r).length : Int))) 71 (vJ (i : Int))) ∧ k = (ns.getD (ps.getD kz.toNat default).a.toNat default).r.length - i ∧ Ext noS G w GLi W ∧ Pin.le a8 GLi ∧ (i ≤ (ns.getD (ps.getD kz.toNat default).a.toNat default).r.length) ∧ (∀ q, q < i → AnsP ps ((ps.getD kz.toNat default).r.getD q 0) kz (rightsP ns bs ((ns.getD (ps.getD kz.toNat default).a.toNat default).r.getD q 0) (ps.getD kz.toNat default).b))) _ ⟨_, 0, a8, (pS 71 (pS 70 (pS 69 (pS 11 (pS 9 (pS 4 (pS 3 (pS 2 (pU 1))))))))), rfl, c, cI _, cH _, (fun i hi => absurd hi (cJ i))⟩ ?_)
 rintro db _ a9 ⟨au, i, GLi, rfl, dc, av, d, hji, hpi⟩
 refine w9d ?_
 refine qD rfl (yR rfl rfl) (qe (zA (zB ?_)))
 refine yE (p := ((i : Int) : Int) < (((ns.getD ((ps.getD (kz).toNat default).a).toNat default).r).length : Int)) rfl rfl (fun ce => ?_) (fun ce => ?_)
 have hki := hga.optsOk.right (j := (ps.getD kz.toNat default).a.toNat) (i := i) (by omega) (by omega)
 have cf := hga.lenl (i := ((ns.getD (ps.getD kz.toNat default).a.toNat default).r.getD i 0).toNat) (by omega)
 have cg := hgb.lenr (i := (ps.getD kz.toNat default).b.toNat) (by omega)
 refine cM (zA (zB ?_))
 refine zX (w9d ?_)
 refine qM (vJ (i : Int)) ?_
 refine qD rfl (zI dB sz3 (v := ah) rfl rfl aq (by omega) (by omega)) (qD rfl (zN (r := ((ns.getD ((ps.getD (kz).toNat default).a).toNat default).r).getD i 0) rfl ag3 (z := (i : Int)) rfl aq (cB av.pins (cA (cA s o) d)) (by omega) (by omega)) (qM (vJ (i : Int)) ?_))
 refine qM (vJ (((ns.getD ((ps.getD (kz).toNat default).a).toNat default).r).getD i 0)) ?_
 refine qe (zA (zB ?_))
 refine yQ (S := fun wz => Pins GLi wz) (last := 15) (by kernel_rfl) rfl ?_
 have bg := bdr a9
 have ch := av.pins.below bg
 have f := av.step ch bg
 refine dT (i := 0) rfl rfl (by kernel_rfl) (fun _ hS => zR (cs := [u]) ag29 sz29 rfl (fun j u hj => (cB hS (cA o d)) _ _ _ (a5 _ _ (by simpa using hj)))) f.pins ?_
 refine dT (i := 1) rfl rfl (by kernel_rfl) (fun _ _ => zK (k := 2) rfl dD rfl nz40 rfl) f.pins ?_
 refine dT (i := 2) rfl rfl (by kernel_rfl) (fun _ hS => zM (u := af) ag40 rfl ((cB hS d) _ _ _ (aa 2 _ rfl))) f.pins ?_
 refine dM 3 (vJ (i : Int)) f.pins ?_
 refine dT (i := 4) rfl rfl (by kernel_rfl) (fun _ _ => zI dB sz3 (v := af) rfl rfl al (by omega) (by omega)) f.pins ?_
 refine dT (i := 5) rfl rfl (by kernel_rfl) (fun _ hS => zN (r := ((ps.getD (kz).toNat default).r).getD i 0) rfl ag3 (z := (i : Int)) rfl al (cB hS (cA (cA s o) d)) (by omega) (by omega)) f.pins ?_
 refine dM 6 (vJ kz) f.pins ?_
 refine dM 7 v f.pins ?_
 refine dM 8 x f.pins ?_
 refine dM 9 (vJ (((ns.getD ((ps.getD (kz).toNat default).a).toNat default).r).getD i 0)) f.pins ?_
 refine dT (i := 10) rfl rfl (by kernel_rfl) (fun _ _ => zK (k := 1) rfl dD rfl nz3 rfl) f.pins ?_
 refine dT (i := 11) rfl rfl (by kernel_rfl) (fun _ hS => zM (u := vJ ((ps.getD (kz).toNat default).b)) ag3 rfl ((cB hS d) _ _ _ (aa 1 _ rfl))) f.pins ?_
 refine dP (i := 12) rfl rfl (zO (vs := [v, x, vJ (((ns.getD ((ps.getD (kz).toNat default).a).toNat default).r).getD i 0), vJ ((ps.getD (kz).toNat default).b)]) Tryz.func46 nm46 rfl rfl rfl ?_)
 refine cC (mY (x := ((ns.getD ((ps.getD (kz).toNat default).a).toNat default).r).getD i 0) (y := (ps.getD (kz).toNat default).b) f.pins (ha.mono (cA (cA s o) d)) (hb.mono (cA (cA s o) d)) (by omega) (by omega) (by omega)) ?_
 rintro _ ci ⟨bh, cj, rfl, ck, ai⟩
 refine rt9 ?_
 have bi := f.tr ai
 have cl := ck.weaken f.size
 refine ⟨fun _ => (cB bi.pins ai.le), ?_⟩
 obtain ⟨dd, aw, bj, cm, de⟩ := cl.sealed bi
 refine dP (i := 13) rfl rfl (zO (vs := [.agg #[u], vJ (((ps.getD (kz).toNat default).r).getD i 0), vJ kz, bh]) Tryz.func45 nm45 rfl rfl rfl ?_)
 refine cC (tC bj.pins (hu.mono (cA (cA (cA (cA s o) d) ai.le) aw)) cm (by omega)) ?_
 rintro _ df ⟨cn, rfl, ax⟩
 refine rt9 ?_
 have ay := bj.tr ax
 refine ⟨fun _ => (cB ay.pins (cA (cA ai.le aw) ax.le)), ?_⟩
 refine dT (i := 14) rfl rfl (by kernel_rfl) (fun _ _ => xM rfl) (cB ay.pins (cA (cA ai.le aw) ax.le)) ?_
 refine zY (by kernel_rfl) (zA (qQ rfl rfl (fun ba => ?_) (fun ba => ?_)))
 refine cM (w9c ?_)
 refine qD rfl (yP rfl rfl (by omega)) (qM (vJ ((i : Int) + 1)) ?_)
 refine qe (yK (⟨_, ?_, _, rfl, _, i + 1, cn, (pS 71 (pS 70 (pS 69 (pS 11 (pS 9 (pS 4 (pS 3 (pS 2 (pU 1))))))))), rfl, ay, (cA (cA (cA d ai.le) aw) ax.le), (by omega), (fun q hq => if h3 : q = i then h3 ▸ decP_true.1 ba else hpi q (by omega))⟩))
 omega
 refine w9d ?_
 refine qM (.bool false) ?_
 refine qe (zA ?_)
 exact cN (zQ (zS (v := .bool false) rfl rfl rfl (⟨_, cgA eB (decP_false.2 (fun g => decP_false.1 ba (by have a := g.rr i (by omega); exact ⟨a.1.1, by have := a.1.2; omega, a.2⟩))).symm, ay⟩)))
 refine cO (zZ (yM (yL (zA (w9b ?_)))))
 refine qM ae ?_
 refine qD rfl (run_len dB (v := ae) rfl ar) (qM (vJ 0) ?_)
 refine qe (zA ?_)
 refine zX (yO (fun k en W => ∃ (au : Nat → Value) (j : Nat) (GLj : Pin), en = (upd (upd (upd (upd (upd (upd (upd (upd au 1 (vJ kz)) 2 v) 3 x) 4 (vP b1)) 9 (vP a6)) 92 ae) 93 (vJ (((bs.getD ((ps.getD (kz).toNat default).b).toNat default).l).length : Int))) 94 (vJ (j : Int))) ∧ k = (bs.getD (ps.getD kz.toNat default).b.toNat default).l.length - j ∧ Ext noS G w GLj W ∧ Pin.le GLi GLj ∧ (j ≤ (bs.getD (ps.getD kz.toNat default).b.toNat default).l.length) ∧ (∀ q, q < j → AnsP ps ((ps.getD kz.toNat default).l.getD q 0) kz (leftsP ns bs (ps.getD kz.toNat default).a ((bs.getD (ps.getD kz.toNat default).b.toNat default).l.getD q 0)))) _ ⟨_, 0, GLi, (pS 94 (pS 93 (pS 92 (pS 9 (pS 4 (pS 3 (pS 2 (pU 1)))))))), rfl, av, cI _, cH _, (fun i hi => absurd hi (cJ i))⟩ ?_)
 rintro dg _ bb ⟨au, j, GLj, rfl, dh, az, ad, hjj, hpj⟩
 refine w9d ?_
 refine qD rfl (yR rfl rfl) (qe (zA (zB ?_)))
 refine yE (p := ((j : Int) : Int) < (((bs.getD ((ps.getD (kz).toNat default).b).toNat default).l).length : Int)) rfl rfl (fun co => ?_) (fun co => ?_)
 have hki := hgb.optsOk.left (j := (ps.getD kz.toNat default).b.toNat) (i := j) (by omega) (by omega)
 have cf := hga.lenl (i := (ps.getD kz.toNat default).a.toNat) (by omega)
 have cg := hgb.lenr (i := ((bs.getD (ps.getD kz.toNat default).b.toNat default).l.getD j 0).toNat) (by omega)
 refine cM (zA (zB ?_))
 refine zX (w9d ?_)
 refine qM (vJ (j : Int)) ?_
 refine qD rfl (zI dB sz3 (v := ae) rfl rfl ar (by omega) (by omega)) (qD rfl (zN (r := ((bs.getD ((ps.getD (kz).toNat default).b).toNat default).l).getD j 0) rfl ag3 (z := (j : Int)) rfl ar (cB az.pins (cA (cA (cA s o) d) ad)) (by omega) (by omega)) (qM (vJ (j : Int)) ?_))
 refine qM (vJ (((bs.getD ((ps.getD (kz).toNat default).b).toNat default).l).getD j 0)) ?_
 refine qe (zA (zB ?_))
 refine yQ (S := fun wz => Pins GLj wz) (last := 15) (by kernel_rfl) rfl ?_
 have bk := bdr bb
 have cp := az.pins.below bk
 have m := az.step cp bk
 refine dT (i := 0) rfl rfl (by kernel_rfl) (fun _ hS => zR (cs := [u]) ag29 sz29 rfl (fun j u hj => (cB hS (cA (cA o d) ad)) _ _ _ (a5 _ _ (by simpa using hj)))) m.pins ?_
 refine dT (i := 1) rfl rfl (by kernel_rfl) (fun _ _ => zK (k := 3) rfl dD rfl nz40 rfl) m.pins ?_
 refine dT (i := 2) rfl rfl (by kernel_rfl) (fun _ hS => zM (u := ag) ag40 rfl ((cB hS (cA d ad)) _ _ _ (aa 3 _ rfl))) m.pins ?_
 refine dM 3 (vJ (j : Int)) m.pins ?_
 refine dT (i := 4) rfl rfl (by kernel_rfl) (fun _ _ => zI dB sz3 (v := ag) rfl rfl am (by omega) (by omega)) m.pins ?_
 refine dT (i := 5) rfl rfl (by kernel_rfl) (fun _ hS => zN (r := ((ps.getD (kz).toNat default).l).getD j 0) rfl ag3 (z := (j : Int)) rfl am (cB hS (cA (cA (cA s o) d) ad)) (by omega) (by omega)) m.pins ?_
 refine dM 6 (vJ kz) m.pins ?_
 refine dM 7 v m.pins ?_
 refine dM 8 x m.pins ?_
 refine dT (i := 9) rfl rfl (by kernel_rfl) (fun _ _ => zK (k := 0) rfl dD rfl nz3 rfl) m.pins ?_
 refine dT (i := 10) rfl rfl (by kernel_rfl) (fun _ hS => zM (u := vJ ((ps.getD (kz).toNat default).a)) ag3 rfl ((cB hS (cA d ad)) _ _ _ (aa 0 _ rfl))) m.pins ?_
 refine dM 11 (vJ (((bs.getD ((ps.getD (kz).toNat default).b).toNat default).l).getD j 0)) m.pins ?_
 refine dP (i := 12) rfl rfl (zO (vs := [v, x, vJ ((ps.getD (kz).toNat default).a), vJ (((bs.getD ((ps.getD (kz).toNat default).b).toNat default).l).getD j 0)]) Tryz.func47 nm47 rfl rfl rfl ?_)
 refine cC (sE (x := (ps.getD (kz).toNat default).a) (y := ((bs.getD ((ps.getD (kz).toNat default).b).toNat default).l).getD j 0) m.pins (ha.mono (cA (cA (cA s o) d) ad)) (hb.mono (cA (cA (cA s o) d) ad)) (by omega) (by omega) (by omega)) ?_
 rintro _ cq ⟨bl, cr, rfl, ct, aj⟩
 refine rt9 ?_
 have bm := m.tr aj
 have cu := ct.weaken m.size
 refine ⟨fun _ => (cB bm.pins aj.le), ?_⟩
 obtain ⟨di, a0, bn, cv, dj⟩ := cu.sealed bm
 refine dP (i := 13) rfl rfl (zO (vs := [.agg #[u], vJ (((ps.getD (kz).toNat default).l).getD j 0), vJ kz, bl]) Tryz.func45 nm45 rfl rfl rfl ?_)
 refine cC (tC bn.pins (hu.mono (cA (cA (cA (cA (cA s o) d) ad) aj.le) a0)) cv (by omega)) ?_
 rintro _ dk ⟨cw, rfl, a1⟩
 refine rt9 ?_
 have a2 := bn.tr a1
 refine ⟨fun _ => (cB a2.pins (cA (cA aj.le a0) a1.le)), ?_⟩
 refine dT (i := 14) rfl rfl (by kernel_rfl) (fun _ _ => xM rfl) (cB a2.pins (cA (cA aj.le a0) a1.le)) ?_
 refine zY (by kernel_rfl) (zA (qQ rfl rfl (fun bc => ?_) (fun bc => ?_)))
 refine cM (w9c ?_)
 refine qD rfl (yP rfl rfl (by omega)) (qM (vJ ((j : Int) + 1)) ?_)
 refine qe (yK (⟨_, ?_, _, rfl, _, j + 1, cw, (pS 94 (pS 93 (pS 92 (pS 9 (pS 4 (pS 3 (pS 2 (pU 1)))))))), rfl, a2, (cA (cA (cA ad aj.le) a0) a1.le), (by omega), (fun q hq => if h3 : q = j then h3 ▸ decP_true.1 bc else hpj q (by omega))⟩))
 omega
 refine w9d ?_
 refine qM (.bool false) ?_
 refine qe (zA ?_)
 exact cN (zQ (zS (v := .bool false) rfl rfl rfl (⟨_, cgA eB (decP_false.2 (fun g => decP_false.1 bc (by have a := g.ll j (by omega); exact ⟨a.1.1, by have := a.1.2; omega, a.2⟩))).symm, a2⟩)))
 refine cO (zZ (yM (yL (w9a ?_))))
 refine qM (.bool true) ?_
 refine qe (zA ?_)
 exact cN (zQ (zS (v := .bool true) rfl rfl rfl (⟨_, cgA eB (decP_true.2 ⟨⟨by omega, by omega⟩, ⟨by omega, by omega⟩, by omega, by omega, fun q hq => by have h := hpi q (by omega); exact ⟨⟨h.1, by have := h.2.1; omega⟩, h.2.2⟩, fun q hq => by have h := hpj q (by omega); exact ⟨⟨h.1, by have := h.2.1; omega⟩, h.2.2⟩⟩).symm, az⟩)))
theorem jQ {w : World} {xs : List Int} {n : Int} (hP : Pins G w) (hv : RSl eInt G v xs) :
  Calls Tryz.prog 74 #[v, .int .i64 n] w fun e w' => e = .returned (.bool (decide (n ∈ xs))) ∧ w' = w := by
 refine yA (n := 18) Tryz.func74 Tryz.ntmps74 rfl rfl ?_
 have f := exr noS hP
 have hm := hv.max
 refine w9d ?_
 refine qM (.bool false) ?_
 refine qe (zA (w9b ?_))
 refine qM (.int .i64 0) ?_
 refine qe (zA ?_)
 refine zX (yO (fun (k : Nat) (en : Nat → Value) (W : World) => ∃ (b : Nat → Value) (j : Nat), en = (upd (upd (upd b 0 v) 1 (.int .i64 n)) 5 (.int .i64 (j : Int))) ∧ k = xs.length - j ∧ Ext noS G w G W ∧ (j ≤ xs.length) ∧ (W = w) ∧ (∀ i, i < j → xs.getD i 0 ≠ n)) _ ⟨_, 0, (pS 5 (pS 1 (pU 0))), rfl, f, cH _, rfl, (fun i hi => absurd hi (cJ i))⟩ ?_)
 rintro h _ l ⟨b, j, rfl, m, c, hj, hw, hp⟩
 subst hw
 refine w9b ?_
 refine qM (.int .i64 (j : Int)) ?_
 refine qM v ?_
 refine qD rfl (run_len dB (v := v) rfl hv) (qD rfl (yR rfl rfl) (qe (zA ?_)))
 refine yE (p := ((j : Int) : Int) < (xs.length : Int)) rfl rfl (fun g => ?_) (fun g => ?_)
 refine cM (zA (zB ?_))
 refine zX (w9d ?_)
 refine qM v ?_
 refine qM (.int .i64 (j : Int)) ?_
 refine qD rfl (zI dB sz3 (v := v) rfl rfl hv (by omega) (by omega)) (qD rfl (zN (r := xs.getD j 0) rfl ag3 (z := (j : Int)) rfl hv c.pins (by omega) (by omega)) (qM (.int .i64 n) ?_))
 refine qD rfl (xY rfl rfl) (qe (zA ?_))
 refine yE (p := (xs.getD j 0 : Int) = n) rfl rfl (fun a => ?_) (fun a => ?_)
 refine w9d ?_
 refine qM (.bool true) ?_
 refine qe (zA ?_)
 exact cN (zQ (zS (v := .bool true) rfl rfl rfl (⟨cgA eB ((decide_eq_true (by rw [← a]; exact qU (by omega))).symm), rfl⟩)))
 refine cM (w9c ?_)
 refine qM (.int .i64 (j : Int)) ?_
 refine qD rfl (yP rfl rfl (by omega)) (qM (.int .i64 ((j : Int) + 1)) ?_)
 refine qe (yK (⟨_, ?_, _, rfl, _, j + 1, (pS 5 (pS 1 (pU 0))), rfl, c, (by omega), rfl, (fun i hi => if h3 : i = j then h3 ▸ a else hp i (by omega))⟩))
 omega
 refine cO (zZ (yM (yL (w9a ?_))))
 refine qM (.bool false) ?_
 refine qe (zA ?_)
 exact cN (zQ (zS (v := .bool false) rfl rfl rfl (⟨cgA eB ((decide_eq_false (not_mem_of (d := 0) (fun i hi => hp i (by omega)))).symm), rfl⟩)))
theorem fV {w : World} {c : Cl} {r : Int} (hP : Pins G w) (hu : RSl eNode G u ns) (hv : RSl eNode G v bs) (hx : 0 ≤ r ∧ r < ns.length) (hy : 0 ≤ y ∧ y < bs.length) :
  Calls Tryz.prog 53 [.agg #[u], .agg #[v], vJ r, .agg #[vJ c.a, vJ c.b, cr, cl], vJ y].toArray w fun e w' => ∃ G', e = .returned (.bool (decide ((c.a, c.b) ∈ rightsP ns bs r y))) ∧ Ext noS G w G' w' := by
 refine yA (n := 43) Tryz.func53 Tryz.ntmps53 rfl rfl ?_
 have x := exr noS hP
 refine w9d ?_
 refine qI rfl (xH [u] (v := .agg #[u]) rfl rfl x.pins (fun b1 w2 bh ak al am => ?_))
 have an := x.step al am
 have ao : w.heap.size ≤ b1 := by have := x.size; omega
 obtain ⟨G9, q, aa, ap, bj⟩ := ak.shut an ao
 refine qI rfl (xH [v] (v := .agg #[v]) rfl rfl aa.pins (fun aq bk bl ar au av => ?_))
 have aw := aa.step au av
 have ax : w.heap.size ≤ aq := by have := aa.size; omega
 obtain ⟨bm, m, ab, ad, bn⟩ := ar.shut aw ax
 refine qI rfl (xH [vJ c.a, vJ c.b, cr, cl] (v := .agg #[vJ c.a, vJ c.b, cr, cl]) rfl rfl ab.pins (fun ay ac bo az a0 a1 => ?_))
 have a2 := ab.step a0 a1
 have a3 : w.heap.size ≤ ay := by have := ab.size; omega
 obtain ⟨a4, f, ae, s, bp⟩ := az.shut a2 a3
 refine qM (.bool false) ?_
 refine qe (zA (zB ?_))
 refine yQ (S := fun wz => Pins a4 wz) (last := 33) (by kernel_rfl) rfl ?_
 have af := bdr ac
 have a5 := ae.pins.below af
 have d := ae.step a5 af
 refine dT (i := 0) rfl rfl (by kernel_rfl) (fun _ _ => zK (k := 1) rfl dD rfl nz3 rfl) d.pins ?_
 refine dT (i := 1) rfl rfl (by kernel_rfl) (fun _ hS => zM (u := vJ c.b) ag3 rfl (hS _ _ _ (s 1 _ rfl))) d.pins ?_
 refine dM 2 (vJ y) d.pins ?_
 refine dT (i := 3) rfl rfl (by kernel_rfl) (fun _ _ => xY rfl rfl) d.pins ?_
 refine dM 4 (.bool (decide ((c.b : Int) = y))) d.pins ?_
 refine drbd (p := (c.b : Int) = y) (t := 15) rfl (fun a6 => ?_) (fun a6 => ?_)
 refine zH (i := 5) rfl rfl rfl (zE rfl rfl rfl rfl) (by kernel_rfl) (fun _ _ => zK (k := 0) rfl dE rfl nz24 rfl) d.pins (zH (i := 6) rfl rfl rfl (zE rfl rfl rfl rfl) (by kernel_rfl) (fun _ hS => zM (u := u) ag24 rfl ((cB hS (cA m f)) _ _ _ (ap 0 _ rfl))) d.pins (zH (i := 7) rfl rfl rfl (zE rfl rfl rfl rfl) (by kernel_rfl) (fun _ _ => zU (v := vJ r) rfl) d.pins (zH (i := 8) rfl rfl rfl (zE rfl rfl rfl rfl) (by kernel_rfl) (fun _ _ => zI dC sz76 (v := u) rfl rfl hu (by omega) (by omega)) d.pins (zH (i := 9) rfl rfl rfl (zE rfl rfl rfl rfl) (by kernel_rfl) (fun _ _ => yI (off := 0) dF rfl rfl nz40 (z := r) (k := 0) rfl hu (by omega) (by omega)) d.pins ?_))))
 obtain ⟨a7, ag, a8⟩ := jC (hu.at (z := r) (by omega) (by omega)) (j := (r).toNat) rfl
 have bq := ag.max
 refine zH (i := 10) rfl rfl rfl (zE rfl rfl rfl rfl) (by kernel_rfl) (fun _ hS => a8 ag40 rfl (cB hS (cA (cA q m) f))) d.pins (zH (i := 11) rfl rfl rfl (zE rfl rfl rfl rfl) (by kernel_rfl) (fun _ _ => zK (k := 0) rfl dD rfl nz3 rfl) d.pins (zH (i := 12) rfl rfl rfl (zE rfl rfl rfl rfl) (by kernel_rfl) (fun _ hS => zM (u := vJ c.a) ag3 rfl (hS _ _ _ (s 0 _ rfl))) d.pins ?_))
 refine dO (i := 13) (kC (i := 13) rfl rfl rfl (zE rfl rfl rfl rfl) (zO (vs := [a7, vJ c.a]) Tryz.func74 nm74 rfl rfl rfl ?_))
 refine cC (jQ d.pins (ag.mono (cA (cA q m) f))) ?_
 rintro _ _ ⟨rfl, rfl⟩
 refine rt9 (⟨fun _ => d.pins, ?_⟩)
 refine dT (i := 14) rfl rfl (by kernel_rfl) (fun _ _ => yJ (v := .bool (decide (c.a ∈ ((ns.getD (r).toNat default).l)))) rfl rfl) d.pins ?_
 refine dM 15 (.bool (decide (c.a ∈ ((ns.getD (r).toNat default).l)))) d.pins ?_
 refine drbd (p := c.a ∈ ((ns.getD (r).toNat default).l)) (t := 26) rfl (fun a9 => ?_) (fun a9 => ?_)
 refine zD (i := 16) rfl rfl (zG rfl rfl rfl rfl rfl) (by kernel_rfl) d.pins (zD (i := 17) rfl rfl (zG rfl rfl rfl rfl rfl) (by kernel_rfl) d.pins (zD (i := 18) rfl rfl (zG rfl rfl rfl rfl rfl) (by kernel_rfl) d.pins (zD (i := 19) rfl rfl (zG rfl rfl rfl rfl rfl) (by kernel_rfl) d.pins (zD (i := 20) rfl rfl (zG rfl rfl rfl rfl rfl) (by kernel_rfl) d.pins (zD (i := 21) rfl rfl (yC rfl rfl rfl rfl) (by kernel_rfl) d.pins (zD (i := 22) rfl rfl (yC rfl rfl rfl rfl) (by kernel_rfl) d.pins (zD (i := 23) rfl rfl (yC rfl rfl rfl rfl) (by kernel_rfl) d.pins (zD (i := 24) rfl rfl (yC rfl rfl rfl rfl) (by kernel_rfl) d.pins (zD (i := 25) rfl rfl (yC rfl rfl rfl rfl) (by kernel_rfl) d.pins (zD (i := 26) rfl rfl (yC rfl rfl rfl rfl) (by kernel_rfl) d.pins (zD (i := 27) rfl rfl (yC rfl rfl rfl rfl) (by kernel_rfl) d.pins (zD (i := 28) rfl rfl (yC rfl rfl rfl rfl) (by kernel_rfl) d.pins (zD (i := 29) rfl rfl (yC rfl rfl rfl rfl) (by kernel_rfl) d.pins (zD (i := 30) rfl rfl (zG rfl rfl rfl rfl rfl) (by kernel_rfl) d.pins (dT (i := 31) rfl rfl (by kernel_rfl) (fun _ _ => yJ (v := .bool true) rfl rfl) d.pins ?_)))))))))))))))
 refine dM 32 (.bool true) d.pins ?_
 exact zY (by kernel_rfl) (zA (cN (zQ (zS (v := .bool true) rfl rfl rfl (⟨_, cgA eB (decide_eq_true (mem_rights.2 (by first | exact cE ⟨by omega, by assumption⟩ | exact cF ⟨by omega, by assumption⟩))).symm, d⟩)))))
 refine zH (i := 16) rfl rfl rfl (zE rfl rfl rfl rfl) (by kernel_rfl) (fun _ _ => zK (k := 0) rfl dD rfl nz3 rfl) d.pins (zH (i := 17) rfl rfl rfl (zE rfl rfl rfl rfl) (by kernel_rfl) (fun _ hS => zM (u := vJ c.a) ag3 rfl (hS _ _ _ (s 0 _ rfl))) d.pins (zH (i := 18) rfl rfl rfl (zE rfl rfl rfl rfl) (by kernel_rfl) (fun _ _ => zU (v := vJ r) rfl) d.pins (zH (i := 19) rfl rfl rfl (zE rfl rfl rfl rfl) (by kernel_rfl) (fun _ _ => xY rfl rfl) d.pins (zH (i := 20) rfl rfl rfl (zE rfl rfl rfl rfl) (by kernel_rfl) (fun _ _ => zU (v := .bool (decide ((c.a : Int) = r))) rfl) d.pins (drbd (p := (c.a : Int) = r) (t := 31) rfl (fun ba => ?_) (fun ba => ?_))))))
 refine zH (i := 21) rfl rfl rfl (zE rfl rfl rfl rfl) (by kernel_rfl) (fun _ _ => zK (k := 0) rfl dE rfl nz24 rfl) d.pins (zH (i := 22) rfl rfl rfl (zE rfl rfl rfl rfl) (by kernel_rfl) (fun _ hS => zM (u := v) ag24 rfl ((cB hS f) _ _ _ (ad 0 _ rfl))) d.pins (zH (i := 23) rfl rfl rfl (zE rfl rfl rfl rfl) (by kernel_rfl) (fun _ _ => zU (v := vJ y) rfl) d.pins (zH (i := 24) rfl rfl rfl (zE rfl rfl rfl rfl) (by kernel_rfl) (fun _ _ => zI dC sz76 (v := v) rfl rfl hv (by omega) (by omega)) d.pins (zH (i := 25) rfl rfl rfl (zE rfl rfl rfl rfl) (by kernel_rfl) (fun _ _ => yI (off := 1) dF rfl rfl nz40 (z := y) (k := 0) rfl hv (by omega) (by omega)) d.pins ?_))))
 obtain ⟨bb, ah, bc⟩ := qV (hv.at (z := y) (by omega) (by omega)) (j := (y).toNat) rfl
 have br := ah.max
 refine zH (i := 26) rfl rfl rfl (zE rfl rfl rfl rfl) (by kernel_rfl) (fun _ hS => bc ag40 rfl (cB hS (cA (cA q m) f))) d.pins (zH (i := 27) rfl rfl rfl (zE rfl rfl rfl rfl) (by kernel_rfl) (fun _ _ => zK (k := 1) rfl dD rfl nz3 rfl) d.pins (zH (i := 28) rfl rfl rfl (zE rfl rfl rfl rfl) (by kernel_rfl) (fun _ hS => zM (u := vJ c.b) ag3 rfl (hS _ _ _ (s 1 _ rfl))) d.pins ?_))
 refine dO (i := 29) (kC (i := 29) rfl rfl rfl (zE rfl rfl rfl rfl) (zO (vs := [bb, vJ c.b]) Tryz.func74 nm74 rfl rfl rfl ?_))
 refine cC (jQ d.pins (ah.mono (cA (cA q m) f))) ?_
 rintro _ _ ⟨rfl, rfl⟩
 refine rt9 (⟨fun _ => d.pins, ?_⟩)
 refine zH (i := 30) rfl rfl rfl (zE rfl rfl rfl rfl) (by kernel_rfl) (fun _ _ => yJ (v := .bool (decide (c.b ∈ ((bs.getD (y).toNat default).r)))) rfl rfl) d.pins (dT (i := 31) rfl rfl (by kernel_rfl) (fun _ _ => yH (v := .bool (decide (c.b ∈ ((bs.getD (y).toNat default).r)))) rfl rfl) d.pins ?_)
 refine dM 32 (.bool (decide (c.b ∈ ((bs.getD (y).toNat default).r)))) d.pins ?_
 exact zY (by kernel_rfl) (zA (cN (zQ (zS (v := .bool (decide (c.b ∈ ((bs.getD (y).toNat default).r)))) rfl rfl rfl (⟨_, cgA eB (decide_eq_decide.2 ⟨fun g => mem_rights.2 (by first | exact cF ⟨by omega, g⟩ | exact cE ⟨by omega, g⟩), fun g => by rcases mem_rights.1 g with ⟨o, h⟩ | ⟨o, h⟩ <;> first | exact h | contradiction | omega⟩), d⟩)))))
 refine zD (i := 21) rfl rfl (zG rfl rfl rfl rfl rfl) (by kernel_rfl) d.pins (zD (i := 22) rfl rfl (zG rfl rfl rfl rfl rfl) (by kernel_rfl) d.pins (zD (i := 23) rfl rfl (zG rfl rfl rfl rfl rfl) (by kernel_rfl) d.pins (zD (i := 24) rfl rfl (zG rfl rfl rfl rfl rfl) (by kernel_rfl) d.pins (zD (i := 25) rfl rfl (zG rfl rfl rfl rfl rfl) (by kernel_rfl) d.pins (zD (i := 26) rfl rfl (zG rfl rfl rfl rfl rfl) (by kernel_rfl) d.pins (zD (i := 27) rfl rfl (zG rfl rfl rfl rfl rfl) (by kernel_rfl) d.pins (zD (i := 28) rfl rfl (zG rfl rfl rfl rfl rfl) (by kernel_rfl) d.pins (zD (i := 29) rfl rfl (zG rfl rfl rfl rfl rfl) (by kernel_rfl) d.pins (zH (i := 30) rfl rfl rfl (zE rfl rfl rfl rfl) (by kernel_rfl) (fun _ _ => yH (v := .bool false) rfl rfl) d.pins (dT (i := 31) rfl rfl (by kernel_rfl) (fun _ _ => yH (v := .bool false) rfl rfl) d.pins ?_))))))))))
 refine dM 32 (.bool false) d.pins ?_
 exact zY (by kernel_rfl) (zA (cN (zQ (zS (v := .bool false) rfl rfl rfl (⟨_, cgA eB (decide_eq_false (fun g => by rcases mem_rights.1 g with ⟨o, h⟩ | ⟨o, h⟩ <;> first | contradiction | omega)).symm, d⟩)))))
 refine zD (i := 5) rfl rfl (zG rfl rfl rfl rfl rfl) (by kernel_rfl) d.pins (zD (i := 6) rfl rfl (zG rfl rfl rfl rfl rfl) (by kernel_rfl) d.pins (zD (i := 7) rfl rfl (zG rfl rfl rfl rfl rfl) (by kernel_rfl) d.pins (zD (i := 8) rfl rfl (zG rfl rfl rfl rfl rfl) (by kernel_rfl) d.pins (zD (i := 9) rfl rfl (zG rfl rfl rfl rfl rfl) (by kernel_rfl) d.pins (zD (i := 10) rfl rfl (zG rfl rfl rfl rfl rfl) (by kernel_rfl) d.pins (zD (i := 11) rfl rfl (zG rfl rfl rfl rfl rfl) (by kernel_rfl) d.pins (zD (i := 12) rfl rfl (zG rfl rfl rfl rfl rfl) (by kernel_rfl) d.pins (zD (i := 13) rfl rfl (zG rfl rfl rfl rfl rfl) (by kernel_rfl) d.pins (dT (i := 14) rfl rfl (by kernel_rfl) (fun _ _ => yH (v := .bool false) rfl rfl) d.pins ?_)))))))))
 refine dM 15 (.bool false) d.pins ?_
 refine zH (i := 16) rfl rfl rfl (zE rfl rfl rfl rfl) (by kernel_rfl) (fun _ _ => zK (k := 0) rfl dD rfl nz3 rfl) d.pins (zH (i := 17) rfl rfl rfl (zE rfl rfl rfl rfl) (by kernel_rfl) (fun _ hS => zM (u := vJ c.a) ag3 rfl (hS _ _ _ (s 0 _ rfl))) d.pins (zH (i := 18) rfl rfl rfl (zE rfl rfl rfl rfl) (by kernel_rfl) (fun _ _ => zU (v := vJ r) rfl) d.pins (zH (i := 19) rfl rfl rfl (zE rfl rfl rfl rfl) (by kernel_rfl) (fun _ _ => xY rfl rfl) d.pins (zH (i := 20) rfl rfl rfl (zE rfl rfl rfl rfl) (by kernel_rfl) (fun _ _ => zU (v := .bool (decide ((c.a : Int) = r))) rfl) d.pins (drbd (p := (c.a : Int) = r) (t := 31) rfl (fun bd => ?_) (fun bd => ?_))))))
 refine zH (i := 21) rfl rfl rfl (zE rfl rfl rfl rfl) (by kernel_rfl) (fun _ _ => zK (k := 0) rfl dE rfl nz24 rfl) d.pins (zH (i := 22) rfl rfl rfl (zE rfl rfl rfl rfl) (by kernel_rfl) (fun _ hS => zM (u := v) ag24 rfl ((cB hS f) _ _ _ (ad 0 _ rfl))) d.pins (zH (i := 23) rfl rfl rfl (zE rfl rfl rfl rfl) (by kernel_rfl) (fun _ _ => zU (v := vJ y) rfl) d.pins (zH (i := 24) rfl rfl rfl (zE rfl rfl rfl rfl) (by kernel_rfl) (fun _ _ => zI dC sz76 (v := v) rfl rfl hv (by omega) (by omega)) d.pins (zH (i := 25) rfl rfl rfl (zE rfl rfl rfl rfl) (by kernel_rfl) (fun _ _ => yI (off := 1) dF rfl rfl nz40 (z := y) (k := 0) rfl hv (by omega) (by omega)) d.pins ?_))))
 obtain ⟨be, ai, bf⟩ := qV (hv.at (z := y) (by omega) (by omega)) (j := (y).toNat) rfl
 have bt := ai.max
 refine zH (i := 26) rfl rfl rfl (zE rfl rfl rfl rfl) (by kernel_rfl) (fun _ hS => bf ag40 rfl (cB hS (cA (cA q m) f))) d.pins (zH (i := 27) rfl rfl rfl (zE rfl rfl rfl rfl) (by kernel_rfl) (fun _ _ => zK (k := 1) rfl dD rfl nz3 rfl) d.pins (zH (i := 28) rfl rfl rfl (zE rfl rfl rfl rfl) (by kernel_rfl) (fun _ hS => zM (u := vJ c.b) ag3 rfl (hS _ _ _ (s 1 _ rfl))) d.pins ?_))
 refine dO (i := 29) (kC (i := 29) rfl rfl rfl (zE rfl rfl rfl rfl) (zO (vs := [be, vJ c.b]) Tryz.func74 nm74 rfl rfl rfl ?_))
 refine cC (jQ d.pins (ai.mono (cA (cA q m) f))) ?_
 rintro _ _ ⟨rfl, rfl⟩
 refine rt9 (⟨fun _ => d.pins, ?_⟩)
 refine zH (i := 30) rfl rfl rfl (zE rfl rfl rfl rfl) (by kernel_rfl) (fun _ _ => yJ (v := .bool (decide (c.b ∈ ((bs.getD (y).toNat default).r)))) rfl rfl) d.pins (dT (i := 31) rfl rfl (by kernel_rfl) (fun _ _ => yH (v := .bool (decide (c.b ∈ ((bs.getD (y).toNat default).r)))) rfl rfl) d.pins ?_)
 refine dM 32 (.bool (decide (c.b ∈ ((bs.getD (y).toNat default).r)))) d.pins ?_
 exact zY (by kernel_rfl) (zA (cN (zQ (zS (v := .bool (decide (c.b ∈ ((bs.getD (y).toNat default).r)))) rfl rfl rfl (⟨_, cgA eB (decide_eq_decide.2 ⟨fun g => mem_rights.2 (by first | exact cF ⟨by omega, g⟩ | exact cE ⟨by omega, g⟩), fun g => by rcases mem_rights.1 g with ⟨o, h⟩ | ⟨o, h⟩ <;> first | exact h | contradiction | omega⟩), d⟩)))))
 refine zD (i := 21) rfl rfl (zG rfl rfl rfl rfl rfl) (by kernel_rfl) d.pins (zD (i := 22) rfl rfl (zG rfl rfl rfl rfl rfl) (by kernel_rfl) d.pins (zD (i := 23) rfl rfl (zG rfl rfl rfl rfl rfl) (by kernel_rfl) d.pins (zD (i := 24) rfl rfl (zG rfl rfl rfl rfl rfl) (by kernel_rfl) d.pins (zD (i := 25) rfl rfl (zG rfl rfl rfl rfl rfl) (by kernel_rfl) d.pins (zD (i := 26) rfl rfl (zG rfl rfl rfl rfl rfl) (by kernel_rfl) d.pins (zD (i := 27) rfl rfl (zG rfl rfl rfl rfl rfl) (by kernel_rfl) d.pins (zD (i := 28) rfl rfl (zG rfl rfl rfl rfl rfl) (by kernel_rfl) d.pins (zD (i := 29) rfl rfl (zG rfl rfl rfl rfl rfl) (by kernel_rfl) d.pins (zH (i := 30) rfl rfl rfl (zE rfl rfl rfl rfl) (by kernel_rfl) (fun _ _ => yH (v := .bool false) rfl rfl) d.pins (dT (i := 31) rfl rfl (by kernel_rfl) (fun _ _ => yH (v := .bool false) rfl rfl) d.pins ?_))))))))))
 refine dM 32 (.bool false) d.pins ?_
 exact zY (by kernel_rfl) (zA (cN (zQ (zS (v := .bool false) rfl rfl rfl (⟨_, cgA eB (decide_eq_false (fun g => by rcases mem_rights.1 g with ⟨o, h⟩ | ⟨o, h⟩ <;> first | contradiction | omega)).symm, d⟩)))))
theorem gP {w : World} {c : Cl} {r : Int} (hP : Pins G w) (hu : RSl eNode G u ns) (hv : RSl eNode G v bs) (hx : 0 ≤ y ∧ y < ns.length) (hy : 0 ≤ r ∧ r < bs.length) :
  Calls Tryz.prog 54 [.agg #[u], .agg #[v], vJ r, .agg #[vJ c.a, vJ c.b, cr, cl], vJ y].toArray w fun e w' => ∃ G', e = .returned (.bool (decide ((c.a, c.b) ∈ leftsP ns bs y r))) ∧ Ext noS G w G' w' := by
 refine yA (n := 43) Tryz.func54 Tryz.ntmps54 rfl rfl ?_
 have x := exr noS hP
 refine w9d ?_
 refine qI rfl (xH [u] (v := .agg #[u]) rfl rfl x.pins (fun b1 w2 bh ak al am => ?_))
 have an := x.step al am
 have ao : w.heap.size ≤ b1 := by have := x.size; omega
 obtain ⟨G9, q, aa, ap, bj⟩ := ak.shut an ao
 refine qI rfl (xH [v] (v := .agg #[v]) rfl rfl aa.pins (fun aq bk bl ar au av => ?_))
 have aw := aa.step au av
 have ax : w.heap.size ≤ aq := by have := aa.size; omega
 obtain ⟨bm, m, ab, ad, bn⟩ := ar.shut aw ax
 refine qI rfl (xH [vJ c.a, vJ c.b, cr, cl] (v := .agg #[vJ c.a, vJ c.b, cr, cl]) rfl rfl ab.pins (fun ay ac bo az a0 a1 => ?_))
 have a2 := ab.step a0 a1
 have a3 : w.heap.size ≤ ay := by have := ab.size; omega
 obtain ⟨a4, f, ae, s, bp⟩ := az.shut a2 a3
 refine qM (.bool false) ?_
 refine qe (zA (zB ?_))
 refine yQ (S := fun wz => Pins a4 wz) (last := 33) (by kernel_rfl) rfl ?_
 have af := bdr ac
 have a5 := ae.pins.below af
 have d := ae.step a5 af
 refine dT (i := 0) rfl rfl (by kernel_rfl) (fun _ _ => zK (k := 1) rfl dD rfl nz3 rfl) d.pins ?_
 refine dT (i := 1) rfl rfl (by kernel_rfl) (fun _ hS => zM (u := vJ c.b) ag3 rfl (hS _ _ _ (s 1 _ rfl))) d.pins ?_
 refine dM 2 (vJ r) d.pins ?_
 refine dT (i := 3) rfl rfl (by kernel_rfl) (fun _ _ => xY rfl rfl) d.pins ?_
 refine dM 4 (.bool (decide ((c.b : Int) = r))) d.pins ?_
 refine drbd (p := (c.b : Int) = r) (t := 15) rfl (fun a6 => ?_) (fun a6 => ?_)
 refine zH (i := 5) rfl rfl rfl (zE rfl rfl rfl rfl) (by kernel_rfl) (fun _ _ => zK (k := 0) rfl dE rfl nz24 rfl) d.pins (zH (i := 6) rfl rfl rfl (zE rfl rfl rfl rfl) (by kernel_rfl) (fun _ hS => zM (u := u) ag24 rfl ((cB hS (cA m f)) _ _ _ (ap 0 _ rfl))) d.pins (zH (i := 7) rfl rfl rfl (zE rfl rfl rfl rfl) (by kernel_rfl) (fun _ _ => zU (v := vJ y) rfl) d.pins (zH (i := 8) rfl rfl rfl (zE rfl rfl rfl rfl) (by kernel_rfl) (fun _ _ => zI dC sz76 (v := u) rfl rfl hu (by omega) (by omega)) d.pins (zH (i := 9) rfl rfl rfl (zE rfl rfl rfl rfl) (by kernel_rfl) (fun _ _ => yI (off := 0) dF rfl rfl nz40 (z := y) (k := 0) rfl hu (by omega) (by omega)) d.pins ?_))))
 obtain ⟨a7, ag, a8⟩ := jC (hu.at (z := y) (by omega) (by omega)) (j := (y).toNat) rfl
 have bq := ag.max
 refine zH (i := 10) rfl rfl rfl (zE rfl rfl rfl rfl) (by kernel_rfl) (fun _ hS => a8 ag40 rfl (cB hS (cA (cA q m) f))) d.pins (zH (i := 11) rfl rfl rfl (zE rfl rfl rfl rfl) (by kernel_rfl) (fun _ _ => zK (k := 0) rfl dD rfl nz3 rfl) d.pins (zH (i := 12) rfl rfl rfl (zE rfl rfl rfl rfl) (by kernel_rfl) (fun _ hS => zM (u := vJ c.a) ag3 rfl (hS _ _ _ (s 0 _ rfl))) d.pins ?_))
 refine dO (i := 13) (kC (i := 13) rfl rfl rfl (zE rfl rfl rfl rfl) (zO (vs := [a7, vJ c.a]) Tryz.func74 nm74 rfl rfl rfl ?_))
 refine cC (jQ d.pins (ag.mono (cA (cA q m) f))) ?_
 rintro _ _ ⟨rfl, rfl⟩
 refine rt9 (⟨fun _ => d.pins, ?_⟩)
 refine dT (i := 14) rfl rfl (by kernel_rfl) (fun _ _ => yJ (v := .bool (decide (c.a ∈ ((ns.getD (y).toNat default).l)))) rfl rfl) d.pins ?_
 refine dM 15 (.bool (decide (c.a ∈ ((ns.getD (y).toNat default).l)))) d.pins ?_
 refine drbd (p := c.a ∈ ((ns.getD (y).toNat default).l)) (t := 26) rfl (fun a9 => ?_) (fun a9 => ?_)
 refine zD (i := 16) rfl rfl (zG rfl rfl rfl rfl rfl) (by kernel_rfl) d.pins (zD (i := 17) rfl rfl (zG rfl rfl rfl rfl rfl) (by kernel_rfl) d.pins (zD (i := 18) rfl rfl (zG rfl rfl rfl rfl rfl) (by kernel_rfl) d.pins (zD (i := 19) rfl rfl (zG rfl rfl rfl rfl rfl) (by kernel_rfl) d.pins (zD (i := 20) rfl rfl (zG rfl rfl rfl rfl rfl) (by kernel_rfl) d.pins (zD (i := 21) rfl rfl (yC rfl rfl rfl rfl) (by kernel_rfl) d.pins (zD (i := 22) rfl rfl (yC rfl rfl rfl rfl) (by kernel_rfl) d.pins (zD (i := 23) rfl rfl (yC rfl rfl rfl rfl) (by kernel_rfl) d.pins (zD (i := 24) rfl rfl (yC rfl rfl rfl rfl) (by kernel_rfl) d.pins (zD (i := 25) rfl rfl (yC rfl rfl rfl rfl) (by kernel_rfl) d.pins (zD (i := 26) rfl rfl (yC rfl rfl rfl rfl) (by kernel_rfl) d.pins (zD (i := 27) rfl rfl (yC rfl rfl rfl rfl) (by kernel_rfl) d.pins (zD (i := 28) rfl rfl (yC rfl rfl rfl rfl) (by kernel_rfl) d.pins (zD (i := 29) rfl rfl (yC rfl rfl rfl rfl) (by kernel_rfl) d.pins (zD (i := 30) rfl rfl (zG rfl rfl rfl rfl rfl) (by kernel_rfl) d.pins (dT (i := 31) rfl rfl (by kernel_rfl) (fun _ _ => yJ (v := .bool true) rfl rfl) d.pins ?_)))))))))))))))
 refine dM 32 (.bool true) d.pins ?_
 exact zY (by kernel_rfl) (zA (cN (zQ (zS (v := .bool true) rfl rfl rfl (⟨_, cgA eB (decide_eq_true (mem_lefts.2 (by first | exact cE ⟨by omega, by assumption⟩ | exact cF ⟨by omega, by assumption⟩))).symm, d⟩)))))
 refine zH (i := 16) rfl rfl rfl (zE rfl rfl rfl rfl) (by kernel_rfl) (fun _ _ => zK (k := 0) rfl dD rfl nz3 rfl) d.pins (zH (i := 17) rfl rfl rfl (zE rfl rfl rfl rfl) (by kernel_rfl) (fun _ hS => zM (u := vJ c.a) ag3 rfl (hS _ _ _ (s 0 _ rfl))) d.pins (zH (i := 18) rfl rfl rfl (zE rfl rfl rfl rfl) (by kernel_rfl) (fun _ _ => zU (v := vJ y) rfl) d.pins (zH (i := 19) rfl rfl rfl (zE rfl rfl rfl rfl) (by kernel_rfl) (fun _ _ => xY rfl rfl) d.pins (zH (i := 20) rfl rfl rfl (zE rfl rfl rfl rfl) (by kernel_rfl) (fun _ _ => zU (v := .bool (decide ((c.a : Int) = y))) rfl) d.pins (drbd (p := (c.a : Int) = y) (t := 31) rfl (fun ba => ?_) (fun ba => ?_))))))
 refine zH (i := 21) rfl rfl rfl (zE rfl rfl rfl rfl) (by kernel_rfl) (fun _ _ => zK (k := 0) rfl dE rfl nz24 rfl) d.pins (zH (i := 22) rfl rfl rfl (zE rfl rfl rfl rfl) (by kernel_rfl) (fun _ hS => zM (u := v) ag24 rfl ((cB hS f) _ _ _ (ad 0 _ rfl))) d.pins (zH (i := 23) rfl rfl rfl (zE rfl rfl rfl rfl) (by kernel_rfl) (fun _ _ => zU (v := vJ r) rfl) d.pins (zH (i := 24) rfl rfl rfl (zE rfl rfl rfl rfl) (by kernel_rfl) (fun _ _ => zI dC sz76 (v := v) rfl rfl hv (by omega) (by omega)) d.pins (zH (i := 25) rfl rfl rfl (zE rfl rfl rfl rfl) (by kernel_rfl) (fun _ _ => yI (off := 1) dF rfl rfl nz40 (z := r) (k := 0) rfl hv (by omega) (by omega)) d.pins ?_))))
 obtain ⟨bb, ah, bc⟩ := qV (hv.at (z := r) (by omega) (by omega)) (j := (r).toNat) rfl
 have br := ah.max
 refine zH (i := 26) rfl rfl rfl (zE rfl rfl rfl rfl) (by kernel_rfl) (fun _ hS => bc ag40 rfl (cB hS (cA (cA q m) f))) d.pins (zH (i := 27) rfl rfl rfl (zE rfl rfl rfl rfl) (by kernel_rfl) (fun _ _ => zK (k := 1) rfl dD rfl nz3 rfl) d.pins (zH (i := 28) rfl rfl rfl (zE rfl rfl rfl rfl) (by kernel_rfl) (fun _ hS => zM (u := vJ c.b) ag3 rfl (hS _ _ _ (s 1 _ rfl))) d.pins ?_))
 refine dO (i := 29) (kC (i := 29) rfl rfl rfl (zE rfl rfl rfl rfl) (zO (vs := [bb, vJ c.b]) Tryz.func74 nm74 rfl rfl rfl ?_))
 refine cC (jQ d.pins (ah.mono (cA (cA q m) f))) ?_
 rintro _ _ ⟨rfl, rfl⟩
 refine rt9 (⟨fun _ => d.pins, ?_⟩)
 refine zH (i := 30) rfl rfl rfl (zE rfl rfl rfl rfl) (by kernel_rfl) (fun _ _ => yJ (v := .bool (decide (c.b ∈ ((bs.getD (r).toNat default).r)))) rfl rfl) d.pins (dT (i := 31) rfl rfl (by kernel_rfl) (fun _ _ => yH (v := .bool (decide (c.b ∈ ((bs.getD (r).toNat default).r)))) rfl rfl) d.pins ?_)
 refine dM 32 (.bool (decide (c.b ∈ ((bs.getD (r).toNat default).r)))) d.pins ?_
 exact zY (by kernel_rfl) (zA (cN (zQ (zS (v := .bool (decide (c.b ∈ ((bs.getD (r).toNat default).r)))) rfl rfl rfl (⟨_, cgA eB (decide_eq_decide.2 ⟨fun g => mem_lefts.2 (by first | exact cF ⟨by omega, g⟩ | exact cE ⟨by omega, g⟩), fun g => by rcases mem_lefts.1 g with ⟨o, h⟩ | ⟨o, h⟩ <;> first | exact h | contradiction | omega⟩), d⟩)))))
 refine zD (i := 21) rfl rfl (zG rfl rfl rfl rfl rfl) (by kernel_rfl) d.pins (zD (i := 22) rfl rfl (zG rfl rfl rfl rfl rfl) (by kernel_rfl) d.pins (zD (i := 23) rfl rfl (zG rfl rfl rfl rfl rfl) (by kernel_rfl) d.pins (zD (i := 24) rfl rfl (zG rfl rfl rfl rfl rfl) (by kernel_rfl) d.pins (zD (i := 25) rfl rfl (zG rfl rfl rfl rfl rfl) (by kernel_rfl) d.pins (zD (i := 26) rfl rfl (zG rfl rfl rfl rfl rfl) (by kernel_rfl) d.pins (zD (i := 27) rfl rfl (zG rfl rfl rfl rfl rfl) (by kernel_rfl) d.pins (zD (i := 28) rfl rfl (zG rfl rfl rfl rfl rfl) (by kernel_rfl) d.pins (zD (i := 29) rfl rfl (zG rfl rfl rfl rfl rfl) (by kernel_rfl) d.pins (zH (i := 30) rfl rfl rfl (zE rfl rfl rfl rfl) (by kernel_rfl) (fun _ _ => yH (v := .bool false) rfl rfl) d.pins (dT (i := 31) rfl rfl (by kernel_rfl) (fun _ _ => yH (v := .bool false) rfl rfl) d.pins ?_))))))))))
 refine dM 32 (.bool false) d.pins ?_
 exact zY (by kernel_rfl) (zA (cN (zQ (zS (v := .bool false) rfl rfl rfl (⟨_, cgA eB (decide_eq_false (fun g => by rcases mem_lefts.1 g with ⟨o, h⟩ | ⟨o, h⟩ <;> first | contradiction | omega)).symm, d⟩)))))
 refine zD (i := 5) rfl rfl (zG rfl rfl rfl rfl rfl) (by kernel_rfl) d.pins (zD (i := 6) rfl rfl (zG rfl rfl rfl rfl rfl) (by kernel_rfl) d.pins (zD (i := 7) rfl rfl (zG rfl rfl rfl rfl rfl) (by kernel_rfl) d.pins (zD (i := 8) rfl rfl (zG rfl rfl rfl rfl rfl) (by kernel_rfl) d.pins (zD (i := 9) rfl rfl (zG rfl rfl rfl rfl rfl) (by kernel_rfl) d.pins (zD (i := 10) rfl rfl (zG rfl rfl rfl rfl rfl) (by kernel_rfl) d.pins (zD (i := 11) rfl rfl (zG rfl rfl rfl rfl rfl) (by kernel_rfl) d.pins (zD (i := 12) rfl rfl (zG rfl rfl rfl rfl rfl) (by kernel_rfl) d.pins (zD (i := 13) rfl rfl (zG rfl rfl rfl rfl rfl) (by kernel_rfl) d.pins (dT (i := 14) rfl rfl (by kernel_rfl) (fun _ _ => yH (v := .bool false) rfl rfl) d.pins ?_)))))))))
 refine dM 15 (.bool false) d.pins ?_
 refine zH (i := 16) rfl rfl rfl (zE rfl rfl rfl rfl) (by kernel_rfl) (fun _ _ => zK (k := 0) rfl dD rfl nz3 rfl) d.pins (zH (i := 17) rfl rfl rfl (zE rfl rfl rfl rfl) (by kernel_rfl) (fun _ hS => zM (u := vJ c.a) ag3 rfl (hS _ _ _ (s 0 _ rfl))) d.pins (zH (i := 18) rfl rfl rfl (zE rfl rfl rfl rfl) (by kernel_rfl) (fun _ _ => zU (v := vJ y) rfl) d.pins (zH (i := 19) rfl rfl rfl (zE rfl rfl rfl rfl) (by kernel_rfl) (fun _ _ => xY rfl rfl) d.pins (zH (i := 20) rfl rfl rfl (zE rfl rfl rfl rfl) (by kernel_rfl) (fun _ _ => zU (v := .bool (decide ((c.a : Int) = y))) rfl) d.pins (drbd (p := (c.a : Int) = y) (t := 31) rfl (fun bd => ?_) (fun bd => ?_))))))
 refine zH (i := 21) rfl rfl rfl (zE rfl rfl rfl rfl) (by kernel_rfl) (fun _ _ => zK (k := 0) rfl dE rfl nz24 rfl) d.pins (zH (i := 22) rfl rfl rfl (zE rfl rfl rfl rfl) (by kernel_rfl) (fun _ hS => zM (u := v) ag24 rfl ((cB hS f) _ _ _ (ad 0 _ rfl))) d.pins (zH (i := 23) rfl rfl rfl (zE rfl rfl rfl rfl) (by kernel_rfl) (fun _ _ => zU (v := vJ r) rfl) d.pins (zH (i := 24) rfl rfl rfl (zE rfl rfl rfl rfl) (by kernel_rfl) (fun _ _ => zI dC sz76 (v := v) rfl rfl hv (by omega) (by omega)) d.pins (zH (i := 25) rfl rfl rfl (zE rfl rfl rfl rfl) (by kernel_rfl) (fun _ _ => yI (off := 1) dF rfl rfl nz40 (z := r) (k := 0) rfl hv (by omega) (by omega)) d.pins ?_))))
 obtain ⟨be, ai, bf⟩ := qV (hv.at (z := r) (by omega) (by omega)) (j := (r).toNat) rfl
 have bt := ai.max
 refine zH (i := 26) rfl rfl rfl (zE rfl rfl rfl rfl) (by kernel_rfl) (fun _ hS => bf ag40 rfl (cB hS (cA (cA q m) f))) d.pins (zH (i := 27) rfl rfl rfl (zE rfl rfl rfl rfl) (by kernel_rfl) (fun _ _ => zK (k := 1) rfl dD rfl nz3 rfl) d.pins (zH (i := 28) rfl rfl rfl (zE rfl rfl rfl rfl) (by kernel_rfl) (fun _ hS => zM (u := vJ c.b) ag3 rfl (hS _ _ _ (s 1 _ rfl))) d.pins ?_))
 refine dO (i := 29) (kC (i := 29) rfl rfl rfl (zE rfl rfl rfl rfl) (zO (vs := [be, vJ c.b]) Tryz.func74 nm74 rfl rfl rfl ?_))
 refine cC (jQ d.pins (ai.mono (cA (cA q m) f))) ?_
 rintro _ _ ⟨rfl, rfl⟩
 refine rt9 (⟨fun _ => d.pins, ?_⟩)
 refine zH (i := 30) rfl rfl rfl (zE rfl rfl rfl rfl) (by kernel_rfl) (fun _ _ => yJ (v := .bool (decide (c.b ∈ ((bs.getD (r).toNat default).r)))) rfl rfl) d.pins (dT (i := 31) rfl rfl (by kernel_rfl) (fun _ _ => yH (v := .bool (decide (c.b ∈ ((bs.getD (r).toNat default).r)))) rfl rfl) d.pins ?_)
 refine dM 32 (.bool (decide (c.b ∈ ((bs.getD (r).toNat default).r)))) d.pins ?_
 exact zY (by kernel_rfl) (zA (cN (zQ (zS (v := .bool (decide (c.b ∈ ((bs.getD (r).toNat default).r)))) rfl rfl rfl (⟨_, cgA eB (decide_eq_decide.2 ⟨fun g => mem_lefts.2 (by first | exact cF ⟨by omega, g⟩ | exact cE ⟨by omega, g⟩), fun g => by rcases mem_lefts.1 g with ⟨o, h⟩ | ⟨o, h⟩ <;> first | exact h | contradiction | omega⟩), d⟩)))))
 refine zD (i := 21) rfl rfl (zG rfl rfl rfl rfl rfl) (by kernel_rfl) d.pins (zD (i := 22) rfl rfl (zG rfl rfl rfl rfl rfl) (by kernel_rfl) d.pins (zD (i := 23) rfl rfl (zG rfl rfl rfl rfl rfl) (by kernel_rfl) d.pins (zD (i := 24) rfl rfl (zG rfl rfl rfl rfl rfl) (by kernel_rfl) d.pins (zD (i := 25) rfl rfl (zG rfl rfl rfl rfl rfl) (by kernel_rfl) d.pins (zD (i := 26) rfl rfl (zG rfl rfl rfl rfl rfl) (by kernel_rfl) d.pins (zD (i := 27) rfl rfl (zG rfl rfl rfl rfl rfl) (by kernel_rfl) d.pins (zD (i := 28) rfl rfl (zG rfl rfl rfl rfl rfl) (by kernel_rfl) d.pins (zD (i := 29) rfl rfl (zG rfl rfl rfl rfl rfl) (by kernel_rfl) d.pins (zH (i := 30) rfl rfl rfl (zE rfl rfl rfl rfl) (by kernel_rfl) (fun _ _ => yH (v := .bool false) rfl rfl) d.pins (dT (i := 31) rfl rfl (by kernel_rfl) (fun _ _ => yH (v := .bool false) rfl rfl) d.pins ?_))))))))))
 refine dM 32 (.bool false) d.pins ?_
 exact zY (by kernel_rfl) (zA (cN (zQ (zS (v := .bool false) rfl rfl rfl (⟨_, cgA eB (decide_eq_false (fun g => by rcases mem_lefts.1 g with ⟨o, h⟩ | ⟨o, h⟩ <;> first | contradiction | omega)).symm, d⟩)))))
theorem tM {w : World} {x : Value} (hP : Pins G w) (ha : RSl eNode G v ns) (hb : RSl eNode G x bs) (hu : RSl eClaim G u ps) :
  Calls Tryz.prog 7 [.agg #[v], .agg #[x], .agg #[u]].toArray w fun e w' => ∃ G', e = .returned (.tuple #[.bool (cpB ns bs ps), .bool (goodB ns && goodB bs)]) ∧ Ext noS G w G' w' := by
 refine yA (n := 101) Tryz.func7 Tryz.ntmps7 rfl rfl ?_
 have ap := exr noS hP
 have hmu := hu.max
 have hma := ha.max
 have hmb := hb.max
 refine w9d ?_
 refine qI rfl (xH [v] (v := .agg #[v]) rfl rfl ap.pins (fun b1 w2 df bq br bt => ?_))
 have bu := ap.step br bt
 have bv : w.heap.size ≤ b1 := by have := ap.size; omega
 obtain ⟨G9, ad, aq, ak, dh⟩ := bq.shut bu bv
 refine qI rfl (xH [x] (v := .agg #[x]) rfl rfl aq.pins (fun a8 di dj bw bx bz => ?_))
 have b0 := aq.step bx bz
 have b2 : w.heap.size ≤ a8 := by have := aq.size; omega
 obtain ⟨dk, y, ar, al, dl⟩ := bw.shut b0 b2
 refine qI rfl (xH [u] (v := .agg #[u]) rfl rfl ar.pins (fun a9 dm dn b3 b4 b5 => ?_))
 have b6 := ar.step b4 b5
 have b7 : w.heap.size ≤ a9 := by have := ar.size; omega
 obtain ⟨dp, h, au, aj, dq⟩ := b3.shut b6 b7
 refine qM (.bool false) ?_
 refine qM (.bool false) ?_
 refine qe (zA (w9b ?_))
 refine qD rfl (zR (cs := [v]) ag26 sz26 rfl (fun j u hj => (cB au.pins (cA y h)) _ _ _ (ak _ _ (by simpa using hj)))) (qI rfl (zO (vs := [.agg #[v]]) Tryz.func19 nm19 rfl rfl rfl ?_))
 refine cC (jT au.pins (ha.mono (cA (cA ad y) h))) ?_
 rintro _ dr ⟨ds, rfl, d⟩
 refine rt9 ?_
 have an := au.tr d
 refine qD rfl (xM rfl) (qM (.bool (!(goodB ns))) ?_)
 refine qbn (t := 15) rfl (fun ae => ?_) (fun ae => ?_)
 refine qN (zR (cs := [x]) ag26 sz26 rfl (fun j u hj => (cB an.pins (cA h d.le)) _ _ _ (al _ _ (by simpa using hj)))) ?_
 refine q1g rfl rfl rfl rfl rfl rfl (zO (vs := [.agg #[x]]) Tryz.func19 nm19 rfl rfl rfl ?_)
 refine cC (jT an.pins (hb.mono (cA (cA (cA ad y) h) d.le))) ?_
 rintro _ av ⟨aw, rfl, f⟩
 refine rt9 ?_
 have ao := an.tr f
 refine qN (xM rfl) ?_
 refine qD rfl (yH (v := .bool (!(goodB bs))) rfl rfl) (qe (zA ?_))
 refine qQ rfl rfl (fun af => ?_) (fun af => ?_)
 refine cM (w9a ?_)
 have hga : GoodP ns := goodB_true.1 ae
 have hgb : GoodP bs := goodB_true.1 af
 have hloa := hga.lo
 have hlob := hgb.lo
 refine qD rfl (zK (k := 0) rfl dI rfl nz27 rfl) (qD rfl (zM (u := u) ag27 rfl ((cB ao.pins (cA d.le f.le)) _ _ _ (aj 0 _ rfl))) (qD rfl (run_len dG (v := u) rfl hu) (qM (vJ (ps.length : Int)) ?_)))
 refine qe (zA (zB (zB ?_)))
 refine yQ (S := fun wz => Pins aw wz) (last := 34) (by kernel_rfl) rfl ?_
 have ba := bdr av
 have b8 := ao.pins.below ba
 have c := ao.step b8 ba
 refine dM 0 (vJ (ps.length : Int)) c.pins ?_
 refine dT (i := 1) rfl rfl (by kernel_rfl) (fun _ _ => yR rfl rfl) c.pins ?_
 refine dM 2 (.bool (decide (((ps.length : Int) : Int) < 1))) c.pins ?_
 refine drbd (p := ((ps.length : Int) : Int) < 1) (t := 25) rfl (fun b9 => ?_) (fun b9 => ?_)
 refine zD (i := 3) rfl rfl (zG rfl rfl rfl rfl rfl) (by kernel_rfl) c.pins (zD (i := 4) rfl rfl (zG rfl rfl rfl rfl rfl) (by kernel_rfl) c.pins (dT (i := 5) rfl rfl (by kernel_rfl) (fun _ _ => yJ (v := .bool true) rfl rfl) c.pins ?_))
 refine dM 6 (.bool true) c.pins ?_
 refine zD (i := 7) rfl rfl (zG rfl rfl rfl rfl rfl) (by kernel_rfl) c.pins (zD (i := 8) rfl rfl (zG rfl rfl rfl rfl rfl) (by kernel_rfl) c.pins (zD (i := 9) rfl rfl (zG rfl rfl rfl rfl rfl) (by kernel_rfl) c.pins (zD (i := 10) rfl rfl (zG rfl rfl rfl rfl rfl) (by kernel_rfl) c.pins (zD (i := 11) rfl rfl (zG rfl rfl rfl rfl rfl) (by kernel_rfl) c.pins (zD (i := 12) rfl rfl (zG rfl rfl rfl rfl rfl) (by kernel_rfl) c.pins (zD (i := 13) rfl rfl (zG rfl rfl rfl rfl rfl) (by kernel_rfl) c.pins (zD (i := 14) rfl rfl (zG rfl rfl rfl rfl rfl) (by kernel_rfl) c.pins (zD (i := 15) rfl rfl (zG rfl rfl rfl rfl rfl) (by kernel_rfl) c.pins (zD (i := 16) rfl rfl (zG rfl rfl rfl rfl rfl) (by kernel_rfl) c.pins (zD (i := 17) rfl rfl (zG rfl rfl rfl rfl rfl) (by kernel_rfl) c.pins (zD (i := 18) rfl rfl (zG rfl rfl rfl rfl rfl) (by kernel_rfl) c.pins (dT (i := 19) rfl rfl (by kernel_rfl) (fun _ _ => yJ (v := .bool true) rfl rfl) c.pins ?_))))))))))))
 refine dM 20 (.bool true) c.pins ?_
 refine zD (i := 21) rfl rfl (zG rfl rfl rfl rfl rfl) (by kernel_rfl) c.pins (zD (i := 22) rfl rfl (zG rfl rfl rfl rfl rfl) (by kernel_rfl) c.pins (zD (i := 23) rfl rfl (zG rfl rfl rfl rfl rfl) (by kernel_rfl) c.pins (zD (i := 24) rfl rfl (zG rfl rfl rfl rfl rfl) (by kernel_rfl) c.pins (zD (i := 25) rfl rfl (zG rfl rfl rfl rfl rfl) (by kernel_rfl) c.pins (zD (i := 26) rfl rfl (zG rfl rfl rfl rfl rfl) (by kernel_rfl) c.pins (zD (i := 27) rfl rfl (zG rfl rfl rfl rfl rfl) (by kernel_rfl) c.pins (zD (i := 28) rfl rfl (zG rfl rfl rfl rfl rfl) (by kernel_rfl) c.pins (zD (i := 29) rfl rfl (zG rfl rfl rfl rfl rfl) (by kernel_rfl) c.pins (zD (i := 30) rfl rfl (zG rfl rfl rfl rfl rfl) (by kernel_rfl) c.pins (zD (i := 31) rfl rfl (zG rfl rfl rfl rfl rfl) (by kernel_rfl) c.pins (zD (i := 32) rfl rfl (zG rfl rfl rfl rfl rfl) (by kernel_rfl) c.pins (dT (i := 33) rfl rfl (by kernel_rfl) (fun _ _ => yJ (v := .bool true) rfl rfl) c.pins ?_))))))))))))
 refine zY (by kernel_rfl) (zA (xW rfl rfl (w9d ?_)))
 refine qM (.bool false) ?_
 refine qM (.bool true) ?_
 refine qe (zA ?_)
 refine cN (zQ (xT (v := .bool false) (u := .bool true) rfl rfl rfl rfl rfl ?_))
 obtain ⟨o, r⟩ := @vC ns bs ps ae af (fun g => by have h1 := g.n; have h2 := g.la; have h3 := g.lb; rw [show ps.length - 1 = ((ps.length : Int) - 1).toNat by omega] at h2 h3; omega)
 exact ⟨_, by rw [o, r], c⟩
 refine zH (i := 3) rfl rfl rfl (zE rfl rfl rfl rfl) (by kernel_rfl) (fun _ _ => zU (v := vJ (ps.length : Int)) rfl) c.pins (zH (i := 4) rfl rfl rfl (zE rfl rfl rfl rfl) (by kernel_rfl) (fun _ _ => jV rfl rfl) c.pins (dT (i := 5) rfl rfl (by kernel_rfl) (fun _ _ => yH (v := .bool (decide ((200 : Int) < (ps.length : Int)))) rfl rfl) c.pins ?_))
 refine dM 6 (.bool (decide ((200 : Int) < (ps.length : Int)))) c.pins ?_
 refine drbd (p := (200 : Int) < (ps.length : Int)) (t := 29) rfl (fun ca => ?_) (fun ca => ?_)
 refine zD (i := 7) rfl rfl (zG rfl rfl rfl rfl rfl) (by kernel_rfl) c.pins (zD (i := 8) rfl rfl (zG rfl rfl rfl rfl rfl) (by kernel_rfl) c.pins (zD (i := 9) rfl rfl (zG rfl rfl rfl rfl rfl) (by kernel_rfl) c.pins (zD (i := 10) rfl rfl (zG rfl rfl rfl rfl rfl) (by kernel_rfl) c.pins (zD (i := 11) rfl rfl (zG rfl rfl rfl rfl rfl) (by kernel_rfl) c.pins (zD (i := 12) rfl rfl (zG rfl rfl rfl rfl rfl) (by kernel_rfl) c.pins (zD (i := 13) rfl rfl (zG rfl rfl rfl rfl rfl) (by kernel_rfl) c.pins (zD (i := 14) rfl rfl (zG rfl rfl rfl rfl rfl) (by kernel_rfl) c.pins (zD (i := 15) rfl rfl (zG rfl rfl rfl rfl rfl) (by kernel_rfl) c.pins (zD (i := 16) rfl rfl (zG rfl rfl rfl rfl rfl) (by kernel_rfl) c.pins (zD (i := 17) rfl rfl (zG rfl rfl rfl rfl rfl) (by kernel_rfl) c.pins (zD (i := 18) rfl rfl (zG rfl rfl rfl rfl rfl) (by kernel_rfl) c.pins (dT (i := 19) rfl rfl (by kernel_rfl) (fun _ _ => yJ (v := .bool true) rfl rfl) c.pins ?_))))))))))))
 refine dM 20 (.bool true) c.pins ?_
 refine zD (i := 21) rfl rfl (zG rfl rfl rfl rfl rfl) (by kernel_rfl) c.pins (zD (i := 22) rfl rfl (zG rfl rfl rfl rfl rfl) (by kernel_rfl) c.pins (zD (i := 23) rfl rfl (zG rfl rfl rfl rfl rfl) (by kernel_rfl) c.pins (zD (i := 24) rfl rfl (zG rfl rfl rfl rfl rfl) (by kernel_rfl) c.pins (zD (i := 25) rfl rfl (zG rfl rfl rfl rfl rfl) (by kernel_rfl) c.pins (zD (i := 26) rfl rfl (zG rfl rfl rfl rfl rfl) (by kernel_rfl) c.pins (zD (i := 27) rfl rfl (zG rfl rfl rfl rfl rfl) (by kernel_rfl) c.pins (zD (i := 28) rfl rfl (zG rfl rfl rfl rfl rfl) (by kernel_rfl) c.pins (zD (i := 29) rfl rfl (zG rfl rfl rfl rfl rfl) (by kernel_rfl) c.pins (zD (i := 30) rfl rfl (zG rfl rfl rfl rfl rfl) (by kernel_rfl) c.pins (zD (i := 31) rfl rfl (zG rfl rfl rfl rfl rfl) (by kernel_rfl) c.pins (zD (i := 32) rfl rfl (zG rfl rfl rfl rfl rfl) (by kernel_rfl) c.pins (dT (i := 33) rfl rfl (by kernel_rfl) (fun _ _ => yJ (v := .bool true) rfl rfl) c.pins ?_))))))))))))
 refine zY (by kernel_rfl) (zA (xW rfl rfl (w9d ?_)))
 refine qM (.bool false) ?_
 refine qM (.bool true) ?_
 refine qe (zA ?_)
 refine cN (zQ (xT (v := .bool false) (u := .bool true) rfl rfl rfl rfl rfl ?_))
 obtain ⟨o, r⟩ := @vC ns bs ps ae af (fun g => by have h1 := g.n; have h2 := g.la; have h3 := g.lb; rw [show ps.length - 1 = ((ps.length : Int) - 1).toNat by omega] at h2 h3; omega)
 exact ⟨_, by rw [o, r], c⟩
 refine zH (i := 7) rfl rfl rfl (zE rfl rfl rfl rfl) (by kernel_rfl) (fun _ _ => zK (k := 0) rfl dI rfl nz27 rfl) c.pins (zH (i := 8) rfl rfl rfl (zE rfl rfl rfl rfl) (by kernel_rfl) (fun _ hS => zM (u := u) ag27 rfl ((cB hS (cA d.le f.le)) _ _ _ (aj 0 _ rfl))) c.pins (zH (i := 9) rfl rfl rfl (zE rfl rfl rfl rfl) (by kernel_rfl) (fun _ _ => zU (v := vJ (ps.length : Int)) rfl) c.pins (zH (i := 10) rfl rfl rfl (zE rfl rfl rfl rfl) (by kernel_rfl) (fun _ _ => xR rfl rfl (by omega)) c.pins (zH (i := 11) rfl rfl rfl (zE rfl rfl rfl rfl) (by kernel_rfl) (fun _ _ => zI dG sz53 (v := u) rfl rfl hu (by omega) (by omega)) c.pins (zH (i := 12) rfl rfl rfl (zE rfl rfl rfl rfl) (by kernel_rfl) (fun _ _ => yI (off := 0) dD rfl rfl nz3 (z := (ps.length : Int) - 1) (k := 0) rfl hu (by omega) (by omega)) c.pins ?_)))))
 obtain ⟨dt, cb, du, cc⟩ := xX (j := ((ps.length : Int) - 1).toNat) default (hu.at (z := (ps.length : Int) - 1) (by omega) (by omega)) rfl
 obtain ⟨dv, dw, rfl, cd, ce⟩ := cb
 have dx := cd.max
 have dy := ce.max
 refine zH (i := 13) rfl rfl rfl (zE rfl rfl rfl rfl) (by kernel_rfl) (fun _ hS => cc 0 _ rfl ag3 rfl (cB hS (cA (cA (cA (cA ad y) h) d.le) f.le))) c.pins (zH (i := 14) rfl rfl rfl (zE rfl rfl rfl rfl) (by kernel_rfl) (fun _ _ => zK (k := 0) rfl dE rfl nz24 rfl) c.pins (zH (i := 15) rfl rfl rfl (zE rfl rfl rfl rfl) (by kernel_rfl) (fun _ hS => zM (u := v) ag24 rfl ((cB hS (cA (cA (cA y h) d.le) f.le)) _ _ _ (ak 0 _ rfl))) c.pins (zH (i := 16) rfl rfl rfl (zE rfl rfl rfl rfl) (by kernel_rfl) (fun _ _ => run_len dC (v := v) rfl ha) c.pins (zH (i := 17) rfl rfl rfl (zE rfl rfl rfl rfl) (by kernel_rfl) (fun _ _ => xR rfl rfl (by omega)) c.pins (zH (i := 18) rfl rfl rfl (zE rfl rfl rfl rfl) (by kernel_rfl) (fun _ _ => jU rfl rfl) c.pins (dT (i := 19) rfl rfl (by kernel_rfl) (fun _ _ => yH (v := .bool (decide (((ps.getD ((ps.length : Int) - 1).toNat default).a : Int) ≠ ((ns.length : Int) - 1)))) rfl rfl) c.pins ?_))))))
 refine dM 20 (.bool (decide (((ps.getD ((ps.length : Int) - 1).toNat default).a : Int) ≠ ((ns.length : Int) - 1)))) c.pins ?_
 refine drbd (p := ((ps.getD ((ps.length : Int) - 1).toNat default).a : Int) ≠ ((ns.length : Int) - 1)) (t := 43) rfl (fun cf => ?_) (fun cf => ?_)
 refine zD (i := 21) rfl rfl (zG rfl rfl rfl rfl rfl) (by kernel_rfl) c.pins (zD (i := 22) rfl rfl (zG rfl rfl rfl rfl rfl) (by kernel_rfl) c.pins (zD (i := 23) rfl rfl (zG rfl rfl rfl rfl rfl) (by kernel_rfl) c.pins (zD (i := 24) rfl rfl (zG rfl rfl rfl rfl rfl) (by kernel_rfl) c.pins (zD (i := 25) rfl rfl (zG rfl rfl rfl rfl rfl) (by kernel_rfl) c.pins (zD (i := 26) rfl rfl (zG rfl rfl rfl rfl rfl) (by kernel_rfl) c.pins (zD (i := 27) rfl rfl (zG rfl rfl rfl rfl rfl) (by kernel_rfl) c.pins (zD (i := 28) rfl rfl (zG rfl rfl rfl rfl rfl) (by kernel_rfl) c.pins (zD (i := 29) rfl rfl (zG rfl rfl rfl rfl rfl) (by kernel_rfl) c.pins (zD (i := 30) rfl rfl (zG rfl rfl rfl rfl rfl) (by kernel_rfl) c.pins (zD (i := 31) rfl rfl (zG rfl rfl rfl rfl rfl) (by kernel_rfl) c.pins (zD (i := 32) rfl rfl (zG rfl rfl rfl rfl rfl) (by kernel_rfl) c.pins (dT (i := 33) rfl rfl (by kernel_rfl) (fun _ _ => yJ (v := .bool true) rfl rfl) c.pins ?_))))))))))))
 refine zY (by kernel_rfl) (zA (xW rfl rfl (w9d ?_)))
 refine qM (.bool false) ?_
 refine qM (.bool true) ?_
 refine qe (zA ?_)
 refine cN (zQ (xT (v := .bool false) (u := .bool true) rfl rfl rfl rfl rfl ?_))
 obtain ⟨o, r⟩ := @vC ns bs ps ae af (fun g => by have h1 := g.n; have h2 := g.la; have h3 := g.lb; rw [show ps.length - 1 = ((ps.length : Int) - 1).toNat by omega] at h2 h3; omega)
 exact ⟨_, by rw [o, r], c⟩
 refine zH (i := 21) rfl rfl rfl (zE rfl rfl rfl rfl) (by kernel_rfl) (fun _ _ => zK (k := 0) rfl dI rfl nz27 rfl) c.pins (zH (i := 22) rfl rfl rfl (zE rfl rfl rfl rfl) (by kernel_rfl) (fun _ hS => zM (u := u) ag27 rfl ((cB hS (cA d.le f.le)) _ _ _ (aj 0 _ rfl))) c.pins (zH (i := 23) rfl rfl rfl (zE rfl rfl rfl rfl) (by kernel_rfl) (fun _ _ => zU (v := vJ (ps.length : Int)) rfl) c.pins (zH (i := 24) rfl rfl rfl (zE rfl rfl rfl rfl) (by kernel_rfl) (fun _ _ => xR rfl rfl (by omega)) c.pins (zH (i := 25) rfl rfl rfl (zE rfl rfl rfl rfl) (by kernel_rfl) (fun _ _ => zI dG sz53 (v := u) rfl rfl hu (by omega) (by omega)) c.pins (zH (i := 26) rfl rfl rfl (zE rfl rfl rfl rfl) (by kernel_rfl) (fun _ _ => yI (off := 1) dD rfl rfl nz3 (z := (ps.length : Int) - 1) (k := 0) rfl hu (by omega) (by omega)) c.pins ?_)))))
 obtain ⟨dz, cg, d0, ch⟩ := xX (j := ((ps.length : Int) - 1).toNat) default (hu.at (z := (ps.length : Int) - 1) (by omega) (by omega)) rfl
 obtain ⟨d1, d2, rfl, ci, cj⟩ := cg
 have d3 := ci.max
 have d4 := cj.max
 refine zH (i := 27) rfl rfl rfl (zE rfl rfl rfl rfl) (by kernel_rfl) (fun _ hS => ch 1 _ rfl ag3 rfl (cB hS (cA (cA (cA (cA ad y) h) d.le) f.le))) c.pins (zH (i := 28) rfl rfl rfl (zE rfl rfl rfl rfl) (by kernel_rfl) (fun _ _ => zK (k := 0) rfl dE rfl nz24 rfl) c.pins (zH (i := 29) rfl rfl rfl (zE rfl rfl rfl rfl) (by kernel_rfl) (fun _ hS => zM (u := x) ag24 rfl ((cB hS (cA (cA h d.le) f.le)) _ _ _ (al 0 _ rfl))) c.pins (zH (i := 30) rfl rfl rfl (zE rfl rfl rfl rfl) (by kernel_rfl) (fun _ _ => run_len dC (v := x) rfl hb) c.pins (zH (i := 31) rfl rfl rfl (zE rfl rfl rfl rfl) (by kernel_rfl) (fun _ _ => xR rfl rfl (by omega)) c.pins (zH (i := 32) rfl rfl rfl (zE rfl rfl rfl rfl) (by kernel_rfl) (fun _ _ => jU rfl rfl) c.pins (dT (i := 33) rfl rfl (by kernel_rfl) (fun _ _ => yH (v := .bool (decide (((ps.getD ((ps.length : Int) - 1).toNat default).b : Int) ≠ ((bs.length : Int) - 1)))) rfl rfl) c.pins ?_))))))
 refine zY (by kernel_rfl) (zA (yE (p := ((ps.getD ((ps.length : Int) - 1).toNat default).b : Int) ≠ ((bs.length : Int) - 1)) rfl rfl (fun ck => ?_) (fun ck => ?_)))
 refine w9d ?_
 refine qM (.bool false) ?_
 refine qM (.bool true) ?_
 refine qe (zA ?_)
 refine cN (zQ (xT (v := .bool false) (u := .bool true) rfl rfl rfl rfl rfl ?_))
 obtain ⟨o, r⟩ := @vC ns bs ps ae af (fun g => by have h1 := g.n; have h2 := g.la; have h3 := g.lb; rw [show ps.length - 1 = ((ps.length : Int) - 1).toNat by omega] at h2 h3; omega)
 exact ⟨_, by rw [o, r], c⟩
 refine cM (zA (w9b ?_))
 refine qD rfl (zK (k := 0) rfl dI rfl nz27 rfl) (qD rfl (zM (u := u) ag27 rfl ((cB c.pins (cA d.le f.le)) _ _ _ (aj 0 _ rfl))) (qD rfl (run_len dG (v := u) rfl hu) (qM (vJ 0) ?_)))
 refine qe (zA ?_)
 refine zX (yO (fun k en W => ∃ (bb : Nat → Value) (m : Nat) (ax : Pin), en = (upd (upd (upd (upd (upd (upd bb 3 (vP b1)) 4 (vP a8)) 5 (vP a9)) 58 u) 59 (vJ (ps.length : Int))) 60 (vJ (m : Int))) ∧ k = ps.length - m ∧ Ext noS G w ax W ∧ Pin.le aw ax ∧ (m ≤ ps.length) ∧ (∀ q, q < m → RightP ns bs ps q) ∧ (∀ q, 1 ≤ q → q < m → AheadP (ps.getD (q - 1) default) (ps.getD q default))) _ ⟨_, 0, aw, (pS 60 (pS 59 (pS 58 (pS 5 (pS 4 (pU 3)))))), rfl, c, cI _, cH _, (fun i hi => absurd hi (cJ i)), (fun q a b => absurd b (by omega))⟩ ?_)
 rintro d5 _ d6 ⟨bb, m, ax, rfl, d7, am, l, hk, hok, hst⟩
 refine w9d ?_
 refine qD rfl (yR rfl rfl) (qe (zA (zB ?_)))
 refine yE (p := ((m : Int) : Int) < (ps.length : Int)) rfl rfl (fun cl => ?_) (fun cl => ?_)
 refine cM (zA (zB ?_))
 refine zX (w9d ?_)
 refine qM (vJ (m : Int)) ?_
 refine qD rfl (zI dG sz53 (v := u) rfl rfl hu (by omega) (by omega)) ?_
 obtain ⟨d8, cm, cn, d9⟩ := xX (j := m) default (hu.at (z := (m : Int)) (by omega) (by omega)) rfl
 obtain ⟨ay, az, rfl, bc, bd⟩ := cm
 have ea := bc.max
 have eb := bd.max
 refine qD rfl (cn ag53 sz53 rfl (cB am.pins (cA (cA (cA (cA (cA ad y) h) d.le) f.le) l))) (qI rfl (yN [vJ 0, vJ 0, vN, vN] zr53 rfl am.pins (fun co ec ed cp cq cr => ?_)))
 have be := am.step cq cr
 have bf : w.heap.size ≤ co := by have := am.size; omega
 refine qM (vJ (m : Int)) ?_
 refine q0 rfl rfl rfl (o_stp (cs' := [vJ ((ps.getD m default).a), vJ ((ps.getD m default).b), ay, az]) (us := [vJ ((ps.getD m default).a), vJ ((ps.getD m default).b), ay, az]) (v := .agg #[vJ ((ps.getD m default).a), vJ ((ps.getD m default).b), ay, az]) sz53 rfl rfl rfl (gO (by rfl) (by rfl) bc.one bd.one) be.pins cp (cD rfl) rfl (fun ee ct cu cv ef => ?_))
 have cw := be.write cu cv ((zW bf))
 obtain ⟨eg, s, ai, a0, eh⟩ := ct.shut cw bf
 refine qe (zA (w9b ?_))
 refine qM (vJ (m : Int)) ?_
 refine qD rfl (jV rfl rfl) (qe (zA ?_))
 refine yE (p := (0 : Int) < (m : Int)) rfl rfl (fun cx => ?_) (fun cx => ?_)
 refine w9d ?_
 refine qD rfl (zK (k := 0) rfl dI rfl nz27 rfl) (qD rfl (zM (u := u) ag27 rfl ((cB ai.pins (cA (cA (cA d.le f.le) l) s)) _ _ _ (aj 0 _ rfl))) (qM (vJ (m : Int)) ?_))
 refine qD rfl (xR rfl rfl (by omega)) (qD rfl (zI dG sz53 (v := u) rfl rfl hu (by omega) (by omega)) ?_)
 obtain ⟨ei, cy, cz, ej⟩ := xX (j := ((m : Int) - 1).toNat) default (hu.at (z := (m : Int) - 1) (by omega) (by omega)) rfl
 obtain ⟨a1, a2, rfl, bg, bh⟩ := cy
 have ek := bg.max
 have el := bh.max
 refine qD rfl (cz ag53 sz53 rfl (cB ai.pins (cA (cA (cA (cA (cA (cA ad y) h) d.le) f.le) l) s))) (qI rfl (yN [vJ 0, vJ 0, vN, vN] zr53 rfl ai.pins (fun c0 em eo c1 c2 c3 => ?_)))
 have bi := ai.step c2 c3
 have bj : w.heap.size ≤ c0 := by have := ai.size; omega
 refine q0 rfl rfl rfl (o_stp (cs' := [vJ ((ps.getD ((m : Int) - 1).toNat default).a), vJ ((ps.getD ((m : Int) - 1).toNat default).b), a1, a2]) (us := [vJ ((ps.getD ((m : Int) - 1).toNat default).a), vJ ((ps.getD ((m : Int) - 1).toNat default).b), a1, a2]) (v := .agg #[vJ ((ps.getD ((m : Int) - 1).toNat default).a), vJ ((ps.getD ((m : Int) - 1).toNat default).b), a1, a2]) sz53 rfl rfl rfl (gO (by rfl) (by rfl) bg.one bh.one) bi.pins c1 (cD rfl) rfl (fun ep c4 c5 c6 eq => ?_))
 have c7 := bi.write c5 c6 ((zW bj))
 obtain ⟨er, ac, ab, a3, es⟩ := c4.shut c7 bj
 refine qe (w9a ?_)
 refine qD rfl (zK (k := 0) rfl dD rfl nz3 rfl) (qD rfl (zM (u := vJ ((ps.getD m default).a)) ag3 rfl ((cB ab.pins ac) _ _ _ (a0 0 _ rfl))) (qD rfl (zK (k := 0) rfl dD rfl nz3 rfl) (qD rfl (zM (u := vJ ((ps.getD ((m : Int) - 1).toNat default).a)) ag3 rfl (ab.pins _ _ _ (a3 0 _ rfl))) (qD rfl (yR rfl rfl) (qM (.bool (decide (((ps.getD m default).a : Int) < ((ps.getD ((m : Int) - 1).toNat default).a)))) ?_)))))
 refine qbd (p := ((ps.getD m default).a : Int) < ((ps.getD ((m : Int) - 1).toNat default).a)) (t := 78) rfl (fun c8 => ?_) (fun c8 => ?_)
 refine qW ?_
 refine qW ?_
 refine qW ?_
 refine qW ?_
 refine qW ?_
 refine qW ?_
 refine qX ?_
 refine qX ?_
 refine qX ?_
 refine qX ?_
 refine qX ?_
 refine qW ?_
 refine qD rfl (yJ (v := .bool true) rfl rfl) (qe (zA ?_))
 refine xW rfl rfl (w9d ?_)
 refine qM (.bool false) ?_
 refine qM (.bool true) ?_
 refine qe (zA ?_)
 refine cN (zQ (xT (v := .bool false) (u := .bool true) rfl rfl rfl rfl rfl ?_))
 obtain ⟨o, r⟩ := @vC ns bs ps ae af (fun g => by have a := g.st m (by omega) (by omega); unfold AheadP at a; rw [show m - 1 = ((m : Int) - 1).toNat by omega] at a; omega)
 exact ⟨_, by rw [o, r], ab⟩
 refine qN (zK (k := 0) rfl dD rfl nz3 rfl) ?_
 refine qN (zM (u := vJ ((ps.getD m default).a)) ag3 rfl ((cB ab.pins ac) _ _ _ (a0 0 _ rfl))) ?_
 refine qN (zK (k := 0) rfl dD rfl nz3 rfl) ?_
 refine qN (zM (u := vJ ((ps.getD ((m : Int) - 1).toNat default).a)) ag3 rfl (ab.pins _ _ _ (a3 0 _ rfl))) ?_
 refine qN (xY rfl rfl) ?_
 refine qN (zU (v := .bool (decide (((ps.getD m default).a : Int) = ((ps.getD ((m : Int) - 1).toNat default).a)))) rfl) ?_
 refine qbd (p := ((ps.getD m default).a : Int) = ((ps.getD ((m : Int) - 1).toNat default).a)) (t := 84) rfl (fun c9 => ?_) (fun c9 => ?_)
 refine qN (zK (k := 1) rfl dD rfl nz3 rfl) ?_
 refine qN (zM (u := vJ ((ps.getD m default).b)) ag3 rfl ((cB ab.pins ac) _ _ _ (a0 1 _ rfl))) ?_
 refine qN (zK (k := 1) rfl dD rfl nz3 rfl) ?_
 refine qN (zM (u := vJ ((ps.getD ((m : Int) - 1).toNat default).b)) ag3 rfl (ab.pins _ _ _ (a3 1 _ rfl))) ?_
 refine qN (gN rfl rfl) ?_
 refine qN (yJ (v := .bool (decide (((ps.getD m default).b : Int) ≤ ((ps.getD ((m : Int) - 1).toNat default).b)))) rfl rfl) ?_
 refine qD rfl (yH (v := .bool (decide (((ps.getD m default).b : Int) ≤ ((ps.getD ((m : Int) - 1).toNat default).b)))) rfl rfl) (qe (zA ?_))
 refine yE (p := ((ps.getD m default).b : Int) ≤ ((ps.getD ((m : Int) - 1).toNat default).b)) rfl rfl (fun da => ?_) (fun da => ?_)
 refine w9d ?_
 refine qM (.bool false) ?_
 refine qM (.bool true) ?_
 refine qe (zA ?_)
 refine cN (zQ (xT (v := .bool false) (u := .bool true) rfl rfl rfl rfl rfl ?_))
 obtain ⟨o, r⟩ := @vC ns bs ps ae af (fun g => by have a := g.st m (by omega) (by omega); unfold AheadP at a; rw [show m - 1 = ((m : Int) - 1).toNat by omega] at a; omega)
 exact ⟨_, by rw [o, r], ab⟩
 refine cM (w9a ?_)
 refine qD rfl (zR (cs := [u]) ag29 sz29 rfl (fun j u hj => (cB ab.pins (cA (cA (cA (cA d.le f.le) l) s) ac)) _ _ _ (aj _ _ (by simpa using hj)))) (qM (vJ (m : Int)) ?_)
 refine qD rfl (zK (k := 0) rfl dE rfl nz24 rfl) (qD rfl (zM (u := v) ag24 rfl ((cB ab.pins (cA (cA (cA (cA (cA (cA y h) d.le) f.le) l) s) ac)) _ _ _ (ak 0 _ rfl))) (qD rfl (zK (k := 0) rfl dE rfl nz24 rfl) (qD rfl (zM (u := x) ag24 rfl ((cB ab.pins (cA (cA (cA (cA (cA h d.le) f.le) l) s) ac)) _ _ _ (al 0 _ rfl))) (qI rfl (zO (vs := [.agg #[u], vJ (m : Int), v, x]) Tryz.func20 nm20 rfl rfl rfl ?_)))))
 refine cC (fX ab.pins (hu.mono (cA (cA (cA (cA (cA (cA (cA ad y) h) d.le) f.le) l) s) ac)) (ha.mono (cA (cA (cA (cA (cA (cA (cA ad y) h) d.le) f.le) l) s) ac)) (hb.mono (cA (cA (cA (cA (cA (cA (cA ad y) h) d.le) f.le) l) s) ac)) (by omega) hga hgb) ?_
 rintro _ et ⟨db, rfl, bk⟩
 refine rt9 ?_
 have bl := ab.tr bk
 refine qD rfl (xM rfl) (qe (zA ?_))
 refine qQ rfl rfl (fun a4 => ?_) (fun a4 => ?_)
 refine cM (w9c ?_)
 refine qD rfl (yP rfl rfl (by omega)) (qM (vJ ((m : Int) + 1)) ?_)
 refine qe (yK (⟨_, ?_, _, rfl, _, m + 1, db, (pS 60 (pS 59 (pS 58 (pS 5 (pS 4 (pU 3)))))), rfl, bl, (cA (cA (cA l s) ac) bk.le), (by omega), (fun q hq => if h3 : q = m then h3 ▸ decP_true.1 a4 else hok q (by omega)), (fun q h1 h2 => if h3 : q = m then h3 ▸ (by unfold AheadP; rw [show m - 1 = ((m : Int) - 1).toNat by omega]; omega) else hst q h1 (by omega))⟩))
 omega
 refine w9d ?_
 refine qM (.bool false) ?_
 refine qM (.bool true) ?_
 refine qe (zA ?_)
 refine cN (zQ (xT (v := .bool false) (u := .bool true) rfl rfl rfl rfl rfl ?_))
 obtain ⟨o, r⟩ := @vC ns bs ps ae af (fun g => decP_false.1 a4 (g.ok m (by omega)))
 exact ⟨_, by rw [o, r], bl⟩
 refine qW ?_
 refine qW ?_
 refine qW ?_
 refine qW ?_
 refine qW ?_
 refine qN (yH (v := .bool false) rfl rfl) ?_
 refine qD rfl (yH (v := .bool false) rfl rfl) (qe (zA ?_))
 refine qY rfl rfl (cM (w9a ?_))
 refine qD rfl (zR (cs := [u]) ag29 sz29 rfl (fun j u hj => (cB ab.pins (cA (cA (cA (cA d.le f.le) l) s) ac)) _ _ _ (aj _ _ (by simpa using hj)))) (qM (vJ (m : Int)) ?_)
 refine qD rfl (zK (k := 0) rfl dE rfl nz24 rfl) (qD rfl (zM (u := v) ag24 rfl ((cB ab.pins (cA (cA (cA (cA (cA (cA y h) d.le) f.le) l) s) ac)) _ _ _ (ak 0 _ rfl))) (qD rfl (zK (k := 0) rfl dE rfl nz24 rfl) (qD rfl (zM (u := x) ag24 rfl ((cB ab.pins (cA (cA (cA (cA (cA h d.le) f.le) l) s) ac)) _ _ _ (al 0 _ rfl))) (qI rfl (zO (vs := [.agg #[u], vJ (m : Int), v, x]) Tryz.func20 nm20 rfl rfl rfl ?_)))))
 refine cC (fX ab.pins (hu.mono (cA (cA (cA (cA (cA (cA (cA ad y) h) d.le) f.le) l) s) ac)) (ha.mono (cA (cA (cA (cA (cA (cA (cA ad y) h) d.le) f.le) l) s) ac)) (hb.mono (cA (cA (cA (cA (cA (cA (cA ad y) h) d.le) f.le) l) s) ac)) (by omega) hga hgb) ?_
 rintro _ eu ⟨dc, rfl, bm⟩
 refine rt9 ?_
 have bn := ab.tr bm
 refine qD rfl (xM rfl) (qe (zA ?_))
 refine qQ rfl rfl (fun a5 => ?_) (fun a5 => ?_)
 refine cM (w9c ?_)
 refine qD rfl (yP rfl rfl (by omega)) (qM (vJ ((m : Int) + 1)) ?_)
 refine qe (yK (⟨_, ?_, _, rfl, _, m + 1, dc, (pS 60 (pS 59 (pS 58 (pS 5 (pS 4 (pU 3)))))), rfl, bn, (cA (cA (cA l s) ac) bm.le), (by omega), (fun q hq => if h3 : q = m then h3 ▸ decP_true.1 a5 else hok q (by omega)), (fun q h1 h2 => if h3 : q = m then h3 ▸ (by unfold AheadP; rw [show m - 1 = ((m : Int) - 1).toNat by omega]; omega) else hst q h1 (by omega))⟩))
 omega
 refine w9d ?_
 refine qM (.bool false) ?_
 refine qM (.bool true) ?_
 refine qe (zA ?_)
 refine cN (zQ (xT (v := .bool false) (u := .bool true) rfl rfl rfl rfl rfl ?_))
 obtain ⟨o, r⟩ := @vC ns bs ps ae af (fun g => decP_false.1 a5 (g.ok m (by omega)))
 exact ⟨_, by rw [o, r], bn⟩
 refine cM (w9a ?_)
 refine qD rfl (zR (cs := [u]) ag29 sz29 rfl (fun j u hj => (cB ai.pins (cA (cA (cA d.le f.le) l) s)) _ _ _ (aj _ _ (by simpa using hj)))) (qM (vJ (m : Int)) ?_)
 refine qD rfl (zK (k := 0) rfl dE rfl nz24 rfl) (qD rfl (zM (u := v) ag24 rfl ((cB ai.pins (cA (cA (cA (cA (cA y h) d.le) f.le) l) s)) _ _ _ (ak 0 _ rfl))) (qD rfl (zK (k := 0) rfl dE rfl nz24 rfl) (qD rfl (zM (u := x) ag24 rfl ((cB ai.pins (cA (cA (cA (cA h d.le) f.le) l) s)) _ _ _ (al 0 _ rfl))) (qI rfl (zO (vs := [.agg #[u], vJ (m : Int), v, x]) Tryz.func20 nm20 rfl rfl rfl ?_)))))
 refine cC (fX ai.pins (hu.mono (cA (cA (cA (cA (cA (cA ad y) h) d.le) f.le) l) s)) (ha.mono (cA (cA (cA (cA (cA (cA ad y) h) d.le) f.le) l) s)) (hb.mono (cA (cA (cA (cA (cA (cA ad y) h) d.le) f.le) l) s)) (by omega) hga hgb) ?_
 rintro _ ev ⟨dd, rfl, bo⟩
 refine rt9 ?_
 have bp := ai.tr bo
 refine qD rfl (xM rfl) (qe (zA ?_))
 refine qQ rfl rfl (fun a6 => ?_) (fun a6 => ?_)
 refine cM (w9c ?_)
 refine qD rfl (yP rfl rfl (by omega)) (qM (vJ ((m : Int) + 1)) ?_)
 refine qe (yK (⟨_, ?_, _, rfl, _, m + 1, dd, (pS 60 (pS 59 (pS 58 (pS 5 (pS 4 (pU 3)))))), rfl, bp, (cA (cA l s) bo.le), (by omega), (fun q hq => if h3 : q = m then h3 ▸ decP_true.1 a6 else hok q (by omega)), (fun q h1 h2 => if h3 : q = m then h3 ▸ (by unfold AheadP; rw [show m - 1 = ((m : Int) - 1).toNat by omega]; omega) else hst q h1 (by omega))⟩))
 omega
 refine w9d ?_
 refine qM (.bool false) ?_
 refine qM (.bool true) ?_
 refine qe (zA ?_)
 refine cN (zQ (xT (v := .bool false) (u := .bool true) rfl rfl rfl rfl rfl ?_))
 obtain ⟨o, r⟩ := @vC ns bs ps ae af (fun g => decP_false.1 a6 (g.ok m (by omega)))
 exact ⟨_, by rw [o, r], bp⟩
 refine cO (zZ (yM (yL (w9a ?_))))
 refine qM (.bool true) ?_
 refine qM (.bool true) ?_
 refine qe (zA ?_)
 refine cN (zQ (xT (v := .bool true) (u := .bool true) rfl rfl rfl rfl rfl ?_))
 obtain ⟨o, r⟩ := @cp_yes ns bs ps ae af ⟨⟨by omega, by omega⟩, (by rw [show ps.length - 1 = ((ps.length : Int) - 1).toNat by omega]; omega), (by rw [show ps.length - 1 = ((ps.length : Int) - 1).toNat by omega]; omega), fun q h1 h2 => hst q h1 (by omega), fun q hq => hok q (by omega)⟩
 exact ⟨_, by rw [o, r], am⟩
 refine w9d ?_
 refine qM (.bool false) ?_
 refine qM (.bool false) ?_
 refine qe (zA ?_)
 refine cN (zQ (xT (v := .bool false) (u := .bool false) rfl rfl rfl rfl rfl ?_))
 obtain ⟨o, r⟩ := @sT ns bs ps (cF af)
 exact ⟨_, by rw [o, r], ao⟩
 refine qW ?_
 refine qW ?_
 refine qW ?_
 refine qD rfl (yJ (v := .bool true) rfl rfl) (qe (zA ?_))
 refine xW rfl rfl (w9d ?_)
 refine qM (.bool false) ?_
 refine qM (.bool false) ?_
 refine qe (zA ?_)
 refine cN (zQ (xT (v := .bool false) (u := .bool false) rfl rfl rfl rfl rfl ?_))
 obtain ⟨o, r⟩ := @sT ns bs ps (cE ae)
 exact ⟨_, by rw [o, r], an⟩
end P1
namespace AT1
open B1 K1 PO1 PL1
theorem nC {w : World} {G : Pin} {u v : Value} {ax bs : List Nd} (hP : Pins G w) (hu : RSl eNode G u ax) (hv : RSl eNode G v bs) :
  Calls Tryz.prog 9 [.agg #[u], .agg #[v]].toArray w fun e w' => ∃ G', e = .returned (.tuple #[.bool (alB ax bs), .bool (goodB ax && goodB bs)]) ∧ Ext noS G w G' w' := by
 refine yA (n := 24) Tryz.func9 Tryz.ntmps9 rfl rfl ?_
 have al := exr noS hP
 refine w9d ?_
 refine qI rfl (xH [u] (v := .agg #[u]) rfl rfl al.pins (fun b1 w2 cf bj bk bl => ?_))
 have bm := al.step bk bl
 have bn : w.heap.size ≤ b1 := by have := al.size; omega
 obtain ⟨G9, ac, am, a2, ch⟩ := bj.shut bm bn
 refine qI rfl (xH [v] (v := .agg #[v]) rfl rfl am.pins (fun bo ci cj bp bq br => ?_))
 have bt := am.step bq br
 have bu : w.heap.size ≤ bo := by have := am.size; omega
 obtain ⟨ck, p, an, a3, cl⟩ := bp.shut bt bu
 refine qM (.bool false) ?_
 refine qM (.bool false) ?_
 refine qe (zA (w9b ?_))
 refine qD rfl (zR (cs := [u]) ag26 sz26 rfl (fun j u hj => (cB an.pins p) _ _ _ (a2 _ _ (by simpa using hj)))) (qI rfl (zO (vs := [.agg #[u]]) Tryz.func19 nm19 rfl rfl rfl ?_))
 refine cC (jT an.pins (hu.mono (cA ac p))) ?_
 rintro _ cm ⟨cn, rfl, g⟩
 refine rt9 ?_
 have ad := an.tr g
 refine qD rfl (xM rfl) (qM (.bool (!(goodB ax))) ?_)
 refine qbn (t := 10) rfl (fun ao => ?_) (fun ao => ?_)
 refine qN (zR (cs := [v]) ag26 sz26 rfl (fun j u hj => (cB ad.pins g.le) _ _ _ (a3 _ _ (by simpa using hj)))) ?_
 refine q1g rfl rfl rfl rfl rfl rfl (zO (vs := [.agg #[v]]) Tryz.func19 nm19 rfl rfl rfl ?_)
 refine cC (jT ad.pins (hv.mono (cA (cA ac p) g.le))) ?_
 rintro _ co ⟨cp, rfl, s⟩
 refine rt9 ?_
 have ae := ad.tr s
 refine qN (xM rfl) ?_
 refine qD rfl (yH (v := .bool (!(goodB bs))) rfl rfl) (qe (zA ?_))
 refine qQ rfl rfl (fun ap => ?_) (fun ap => ?_)
 refine cM (w9a ?_)
 have hga : GoodP ax := goodB_true.1 ao
 have hgb : GoodP bs := goodB_true.1 ap
 have hla := hga.lo
 have hlb := hgb.lo
 have hha := hga.hi
 have hhb := hgb.hi
 refine qI rfl (zO (vs := []) Tryz.func25 nm25 rfl rfl rfl ?_)
 refine cC (pX ae.pins) ?_
 rintro _ af ⟨a, aq, a4, rfl, a5, bv, x⟩
 refine rt9 ?_
 have a6 := ae.tr x
 have bw : PIn w (noS) a vN vN vN aq := PIn.fresh bv ae.size
 obtain ⟨c, au⟩ : ∃ q, q = (⟨[], [], [], [], [], [], []⟩ : PSt) := ⟨_, rfl⟩
 rw [← au] at a5
 have av : PoolOk c := by rw [au]; exact PoolOk.empty
 have hq45l : c.ns.length = 0 := by rw [au]; rfl
 obtain ⟨a7, a8, a9, ba, bb, bc⟩ : ∃ (l r b : Value), l = .slice none 0 0 ∧ r = .slice none 0 0 ∧ b = .slice none 0 0 := ⟨_, _, _, rfl, rfl, rfl⟩
 have bx : Pk 40 3 a4 af a a7 a8 a9 aq c := by rw [ba, bb, bc]; exact a5
 have bd : PIn w (noS) a a7 a8 a9 aq := by rw [ba, bb, bc]; exact bw
 have cq := pkl c
 have cr := pkb av
 refine qM (vP a) ?_
 refine qe (zA (zB ?_))
 refine yQ (S := fun wz => Pins a4 wz) (last := 10) (by kernel_rfl) rfl ?_
 have aw := bdr af
 have be := a6.pins.below aw
 have f := a6.step be aw
 have bz := bx.below aw be
 refine dM 0 (vP a) f.pins ?_
 refine dM 1 (vP a) f.pins ?_
 refine dT (i := 2) rfl rfl (by kernel_rfl) (fun _ hS => zR (cs := [u]) ag26 sz26 rfl (fun j u hj => (cB hS (cA (cA (cA p g.le) s.le) x.le)) _ _ _ (a2 _ _ (by simpa using hj)))) f.pins ?_
 refine dM 4 (vP a) f.pins ?_
 refine dT (i := 5) rfl rfl (by kernel_rfl) (fun _ hS => zR (cs := [v]) ag26 sz26 rfl (fun j u hj => (cB hS (cA (cA g.le s.le) x.le)) _ _ _ (a3 _ _ (by simpa using hj)))) f.pins ?_
 refine dP (i := 3) rfl rfl (zO (vs := [vP a, .agg #[u]]) Tryz.func27 nm27 rfl rfl rfl ?_)
 refine cC (jI f.pins bz av (hu.mono (cA (cA (cA (cA ac p) g.le) s.le) x.le)) (qS hga) (by omega) hla) ?_
 rintro _ ct ⟨ay, cu, cv, cw, h, cx, rfl, b0, ag, b2, b3, k, bf, b4, cy⟩
 refine rt9 ?_
 have ah := f.trans k bd
 have bg := PIn.call bd b3 f.size
 have cz := b2.len
 have c0 := pkl h
 have c1 := pkb ag
 refine ⟨fun _ => (cB ah.pins k.le), ?_⟩
 refine dP (i := 6) rfl rfl (zO (vs := [vP a, .agg #[v]]) Tryz.func27 nm27 rfl rfl rfl ?_)
 refine cC (jI ah.pins b0 ag (hv.mono (cA (cA (cA (cA (cA ac p) g.le) s.le) x.le) k.le)) (qS hgb) (by omega) hlb) ?_
 rintro _ c2 ⟨az, c3, c4, c5, d, c6, rfl, b5, ai, a0, b6, y, b7, b8, c7⟩
 refine rt9 ?_
 have a1 := ah.trans y bg
 have b9 := PIn.call bg b6 ah.size
 have c8 := a0.len
 have c9 := pkl d
 have da := pkb ai
 refine ⟨fun _ => (cB a1.pins (cA k.le y.le)), ?_⟩
 refine dP (i := 7) rfl rfl (zO (vs := [vP a, vJ ay, vJ az]) Tryz.func26 nm26 rfl rfl rfl ?_)
 refine cC (ge_spec a1.pins b5 ai (a0.place bf) b7) ?_
 rintro _ db ⟨m, dc, rfl, dd, bh, ca, cb, aj⟩
 refine rt9 ?_
 have ak := a1.trans aj (fun i hi => (PIn.o b9) i hi)
 have de := ca.len
 have df := pkl m
 have dg := pkb bh
 have dh := cgA List.length cb.1
 refine ⟨fun _ => (cB ak.pins (cA (cA k.le y.le) aj.le)), ?_⟩
 refine dM 8 (.bool (geB d.ns ay az)) (cB ak.pins (cA (cA k.le y.le) aj.le)) ?_
 refine dM 9 (.bool true) (cB ak.pins (cA (cA k.le y.le) aj.le)) ?_
 refine zY (by kernel_rfl) (zA (cN (zQ (xT (v := .bool (geB d.ns ay az)) (u := .bool true) rfl rfl rfl rfl rfl ?_))))
 have cc := (a0.pd ag ai bf).trans b4
 have cd := b8
 obtain ⟨e1, e2⟩ := alB_good hga hgb
 rw [e1, e2]
 exact ⟨_, cgA (fun z => Ending.returned (Value.tuple #[Value.bool z, Value.bool true])) (geB_roots cc cd), ak⟩
 refine w9d ?_
 refine qM (.bool false) ?_
 refine qM (.bool false) ?_
 refine qe (zA ?_)
 refine cN (zQ (xT (v := .bool false) (u := .bool false) rfl rfl rfl rfl rfl ?_))
 obtain ⟨e1, e2⟩ := alB_bad (cF ap)
 rw [e1, e2]
 exact ⟨_, rfl, ae⟩
 refine qW ?_
 refine qW ?_
 refine qW ?_
 refine qD rfl (yJ (v := .bool true) rfl rfl) (qe (zA ?_))
 refine xW rfl rfl (w9d ?_)
 refine qM (.bool false) ?_
 refine qM (.bool false) ?_
 refine qe (zA ?_)
 refine cN (zQ (xT (v := .bool false) (u := .bool false) rfl rfl rfl rfl rfl ?_))
 obtain ⟨e1, e2⟩ := alB_bad (cE ao)
 rw [e1, e2]
 exact ⟨_, rfl, ad⟩
end AT1
namespace DR1
open B1
variable {G : Pin} {cv : Value} {code : List UInt8} {a : Int}
theorem nT {w : World} {c : Nat} {s : Int} (hP : Pins G w) (hB : Bx G w c [cv, .int .i64 a, .int .u64 s]) (hc : RSl eByte G cv code) (ha : 0 ≤ a ∧ a + 1 ≤ 1000000) (_ : 0 ≤ s ∧ s < 18446744073709551616) :
  Calls Tryz.prog 66 #[vP c] w fun e w' => ∃ (z : Int) (a' s' : Int), e = .returned (vJ z) ∧ (0 ≤ z ∧ z ≤ 255) ∧ Bx G w' c [cv, .int .i64 a', .int .u64 s'] ∧ (a ≤ a' ∧ a' ≤ a + 1) ∧ (0 ≤ s' ∧ s' < 18446744073709551616) ∧ Ext (inO (some c)) G w G w' := by
 refine yA (n := 62) Tryz.func66 Tryz.ntmps66 rfl rfl ?_
 have ab := exr (inO (some c)) hP
 have hm := hc.max
 refine w9d ?_
 refine qM (vJ 0) ?_
 refine qe (w9a ?_)
 refine qM (vJ 0) ?_
 refine qe (zA (zB (zB ?_)))
 refine yQ (S := fun wz => BxR wz c [cv, vJ a, .int .u64 s]) (last := 10) (by kernel_rfl) rfl ?_
 have m := bdr w
 have ak := ab.pins.below m
 have l := ab.step ak m
 have f := hB.below m
 refine dM 0 (vP c) f.reads ?_
 refine dT (i := 1) rfl rfl (by kernel_rfl) (fun _ _ => yU rfl) f.reads ?_
 refine dT (i := 2) rfl rfl (by kernel_rfl) (fun _ _ => zK (k := 1) rfl dK rfl nz3 rfl) f.reads ?_
 refine dT (i := 3) rfl rfl (by kernel_rfl) (fun _ hS => zM (u := vJ a) ag3 rfl (hS 1 _ rfl)) f.reads ?_
 refine dM 4 (vP c) f.reads ?_
 refine dT (i := 5) rfl rfl (by kernel_rfl) (fun _ _ => yU rfl) f.reads ?_
 refine dT (i := 6) rfl rfl (by kernel_rfl) (fun _ _ => zK (k := 0) rfl dK rfl nz22 rfl) f.reads ?_
 refine dT (i := 7) rfl rfl (by kernel_rfl) (fun _ hS => zM (u := cv) ag22 rfl (hS 0 _ rfl)) f.reads ?_
 refine dT (i := 8) rfl rfl (by kernel_rfl) (fun _ _ => run_len dN (v := cv) rfl hc) f.reads ?_
 refine dT (i := 9) rfl rfl (by kernel_rfl) (fun _ _ => yR rfl rfl) f.reads ?_
 refine zY (by kernel_rfl) (zA (yE (p := (a : Int) < (code.length : Int)) rfl rfl (fun h5 => ?_) (fun h5 => ?_)))
 have a3 := (code.getD a.toNat 0).toNat_lt
 refine yQ (S := fun wz => BxR wz c [cv, vJ a, .int .u64 s] ∧ Pins G wz) (last := 12) (by kernel_rfl) rfl ?_
 have q : Below w.drew.heap.size w.drew w.drew.drew := (Below.refl _ _).drew
 have am := l.pins.below q
 have b := l.step am q
 have d := f.below q
 refine dT (i := 0) rfl rfl (by kernel_rfl) (fun _ _ => zU (v := vP c) rfl) ⟨d.reads, b.pins⟩ ?_
 refine dT (i := 1) rfl rfl (by kernel_rfl) (fun _ _ => yU rfl) ⟨d.reads, b.pins⟩ ?_
 refine dT (i := 2) rfl rfl (by kernel_rfl) (fun _ _ => zK (k := 0) rfl dK rfl nz22 rfl) ⟨d.reads, b.pins⟩ ?_
 refine dT (i := 3) rfl rfl (by kernel_rfl) (fun _ hS => zM (u := cv) ag22 rfl (hS.1 0 _ rfl)) ⟨d.reads, b.pins⟩ ?_
 refine dT (i := 4) rfl rfl (by kernel_rfl) (fun _ _ => zU (v := vP c) rfl) ⟨d.reads, b.pins⟩ ?_
 refine dT (i := 5) rfl rfl (by kernel_rfl) (fun _ _ => yU rfl) ⟨d.reads, b.pins⟩ ?_
 refine dT (i := 6) rfl rfl (by kernel_rfl) (fun _ _ => zK (k := 1) rfl dK rfl nz3 rfl) ⟨d.reads, b.pins⟩ ?_
 refine dT (i := 7) rfl rfl (by kernel_rfl) (fun _ hS => zM (u := vJ a) ag3 rfl (hS.1 1 _ rfl)) ⟨d.reads, b.pins⟩ ?_
 refine dT (i := 8) rfl rfl (by kernel_rfl) (fun _ _ => zI dN sz5 (v := cv) rfl rfl hc (by omega) (by omega)) ⟨d.reads, b.pins⟩ ?_
 refine dT (i := 9) rfl rfl (by kernel_rfl) (fun _ hS => mX (r := code.getD (a).toNat 0) rfl ag5 (z := a) rfl hc hS.2 (by omega) (by omega)) ⟨d.reads, b.pins⟩ ?_
 refine dT (i := 10) rfl rfl (by kernel_rfl) (fun _ _ => fY (j := ((code.getD (a).toNat 0).toNat : Int)) Tryz.underlying5 dW rfl (wrapI (by omega))) ⟨d.reads, b.pins⟩ ?_
 refine dT (i := 11) rfl rfl (by kernel_rfl) (fun _ _ => jB (v := vJ ((code.getD (a).toNat 0).toNat : Int)) rfl) ⟨d.reads, b.pins⟩ ?_
 refine zY (by kernel_rfl) (w9a ?_)
 refine qM (vP c) ?_
 refine qD rfl (yU rfl) (qD rfl (zK (k := 1) rfl dK rfl nz3 rfl) (qD rfl (zM (u := vJ a) ag3 rfl (d.cell (o := 1) rfl)) (qD rfl (yP rfl rfl (by omega)) (qD rfl (yU rfl) (qD rfl (zK (k := 1) rfl dK rfl nz3 rfl) (q0 rfl rfl rfl (o_stp (cs' := [cv, vJ (a + 1), .int .u64 s]) (us := [vJ (a + 1)]) (v := vJ (a + 1)) sz3 rfl rfl rfl (yF (by rfl)) b.pins d (cD rfl) rfl (fun a4 ac an ao a5 => ?_))))))))
 have ad := b.write an ao (xA)
 refine qe (w9a ?_)
 refine qM (vP c) ?_
 refine qM (vP c) ?_
 refine qD rfl (yU rfl) (qD rfl (zK (k := 2) rfl dK rfl nz44 rfl) (qD rfl (zM (u := .int .u64 s) ag44 rfl (ac.cell (o := 2) rfl)) (qD rfl (r_mulU rfl rfl) (qM (vJ ((code.getD (a).toNat 0).toNat : Int)) ?_))))
 refine qD rfl (fY (j := ((code.getD (a).toNat 0).toNat : Int)) dW dX rfl (tY (by omega))) (qD rfl (pR rfl rfl) (qD rfl (pR rfl rfl) (qD rfl (yU rfl) (qD rfl (zK (k := 2) rfl dK rfl nz44 rfl) (q0 rfl rfl rfl (o_stp (cs' := [cv, vJ (a + 1), .int .u64 (IntKind.u64.wrap ((IntKind.u64.wrap ((IntKind.u64.wrap (s * 6364136223846793005)) + ((code.getD (a).toNat 0).toNat : Int))) + 868868))]) (us := [.int .u64 (IntKind.u64.wrap ((IntKind.u64.wrap ((IntKind.u64.wrap (s * 6364136223846793005)) + ((code.getD (a).toNat 0).toNat : Int))) + 868868))]) (v := .int .u64 (IntKind.u64.wrap ((IntKind.u64.wrap ((IntKind.u64.wrap (s * 6364136223846793005)) + ((code.getD (a).toNat 0).toNat : Int))) + 868868))) sz44 rfl rfl rfl (yF (by rfl)) ad.pins ac (cD rfl) rfl (fun t ap aq ar a6 => ?_)))))))
 have ae := ad.write aq ar (xA)
 refine qe (zA (zB (zB ?_)))
 refine yQ (S := fun wz => BxR wz c [cv, vJ (a + 1), .int .u64 (IntKind.u64.wrap ((IntKind.u64.wrap ((IntKind.u64.wrap (s * 6364136223846793005)) + ((code.getD (a).toNat 0).toNat : Int))) + 868868))]) (last := 10) (by kernel_rfl) rfl ?_
 have x := bdr t
 have au := ae.pins.below x
 have af := ae.step au x
 have g := ap.below x
 refine dM 0 (vP c) g.reads ?_
 refine dT (i := 1) rfl rfl (by kernel_rfl) (fun _ _ => yU rfl) g.reads ?_
 refine dT (i := 2) rfl rfl (by kernel_rfl) (fun _ _ => zK (k := 1) rfl dK rfl nz3 rfl) g.reads ?_
 refine dT (i := 3) rfl rfl (by kernel_rfl) (fun _ hS => zM (u := vJ (a + 1)) ag3 rfl (hS 1 _ rfl)) g.reads ?_
 refine dM 4 (vP c) g.reads ?_
 refine dT (i := 5) rfl rfl (by kernel_rfl) (fun _ _ => yU rfl) g.reads ?_
 refine dT (i := 6) rfl rfl (by kernel_rfl) (fun _ _ => zK (k := 0) rfl dK rfl nz22 rfl) g.reads ?_
 refine dT (i := 7) rfl rfl (by kernel_rfl) (fun _ hS => zM (u := cv) ag22 rfl (hS 0 _ rfl)) g.reads ?_
 refine dT (i := 8) rfl rfl (by kernel_rfl) (fun _ _ => run_len dN (v := cv) rfl hc) g.reads ?_
 refine dT (i := 9) rfl rfl (by kernel_rfl) (fun _ _ => gN rfl rfl) g.reads ?_
 refine zY (by kernel_rfl) (zA (yE (p := (a + 1 : Int) ≤ (code.length : Int)) rfl rfl (fun av => ?_) (fun av => ?_)))
 refine w9d ?_
 refine qM (vJ ((code.getD (a).toNat 0).toNat : Int)) ?_
 refine qM (vJ ((code.getD (a).toNat 0).toNat : Int)) ?_
 refine qe (zA ?_)
 refine cN (zQ (zS (v := vJ ((code.getD (a).toNat 0).toNat : Int)) rfl rfl rfl ?_))
 have hwr := gH (((IntKind.u64.wrap ((IntKind.u64.wrap (s * 6364136223846793005)) + ((code.getD (a).toNat 0).toNat : Int))) + 868868))
 exact ⟨_, _, _, rfl, (by omega), g, (by omega), (by omega), af⟩
 refine cM (w9a ?_)
 refine qM (vP c) ?_
 refine qD rfl (yU rfl) (qD rfl (zK (k := 2) rfl dK rfl nz44 rfl) (qD rfl (zM (u := .int .u64 (IntKind.u64.wrap ((IntKind.u64.wrap ((IntKind.u64.wrap (s * 6364136223846793005)) + ((code.getD (a).toNat 0).toNat : Int))) + 868868))) ag44 rfl (g.cell (o := 2) rfl)) (qD rfl (r_shrU rfl rfl (by omega)) (qD rfl (r_and rfl rfl) ?_))))
 have a7 := low8_lt (Int.fdiv (IntKind.u64.wrap ((IntKind.u64.wrap ((IntKind.u64.wrap (s * 6364136223846793005)) + ((code.getD (a).toNat 0).toNat : Int))) + 868868)) (2 ^ (min (40 : Int).toNat 64)))
 refine qD rfl (fY (j := andW .u64 (Int.fdiv (IntKind.u64.wrap ((IntKind.u64.wrap ((IntKind.u64.wrap (s * 6364136223846793005)) + ((code.getD (a).toNat 0).toNat : Int))) + 868868)) (2 ^ (min (40 : Int).toNat 64))) 255) dX dW rfl (wrapI (by omega))) (qM (vJ (andW .u64 (Int.fdiv (IntKind.u64.wrap ((IntKind.u64.wrap ((IntKind.u64.wrap (s * 6364136223846793005)) + ((code.getD (a).toNat 0).toNat : Int))) + 868868)) (2 ^ (min (40 : Int).toNat 64))) 255)) ?_)
 refine qe (zA ?_)
 refine cN (zQ (zS (v := vJ (andW .u64 (Int.fdiv (IntKind.u64.wrap ((IntKind.u64.wrap ((IntKind.u64.wrap (s * 6364136223846793005)) + ((code.getD (a).toNat 0).toNat : Int))) + 868868)) (2 ^ (min (40 : Int).toNat 64))) 255)) rfl rfl rfl ?_))
 have hwr := gH (((IntKind.u64.wrap ((IntKind.u64.wrap (s * 6364136223846793005)) + ((code.getD (a).toNat 0).toNat : Int))) + 868868))
 exact ⟨_, _, _, rfl, (by omega), g, (by omega), (by omega), af⟩
 refine cM (w9a ?_)
 refine qM (vP c) ?_
 refine qD rfl (yU rfl) (qD rfl (zK (k := 1) rfl dK rfl nz3 rfl) (qD rfl (zM (u := vJ a) ag3 rfl (f.cell (o := 1) rfl)) (qD rfl (yP rfl rfl (by omega)) (qD rfl (yU rfl) (qD rfl (zK (k := 1) rfl dK rfl nz3 rfl) (q0 rfl rfl rfl (o_stp (cs' := [cv, vJ (a + 1), .int .u64 s]) (us := [vJ (a + 1)]) (v := vJ (a + 1)) sz3 rfl rfl rfl (yF (by rfl)) l.pins f (cD rfl) rfl (fun a8 ag aw ax a9 => ?_))))))))
 have ah := l.write aw ax (xA)
 refine qe (w9a ?_)
 refine qM (vP c) ?_
 refine qM (vP c) ?_
 refine qD rfl (yU rfl) (qD rfl (zK (k := 2) rfl dK rfl nz44 rfl) (qD rfl (zM (u := .int .u64 s) ag44 rfl (ag.cell (o := 2) rfl)) (qD rfl (r_mulU rfl rfl) (qM (vJ 0) ?_))))
 refine qD rfl (fY (j := 0) dW dX rfl (tY (by omega))) (qD rfl (pR rfl rfl) (qD rfl (pR rfl rfl) (qD rfl (yU rfl) (qD rfl (zK (k := 2) rfl dK rfl nz44 rfl) (q0 rfl rfl rfl (o_stp (cs' := [cv, vJ (a + 1), .int .u64 (IntKind.u64.wrap ((IntKind.u64.wrap ((IntKind.u64.wrap (s * 6364136223846793005)) + 0)) + 868868))]) (us := [.int .u64 (IntKind.u64.wrap ((IntKind.u64.wrap ((IntKind.u64.wrap (s * 6364136223846793005)) + 0)) + 868868))]) (v := .int .u64 (IntKind.u64.wrap ((IntKind.u64.wrap ((IntKind.u64.wrap (s * 6364136223846793005)) + 0)) + 868868))) sz44 rfl rfl rfl (yF (by rfl)) ah.pins ag (cD rfl) rfl (fun y ay az a0 ba => ?_)))))))
 have ai := ah.write az a0 (xA)
 refine qe (zA (zB (zB ?_)))
 refine yQ (S := fun wz => BxR wz c [cv, vJ (a + 1), .int .u64 (IntKind.u64.wrap ((IntKind.u64.wrap ((IntKind.u64.wrap (s * 6364136223846793005)) + 0)) + 868868))]) (last := 10) (by kernel_rfl) rfl ?_
 have aa := bdr y
 have a1 := ai.pins.below aa
 have aj := ai.step a1 aa
 have h := ay.below aa
 refine dM 0 (vP c) h.reads ?_
 refine dT (i := 1) rfl rfl (by kernel_rfl) (fun _ _ => yU rfl) h.reads ?_
 refine dT (i := 2) rfl rfl (by kernel_rfl) (fun _ _ => zK (k := 1) rfl dK rfl nz3 rfl) h.reads ?_
 refine dT (i := 3) rfl rfl (by kernel_rfl) (fun _ hS => zM (u := vJ (a + 1)) ag3 rfl (hS 1 _ rfl)) h.reads ?_
 refine dM 4 (vP c) h.reads ?_
 refine dT (i := 5) rfl rfl (by kernel_rfl) (fun _ _ => yU rfl) h.reads ?_
 refine dT (i := 6) rfl rfl (by kernel_rfl) (fun _ _ => zK (k := 0) rfl dK rfl nz22 rfl) h.reads ?_
 refine dT (i := 7) rfl rfl (by kernel_rfl) (fun _ hS => zM (u := cv) ag22 rfl (hS 0 _ rfl)) h.reads ?_
 refine dT (i := 8) rfl rfl (by kernel_rfl) (fun _ _ => run_len dN (v := cv) rfl hc) h.reads ?_
 refine dT (i := 9) rfl rfl (by kernel_rfl) (fun _ _ => gN rfl rfl) h.reads ?_
 refine zY (by kernel_rfl) (zA (yE (p := (a + 1 : Int) ≤ (code.length : Int)) rfl rfl (fun a2 => ?_) (fun a2 => ?_)))
 refine w9d ?_
 refine qM (vJ 0) ?_
 refine qM (vJ 0) ?_
 refine qe (zA ?_)
 refine cN (zQ (zS (v := vJ 0) rfl rfl rfl ?_))
 have hwr := gH (((IntKind.u64.wrap ((IntKind.u64.wrap (s * 6364136223846793005)) + 0)) + 868868))
 exact ⟨_, _, _, rfl, (by omega), h, (by omega), (by omega), aj⟩
 refine cM (w9a ?_)
 refine qM (vP c) ?_
 refine qD rfl (yU rfl) (qD rfl (zK (k := 2) rfl dK rfl nz44 rfl) (qD rfl (zM (u := .int .u64 (IntKind.u64.wrap ((IntKind.u64.wrap ((IntKind.u64.wrap (s * 6364136223846793005)) + 0)) + 868868))) ag44 rfl (h.cell (o := 2) rfl)) (qD rfl (r_shrU rfl rfl (by omega)) (qD rfl (r_and rfl rfl) ?_))))
 have bb := low8_lt (Int.fdiv (IntKind.u64.wrap ((IntKind.u64.wrap ((IntKind.u64.wrap (s * 6364136223846793005)) + 0)) + 868868)) (2 ^ (min (40 : Int).toNat 64)))
 refine qD rfl (fY (j := andW .u64 (Int.fdiv (IntKind.u64.wrap ((IntKind.u64.wrap ((IntKind.u64.wrap (s * 6364136223846793005)) + 0)) + 868868)) (2 ^ (min (40 : Int).toNat 64))) 255) dX dW rfl (wrapI (by omega))) (qM (vJ (andW .u64 (Int.fdiv (IntKind.u64.wrap ((IntKind.u64.wrap ((IntKind.u64.wrap (s * 6364136223846793005)) + 0)) + 868868)) (2 ^ (min (40 : Int).toNat 64))) 255)) ?_)
 refine qe (zA ?_)
 refine cN (zQ (zS (v := vJ (andW .u64 (Int.fdiv (IntKind.u64.wrap ((IntKind.u64.wrap ((IntKind.u64.wrap (s * 6364136223846793005)) + 0)) + 868868)) (2 ^ (min (40 : Int).toNat 64))) 255)) rfl rfl rfl ?_))
 have hwr := gH (((IntKind.u64.wrap ((IntKind.u64.wrap (s * 6364136223846793005)) + 0)) + 868868))
 exact ⟨_, _, _, rfl, (by omega), h, (by omega), (by omega), aj⟩
theorem qA {w : World} {c : Nat} {s : Int} {n : Int} (hP : Pins G w) (hB : Bx G w c [cv, .int .i64 a, .int .u64 s]) (hc : RSl eByte G cv code) (ha : 0 ≤ a ∧ a + 2 ≤ 1000000) (hs : 0 ≤ s ∧ s < 18446744073709551616) (hn : n ≤ 1000) :
  Calls Tryz.prog 35 #[vP c, vJ n] w fun e w' => ∃ (z : Int) (a' s' : Int), e = .returned (vJ z) ∧ (0 ≤ z ∧ (z < n ∨ z = 0)) ∧ Bx G w' c [cv, .int .i64 a', .int .u64 s'] ∧ (a ≤ a' ∧ a' ≤ a + 2) ∧ (0 ≤ s' ∧ s' < 18446744073709551616) ∧ Ext (inO (some c)) G w G w' := by
 refine yA (n := 20) Tryz.func35 Tryz.ntmps35 rfl rfl ?_
 have f := exr (inO (some c)) hP
 have hm := hc.max
 refine w9d ?_
 refine qM (vJ 0) ?_
 refine qe (zA (w9b ?_))
 refine qM (vJ n) ?_
 refine qD rfl (gN rfl rfl) (qe (zA ?_))
 refine yE (p := (n : Int) ≤ 1) rfl rfl (fun j => ?_) (fun j => ?_)
 refine w9d ?_
 refine qM (vJ 0) ?_
 refine qe (zA ?_)
 exact cN (zQ (zS (v := vJ 0) rfl rfl rfl (⟨_, _, _, rfl, (by omega), hB, (by omega), (by omega), f⟩)))
 refine cM (w9a ?_)
 refine qM (vP c) ?_
 refine qI rfl (zO (vs := [vP c]) Tryz.func66 nm66 rfl rfl rfl ?_)
 refine cC (nT f.pins hB hc (by omega) (by omega)) ?_
 rintro _ u ⟨b, x, y, rfl, aa, h, ab, ac, k⟩
 refine rt9 ?_
 have g := f.trans k (fun i hi => xA i hi)
 refine qM (vJ b) ?_
 refine qe (zA (w9b ?_))
 refine qM (vJ n) ?_
 refine qD rfl (jV rfl rfl) (qe (zA ?_))
 refine yE (p := (200 : Int) < n) rfl rfl (fun l => ?_) (fun l => ?_)
 refine zC (qM (vJ b) ?_)
 refine qD rfl (r_mul rfl rfl (by omega)) (qM (vP c) ?_)
 refine qI rfl (zO (vs := [vP c]) Tryz.func66 nm66 rfl rfl rfl ?_)
 refine cC (nT g.pins h hc (by omega) (by omega)) ?_
 rintro _ ad ⟨d, ae, af, rfl, ag, m, ah, ai, o⟩
 refine rt9 ?_
 have q := g.trans o (fun i hi => xA i hi)
 refine qD rfl (yP rfl rfl (by omega)) (qM (vJ ((b * 256) + d)) ?_)
 refine qe (w9a ?_)
 refine qM (vJ ((b * 256) + d)) ?_
 refine qM (vJ n) ?_
 refine qD rfl (r_rem rfl rfl (by omega) (by omega)) (qM (vJ (((b * 256) + d) % n)) ?_)
 refine qe (zA ?_)
 refine cN (zQ (zS (v := vJ (((b * 256) + d) % n)) rfl rfl rfl ?_))
 have r := Int.emod_nonneg (((b * 256) + d)) (show n ≠ 0 by omega)
 have t := Int.emod_lt_of_pos (((b * 256) + d)) (show 0 < n by omega)
 exact ⟨_, _, _, rfl, (by omega), m, (by omega), (by omega), q⟩
 refine cM (w9a ?_)
 refine qM (vJ b) ?_
 refine qM (vJ n) ?_
 refine qD rfl (r_rem rfl rfl (by omega) (by omega)) (qM (vJ (b % n)) ?_)
 refine qe (zA ?_)
 refine cN (zQ (zS (v := vJ (b % n)) rfl rfl rfl ?_))
 have r := Int.emod_nonneg (b) (show n ≠ 0 by omega)
 have t := Int.emod_lt_of_pos (b) (show 0 < n by omega)
 exact ⟨_, _, _, rfl, (by omega), h, (by omega), (by omega), g⟩
theorem mC {w : World} {c : Nat} {s : Int} {n : Int} (hP : Pins G w) (hB : Bx G w c [cv, .int .i64 a, .int .u64 s]) (hc : RSl eByte G cv code) (ha : 0 ≤ a ∧ a + 2 ≤ 1000000) (hs : 0 ≤ s ∧ s < 18446744073709551616) (hn : n ≤ 1000) :
  Calls Tryz.prog 16 #[.pointer (some ⟨c, 0, none⟩), .int .i64 n] w fun e w' => ∃ (z : Bool) (a' s' : Int), e = .returned (.bool z) ∧ Bx G w' c [cv, .int .i64 a', .int .u64 s'] ∧ (a ≤ a' ∧ a' ≤ a + 2) ∧ (0 ≤ s' ∧ s' < 18446744073709551616) ∧ Ext (inO (some c)) G w G w' := by
 refine yA (n := 9) Tryz.func16 Tryz.ntmps16 rfl rfl ?_
 have b := exr (inO (some c)) hP
 have hm := hc.max
 refine w9d ?_
 refine qM (.bool false) ?_
 refine qe (w9a ?_)
 refine qM (.pointer (some ⟨c, 0, none⟩)) ?_
 refine qM (.int .i64 n) ?_
 refine qI rfl (zO (vs := [.pointer (some ⟨c, 0, none⟩), .int .i64 n]) Tryz.func35 nm35 rfl rfl rfl ?_)
 refine cC (qA b.pins hB hc (by omega) (by omega) (n := n) (by omega)) ?_
 rintro _ j ⟨d, k, l, rfl, m, f, o, p, g⟩
 refine rt9 ?_
 have h := b.trans g (fun i hi => xA i hi)
 refine qD rfl (xY rfl rfl) (qM (.bool (decide ((d : Int) = 0))) ?_)
 refine qe (zA ?_)
 exact cN (zQ (zS (v := .bool (decide ((d : Int) = 0))) rfl rfl rfl (⟨_, _, _, rfl, f, (by omega), (by omega), h⟩)))
theorem gG {w : World} {c : Nat} {s : Int} {l : Value} {xs : List Int} (hP : Pins G w) (hB : Bx G w c [cv, .int .i64 a, .int .u64 s]) (hc : RSl eByte G cv code) (ha : 0 ≤ a ∧ a + 2 ≤ 1000000) (hs : 0 ≤ s ∧ s < 18446744073709551616) (hl : RSl eInt G l xs) (hx : 1 ≤ xs.length ∧ xs.length ≤ 1000) :
  Calls Tryz.prog 37 #[.pointer (some ⟨c, 0, none⟩), l] w fun e w' => ∃ (z : Int) (a' s' : Int), e = .returned (.int .i64 z) ∧ z ∈ xs ∧ Bx G w' c [cv, .int .i64 a', .int .u64 s'] ∧ (a ≤ a' ∧ a' ≤ a + 2) ∧ (0 ≤ s' ∧ s' < 18446744073709551616) ∧ Ext (inO (some c)) G w G w' := by
 refine yA (n := 12) Tryz.func37 Tryz.ntmps37 rfl rfl ?_
 have d := exr (inO (some c)) hP
 have hm := hc.max
 have hml := hl.max
 refine w9d ?_
 refine qM (.int .i64 0) ?_
 refine qe (w9a ?_)
 refine qM l ?_
 refine qM (.pointer (some ⟨c, 0, none⟩)) ?_
 refine qM l ?_
 refine qD rfl (run_len dB (v := l) rfl hl) (qI rfl (zO (vs := [.pointer (some ⟨c, 0, none⟩), .int .i64 (xs.length : Int)]) Tryz.func35 nm35 rfl rfl rfl ?_))
 refine cC (qA d.pins hB hc (by omega) (by omega) (n := (xs.length : Int)) (by omega)) ?_
 rintro _ j ⟨b, k, m, rfl, o, g, p, q, h⟩
 refine rt9 ?_
 have f := d.trans h (fun i hi => xA i hi)
 refine qD rfl (zI dB sz3 (v := l) rfl rfl hl (by omega) (by omega)) (qD rfl (zN (r := xs.getD (b).toNat 0) rfl ag3 (z := b) rfl hl f.pins (by omega) (by omega)) (qM (.int .i64 (xs.getD (b).toNat 0)) ?_))
 refine qe (zA ?_)
 exact cN (zQ (zS (v := .int .i64 (xs.getD (b).toNat 0)) rfl rfl rfl (⟨_, _, _, rfl, xG (by omega), g, (by omega), (by omega), f⟩)))
end DR1
namespace MK1
open B1 C1 D1 E1
theorem pl92 : (Tryz.prog.underlying 92).bind (placesD Tryz.prog) = some [(0, 1), (1, 1)] := by kernel_rfl
theorem l3Make_own {w : World} {G : Pin} {u v : Value} {fs gs : List (List Nd)} (hP : Pins G w) (hu : RSl (eSl eNode) G u fs) (hv : RSl (eSl eNode) G v gs) (hfa : AllW fs) (hga : AllW gs) :
  Calls Tryz.prog 65 #[u, v] w fun e w' => ∃ (u : Value) (G' : Pin), e = .returned (.agg #[u]) ∧ RSl eNode G' u (formG (mkGm fs gs)) ∧ Ext noS G w G' w' ∧ ∃ Gi, Own eNode 76 Gi w' w.heap.size u (formG (mkGm fs gs)) ∧ Pin.le Gi G' := by
 refine yA (n := 50) Tryz.func65 Tryz.ntmps65 rfl rfl ?_
 have a1 := exr noS hP
 have hmu := hu.max
 have hmv := hv.max
 have hfle := hfa.len
 have hgle := hga.len
 refine w9d ?_
 refine qI rfl (yN [vN] zr26 rfl a1.pins (fun g w2 hp bw dy dz => ?_))
 have a2 := a1.step dy dz
 have d0 : w.heap.size ≤ g := by have := a1.size; omega
 refine qe (w9a ?_)
 refine qD rfl (xQ [vN, vN] [vN, vN] [] dJ zr92 rfl pl92 rfl (fun _ h => by cases h) rfl) (qI rfl (xH [vN, vN] (v := .agg #[vN, vN]) rfl rfl a2.pins (fun c hq d1 bz d2 b0 => ?_)))
 have a3 := a2.step d2 b0
 have b2 := bw.below b0
 have a4 := zF (cgA some d1) bw.lt
 have a5 : w.heap.size ≤ c := by have := a2.size; omega
 refine qM (vP c) ?_
 refine qe (w9a ?_)
 refine qI rfl (xD (E := eInt) (e := 3) dB sz3 a3.pins (fun a6 d3 d4 d5 a7 b3 => ?_))
 have a8 := a3.step d5 a7
 have b4 := b2.below a7
 have b5 := bz.below a7
 have d6 := zF b3 b2.lt
 have d7 := zF b3 bz.lt
 have b6 := d4.weaken a3.size
 refine qI rfl (xD (E := eInt) (e := 3) dB sz3 a8.pins (fun l d8 d9 ea ak a9 => ?_))
 have eb := a8.step ea ak
 have ec := b6.below ak
 have ed := b4.below ak
 have ee := b5.below ak
 have ef := zL a9 b6.lt
 have eg := zF a9 b4.lt
 have b7 := zF a9 b5.lt
 have eh := d9.weaken a8.size
 refine qM a6 ?_
 refine qM l ?_
 refine qe (zA (w9b ?_))
 refine qM (vJ 0) ?_
 refine qe (zA ?_)
 refine zX (yO (fun k en W => ∃ (ab : Nat → Value) (d : Nat) (atA : Value) (atsA : List Int) (uA : Value) (vA : Value) (nsA : List Nd) (bsA : List Int) (GLA : Pin), en = (upd (upd (upd (upd (upd (upd (upd ab 0 u) 1 v) 4 (vP g)) 5 (vP c)) 6 atA) 7 l) 8 (vJ (d : Int))) ∧ k = fs.length - d ∧ Ext noS G w GLA W ∧ Pin.le G GLA ∧ (d ≤ fs.length) ∧ (PoolOk (bkq nsA bsA)) ∧ (GsOk (bkq nsA bsA) atsA ((fs.take d).map gOf)) ∧ (nsA.length ≤ 1000 * d) ∧ (Own eInt 3 GLA W w.heap.size atA (atsA)) ∧ (Own eNode 76 GLA W 0 uA (nsA)) ∧ (Own eInt 3 GLA W 0 vA (bsA)) ∧ (Own eInt 3 GLA W w.heap.size l ([])) ∧ (Bx GLA W g [vN]) ∧ (Bx GLA W c [uA, vA]) ∧ (Apart atA.ownBlock uA.ownBlock) ∧ (Apart atA.ownBlock vA.ownBlock) ∧ (Apart atA.ownBlock l.ownBlock) ∧ (Apart atA.ownBlock (some g)) ∧ (Apart atA.ownBlock (some c)) ∧ (Apart uA.ownBlock vA.ownBlock) ∧ (Apart uA.ownBlock l.ownBlock) ∧ (Apart uA.ownBlock (some g)) ∧ (Apart uA.ownBlock (some c)) ∧ (Apart vA.ownBlock l.ownBlock) ∧ (Apart vA.ownBlock (some g)) ∧ (Apart vA.ownBlock (some c)) ∧ (Lo w noS uA.ownBlock) ∧ (Lo w noS vA.ownBlock)) _ ⟨_, 0, a6, [], vN, vN, [], [], G, (pS 8 (pS 7 (pS 6 (pS 5 (pS 4 (pS 1 (pU 0))))))), rfl, eb, cI _, cH _, (eC Ar.empty), GsOk.nil, (by simp), ec, (Own.nil _ _ _ _ _), (Own.nil _ _ _ _ _), eh, ed, ee, apart_none.symm, apart_none.symm, ef.symm, d6, d7, apart_none, apart_none, apart_none, apart_none, apart_none, apart_none, apart_none, (vZ _ _), (vZ _ _)⟩ ?_)
 rintro hr _ hs ⟨ab, d, atA, atsA, uA, vA, nsA, bsA, GLA, rfl, ht, q, ac, hw, hokA, hgsA, hblA, al, b8, ca, am, an, cb, cc, cd, ba, bb, ad, ce, cf, cg, ch, ci, cj, ck, cl, cm⟩
 have hglA := hgsA.len
 rw [List.length_map, List.length_take] at hglA
 refine w9b ?_
 refine qM (vJ (d : Int)) ?_
 refine qM u ?_
 refine qD rfl (run_len dH (v := u) rfl hu) (qD rfl (yR rfl rfl) (qe (zA ?_)))
 refine yE (p := ((d : Int) : Int) < (fs.length : Int)) rfl rfl (fun ei => ?_) (fun ei => ?_)
 have hgd := hfa.ok d (by omega)
 have hgdl := hgd.2.1
 have hgdh := hgd.2.2
 have hrk := eD (fs := fs.getD d []) hokA hgd.1 (by omega) (by omega)
 refine cM (zA (zB ?_))
 refine zX (zC (qM atA ?_))
 refine qM (vP c) ?_
 refine qM u ?_
 refine qM (vJ (d : Int)) ?_
 refine qD rfl (zI dH sz26 (v := u) rfl rfl hu (by omega) (by omega)) ?_
 obtain ⟨ej, cn, ek⟩ := nm_form (hu.at (z := (d : Int)) (by omega) (by omega)) (j := d) rfl
 have hx := cn.max
 refine qD rfl (ek ag26 sz26 rfl (cB q.pins ac)) (qI rfl (zO (vs := [vP c, .agg #[ej]]) Tryz.func52 nm52 rfl rfl rfl ?_))
 refine cC (jI q.pins ⟨cb, b8, ca, ch.symm, ck.symm, ce⟩ hokA.ar.ok (cn.mono ac) ⟨hgd.1, hgdl⟩ (by first | omega | (simp; omega))) ?_
 rintro _ hy ⟨el, em, co, rfl, r, ae, ao, ap⟩
 refine rt9 ?_
 have bc : ∀ i, inS c uA vA i → w.heap.size ≤ i ∨ noS i := kE (zW a5) cl cm
 have bd := q.trans ae bc
 have be := notS (u := uA) (v := vA) ad cc cd
 have eo := al.extS ae be
 have cp := qT ao be (jE al)
 have cq := qT ap be (jE al)
 have bf := notS (u := uA) (v := vA) b7 cf.symm ci.symm
 have ep := am.extS ae bf
 have er := qT ao bf (jE am)
 have es := qT ap bf (jE am)
 have bg := notS (u := uA) (v := vA) a4.symm cg.symm cj.symm
 have et := an.extS ae (notSb bg)
 have eu := qT ao bg (sZ an)
 have ev := qT ap bg (sZ an)
 have ew := r.bx
 have ex := r.ou
 have ey := r.ov
 have ez := r.abu
 have e0 := r.abv
 have e1 := r.auv
 have e2 := xU ao bc q.size
 have e3 := xU ap bc q.size
 refine qI rfl (yX (E := eInt) (e := 3) [vJ (rootM nsA bsA (fs.getD d []))] [rootM nsA bsA (fs.getD d [])] dB sz3 zr3 (by exact qG (by rfl)) (yF (by rfl)) rfl rfl rfl rfl (by decide) bd.pins (fun cr e4 e5 e6 m hz => ?_))
 have bh := bd.step e6 m
 have ct := eo.below m
 have cu := ep.below m
 have cv := ex.below m
 have cw := ey.below m
 have cx := et.below m
 have cy := ew.below m
 have e7 := e5.weaken bd.size
 refine qI rfl (oA (E := eInt) (v := atA) (u := cr) 8 dB ap3 (by decide) rfl rfl bh.pins ct e7.src (bh.size) (fun cz h0 e8 e9 s af => ?_))
 have fa := bh.write e9 s ((yG ct))
 have fb := cu.keptA s ba.symm
 have fc := cv.keptA s cp.symm
 have fd := cw.keptA s cq.symm
 have fe := cx.keptA s bb.symm
 have ff := cy.keptA s ad.symm
 have fg := zJ ba.symm af cu.lt
 have fh := zJ cp.symm af cv.lt
 have fi := zJ cq.symm af cw.lt
 have fj := zP bb.symm af cx.lt
 have fk := zP ad.symm af cy.lt
 have h1 := la1 atsA (rootM nsA bsA (fs.getD d []))
 refine qM cz ?_
 refine qe (w9c ?_)
 refine qM (vJ (d : Int)) ?_
 refine qD rfl (yP rfl rfl (by omega)) (qM (vJ ((d : Int) + 1)) ?_)
 refine qe (yK (⟨_, ?_, _, rfl, _, d + 1, cz, atsA ++ ([rootM nsA bsA (fs.getD d [])]), el, em, (addM nsA bsA (fs.getD d [])).2.1, (addM nsA bsA (fs.getD d [])).2.2, co, (pS 8 (pS 7 (pS 6 (pS 5 (pS 4 (pS 1 (pU 0))))))), rfl, fa, (cA ac ae.le), (by omega), hrk.ok, (by rw [eM (by omega)]; exact (hgsA.px hrk.px hokA hrk.ok).snoc hrk.pl hrk.pd), (by have h8 := hrk.len; have h9 := hgd.2.2; omega), e8, fc, fd, fb, fe, ff, fh.symm, fi.symm, fg.symm, fj.symm, fk.symm, e1, er.symm, eu.symm, ez.symm, es.symm, ev.symm, e0.symm, e2, e3⟩))
 omega
 refine cO (zZ (yM (yL (zA (w9b ?_)))))
 refine qM (vJ 0) ?_
 refine qe (zA ?_)
 refine zX ?_
 have hi5n : d = fs.length := by omega
 have hgsF : GsOk (bkq nsA bsA) atsA (fs.map gOf) := by rw [hi5n, List.take_length] at hgsA; exact hgsA
 refine yO (fun k en W => ∃ (ab : Nat → Value) (f : Nat) (atB : Value) (atsB : List Int) (uB : Value) (vB : Value) (nsB : List Nd) (bsB : List Int) (GLB : Pin), en = (upd (upd (upd (upd (upd (upd ab 1 v) 4 (vP g)) 5 (vP c)) 6 atA) 7 atB) 9 (vJ (f : Int))) ∧ k = gs.length - f ∧ Ext noS G w GLB W ∧ Pin.le GLA GLB ∧ (f ≤ gs.length) ∧ (PoolOk (bkq nsB bsB)) ∧ (GsOk (bkq nsB bsB) atsB ((gs.take f).map gOf)) ∧ (nsB.length ≤ 100000 + 1000 * f) ∧ (GsOk (bkq nsB bsB) atsA (fs.map gOf)) ∧ (Own eInt 3 GLB W w.heap.size atB (atsB)) ∧ (Own eNode 76 GLB W 0 uB (nsB)) ∧ (Own eInt 3 GLB W 0 vB (bsB)) ∧ (Own eInt 3 GLB W w.heap.size atA (atsA)) ∧ (Bx GLB W g [vN]) ∧ (Bx GLB W c [uB, vB]) ∧ (Apart atB.ownBlock uB.ownBlock) ∧ (Apart atB.ownBlock vB.ownBlock) ∧ (Apart atB.ownBlock atA.ownBlock) ∧ (Apart atB.ownBlock (some g)) ∧ (Apart atB.ownBlock (some c)) ∧ (Apart uB.ownBlock vB.ownBlock) ∧ (Apart uB.ownBlock atA.ownBlock) ∧ (Apart uB.ownBlock (some g)) ∧ (Apart uB.ownBlock (some c)) ∧ (Apart vB.ownBlock atA.ownBlock) ∧ (Apart vB.ownBlock (some g)) ∧ (Apart vB.ownBlock (some c)) ∧ (Lo w noS uB.ownBlock) ∧ (Lo w noS vB.ownBlock)) _ ⟨_, 0, l, [], uA, vA, nsA, bsA, GLA, (pS 9 (pS 7 (pS 6 (pS 5 (pS 4 (pU 1)))))), rfl, q, cI _, cH _, hokA, GsOk.nil, (by omega), hgsF, am, b8, ca, al, an, cb, cf.symm, ci.symm, ba.symm, eg, b7, ce, cc.symm, cg, ch, cd.symm, cj, ck, cl, cm⟩ ?_
 rintro h2 _ h3 ⟨ab, f, atB, atsB, uB, vB, nsB, bsB, GLB, rfl, h4, t, bi, h5, hokB, hgsB, hblB, hgsL, aq, c0, c1, au, av, c2, c3, c4, bj, bk, aw, c5, c6, c7, c8, c9, da, db, dc, dd⟩
 have hglB := hgsB.len
 rw [List.length_map, List.length_take] at hglB
 refine w9b ?_
 refine qM (vJ (f : Int)) ?_
 refine qM v ?_
 refine qD rfl (run_len dH (v := v) rfl hv) (qD rfl (yR rfl rfl) (qe (zA ?_)))
 refine yE (p := ((f : Int) : Int) < (gs.length : Int)) rfl rfl (fun fn => ?_) (fun fn => ?_)
 have hgd := hga.ok f (by omega)
 have hgdl := hgd.2.1
 have hgdh := hgd.2.2
 have hrk := eD (fs := gs.getD f []) hokB hgd.1 (by omega) (by omega)
 refine cM (zA (zB ?_))
 refine zX (zC (qM atB ?_))
 refine qM (vP c) ?_
 refine qM v ?_
 refine qM (vJ (f : Int)) ?_
 refine qD rfl (zI dH sz26 (v := v) rfl rfl hv (by omega) (by omega)) ?_
 obtain ⟨fo, de, fp⟩ := nm_form (hv.at (z := (f : Int)) (by omega) (by omega)) (j := f) rfl
 have h6 := de.max
 refine qD rfl (fp ag26 sz26 rfl (cB t.pins (cA ac bi))) (qI rfl (zO (vs := [vP c, .agg #[fo]]) Tryz.func52 nm52 rfl rfl rfl ?_))
 refine cC (jI t.pins ⟨c2, c0, c1, c8.symm, db.symm, c5⟩ hokB.ar.ok (de.mono (cA ac bi)) ⟨hgd.1, hgdl⟩ (by first | omega | (simp; omega))) ?_
 rintro _ h7 ⟨fq, fr, df, rfl, x, ag, ax, ay⟩
 refine rt9 ?_
 have bl : ∀ i, inS c uB vB i → w.heap.size ≤ i ∨ noS i := kE (zW a5) dc dd
 have bm := t.trans ag bl
 have bn := notS (u := uB) (v := vB) aw c3 c4
 have ft := aq.extS ag bn
 have dg := qT ax bn (jE aq)
 have dh := qT ay bn (jE aq)
 have bo := notS (u := uB) (v := vB) ad c6.symm c9.symm
 have fu := au.extS ag bo
 have fv := qT ax bo (jE au)
 have fw := qT ay bo (jE au)
 have bp := notS (u := uB) (v := vB) a4.symm c7.symm da.symm
 have fx := av.extS ag (notSb bp)
 have fy := qT ax bp (sZ av)
 have fz := qT ay bp (sZ av)
 have f0 := x.bx
 have f1 := x.ou
 have f2 := x.ov
 have f3 := x.abu
 have f4 := x.abv
 have f5 := x.auv
 have f6 := xU ax bl t.size
 have f7 := xU ay bl t.size
 refine qI rfl (yX (E := eInt) (e := 3) [vJ (rootM nsB bsB (gs.getD f []))] [rootM nsB bsB (gs.getD f [])] dB sz3 zr3 (by exact qG (by rfl)) (yF (by rfl)) rfl rfl rfl rfl (by decide) bm.pins (fun di f8 f9 ga o ia => ?_))
 have bq := bm.step ga o
 have dj := ft.below o
 have dk := fu.below o
 have dl := f1.below o
 have dm := f2.below o
 have dn := fx.below o
 have dp := f0.below o
 have gb := f9.weaken bm.size
 refine qI rfl (oA (E := eInt) (v := atB) (u := di) 8 dB ap3 (by decide) rfl rfl bq.pins dj gb.src (bq.size) (fun dq ib gc gd y ah => ?_))
 have ge := bq.write gd y ((yG dj))
 have gf := dk.keptA y bj.symm
 have gg := dl.keptA y dg.symm
 have gh := dm.keptA y dh.symm
 have gi := dn.keptA y bk.symm
 have gj := dp.keptA y aw.symm
 have gk := zJ bj.symm ah dk.lt
 have gl := zJ dg.symm ah dl.lt
 have gm := zJ dh.symm ah dm.lt
 have gn := zP bk.symm ah dn.lt
 have gp := zP aw.symm ah dp.lt
 have ic := la1 atsB (rootM nsB bsB (gs.getD f []))
 refine qM dq ?_
 refine qe (w9c ?_)
 refine qM (vJ (f : Int)) ?_
 refine qD rfl (yP rfl rfl (by omega)) (qM (vJ ((f : Int) + 1)) ?_)
 refine qe (yK (⟨_, ?_, _, rfl, _, f + 1, dq, atsB ++ ([rootM nsB bsB (gs.getD f [])]), fq, fr, (addM nsB bsB (gs.getD f [])).2.1, (addM nsB bsB (gs.getD f [])).2.2, df, (pS 9 (pS 7 (pS 6 (pS 5 (pS 4 (pU 1)))))), rfl, ge, (cA bi ag.le), (by omega), hrk.ok, (by rw [eM (by omega)]; exact (hgsB.px hrk.px hokB hrk.ok).snoc hrk.pl hrk.pd), (by have h8 := hrk.len; have h9 := hgd.2.2; omega), (hgsL.px hrk.px hokB hrk.ok), gc, gg, gh, gf, gi, gj, gl.symm, gm.symm, gk.symm, gn.symm, gp.symm, f5, fv.symm, fy.symm, f3.symm, fw.symm, fz.symm, f4.symm, f6, f7⟩))
 omega
 refine cO (zZ (yM (yL (w9a ?_))))
 have hj5n : f = gs.length := by omega
 have hgsR : GsOk (bkq nsB bsB) atsB (gs.map gOf) := by rw [hj5n, List.take_length] at hgsB; exact hgsB
 have gq := hgsL.len
 have gr := hgsR.len
 rw [List.length_map] at gq gr
 have hpt := bk_put (xs := atsA) (ys := atsB) hokB (by omega) ⟨by omega, by omega⟩ hgsL.pl hgsR.pl
 have hpd := hpt.pd
 rw [hgsL.eq, hgsR.eq] at hpd
 refine qM (vP c) ?_
 refine qM (vP c) ?_
 refine qM atA ?_
 refine qM atB ?_
 obtain ⟨ie, br, gt, gu, ai⟩ := au.sealed t
 have gv := aq.moreO br ai bj
 have gw := c0.moreO br ai c6
 have gx := c1.moreO br ai c9
 have gy := av.moreO ai bb.symm
 have gz := c2.moreO ai ad.symm
 obtain ⟨ig, bs, az, g0, a0⟩ := gv.sealed gt
 have g1 := gw.moreO bs a0 c3.symm
 have g2 := gx.moreO bs a0 c4.symm
 have g3 := gy.moreO a0 bk.symm
 have g4 := gz.moreO a0 aw.symm
 refine qI rfl (zO (vs := [vP c, atA, atB]) Tryz.func77 nm77 rfl rfl rfl ?_)
 refine cC (eT az.pins ⟨g4, g1, g2, c8.symm, db.symm, c5⟩ hokB.ar.ok (gu.mono bs) g0 ⟨by omega, by omega⟩ (fM hgsL.pl) (fM hgsR.pl)) ?_
 rintro _ bt ⟨ih, ii, ij, rfl, aa, dr, g5, g6⟩
 refine rt9 ?_
 have bu : ∀ i, inS c uB vB i → w.heap.size ≤ i ∨ noS i := kE (zW a5) dc dd
 have bv := az.trans dr bu
 have g7 := notS (u := uB) (v := vB) a4.symm c7.symm da.symm
 have ds := g3.extS dr (notSb g7)
 have dt := aa.bx
 have g8 := aa.ou
 have g9 := aa.ov
 have ha := aa.abu
 have hb := aa.abv
 have hc := aa.auv
 have ik := xU g5 bu az.size
 have il := xU g6 bu az.size
 refine qI rfl (zO (vs := [vP c, vJ (putK nsB bsB atsA atsB)]) Tryz.func51 nm51 rfl rfl rfl ?_)
 refine cC (form_own bv.pins ⟨dt, g8, g9, ha, hb, hc⟩ hpt.ok.ar.ok hpt.pl) ?_
 rintro _ im ⟨aj, hd, rfl, du, dv, he⟩
 refine rt9 ?_
 have io : g < bt.heap.size := ds.lt
 have ip : c < bt.heap.size := dt.lt
 have dw := bv.tr dv
 have hf := ds.ext dv
 refine q0 rfl rfl rfl (o_stp (cs' := [aj]) (us := [aj]) (v := .agg #[aj]) sz26 rfl rfl rfl (yF du.one) dw.pins hf (cD rfl) rfl (fun hg hh hi dx iq => ?_))
 have hk := dw.write hi dx ((zW d0))
 have hl : ∃ Gi, Own eNode 76 Gi hg bt.heap.size aj (formM (putN nsB bsB atsA atsB) (putB nsB bsB atsA atsB) (putK nsB bsB atsA atsB).toNat) ∧ Pin.le Gi hd := let ⟨Gi, a, b⟩ := he; ⟨Gi, a.keptA dx (fun k hm hn => by cases hn; have := (a.lt _ hm).1; omega), b⟩
 refine qe (zA ?_)
 refine cN (zQ (qH (cs := [aj]) rfl rfl rfl ag26 sz26 (fun j u hj => by rw [cQ]; exact hh.cell hj) ?_))
 have hfe : mkGm fs gs = _ := hpd.symm
 obtain ⟨Gi, hoi, hli⟩ := hl
 exact ⟨_, _, rfl, (by rw [hfe, ← pE hpt.ok hpt.pl]; exact du), hk, (by rw [hfe, ← pE hpt.ok hpt.pl]; exact ⟨Gi, hoi.weaken bv.size, hli⟩)⟩
end MK1
end Go.Proofs.YtdleojbknkbpiaaGreatDoor
