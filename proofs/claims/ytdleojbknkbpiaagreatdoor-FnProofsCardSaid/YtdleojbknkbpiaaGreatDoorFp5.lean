/- Texts of this claim. -/
import Derived.Test.YtdleojbknkbpiaaGreatDoorFp4
import Derived.Test.YtdleojbknkbpiaaGreatDoorChecked
set_option maxRecDepth 20000
set_option maxHeartbeats 2000000
namespace Go.Proofs.YtdleojbknkbpiaaGreatDoor
open Go.RowKit Go.GL Go.Proofs
namespace PO1
open B1 K1
theorem mk5 : (Tryz.prog.info? 5).map (fun i => (i.size, i.bytes, i.zero)) = some (1, 1, some (.int .u8 0)) := by kernel_rfl
variable {G : Pin} {v : Value} {xs : List Int} {e base : Nat}
theorem clone_spec {w : World} (hP : Pins G w) (hv : RSl eInt G v xs) (hs : xs.length ≤ 1048576) :
  Calls Tryz.prog 84 #[v] w fun e w' => ∃ (u : Value) (G' : Pin), e = .returned u ∧ Own eInt 3 G' w' w.heap.size u xs ∧ Ext noS G w G' w' := by
 refine yC (n := 8) Tryz.func84 Tryz.ntmps84 rfl rfl ?_
 have a := exr noS hP
 refine w9d ?_
 refine qM (.slice none 0 0) ?_
 refine qe (zA (w9b ?_))
 refine qM v ?_
 refine qD rfl (r_eqlNil dC hv rfl rfl) (qe (zA ?_))
 refine c_if rfl rfl (fun c => ?_) (fun c => ?_)
 refine w9d ?_
 refine qM (.slice none 0 0) ?_
 refine qe (zA ?_)
 refine cO (zT (zS (v := .slice none 0 0) rfl rfl rfl ?_))
 have h := nil_of hv c
 subst h
 exact ⟨_, _, rfl, Own.nil _ _ _ _ _, a⟩
 refine cN (w9a ?_)
 refine qI rfl (xB (E := eInt) (e := 3) dC sz3 a.pins (fun d i j k l r => ?_))
 have b := a.step k l
 have f := j.weaken a.size
 refine qM v ?_
 refine qI rfl (oA (E := eInt) (v := d) (u := v) 8 dC ap3 (by decide) rfl rfl b.pins f ((hv.mono (cJ _)).src b.pins (by decide)) (b.size) (fun g s m o p t => ?_))
 have q := b.write o p ((yE f))
 have x := la2 ([]) xs
 refine qM g ?_
 refine qe (zA ?_)
 exact cO (zT (zS (v := g) rfl rfl rfl (⟨_, _, rfl, m, q⟩)))
theorem sortI_spec {w : World} (hP : Pins G w) (hv : Own eInt e G w base v xs) (hl : xs.length ≤ 1073741824) :
  Calls Tryz.prog 85 #[v] w fun en w' => ∃ G', en = .returned (.tuple #[]) ∧ Own eInt e G' w' base v (sortM xs) ∧ Ext (inO v.ownBlock) G w G' w' := by
 rcases pP hv with ⟨rfl, rfl⟩ | ⟨g, cap, rfl⟩
 ·refine (Tryz.slices_Sort_int_none none 0 w).mono ?_
  rintro en w' ⟨rfl, rfl⟩
  exact ⟨G, rfl, by simpa [sortM] using hv, Ext.refl hP⟩
 ·obtain ⟨_, h1, h2, h3⟩ := pO hv
  refine (Tryz.slices_Sort_int g 0 cap xs w h3 h1 (by omega)).mono ?_
  rintro en w' ⟨rfl, m, os, hw⟩
  obtain ⟨a, b, c⟩ := own_put (ys := sortM xs) hv hP hw (kV xs) (List.take_length ..)
  rw [kV] at a
  exact ⟨G, rfl, a, Ext.one b c⟩
theorem pC {w : World} (hP : Pins G w) (hv : Own eInt e G w base v xs) (hl : xs.length ≤ 1073741824) :
  Calls Tryz.prog 86 #[v] w fun en w' => ∃ (u : Value) (G' : Pin), en = .returned u ∧ Own eInt e G' w' base u (Go.Lib.compact xs) ∧ Lo w (inO v.ownBlock) u.ownBlock ∧ Ext (inO v.ownBlock) G w G' w' := by
 rcases pP hv with ⟨rfl, rfl⟩ | ⟨g, cap, rfl⟩
 ·refine (Tryz.slices_Compact_int_empty none 0 w).mono ?_
  rintro en w' ⟨rfl, rfl⟩
  exact ⟨_, G, rfl, hv, xD, Ext.refl hP⟩
 ·obtain ⟨_, h1, h2, h3⟩ := pO hv
  refine (Tryz.slices_Compact_int g 0 cap xs w h3 (by omega) h2).mono ?_
  rintro en w' ⟨rfl, m, hw⟩
  have hcl := compact_len xs
  obtain ⟨a, b, c⟩ := own_put (os := #[]) (ys := Go.Lib.compact xs) hv hP (hw.trans (Go.Sort.grow_empty _).symm) (by simp; omega) (List.take_left ..)
  exact ⟨_, G, rfl, a, xD, Ext.one b c⟩
theorem gF {w : World} (hP : Pins G w) (hv : RSl eInt G v xs) (hs : xs.length ≤ 1048576) :
  Calls Tryz.prog 81 #[v] w fun e w' => ∃ (u : Value) (G' : Pin), e = .returned u ∧ Own eInt 3 G' w' w.heap.size u (sortL xs) ∧ Ext noS G w G' w' := by
 refine yC (n := 10) Tryz.func81 Tryz.ntmps81 rfl rfl ?_
 have b := exr noS hP
 refine w9d ?_
 refine qM (.slice none 0 0) ?_
 refine qe (w9a ?_)
 refine qM v ?_
 refine qI rfl (zP (vs := [v]) Tryz.func84 nm84 rfl rfl rfl ?_)
 refine cD (clone_spec b.pins hv (by omega)) ?_
 rintro _ l ⟨a, m, rfl, o, p⟩
 refine rt9 ?_
 have f := b.tr p
 have g := o.weaken b.size
 refine qM a ?_
 refine qe (w9a ?_)
 refine qM a ?_
 refine qI rfl (zP (vs := [a]) Tryz.func85 nm85 rfl rfl rfl ?_)
 refine cD (sortI_spec f.pins g (by omega)) ?_
 rintro _ z ⟨G8, rfl, c, q⟩
 refine rt9 ?_
 have d := f.trans q (fun i hi => (yE g) i hi)
 have ab := kV xs
 refine qe (w9a ?_)
 refine qM a ?_
 refine qI rfl (zP (vs := [a]) Tryz.func86 nm86 rfl rfl rfl ?_)
 refine cD (pC d.pins (c.weaken (cI _)) (by omega)) ?_
 rintro _ ac ⟨j, ad, rfl, r, s, t⟩
 refine rt9 ?_
 have x := d.trans t (fun i hi => (yE c) i hi)
 have y := r.up (lo := w.heap.size) (fun k hk => (s k hk).elim (fun h => cQ d.size h) (fun h => (c.lt k h).1))
 refine qM j ?_
 refine qe (zA ?_)
 exact cO (zT (zS (v := j) rfl rfl rfl (⟨_, _, rfl, (by rw [← distinct_eq]; simpa using y), x⟩)))
theorem node_spec {w : World} {p : Nat} {L R B : Value} {mm : PM} {q : PSt} (hP : Pins G w) (hpk : Pk 40 3 G w p L R B mm q) (hok : PoolOk q) {x y : Value} {ys : List Int} (hx : RSl eInt G x xs) (hy : RSl eInt G y ys) (hlim : q.ns.length + 1 ≤ 1048576) (hls : xs.length ≤ 1048576 ∧ ys.length ≤ 1048576) (hk1 : ∀ i, i < xs.length → 0 ≤ xs.getD i 0 ∧ xs.getD i 0 < q.ns.length) (hk2 : ∀ i, i < ys.length → 0 ≤ ys.getD i 0 ∧ ys.getD i 0 < q.ns.length) :
  Calls Tryz.prog 75 #[vP p, x, y] w fun e w' => ∃ (z : Int) (L' R' B' : Value) (q' : PSt) (G' : Pin), e = .returned (vJ z) ∧ Pk 40 3 G' w' p L' R' B' mm q' ∧ PoolOk q' ∧ PX q q' ∧ PLo w p L R B mm L' R' B' ∧ Ext (inP p L R B mm) G w G' w' ∧ PlaceOk q' z ∧ pd q' z = mkG (xs.map (pd q)) (ys.map (pd q)) ∧ q'.ns.length ≤ q.ns.length + 1 ∧ (q'.cm = q.cm ∧ (q'.ns.length = q.ns.length ∨ z = q.ns.length)) := by
 refine yC (n := 130) Tryz.func75 Tryz.ntmps75 rfl rfl ?_
 have cc := exr (inP p L R B mm) hP
 have hpin : PIn w (inP p L R B mm) p L R B mm := PIn.self
 have lf := pkl q
 have lg := pkb hok
 obtain ⟨d, ao⟩ : ∃ l, l = sortL xs := ⟨_, rfl⟩
 obtain ⟨g, ap⟩ : ∃ l, l = sortL ys := ⟨_, rfl⟩
 have bl := rF hk1
 have cd := rF hk2
 rw [← ao] at bl
 rw [← ap] at cd
 have lh : d.length ≤ 1048576 := by rw [ao]; exact cQ jJ hls.1
 have li : g.length ≤ 1048576 := by rw [ap]; exact cQ jJ hls.2
 refine w9d ?_
 refine qM (vJ 0) ?_
 refine qe (w9a ?_)
 refine qM x ?_
 refine qI rfl (zP (vs := [x]) Tryz.func81 nm81 rfl rfl rfl ?_)
 refine cD (gF cc.pins hx (by omega)) ?_
 rintro _ w5 ⟨t, G4, rfl, ce, cf⟩
 refine rt9 ?_
 rw [← ao] at ce
 have cg := cc.tr cf
 have dh := hpk.ext cf
 have bo := hpk.new (x := t.ownBlock) (fun k hk => (ce.lt k hk).1)
 have di := ce.weaken cc.size
 refine qM y ?_
 refine qI rfl (zP (vs := [y]) Tryz.func81 nm81 rfl rfl rfl ?_)
 refine cD (gF cg.pins (hy.mono cf.le) (by omega)) ?_
 rintro _ gt ⟨aa, bp, rfl, bq, ch⟩
 refine rt9 ?_
 rw [← ap] at bq
 have ci := cg.tr ch
 have cj := di.ext ch
 have dj := dh.ext ch
 have gu := zR bq.lt di.lt
 have a0 := dh.new (x := aa.ownBlock) (fun k hk => (bq.lt k hk).1)
 have ck := bq.weaken cg.size
 refine qM t ?_
 refine qM aa ?_
 refine qe (w9a ?_)
 refine qM t ?_
 refine qD rfl (zN dC (v := t) rfl cj.read) (qM aa ?_)
 refine qD rfl (zN dC (v := aa) rfl ck.read) (qD rfl (yO rfl rfl (by omega)) (qD rfl (r_mul rfl rfl (by omega)) (qD rfl (yO rfl rfl (by omega)) (qI rfl (o_make0 (E := eByte) dS mk5 rfl rfl ci.pins (by omega) (by omega) (by omega) (fun br gv gw dk bt cl => ?_))))))
 have gx := ci.step dk bt
 have dl := cj.below bt
 have gy := ck.below bt
 have gz := dj.below bt dk
 have g0 := zG cl cj.lt
 have g1 := zG cl ck.lt
 have g2 := dj.new (x := br.ownBlock) (fun k hk => by rw [cl] at hk; cases hk; exact cH _)
 have g3 := gw.weaken ci.size
 refine qM br ?_
 refine qe (w9a ?_)
 refine qM (vJ 0) ?_
 refine qe (zA (w9b ?_))
 refine qM t ?_
 refine qD rfl (zN dC (v := t) rfl dl.read) (qM (vJ 0) ?_)
 refine qe (zA ?_)
 refine zY (yN (fun k en W => ∃ (a8 : Nat → Value) (i : Nat) (kva : Value) (kxa : List UInt8) (bn : Int) (GLa : Pin), en = (upd (upd (upd (upd (upd (upd (upd (upd (upd a8 0 (vP p)) 1 t) 2 aa) 6 (vJ 0)) 7 kva) 8 (vJ bn)) 28 t) 29 (vJ (d.length : Int))) 30 (vJ (i : Int))) ∧ k = d.length - i ∧ Ext (inP p L R B mm) G w GLa W ∧ Pin.le bp GLa ∧ (i ≤ d.length) ∧ (kxa = keyL (d.take i)) ∧ (bn = bornOf q.bs (d.take i) 0) ∧ (0 ≤ bn ∧ bn ≤ q.ns.length) ∧ (Own eByte 5 GLa W w.heap.size kva (kxa)) ∧ (Own eInt 3 GLa W w.heap.size t (d)) ∧ (Own eInt 3 GLa W w.heap.size aa (g)) ∧ (Apart kva.ownBlock t.ownBlock) ∧ (Apart kva.ownBlock aa.ownBlock) ∧ (Pk 40 3 GLa W p L R B mm q) ∧ (NP p L R B mm kva.ownBlock)) _ ⟨_, 0, br, [], 0, bp, (pS 30 (pS 29 (pS 28 (pS 8 (pS 7 (pS 6 (pS 2 (pS 1 (pU 0))))))))), rfl, gx, cJ _, cI _, (by simp [keyL]), rfl, (by omega), g3, dl, gy, g0, g1, gz, g2⟩ ?_)
 rintro lj _ lk ⟨a8, i, kva, kxa, bn, GLa, rfl, lm, au, g4, hji, hka, hbbn, hlbn, bu, a9, cn, bv, bw, co, bz⟩
 have hkla : kxa.length ≤ 117440640 := by
  have := tR (j := i) bl hok.ar.ok.lim
  rw [hka]; omega
 refine w9d ?_
 refine qD rfl (yQ rfl rfl) (qe (zA (zB ?_)))
 refine yA (p := ((i : Int) : Int) < (d.length : Int)) rfl rfl (fun g5 => ?_) (fun g5 => ?_)
 have hki := bl i (by omega)
 have hbk := hok.ar.ok.born (d.getD i 0).toNat (by omega)
 have g6 := dig13 (n := (d.getD i 0).toNat) (by omega)
 refine cN (zA (zB ?_))
 refine zY (w9d ?_)
 refine qD rfl (zE dC sz3 (v := t) rfl rfl a9.read (by omega) (by omega)) (qD rfl (zL (r := d.getD i 0) rfl ag3 (z := (i : Int)) rfl a9.read (cL au.pins t) (by omega) (by omega)) (qM (vJ (d.getD i 0)) ?_))
 refine qe (w9a ?_)
 refine qM kva ?_
 refine qM (vJ (d.getD i 0)) ?_
 refine qI rfl (zP (vs := [kva, vJ (d.getD i 0), vJ 36]) Tryz.func82 nm82 rfl rfl rfl ?_)
 refine cD (fO (i := d.getD i 0) au.pins (bu.weaken (cI _)) (by omega) (by omega)) ?_
 rintro _ ln ⟨cp, dm, rfl, g7, b0, ba⟩
 refine rt9 ?_
 have dn := np_turn bz co b0
 have cq := au.trans ba (fun i hi => (yE bu) i hi)
 have g8 := a9.extS ba (notO bv.symm)
 have g9 := cn.extS ba (notO bw.symm)
 have ha := co.extS ba (fun k hk hx => bz k hx hk)
 have dp : Apart t.ownBlock cp.ownBlock := mH b0 bv.symm (jG a9)
 have dq : Apart aa.ownBlock cp.ownBlock := mH b0 bw.symm (jG cn)
 have hc := g7.up (lo := w.heap.size) (fun k hk => (b0 k hk).elim (fun h => cQ au.size h) (fun h => (bu.lt k h).1))
 have lq := la2 kxa (dig36 (d.getD i 0).toNat)
 refine qI rfl (xA (E := eByte) (e := 5) [.int .u8 44] [44] dS sz5 zr5 (by exact qC (by rfl)) (yG (by rfl)) rfl rfl rfl rfl (by decide) cq.pins (fun dr hd he ds bb ls => ?_))
 have cr := cq.step ds bb
 have dt := g8.below bb
 have du := g9.below bb
 have dv := hc.below bb
 have dw := ha.below bb ds
 have hf := he.weaken cq.size
 refine qI rfl (oA (E := eByte) (v := cp) (u := dr) 1 dS ap5 (by decide) rfl rfl cr.pins dv hf.src (cr.size) (fun dx lu hg dy b1 cs => ?_))
 have dz := cr.write dy b1 ((yE dv))
 have hh := dt.keptA b1 dp
 have hj := du.keptA b1 dq
 have b2 := dw.kept b1 dy dn
 have hm := zF dp cs dt.lt
 have hn := zF dq cs du.lt
 have ho := sS dn dw cs
 have lv := la1 (kxa ++ dig36 (d.getD i 0).toNat) 44
 refine qM dx ?_
 refine qe (zA (zC ?_))
 refine qM (vJ bn) ?_
 refine qM (vP p) ?_
 refine qD rfl (yW rfl) (qD rfl (zI (k := 2) rfl dR rfl nz40 rfl) (qD rfl (zJ (u := B) ag40 rfl (b2.bx.cell (o := 2) rfl)) (qM (vJ (d.getD i 0)) ?_)))
 refine qD rfl (zE dC sz3 (v := B) rfl rfl b2.ob.read (by omega) (by omega)) (qD rfl (zL (r := q.bs.getD (d.getD i 0).toNat 0) rfl ag3 (z := d.getD i 0) rfl b2.ob.read (cL dz.pins B) (by omega) (by omega)) (qD rfl (yO rfl rfl (by omega)) (qD rfl (r_max rfl rfl) (qM (vJ (max bn ((q.bs.getD (d.getD i 0).toNat 0) + 1))) ?_))))
 refine qe (w9c ?_)
 refine qD rfl (yO rfl rfl (by omega)) (qM (vJ ((i : Int) + 1)) ?_)
 refine qe (yD (⟨_, ?_, _, rfl, _, i + 1, dx, (kxa ++ dig36 (d.getD i 0).toNat) ++ ([44]), max bn ((q.bs.getD (d.getD i 0).toNat 0) + 1), dm, (pS 30 (pS 29 (pS 28 (pS 8 (pS 7 (pS 6 (pS 2 (pS 1 (pU 0))))))))), rfl, dz, (cB g4 ba.le), (by omega), (by rw [key_next (by omega), hka]), (by rw [hbbn, fZ (by omega)]), (by omega), hg, hh, hj, hm.symm, hn.symm, b2, ho⟩))
 omega
 refine cP (zZ (yJ (yI (w9a ?_))))
 refine qM kva ?_
 refine qI rfl (xA (E := eByte) (e := 5) [.int .u8 124] [124] dS sz5 zr5 (by exact qC (by rfl)) (yG (by rfl)) rfl rfl rfl rfl (by decide) au.pins (fun d0 hq hs d1 bc lw => ?_))
 have ct := au.step d1 bc
 have d2 := bu.below bc
 have d3 := a9.below bc
 have d4 := cn.below bc
 have d5 := co.below bc d1
 have ht := hs.weaken au.size
 refine qI rfl (oA (E := eByte) (v := kva) (u := d0) 1 dS ap5 (by decide) rfl rfl ct.pins d2 ht.src (ct.size) (fun d6 lx hu d7 b3 cu => ?_))
 have hv := ct.write d7 b3 ((yE d2))
 have hw := d3.keptA b3 bv.symm
 have d8 := d4.keptA b3 bw.symm
 have h0 := d5.kept b3 d7 bz
 have h1 := zF bv.symm cu d3.lt
 have h3 := zF bw.symm cu d4.lt
 have h4 := sS bz d5 cu
 have ly := la1 kxa 124
 refine qM d6 ?_
 refine qe (zA (w9b ?_))
 rw [qK (by omega)] at hka hbbn
 have hkk : keyL d ++ [124] = kxa ++ [124] := by rw [hka]
 refine qM aa ?_
 refine qD rfl (zN dC (v := aa) rfl d8.read) (qM (vJ 0) ?_)
 refine qe (zA ?_)
 refine zY (yN (fun k en W => ∃ (a8 : Nat → Value) (m : Nat) (kvb : Value) (kxb : List UInt8) (bm : Int) (GLb : Pin), en = (upd (upd (upd (upd (upd (upd (upd (upd (upd a8 0 (vP p)) 1 t) 2 aa) 6 (vJ 0)) 7 kvb) 8 (vJ bm)) 53 aa) 54 (vJ (g.length : Int))) 55 (vJ (m : Int))) ∧ k = g.length - m ∧ Ext (inP p L R B mm) G w GLb W ∧ Pin.le GLa GLb ∧ (m ≤ g.length) ∧ (kxb = keyL d ++ [124] ++ keyL (g.take m)) ∧ (bm = bornOf q.bs (g.take m) bn) ∧ (0 ≤ bm ∧ bm ≤ q.ns.length) ∧ (Own eByte 5 GLb W w.heap.size kvb (kxb)) ∧ (Own eInt 3 GLb W w.heap.size t (d)) ∧ (Own eInt 3 GLb W w.heap.size aa (g)) ∧ (Apart kvb.ownBlock t.ownBlock) ∧ (Apart kvb.ownBlock aa.ownBlock) ∧ (Pk 40 3 GLb W p L R B mm q) ∧ (NP p L R B mm kvb.ownBlock)) _ ⟨_, 0, d6, kxa ++ ([124]), bn, GLa, (pS 55 (pS 54 (pS 53 (pS 8 (pS 7 (pS 6 (pS 2 (pS 1 (pU 0))))))))), rfl, hv, cJ _, cI _, (by rw [← hkk]; simp [keyL]), rfl, (by omega), hu, hw, d8, h1.symm, h3.symm, h0, h4⟩ ?_)
 rintro lz _ aq ⟨a8, m, kvb, kxb, bm, GLb, rfl, l0, av, h5, l1, hkb, hbbm, hlbm, bd, cv, be, d9, ea, cw, eb⟩
 have hklb : kxb.length ≤ 117440640 := by
  have := tR (j := m) cd hok.ar.ok.lim
  have h2 := tR (j := d.length) bl hok.ar.ok.lim; rw [hkb, List.length_append, List.length_append]; simp only [List.length_cons, List.length_nil]; rw [qK (cH _)] at h2; omega
 refine w9d ?_
 refine qD rfl (yQ rfl rfl) (qe (zA (zB ?_)))
 refine yA (p := ((m : Int) : Int) < (g.length : Int)) rfl rfl (fun h7 => ?_) (fun h7 => ?_)
 have hki := cd m (by omega)
 have hbk := hok.ar.ok.born (g.getD m 0).toNat (by omega)
 have g6 := dig13 (n := (g.getD m 0).toNat) (by omega)
 refine cN (zA (zB ?_))
 refine zY (w9d ?_)
 refine qD rfl (zE dC sz3 (v := aa) rfl rfl be.read (by omega) (by omega)) (qD rfl (zL (r := g.getD m 0) rfl ag3 (z := (m : Int)) rfl be.read (cL av.pins aa) (by omega) (by omega)) (qM (vJ (g.getD m 0)) ?_))
 refine qe (w9a ?_)
 refine qM kvb ?_
 refine qM (vJ (g.getD m 0)) ?_
 refine qI rfl (zP (vs := [kvb, vJ (g.getD m 0), vJ 36]) Tryz.func82 nm82 rfl rfl rfl ?_)
 refine cD (fO (i := g.getD m 0) av.pins (bd.weaken (cI _)) (by omega) (by omega)) ?_
 rintro _ l2 ⟨cx, ec, rfl, h8, b4, bf⟩
 refine rt9 ?_
 have ed := np_turn eb cw b4
 have cy := av.trans bf (fun i hi => (yE bd) i hi)
 have h9 := cv.extS bf (notO d9.symm)
 have ia := be.extS bf (notO ea.symm)
 have ib := cw.extS bf (fun k hk hx => eb k hx hk)
 have ee : Apart t.ownBlock cx.ownBlock := mH b4 d9.symm (jG cv)
 have eg : Apart aa.ownBlock cx.ownBlock := mH b4 ea.symm (jG be)
 have ic := h8.up (lo := w.heap.size) (fun k hk => (b4 k hk).elim (fun h => cQ av.size h) (fun h => (bd.lt k h).1))
 have l3 := la2 kxb (dig36 (g.getD m 0).toNat)
 refine qI rfl (xA (E := eByte) (e := 5) [.int .u8 44] [44] dS sz5 zr5 (by exact qC (by rfl)) (yG (by rfl)) rfl rfl rfl rfl (by decide) cy.pins (fun eh ie ig ei bg l4 => ?_))
 have cz := cy.step ei bg
 have ej := h9.below bg
 have ek := ia.below bg
 have em := ic.below bg
 have eo := ib.below bg ei
 have ih := ig.weaken cy.size
 refine qI rfl (oA (E := eByte) (v := cx) (u := eh) 1 dS ap5 (by decide) rfl rfl cz.pins em ih.src (cz.size) (fun ep l5 ii eq b5 c0 => ?_))
 have es := cz.write eq b5 ((yE em))
 have ij := ej.keptA b5 ee
 have ik := ek.keptA b5 eg
 have b6 := eo.kept b5 eq ed
 have il := zF ee c0 ej.lt
 have im := zF eg c0 ek.lt
 have io := sS ed eo c0
 have l6 := la1 (kxb ++ dig36 (g.getD m 0).toNat) 44
 refine qM ep ?_
 refine qe (zA (zC ?_))
 refine qM (vJ bm) ?_
 refine qM (vP p) ?_
 refine qD rfl (yW rfl) (qD rfl (zI (k := 2) rfl dR rfl nz40 rfl) (qD rfl (zJ (u := B) ag40 rfl (b6.bx.cell (o := 2) rfl)) (qM (vJ (g.getD m 0)) ?_)))
 refine qD rfl (zE dC sz3 (v := B) rfl rfl b6.ob.read (by omega) (by omega)) (qD rfl (zL (r := q.bs.getD (g.getD m 0).toNat 0) rfl ag3 (z := g.getD m 0) rfl b6.ob.read (cL es.pins B) (by omega) (by omega)) (qD rfl (yO rfl rfl (by omega)) (qD rfl (r_max rfl rfl) (qM (vJ (max bm ((q.bs.getD (g.getD m 0).toNat 0) + 1))) ?_))))
 refine qe (w9c ?_)
 refine qD rfl (yO rfl rfl (by omega)) (qM (vJ ((m : Int) + 1)) ?_)
 refine qe (yD (⟨_, ?_, _, rfl, _, m + 1, ep, (kxb ++ dig36 (g.getD m 0).toNat) ++ ([44]), max bm ((q.bs.getD (g.getD m 0).toNat 0) + 1), ec, (pS 55 (pS 54 (pS 53 (pS 8 (pS 7 (pS 6 (pS 2 (pS 1 (pU 0))))))))), rfl, es, (cB h5 bf.le), (by omega), (by rw [key_next (by omega), hkb]; simp only [List.append_assoc]), (by rw [hbbm, fZ (by omega)]), (by omega), ii, ij, ik, il.symm, im.symm, b6, io⟩))
 omega
 refine cP (zZ (yJ (yI (zA (zB (zB ?_))))))
 rw [qK (by omega)] at hkb hbbm
 have hkey : kxb = keyN d g := by rw [hkb]; rfl
 have ip := cL av.pins kvb
 have l7 := bd.read
 refine yT (S := fun wz => BxR wz p [L, R, B, .map (some mm.f), .map (some mm.o), .map (some mm.c), .map (some mm.s), .map (some mm.n)] ∧ Pins (Gadd GLb aq kvb) wz) (last := 12) (by kernel_rfl) rfl ?_
 have aw := bdr aq
 have et := av.pins.below aw
 have bh := av.step et aw
 have c1 := bd.below aw
 have iq := cv.below aw
 have ir := be.below aw
 have a := cw.below aw et
 have ac := ip.below aw
 refine dT (i := 0) rfl rfl (by kernel_rfl) (fun _ _ => zX (v := vP p) rfl) ⟨a.bx.reads, ac⟩ ?_
 refine dT (i := 1) rfl rfl (by kernel_rfl) (fun _ _ => yW rfl) ⟨a.bx.reads, ac⟩ ?_
 refine dT (i := 2) rfl rfl (by kernel_rfl) (fun _ _ => zI (k := 3) rfl dR rfl nz94 rfl) ⟨a.bx.reads, ac⟩ ?_
 refine dT (i := 3) rfl rfl (by kernel_rfl) (fun _ hS => zJ (u := .map (some mm.f)) ag94 rfl (hS.1 3 _ rfl)) ⟨a.bx.reads, ac⟩ ?_
 refine dT (i := 4) rfl rfl (by kernel_rfl) (fun _ _ => zX (v := kvb) rfl) ⟨a.bx.reads, ac⟩ ?_
 refine dP (i := 5) rfl rfl (EO.run (r_b2s dS Tryz.underlying5 cA rfl c1.read (cL bh.pins kvb)) ?_)
 refine ⟨fun _ => ⟨a.bx.reads, ac⟩, ?_⟩
 refine dP (i := 6) rfl rfl (EO.run (gB (k := b2s kxb) (key_str cA) Tryz.underlying94 zr3 a.ff rfl rfl) ?_)
 refine ⟨fun _ => ⟨a.bx.reads, ac⟩, ?_⟩
 refine dT (i := 7) rfl rfl (by kernel_rfl) (fun _ _ => zX (v := .tuple #[vJ ((Go.GL.look q.fl (b2s kxb)).getD 0), .bool ((Go.GL.look q.fl (b2s kxb)).isSome)]) rfl) ⟨a.bx.reads, ac⟩ ?_
 refine dT (i := 8) rfl rfl (by kernel_rfl) (fun _ _ => yR (v := vJ ((Go.GL.look q.fl (b2s kxb)).getD 0)) rfl rfl) ⟨a.bx.reads, ac⟩ ?_
 refine dT (i := 9) rfl rfl (by kernel_rfl) (fun _ _ => yR (v := .bool ((Go.GL.look q.fl (b2s kxb)).isSome)) rfl rfl) ⟨a.bx.reads, ac⟩ ?_
 refine dT (i := 10) rfl rfl (by kernel_rfl) (fun _ _ => jC (v := vJ ((Go.GL.look q.fl (b2s kxb)).getD 0)) rfl) ⟨a.bx.reads, ac⟩ ?_
 refine dT (i := 11) rfl rfl (by kernel_rfl) (fun _ _ => jC (v := .bool ((Go.GL.look q.fl (b2s kxb)).isSome)) rfl) ⟨a.bx.reads, ac⟩ ?_
 refine yH (by kernel_rfl) (w9a ?_)
 refine qM (.bool ((Go.GL.look q.fl (b2s kxb)).isSome)) ?_
 refine qe (zA ?_)
 refine c_if rfl rfl (fun c2 => ?_) (fun c2 => ?_)
 refine w9d ?_
 refine qM (vJ ((Go.GL.look q.fl (b2s kxb)).getD 0)) ?_
 refine qM (vJ ((Go.GL.look q.fl (b2s kxb)).getD 0)) ?_
 refine qe (zA ?_)
 refine cO (zT (zS (v := vJ ((Go.GL.look q.fl (b2s kxb)).getD 0)) rfl rfl rfl ?_))
 obtain ⟨z, hz⟩ := Option.isSome_iff_exists.1 c2
 have hlk := hz
 rw [hkey, ao, ap] at hlk
 obtain ⟨f1, f2⟩ := lookF hok hk1 hk2 hlk
 rw [hz]
 exact ⟨z, L, R, B, q, GLb, rfl, a, hok, (PX.refl _), PIn.lo hpin rfl, bh, f1, f2, by omega, rfl, cF rfl⟩
 refine cN (w9a ?_)
 refine qM (vP p) ?_
 refine qD rfl (yW rfl) (qD rfl (zI (k := 2) rfl dR rfl nz40 rfl) (qD rfl (zJ (u := B) ag40 rfl (a.bx.cell (o := 2) rfl)) (qD rfl (zN dC (v := B) rfl a.ob.read) (qM (vJ (q.bs.length : Int)) ?_))))
 refine qe (zA (zB ?_))
 have hnone : Go.GL.look q.fl (b2s kxb) = none := by simpa using c2
 rw [hkey, ao, ap] at hnone
 have hadd := hok.add (b := bm) hlim hls hk1 hk2 hnone (by rw [hbbm, hbbn, ao, ap])
 have iv := cL bh.pins kvb
 have l8 := c1.read
 refine yT (S := fun wz => BxR wz p [L, R, B, .map (some mm.f), .map (some mm.o), .map (some mm.c), .map (some mm.s), .map (some mm.n)] ∧ Pins (Gadd GLb aq.drew kvb) wz) (last := 7) (by kernel_rfl) rfl ?_
 have ab : Below aq.drew.heap.size aq.drew aq.drew.drew := (Below.refl _ _).drew
 have iw := bh.pins.below ab
 have c3 := bh.step iw ab
 have ix := c1.below ab
 have eu := iq.below ab
 have ev := ir.below ab
 have ew := a.ol.below ab
 have ex := a.rr.below ab
 have ey := a.ob.below ab
 have aj := a.bx.below ab
 have ax := a.ff.below ab
 have iy := a.fo.below ab
 have iz := a.fc.below ab
 have i0 := a.fs.below ab
 have i1 := a.fn.below ab
 have ay := iv.below ab
 refine dT (i := 0) rfl rfl (by kernel_rfl) (fun _ _ => zX (v := vP p) rfl) ⟨aj.reads, ay⟩ ?_
 refine dT (i := 1) rfl rfl (by kernel_rfl) (fun _ _ => yW rfl) ⟨aj.reads, ay⟩ ?_
 refine dT (i := 2) rfl rfl (by kernel_rfl) (fun _ _ => zI (k := 3) rfl dR rfl nz94 rfl) ⟨aj.reads, ay⟩ ?_
 refine dT (i := 3) rfl rfl (by kernel_rfl) (fun _ hS => zJ (u := .map (some mm.f)) ag94 rfl (hS.1 3 _ rfl)) ⟨aj.reads, ay⟩ ?_
 refine dT (i := 4) rfl rfl (by kernel_rfl) (fun _ _ => zX (v := kvb) rfl) ⟨aj.reads, ay⟩ ?_
 refine dT (i := 6) rfl rfl (by kernel_rfl) (fun _ _ => zX (v := vJ (q.bs.length : Int)) rfl) ⟨aj.reads, ay⟩ ?_
 refine dP (i := 5) rfl rfl (EO.run (r_b2s dS Tryz.underlying5 cA rfl ix.read (cL c3.pins kvb)) ?_)
 refine ⟨fun _ => ⟨aj.reads, ay⟩, ?_⟩
 refine dO (i := 7) (xK (i := 7) rfl rfl rfl (yF rfl _) (vE (val := (fun v : Int => Value.int .i64 v)) (k := b2s kxb) (v := (q.bs.length : Int)) (key_str cA) Tryz.underlying94 rfl rfl rfl c3.pins ax (fun l9 i3 i4 ad ma => ?_)))
 have i5 := c3.write i4 ad ((PIn.f hpin))
 have i6 := eu.keptA ad (yV ax eu).symm
 have i7 := ev.keptA ad (yV ax ev).symm
 have i8 := ew.keptA ad (yV ax ew).symm
 have i9 := ex.keptA ad (yV ax ex).symm
 have ja := ey.keptA ad (yV ax ey).symm
 have ez := aj.keptA ad (xC ax aj).symm
 have jb := iy.kept ad (fE a.df.fo).symm
 have jc := iz.kept ad (fE a.df.fc).symm
 have jd := i0.kept ad (fE a.df.fs).symm
 have je := i1.kept ad (fE a.df.fn).symm
 refine ⟨fun h => absurd rfl h, ?_⟩
 refine yH (by kernel_rfl) (w9a ?_)
 refine qM (vP p) ?_
 refine qM (vP p) ?_
 refine qD rfl (yW rfl) (qD rfl (zI (k := 0) rfl dR rfl nz97 rfl) (qD rfl (zJ (u := L) ag97 rfl (ez.cell (o := 0) rfl)) (qM t ?_)))
 obtain ⟨jf, b7, c4, e0, bi⟩ := i6.sealed i5
 have jg := i7.moreO b7 bi gu
 have jh := i8.moreO b7 bi (NP.hl bo).symm
 have ji := i9.moreO b7 bi (NP.hr bo).symm
 have jj := ja.moreO b7 bi (NP.hb bo).symm
 have jk := ez.moreO bi (NP.hp bo).symm
 refine qI rfl (xA (E := eSl eInt) (e := 40) [t] [d] dZ sz40 zr40 (by exact qC (⟨_, rfl, e0⟩)) (yG e0.one) rfl rfl rfl rfl (by decide) c4.pins (fun e1 jl jm jn ae mb => ?_))
 have c5 := c4.step jn ae
 have e2 := jg.below ae
 have a1 := jh.below ae
 have e3 := ji.below ae
 have e4 := jj.below ae
 have e5 := jk.below ae
 have e6 := i3.below ae
 have e7 := jb.below ae
 have e8 := jc.below ae
 have e9 := jd.below ae
 have fa := je.below ae
 have jo := jm.weaken c4.size
 refine qI rfl (oA (E := eSl eInt) (v := L) (u := e1) 24 dZ ap40 (by decide) rfl rfl c5.pins a1 jo.src (cI _) (fun az mc c6 jp af bj => ?_))
 have fb := c5.write jp af ((PIn.ll hpin))
 have jq := e2.keptA af (NP.hl a0)
 have jr := e3.keptA af a.alr.symm
 have js := e4.keptA af a.alb.symm
 have a2 := e5.keptA af a.apl
 have fd := e6.kept af (yV e6 a1)
 have fe := e7.kept af (yV e7 a1)
 have fg := e8.kept af (yV e8 a1)
 have fh := e9.kept af (yV e9 a1)
 have fi := fa.kept af (yV fa a1)
 have jt := zF (NP.hl a0) bj e2.lt
 have fj := zF a.alr.symm bj e3.lt
 have fk := zF a.alb.symm bj e4.lt
 have b8 := zO a.apl bj e5.lt
 have ju : Lo w (inP p L R B mm) az.ownBlock := tO (PIn.ll hpin) bj c5.size
 have md := la1 (q.ns.map Nd.l) d
 refine qD rfl (yW rfl) (qD rfl (zI (k := 0) rfl dR rfl nz97 rfl) (q0 rfl rfl rfl (o_stp (cs' := [az, R, B, .map (some mm.f), .map (some mm.o), .map (some mm.c), .map (some mm.s), .map (some mm.n)]) (us := [az]) (v := az) sz97 rfl rfl (jX c6.one) (yG c6.one) fb.pins a2 (cE rfl) rfl (fun me fm jv ag mf => ?_))))
 have jw := fb.write jv ag ((PIn.lp hpin))
 have jx := jq.keptA ag (NP.hp a0)
 have jy := jr.keptA ag a.apr.symm
 have jz := js.keptA ag a.apb.symm
 have j0 := c6.keptA ag b8.symm
 have j1 := fd.kept ag (xC fd a2)
 have j2 := fe.kept ag (xC fe a2)
 have j3 := fg.kept ag (xC fg a2)
 have j4 := fh.kept ag (xC fh a2)
 have j5 := fi.kept ag (xC fi a2)
 refine qe (w9a ?_)
 refine qM (vP p) ?_
 refine qM (vP p) ?_
 refine qD rfl (yW rfl) (qD rfl (zI (k := 1) rfl dR rfl nz97 rfl) (qD rfl (zJ (u := R) ag97 rfl (fm.cell (o := 1) rfl)) (qM aa ?_)))
 obtain ⟨c7, c8, c9, fp, b9⟩ := jx.sealed jw
 have j6 := jy.moreO c8 b9 (NP.hr a0).symm
 have j7 := jz.moreO c8 b9 (NP.hb a0).symm
 have j8 := j0.moreO c8 b9 jt.symm
 have j9 := fm.moreO b9 (NP.hp a0).symm
 refine qI rfl (xA (E := eSl eInt) (e := 40) [aa] [g] dZ sz40 zr40 (by exact qC (⟨_, rfl, fp⟩)) (yG fp.one) rfl rfl rfl rfl (by decide) c9.pins (fun fq ka kb kc ah mg => ?_))
 have da := c9.step kc ah
 have a3 := j6.below ah
 have fr := j7.below ah
 have ft := j8.below ah
 have fu := j9.below ah
 have fv := j1.below ah
 have fw := j2.below ah
 have fx := j3.below ah
 have fy := j4.below ah
 have fz := j5.below ah
 have kd := kb.weaken c9.size
 refine qI rfl (oA (E := eSl eInt) (v := R) (u := fq) 24 dZ ap40 (by decide) rfl rfl da.pins a3 kd.src (cI _) (fun a4 mh db ke ak ca => ?_))
 have f0 := da.write ke ak ((PIn.lr hpin))
 have kf := fr.keptA ak a.arb.symm
 have kg := ft.keptA ak fj.symm
 have a5 := fu.keptA ak a.apr
 have f3 := fv.kept ak (yV fv a3)
 have f4 := fw.kept ak (yV fw a3)
 have f5 := fx.kept ak (yV fx a3)
 have f6 := fy.kept ak (yV fy a3)
 have f7 := fz.kept ak (yV fz a3)
 have f8 := zF a.arb.symm ca fr.lt
 have kh := zF fj.symm ca ft.lt
 have dc := zO a.apr ca fu.lt
 have ki : Lo w (inP p L R B mm) a4.ownBlock := tO (PIn.lr hpin) ca da.size
 have mi := la1 (q.ns.map Nd.r) g
 refine qD rfl (yW rfl) (qD rfl (zI (k := 1) rfl dR rfl nz97 rfl) (q0 rfl rfl rfl (o_stp (cs' := [az, a4, B, .map (some mm.f), .map (some mm.o), .map (some mm.c), .map (some mm.s), .map (some mm.n)]) (us := [a4]) (v := a4) sz97 rfl rfl (jX db.one) (yG db.one) f0.pins a5 (cE rfl) rfl (fun mj f9 kj al mk => ?_))))
 have dd := f0.write kj al ((PIn.lp hpin))
 have kk := kf.keptA al a.apb.symm
 have kl := kg.keptA al b8.symm
 have km := db.keptA al dc.symm
 have kn := f3.kept al (xC f3 a5)
 have ko := f4.kept al (xC f4 a5)
 have kp := f5.kept al (xC f5 a5)
 have kq := f6.kept al (xC f6 a5)
 have kr := f7.kept al (xC f7 a5)
 refine qe (w9a ?_)
 refine qM (vP p) ?_
 refine qM (vP p) ?_
 refine qD rfl (yW rfl) (qD rfl (zI (k := 2) rfl dR rfl nz40 rfl) (qD rfl (zJ (u := B) ag40 rfl (f9.cell (o := 2) rfl)) (qM (vJ bm) ?_)))
 refine qI rfl (xA (E := eInt) (e := 3) [vJ bm] [bm] dC sz3 zr3 (by exact qC (by rfl)) (yG (by rfl)) rfl rfl rfl rfl (by decide) dd.pins (fun ga ks kt ku ai ml => ?_))
 have de := dd.step ku ai
 have a6 := kk.below ai
 have gb := kl.below ai
 have gc := km.below ai
 have gd := f9.below ai
 have ge := kn.below ai
 have gf := ko.below ai
 have gg := kp.below ai
 have gh := kq.below ai
 have gi := kr.below ai
 have kv := kt.weaken dd.size
 refine qI rfl (oA (E := eInt) (v := B) (u := ga) 8 dC ap3 (by decide) rfl rfl de.pins a6 kv.src (cI _) (fun bk mn dg kw am cb => ?_))
 have gj := de.write kw am ((PIn.lb hpin))
 have kx := gb.keptA am fk.symm
 have ky := gc.keptA am f8.symm
 have a7 := gd.keptA am a.apb
 have gk := ge.kept am (yV ge a6)
 have gl := gf.kept am (yV gf a6)
 have gm := gg.kept am (yV gg a6)
 have gn := gh.kept am (yV gh a6)
 have gp := gi.kept am (yV gi a6)
 have kz := zF fk.symm cb gb.lt
 have k0 := zF f8.symm cb gc.lt
 have gq := zO a.apb cb gd.lt
 have k1 : Lo w (inP p L R B mm) bk.ownBlock := tO (PIn.lb hpin) cb de.size
 have mo := la1 q.bs bm
 refine qD rfl (yW rfl) (qD rfl (zI (k := 2) rfl dR rfl nz40 rfl) (q0 rfl rfl rfl (o_stp (cs' := [az, a4, bk, .map (some mm.f), .map (some mm.o), .map (some mm.c), .map (some mm.s), .map (some mm.n)]) (us := [bk]) (v := bk) sz40 rfl rfl (jX dg.one) (yG dg.one) gj.pins a7 (cE rfl) rfl (fun mp k2 k3 an mq => ?_))))
 have k4 := gj.write k3 an ((PIn.lp hpin))
 have k5 := kx.keptA an b8.symm
 have k6 := ky.keptA an dc.symm
 have k7 := dg.keptA an gq.symm
 have k8 := gk.kept an (xC gk a7)
 have k9 := gl.kept an (xC gl a7)
 have la := gm.kept an (xC gm a7)
 have lc := gn.kept an (xC gn a7)
 have ld := gp.kept an (xC gp a7)
 refine qe (w9a ?_)
 refine qM (vJ (q.bs.length : Int)) ?_
 refine qM (vJ (q.bs.length : Int)) ?_
 refine qe (zA ?_)
 refine cO (zT (zS (v := vJ (q.bs.length : Int)) rfl rfl rfl ?_))
 have el : (q.ns.map Nd.l) ++ [d] = (addQ q xs ys bm).ns.map Nd.l := by rw [ao]; simp [addQ]
 have er : (q.ns.map Nd.r) ++ [g] = (addQ q xs ys bm).ns.map Nd.r := by rw [ap]; simp [addQ]
 have ef : putE q.fl (b2s kxb) (q.bs.length : Int) = (addQ q xs ys bm).fl := by rw [hkey, ao, ap, hok.ar.ok.len]; rfl
 have hol := k5
 have hor := k6
 have hff := k8
 rw [el] at hol
 rw [er] at hor
 rw [ef] at hff
 exact ⟨(q.bs.length : Int), az, a4, bk, addQ q xs ys bm, c7, rfl, ⟨k2, hol, hor, k7, hff, k9, la, lc, ld, b8, dc, gq, kh, kz, k0, a.df⟩, hadd.1, hadd.2.1, ⟨ju, ki, k1⟩, k4, by rw [hok.ar.ok.len]; exact hadd.2.2.1, by rw [hok.ar.ok.len]; exact hadd.2.2.2.1, hadd.2.2.2.2, rfl, cG (by omega)⟩
end PO1
namespace PL1
open B1 K1 PO1
theorem mk3 : (Tryz.prog.info? 3).map (fun i => (i.size, i.bytes, i.zero)) = some (1, 8, some (.int .i64 0)) := by kernel_rfl
theorem pl99 : (Tryz.prog.underlying 99).bind (placesD Tryz.prog) = some [(0, 1), (1, 1), (2, 1), (3, 1), (4, 1), (5, 1), (6, 1), (7, 1)] := by kernel_rfl
variable {G : Pin} {p : Nat} {L R B x : Value} {mm : PM} {q : PSt} {fs : List Nd} {a b : Int}
theorem sT {w : World} (hP : Pins G w) :
  Calls Tryz.prog 25 #[] w fun e w' => ∃ (p : Nat) (mm : PM) (G' : Pin), e = .returned (vP p) ∧ Pk 40 3 G' w' p vN vN vN mm ⟨[], [], [], [], [], [], []⟩ ∧ (∀ k, inP p vN vN vN mm k → w.heap.size ≤ k) ∧ Ext noS G w G' w' := by
 refine yC (n := 8) Tryz.func25 Tryz.ntmps25 rfl rfl ?_
 have o := exr noS hP
 refine w9d ?_
 refine qM (.pointer none) ?_
 refine qe (w9a ?_)
 refine qI rfl (vM (fun k : ByteArray => Value.string k) (fun v : Int => Value.int .i64 v) o.pins (fun a w2 bo z al am => ?_))
 have q := o.step al am
 have an : w.heap.size ≤ a := by have := o.size; omega
 refine qI rfl (vM encP2 (fun v : Bool => Value.bool v) q.pins (fun b bp ao aa ap ab => ?_))
 have r := q.step ap ab
 have ac := z.below ab
 have aq := zD (cgA some ao) z.lt
 have ar : w.heap.size ≤ b := by have := q.size; omega
 refine qI rfl (vM (fun k : Int => Value.int .i64 k) (fun v : Int => Value.int .i64 v) r.pins (fun c bq ad ae au s => ?_))
 have t := r.step au s
 have af := ac.below s
 have ag := aa.below s
 have av := zD (cgA some ad) ac.lt
 have aw := zD (cgA some ad) aa.lt
 have ax : w.heap.size ≤ c := by have := r.size; omega
 refine qI rfl (vM encP2 (fun v : Int => Value.int .i64 v) t.pins (fun d br u ah ay l => ?_))
 have x := t.step ay l
 have ai := af.below l
 have aj := ag.below l
 have ak := ae.below l
 have az := zD (cgA some u) af.lt
 have a0 := zD (cgA some u) ag.lt
 have a1 := zD (cgA some u) ae.lt
 have a2 : w.heap.size ≤ d := by have := t.size; omega
 refine qI rfl (vM (fun k : Int => Value.int .i64 k) (fun v : Int => Value.int .i64 v) x.pins (fun f bs m a3 a4 i => ?_))
 have y := x.step a4 i
 have a5 := ai.below i
 have a6 := aj.below i
 have a7 := ak.below i
 have a8 := ah.below i
 have a9 := zD (cgA some m) ai.lt
 have ba := zD (cgA some m) aj.lt
 have bb := zD (cgA some m) ak.lt
 have bc := zD (cgA some m) ah.lt
 have bd : w.heap.size ≤ f := by have := x.size; omega
 refine qD rfl (xH [vN, vN, vN, .map none, .map none, .map none, .map none, .map none] [vN, vN, vN, .map (some a), .map (some b), .map (some c), .map (some d), .map (some f)] [(3, (.map (some a)), [.map (some a)]), (4, (.map (some b)), [.map (some b)]), (5, (.map (some c)), [.map (some c)]), (6, (.map (some d)), [.map (some d)]), (7, (.map (some f)), [.map (some f)])] dR zr99 rfl pl99 rfl (cM.2 ⟨rfl, (cM.2 ⟨rfl, (cM.2 ⟨rfl, (cM.2 ⟨rfl, (cM.2 ⟨rfl, (fun _ h => by cases h)⟩)⟩)⟩)⟩)⟩) rfl) (qI rfl (xL [vN, vN, vN, .map (some a), .map (some b), .map (some c), .map (some d), .map (some f)] (v := .agg #[vN, vN, vN, .map (some a), .map (some b), .map (some c), .map (some d), .map (some f)]) rfl rfl y.pins (fun j bt bu be bf g => ?_)))
 have bg := y.step bf g
 have bh := a5.below g
 have bi := a6.below g
 have bj := a7.below g
 have bk := a8.below g
 have bl := a3.below g
 have bm : w.heap.size ≤ j := by have := y.size; omega
 refine qM (vP j) ?_
 refine qe (zA ?_)
 refine cO (zT (zS (v := vP j) rfl rfl rfl ?_))
 have hdf : PDiff ⟨a, b, c, d, f⟩ := ⟨fun e => aq.symm _ rfl (cgA some e.symm), fun e => av.symm _ rfl (cgA some e.symm), fun e => az.symm _ rfl (cgA some e.symm), fun e => a9.symm _ rfl (cgA some e.symm), fun e => aw.symm _ rfl (cgA some e.symm), fun e => a0.symm _ rfl (cgA some e.symm), fun e => ba.symm _ rfl (cgA some e.symm), fun e => a1.symm _ rfl (cgA some e.symm), fun e => bb.symm _ rfl (cgA some e.symm), fun e => bc.symm _ rfl (cgA some e.symm)⟩
 have hfr : ∀ k, inP j vN vN vN ⟨a, b, c, d, f⟩ k → w.heap.size ≤ k := by rintro k (rfl | hk | hk | hk | rfl | rfl | rfl | rfl | rfl) <;> first | (cases hk; done) | exact bm | exact an | exact ar | exact ax | exact a2 | exact bd
 exact ⟨j, ⟨a, b, c, d, f⟩, _, rfl, ⟨be, (Own.nil _ _ _ _ _), (Own.nil _ _ _ _ _), (Own.nil _ _ _ _ _), bh, bi, bj, bk, bl, apart_none.symm, apart_none.symm, apart_none.symm, apart_none, apart_none, apart_none, hdf⟩, hfr, bg⟩
theorem jN {w : World} {u v : Value} {xs ys : List Int} (hP : Pins G w) (hu : RSl eInt G u xs) (hv : RSl eInt G v ys) (hs : xs.length ≤ 1048576) (hb : ∀ i, i < xs.length → 0 ≤ xs.getD i 0 ∧ xs.getD i 0 < ys.length) :
  Calls Tryz.prog 57 #[u, v] w fun e w' => ∃ (u : Value) (G' : Pin), e = .returned u ∧ Own eInt 3 G' w' w.heap.size u (atL ys xs) ∧ Ext noS G w G' w' := by
 refine yC (n := 27) Tryz.func57 Tryz.ntmps57 rfl rfl ?_
 have d := exr noS hP
 have hm := hu.max
 have hal : (atL ys xs).length = xs.length := yZ
 have hrl : (List.replicate xs.length (0 : Int)).length = xs.length := List.length_replicate
 refine w9d ?_
 refine qM vN ?_
 refine qe (w9a ?_)
 refine qM u ?_
 refine qD rfl (zN dC (v := u) rfl hu) (qI rfl (vH (E := eInt) 0 8 (vJ 0) dC mk3 (fun _ => rfl) rfl rfl d.pins (by omega) (by omega) (by omega) (fun a g h l m ab => ?_)))
 have o := d.step l m
 have q : Own eInt 3 G g w.heap.size a (List.replicate xs.length 0) := h.weaken d.size
 have ac : (List.replicate xs.length 0).length = xs.length := List.length_replicate ..
 refine qM a ?_
 refine qe (zA (w9b ?_))
 refine qM u ?_
 refine qD rfl (zN dC (v := u) rfl hu) (qM (vJ 0) ?_)
 refine qe (zA ?_)
 refine zY (yN (fun k en W => ∃ (f : Nat → Value) (j : Nat) (os : List Int), en = (upd (upd (upd (upd (upd (upd f 1 v) 4 vN) 5 a) 11 u) 12 (vJ (xs.length : Int))) 13 (vJ (j : Int))) ∧ k = xs.length - j ∧ Ext noS G w G W ∧ (j ≤ xs.length) ∧ (os = (atL ys xs).take j ++ (List.replicate xs.length 0).drop j) ∧ (os.length = xs.length) ∧ (Own eInt 3 G W w.heap.size a (os))) _ ⟨_, 0, List.replicate xs.length 0, (pS 13 (pS 12 (pS 11 (pS 5 (pS 4 (pU 1)))))), rfl, o, cI _, rfl, hrl, q⟩ ?_)
 rintro ad _ ae ⟨f, j, os, rfl, af, b, hj, hr, hol, c⟩
 refine w9d ?_
 refine qD rfl (yQ rfl rfl) (qe (zA (zB ?_)))
 refine yA (p := ((j : Int) : Int) < (xs.length : Int)) rfl rfl (fun s => ?_) (fun s => ?_)
 have hbj := hb j (by omega)
 refine cN (zA (zB ?_))
 refine zY (w9d ?_)
 refine qM (vJ (j : Int)) ?_
 refine qD rfl (zE dC sz3 (v := u) rfl rfl hu (by omega) (by omega)) (qD rfl (zL (r := xs.getD j 0) rfl ag3 (z := (j : Int)) rfl hu b.pins (by omega) (by omega)) (qM (vJ (j : Int)) ?_))
 refine qM (vJ (xs.getD j 0)) ?_
 refine qe (zA (zC ?_))
 refine qM a ?_
 refine qM (vJ (j : Int)) ?_
 refine qM v ?_
 refine qM (vJ (xs.getD j 0)) ?_
 refine qD rfl (zE dC sz3 (v := v) rfl rfl hv (by omega) (by omega)) (qD rfl (zL (r := ys.getD (xs.getD j 0).toNat 0) rfl ag3 (z := xs.getD j 0) rfl hv b.pins (by omega) (by omega)) (qD rfl (zE dC sz3 (v := a) rfl rfl c.read (by omega) (by omega)) (q0 rfl rfl rfl (qU (E := eInt) (v := a) (u := vJ (ys.getD (xs.getD j 0).toNat 0)) (z := (j : Int)) (ys.getD (xs.getD j 0).toNat 0) sz3 rfl rfl rfl rfl b.pins c (by omega) (by omega) (fun ag t x y ah => ?_)))))
 have aa := b.write x y ((yE c))
 refine qe (w9c ?_)
 refine qD rfl (yO rfl rfl (by omega)) (qM (vJ ((j : Int) + 1)) ?_)
 refine qe (yD (⟨_, ?_, _, rfl, _, j + 1, os.set j (ys.getD (xs.getD j 0).toNat 0), (pS 13 (pS 12 (pS 11 (pS 5 (pS 4 (pU 1)))))), rfl, aa, (by omega), (by rw [hr]; exact cur_set 0 (by omega) (by omega) (at_getD (by omega))), ((cS ..).trans hol), t⟩))
 omega
 refine cP (zZ (yJ (yI (w9a ?_))))
 refine qM a ?_
 refine qM a ?_
 refine qe (zA ?_)
 refine cO (zT (zS (v := a) rfl rfl rfl ?_))
 rw [cur_end (by omega) (by omega)] at hr
 exact ⟨_, _, rfl, (by rw [← hr]; exact c), b⟩
theorem load_spec {w : World} (hP : Pins G w) (hpk : Pk 40 3 G w p L R B mm q) (hok : PoolOk q) (hx : RSl eNode G x fs) (hf : FormOk fs) (hl : q.ns.length + fs.length ≤ 1048576) :
  Calls Tryz.prog 55 [vP p, .agg #[x]].toArray w fun e w' => ∃ (u : Value) (ats : List Int) (L' R' B' : Value) (q' : PSt) (G' : Pin), e = .returned u ∧ Pk 40 3 G' w' p L' R' B' mm q' ∧ PoolOk q' ∧ PX q q' ∧ PLo w p L R B mm L' R' B' ∧ Ext (inP p L R B mm) G w G' w' ∧ Own eInt 3 G' w' w.heap.size u ats ∧ NP p L' R' B' mm u.ownBlock ∧ LdOk fs q q' fs.length ats := by
 refine yC (n := 34) Tryz.func55 Tryz.ntmps55 rfl rfl ?_
 have ax := exr (inP p L R B mm) hP
 have hpin : PIn w (inP p L R B mm) p L R B mm := PIn.self
 have ee := pkl q
 have ef := pkb hok
 refine w9d ?_
 refine qI rfl (xL [x] (v := .agg #[x]) rfl rfl ax.pins (fun b3 w4 cp cq bj bk => ?_))
 have cr := ax.step bj bk
 have cs := hpk.below bk bj
 have ct := hpk.new (x := some b3) (fun k hk => by rw [cgA some cp] at hk; cases hk; exact cH _)
 have cu : w.heap.size ≤ b3 := by have := ax.size; omega
 obtain ⟨ay, ak, al, bl, cv⟩ := cq.shut cr cu
 have bm := cs.more ak cv ct
 refine qM vN ?_
 refine qe (w9a ?_)
 refine qD rfl (zI (k := 0) rfl dF rfl nz24 rfl) (qD rfl (zJ (u := x) ag24 rfl (al.pins _ _ _ (bl 0 _ rfl))) (qD rfl (zN dD (v := x) rfl hx) (qI rfl (o_make0 (E := eInt) dC mk3 rfl rfl al.pins (by omega) (by omega) (by omega) (fun am cw cx bn bo cy => ?_)))))
 have bp := al.step bn bo
 have cz := bm.below bo bn
 have c0 := bm.new (x := am.ownBlock) (fun k hk => by rw [cy] at hk; cases hk; exact cH _)
 have c1 := cx.weaken al.size
 refine qM am ?_
 refine qe (zA (w9b ?_))
 refine qD rfl (zI (k := 0) rfl dF rfl nz24 rfl) (qD rfl (zJ (u := x) ag24 rfl (bp.pins _ _ _ (bl 0 _ rfl))) (qD rfl (zN dD (v := x) rfl hx) (qM (vJ 0) ?_)))
 refine qe (zA ?_)
 refine zY (yN (fun k en W => ∃ (bq : Nat → Value) (a : Nat) (at_ : Value) (ats : List Int) (t : Value) (y : Value) (aa : Value) (b : PSt) (o : Pin), en = (upd (upd (upd (upd (upd (upd bq 0 (vP p)) 4 vN) 5 at_) 13 x) 14 (vJ (fs.length : Int))) 15 (vJ (a : Int))) ∧ k = fs.length - a ∧ Ext (inP p L R B mm) G w o W ∧ Pin.le ay o ∧ (a ≤ fs.length) ∧ (LdOk fs q b a ats) ∧ (Own eInt 3 o W w.heap.size at_ (ats)) ∧ (Pk 40 3 o W p t y aa mm b) ∧ (PIn w ((inP p L R B mm)) p t y aa mm) ∧ (PoolOk b) ∧ (PX q b) ∧ (NP p t y aa mm at_.ownBlock)) _ ⟨_, 0, am, [], L, R, B, q, ay, (pS 15 (pS 14 (pS 13 (pS 5 (pS 4 (pU 0)))))), rfl, bp, cJ _, cI _, LdOk.start, c1, cz, hpin, hok, (PX.refl _), c0⟩ ?_)
 rintro eh _ ei ⟨bq, a, at_, ats, t, y, aa, b, o, rfl, ej, ab, an, hk, hld, az, a0, a1, ac, a2, a3⟩
 have ek := a2.len
 have el := pkl b
 have em := pkb ac
 have hal := hld.len
 have hah := hld.hi
 have hfl := hf.len
 refine w9d ?_
 refine qD rfl (yQ rfl rfl) (qe (zA (zB ?_)))
 refine yA (p := ((a : Int) : Int) < (fs.length : Int)) rfl rfl (fun c2 => ?_) (fun c2 => ?_)
 have oo := xI hf.opts (show a < fs.length by omega)
 have hfe := hf.lens a (by omega)
 refine cN (zA (zB ?_))
 refine zY (w9d ?_)
 refine qD rfl (zE dD sz76 (v := x) rfl rfl hx (by omega) (by omega)) ?_
 obtain ⟨ad, ae, a4, a5, c3⟩ := vK (hx.at (z := (a : Int)) (by omega) (by omega)) (j := a) rfl
 have eo := a4.max
 have ep := a5.max
 refine qD rfl (c3 ag76 sz76 rfl (cC ab.pins (cB ak an))) (qI rfl (yK [vN, vN] zr76 rfl ab.pins (fun br eq bt c4 bu a6 => ?_)))
 have bv := ab.step bu a6
 have c5 := az.below a6
 have c6 := a0.below a6 bu
 have bw := zG (cgA some bt) az.lt
 have bx := a0.new (x := some br) (fun k hk => by rw [cgA some bt] at hk; cases hk; exact cH _)
 have bz : w.heap.size ≤ br := by have := ab.size; omega
 refine q0 rfl rfl rfl (o_stp (cs' := [ad, ae]) (us := [ad, ae]) (v := .agg #[ad, ae]) sz76 rfl rfl rfl (vD a4.one a5.one) bv.pins c4 (cE rfl) rfl (fun ao c7 b0 a7 er => ?_))
 have c8 := bv.write b0 a7 ((zW bz))
 have c9 := c5.keptA a7 bw.symm
 have da := c6.kept a7 b0 bx
 obtain ⟨af, ag, b1, b2, b4⟩ := c7.shut c8 bz
 have db := c9.moreA ag b4 bw.symm
 have dc := da.more ag b4 bx
 refine qe (zA ?_)
 refine yT (S := fun wz => Pins af wz) (last := 14) (by kernel_rfl) rfl ?_
 have ap := bdr ao
 have b5 := b1.pins.below ap
 have c := b1.step b5 ap
 have a8 := db.below ap
 have b6 := dc.below ap b5
 refine dM 0 at_ c.pins ?_
 refine dM 1 (vP p) c.pins ?_
 refine dT (i := 2) rfl rfl (by kernel_rfl) (fun _ _ => zI (k := 0) rfl dH rfl nz40 rfl) c.pins ?_
 refine dT (i := 3) rfl rfl (by kernel_rfl) (fun _ hS => zJ (u := ad) ag40 rfl (hS _ _ _ (b2 0 _ rfl))) c.pins ?_
 refine dM 4 at_ c.pins ?_
 refine dT (i := 6) rfl rfl (by kernel_rfl) (fun _ _ => zI (k := 1) rfl dH rfl nz40 rfl) c.pins ?_
 refine dT (i := 7) rfl rfl (by kernel_rfl) (fun _ hS => zJ (u := ae) ag40 rfl (hS _ _ _ (b2 1 _ rfl))) c.pins ?_
 refine dM 8 at_ c.pins ?_
 refine dP (i := 5) rfl rfl (zP (vs := [ad, at_]) Tryz.func57 nm57 rfl rfl rfl ?_)
 refine cD (jN (cL c.pins at_) ((a4.mono (cB (cB ak an) ag)).mono (Gadd.le _ _ _)) a8.read (by omega) (fun i hi => by have h7 := oo.1 _ (xF (d := (0 : Int)) hi); omega)) ?_
 rintro _ b7 ⟨a9, es, rfl, de, b8⟩
 refine rt9 ?_
 have ah := kS c.pins b8
 have ba := de.anti kR (cB (Gadd.le af ao.drew at_) b8.le)
 have ai := c.step ah.pins ah.below
 have bb := a8.below ah.below
 have b9 := b6.below ah.below ah.pins
 have df := zR ba.lt a8.lt
 have dg := b6.new (x := a9.ownBlock) (fun k hk => (ba.lt k hk).1)
 have ca := ba.weaken c.size
 have et : (atL ats ((fs.getD a default).l)).length = ((fs.getD a default).l).length := yZ
 refine ⟨fun _ => ai.pins, ?_⟩
 refine dP (i := 9) rfl rfl (zP (vs := [ae, at_]) Tryz.func57 nm57 rfl rfl rfl ?_)
 refine cD (jN (cL ai.pins at_) ((a5.mono (cB (cB ak an) ag)).mono (Gadd.le _ _ _)) bb.read (by omega) (fun i hi => by have h7 := oo.2 _ (xF (d := (0 : Int)) hi); omega)) ?_
 rintro _ dh ⟨bc, eu, rfl, di, cb⟩
 refine rt9 ?_
 have s := kS ai.pins cb
 have aq := di.anti kR (cB (Gadd.le af b7 at_) cb.le)
 have cc := ai.step s.pins s.below
 have dj := bb.below s.below
 have dk := ca.below s.below
 have dl := b9.below s.below s.pins
 have dm := zR aq.lt bb.lt
 have dn := zR aq.lt ca.lt
 have dp := b9.new (x := bc.ownBlock) (fun k hk => (aq.lt k hk).1)
 have dq := aq.weaken ai.size
 have ev : (atL ats ((fs.getD a default).r)).length = ((fs.getD a default).r).length := yZ
 refine ⟨fun _ => cc.pins, ?_⟩
 obtain ⟨ew, f, dr, ds, bd⟩ := dk.sealed cc
 have dt := dj.moreO f bd df.symm
 have du := dq.moreO f bd dn
 have dv := dl.moreO f bd dg
 obtain ⟨ex, g, be, dw, cd⟩ := du.sealed dr
 have ce := dt.moreO g cd dm.symm
 have dx := dv.moreO g cd dp
 refine dP (i := 10) rfl rfl (zP (vs := [vP p, a9, bc]) Tryz.func75 nm75 rfl rfl rfl ?_)
 refine cD (node_spec be.pins dx ac (ds.mono g) dw (by omega) ⟨by rw [yZ]; omega, by rw [yZ]; omega⟩ (hld.opt oo.1) (hld.opt oo.2)) ?_
 rintro _ ey ⟨aj, dy, dz, d0, h, cf, rfl, d1, au, bf, cg, m, d2, d3, d4, ez⟩
 refine rt9 ?_
 have av := be.trans m a1
 have d5 := ce.extS m a3
 have ch := NP.call a3 cg (jG ce)
 have d6 := PIn.call a1 cg be.size
 have e0 := bf.len
 have e1 := pkl h
 have e2 := pkb au
 refine ⟨fun _ => (cC av.pins (cB (cB f g) m.le)), ?_⟩
 refine dP (i := 11) rfl rfl (xA (E := eInt) (e := 3) [vJ aj] [aj] dC sz3 zr3 (by exact qC (by rfl)) (yG (by rfl)) rfl rfl rfl rfl (by decide) av.pins (fun ci d7 d8 cj bg e3 => ?_))
 have aw := av.step cj bg
 have ck := d5.below bg
 have cl := d1.below bg cj
 have d9 := d8.weaken av.size
 refine ⟨fun _ => (cC aw.pins (cB (cB f g) m.le)), ?_⟩
 refine dP (i := 12) rfl rfl (oA (E := eInt) (v := at_) (u := ci) 8 dC ap3 (by decide) rfl rfl aw.pins ck d9.src (aw.size) (fun cm e4 ea cn co eb => ?_))
 have bh := aw.write cn co ((yE ck))
 have ec := cl.kept co cn ch
 have ed := sS ch cl eb
 have e5 := la1 ats aj
 refine ⟨fun _ => (cC bh.pins (cB (cB f g) m.le)), ?_⟩
 refine dM 13 cm (cC bh.pins (cB (cB f g) m.le)) ?_
 refine yH (by kernel_rfl) (w9c ?_)
 refine qD rfl (yO rfl rfl (by omega)) (qM (vJ ((a : Int) + 1)) ?_)
 refine qe (yD (⟨_, ?_, _, rfl, _, a + 1, cm, ats ++ ([aj]), dy, dz, d0, h, cf, (pS 15 (pS 14 (pS 13 (pS 5 (pS 4 (pU 0)))))), rfl, bh, (cB (cB (cB (cB an ag) f) g) m.le), (by omega), (hld.step hf (by omega) ac au bf d2 d3 d4), ea, ec, d6, au, (PX.trans a2 bf), ed⟩))
 omega
 refine cP (zZ (yJ (yI (w9a ?_))))
 refine qM at_ ?_
 refine qM at_ ?_
 refine qe (zA ?_)
 refine cO (zT (zS (v := at_) rfl rfl rfl ?_))
 have hkf : a = fs.length := by omega
 rw [hkf] at hld
 exact ⟨at_, ats, t, y, aa, b, o, rfl, a0, ac, a2, PIn.lo a1 rfl, ab, az, a3, hld⟩
theorem jK {w : World} (hP : Pins G w) (hpk : Pk 40 3 G w p L R B mm q) (hok : PoolOk q) (hx : RSl eNode G x fs) (hf : FormOk fs) (hl : q.ns.length + fs.length ≤ 1048576) (hf1 : 1 ≤ fs.length) :
  Calls Tryz.prog 27 [vP p, .agg #[x]].toArray w fun e w' => ∃ (z : Int) (L' R' B' : Value) (q' : PSt) (G' : Pin), e = .returned (vJ z) ∧ Pk 40 3 G' w' p L' R' B' mm q' ∧ PoolOk q' ∧ PX q q' ∧ PLo w p L R B mm L' R' B' ∧ Ext (inP p L R B mm) G w G' w' ∧ PlaceOk q' z ∧ pd q' z = gOf fs ∧ q'.ns.length ≤ q.ns.length + fs.length := by
 refine yC (n := 15) Tryz.func27 Tryz.ntmps27 rfl rfl ?_
 have d := exr (inP p L R B mm) hP
 have hpin : PIn w (inP p L R B mm) p L R B mm := PIn.self
 have av := pkl q
 have aw := pkb hok
 have hfl := hf.len
 refine w9d ?_
 refine qI rfl (xL [x] (v := .agg #[x]) rfl rfl d.pins (fun i w4 aa ab m o => ?_))
 have ac := d.step m o
 have ad := hpk.below o m
 have ae := hpk.new (x := some i) (fun k hk => by rw [cgA some aa] at hk; cases hk; exact cH _)
 have af : w.heap.size ≤ i := by have := d.size; omega
 obtain ⟨ay, s, c, ag, ah⟩ := ab.shut ac af
 have ai := ad.more s ah ae
 refine qM (vJ 0) ?_
 refine qe (w9a ?_)
 refine qM (vP p) ?_
 refine qD rfl (zU (cs := [x]) ag26 sz26 rfl (fun j u hj => c.pins _ _ _ (ag _ _ (by simpa using hj)))) (qI rfl (zP (vs := [vP p, .agg #[x]]) Tryz.func55 nm55 rfl rfl rfl ?_))
 refine cD (load_spec c.pins ai hok (hx.mono s) hf hl) ?_
 rintro _ az ⟨b, ats, aj, ak, al, a, am, rfl, an, f, t, ao, ap, aq, a0, g⟩
 refine rt9 ?_
 have y := c.trans ap hpin
 have au := PIn.call hpin ao c.size
 have a1 := t.len
 have a2 := pkl a
 have a3 := pkb f
 have h := aq.weaken c.size
 have a4 := g.len
 refine qM b ?_
 refine qe (w9a ?_)
 refine qM b ?_
 refine qM b ?_
 refine qD rfl (zN dC (v := b) rfl h.read) (qD rfl (xX rfl rfl (by omega)) (qD rfl (zE dC sz3 (v := b) rfl rfl h.read (by omega) (by omega)) (qD rfl (zL (r := ats.getD ((ats.length : Int) - 1).toNat 0) rfl ag3 (z := (ats.length : Int) - 1) rfl h.read (cL y.pins b) (by omega) (by omega)) (qM (vJ (ats.getD ((ats.length : Int) - 1).toNat 0)) ?_))))
 refine qe (zA ?_)
 refine cO (zT (zS (v := vJ (ats.getD ((ats.length : Int) - 1).toNat 0)) rfl rfl rfl ?_))
 have hrt := g.root hf1
 rw [show fs.length - 1 = ((ats.length : Int) - 1).toNat by omega] at hrt
 exact ⟨_, aj, ak, al, a, am, rfl, an, f, t, PIn.lo au rfl, y, hrt.1, hrt.2, g.hi⟩
def GeP (m : Nat) (p : Nat) (L R B : Value) (mm : PM) : Prop := ∀ {w : World} {G : Pin} {q : PSt} {a b : Int} (_ : Pins G w) (_ : Pk 40 3 G w p L R B mm q) (_ : PoolOk q) (_ : PlaceOk q a) (_ : PlaceOk q b), a.toNat + b.toNat < m →
  Calls Tryz.prog 26 #[.pointer (some ⟨p, 0, none⟩), .int .i64 a, .int .i64 b] w fun e w' => ∃ (q' : PSt) (G' : Pin), e = .returned (.bool (geB q.ns a b)) ∧ Pk 40 3 G' w' p L R B mm q' ∧ PoolOk q' ∧ PX q q' ∧ (q'.ns = q.ns ∧ q'.bs = q.bs) ∧ Ext (inO (some mm.o)) G w G' w'
theorem ge_step {m : Nat} {w : World} (hP : Pins G w) (hpk : Pk 40 3 G w p L R B mm q) (hok : PoolOk q) (ha : PlaceOk q a) (hb : PlaceOk q b) (ih : GeP m p L R B mm) (hm : a.toNat + b.toNat < m + 1) :
  Calls Tryz.prog 26 #[vP p, vJ a, vJ b] w fun e w' => ∃ (q' : PSt) (G' : Pin), e = .returned (.bool (geB q.ns a b)) ∧ Pk 40 3 G' w' p L R B mm q' ∧ PoolOk q' ∧ PX q q' ∧ (q'.ns = q.ns ∧ q'.bs = q.bs) ∧ Ext (inO (some mm.o)) G w G' w' := by
 refine yC (n := 74) Tryz.func26 Tryz.ntmps26 rfl rfl ?_
 have a3 := exr (inO (some mm.o)) hP
 have hpin : PIn w (inP p L R B mm) p L R B mm := PIn.self
 have dj := pkl q
 have dk := pkb hok
 have dl := ha.1
 have dm := ha.2
 have dn := hb.1
 have dp := hb.2
 refine w9d ?_
 refine qM (.bool false) ?_
 refine qe (zA (w9b ?_))
 refine qM (vJ a) ?_
 refine qM (vJ b) ?_
 refine qD rfl (qL rfl rfl) (qe (zA ?_))
 refine yA (p := (a : Int) = b) rfl rfl (fun h3 => ?_) (fun h3 => ?_)
 refine w9d ?_
 refine qM (.bool true) ?_
 refine qe (zA ?_)
 exact cO (zT (zS (v := .bool true) rfl rfl rfl (⟨q, _, cgA eB (by rw [h3]; exact geB_refl.symm), hpk, hok, (PX.refl _), ⟨rfl, rfl⟩, a3⟩)))
 refine cN (w9a ?_)
 refine qM (vJ a) ?_
 refine qM (vJ b) ?_
 refine qD rfl (jZ (m := 1) [vJ 0, vJ 0] [vJ a, vJ b] [(0, (vJ a), [vJ a]), (1, (vJ b), [vJ b])] dU zr66 rfl sz3 rfl (cM.2 ⟨rfl, (cM.2 ⟨rfl, (fun _ h => by cases h)⟩)⟩) rfl) (qI rfl (yK [vJ 0, vJ 0] zr66 rfl a3.pins (fun b4 w5 cz c0 b7 b8 => ?_)))
 have b9 := a3.step b7 b8
 have c1 := hpk.below b8 b7
 have ca := hpk.new (x := some b4) (fun k hk => by rw [cgA some cz] at hk; cases hk; exact cH _)
 have cb : w.heap.size ≤ b4 := by have := a3.size; omega
 refine q0 rfl rfl rfl (o_stp (cs' := [vJ a, vJ b]) (us := [vJ a, vJ b]) (v := .agg #[vJ a, vJ b]) sz66 rfl rfl rfl (vD (by rfl) (by rfl)) b9.pins c0 (cE rfl) rfl (fun bh c2 cc cd dr => ?_))
 have c3 := b9.write cc cd ((zW cb))
 have c4 := c1.kept cd cc ca
 obtain ⟨bi, c5, ce, a5, c6⟩ := c2.shut c3 cb
 have c7 := c4.more c5 c6 ca
 refine qe (zA (zB (zB ?_)))
 refine yT (S := fun wz => BxR wz p [L, R, B, .map (some mm.f), .map (some mm.o), .map (some mm.c), .map (some mm.s), .map (some mm.n)] ∧ Pins bi wz) (last := 11) (by kernel_rfl) rfl ?_
 have bj := bdr bh
 have cf := ce.pins.below bj
 have ac := ce.step cf bj
 have aa := c7.below bj cf
 refine dT (i := 0) rfl rfl (by kernel_rfl) (fun _ _ => zX (v := vP p) rfl) ⟨aa.bx.reads, ac.pins⟩ ?_
 refine dT (i := 1) rfl rfl (by kernel_rfl) (fun _ _ => yW rfl) ⟨aa.bx.reads, ac.pins⟩ ?_
 refine dT (i := 2) rfl rfl (by kernel_rfl) (fun _ _ => zI (k := 4) rfl dR rfl nz95 rfl) ⟨aa.bx.reads, ac.pins⟩ ?_
 refine dT (i := 3) rfl rfl (by kernel_rfl) (fun _ hS => zJ (u := .map (some mm.o)) ag95 rfl (hS.1 4 _ rfl)) ⟨aa.bx.reads, ac.pins⟩ ?_
 refine dT (i := 4) rfl rfl (by kernel_rfl) (fun _ hS => zU (cs := [vJ a, vJ b]) ag66 sz66 rfl (fun j u hj => hS.2 _ _ _ (a5 _ _ (by simpa using hj)))) ⟨aa.bx.reads, ac.pins⟩ ?_
 refine dP (i := 5) rfl rfl (EO.run (mP (k := ((a, b) : Int × Int)) (kN dU dX sz3) Tryz.underlying95 zr4 aa.fo rfl rfl) ?_)
 refine ⟨fun _ => ⟨aa.bx.reads, ac.pins⟩, ?_⟩
 refine dT (i := 6) rfl rfl (by kernel_rfl) (fun _ _ => zX (v := .tuple #[.bool ((Go.GL.look q.om ((a, b) : Int × Int)).getD false), .bool ((Go.GL.look q.om ((a, b) : Int × Int)).isSome)]) rfl) ⟨aa.bx.reads, ac.pins⟩ ?_
 refine dT (i := 7) rfl rfl (by kernel_rfl) (fun _ _ => yR (v := .bool ((Go.GL.look q.om ((a, b) : Int × Int)).getD false)) rfl rfl) ⟨aa.bx.reads, ac.pins⟩ ?_
 refine dT (i := 8) rfl rfl (by kernel_rfl) (fun _ _ => yR (v := .bool ((Go.GL.look q.om ((a, b) : Int × Int)).isSome)) rfl rfl) ⟨aa.bx.reads, ac.pins⟩ ?_
 refine dT (i := 9) rfl rfl (by kernel_rfl) (fun _ _ => jC (v := .bool ((Go.GL.look q.om ((a, b) : Int × Int)).getD false)) rfl) ⟨aa.bx.reads, ac.pins⟩ ?_
 refine dT (i := 10) rfl rfl (by kernel_rfl) (fun _ _ => jC (v := .bool ((Go.GL.look q.om ((a, b) : Int × Int)).isSome)) rfl) ⟨aa.bx.reads, ac.pins⟩ ?_
 refine yH (by kernel_rfl) (w9a ?_)
 refine qM (.bool ((Go.GL.look q.om ((a, b) : Int × Int)).isSome)) ?_
 refine qe (zA ?_)
 refine c_if rfl rfl (fun cg => ?_) (fun cg => ?_)
 refine w9d ?_
 refine qM (.bool ((Go.GL.look q.om ((a, b) : Int × Int)).getD false)) ?_
 refine qM (.bool ((Go.GL.look q.om ((a, b) : Int × Int)).getD false)) ?_
 refine qe (zA ?_)
 refine cO (zT (zS (v := .bool ((Go.GL.look q.om ((a, b) : Int × Int)).getD false)) rfl rfl rfl ?_))
 obtain ⟨z, hz⟩ := Option.isSome_iff_exists.1 cg
 exact ⟨q, _, cgA eB (by rw [hz]; exact (hok.ord _ _ _ hz).2.2), aa, hok, (PX.refl _), ⟨rfl, rfl⟩, ac⟩
 refine cN (w9a ?_)
 refine qM (.bool true) ?_
 refine qe (zA (w9b ?_))
 refine qM (vP p) ?_
 refine qD rfl (yW rfl) (qD rfl (zI (k := 1) rfl dR rfl nz97 rfl) (qD rfl (zJ (u := R) ag97 rfl (aa.bx.cell (o := 1) rfl)) (qM (vJ a) ?_)))
 refine qD rfl (zE dZ sz40 (v := R) rfl rfl aa.rr.read (by omega) (by omega)) ?_
 obtain ⟨bk, av, c8⟩ := nm_sl (aa.rr.at (z := a) (by omega) (by omega)) (j := (a).toNat) rfl
 rw [mapr_getD] at av
 have ds := av.max
 refine qD rfl (c8 ag40 rfl (cL ac.pins R)) (qD rfl (zN dC (v := bk) rfl av) (qM (vJ 0) ?_))
 refine qe (zA ?_)
 refine zY ?_
 have a6 : (q.ns.getD (a).toNat default).r = (q.ns.getD (a).toNat default).r := rfl
 refine yN (fun k en W => ∃ (aw : Nat → Value) (i : Nat) (g : PSt) (GLr : Pin), en = (upd (upd (upd (upd (upd (upd (upd (upd (upd aw 0 (vP p)) 1 (vJ a)) 2 (vJ b)) 6 (.bool false)) 7 (vP b4)) 10 (.bool true)) 38 bk) 39 (vJ (((q.ns.getD (a).toNat default).r).length : Int))) 40 (vJ (i : Int))) ∧ k = (q.ns.getD (a).toNat default).r.length - i ∧ Ext (inO (some mm.o)) G w GLr W ∧ Pin.le bi GLr ∧ (i ≤ (q.ns.getD (a).toNat default).r.length) ∧ (∀ x, x < i → geB q.ns b ((q.ns.getD (a).toNat default).r.getD x 0) = false) ∧ (Pk 40 3 GLr W p L R B mm g) ∧ (PoolOk g) ∧ (PX q g) ∧ (g.ns = q.ns ∧ g.bs = q.bs)) _ ⟨_, 0, q, bi, (pS 40 (pS 39 (pS 38 (pS 10 (pS 7 (pS 6 (pS 2 (pS 1 (pU 0))))))))), rfl, ac, cJ _, cI _, (fun q hq => absurd hq (cK q)), aa, hok, (PX.refl _), ⟨rfl, rfl⟩⟩ ?_
 rintro dt _ du ⟨aw, i, g, GLr, rfl, dv, ax, ay, hji, hpr, az, a7, a0, t⟩
 have dw := a0.len
 have dx := pkl g
 have dy := pkb a7
 have hlnr := cgA List.length a6
 refine w9d ?_
 refine qD rfl (yQ rfl rfl) (qe (zA (zB ?_)))
 refine yA (p := ((i : Int) : Int) < (((q.ns.getD (a).toNat default).r).length : Int)) rfl rfl (fun c9 => ?_) (fun c9 => ?_)
 have hki := (xI hok.ar.opts (show (a).toNat < q.ns.length by omega)).2 _ (xF (d := (0 : Int)) (show i < (q.ns.getD (a).toNat default).r.length by omega))
 rw [← a6] at hki
 refine cN (zA (zB ?_))
 refine zY (w9d ?_)
 refine qD rfl (zE dC sz3 (v := bk) rfl rfl av (by omega) (by omega)) (qD rfl (zL (r := ((q.ns.getD (a).toNat default).r).getD i 0) rfl ag3 (z := (i : Int)) rfl av (cC ax.pins ay) (by omega) (by omega)) (qM (vJ (((q.ns.getD (a).toNat default).r).getD i 0)) ?_))
 refine qe (w9a ?_)
 refine qM (vP p) ?_
 refine qM (vJ b) ?_
 refine qM (vJ (((q.ns.getD (a).toNat default).r).getD i 0)) ?_
 refine qI rfl (zP (vs := [vP p, vJ b, vJ (((q.ns.getD (a).toNat default).r).getD i 0)]) Tryz.func26 nm26 rfl rfl rfl ?_)
 refine cD (ih ax.pins az a7 ⟨by omega, by omega⟩ ⟨by omega, by omega⟩ (by omega)) ?_
 rintro _ bl ⟨ad, ch, rfl, ci, a8, bm, aq, bn⟩
 refine rt9 ?_
 have bo := ax.trans bn (fun i hi => xD i hi)
 have dz := bm.len
 have d0 := pkl ad
 have d1 := pkb a8
 have d2 := cgA List.length aq.1
 refine qe (zA ?_)
 refine c_if rfl rfl (fun bp => ?_) (fun bp => ?_)
 refine w9d ?_
 refine qM (.bool false) ?_
 refine qe (zA ?_)
 refine cP (s_blkO rfl (zZ (yJ (yI (zA (w9b ?_))))))
 refine qM (.bool false) ?_
 refine qe (zA ?_)
 refine jE rfl rfl (cN (zA (zB ?_)))
 refine yT (S := fun wz => BxR wz p [L, R, B, .map (some mm.f), .map (some mm.o), .map (some mm.c), .map (some mm.s), .map (some mm.n)] ∧ Pins ch wz) (last := 6) (by kernel_rfl) rfl ?_
 have bq := bdr bl
 have cj := bo.pins.below bq
 have aj := bo.step cj bq
 have ak := ci.below bq cj
 refine dT (i := 0) rfl rfl (by kernel_rfl) (fun _ _ => zX (v := vP p) rfl) ⟨ak.bx.reads, aj.pins⟩ ?_
 refine dT (i := 1) rfl rfl (by kernel_rfl) (fun _ _ => yW rfl) ⟨ak.bx.reads, aj.pins⟩ ?_
 refine dT (i := 2) rfl rfl (by kernel_rfl) (fun _ _ => zI (k := 4) rfl dR rfl nz95 rfl) ⟨ak.bx.reads, aj.pins⟩ ?_
 refine dT (i := 3) rfl rfl (by kernel_rfl) (fun _ hS => zJ (u := .map (some mm.o)) ag95 rfl (hS.1 4 _ rfl)) ⟨ak.bx.reads, aj.pins⟩ ?_
 refine dT (i := 4) rfl rfl (by kernel_rfl) (fun _ hS => zU (cs := [vJ a, vJ b]) ag66 sz66 rfl (fun j u hj => (cC hS.2 (cB ay bn.le)) _ _ _ (a5 _ _ (by simpa using hj)))) ⟨ak.bx.reads, aj.pins⟩ ?_
 refine dT (i := 5) rfl rfl (by kernel_rfl) (fun _ _ => zX (v := .bool false) rfl) ⟨ak.bx.reads, aj.pins⟩ ?_
 refine dO (i := 6) (xK (i := 6) rfl rfl rfl (yF rfl _) (vE (val := (fun v : Bool => Value.bool v)) (k := ((a, b) : Int × Int)) (v := false) (kN dU dX sz3) Tryz.underlying95 rfl rfl rfl aj.pins ak.fo (fun d3 da ck cl d4 => ?_)))
 have db := aj.trans (Ext.one ck cl) (fun i hi => xD i hi)
 have cm := ak.setO (Ext.one ck cl) da
 have hgv : geB q.ns a b = false := tF hok.ar.opts ha (i := i) (by omega) (by rw [← a6, ← tE t]; exact bp)
 have a9 := PoolOk.setO a8 (ha.same (xJ t aq)) (hb.same (xJ t aq)) (sK (xJ t aq) hgv)
 obtain ⟨af, br⟩ : ∃ q, q = ({ ad with om := putE ad.om ((a, b) : Int × Int) false } : PSt) := ⟨_, rfl⟩
 rw [← br] at cm a9
 have hq83n : af.ns = ad.ns ∧ af.bs = ad.bs := by rw [br]; exact ⟨rfl, rfl⟩
 have hq83x : PX ad af := by rw [br]; exact ⟨cH _, fun _ _ => rfl, fun _ h => h⟩
 have d5 := pkl af
 have d6 := pkb a9
 have d7 := hq83x.len
 refine ⟨fun h => absurd rfl h, ?_⟩
 refine yH (by kernel_rfl) (w9a ?_)
 refine qM (.bool false) ?_
 refine qM (.bool false) ?_
 refine qe (zA ?_)
 exact cO (zT (zS (v := .bool false) rfl rfl rfl (⟨af, _, cgA eB (hgv.symm), cm, a9, (PX.trans (PX.trans a0 bm) hq83x), (xJ (xJ t aq) hq83n), db⟩)))
 refine cN (w9c ?_)
 refine qD rfl (yO rfl rfl (by omega)) (qM (vJ ((i : Int) + 1)) ?_)
 refine qe (yD (⟨_, ?_, _, rfl, _, i + 1, ad, ch, (pS 40 (pS 39 (pS 38 (pS 10 (pS 7 (pS 6 (pS 2 (pS 1 (pU 0))))))))), rfl, bo, (cB ay bn.le), (by omega), (fun x h2 => if h3 : x = i then h3 ▸ (by rw [← a6, ← tE t]; exact bp) else hpr x (by omega)), ci, a8, (PX.trans a0 bm), (xJ t aq)⟩))
 omega
 refine cP (zZ (yJ (yI (zA (w9b ?_)))))
 refine qM (.bool true) ?_
 refine qe (zA ?_)
 refine xY rfl rfl (w9d ?_)
 refine qM (vP p) ?_
 refine qD rfl (yW rfl) (qD rfl (zI (k := 0) rfl dR rfl nz97 rfl) (qD rfl (zJ (u := L) ag97 rfl (az.bx.cell (o := 0) rfl)) (qM (vJ b) ?_)))
 refine qD rfl (zE dZ sz40 (v := L) rfl rfl az.ol.read (by omega) (by omega)) ?_
 obtain ⟨bt, a1, dd⟩ := nm_sl (az.ol.at (z := b) (by omega) (by omega)) (j := (b).toNat) rfl
 rw [mapl_getD] at a1
 have d8 := a1.max
 refine qD rfl (dd ag40 rfl (cL ax.pins L)) (qD rfl (zN dC (v := bt) rfl a1) (qM (vJ 0) ?_))
 refine qe (zA ?_)
 refine zY ?_
 have ba : (g.ns.getD (b).toNat default).l = (q.ns.getD (b).toNat default).l := by rw [t.1]
 refine yN (fun k en W => ∃ (aw : Nat → Value) (i2 : Nat) (y : PSt) (GLl : Pin), en = (upd (upd (upd (upd (upd (upd (upd (upd aw 0 (vP p)) 1 (vJ a)) 6 (.bool false)) 7 (vP b4)) 10 (.bool true)) 56 bt) 57 (vJ (((g.ns.getD (b).toNat default).l).length : Int))) 58 (vJ (i2 : Int))) ∧ k = (q.ns.getD (b).toNat default).l.length - i2 ∧ Ext (inO (some mm.o)) G w GLl W ∧ Pin.le GLr GLl ∧ (i2 ≤ (q.ns.getD (b).toNat default).l.length) ∧ (∀ x, x < i2 → geB q.ns ((q.ns.getD (b).toNat default).l.getD x 0) a = false) ∧ (Pk 40 3 GLl W p L R B mm y) ∧ (PoolOk y) ∧ (PX g y) ∧ (y.ns = g.ns ∧ y.bs = g.bs)) _ ⟨_, 0, g, GLr, (pS 58 (pS 57 (pS 56 (pS 10 (pS 7 (pS 6 (pS 1 (pU 0)))))))), rfl, ax, cJ _, cI _, (fun q hq => absurd hq (cK q)), az, a7, (PX.refl _), ⟨rfl, rfl⟩⟩ ?_
 rintro d9 _ bu ⟨aw, i2, y, GLl, rfl, ea, a2, bb, eb, hpl, cn, bc, bd, ag⟩
 have ec := bd.len
 have ed := pkl y
 have ee := pkb bc
 have hlnl := cgA List.length ba
 refine w9d ?_
 refine qD rfl (yQ rfl rfl) (qe (zA (zB ?_)))
 refine yA (p := ((i2 : Int) : Int) < (((g.ns.getD (b).toNat default).l).length : Int)) rfl rfl (fun de => ?_) (fun de => ?_)
 have hki := (xI hok.ar.opts (show (b).toNat < q.ns.length by omega)).1 _ (xF (d := (0 : Int)) (show i2 < (q.ns.getD (b).toNat default).l.length by omega))
 rw [← ba] at hki
 refine cN (zA (zB ?_))
 refine zY (w9d ?_)
 refine qD rfl (zE dC sz3 (v := bt) rfl rfl a1 (by omega) (by omega)) (qD rfl (zL (r := ((g.ns.getD (b).toNat default).l).getD i2 0) rfl ag3 (z := (i2 : Int)) rfl a1 (cC a2.pins bb) (by omega) (by omega)) (qM (vJ (((g.ns.getD (b).toNat default).l).getD i2 0)) ?_))
 refine qe (w9a ?_)
 refine qM (vP p) ?_
 refine qM (vJ (((g.ns.getD (b).toNat default).l).getD i2 0)) ?_
 refine qM (vJ a) ?_
 refine qI rfl (zP (vs := [vP p, vJ (((g.ns.getD (b).toNat default).l).getD i2 0), vJ a]) Tryz.func26 nm26 rfl rfl rfl ?_)
 refine cD (ih a2.pins cn bc ⟨by omega, by omega⟩ ⟨by omega, by omega⟩ (by omega)) ?_
 rintro _ bv ⟨ae, co, rfl, cp, be, bw, au, bz⟩
 refine rt9 ?_
 have b0 := a2.trans bz (fun i hi => xD i hi)
 have ef := bw.len
 have eg := pkl ae
 have eh := pkb be
 have ei := cgA List.length au.1
 refine qe (zA ?_)
 refine c_if rfl rfl (fun b1 => ?_) (fun b1 => ?_)
 refine w9d ?_
 refine qM (.bool false) ?_
 refine qe (zA ?_)
 refine cP (s_blkO rfl (zZ (yJ (yI (zA (zB ?_))))))
 refine yT (S := fun wz => BxR wz p [L, R, B, .map (some mm.f), .map (some mm.o), .map (some mm.c), .map (some mm.s), .map (some mm.n)] ∧ Pins co wz) (last := 6) (by kernel_rfl) rfl ?_
 have b2 := bdr bv
 have cq := b0.pins.below b2
 have al := b0.step cq b2
 have am := cp.below b2 cq
 refine dT (i := 0) rfl rfl (by kernel_rfl) (fun _ _ => zX (v := vP p) rfl) ⟨am.bx.reads, al.pins⟩ ?_
 refine dT (i := 1) rfl rfl (by kernel_rfl) (fun _ _ => yW rfl) ⟨am.bx.reads, al.pins⟩ ?_
 refine dT (i := 2) rfl rfl (by kernel_rfl) (fun _ _ => zI (k := 4) rfl dR rfl nz95 rfl) ⟨am.bx.reads, al.pins⟩ ?_
 refine dT (i := 3) rfl rfl (by kernel_rfl) (fun _ hS => zJ (u := .map (some mm.o)) ag95 rfl (hS.1 4 _ rfl)) ⟨am.bx.reads, al.pins⟩ ?_
 refine dT (i := 4) rfl rfl (by kernel_rfl) (fun _ hS => zU (cs := [vJ a, vJ b]) ag66 sz66 rfl (fun j u hj => (cC hS.2 (cB (cB ay bb) bz.le)) _ _ _ (a5 _ _ (by simpa using hj)))) ⟨am.bx.reads, al.pins⟩ ?_
 refine dT (i := 5) rfl rfl (by kernel_rfl) (fun _ _ => zX (v := .bool false) rfl) ⟨am.bx.reads, al.pins⟩ ?_
 refine dO (i := 6) (xK (i := 6) rfl rfl rfl (yF rfl _) (vE (val := (fun v : Bool => Value.bool v)) (k := ((a, b) : Int × Int)) (v := false) (kN dU dX sz3) Tryz.underlying95 rfl rfl rfl al.pins am.fo (fun ej df cr ct ek => ?_)))
 have dg := al.trans (Ext.one cr ct) (fun i hi => xD i hi)
 have cu := am.setO (Ext.one cr ct) df
 have hgv : geB q.ns a b = false := rM hok.ar.opts hb (i := i2) (by omega) (by rw [← ba, ← tE (xJ t ag)]; exact b1)
 have bf := PoolOk.setO be (ha.same (xJ (xJ t ag) au)) (hb.same (xJ (xJ t ag) au)) (sK (xJ (xJ t ag) au) hgv)
 obtain ⟨ah, b3⟩ : ∃ q, q = ({ ae with om := putE ae.om ((a, b) : Int × Int) false } : PSt) := ⟨_, rfl⟩
 rw [← b3] at cu bf
 have hq135n : ah.ns = ae.ns ∧ ah.bs = ae.bs := by rw [b3]; exact ⟨rfl, rfl⟩
 have hq135x : PX ae ah := by rw [b3]; exact ⟨cH _, fun _ _ => rfl, fun _ h => h⟩
 have el := pkl ah
 have em := pkb bf
 have eo := hq135x.len
 refine ⟨fun h => absurd rfl h, ?_⟩
 refine yH (by kernel_rfl) (w9a ?_)
 refine qM (.bool false) ?_
 refine qM (.bool false) ?_
 refine qe (zA ?_)
 exact cO (zT (zS (v := .bool false) rfl rfl rfl (⟨ah, _, cgA eB (hgv.symm), cu, bf, (PX.trans (PX.trans (PX.trans a0 bd) bw) hq135x), (xJ (xJ (xJ t ag) au) hq135n), dg⟩)))
 refine cN (w9c ?_)
 refine qD rfl (yO rfl rfl (by omega)) (qM (vJ ((i2 : Int) + 1)) ?_)
 refine qe (yD (⟨_, ?_, _, rfl, _, i2 + 1, ae, co, (pS 58 (pS 57 (pS 56 (pS 10 (pS 7 (pS 6 (pS 1 (pU 0)))))))), rfl, b0, (cB bb bz.le), (by omega), (fun x h2 => if h3 : x = i2 then h3 ▸ (by rw [← ba, ← tE (xJ t ag)]; exact b1) else hpl x (by omega)), cp, be, (PX.trans bd bw), (xJ ag au)⟩))
 omega
 refine cP (zZ (yJ (yI (zA (zB ?_)))))
 refine yT (S := fun wz => BxR wz p [L, R, B, .map (some mm.f), .map (some mm.o), .map (some mm.c), .map (some mm.s), .map (some mm.n)] ∧ Pins GLl wz) (last := 6) (by kernel_rfl) rfl ?_
 have b5 := bdr bu
 have cv := a2.pins.below b5
 have an := a2.step cv b5
 have ao := cn.below b5 cv
 refine dT (i := 0) rfl rfl (by kernel_rfl) (fun _ _ => zX (v := vP p) rfl) ⟨ao.bx.reads, an.pins⟩ ?_
 refine dT (i := 1) rfl rfl (by kernel_rfl) (fun _ _ => yW rfl) ⟨ao.bx.reads, an.pins⟩ ?_
 refine dT (i := 2) rfl rfl (by kernel_rfl) (fun _ _ => zI (k := 4) rfl dR rfl nz95 rfl) ⟨ao.bx.reads, an.pins⟩ ?_
 refine dT (i := 3) rfl rfl (by kernel_rfl) (fun _ hS => zJ (u := .map (some mm.o)) ag95 rfl (hS.1 4 _ rfl)) ⟨ao.bx.reads, an.pins⟩ ?_
 refine dT (i := 4) rfl rfl (by kernel_rfl) (fun _ hS => zU (cs := [vJ a, vJ b]) ag66 sz66 rfl (fun j u hj => (cC hS.2 (cB ay bb)) _ _ _ (a5 _ _ (by simpa using hj)))) ⟨ao.bx.reads, an.pins⟩ ?_
 refine dT (i := 5) rfl rfl (by kernel_rfl) (fun _ _ => zX (v := .bool true) rfl) ⟨ao.bx.reads, an.pins⟩ ?_
 refine dO (i := 6) (xK (i := 6) rfl rfl rfl (yF rfl _) (vE (val := (fun v : Bool => Value.bool v)) (k := ((a, b) : Int × Int)) (v := true) (kN dU dX sz3) Tryz.underlying95 rfl rfl rfl an.pins ao.fo (fun ep dh cw cx eq => ?_)))
 have di := an.trans (Ext.one cw cx) (fun i hi => xD i hi)
 have cy := ao.setO (Ext.one cw cx) dh
 have hgv : geB q.ns a b = true := geB_yes hok.ar.opts ha hb (fun i hi => hpr i (by omega)) (fun i hi => hpl i (by omega))
 have bg := PoolOk.setO bc (ha.same (xJ t ag)) (hb.same (xJ t ag)) (sK (xJ t ag) hgv)
 obtain ⟨ai, b6⟩ : ∃ q, q = ({ y with om := putE y.om ((a, b) : Int × Int) true } : PSt) := ⟨_, rfl⟩
 rw [← b6] at cy bg
 have hq152n : ai.ns = y.ns ∧ ai.bs = y.bs := by rw [b6]; exact ⟨rfl, rfl⟩
 have hq152x : PX y ai := by rw [b6]; exact ⟨cH _, fun _ _ => rfl, fun _ h => h⟩
 have er := pkl ai
 have es := pkb bg
 have et := hq152x.len
 refine ⟨fun h => absurd rfl h, ?_⟩
 refine yH (by kernel_rfl) (w9a ?_)
 refine qM (.bool true) ?_
 refine qM (.bool true) ?_
 refine qe (zA ?_)
 exact cO (zT (zS (v := .bool true) rfl rfl rfl (⟨ai, _, cgA eB (hgv.symm), cy, bg, (PX.trans (PX.trans a0 bd) hq152x), (xJ (xJ t ag) hq152n), di⟩)))
theorem geP_all {p : Nat} {L R B : Value} {mm : PM} : ∀ m, GeP m p L R B mm
 | 0 => fun _ _ _ _ _ h => absurd h (cK _)
 | m + 1 => fun hP hpk hok ha hb hm => ge_step hP hpk hok ha hb (geP_all m) hm
theorem ge_spec {w : World} (hP : Pins G w) (hpk : Pk 40 3 G w p L R B mm q) (hok : PoolOk q) (ha : PlaceOk q a) (hb : PlaceOk q b) :
  Calls Tryz.prog 26 #[.pointer (some ⟨p, 0, none⟩), .int .i64 a, .int .i64 b] w fun e w' => ∃ (q' : PSt) (G' : Pin), e = .returned (.bool (geB q.ns a b)) ∧ Pk 40 3 G' w' p L R B mm q' ∧ PoolOk q' ∧ PX q q' ∧ (q'.ns = q.ns ∧ q'.bs = q.bs) ∧ Ext (inO (some mm.o)) G w G' w' :=
 geP_all _ hP hpk hok ha hb (Nat.lt_succ_self _)
end PL1
namespace OR1
open B1 C1 D1 E1
def GeqC (m : Nat) (o b : Nat) (bu bv kv : Value) (ns : List Nd) (bs : List Int) : Prop := ∀ {w : World} {G : Pin} {ks : List Int} {x y : Int} (_ : Pins G w) (_ : Od 76 3 G w o b bu bv kv ns bs ks) (_ : 0 ≤ x ∧ x < ns.length) (_ : 0 ≤ y ∧ y < ns.length) (_ : ks.length = ns.length * ns.length), x.toNat + y.toNat < m → KOk ns ks (x.toNat + y.toNat + 1) →
  Calls Tryz.prog 59 #[.pointer (some ⟨o, 0, none⟩), .int .i64 x, .int .i64 y] w fun e w' => ∃ (ks' : List Int) (G' : Pin), e = .returned (.bool (geB ns x y)) ∧ Od 76 3 G' w' o b bu bv kv ns bs ks' ∧ KRes ns ks ks' (x.toNat + y.toNat + 1) ∧ Ext (inO kv.ownBlock) G w G' w'
variable {G : Pin} {m b : Nat} {bu bv kv : Value} {ns : List Nd} {bs ks : List Int} {x y : Int}
theorem look_spec {w : World} {o : Nat} (hP : Pins G w) (hO : Od 76 3 G w o b bu bv kv ns bs ks) (hx : 0 ≤ x ∧ x < ns.length) (hy : 0 ≤ y ∧ y < ns.length) (hkl : ks.length = ns.length * ns.length) (hok : BookOk ns bs) (ih : GeqC m o b bu bv kv ns bs) (hm : x.toNat + y.toNat ≤ m) (hkok : KOk ns ks (x.toNat + y.toNat)) :
  Calls Tryz.prog 76 #[vP o, vJ x, vJ y] w fun e w' => ∃ (ks' : List Int) (G' : Pin), e = .returned (.bool (geB ns x y)) ∧ Od 76 3 G' w' o b bu bv kv ns bs ks' ∧ KRes ns ks ks' (x.toNat + y.toNat) ∧ Ext (inO kv.ownBlock) G w G' w' := by
 refine yC (n := 75) Tryz.func76 Tryz.ntmps76 rfl rfl ?_
 have a4 := exr (inO kv.ownBlock) hP
 have hB := hO.bk
 have hbx := hB.bx
 have hou := hB.ou
 have hov := hB.ov
 have habu := hB.abu
 have habv := hB.abv
 have hauv := hB.auv
 have hlen := hok.len
 have hlim := hok.lim
 have hox := hO.ox
 have a5 := hO.ok
 have haok := hO.aok
 have habk := hO.abk
 have hauk := hO.auk
 have havk := hO.avk
 have hlok : Lo w (inO kv.ownBlock) kv.ownBlock := xD
 have hoo : OptsOk ns := hok.optsOk
 have hlens := hok.lens
 refine w9d ?_
 refine qM (.bool false) ?_
 refine qe (zA (w9b ?_))
 refine qM (vJ 0) ?_
 refine qe (zA ?_)
 refine zY (yN (fun k en W => ∃ (t : Nat → Value) (i : Nat) (kqr : List Int) (GLr : Pin), en = (upd (upd (upd (upd t 0 (vP o)) 1 (vJ x)) 2 (vJ y)) 7 (vJ (i : Int))) ∧ k = (ns.getD (x).toNat default).r.length - i ∧ Ext (inO kv.ownBlock) G w GLr W ∧ Pin.le G GLr ∧ (i ≤ (ns.getD (x).toNat default).r.length) ∧ (KRes ns ks kqr (x.toNat + y.toNat)) ∧ (∀ q, q < i → geB ns y ((ns.getD (x).toNat default).r.getD q 0) = false) ∧ (Own eInt 3 GLr W 0 kv (kqr)) ∧ (Own eNode 76 GLr W 0 bu (ns)) ∧ (Own eInt 3 GLr W 0 bv (bs)) ∧ (Bx GLr W b [bu, bv]) ∧ (Bx GLr W o [vP b, kv])) _ ⟨_, 0, ks, G, (pS 7 (pS 2 (pS 1 (pU 0)))), rfl, a4, cJ _, cI _, (KRes.refl hkok), (fun q hq => absurd hq (cK q)), a5, hou, hov, hbx, hox⟩ ?_)
 rintro k1 _ w2 ⟨t, i, kqr, GLr, rfl, bp, f, a6, hji, hkrr, hpr, am, c, ae, aa, ab⟩
 have hklr := hkrr.len
 refine w9b ?_
 refine qM (vJ (i : Int)) ?_
 refine qM (vP o) ?_
 refine qD rfl (yW rfl) (qD rfl (zI (k := 0) rfl dW rfl nz90 rfl) (qD rfl (zJ (u := vP b) ag90 rfl (ab.cell (o := 0) rfl)) (qD rfl (yW rfl) (qD rfl (zI (k := 0) rfl dK rfl nz24 rfl) (qD rfl (zJ (u := bu) ag24 rfl (aa.cell (o := 0) rfl)) (qM (vJ x) ?_))))))
 refine qD rfl (zE dD sz76 (v := bu) rfl rfl c.read (by omega) (by omega)) (qD rfl (yP (off := 1) dH rfl rfl nz40 (z := x) (k := 0) rfl c.read (by omega) (by omega)) ?_)
 obtain ⟨a7, an, a8⟩ := jA (c.at (z := x) (by omega) (by omega)) (j := (x).toNat) rfl
 have bq := an.max
 refine qD rfl (a8 ag40 rfl (cL f.pins bu)) (qD rfl (zN dC (v := a7) rfl an) (qD rfl (yQ rfl rfl) (qe (zA ?_))))
 refine yA (p := ((i : Int) : Int) < (((ns.getD (x).toNat default).r).length : Int)) rfl rfl (fun a9 => ?_) (fun a9 => ?_)
 have hki := hoo.right (j := (x).toNat) (i := i) (by omega) (by omega)
 refine cN (zA (zB ?_))
 refine zY (w9d ?_)
 refine qM (vP o) ?_
 refine qM (vJ y) ?_
 refine qM (vP o) ?_
 refine qD rfl (yW rfl) (qD rfl (zI (k := 0) rfl dW rfl nz90 rfl) (qD rfl (zJ (u := vP b) ag90 rfl (ab.cell (o := 0) rfl)) (qD rfl (yW rfl) (qD rfl (zI (k := 0) rfl dK rfl nz24 rfl) (qD rfl (zJ (u := bu) ag24 rfl (aa.cell (o := 0) rfl)) (qM (vJ x) ?_))))))
 refine qD rfl (zE dD sz76 (v := bu) rfl rfl c.read (by omega) (by omega)) (qD rfl (yP (off := 1) dH rfl rfl nz40 (z := x) (k := 0) rfl c.read (by omega) (by omega)) ?_)
 obtain ⟨ba, af, bb⟩ := jA (c.at (z := x) (by omega) (by omega)) (j := (x).toNat) rfl
 have br := af.max
 refine qD rfl (bb ag40 rfl (cL f.pins bu)) (qM (vJ (i : Int)) ?_)
 refine qD rfl (zE dC sz3 (v := ba) rfl rfl af (by omega) (by omega)) (qD rfl (zL (r := ((ns.getD (x).toNat default).r).getD i 0) rfl ag3 (z := (i : Int)) rfl af f.pins (by omega) (by omega)) (qI rfl (zP (vs := [vP o, vJ y, vJ (((ns.getD (x).toNat default).r).getD i 0)]) Tryz.func59 nm59 rfl rfl rfl ?_)))
 refine cD (ih f.pins ⟨⟨aa, c, ae, habu, habv, hauv⟩, ab, am, haok, habk, hauk, havk⟩ (by omega) (by omega) (by omega) (by omega) (hkrr.ok.mono (by omega))) ?_
 rintro _ bt ⟨bc, bd, rfl, ao, ag, g⟩
 refine rt9 ?_
 have ap := f.trans g (fun i hi => hlok i hi)
 have aq := c.extS g (notO hauk)
 have ar := ae.extS g (notO havk)
 have au := aa.extS g (xP habk)
 have av := ab.extS g (xP haok)
 have bw := ag.len
 refine qe (zA ?_)
 refine c_if rfl rfl (fun ah => ?_) (fun ah => ?_)
 refine w9d ?_
 refine qM (.bool false) ?_
 refine qe (zA ?_)
 exact cO (zT (zS (v := .bool false) rfl rfl rfl (⟨_, _, cgA eB (tF hoo hx (by omega) ah).symm, ⟨⟨au, aq, ar, habu, habv, hauv⟩, av, ao.ok, haok, habk, hauk, havk⟩, (hkrr.wide ag (by omega)), ap⟩)))
 refine cN (w9c ?_)
 refine qM (vJ (i : Int)) ?_
 refine qD rfl (yO rfl rfl (by omega)) (qM (vJ ((i : Int) + 1)) ?_)
 refine qe (yD (⟨_, ?_, _, rfl, _, i + 1, bc, bd, (pS 7 (pS 2 (pS 1 (pU 0)))), rfl, ap, (cB a6 g.le), (by omega), (hkrr.wide ag (by omega)), (fun q hq => if h3 : q = i then h3 ▸ ah else hpr q (by omega)), ao.ok, aq, ar, au, av⟩))
 omega
 refine cP (zZ (yJ (yI (zA (w9b ?_)))))
 refine qM (vJ 0) ?_
 refine qe (zA ?_)
 refine zY (yN (fun k en W => ∃ (t : Nat → Value) (a : Nat) (kql : List Int) (GLl : Pin), en = (upd (upd (upd (upd t 0 (vP o)) 1 (vJ x)) 2 (vJ y)) 8 (vJ (a : Int))) ∧ k = (ns.getD (y).toNat default).l.length - a ∧ Ext (inO kv.ownBlock) G w GLl W ∧ Pin.le GLr GLl ∧ (a ≤ (ns.getD (y).toNat default).l.length) ∧ (KRes ns ks kql (x.toNat + y.toNat)) ∧ (∀ q, q < a → geB ns ((ns.getD (y).toNat default).l.getD q 0) x = false) ∧ (Own eInt 3 GLl W 0 kv (kql)) ∧ (Own eNode 76 GLl W 0 bu (ns)) ∧ (Own eInt 3 GLl W 0 bv (bs)) ∧ (Bx GLl W b [bu, bv]) ∧ (Bx GLl W o [vP b, kv])) _ ⟨_, 0, kqr, GLr, (pS 8 (pS 2 (pS 1 (pU 0)))), rfl, f, cJ _, cI _, hkrr, (fun q hq => absurd hq (cK q)), am, c, ae, aa, ab⟩ ?_)
 rintro bz _ b0 ⟨t, a, kql, GLl, rfl, b1, h, be, b2, hkrl, hpl, aw, d, ai, ac, ad⟩
 have hkll := hkrl.len
 refine w9b ?_
 refine qM (vJ (a : Int)) ?_
 refine qM (vP o) ?_
 refine qD rfl (yW rfl) (qD rfl (zI (k := 0) rfl dW rfl nz90 rfl) (qD rfl (zJ (u := vP b) ag90 rfl (ad.cell (o := 0) rfl)) (qD rfl (yW rfl) (qD rfl (zI (k := 0) rfl dK rfl nz24 rfl) (qD rfl (zJ (u := bu) ag24 rfl (ac.cell (o := 0) rfl)) (qM (vJ y) ?_))))))
 refine qD rfl (zE dD sz76 (v := bu) rfl rfl d.read (by omega) (by omega)) (qD rfl (yP (off := 0) dH rfl rfl nz40 (z := y) (k := 0) rfl d.read (by omega) (by omega)) ?_)
 obtain ⟨bf, ax, bg⟩ := jD (d.at (z := y) (by omega) (by omega)) (j := (y).toNat) rfl
 have b3 := ax.max
 refine qD rfl (bg ag40 rfl (cL h.pins bu)) (qD rfl (zN dC (v := bf) rfl ax) (qD rfl (yQ rfl rfl) (qe (zA ?_))))
 refine yA (p := ((a : Int) : Int) < (((ns.getD (y).toNat default).l).length : Int)) rfl rfl (fun bh => ?_) (fun bh => ?_)
 have hki := hoo.left (j := (y).toNat) (i := a) (by omega) (by omega)
 refine cN (zA (zB ?_))
 refine zY (w9d ?_)
 refine qM (vP o) ?_
 refine qM (vP o) ?_
 refine qD rfl (yW rfl) (qD rfl (zI (k := 0) rfl dW rfl nz90 rfl) (qD rfl (zJ (u := vP b) ag90 rfl (ad.cell (o := 0) rfl)) (qD rfl (yW rfl) (qD rfl (zI (k := 0) rfl dK rfl nz24 rfl) (qD rfl (zJ (u := bu) ag24 rfl (ac.cell (o := 0) rfl)) (qM (vJ y) ?_))))))
 refine qD rfl (zE dD sz76 (v := bu) rfl rfl d.read (by omega) (by omega)) (qD rfl (yP (off := 0) dH rfl rfl nz40 (z := y) (k := 0) rfl d.read (by omega) (by omega)) ?_)
 obtain ⟨bi, aj, bj⟩ := jD (d.at (z := y) (by omega) (by omega)) (j := (y).toNat) rfl
 have b4 := aj.max
 refine qD rfl (bj ag40 rfl (cL h.pins bu)) (qM (vJ (a : Int)) ?_)
 refine qD rfl (zE dC sz3 (v := bi) rfl rfl aj (by omega) (by omega)) (qD rfl (zL (r := ((ns.getD (y).toNat default).l).getD a 0) rfl ag3 (z := (a : Int)) rfl aj h.pins (by omega) (by omega)) (qM (vJ x) ?_))
 refine qI rfl (zP (vs := [vP o, vJ (((ns.getD (y).toNat default).l).getD a 0), vJ x]) Tryz.func59 nm59 rfl rfl rfl ?_)
 refine cD (ih h.pins ⟨⟨ac, d, ai, habu, habv, hauv⟩, ad, aw, haok, habk, hauk, havk⟩ (by omega) (by omega) (by omega) (by omega) (hkrl.ok.mono (by omega))) ?_
 rintro _ b5 ⟨bl, bm, rfl, ay, ak, s⟩
 refine rt9 ?_
 have az := h.trans s (fun i hi => hlok i hi)
 have a0 := d.extS s (notO hauk)
 have a1 := ai.extS s (notO havk)
 have a2 := ac.extS s (xP habk)
 have a3 := ad.extS s (xP haok)
 have b6 := ak.len
 refine qe (zA ?_)
 refine c_if rfl rfl (fun al => ?_) (fun al => ?_)
 refine w9d ?_
 refine qM (.bool false) ?_
 refine qe (zA ?_)
 exact cO (zT (zS (v := .bool false) rfl rfl rfl (⟨_, _, cgA eB (rM hoo hy (by omega) al).symm, ⟨⟨a2, a0, a1, habu, habv, hauv⟩, a3, ay.ok, haok, habk, hauk, havk⟩, (hkrl.wide ak (by omega)), az⟩)))
 refine cN (w9c ?_)
 refine qM (vJ (a : Int)) ?_
 refine qD rfl (yO rfl rfl (by omega)) (qM (vJ ((a : Int) + 1)) ?_)
 refine qe (yD (⟨_, ?_, _, rfl, _, a + 1, bl, bm, (pS 8 (pS 2 (pS 1 (pU 0)))), rfl, az, (cB be s.le), (by omega), (hkrl.wide ak (by omega)), (fun q hq => if h3 : q = a then h3 ▸ al else hpl q (by omega)), ay.ok, a0, a1, a2, a3⟩))
 omega
 refine cP (zZ (yJ (yI (w9a ?_))))
 refine qM (.bool true) ?_
 refine qe (zA ?_)
 exact cO (zT (zS (v := .bool true) rfl rfl rfl (⟨_, _, cgA eB (geB_yes hoo hx hy (fun q hq => hpr q (by omega)) (fun q hq => hpl q (by omega))).symm, ⟨⟨ac, d, ai, habu, habv, hauv⟩, ad, aw, haok, habk, hauk, havk⟩, hkrl, h⟩)))
theorem geq_step {w : World} {o : Nat} (hP : Pins G w) (hO : Od 76 3 G w o b bu bv kv ns bs ks) (hx : 0 ≤ x ∧ x < ns.length) (hy : 0 ≤ y ∧ y < ns.length) (hkl : ks.length = ns.length * ns.length) (hok : BookOk ns bs) (ih : GeqC m o b bu bv kv ns bs) (hm : x.toNat + y.toNat < m + 1) (hkok : KOk ns ks (x.toNat + y.toNat + 1)) :
  Calls Tryz.prog 59 #[vP o, vJ x, vJ y] w fun e w' => ∃ (ks' : List Int) (G' : Pin), e = .returned (.bool (geB ns x y)) ∧ Od 76 3 G' w' o b bu bv kv ns bs ks' ∧ KRes ns ks ks' (x.toNat + y.toNat + 1) ∧ Ext (inO kv.ownBlock) G w G' w' := by
 refine yC (n := 52) Tryz.func59 Tryz.ntmps59 rfl rfl ?_
 have d := exr (inO kv.ownBlock) hP
 have hB := hO.bk
 have hbx := hB.bx
 have hou := hB.ou
 have hov := hB.ov
 have habu := hB.abu
 have habv := hB.abv
 have hauv := hB.auv
 have hlen := hok.len
 have hlim := hok.lim
 have hox := hO.ox
 have c := hO.ok
 have haok := hO.aok
 have habk := hO.abk
 have hauk := hO.auk
 have havk := hO.avk
 have hlok : Lo w (inO kv.ownBlock) kv.ownBlock := xD
 have hoo : OptsOk ns := hok.optsOk
 have hlens := hok.lens
 have hib := idx_bd hx hy hok.lim
 refine w9d ?_
 refine qM (.bool false) ?_
 refine qe (w9a ?_)
 refine qM (vJ x) ?_
 refine qM (vP o) ?_
 refine qD rfl (yW rfl) (qD rfl (zI (k := 0) rfl dW rfl nz90 rfl) (qD rfl (zJ (u := vP b) ag90 rfl (hox.cell (o := 0) rfl)) (qD rfl (yW rfl) (qD rfl (zI (k := 0) rfl dK rfl nz24 rfl) (qD rfl (zJ (u := bu) ag24 rfl (hbx.cell (o := 0) rfl)) (qD rfl (zN dD (v := bu) rfl hou.read) (qD rfl (r_mul rfl rfl (by omega)) (qM (vJ y) ?_))))))))
 refine qD rfl (yO rfl rfl (by omega)) (qM (vJ ((x * (ns.length : Int)) + y)) ?_)
 refine qe (zA (w9b ?_))
 refine qM (vP o) ?_
 refine qD rfl (yW rfl) (qD rfl (zI (k := 1) rfl dW rfl nz40 rfl) (qD rfl (zJ (u := kv) ag40 rfl (hox.cell (o := 1) rfl)) (qM (vJ ((x * (ns.length : Int)) + y)) ?_)))
 refine qD rfl (zE dC sz3 (v := kv) rfl rfl c.read (by omega) (by omega)) (qD rfl (zL (r := ks.getD ((x * (ns.length : Int)) + y).toNat 0) rfl ag3 (z := (x * (ns.length : Int)) + y) rfl c.read (cL d.pins kv) (by omega) (by omega)) (qD rfl (qL rfl rfl) (qe (zA ?_))))
 refine yA (p := (ks.getD ((x * (ns.length : Int)) + y).toNat 0 : Int) = 0) rfl rfl (fun h1 => ?_) (fun h1 => ?_)
 refine w9d ?_
 refine qM (vP o) ?_
 refine qD rfl (yW rfl) (qD rfl (zI (k := 1) rfl dW rfl nz40 rfl) (qD rfl (zJ (u := kv) ag40 rfl (hox.cell (o := 1) rfl)) (qM (vJ ((x * (ns.length : Int)) + y)) ?_)))
 refine qD rfl (zE dC sz3 (v := kv) rfl rfl c.read (by omega) (by omega)) (q0 rfl rfl rfl (qU (E := eInt) (v := kv) (u := vJ 2) (z := (x * (ns.length : Int)) + y) (2) sz3 rfl rfl rfl rfl d.pins c (by omega) (by omega) (fun w2 an ao f az => ?_)))
 have ac := d.write ao f (hlok)
 have ad := hou.keptA f hauk
 have ae := hov.keptA f havk
 have af := hbx.keptA f habk
 have ag := hox.keptA f haok
 have ap : Own eInt 3 G w2 0 kv ((ks).set ((x * (ns.length : Int)) + y).toNat 2) := an
 have a0 : ((ks).set ((x * (ns.length : Int)) + y).toNat 2).length = ks.length := cS ..
 refine qe (w9a ?_)
 refine qM (vP o) ?_
 refine qM (vJ x) ?_
 refine qM (vJ y) ?_
 refine qI rfl (zP (vs := [vP o, vJ x, vJ y]) Tryz.func76 nm76 rfl rfl rfl ?_)
 refine cD (look_spec ac.pins ⟨⟨af, ad, ae, habu, habv, hauv⟩, ag, ap, haok, habk, hauk, havk⟩ hx hy (by rw [cS]; exact hkl) hok ih (by omega) (KRes.prov hx hy hkok).1) ?_
 rintro _ a1 ⟨a, aq, rfl, g, s, h⟩
 refine rt9 ?_
 have l := ac.trans h (fun i hi => hlok i hi)
 have ah := ad.extS h (notO hauk)
 have ai := ae.extS h (notO havk)
 have aj := af.extS h (xP habk)
 have q := ag.extS h (xP haok)
 have a2 := s.len
 refine qe (zA ?_)
 refine c_if rfl rfl (fun t => ?_) (fun t => ?_)
 refine zC (qM (vP o) ?_)
 refine qD rfl (yW rfl) (qD rfl (zI (k := 1) rfl dW rfl nz40 rfl) (qD rfl (zJ (u := kv) ag40 rfl (q.cell (o := 1) rfl)) (qM (vJ ((x * (ns.length : Int)) + y)) ?_)))
 refine qD rfl (zE dC sz3 (v := kv) rfl rfl g.ok.read (by omega) (by omega)) (q0 rfl rfl rfl (qU (E := eInt) (v := kv) (u := vJ 1) (z := (x * (ns.length : Int)) + y) (1) sz3 rfl rfl rfl rfl l.pins g.ok (by omega) (by omega) (fun ar au av j a3 => ?_)))
 have ak := l.write av j (hlok)
 have aw := ah.keptA j hauk
 have ax := ai.keptA j havk
 have ay := aj.keptA j habk
 have al := q.keptA j haok
 have aa : Own eInt 3 aq ar 0 kv ((a).set ((x * (ns.length : Int)) + y).toNat 1) := au
 have a4 : ((a).set ((x * (ns.length : Int)) + y).toNat 1).length = a.length := cS ..
 refine qe (w9a ?_)
 refine qM (vP o) ?_
 refine qD rfl (yW rfl) (qD rfl (zI (k := 1) rfl dW rfl nz40 rfl) (qD rfl (zJ (u := kv) ag40 rfl (al.cell (o := 1) rfl)) (qM (vJ ((x * (ns.length : Int)) + y)) ?_)))
 refine qD rfl (zE dC sz3 (v := kv) rfl rfl aa.read (by omega) (by omega)) (qD rfl (zL (r := ((a).set ((x * (ns.length : Int)) + y).toNat 1).getD ((x * (ns.length : Int)) + y).toNat 0) rfl ag3 (z := (x * (ns.length : Int)) + y) rfl aa.read (cL ak.pins kv) (by omega) (by omega)) (qD rfl (qL rfl rfl) (qM (.bool (decide ((((a).set ((x * (ns.length : Int)) + y).toNat 1).getD ((x * (ns.length : Int)) + y).toNat 0 : Int) = 1))) ?_)))
 refine qe (zA ?_)
 refine cO (zT (zS (v := .bool (decide ((((a).set ((x * (ns.length : Int)) + y).toNat 1).getD ((x * (ns.length : Int)) + y).toNat 0 : Int) = 1))) rfl rfl rfl ?_))
 have htold := KRes.told hx hy hkl hkok s (if_pos t).symm
 exact ⟨_, _, cgA eB htold.2, ⟨⟨ay, aw, ax, habu, habv, hauv⟩, al, aa, haok, habk, hauk, havk⟩, htold.1, ak⟩
 refine cN (w9a ?_)
 refine qM (vP o) ?_
 refine qD rfl (yW rfl) (qD rfl (zI (k := 1) rfl dW rfl nz40 rfl) (qD rfl (zJ (u := kv) ag40 rfl (q.cell (o := 1) rfl)) (qM (vJ ((x * (ns.length : Int)) + y)) ?_)))
 refine qD rfl (zE dC sz3 (v := kv) rfl rfl g.ok.read (by omega) (by omega)) (qD rfl (zL (r := a.getD ((x * (ns.length : Int)) + y).toNat 0) rfl ag3 (z := (x * (ns.length : Int)) + y) rfl g.ok.read (cL l.pins kv) (by omega) (by omega)) (qD rfl (qL rfl rfl) (qM (.bool (decide ((a.getD ((x * (ns.length : Int)) + y).toNat 0 : Int) = 1))) ?_)))
 refine qe (zA ?_)
 refine cO (zT (zS (v := .bool (decide ((a.getD ((x * (ns.length : Int)) + y).toNat 0 : Int) = 1))) rfl rfl rfl ?_))
 have htold := KRes.told hx hy hkl hkok s (if_neg (by rw [t]; decide)).symm
 exact ⟨_, _, cgA eB htold.2, ⟨⟨aj, ah, ai, habu, habv, hauv⟩, q, g.ok, haok, habk, hauk, havk⟩, htold.1, l⟩
 refine cN (w9a ?_)
 refine qM (vP o) ?_
 refine qD rfl (yW rfl) (qD rfl (zI (k := 1) rfl dW rfl nz40 rfl) (qD rfl (zJ (u := kv) ag40 rfl (hox.cell (o := 1) rfl)) (qM (vJ ((x * (ns.length : Int)) + y)) ?_)))
 refine qD rfl (zE dC sz3 (v := kv) rfl rfl c.read (by omega) (by omega)) (qD rfl (zL (r := ks.getD ((x * (ns.length : Int)) + y).toNat 0) rfl ag3 (z := (x * (ns.length : Int)) + y) rfl c.read (cL d.pins kv) (by omega) (by omega)) (qD rfl (qL rfl rfl) (qM (.bool (decide ((ks.getD ((x * (ns.length : Int)) + y).toNat 0 : Int) = 1))) ?_)))
 refine qe (zA ?_)
 exact cO (zT (zS (v := .bool (decide ((ks.getD ((x * (ns.length : Int)) + y).toNat 0 : Int) = 1))) rfl rfl rfl (⟨_, _, cgA eB (KOk.known hx hy hkok h1), ⟨⟨hbx, hou, hov, habu, habv, hauv⟩, hox, c, haok, habk, hauk, havk⟩, KRes.refl hkok, d⟩)))
theorem geq_all {o b : Nat} {bu bv kv : Value} {ns : List Nd} {bs : List Int} (hok : BookOk ns bs) : ∀ m, GeqC m o b bu bv kv ns bs
 | 0 => fun _ _ _ _ _ h _ => absurd h (cK _)
 | m + 1 => fun hP hO hx hy hkl hm hk => geq_step hP hO hx hy hkl hok (geq_all hok m) hm hk
theorem geq_spec {w : World} {o : Nat} (hP : Pins G w) (hO : Od 76 3 G w o b bu bv kv ns bs ks) (hx : 0 ≤ x ∧ x < ns.length) (hy : 0 ≤ y ∧ y < ns.length) (hkl : ks.length = ns.length * ns.length) (hok : BookOk ns bs) (hkok : KOk ns ks (x.toNat + y.toNat + 1)) :
  Calls Tryz.prog 59 #[.pointer (some ⟨o, 0, none⟩), .int .i64 x, .int .i64 y] w fun e w' => ∃ (ks' : List Int) (G' : Pin), e = .returned (.bool (geB ns x y)) ∧ Od 76 3 G' w' o b bu bv kv ns bs ks' ∧ KRes ns ks ks' (x.toNat + y.toNat + 1) ∧ Ext (inO kv.ownBlock) G w G' w' :=
 geq_all hok _ hP hO hx hy hkl (Nat.lt_succ_self _) hkok
end OR1
namespace SF1
open B1 C1 D1 E1 OR1
theorem mk3 : (Tryz.prog.info? 3).map (fun i => (i.size, i.bytes, i.zero)) = some (1, 8, some (.int .i64 0)) := by kernel_rfl
theorem pl117 : (Tryz.prog.underlying 117).bind (placesD Tryz.prog) = some [(0, 1), (1, 1)] := by kernel_rfl
theorem pl92 : (Tryz.prog.underlying 92).bind (placesD Tryz.prog) = some [(0, 1), (1, 1)] := by kernel_rfl
variable {G : Pin}
theorem pT {w : World} {b : Nat} {bu bv : Value} {ns : List Nd} {bs : List Int} (hP : Pins G w) (hB : Bk 76 3 G w b bu bv ns bs) (hok : BookOk ns bs) :
  Calls Tryz.prog 58 #[vP b] w fun e w' => ∃ (o : Nat) (kv : Value) (G' : Pin), e = .returned (vP o) ∧ Bx G' w' o [.pointer (some ⟨b, 0, none⟩), kv] ∧ Own eInt 3 G' w' w.heap.size kv (List.replicate (ns.length * ns.length) 0) ∧ w.heap.size ≤ o ∧ Apart (some o) kv.ownBlock ∧ Ext noS G w G' w' := by
 refine yC (n := 18) Tryz.func58 Tryz.ntmps58 rfl rfl ?_
 have j := exr noS hP
 have hbx := hB.bx
 have hou := hB.ou
 have hov := hB.ov
 have habu := hB.abu
 have habv := hB.abv
 have hauv := hB.auv
 have hlen := hok.len
 have hlim := hok.lim
 have hsq := sq_bd hok.lim
 refine w9d ?_
 refine qM (.pointer none) ?_
 refine qe (zA (zB ?_))
 have aa := cL j.pins bu
 have x := hou.read
 refine yT (S := fun wz => BxR wz b [bu, bv] ∧ Pins (Gadd G w bu) wz) (last := 16) (by kernel_rfl) rfl ?_
 have f := bdr w
 have ab := j.pins.below f
 have l := j.step ab f
 have a := hbx.below f
 have c := aa.below f
 refine dT (i := 0) rfl rfl (by kernel_rfl) (fun _ _ => zX (v := vP b) rfl) ⟨a.reads, c⟩ ?_
 refine dT (i := 1) rfl rfl (by kernel_rfl) (fun _ _ => zX (v := vP b) rfl) ⟨a.reads, c⟩ ?_
 refine dT (i := 2) rfl rfl (by kernel_rfl) (fun _ _ => yW rfl) ⟨a.reads, c⟩ ?_
 refine dT (i := 3) rfl rfl (by kernel_rfl) (fun _ _ => zI (k := 0) rfl dK rfl nz24 rfl) ⟨a.reads, c⟩ ?_
 refine dT (i := 4) rfl rfl (by kernel_rfl) (fun _ hS => zJ (u := bu) ag24 rfl (hS.1 0 _ rfl)) ⟨a.reads, c⟩ ?_
 refine dT (i := 5) rfl rfl (by kernel_rfl) (fun _ _ => zN dD (v := bu) rfl x) ⟨a.reads, c⟩ ?_
 refine dT (i := 6) rfl rfl (by kernel_rfl) (fun _ _ => zX (v := vP b) rfl) ⟨a.reads, c⟩ ?_
 refine dT (i := 7) rfl rfl (by kernel_rfl) (fun _ _ => yW rfl) ⟨a.reads, c⟩ ?_
 refine dT (i := 8) rfl rfl (by kernel_rfl) (fun _ _ => zI (k := 0) rfl dK rfl nz24 rfl) ⟨a.reads, c⟩ ?_
 refine dT (i := 9) rfl rfl (by kernel_rfl) (fun _ hS => zJ (u := bu) ag24 rfl (hS.1 0 _ rfl)) ⟨a.reads, c⟩ ?_
 refine dT (i := 10) rfl rfl (by kernel_rfl) (fun _ _ => zN dD (v := bu) rfl x) ⟨a.reads, c⟩ ?_
 refine dT (i := 11) rfl rfl (by kernel_rfl) (fun _ _ => r_mul rfl rfl (by omega)) ⟨a.reads, c⟩ ?_
 refine dP (i := 12) rfl rfl (vH (E := eInt) 0 8 (vJ 0) dC mk3 (fun _ => rfl) rfl rfl l.pins (by omega) (by omega) (by omega) (fun d ac ad ae m am => ?_))
 have p := l.step ae m
 have q := a.below m
 have r : Own eInt 3 G ac w.heap.size d (List.replicate ((ns.length : Int) * (ns.length : Int)).toNat 0) := ad.weaken l.size
 have an : (List.replicate ((ns.length : Int) * (ns.length : Int)).toNat 0).length = ((ns.length : Int) * (ns.length : Int)).toNat := List.length_replicate ..
 have s := c.below m
 refine ⟨fun _ => ⟨q.reads, s⟩, ?_⟩
 refine dT (i := 13) rfl rfl (by kernel_rfl) (fun _ _ => xH [.pointer none, vN] [vP b, d] [(0, (vP b), [vP b]), (1, d, [d])] dW zr117 rfl pl117 rfl (cM.2 ⟨rfl, (cM.2 ⟨(yX r.one), (fun _ h => by cases h)⟩)⟩) rfl) ⟨q.reads, s⟩ ?_
 refine dP (i := 14) rfl rfl (xL [vP b, d] (v := .agg #[vP b, d]) rfl rfl p.pins (fun t ao af ag ah g => ?_))
 have ai := p.step ah g
 have aj := r.below g
 have y := q.below g
 have ak := zG (cgA some af) r.lt
 have al : w.heap.size ≤ t := by have := p.size; omega
 have z := s.below g
 refine ⟨fun _ => ⟨y.reads, z⟩, ?_⟩
 refine dT (i := 15) rfl rfl (by kernel_rfl) (fun _ _ => jC (v := vP t) rfl) ⟨y.reads, z⟩ ?_
 refine yH (by kernel_rfl) (zA (cO (zT (zS (v := vP t) rfl rfl rfl ?_))))
 have hrow := aj
 rw [sq_nat] at hrow
 exact ⟨_, _, _, rfl, ag, hrow, al, ak, ai⟩
theorem jU {w : World} {u v : Value} {ax bs : List Nd} (hP : Pins G w) (hu : RSl eNode G u ax) (hv : RSl eNode G v bs) (ha : FormOk ax ∧ 1 ≤ ax.length) (hb : FormOk bs ∧ 1 ≤ bs.length) (hl : ax.length + bs.length ≤ 1048576) :
  Calls Tryz.prog 30 [.agg #[u], .agg #[v]].toArray w fun e w' => ∃ G', e = .returned (.bool (decP (geG (gOf ax) (gOf bs)))) ∧ Ext noS G w G' w' := by
 refine yC (n := 21) Tryz.func30 Tryz.ntmps30 rfl rfl ?_
 have p := exr noS hP
 have g := jF qJ ha.1 (by simp; omega)
 have hlen := g.hi
 simp only [List.length_nil, cR] at hlen
 have k := jF g.book hb.1 (by omega)
 have aj := gT g ha.2
 have ak := gT k hb.2
 have b0 := k.lo
 have hge := ge_roots ha hb hl _ _ rfl rfl
 refine w9d ?_
 refine qI rfl (xL [u] (v := .agg #[u]) rfl rfl p.pins (fun b1 w2 b3 am an ao => ?_))
 have ap := p.step an ao
 have aq : w.heap.size ≤ b1 := by have := p.size; omega
 obtain ⟨G9, ac, q, ar, b5⟩ := am.shut ap aq
 refine qI rfl (xL [v] (v := .agg #[v]) rfl rfl q.pins (fun au b6 b7 av aw ay => ?_))
 have az := q.step aw ay
 have a0 : w.heap.size ≤ au := by have := q.size; omega
 obtain ⟨b8, r, s, a1, b9⟩ := av.shut az a0
 refine qM (.bool false) ?_
 refine qe (w9a ?_)
 refine qD rfl (xH [vN, vN] [vN, vN] [] dK zr92 rfl pl92 rfl (fun _ h => by cases h) rfl) (qI rfl (xL [vN, vN] (v := .agg #[vN, vN]) rfl rfl s.pins (fun a ca cb a2 a3 a4 => ?_)))
 have d := s.step a3 a4
 have ad : w.heap.size ≤ a := by have := s.size; omega
 refine qM (vP a) ?_
 refine qe (w9a ?_)
 refine qM (vP a) ?_
 refine qD rfl (zU (cs := [u]) ag26 sz26 rfl (fun j u hj => (cC d.pins r) _ _ _ (ar _ _ (by simpa using hj)))) (qI rfl (zP (vs := [vP a, .agg #[u]]) Tryz.func52 nm52 rfl rfl rfl ?_))
 refine cD (jK d.pins ⟨a2, (Own.nil _ _ _ _ _), (Own.nil _ _ _ _ _), apart_none.symm, apart_none.symm, apart_none⟩ qJ (hu.mono (cB ac r)) ha (by first | omega | (simp; omega))) ?_
 rintro _ cc ⟨a5, a6, cd, rfl, b, t, a7, a8⟩
 refine rt9 ?_
 have x : ∀ i, inS a vN vN i → w.heap.size ≤ i ∨ noS i := kH (zW ad) (kD _ _) (kD _ _)
 have f := d.trans t x
 have a9 := b.bx
 have ba := b.ou
 have bb := b.ov
 have bc := b.abu
 have bd := b.abv
 have be := b.auv
 have bf := xT a7 x d.size
 have bg := xT a8 x d.size
 refine qM (vJ (rootM ([]) ([]) ax)) ?_
 refine qe (w9a ?_)
 refine qM (vP a) ?_
 refine qD rfl (zU (cs := [v]) ag26 sz26 rfl (fun j u hj => (cC f.pins t.le) _ _ _ (a1 _ _ (by simpa using hj)))) (qI rfl (zP (vs := [vP a, .agg #[v]]) Tryz.func52 nm52 rfl rfl rfl ?_))
 refine cD (jK f.pins ⟨a9, ba, bb, bc, bd, be⟩ g.book (hv.mono (cB (cB ac r) t.le)) hb (by first | omega | (simp; omega))) ?_
 rintro _ ce ⟨cf, cg, ch, rfl, c, bh, bi, bj⟩
 refine rt9 ?_
 have y : ∀ i, inS a a5 a6 i → w.heap.size ≤ i ∨ noS i := kH (zW ad) bf bg
 have l := f.trans bh y
 have z := c.bx
 have aa := c.ou
 have ab := c.ov
 have ae := c.abu
 have af := c.abv
 have ag := c.auv
 have ci := xT bi y f.size
 have cj := xT bj y f.size
 refine qM (vJ (rootM ((addM ([]) ([]) ax).2.1) ((addM ([]) ([]) ax).2.2) bs)) ?_
 refine qe (w9a ?_)
 refine qM (vP a) ?_
 refine qI rfl (zP (vs := [vP a]) Tryz.func58 nm58 rfl rfl rfl ?_)
 refine cD (pT l.pins ⟨z, aa, ab, ae, af, ag⟩ k.book) ?_
 rintro _ ck ⟨bk, cl, cm, rfl, bl, m, bm, bn, o⟩
 refine rt9 ?_
 have ah := l.tr o
 have bo := aa.ext o
 have bp := ab.ext o
 have bq := z.ext o
 have br := zR m.lt aa.lt
 have bt := zR m.lt ab.lt
 have bu := zV m.lt z.lt
 have cn := cQ l.size bm
 have ai := m.weaken l.size
 refine qM (vJ (rootM ([]) ([]) ax)) ?_
 refine qM (vJ (rootM ((addM ([]) ([]) ax).2.1) ((addM ([]) ([]) ax).2.2) bs)) ?_
 refine qI rfl (zP (vs := [vP bk, vJ (rootM ([]) ([]) ax), vJ (rootM ((addM ([]) ([]) ax).2.1) ((addM ([]) ([]) ax).2.2) bs)]) Tryz.func59 nm59 rfl rfl rfl ?_)
 refine cD (geq_spec ah.pins ⟨⟨bq, bo, bp, ae, af, ag⟩, bl, (ai.weaken (cI _)), bn, bu.symm, br.symm, bt.symm⟩ ⟨aj.1, by omega⟩ ak (by simp) k.book KOk.zero) ?_
 rintro _ co ⟨cp, cq, rfl, cr, bv, bw⟩
 refine rt9 ?_
 have bz := ah.trans bw (fun i hi => (yE ai) i hi)
 have ct := bv.len
 refine qM (.bool (geB ((addM ((addM ([]) ([]) ax).2.1) ((addM ([]) ([]) ax).2.2) bs).2.1) (rootM ([]) ([]) ax) (rootM ((addM ([]) ([]) ax).2.1) ((addM ([]) ([]) ax).2.2) bs))) ?_
 refine qe (zA ?_)
 exact cO (zT (zS (v := .bool (geB ((addM ((addM ([]) ([]) ax).2.1) ((addM ([]) ([]) ax).2.2) bs).2.1) (rootM ([]) ([]) ax) (rootM ((addM ([]) ([]) ax).2.1) ((addM ([]) ([]) ax).2.2) bs))) rfl rfl rfl (⟨_, cgA eB hge.1, bz⟩)))
end SF1
namespace P1
open B1 C1 E1
theorem eg66 : (Tryz.prog.eqGuardType Tryz.prog.depth 66) = false := by kernel_rfl
variable {G : Pin} {u v cr cl : Value} {ns bs : List Nd} {x y : Int} {ps : List Cl}
theorem gC {w : World} (hP : Pins G w) (hu : RSl eNode G u ns) (hv : RSl eNode G v bs) (hx : 0 ≤ x ∧ x < ns.length) (hy : 0 ≤ y ∧ y < bs.length) (hs : (ns.getD x.toNat default).l.length ≤ 1048576 ∧ (bs.getD y.toNat default).r.length ≤ 1048576) :
  Calls Tryz.prog 46 #[u, v, vJ x, vJ y] w fun e w' => ∃ (u : Value) (G' : Pin), e = .returned u ∧ Own eP2 66 G' w' w.heap.size u (rightsP ns bs x y) ∧ Ext noS G w G' w' := by
 refine yC (n := 50) Tryz.func46 Tryz.ntmps46 rfl rfl ?_
 have aa := exr noS hP
 refine w9d ?_
 refine qM vN ?_
 refine qe (w9a ?_)
 refine qI rfl (xB (E := eP2) (e := 66) dV sz66 aa.pins (fun u1 w2 au av aw bj => ?_))
 have ag := aa.step av aw
 have ax := au.weaken aa.size
 refine qM u1 ?_
 refine qe (zA (w9b ?_))
 refine qM u ?_
 refine qM (vJ x) ?_
 refine qD rfl (zE dD sz76 (v := u) rfl rfl hu (by omega) (by omega)) (qD rfl (yP (off := 0) dH rfl rfl nz40 (z := x) (k := 0) rfl hu (by omega) (by omega)) ?_)
 obtain ⟨u9, i, ay⟩ := jD (hu.at (z := x) (by omega) (by omega)) (j := (x).toNat) rfl
 have bk := i.max
 refine qD rfl (ay ag40 rfl ag.pins) (qD rfl (zN dC (v := u9) rfl i) (qM (vJ 0) ?_))
 refine qe (zA ?_)
 refine zY (yN (fun k en W => ∃ (d : Nat → Value) (j : Nat) (o : Value) (os : List (Int × Int)), en = (upd (upd (upd (upd (upd (upd (upd (upd d 1 v) 2 (vJ x)) 3 (vJ y)) 8 vN) 9 o) 19 u9) 20 (vJ (((ns.getD (x).toNat default).l).length : Int))) 21 (vJ (j : Int))) ∧ k = (ns.getD x.toNat default).l.length - j ∧ Ext noS G w G W ∧ (j ≤ (ns.getD x.toNat default).l.length) ∧ (os = ((ns.getD x.toNat default).l.take j).map (fun l => (l, y))) ∧ (os.length = j) ∧ (Own eP2 66 G W w.heap.size o (os))) _ ⟨_, 0, u1, [], (pS 21 (pS 20 (pS 19 (pS 9 (pS 8 (pS 3 (pS 2 (pU 1)))))))), rfl, ag, cI _, rfl, rfl, ax⟩ ?_)
 rintro bl _ bm ⟨d, j, o, os, rfl, bn, c, hj, hr, hol, ah⟩
 refine w9d ?_
 refine qD rfl (yQ rfl rfl) (qe (zA (zB ?_)))
 refine yA (p := ((j : Int) : Int) < (((ns.getD (x).toNat default).l).length : Int)) rfl rfl (fun az => ?_) (fun az => ?_)
 refine cN (zA (zB ?_))
 refine zY (w9d ?_)
 refine qD rfl (zE dC sz3 (v := u9) rfl rfl i (by omega) (by omega)) (qD rfl (zL (r := ((ns.getD (x).toNat default).l).getD j 0) rfl ag3 (z := (j : Int)) rfl i c.pins (by omega) (by omega)) (qM (vJ (((ns.getD (x).toNat default).l).getD j 0)) ?_))
 refine qe (zA (zC ?_))
 refine qM o ?_
 refine qM (vJ (((ns.getD (x).toNat default).l).getD j 0)) ?_
 refine qM (vJ y) ?_
 refine qD rfl (jZ (m := 1) [vJ 0, vJ 0] [vJ (((ns.getD (x).toNat default).l).getD j 0), vJ y] [(0, (vJ (((ns.getD (x).toNat default).l).getD j 0)), [vJ (((ns.getD (x).toNat default).l).getD j 0)]), (1, (vJ y), [vJ y])] dU zr66 rfl sz3 rfl (cM.2 ⟨rfl, (cM.2 ⟨rfl, (fun _ h => by cases h)⟩)⟩) rfl) (qI rfl (xE (E := eP2) (e := 66) [vJ (((ns.getD (x).toNat default).l).getD j 0), vJ y] (((ns.getD (x).toNat default).l).getD j 0, y) dV sz66 zr66 rfl rfl (by decide) c.pins (fun ai a0 a1 a2 aj bo => ?_)))
 have ad := c.step a2 aj
 have ak := ah.below aj
 have a3 := a1.weaken c.size
 refine qI rfl (oA (E := eP2) (v := o) (u := ai) 16 dV ap66 (by decide) rfl rfl ad.pins ak a3.src (ad.size) (fun al bp a4 a5 a6 bq => ?_))
 have a7 := ad.write a5 a6 ((yE ak))
 have br := la1 os (((ns.getD (x).toNat default).l).getD j 0, y)
 refine qM al ?_
 refine qe (w9c ?_)
 refine qD rfl (yO rfl rfl (by omega)) (qM (vJ ((j : Int) + 1)) ?_)
 refine qe (yD (⟨_, ?_, _, rfl, _, j + 1, al, os ++ [((ns.getD x.toNat default).l.getD j 0, y)], (pS 21 (pS 20 (pS 19 (pS 9 (pS 8 (pS 3 (pS 2 (pU 1)))))))), rfl, a7, (by omega), (by rw [hr]; exact vF (f := (fun l => (l, y))) 0 (by omega)), (by rw [List.length_append, hol]; rfl), a4⟩))
 omega
 refine cP (zZ (yJ (yI (zA (w9b ?_)))))
 refine qM v ?_
 refine qM (vJ y) ?_
 refine qD rfl (zE dD sz76 (v := v) rfl rfl hv (by omega) (by omega)) (qD rfl (yP (off := 1) dH rfl rfl nz40 (z := y) (k := 0) rfl hv (by omega) (by omega)) ?_)
 obtain ⟨ae, s, a8⟩ := jA (hv.at (z := y) (by omega) (by omega)) (j := (y).toNat) rfl
 have bt := s.max
 refine qD rfl (a8 ag40 rfl c.pins) (qD rfl (zN dC (v := ae) rfl s) (qM (vJ 0) ?_))
 refine qe (zA ?_)
 refine zY (yN (fun k en W => ∃ (d : Nat → Value) (q : Nat) (a : Value) (b : List (Int × Int)), en = (upd (upd (upd (upd (upd (upd d 2 (vJ x)) 8 vN) 9 a) 36 ae) 37 (vJ (((bs.getD (y).toNat default).r).length : Int))) 38 (vJ (q : Int))) ∧ k = (bs.getD y.toNat default).r.length - q ∧ Ext noS G w G W ∧ (q ≤ (bs.getD y.toNat default).r.length) ∧ (b = os ++ ((bs.getD y.toNat default).r.take q).map (fun k => (x, k))) ∧ (b.length = j + q) ∧ (Own eP2 66 G W w.heap.size a (b))) _ ⟨_, 0, o, os, (pS 38 (pS 37 (pS 36 (pS 9 (pS 8 (pU 2)))))), rfl, c, cI _, (by simp), hol, ah⟩ ?_)
 rintro bu _ bv ⟨d, q, a, b, rfl, bw, g, hq, t, a9, am⟩
 refine w9d ?_
 refine qD rfl (yQ rfl rfl) (qe (zA (zB ?_)))
 refine yA (p := ((q : Int) : Int) < (((bs.getD (y).toNat default).r).length : Int)) rfl rfl (fun ba => ?_) (fun ba => ?_)
 refine cN (zA (zB ?_))
 refine zY (w9d ?_)
 refine qD rfl (zE dC sz3 (v := ae) rfl rfl s (by omega) (by omega)) (qD rfl (zL (r := ((bs.getD (y).toNat default).r).getD q 0) rfl ag3 (z := (q : Int)) rfl s g.pins (by omega) (by omega)) (qM (vJ (((bs.getD (y).toNat default).r).getD q 0)) ?_))
 refine qe (zA (zC ?_))
 refine qM a ?_
 refine qM (vJ x) ?_
 refine qM (vJ (((bs.getD (y).toNat default).r).getD q 0)) ?_
 refine qD rfl (jZ (m := 1) [vJ 0, vJ 0] [vJ x, vJ (((bs.getD (y).toNat default).r).getD q 0)] [(0, (vJ x), [vJ x]), (1, (vJ (((bs.getD (y).toNat default).r).getD q 0)), [vJ (((bs.getD (y).toNat default).r).getD q 0)])] dU zr66 rfl sz3 rfl (cM.2 ⟨rfl, (cM.2 ⟨rfl, (fun _ h => by cases h)⟩)⟩) rfl) (qI rfl (xE (E := eP2) (e := 66) [vJ x, vJ (((bs.getD (y).toNat default).r).getD q 0)] (x, ((bs.getD (y).toNat default).r).getD q 0) dV sz66 zr66 rfl rfl (by decide) g.pins (fun an bb bc bd ao bx => ?_)))
 have af := g.step bd ao
 have ap := am.below ao
 have be := bc.weaken g.size
 refine qI rfl (oA (E := eP2) (v := a) (u := an) 16 dV ap66 (by decide) rfl rfl af.pins ap be.src (af.size) (fun aq bz bf bg bh b0 => ?_))
 have bi := af.write bg bh ((yE ap))
 have b1 := la1 b (x, ((bs.getD (y).toNat default).r).getD q 0)
 refine qM aq ?_
 refine qe (w9c ?_)
 refine qD rfl (yO rfl rfl (by omega)) (qM (vJ ((q : Int) + 1)) ?_)
 refine qe (yD (⟨_, ?_, _, rfl, _, q + 1, aq, b ++ [(x, (bs.getD y.toNat default).r.getD q 0)], (pS 38 (pS 37 (pS 36 (pS 9 (pS 8 (pU 2)))))), rfl, bi, (by omega), (by rw [t, List.append_assoc]; exact cgA (os ++ ·) (vF (f := (fun k => (x, k))) 0 (by omega))), (by rw [List.length_append, a9]; rfl), bf⟩))
 omega
 refine cP (zZ (yJ (yI (w9a ?_))))
 refine qM a ?_
 refine qM a ?_
 refine qe (zA ?_)
 refine cO (zT (zS (v := a) rfl rfl rfl ?_))
 rw [qK (by omega)] at hr t
 rw [hr] at t
 exact ⟨_, _, rfl, (by unfold rightsP; rw [← t]; exact am), g⟩
theorem gX {w : World} (hP : Pins G w) (hu : RSl eNode G u ns) (hv : RSl eNode G v bs) (hx : 0 ≤ x ∧ x < ns.length) (hy : 0 ≤ y ∧ y < bs.length) (hs : (ns.getD x.toNat default).l.length ≤ 1048576 ∧ (bs.getD y.toNat default).r.length ≤ 1048576) :
  Calls Tryz.prog 47 #[u, v, vJ x, vJ y] w fun e w' => ∃ (u : Value) (G' : Pin), e = .returned u ∧ Own eP2 66 G' w' w.heap.size u (leftsP ns bs x y) ∧ Ext noS G w G' w' := by
 refine yC (n := 50) Tryz.func47 Tryz.ntmps47 rfl rfl ?_
 have aa := exr noS hP
 refine w9d ?_
 refine qM vN ?_
 refine qe (w9a ?_)
 refine qI rfl (xB (E := eP2) (e := 66) dV sz66 aa.pins (fun u1 w2 au av aw bj => ?_))
 have ag := aa.step av aw
 have ax := au.weaken aa.size
 refine qM u1 ?_
 refine qe (zA (w9b ?_))
 refine qM u ?_
 refine qM (vJ x) ?_
 refine qD rfl (zE dD sz76 (v := u) rfl rfl hu (by omega) (by omega)) (qD rfl (yP (off := 0) dH rfl rfl nz40 (z := x) (k := 0) rfl hu (by omega) (by omega)) ?_)
 obtain ⟨u9, i, ay⟩ := jD (hu.at (z := x) (by omega) (by omega)) (j := (x).toNat) rfl
 have bk := i.max
 refine qD rfl (ay ag40 rfl ag.pins) (qD rfl (zN dC (v := u9) rfl i) (qM (vJ 0) ?_))
 refine qe (zA ?_)
 refine zY (yN (fun k en W => ∃ (d : Nat → Value) (j : Nat) (o : Value) (os : List (Int × Int)), en = (upd (upd (upd (upd (upd (upd (upd (upd d 1 v) 2 (vJ x)) 3 (vJ y)) 8 vN) 9 o) 19 u9) 20 (vJ (((ns.getD (x).toNat default).l).length : Int))) 21 (vJ (j : Int))) ∧ k = (ns.getD x.toNat default).l.length - j ∧ Ext noS G w G W ∧ (j ≤ (ns.getD x.toNat default).l.length) ∧ (os = ((ns.getD x.toNat default).l.take j).map (fun k => (k, y))) ∧ (os.length = j) ∧ (Own eP2 66 G W w.heap.size o (os))) _ ⟨_, 0, u1, [], (pS 21 (pS 20 (pS 19 (pS 9 (pS 8 (pS 3 (pS 2 (pU 1)))))))), rfl, ag, cI _, rfl, rfl, ax⟩ ?_)
 rintro bl _ bm ⟨d, j, o, os, rfl, bn, c, hj, hr, hol, ah⟩
 refine w9d ?_
 refine qD rfl (yQ rfl rfl) (qe (zA (zB ?_)))
 refine yA (p := ((j : Int) : Int) < (((ns.getD (x).toNat default).l).length : Int)) rfl rfl (fun az => ?_) (fun az => ?_)
 refine cN (zA (zB ?_))
 refine zY (w9d ?_)
 refine qD rfl (zE dC sz3 (v := u9) rfl rfl i (by omega) (by omega)) (qD rfl (zL (r := ((ns.getD (x).toNat default).l).getD j 0) rfl ag3 (z := (j : Int)) rfl i c.pins (by omega) (by omega)) (qM (vJ (((ns.getD (x).toNat default).l).getD j 0)) ?_))
 refine qe (zA (zC ?_))
 refine qM o ?_
 refine qM (vJ (((ns.getD (x).toNat default).l).getD j 0)) ?_
 refine qM (vJ y) ?_
 refine qD rfl (jZ (m := 1) [vJ 0, vJ 0] [vJ (((ns.getD (x).toNat default).l).getD j 0), vJ y] [(0, (vJ (((ns.getD (x).toNat default).l).getD j 0)), [vJ (((ns.getD (x).toNat default).l).getD j 0)]), (1, (vJ y), [vJ y])] dU zr66 rfl sz3 rfl (cM.2 ⟨rfl, (cM.2 ⟨rfl, (fun _ h => by cases h)⟩)⟩) rfl) (qI rfl (xE (E := eP2) (e := 66) [vJ (((ns.getD (x).toNat default).l).getD j 0), vJ y] (((ns.getD (x).toNat default).l).getD j 0, y) dV sz66 zr66 rfl rfl (by decide) c.pins (fun ai a0 a1 a2 aj bo => ?_)))
 have ad := c.step a2 aj
 have ak := ah.below aj
 have a3 := a1.weaken c.size
 refine qI rfl (oA (E := eP2) (v := o) (u := ai) 16 dV ap66 (by decide) rfl rfl ad.pins ak a3.src (ad.size) (fun al bp a4 a5 a6 bq => ?_))
 have a7 := ad.write a5 a6 ((yE ak))
 have br := la1 os (((ns.getD (x).toNat default).l).getD j 0, y)
 refine qM al ?_
 refine qe (w9c ?_)
 refine qD rfl (yO rfl rfl (by omega)) (qM (vJ ((j : Int) + 1)) ?_)
 refine qe (yD (⟨_, ?_, _, rfl, _, j + 1, al, os ++ [((ns.getD x.toNat default).l.getD j 0, y)], (pS 21 (pS 20 (pS 19 (pS 9 (pS 8 (pS 3 (pS 2 (pU 1)))))))), rfl, a7, (by omega), (by rw [hr]; exact vF (f := (fun k => (k, y))) 0 (by omega)), (by rw [List.length_append, hol]; rfl), a4⟩))
 omega
 refine cP (zZ (yJ (yI (zA (w9b ?_)))))
 refine qM v ?_
 refine qM (vJ y) ?_
 refine qD rfl (zE dD sz76 (v := v) rfl rfl hv (by omega) (by omega)) (qD rfl (yP (off := 1) dH rfl rfl nz40 (z := y) (k := 0) rfl hv (by omega) (by omega)) ?_)
 obtain ⟨ae, s, a8⟩ := jA (hv.at (z := y) (by omega) (by omega)) (j := (y).toNat) rfl
 have bt := s.max
 refine qD rfl (a8 ag40 rfl c.pins) (qD rfl (zN dC (v := ae) rfl s) (qM (vJ 0) ?_))
 refine qe (zA ?_)
 refine zY (yN (fun k en W => ∃ (d : Nat → Value) (q : Nat) (a : Value) (b : List (Int × Int)), en = (upd (upd (upd (upd (upd (upd d 2 (vJ x)) 8 vN) 9 a) 36 ae) 37 (vJ (((bs.getD (y).toNat default).r).length : Int))) 38 (vJ (q : Int))) ∧ k = (bs.getD y.toNat default).r.length - q ∧ Ext noS G w G W ∧ (q ≤ (bs.getD y.toNat default).r.length) ∧ (b = os ++ ((bs.getD y.toNat default).r.take q).map (fun r => (x, r))) ∧ (b.length = j + q) ∧ (Own eP2 66 G W w.heap.size a (b))) _ ⟨_, 0, o, os, (pS 38 (pS 37 (pS 36 (pS 9 (pS 8 (pU 2)))))), rfl, c, cI _, (by simp), hol, ah⟩ ?_)
 rintro bu _ bv ⟨d, q, a, b, rfl, bw, g, hq, t, a9, am⟩
 refine w9d ?_
 refine qD rfl (yQ rfl rfl) (qe (zA (zB ?_)))
 refine yA (p := ((q : Int) : Int) < (((bs.getD (y).toNat default).r).length : Int)) rfl rfl (fun ba => ?_) (fun ba => ?_)
 refine cN (zA (zB ?_))
 refine zY (w9d ?_)
 refine qD rfl (zE dC sz3 (v := ae) rfl rfl s (by omega) (by omega)) (qD rfl (zL (r := ((bs.getD (y).toNat default).r).getD q 0) rfl ag3 (z := (q : Int)) rfl s g.pins (by omega) (by omega)) (qM (vJ (((bs.getD (y).toNat default).r).getD q 0)) ?_))
 refine qe (zA (zC ?_))
 refine qM a ?_
 refine qM (vJ x) ?_
 refine qM (vJ (((bs.getD (y).toNat default).r).getD q 0)) ?_
 refine qD rfl (jZ (m := 1) [vJ 0, vJ 0] [vJ x, vJ (((bs.getD (y).toNat default).r).getD q 0)] [(0, (vJ x), [vJ x]), (1, (vJ (((bs.getD (y).toNat default).r).getD q 0)), [vJ (((bs.getD (y).toNat default).r).getD q 0)])] dU zr66 rfl sz3 rfl (cM.2 ⟨rfl, (cM.2 ⟨rfl, (fun _ h => by cases h)⟩)⟩) rfl) (qI rfl (xE (E := eP2) (e := 66) [vJ x, vJ (((bs.getD (y).toNat default).r).getD q 0)] (x, ((bs.getD (y).toNat default).r).getD q 0) dV sz66 zr66 rfl rfl (by decide) g.pins (fun an bb bc bd ao bx => ?_)))
 have af := g.step bd ao
 have ap := am.below ao
 have be := bc.weaken g.size
 refine qI rfl (oA (E := eP2) (v := a) (u := an) 16 dV ap66 (by decide) rfl rfl af.pins ap be.src (af.size) (fun aq bz bf bg bh b0 => ?_))
 have bi := af.write bg bh ((yE ap))
 have b1 := la1 b (x, ((bs.getD (y).toNat default).r).getD q 0)
 refine qM aq ?_
 refine qe (w9c ?_)
 refine qD rfl (yO rfl rfl (by omega)) (qM (vJ ((q : Int) + 1)) ?_)
 refine qe (yD (⟨_, ?_, _, rfl, _, q + 1, aq, b ++ [(x, (bs.getD y.toNat default).r.getD q 0)], (pS 38 (pS 37 (pS 36 (pS 9 (pS 8 (pU 2)))))), rfl, bi, (by omega), (by rw [t, List.append_assoc]; exact cgA (os ++ ·) (vF (f := (fun r => (x, r))) 0 (by omega))), (by rw [List.length_append, a9]; rfl), bf⟩))
 omega
 refine cP (zZ (yJ (yI (w9a ?_))))
 refine qM a ?_
 refine qM a ?_
 refine qe (zA ?_)
 refine cO (zT (zS (v := a) rfl rfl rfl ?_))
 rw [qK (by omega)] at hr t
 rw [hr] at t
 exact ⟨_, _, rfl, (by unfold leftsP; rw [← t]; exact am), g⟩
theorem pIndex_spec {w : World} {l : List (Int × Int)} (hP : Pins G w) (hv : RSl eP2 G v l) :
  Calls Tryz.prog 78 [v, .agg #[vJ x, vJ y]].toArray w fun e w' => ∃ G', e = .returned (vJ (idxG ((x, y) : Int × Int) 0 l)) ∧ Ext noS G w G' w' := by
 refine yC (n := 19) Tryz.func78 Tryz.ntmps78 rfl rfl ?_
 have b := exr noS hP
 have hm := hv.max
 refine w9d ?_
 refine qI rfl (xL [vJ x, vJ y] (v := .agg #[vJ x, vJ y]) rfl rfl b.pins (fun h w2 ak r s t => ?_))
 have aa := b.step s t
 have ab : w.heap.size ≤ h := by have := b.size; omega
 obtain ⟨m, ac, ad, ae, al⟩ := r.shut aa ab
 refine qM (vJ 0) ?_
 refine qe (zA (w9b ?_))
 refine qM v ?_
 refine qD rfl (zN dV (v := v) rfl hv) (qM (vJ 0) ?_)
 refine qe (zA ?_)
 refine zY (yN (fun k en W => ∃ (o : Nat → Value) (j : Nat), en = (upd (upd (upd (upd o 0 v) 3 (vP h)) 7 (vJ (l.length : Int))) 8 (vJ (j : Int))) ∧ k = l.length - j ∧ Ext noS G w m W ∧ (j ≤ l.length) ∧ (idxG ((x, y) : Int × Int) 0 l = idxG (x, y) j (l.drop j))) _ ⟨_, 0, (pS 8 (pS 7 (pS 3 (pU 0)))), rfl, ad, cI _, rfl⟩ ?_)
 rintro am _ c ⟨o, j, rfl, an, f, hj, hr⟩
 refine w9d ?_
 refine qD rfl (yQ rfl rfl) (qe (zA (zB ?_)))
 refine yA (p := ((j : Int) : Int) < (l.length : Int)) rfl rfl (fun af => ?_) (fun af => ?_)
 refine cN (zA (zB ?_))
 refine zY (w9d ?_)
 refine qM (vJ (j : Int)) ?_
 refine qM (vJ (j : Int)) ?_
 refine qe (zA (zB ?_))
 refine yT (S := fun wz => Pins m wz) (last := 6) (by kernel_rfl) rfl ?_
 have q := bdr c
 have ag := f.pins.below q
 have a := f.step ag q
 refine dT (i := 0) rfl rfl (by kernel_rfl) (fun _ hS => zU (cs := [vJ x, vJ y]) ag66 sz66 rfl (fun j u hj => hS _ _ _ (ae _ _ (by simpa using hj)))) a.pins ?_
 refine dM 1 v a.pins ?_
 refine dM 2 (vJ (j : Int)) a.pins ?_
 refine dT (i := 3) rfl rfl (by kernel_rfl) (fun _ _ => zE dV sz66 (v := v) rfl rfl hv (by omega) (by omega)) a.pins ?_
 obtain ⟨ao, ah, ai, ap⟩ := qE (j := j) default (hv.at (z := (j : Int)) (by omega) (by omega)) rfl
 obtain rfl := ah
 refine dT (i := 4) rfl rfl (by kernel_rfl) (fun _ hS => ai ag66 sz66 rfl (cC hS ac)) a.pins ?_
 refine dT (i := 5) rfl rfl (by kernel_rfl) (fun _ _ => r_eqlP dU dX sz3 eg66 rfl rfl) a.pins ?_
 refine yH (by kernel_rfl) (zA (yA (p := ((x, y) : Int × Int) = ((l.getD j default).1, (l.getD j default).2)) rfl rfl (fun g => ?_) (fun g => ?_)))
 refine w9d ?_
 refine qM (vJ (j : Int)) ?_
 refine qM (vJ (j : Int)) ?_
 refine qe (zA ?_)
 exact cO (zT (zS (v := vJ (j : Int)) rfl rfl rfl (⟨_, cgA eI ((hr.trans (idxG_hit (d := default) (by omega) g)).symm), a⟩)))
 refine cN (w9c ?_)
 refine qD rfl (yO rfl rfl (by omega)) (qM (vJ ((j : Int) + 1)) ?_)
 refine qe (yD (⟨_, ?_, _, rfl, _, j + 1, (pS 8 (pS 7 (pS 3 (pU 0)))), rfl, a, (by omega), (hr.trans (idxG_next (d := default) (by omega) g))⟩))
 omega
 refine cP (zZ (yJ (yI (w9a ?_))))
 refine qM (vJ (-1)) ?_
 refine qe (zA ?_)
 exact cO (zT (zS (v := vJ (-1)) rfl rfl rfl (⟨_, cgA eI ((hr.trans (idxG_end (by omega))).symm), f⟩)))
theorem mU {w : World} {l : List (Int × Int)} (hP : Pins G w) (hv : RSl eP2 G v l) :
  Calls Tryz.prog 69 [v, .agg #[.int .i64 x, .int .i64 y]].toArray w fun e w' => ∃ G', e = .returned (.bool (decide ((x, y) ∈ l))) ∧ Ext noS G w G' w' := by
 refine yC (n := 9) Tryz.func69 Tryz.ntmps69 rfl rfl ?_
 have a := exr noS hP
 refine w9d ?_
 refine qI rfl (xL [.int .i64 x, .int .i64 y] (v := .agg #[.int .i64 x, .int .i64 y]) rfl rfl a.pins (fun c q r d f g => ?_))
 have h := a.step f g
 have i : w.heap.size ≤ c := by have := a.size; omega
 obtain ⟨s, k, b, m, t⟩ := d.shut h i
 refine qM (.bool false) ?_
 refine qe (w9a ?_)
 refine qM v ?_
 refine qD rfl (zU (cs := [.int .i64 x, .int .i64 y]) ag66 sz66 rfl (fun j u hj => b.pins _ _ _ (m _ _ (by simpa using hj)))) (qI rfl (zP (vs := [v, .agg #[.int .i64 x, .int .i64 y]]) Tryz.func78 nm78 rfl rfl rfl ?_))
 refine cD (pIndex_spec b.pins (hv.mono k)) ?_
 rintro _ z ⟨aa, rfl, o⟩
 refine rt9 ?_
 have p := b.tr o
 refine qD rfl (vI rfl rfl) (qM (.bool (decide ((0 : Int) ≤ (idxG ((x, y) : Int × Int) 0 l)))) ?_)
 refine qe (zA ?_)
 exact cO (zT (zS (v := .bool (decide ((0 : Int) ≤ (idxG ((x, y) : Int × Int) 0 l)))) rfl rfl rfl (⟨_, cgA eB (decide_eq_decide.2 (idxG_mem (by omega))), p⟩)))
theorem tJ {w : World} {pl bf : Int} {l : List (Int × Int)} (hP : Pins G w) (hu : RSl eClaim G u ps) (hv : RSl eP2 G v l) (hb : bf ≤ ps.length) :
  Calls Tryz.prog 45 [.agg #[u], vJ pl, vJ bf, v].toArray w fun e w' => ∃ G', e = .returned (.bool (decP (AnsP ps pl bf l))) ∧ Ext noS G w G' w' := by
 refine yC (n := 31) Tryz.func45 Tryz.ntmps45 rfl rfl ?_
 have f := exr noS hP
 refine w9d ?_
 refine qI rfl (xL [u] (v := .agg #[u]) rfl rfl f.pins (fun y g av aa ab ac => ?_))
 have ad := f.step ab ac
 have ae : w.heap.size ≤ y := by have := f.size; omega
 obtain ⟨G9, o, d, s, aw⟩ := aa.shut ad ae
 refine qM (.bool false) ?_
 refine qe (zA (w9b ?_))
 refine qM (vJ pl) ?_
 refine qD rfl (yQ rfl rfl) (qM (.bool (decide ((pl : Int) < 0))) ?_)
 refine qbd (p := (pl : Int) < 0) (t := 11) rfl (fun ag => ?_) (fun ag => ?_)
 refine qW ?_
 refine qW ?_
 refine qW ?_
 refine qD rfl (yL (v := .bool true) rfl rfl) (qe (zA ?_))
 refine xY rfl rfl (w9d ?_)
 refine qM (.bool false) ?_
 refine qe (zA ?_)
 exact cO (zT (zS (v := .bool false) rfl rfl rfl (⟨_, cgA eB (decP_false.2 (fun a => by have h1 := a.1; have h2 := a.2.1; omega)).symm, d⟩)))
 refine qN (zX (v := vJ pl) rfl) ?_
 refine qN (zX (v := vJ bf) rfl) ?_
 refine qN (vI rfl rfl) ?_
 refine qD rfl (yM (v := .bool (decide ((bf : Int) ≤ pl))) rfl rfl) (qe (zA ?_))
 refine yA (p := (bf : Int) ≤ pl) rfl rfl (fun aj => ?_) (fun aj => ?_)
 refine w9d ?_
 refine qM (.bool false) ?_
 refine qe (zA ?_)
 exact cO (zT (zS (v := .bool false) rfl rfl rfl (⟨_, cgA eB (decP_false.2 (fun a => by have h1 := a.1; have h2 := a.2.1; omega)).symm, d⟩)))
 refine cN (zA (zB ?_))
 refine yT (S := fun wz => Pins G9 wz) (last := 16) (by kernel_rfl) rfl ?_
 have x := bdr g
 have ak := d.pins.below x
 have c := d.step ak x
 refine dM 0 v c.pins ?_
 refine dT (i := 1) rfl rfl (by kernel_rfl) (fun _ _ => zI (k := 0) rfl dI rfl nz27 rfl) c.pins ?_
 refine dT (i := 2) rfl rfl (by kernel_rfl) (fun _ hS => zJ (u := u) ag27 rfl (hS _ _ _ (s 0 _ rfl))) c.pins ?_
 refine dM 3 (vJ pl) c.pins ?_
 refine dT (i := 4) rfl rfl (by kernel_rfl) (fun _ _ => zE dG sz53 (v := u) rfl rfl hu (by omega) (by omega)) c.pins ?_
 refine dT (i := 5) rfl rfl (by kernel_rfl) (fun _ _ => yP (off := 0) dE rfl rfl nz3 (z := pl) (k := 0) rfl hu (by omega) (by omega)) c.pins ?_
 obtain ⟨ax, al, ay, am⟩ := qE (j := (pl).toNat) default (hu.at (z := pl) (by omega) (by omega)) rfl
 obtain ⟨az, a0, rfl, an, ao⟩ := al
 have a1 := an.max
 have a2 := ao.max
 refine dT (i := 6) rfl rfl (by kernel_rfl) (fun _ hS => am 0 _ rfl ag3 rfl (cC hS o)) c.pins ?_
 refine dT (i := 7) rfl rfl (by kernel_rfl) (fun _ _ => zI (k := 0) rfl dI rfl nz27 rfl) c.pins ?_
 refine dT (i := 8) rfl rfl (by kernel_rfl) (fun _ hS => zJ (u := u) ag27 rfl (hS _ _ _ (s 0 _ rfl))) c.pins ?_
 refine dM 9 (vJ pl) c.pins ?_
 refine dT (i := 10) rfl rfl (by kernel_rfl) (fun _ _ => zE dG sz53 (v := u) rfl rfl hu (by omega) (by omega)) c.pins ?_
 refine dT (i := 11) rfl rfl (by kernel_rfl) (fun _ _ => yP (off := 1) dE rfl rfl nz3 (z := pl) (k := 0) rfl hu (by omega) (by omega)) c.pins ?_
 obtain ⟨a3, ap, a4, aq⟩ := qE (j := (pl).toNat) default (hu.at (z := pl) (by omega) (by omega)) rfl
 obtain ⟨a5, a6, rfl, ar, au⟩ := ap
 have a7 := ar.max
 have a8 := au.max
 refine dT (i := 12) rfl rfl (by kernel_rfl) (fun _ hS => aq 1 _ rfl ag3 rfl (cC hS o)) c.pins ?_
 refine dT (i := 13) rfl rfl (by kernel_rfl) (fun _ _ => jZ (m := 1) [vJ 0, vJ 0] [vJ ((ps.getD (pl).toNat default).a), vJ ((ps.getD (pl).toNat default).b)] [(0, (vJ ((ps.getD (pl).toNat default).a)), [vJ ((ps.getD (pl).toNat default).a)]), (1, (vJ ((ps.getD (pl).toNat default).b)), [vJ ((ps.getD (pl).toNat default).b)])] dU zr66 rfl sz3 rfl (cM.2 ⟨rfl, (cM.2 ⟨rfl, (fun _ h => by cases h)⟩)⟩) rfl) c.pins ?_
 refine dP (i := 14) rfl rfl (zP (vs := [v, .agg #[vJ ((ps.getD (pl).toNat default).a), vJ ((ps.getD (pl).toNat default).b)]]) Tryz.func69 nm69 rfl rfl rfl ?_)
 refine cD (mU c.pins (hv.mono o)) ?_
 rintro _ a9 ⟨ba, rfl, q⟩
 refine rt9 ?_
 have r := c.tr q
 refine ⟨fun _ => (cC r.pins q.le), ?_⟩
 refine dM 15 (.bool (decide (((ps.getD (pl).toNat default).a, (ps.getD (pl).toNat default).b) ∈ l))) (cC r.pins q.le) ?_
 refine yH (by kernel_rfl) (zA (cO (zT (zS (v := .bool (decide (((ps.getD (pl).toNat default).a, (ps.getD (pl).toNat default).b) ∈ l))) rfl rfl rfl (⟨_, cgA eB ?_, r⟩)))))
 by_cases hm : prC (ps.getD pl.toNat default) ∈ l
 ·exact (decide_eq_true hm).trans (decP_true.2 ⟨by omega, by omega, hm⟩).symm
 ·exact (decide_eq_false hm).trans (decP_false.2 (fun a => hm a.2.2)).symm
theorem gG {w : World} {x : Value} {kz : Int} (hP : Pins G w) (hu : RSl eClaim G u ps) (ha : RSl eNode G v ns) (hb : RSl eNode G x bs) (hk : 0 ≤ kz ∧ kz < ps.length) (hga : GoodP ns) (hgb : GoodP bs) :
  Calls Tryz.prog 20 [.agg #[u], vJ kz, v, x].toArray w fun e w' => ∃ G', e = .returned (.bool (decP (RightP ns bs ps kz.toNat))) ∧ Ext noS G w G' w' := by
 refine yC (n := 115) Tryz.func20 Tryz.ntmps20 rfl rfl ?_
 have a3 := exr noS hP
 refine w9d ?_
 refine qI rfl (xL [u] (v := .agg #[u]) rfl rfl a3.pins (fun b1 w2 cy bo bp bq => ?_))
 have br := a3.step bp bq
 have bt : w.heap.size ≤ b1 := by have := a3.size; omega
 obtain ⟨G9, s, ak, a5, c0⟩ := bo.shut br bt
 refine qM (.bool false) ?_
 refine qe (w9a ?_)
 refine qD rfl (zI (k := 0) rfl dI rfl nz27 rfl) (qD rfl (zJ (u := u) ag27 rfl (ak.pins _ _ _ (a5 0 _ rfl))) (qM (vJ kz) ?_))
 refine qD rfl (zE dG sz53 (v := u) rfl rfl hu (by omega) (by omega)) ?_
 obtain ⟨c1, bu, bv, c2⟩ := qE (j := (kz).toNat) default (hu.at (z := kz) (by omega) (by omega)) rfl
 obtain ⟨af, ag, rfl, al, am⟩ := bu
 have c3 := al.max
 have c4 := am.max
 refine qD rfl (bv ag53 sz53 rfl (cC ak.pins s)) (qI rfl (yK [vJ 0, vJ 0, vN, vN] zr53 rfl ak.pins (fun a6 c5 c6 bw bx bz => ?_)))
 have bd := ak.step bx bz
 have be : w.heap.size ≤ a6 := by have := ak.size; omega
 refine q0 rfl rfl rfl (o_stp (cs' := [vJ ((ps.getD (kz).toNat default).a), vJ ((ps.getD (kz).toNat default).b), af, ag]) (us := [vJ ((ps.getD (kz).toNat default).a), vJ ((ps.getD (kz).toNat default).b), af, ag]) (v := .agg #[vJ ((ps.getD (kz).toNat default).a), vJ ((ps.getD (kz).toNat default).b), af, ag]) sz53 rfl rfl rfl (jS (by rfl) (by rfl) al.one am.one) bd.pins bw (cE rfl) rfl (fun a7 b0 b2 b3 c7 => ?_))
 have b4 := bd.write b2 b3 ((zW be))
 obtain ⟨a8, o, ab, aa, c8⟩ := b0.shut b4 be
 refine qe (zA (w9b ?_))
 refine qD rfl (zI (k := 0) rfl dE rfl nz3 rfl) (qD rfl (zJ (u := vJ ((ps.getD (kz).toNat default).a)) ag3 rfl (ab.pins _ _ _ (aa 0 _ rfl))) (qD rfl (yQ rfl rfl) (qM (.bool (decide (((ps.getD (kz).toNat default).a : Int) < 0))) ?_)))
 refine qbd (p := ((ps.getD (kz).toNat default).a : Int) < 0) (t := 24) rfl (fun b5 => ?_) (fun b5 => ?_)
 refine qW ?_
 refine qW ?_
 refine qW ?_
 refine qW ?_
 refine qW ?_
 refine qD rfl (yL (v := .bool true) rfl rfl) (qM (.bool true) ?_)
 refine qW ?_
 refine qW ?_
 refine qW ?_
 refine qD rfl (yL (v := .bool true) rfl rfl) (qM (.bool true) ?_)
 refine qW ?_
 refine qW ?_
 refine qW ?_
 refine qW ?_
 refine qW ?_
 refine qD rfl (yL (v := .bool true) rfl rfl) (qe (zA ?_))
 refine xY rfl rfl (w9d ?_)
 refine qM (.bool false) ?_
 refine qe (zA ?_)
 exact cO (zT (zS (v := .bool false) rfl rfl rfl (⟨_, cgA eB (decP_false.2 (fun g => by have h1 := g.ra; have h2 := g.rb; have h3 := g.hr; have h4 := g.hl; omega)).symm, ab⟩)))
 refine qN (zI (k := 0) rfl dE rfl nz3 rfl) ?_
 refine qN (zJ (u := vJ ((ps.getD (kz).toNat default).a)) ag3 rfl (ab.pins _ _ _ (aa 0 _ rfl))) ?_
 refine qN (zX (v := v) rfl) ?_
 refine qN (zN dD (v := v) rfl ha) ?_
 refine qN (vI rfl rfl) ?_
 refine qD rfl (yM (v := .bool (decide (((ns.length : Int) : Int) ≤ ((ps.getD (kz).toNat default).a)))) rfl rfl) (qM (.bool (decide (((ns.length : Int) : Int) ≤ ((ps.getD (kz).toNat default).a)))) ?_)
 refine qbd (p := ((ns.length : Int) : Int) ≤ ((ps.getD (kz).toNat default).a)) (t := 31) rfl (fun b6 => ?_) (fun b6 => ?_)
 refine qW ?_
 refine qW ?_
 refine qW ?_
 refine qD rfl (yL (v := .bool true) rfl rfl) (qM (.bool true) ?_)
 refine qW ?_
 refine qW ?_
 refine qW ?_
 refine qW ?_
 refine qW ?_
 refine qD rfl (yL (v := .bool true) rfl rfl) (qe (zA ?_))
 refine xY rfl rfl (w9d ?_)
 refine qM (.bool false) ?_
 refine qe (zA ?_)
 exact cO (zT (zS (v := .bool false) rfl rfl rfl (⟨_, cgA eB (decP_false.2 (fun g => by have h1 := g.ra; have h2 := g.rb; have h3 := g.hr; have h4 := g.hl; omega)).symm, ab⟩)))
 refine qN (zI (k := 1) rfl dE rfl nz3 rfl) ?_
 refine qN (zJ (u := vJ ((ps.getD (kz).toNat default).b)) ag3 rfl (ab.pins _ _ _ (aa 1 _ rfl))) ?_
 refine qN (yQ rfl rfl) ?_
 refine qD rfl (yM (v := .bool (decide (((ps.getD (kz).toNat default).b : Int) < 0))) rfl rfl) (qM (.bool (decide (((ps.getD (kz).toNat default).b : Int) < 0))) ?_)
 refine qbd (p := ((ps.getD (kz).toNat default).b : Int) < 0) (t := 36) rfl (fun b7 => ?_) (fun b7 => ?_)
 refine qW ?_
 refine qW ?_
 refine qW ?_
 refine qW ?_
 refine qW ?_
 refine qD rfl (yL (v := .bool true) rfl rfl) (qe (zA ?_))
 refine xY rfl rfl (w9d ?_)
 refine qM (.bool false) ?_
 refine qe (zA ?_)
 exact cO (zT (zS (v := .bool false) rfl rfl rfl (⟨_, cgA eB (decP_false.2 (fun g => by have h1 := g.ra; have h2 := g.rb; have h3 := g.hr; have h4 := g.hl; omega)).symm, ab⟩)))
 refine qN (zI (k := 1) rfl dE rfl nz3 rfl) ?_
 refine qN (zJ (u := vJ ((ps.getD (kz).toNat default).b)) ag3 rfl (ab.pins _ _ _ (aa 1 _ rfl))) ?_
 refine qN (zX (v := x) rfl) ?_
 refine qN (zN dD (v := x) rfl hb) ?_
 refine qN (vI rfl rfl) ?_
 refine qD rfl (yM (v := .bool (decide (((bs.length : Int) : Int) ≤ ((ps.getD (kz).toNat default).b)))) rfl rfl) (qe (zA ?_))
 refine yA (p := ((bs.length : Int) : Int) ≤ ((ps.getD (kz).toNat default).b)) rfl rfl (fun b8 => ?_) (fun b8 => ?_)
 refine w9d ?_
 refine qM (.bool false) ?_
 refine qe (zA ?_)
 exact cO (zT (zS (v := .bool false) rfl rfl rfl (⟨_, cgA eB (decP_false.2 (fun g => by have h1 := g.ra; have h2 := g.rb; have h3 := g.hr; have h4 := g.hl; omega)).symm, ab⟩)))
 refine cN (zA (zB ?_))
 refine yT (S := fun wz => Pins a8 wz) (last := 14) (by kernel_rfl) rfl ?_
 have bf := bdr a7
 have b9 := ab.pins.below bf
 have c := ab.step b9 bf
 refine dM 0 v c.pins ?_
 refine dT (i := 1) rfl rfl (by kernel_rfl) (fun _ _ => zI (k := 0) rfl dE rfl nz3 rfl) c.pins ?_
 refine dT (i := 2) rfl rfl (by kernel_rfl) (fun _ hS => zJ (u := vJ ((ps.getD (kz).toNat default).a)) ag3 rfl (hS _ _ _ (aa 0 _ rfl))) c.pins ?_
 refine dT (i := 3) rfl rfl (by kernel_rfl) (fun _ _ => zE dD sz76 (v := v) rfl rfl ha (by omega) (by omega)) c.pins ?_
 refine dT (i := 4) rfl rfl (by kernel_rfl) (fun _ _ => yP (off := 1) dH rfl rfl nz40 (z := (ps.getD (kz).toNat default).a) (k := 0) rfl ha (by omega) (by omega)) c.pins ?_
 obtain ⟨ah, aq, ca⟩ := jA (ha.at (z := (ps.getD (kz).toNat default).a) (by omega) (by omega)) (j := ((ps.getD (kz).toNat default).a).toNat) rfl
 have c9 := aq.max
 refine dT (i := 5) rfl rfl (by kernel_rfl) (fun _ hS => ca ag40 rfl (cC hS (cB s o))) c.pins ?_
 refine dM 6 x c.pins ?_
 refine dT (i := 7) rfl rfl (by kernel_rfl) (fun _ _ => zI (k := 1) rfl dE rfl nz3 rfl) c.pins ?_
 refine dT (i := 8) rfl rfl (by kernel_rfl) (fun _ hS => zJ (u := vJ ((ps.getD (kz).toNat default).b)) ag3 rfl (hS _ _ _ (aa 1 _ rfl))) c.pins ?_
 refine dT (i := 9) rfl rfl (by kernel_rfl) (fun _ _ => zE dD sz76 (v := x) rfl rfl hb (by omega) (by omega)) c.pins ?_
 refine dT (i := 10) rfl rfl (by kernel_rfl) (fun _ _ => yP (off := 0) dH rfl rfl nz40 (z := (ps.getD (kz).toNat default).b) (k := 0) rfl hb (by omega) (by omega)) c.pins ?_
 obtain ⟨ae, ar, cb⟩ := jD (hb.at (z := (ps.getD (kz).toNat default).b) (by omega) (by omega)) (j := ((ps.getD (kz).toNat default).b).toNat) rfl
 have da := ar.max
 refine dT (i := 11) rfl rfl (by kernel_rfl) (fun _ hS => cb ag40 rfl (cC hS (cB s o))) c.pins ?_
 refine dM 12 ah c.pins ?_
 refine dM 13 ae c.pins ?_
 refine yH (by kernel_rfl) (zA (w9b ?_))
 refine qD rfl (zI (k := 2) rfl dE rfl nz40 rfl) (qD rfl (zJ (u := af) ag40 rfl (c.pins _ _ _ (aa 2 _ rfl))) (qD rfl (zN dC (v := af) rfl al) (qM ah ?_)))
 refine qD rfl (zN dC (v := ah) rfl aq) (qD rfl (jO rfl rfl) (qM (.bool (decide (((((ps.getD (kz).toNat default).r).length : Int) : Int) ≠ (((ns.getD ((ps.getD (kz).toNat default).a).toNat default).r).length : Int)))) ?_))
 refine qbd (p := ((((ps.getD (kz).toNat default).r).length : Int) : Int) ≠ (((ns.getD ((ps.getD (kz).toNat default).a).toNat default).r).length : Int)) (t := 61) rfl (fun cc => ?_) (fun cc => ?_)
 refine qW ?_
 refine qW ?_
 refine qW ?_
 refine qW ?_
 refine qW ?_
 refine qW ?_
 refine qD rfl (yL (v := .bool true) rfl rfl) (qe (zA ?_))
 refine xY rfl rfl (w9d ?_)
 refine qM (.bool false) ?_
 refine qe (zA ?_)
 exact cO (zT (zS (v := .bool false) rfl rfl rfl (⟨_, cgA eB (decP_false.2 (fun g => by have h1 := g.ra; have h2 := g.rb; have h3 := g.hr; have h4 := g.hl; omega)).symm, c⟩)))
 refine qN (zI (k := 3) rfl dE rfl nz40 rfl) ?_
 refine qN (zJ (u := ag) ag40 rfl (c.pins _ _ _ (aa 3 _ rfl))) ?_
 refine qN (zN dC (v := ag) rfl am) ?_
 refine qN (zX (v := ae) rfl) ?_
 refine qN (zN dC (v := ae) rfl ar) ?_
 refine qN (jO rfl rfl) ?_
 refine qD rfl (yM (v := .bool (decide (((((ps.getD (kz).toNat default).l).length : Int) : Int) ≠ (((bs.getD ((ps.getD (kz).toNat default).b).toNat default).l).length : Int)))) rfl rfl) (qe (zA ?_))
 refine yA (p := ((((ps.getD (kz).toNat default).l).length : Int) : Int) ≠ (((bs.getD ((ps.getD (kz).toNat default).b).toNat default).l).length : Int)) rfl rfl (fun cd => ?_) (fun cd => ?_)
 refine w9d ?_
 refine qM (.bool false) ?_
 refine qe (zA ?_)
 exact cO (zT (zS (v := .bool false) rfl rfl rfl (⟨_, cgA eB (decP_false.2 (fun g => by have h1 := g.ra; have h2 := g.rb; have h3 := g.hr; have h4 := g.hl; omega)).symm, c⟩)))
 refine cN (zA (w9b ?_))
 refine qM ah ?_
 refine qD rfl (zN dC (v := ah) rfl aq) (qM (vJ 0) ?_)
 refine qe (zA ?_)
 refine zY (yN (fun k en W => ∃ (au : Nat → Value) (i : Nat) (GLi : Pin), en = (upd (upd (upd (upd (upd (upd (upd (upd (upd au 1 (vJ kz)) 2 v) 3 x) 4 (vP b1)) 9 (vP a6)) 11 ae) 69 ah) 70 (vJ (((ns.getD ((ps.getD (kz).toNat default).a).toNat default).r).length : Int))) 71 (vJ (i : Int))) ∧ k = (ns.getD (ps.getD kz.toNat default).a.toNat default).r.length - i ∧ Ext noS G w GLi W ∧ Pin.le a8 GLi ∧ (i ≤ (ns.getD (ps.getD kz.toNat default).a.toNat default).r.length) ∧ (∀ q, q < i → AnsP ps ((ps.getD kz.toNat default).r.getD q 0) kz (rightsP ns bs ((ns.getD (ps.getD kz.toNat default).a.toNat default).r.getD q 0) (ps.getD kz.toNat default).b))) _ ⟨_, 0, a8, (pS 71 (pS 70 (pS 69 (pS 11 (pS 9 (pS 4 (pS 3 (pS 2 (pU 1))))))))), rfl, c, cJ _, cI _, (fun i hi => absurd hi (cK i))⟩ ?_)
 rintro db _ a9 ⟨au, i, GLi, rfl, dc, av, d, hji, hpi⟩
 refine w9d ?_
 refine qD rfl (yQ rfl rfl) (qe (zA (zB ?_)))
 refine yA (p := ((i : Int) : Int) < (((ns.getD ((ps.getD (kz).toNat default).a).toNat default).r).length : Int)) rfl rfl (fun ce => ?_) (fun ce => ?_)
 have hki := hga.optsOk.right (j := (ps.getD kz.toNat default).a.toNat) (i := i) (by omega) (by omega)
 have cf := hga.lenl (i := ((ns.getD (ps.getD kz.toNat default).a.toNat default).r.getD i 0).toNat) (by omega)
 have cg := hgb.lenr (i := (ps.getD kz.toNat default).b.toNat) (by omega)
 refine cN (zA (zB ?_))
 refine zY (w9d ?_)
 refine qM (vJ (i : Int)) ?_
 refine qD rfl (zE dC sz3 (v := ah) rfl rfl aq (by omega) (by omega)) (qD rfl (zL (r := ((ns.getD ((ps.getD (kz).toNat default).a).toNat default).r).getD i 0) rfl ag3 (z := (i : Int)) rfl aq (cC av.pins (cB (cB s o) d)) (by omega) (by omega)) (qM (vJ (i : Int)) ?_))
 refine qM (vJ (((ns.getD ((ps.getD (kz).toNat default).a).toNat default).r).getD i 0)) ?_
 refine qe (zA (zB ?_))
 refine yT (S := fun wz => Pins GLi wz) (last := 15) (by kernel_rfl) rfl ?_
 have bg := bdr a9
 have ch := av.pins.below bg
 have f := av.step ch bg
 refine dT (i := 0) rfl rfl (by kernel_rfl) (fun _ hS => zU (cs := [u]) ag29 sz29 rfl (fun j u hj => (cC hS (cB o d)) _ _ _ (a5 _ _ (by simpa using hj)))) f.pins ?_
 refine dT (i := 1) rfl rfl (by kernel_rfl) (fun _ _ => zI (k := 2) rfl dE rfl nz40 rfl) f.pins ?_
 refine dT (i := 2) rfl rfl (by kernel_rfl) (fun _ hS => zJ (u := af) ag40 rfl ((cC hS d) _ _ _ (aa 2 _ rfl))) f.pins ?_
 refine dM 3 (vJ (i : Int)) f.pins ?_
 refine dT (i := 4) rfl rfl (by kernel_rfl) (fun _ _ => zE dC sz3 (v := af) rfl rfl al (by omega) (by omega)) f.pins ?_
 refine dT (i := 5) rfl rfl (by kernel_rfl) (fun _ hS => zL (r := ((ps.getD (kz).toNat default).r).getD i 0) rfl ag3 (z := (i : Int)) rfl al (cC hS (cB (cB s o) d)) (by omega) (by omega)) f.pins ?_
 refine dM 6 (vJ kz) f.pins ?_
 refine dM 7 v f.pins ?_
 refine dM 8 x f.pins ?_
 refine dM 9 (vJ (((ns.getD ((ps.getD (kz).toNat default).a).toNat default).r).getD i 0)) f.pins ?_
 refine dT (i := 10) rfl rfl (by kernel_rfl) (fun _ _ => zI (k := 1) rfl dE rfl nz3 rfl) f.pins ?_
 refine dT (i := 11) rfl rfl (by kernel_rfl) (fun _ hS => zJ (u := vJ ((ps.getD (kz).toNat default).b)) ag3 rfl ((cC hS d) _ _ _ (aa 1 _ rfl))) f.pins ?_
 refine dP (i := 12) rfl rfl (zP (vs := [v, x, vJ (((ns.getD ((ps.getD (kz).toNat default).a).toNat default).r).getD i 0), vJ ((ps.getD (kz).toNat default).b)]) Tryz.func46 nm46 rfl rfl rfl ?_)
 refine cD (gC (x := ((ns.getD ((ps.getD (kz).toNat default).a).toNat default).r).getD i 0) (y := (ps.getD (kz).toNat default).b) f.pins (ha.mono (cB (cB s o) d)) (hb.mono (cB (cB s o) d)) (by omega) (by omega) (by omega)) ?_
 rintro _ ci ⟨bh, cj, rfl, ck, ai⟩
 refine rt9 ?_
 have bi := f.tr ai
 have cl := ck.weaken f.size
 refine ⟨fun _ => (cC bi.pins ai.le), ?_⟩
 obtain ⟨dd, aw, bj, cm, de⟩ := cl.sealed bi
 refine dP (i := 13) rfl rfl (zP (vs := [.agg #[u], vJ (((ps.getD (kz).toNat default).r).getD i 0), vJ kz, bh]) Tryz.func45 nm45 rfl rfl rfl ?_)
 refine cD (tJ bj.pins (hu.mono (cB (cB (cB (cB s o) d) ai.le) aw)) cm (by omega)) ?_
 rintro _ df ⟨cn, rfl, ax⟩
 refine rt9 ?_
 have ay := bj.tr ax
 refine ⟨fun _ => (cC ay.pins (cB (cB ai.le aw) ax.le)), ?_⟩
 refine dT (i := 14) rfl rfl (by kernel_rfl) (fun _ _ => xN rfl) (cC ay.pins (cB (cB ai.le aw) ax.le)) ?_
 refine yH (by kernel_rfl) (zA (qO rfl rfl (fun ba => ?_) (fun ba => ?_)))
 refine cN (w9c ?_)
 refine qD rfl (yO rfl rfl (by omega)) (qM (vJ ((i : Int) + 1)) ?_)
 refine qe (yD (⟨_, ?_, _, rfl, _, i + 1, cn, (pS 71 (pS 70 (pS 69 (pS 11 (pS 9 (pS 4 (pS 3 (pS 2 (pU 1))))))))), rfl, ay, (cB (cB (cB d ai.le) aw) ax.le), (by omega), (fun q hq => if h3 : q = i then h3 ▸ decP_true.1 ba else hpi q (by omega))⟩))
 omega
 refine w9d ?_
 refine qM (.bool false) ?_
 refine qe (zA ?_)
 exact cO (zT (zS (v := .bool false) rfl rfl rfl (⟨_, cgA eB (decP_false.2 (fun g => decP_false.1 ba (by have a := g.rr i (by omega); exact ⟨a.1.1, by have := a.1.2; omega, a.2⟩))).symm, ay⟩)))
 refine cP (zZ (yJ (yI (zA (w9b ?_)))))
 refine qM ae ?_
 refine qD rfl (zN dC (v := ae) rfl ar) (qM (vJ 0) ?_)
 refine qe (zA ?_)
 refine zY (yN (fun k en W => ∃ (au : Nat → Value) (j : Nat) (GLj : Pin), en = (upd (upd (upd (upd (upd (upd (upd (upd au 1 (vJ kz)) 2 v) 3 x) 4 (vP b1)) 9 (vP a6)) 92 ae) 93 (vJ (((bs.getD ((ps.getD (kz).toNat default).b).toNat default).l).length : Int))) 94 (vJ (j : Int))) ∧ k = (bs.getD (ps.getD kz.toNat default).b.toNat default).l.length - j ∧ Ext noS G w GLj W ∧ Pin.le GLi GLj ∧ (j ≤ (bs.getD (ps.getD kz.toNat default).b.toNat default).l.length) ∧ (∀ q, q < j → AnsP ps ((ps.getD kz.toNat default).l.getD q 0) kz (leftsP ns bs (ps.getD kz.toNat default).a ((bs.getD (ps.getD kz.toNat default).b.toNat default).l.getD q 0)))) _ ⟨_, 0, GLi, (pS 94 (pS 93 (pS 92 (pS 9 (pS 4 (pS 3 (pS 2 (pU 1)))))))), rfl, av, cJ _, cI _, (fun i hi => absurd hi (cK i))⟩ ?_)
 rintro dg _ bb ⟨au, j, GLj, rfl, dh, az, ad, hjj, hpj⟩
 refine w9d ?_
 refine qD rfl (yQ rfl rfl) (qe (zA (zB ?_)))
 refine yA (p := ((j : Int) : Int) < (((bs.getD ((ps.getD (kz).toNat default).b).toNat default).l).length : Int)) rfl rfl (fun co => ?_) (fun co => ?_)
 have hki := hgb.optsOk.left (j := (ps.getD kz.toNat default).b.toNat) (i := j) (by omega) (by omega)
 have cf := hga.lenl (i := (ps.getD kz.toNat default).a.toNat) (by omega)
 have cg := hgb.lenr (i := ((bs.getD (ps.getD kz.toNat default).b.toNat default).l.getD j 0).toNat) (by omega)
 refine cN (zA (zB ?_))
 refine zY (w9d ?_)
 refine qM (vJ (j : Int)) ?_
 refine qD rfl (zE dC sz3 (v := ae) rfl rfl ar (by omega) (by omega)) (qD rfl (zL (r := ((bs.getD ((ps.getD (kz).toNat default).b).toNat default).l).getD j 0) rfl ag3 (z := (j : Int)) rfl ar (cC az.pins (cB (cB (cB s o) d) ad)) (by omega) (by omega)) (qM (vJ (j : Int)) ?_))
 refine qM (vJ (((bs.getD ((ps.getD (kz).toNat default).b).toNat default).l).getD j 0)) ?_
 refine qe (zA (zB ?_))
 refine yT (S := fun wz => Pins GLj wz) (last := 15) (by kernel_rfl) rfl ?_
 have bk := bdr bb
 have cp := az.pins.below bk
 have m := az.step cp bk
 refine dT (i := 0) rfl rfl (by kernel_rfl) (fun _ hS => zU (cs := [u]) ag29 sz29 rfl (fun j u hj => (cC hS (cB (cB o d) ad)) _ _ _ (a5 _ _ (by simpa using hj)))) m.pins ?_
 refine dT (i := 1) rfl rfl (by kernel_rfl) (fun _ _ => zI (k := 3) rfl dE rfl nz40 rfl) m.pins ?_
 refine dT (i := 2) rfl rfl (by kernel_rfl) (fun _ hS => zJ (u := ag) ag40 rfl ((cC hS (cB d ad)) _ _ _ (aa 3 _ rfl))) m.pins ?_
 refine dM 3 (vJ (j : Int)) m.pins ?_
 refine dT (i := 4) rfl rfl (by kernel_rfl) (fun _ _ => zE dC sz3 (v := ag) rfl rfl am (by omega) (by omega)) m.pins ?_
 refine dT (i := 5) rfl rfl (by kernel_rfl) (fun _ hS => zL (r := ((ps.getD (kz).toNat default).l).getD j 0) rfl ag3 (z := (j : Int)) rfl am (cC hS (cB (cB (cB s o) d) ad)) (by omega) (by omega)) m.pins ?_
 refine dM 6 (vJ kz) m.pins ?_
 refine dM 7 v m.pins ?_
 refine dM 8 x m.pins ?_
 refine dT (i := 9) rfl rfl (by kernel_rfl) (fun _ _ => zI (k := 0) rfl dE rfl nz3 rfl) m.pins ?_
 refine dT (i := 10) rfl rfl (by kernel_rfl) (fun _ hS => zJ (u := vJ ((ps.getD (kz).toNat default).a)) ag3 rfl ((cC hS (cB d ad)) _ _ _ (aa 0 _ rfl))) m.pins ?_
 refine dM 11 (vJ (((bs.getD ((ps.getD (kz).toNat default).b).toNat default).l).getD j 0)) m.pins ?_
 refine dP (i := 12) rfl rfl (zP (vs := [v, x, vJ ((ps.getD (kz).toNat default).a), vJ (((bs.getD ((ps.getD (kz).toNat default).b).toNat default).l).getD j 0)]) Tryz.func47 nm47 rfl rfl rfl ?_)
 refine cD (gX (x := (ps.getD (kz).toNat default).a) (y := ((bs.getD ((ps.getD (kz).toNat default).b).toNat default).l).getD j 0) m.pins (ha.mono (cB (cB (cB s o) d) ad)) (hb.mono (cB (cB (cB s o) d) ad)) (by omega) (by omega) (by omega)) ?_
 rintro _ cq ⟨bl, cr, rfl, ct, aj⟩
 refine rt9 ?_
 have bm := m.tr aj
 have cu := ct.weaken m.size
 refine ⟨fun _ => (cC bm.pins aj.le), ?_⟩
 obtain ⟨di, a0, bn, cv, dj⟩ := cu.sealed bm
 refine dP (i := 13) rfl rfl (zP (vs := [.agg #[u], vJ (((ps.getD (kz).toNat default).l).getD j 0), vJ kz, bl]) Tryz.func45 nm45 rfl rfl rfl ?_)
 refine cD (tJ bn.pins (hu.mono (cB (cB (cB (cB (cB s o) d) ad) aj.le) a0)) cv (by omega)) ?_
 rintro _ dk ⟨cw, rfl, a1⟩
 refine rt9 ?_
 have a2 := bn.tr a1
 refine ⟨fun _ => (cC a2.pins (cB (cB aj.le a0) a1.le)), ?_⟩
 refine dT (i := 14) rfl rfl (by kernel_rfl) (fun _ _ => xN rfl) (cC a2.pins (cB (cB aj.le a0) a1.le)) ?_
 refine yH (by kernel_rfl) (zA (qO rfl rfl (fun bc => ?_) (fun bc => ?_)))
 refine cN (w9c ?_)
 refine qD rfl (yO rfl rfl (by omega)) (qM (vJ ((j : Int) + 1)) ?_)
 refine qe (yD (⟨_, ?_, _, rfl, _, j + 1, cw, (pS 94 (pS 93 (pS 92 (pS 9 (pS 4 (pS 3 (pS 2 (pU 1)))))))), rfl, a2, (cB (cB (cB ad aj.le) a0) a1.le), (by omega), (fun q hq => if h3 : q = j then h3 ▸ decP_true.1 bc else hpj q (by omega))⟩))
 omega
 refine w9d ?_
 refine qM (.bool false) ?_
 refine qe (zA ?_)
 exact cO (zT (zS (v := .bool false) rfl rfl rfl (⟨_, cgA eB (decP_false.2 (fun g => decP_false.1 bc (by have a := g.ll j (by omega); exact ⟨a.1.1, by have := a.1.2; omega, a.2⟩))).symm, a2⟩)))
 refine cP (zZ (yJ (yI (w9a ?_))))
 refine qM (.bool true) ?_
 refine qe (zA ?_)
 exact cO (zT (zS (v := .bool true) rfl rfl rfl (⟨_, cgA eB (decP_true.2 ⟨⟨by omega, by omega⟩, ⟨by omega, by omega⟩, by omega, by omega, fun q hq => by have h := hpi q (by omega); exact ⟨⟨h.1, by have := h.2.1; omega⟩, h.2.2⟩, fun q hq => by have h := hpj q (by omega); exact ⟨⟨h.1, by have := h.2.1; omega⟩, h.2.2⟩⟩).symm, az⟩)))
theorem jV {w : World} {xs : List Int} {n : Int} (hP : Pins G w) (hv : RSl eInt G v xs) :
  Calls Tryz.prog 74 #[v, .int .i64 n] w fun e w' => e = .returned (.bool (decide (n ∈ xs))) ∧ w' = w := by
 refine yC (n := 18) Tryz.func74 Tryz.ntmps74 rfl rfl ?_
 have f := exr noS hP
 have hm := hv.max
 refine w9d ?_
 refine qM (.bool false) ?_
 refine qe (zA (w9b ?_))
 refine qM (.int .i64 0) ?_
 refine qe (zA ?_)
 refine zY (yN (fun (k : Nat) (en : Nat → Value) (W : World) => ∃ (b : Nat → Value) (j : Nat), en = (upd (upd (upd b 0 v) 1 (.int .i64 n)) 5 (.int .i64 (j : Int))) ∧ k = xs.length - j ∧ Ext noS G w G W ∧ (j ≤ xs.length) ∧ (W = w) ∧ (∀ i, i < j → xs.getD i 0 ≠ n)) _ ⟨_, 0, (pS 5 (pS 1 (pU 0))), rfl, f, cI _, rfl, (fun i hi => absurd hi (cK i))⟩ ?_)
 rintro h _ l ⟨b, j, rfl, m, c, hj, hw, hp⟩
 subst hw
 refine w9b ?_
 refine qM (.int .i64 (j : Int)) ?_
 refine qM v ?_
 refine qD rfl (zN dC (v := v) rfl hv) (qD rfl (yQ rfl rfl) (qe (zA ?_)))
 refine yA (p := ((j : Int) : Int) < (xs.length : Int)) rfl rfl (fun g => ?_) (fun g => ?_)
 refine cN (zA (zB ?_))
 refine zY (w9d ?_)
 refine qM v ?_
 refine qM (.int .i64 (j : Int)) ?_
 refine qD rfl (zE dC sz3 (v := v) rfl rfl hv (by omega) (by omega)) (qD rfl (zL (r := xs.getD j 0) rfl ag3 (z := (j : Int)) rfl hv c.pins (by omega) (by omega)) (qM (.int .i64 n) ?_))
 refine qD rfl (qL rfl rfl) (qe (zA ?_))
 refine yA (p := (xs.getD j 0 : Int) = n) rfl rfl (fun a => ?_) (fun a => ?_)
 refine w9d ?_
 refine qM (.bool true) ?_
 refine qe (zA ?_)
 exact cO (zT (zS (v := .bool true) rfl rfl rfl (⟨cgA eB ((decide_eq_true (by rw [← a]; exact xS (by omega))).symm), rfl⟩)))
 refine cN (w9c ?_)
 refine qM (.int .i64 (j : Int)) ?_
 refine qD rfl (yO rfl rfl (by omega)) (qM (.int .i64 ((j : Int) + 1)) ?_)
 refine qe (yD (⟨_, ?_, _, rfl, _, j + 1, (pS 5 (pS 1 (pU 0))), rfl, c, (by omega), rfl, (fun i hi => if h3 : i = j then h3 ▸ a else hp i (by omega))⟩))
 omega
 refine cP (zZ (yJ (yI (w9a ?_))))
 refine qM (.bool false) ?_
 refine qe (zA ?_)
 exact cO (zT (zS (v := .bool false) rfl rfl rfl (⟨cgA eB ((decide_eq_false (not_mem_of (d := 0) (fun i hi => hp i (by omega)))).symm), rfl⟩)))
theorem nY {w : World} {c : Cl} {r : Int} (hP : Pins G w) (hu : RSl eNode G u ns) (hv : RSl eNode G v bs) (hx : 0 ≤ r ∧ r < ns.length) (hy : 0 ≤ y ∧ y < bs.length) :
  Calls Tryz.prog 53 [.agg #[u], .agg #[v], vJ r, .agg #[vJ c.a, vJ c.b, cr, cl], vJ y].toArray w fun e w' => ∃ G', e = .returned (.bool (decide ((c.a, c.b) ∈ rightsP ns bs r y))) ∧ Ext noS G w G' w' := by
 refine yC (n := 43) Tryz.func53 Tryz.ntmps53 rfl rfl ?_
 have x := exr noS hP
 refine w9d ?_
 refine qI rfl (xL [u] (v := .agg #[u]) rfl rfl x.pins (fun b1 w2 bh ak al am => ?_))
 have an := x.step al am
 have ao : w.heap.size ≤ b1 := by have := x.size; omega
 obtain ⟨G9, q, aa, ap, bj⟩ := ak.shut an ao
 refine qI rfl (xL [v] (v := .agg #[v]) rfl rfl aa.pins (fun aq bk bl ar au av => ?_))
 have aw := aa.step au av
 have ax : w.heap.size ≤ aq := by have := aa.size; omega
 obtain ⟨bm, m, ab, ad, bn⟩ := ar.shut aw ax
 refine qI rfl (xL [vJ c.a, vJ c.b, cr, cl] (v := .agg #[vJ c.a, vJ c.b, cr, cl]) rfl rfl ab.pins (fun ay ac bo az a0 a1 => ?_))
 have a2 := ab.step a0 a1
 have a3 : w.heap.size ≤ ay := by have := ab.size; omega
 obtain ⟨a4, f, ae, s, bp⟩ := az.shut a2 a3
 refine qM (.bool false) ?_
 refine qe (zA (zB ?_))
 refine yT (S := fun wz => Pins a4 wz) (last := 33) (by kernel_rfl) rfl ?_
 have af := bdr ac
 have a5 := ae.pins.below af
 have d := ae.step a5 af
 refine dT (i := 0) rfl rfl (by kernel_rfl) (fun _ _ => zI (k := 1) rfl dE rfl nz3 rfl) d.pins ?_
 refine dT (i := 1) rfl rfl (by kernel_rfl) (fun _ hS => zJ (u := vJ c.b) ag3 rfl (hS _ _ _ (s 1 _ rfl))) d.pins ?_
 refine dM 2 (vJ y) d.pins ?_
 refine dT (i := 3) rfl rfl (by kernel_rfl) (fun _ _ => qL rfl rfl) d.pins ?_
 refine dM 4 (.bool (decide ((c.b : Int) = y))) d.pins ?_
 refine drbd (p := (c.b : Int) = y) (t := 15) rfl (fun a6 => ?_) (fun a6 => ?_)
 refine zQ (i := 5) rfl rfl rfl (zK rfl rfl rfl rfl) (by kernel_rfl) (fun _ _ => zI (k := 0) rfl dF rfl nz24 rfl) d.pins (zQ (i := 6) rfl rfl rfl (zK rfl rfl rfl rfl) (by kernel_rfl) (fun _ hS => zJ (u := u) ag24 rfl ((cC hS (cB m f)) _ _ _ (ap 0 _ rfl))) d.pins (zQ (i := 7) rfl rfl rfl (zK rfl rfl rfl rfl) (by kernel_rfl) (fun _ _ => zX (v := vJ r) rfl) d.pins (zQ (i := 8) rfl rfl rfl (zK rfl rfl rfl rfl) (by kernel_rfl) (fun _ _ => zE dD sz76 (v := u) rfl rfl hu (by omega) (by omega)) d.pins (zQ (i := 9) rfl rfl rfl (zK rfl rfl rfl rfl) (by kernel_rfl) (fun _ _ => yP (off := 0) dH rfl rfl nz40 (z := r) (k := 0) rfl hu (by omega) (by omega)) d.pins ?_))))
 obtain ⟨a7, ag, a8⟩ := jD (hu.at (z := r) (by omega) (by omega)) (j := (r).toNat) rfl
 have bq := ag.max
 refine zQ (i := 10) rfl rfl rfl (zK rfl rfl rfl rfl) (by kernel_rfl) (fun _ hS => a8 ag40 rfl (cC hS (cB (cB q m) f))) d.pins (zQ (i := 11) rfl rfl rfl (zK rfl rfl rfl rfl) (by kernel_rfl) (fun _ _ => zI (k := 0) rfl dE rfl nz3 rfl) d.pins (zQ (i := 12) rfl rfl rfl (zK rfl rfl rfl rfl) (by kernel_rfl) (fun _ hS => zJ (u := vJ c.a) ag3 rfl (hS _ _ _ (s 0 _ rfl))) d.pins ?_))
 refine dO (i := 13) (gE (i := 13) rfl rfl rfl (zK rfl rfl rfl rfl) (zP (vs := [a7, vJ c.a]) Tryz.func74 nm74 rfl rfl rfl ?_))
 refine cD (jV d.pins (ag.mono (cB (cB q m) f))) ?_
 rintro _ _ ⟨rfl, rfl⟩
 refine rt9 (⟨fun _ => d.pins, ?_⟩)
 refine dT (i := 14) rfl rfl (by kernel_rfl) (fun _ _ => yL (v := .bool (decide (c.a ∈ ((ns.getD (r).toNat default).l)))) rfl rfl) d.pins ?_
 refine dM 15 (.bool (decide (c.a ∈ ((ns.getD (r).toNat default).l)))) d.pins ?_
 refine drbd (p := c.a ∈ ((ns.getD (r).toNat default).l)) (t := 26) rfl (fun a9 => ?_) (fun a9 => ?_)
 refine zH (i := 16) rfl rfl (zM rfl rfl rfl rfl rfl) (by kernel_rfl) d.pins (zH (i := 17) rfl rfl (zM rfl rfl rfl rfl rfl) (by kernel_rfl) d.pins (zH (i := 18) rfl rfl (zM rfl rfl rfl rfl rfl) (by kernel_rfl) d.pins (zH (i := 19) rfl rfl (zM rfl rfl rfl rfl rfl) (by kernel_rfl) d.pins (zH (i := 20) rfl rfl (zM rfl rfl rfl rfl rfl) (by kernel_rfl) d.pins (zH (i := 21) rfl rfl (yU rfl rfl rfl rfl) (by kernel_rfl) d.pins (zH (i := 22) rfl rfl (yU rfl rfl rfl rfl) (by kernel_rfl) d.pins (zH (i := 23) rfl rfl (yU rfl rfl rfl rfl) (by kernel_rfl) d.pins (zH (i := 24) rfl rfl (yU rfl rfl rfl rfl) (by kernel_rfl) d.pins (zH (i := 25) rfl rfl (yU rfl rfl rfl rfl) (by kernel_rfl) d.pins (zH (i := 26) rfl rfl (yU rfl rfl rfl rfl) (by kernel_rfl) d.pins (zH (i := 27) rfl rfl (yU rfl rfl rfl rfl) (by kernel_rfl) d.pins (zH (i := 28) rfl rfl (yU rfl rfl rfl rfl) (by kernel_rfl) d.pins (zH (i := 29) rfl rfl (yU rfl rfl rfl rfl) (by kernel_rfl) d.pins (zH (i := 30) rfl rfl (zM rfl rfl rfl rfl rfl) (by kernel_rfl) d.pins (dT (i := 31) rfl rfl (by kernel_rfl) (fun _ _ => yL (v := .bool true) rfl rfl) d.pins ?_)))))))))))))))
 refine dM 32 (.bool true) d.pins ?_
 exact yH (by kernel_rfl) (zA (cO (zT (zS (v := .bool true) rfl rfl rfl (⟨_, cgA eB (decide_eq_true (mem_rights.2 (by first | exact cF ⟨by omega, by assumption⟩ | exact cG ⟨by omega, by assumption⟩))).symm, d⟩)))))
 refine zQ (i := 16) rfl rfl rfl (zK rfl rfl rfl rfl) (by kernel_rfl) (fun _ _ => zI (k := 0) rfl dE rfl nz3 rfl) d.pins (zQ (i := 17) rfl rfl rfl (zK rfl rfl rfl rfl) (by kernel_rfl) (fun _ hS => zJ (u := vJ c.a) ag3 rfl (hS _ _ _ (s 0 _ rfl))) d.pins (zQ (i := 18) rfl rfl rfl (zK rfl rfl rfl rfl) (by kernel_rfl) (fun _ _ => zX (v := vJ r) rfl) d.pins (zQ (i := 19) rfl rfl rfl (zK rfl rfl rfl rfl) (by kernel_rfl) (fun _ _ => qL rfl rfl) d.pins (zQ (i := 20) rfl rfl rfl (zK rfl rfl rfl rfl) (by kernel_rfl) (fun _ _ => zX (v := .bool (decide ((c.a : Int) = r))) rfl) d.pins (drbd (p := (c.a : Int) = r) (t := 31) rfl (fun ba => ?_) (fun ba => ?_))))))
 refine zQ (i := 21) rfl rfl rfl (zK rfl rfl rfl rfl) (by kernel_rfl) (fun _ _ => zI (k := 0) rfl dF rfl nz24 rfl) d.pins (zQ (i := 22) rfl rfl rfl (zK rfl rfl rfl rfl) (by kernel_rfl) (fun _ hS => zJ (u := v) ag24 rfl ((cC hS f) _ _ _ (ad 0 _ rfl))) d.pins (zQ (i := 23) rfl rfl rfl (zK rfl rfl rfl rfl) (by kernel_rfl) (fun _ _ => zX (v := vJ y) rfl) d.pins (zQ (i := 24) rfl rfl rfl (zK rfl rfl rfl rfl) (by kernel_rfl) (fun _ _ => zE dD sz76 (v := v) rfl rfl hv (by omega) (by omega)) d.pins (zQ (i := 25) rfl rfl rfl (zK rfl rfl rfl rfl) (by kernel_rfl) (fun _ _ => yP (off := 1) dH rfl rfl nz40 (z := y) (k := 0) rfl hv (by omega) (by omega)) d.pins ?_))))
 obtain ⟨bb, ah, bc⟩ := jA (hv.at (z := y) (by omega) (by omega)) (j := (y).toNat) rfl
 have br := ah.max
 refine zQ (i := 26) rfl rfl rfl (zK rfl rfl rfl rfl) (by kernel_rfl) (fun _ hS => bc ag40 rfl (cC hS (cB (cB q m) f))) d.pins (zQ (i := 27) rfl rfl rfl (zK rfl rfl rfl rfl) (by kernel_rfl) (fun _ _ => zI (k := 1) rfl dE rfl nz3 rfl) d.pins (zQ (i := 28) rfl rfl rfl (zK rfl rfl rfl rfl) (by kernel_rfl) (fun _ hS => zJ (u := vJ c.b) ag3 rfl (hS _ _ _ (s 1 _ rfl))) d.pins ?_))
 refine dO (i := 29) (gE (i := 29) rfl rfl rfl (zK rfl rfl rfl rfl) (zP (vs := [bb, vJ c.b]) Tryz.func74 nm74 rfl rfl rfl ?_))
 refine cD (jV d.pins (ah.mono (cB (cB q m) f))) ?_
 rintro _ _ ⟨rfl, rfl⟩
 refine rt9 (⟨fun _ => d.pins, ?_⟩)
 refine zQ (i := 30) rfl rfl rfl (zK rfl rfl rfl rfl) (by kernel_rfl) (fun _ _ => yL (v := .bool (decide (c.b ∈ ((bs.getD (y).toNat default).r)))) rfl rfl) d.pins (dT (i := 31) rfl rfl (by kernel_rfl) (fun _ _ => yM (v := .bool (decide (c.b ∈ ((bs.getD (y).toNat default).r)))) rfl rfl) d.pins ?_)
 refine dM 32 (.bool (decide (c.b ∈ ((bs.getD (y).toNat default).r)))) d.pins ?_
 exact yH (by kernel_rfl) (zA (cO (zT (zS (v := .bool (decide (c.b ∈ ((bs.getD (y).toNat default).r)))) rfl rfl rfl (⟨_, cgA eB (decide_eq_decide.2 ⟨fun g => mem_rights.2 (by first | exact cG ⟨by omega, g⟩ | exact cF ⟨by omega, g⟩), fun g => by rcases mem_rights.1 g with ⟨o, h⟩ | ⟨o, h⟩ <;> first | exact h | contradiction | omega⟩), d⟩)))))
 refine zH (i := 21) rfl rfl (zM rfl rfl rfl rfl rfl) (by kernel_rfl) d.pins (zH (i := 22) rfl rfl (zM rfl rfl rfl rfl rfl) (by kernel_rfl) d.pins (zH (i := 23) rfl rfl (zM rfl rfl rfl rfl rfl) (by kernel_rfl) d.pins (zH (i := 24) rfl rfl (zM rfl rfl rfl rfl rfl) (by kernel_rfl) d.pins (zH (i := 25) rfl rfl (zM rfl rfl rfl rfl rfl) (by kernel_rfl) d.pins (zH (i := 26) rfl rfl (zM rfl rfl rfl rfl rfl) (by kernel_rfl) d.pins (zH (i := 27) rfl rfl (zM rfl rfl rfl rfl rfl) (by kernel_rfl) d.pins (zH (i := 28) rfl rfl (zM rfl rfl rfl rfl rfl) (by kernel_rfl) d.pins (zH (i := 29) rfl rfl (zM rfl rfl rfl rfl rfl) (by kernel_rfl) d.pins (zQ (i := 30) rfl rfl rfl (zK rfl rfl rfl rfl) (by kernel_rfl) (fun _ _ => yM (v := .bool false) rfl rfl) d.pins (dT (i := 31) rfl rfl (by kernel_rfl) (fun _ _ => yM (v := .bool false) rfl rfl) d.pins ?_))))))))))
 refine dM 32 (.bool false) d.pins ?_
 exact yH (by kernel_rfl) (zA (cO (zT (zS (v := .bool false) rfl rfl rfl (⟨_, cgA eB (decide_eq_false (fun g => by rcases mem_rights.1 g with ⟨o, h⟩ | ⟨o, h⟩ <;> first | contradiction | omega)).symm, d⟩)))))
 refine zH (i := 5) rfl rfl (zM rfl rfl rfl rfl rfl) (by kernel_rfl) d.pins (zH (i := 6) rfl rfl (zM rfl rfl rfl rfl rfl) (by kernel_rfl) d.pins (zH (i := 7) rfl rfl (zM rfl rfl rfl rfl rfl) (by kernel_rfl) d.pins (zH (i := 8) rfl rfl (zM rfl rfl rfl rfl rfl) (by kernel_rfl) d.pins (zH (i := 9) rfl rfl (zM rfl rfl rfl rfl rfl) (by kernel_rfl) d.pins (zH (i := 10) rfl rfl (zM rfl rfl rfl rfl rfl) (by kernel_rfl) d.pins (zH (i := 11) rfl rfl (zM rfl rfl rfl rfl rfl) (by kernel_rfl) d.pins (zH (i := 12) rfl rfl (zM rfl rfl rfl rfl rfl) (by kernel_rfl) d.pins (zH (i := 13) rfl rfl (zM rfl rfl rfl rfl rfl) (by kernel_rfl) d.pins (dT (i := 14) rfl rfl (by kernel_rfl) (fun _ _ => yM (v := .bool false) rfl rfl) d.pins ?_)))))))))
 refine dM 15 (.bool false) d.pins ?_
 refine zQ (i := 16) rfl rfl rfl (zK rfl rfl rfl rfl) (by kernel_rfl) (fun _ _ => zI (k := 0) rfl dE rfl nz3 rfl) d.pins (zQ (i := 17) rfl rfl rfl (zK rfl rfl rfl rfl) (by kernel_rfl) (fun _ hS => zJ (u := vJ c.a) ag3 rfl (hS _ _ _ (s 0 _ rfl))) d.pins (zQ (i := 18) rfl rfl rfl (zK rfl rfl rfl rfl) (by kernel_rfl) (fun _ _ => zX (v := vJ r) rfl) d.pins (zQ (i := 19) rfl rfl rfl (zK rfl rfl rfl rfl) (by kernel_rfl) (fun _ _ => qL rfl rfl) d.pins (zQ (i := 20) rfl rfl rfl (zK rfl rfl rfl rfl) (by kernel_rfl) (fun _ _ => zX (v := .bool (decide ((c.a : Int) = r))) rfl) d.pins (drbd (p := (c.a : Int) = r) (t := 31) rfl (fun bd => ?_) (fun bd => ?_))))))
 refine zQ (i := 21) rfl rfl rfl (zK rfl rfl rfl rfl) (by kernel_rfl) (fun _ _ => zI (k := 0) rfl dF rfl nz24 rfl) d.pins (zQ (i := 22) rfl rfl rfl (zK rfl rfl rfl rfl) (by kernel_rfl) (fun _ hS => zJ (u := v) ag24 rfl ((cC hS f) _ _ _ (ad 0 _ rfl))) d.pins (zQ (i := 23) rfl rfl rfl (zK rfl rfl rfl rfl) (by kernel_rfl) (fun _ _ => zX (v := vJ y) rfl) d.pins (zQ (i := 24) rfl rfl rfl (zK rfl rfl rfl rfl) (by kernel_rfl) (fun _ _ => zE dD sz76 (v := v) rfl rfl hv (by omega) (by omega)) d.pins (zQ (i := 25) rfl rfl rfl (zK rfl rfl rfl rfl) (by kernel_rfl) (fun _ _ => yP (off := 1) dH rfl rfl nz40 (z := y) (k := 0) rfl hv (by omega) (by omega)) d.pins ?_))))
 obtain ⟨be, ai, bf⟩ := jA (hv.at (z := y) (by omega) (by omega)) (j := (y).toNat) rfl
 have bt := ai.max
 refine zQ (i := 26) rfl rfl rfl (zK rfl rfl rfl rfl) (by kernel_rfl) (fun _ hS => bf ag40 rfl (cC hS (cB (cB q m) f))) d.pins (zQ (i := 27) rfl rfl rfl (zK rfl rfl rfl rfl) (by kernel_rfl) (fun _ _ => zI (k := 1) rfl dE rfl nz3 rfl) d.pins (zQ (i := 28) rfl rfl rfl (zK rfl rfl rfl rfl) (by kernel_rfl) (fun _ hS => zJ (u := vJ c.b) ag3 rfl (hS _ _ _ (s 1 _ rfl))) d.pins ?_))
 refine dO (i := 29) (gE (i := 29) rfl rfl rfl (zK rfl rfl rfl rfl) (zP (vs := [be, vJ c.b]) Tryz.func74 nm74 rfl rfl rfl ?_))
 refine cD (jV d.pins (ai.mono (cB (cB q m) f))) ?_
 rintro _ _ ⟨rfl, rfl⟩
 refine rt9 (⟨fun _ => d.pins, ?_⟩)
 refine zQ (i := 30) rfl rfl rfl (zK rfl rfl rfl rfl) (by kernel_rfl) (fun _ _ => yL (v := .bool (decide (c.b ∈ ((bs.getD (y).toNat default).r)))) rfl rfl) d.pins (dT (i := 31) rfl rfl (by kernel_rfl) (fun _ _ => yM (v := .bool (decide (c.b ∈ ((bs.getD (y).toNat default).r)))) rfl rfl) d.pins ?_)
 refine dM 32 (.bool (decide (c.b ∈ ((bs.getD (y).toNat default).r)))) d.pins ?_
 exact yH (by kernel_rfl) (zA (cO (zT (zS (v := .bool (decide (c.b ∈ ((bs.getD (y).toNat default).r)))) rfl rfl rfl (⟨_, cgA eB (decide_eq_decide.2 ⟨fun g => mem_rights.2 (by first | exact cG ⟨by omega, g⟩ | exact cF ⟨by omega, g⟩), fun g => by rcases mem_rights.1 g with ⟨o, h⟩ | ⟨o, h⟩ <;> first | exact h | contradiction | omega⟩), d⟩)))))
 refine zH (i := 21) rfl rfl (zM rfl rfl rfl rfl rfl) (by kernel_rfl) d.pins (zH (i := 22) rfl rfl (zM rfl rfl rfl rfl rfl) (by kernel_rfl) d.pins (zH (i := 23) rfl rfl (zM rfl rfl rfl rfl rfl) (by kernel_rfl) d.pins (zH (i := 24) rfl rfl (zM rfl rfl rfl rfl rfl) (by kernel_rfl) d.pins (zH (i := 25) rfl rfl (zM rfl rfl rfl rfl rfl) (by kernel_rfl) d.pins (zH (i := 26) rfl rfl (zM rfl rfl rfl rfl rfl) (by kernel_rfl) d.pins (zH (i := 27) rfl rfl (zM rfl rfl rfl rfl rfl) (by kernel_rfl) d.pins (zH (i := 28) rfl rfl (zM rfl rfl rfl rfl rfl) (by kernel_rfl) d.pins (zH (i := 29) rfl rfl (zM rfl rfl rfl rfl rfl) (by kernel_rfl) d.pins (zQ (i := 30) rfl rfl rfl (zK rfl rfl rfl rfl) (by kernel_rfl) (fun _ _ => yM (v := .bool false) rfl rfl) d.pins (dT (i := 31) rfl rfl (by kernel_rfl) (fun _ _ => yM (v := .bool false) rfl rfl) d.pins ?_))))))))))
 refine dM 32 (.bool false) d.pins ?_
 exact yH (by kernel_rfl) (zA (cO (zT (zS (v := .bool false) rfl rfl rfl (⟨_, cgA eB (decide_eq_false (fun g => by rcases mem_rights.1 g with ⟨o, h⟩ | ⟨o, h⟩ <;> first | contradiction | omega)).symm, d⟩)))))
theorem eC {w : World} {c : Cl} {r : Int} (hP : Pins G w) (hu : RSl eNode G u ns) (hv : RSl eNode G v bs) (hx : 0 ≤ y ∧ y < ns.length) (hy : 0 ≤ r ∧ r < bs.length) :
  Calls Tryz.prog 54 [.agg #[u], .agg #[v], vJ r, .agg #[vJ c.a, vJ c.b, cr, cl], vJ y].toArray w fun e w' => ∃ G', e = .returned (.bool (decide ((c.a, c.b) ∈ leftsP ns bs y r))) ∧ Ext noS G w G' w' := by
 refine yC (n := 43) Tryz.func54 Tryz.ntmps54 rfl rfl ?_
 have x := exr noS hP
 refine w9d ?_
 refine qI rfl (xL [u] (v := .agg #[u]) rfl rfl x.pins (fun b1 w2 bh ak al am => ?_))
 have an := x.step al am
 have ao : w.heap.size ≤ b1 := by have := x.size; omega
 obtain ⟨G9, q, aa, ap, bj⟩ := ak.shut an ao
 refine qI rfl (xL [v] (v := .agg #[v]) rfl rfl aa.pins (fun aq bk bl ar au av => ?_))
 have aw := aa.step au av
 have ax : w.heap.size ≤ aq := by have := aa.size; omega
 obtain ⟨bm, m, ab, ad, bn⟩ := ar.shut aw ax
 refine qI rfl (xL [vJ c.a, vJ c.b, cr, cl] (v := .agg #[vJ c.a, vJ c.b, cr, cl]) rfl rfl ab.pins (fun ay ac bo az a0 a1 => ?_))
 have a2 := ab.step a0 a1
 have a3 : w.heap.size ≤ ay := by have := ab.size; omega
 obtain ⟨a4, f, ae, s, bp⟩ := az.shut a2 a3
 refine qM (.bool false) ?_
 refine qe (zA (zB ?_))
 refine yT (S := fun wz => Pins a4 wz) (last := 33) (by kernel_rfl) rfl ?_
 have af := bdr ac
 have a5 := ae.pins.below af
 have d := ae.step a5 af
 refine dT (i := 0) rfl rfl (by kernel_rfl) (fun _ _ => zI (k := 1) rfl dE rfl nz3 rfl) d.pins ?_
 refine dT (i := 1) rfl rfl (by kernel_rfl) (fun _ hS => zJ (u := vJ c.b) ag3 rfl (hS _ _ _ (s 1 _ rfl))) d.pins ?_
 refine dM 2 (vJ r) d.pins ?_
 refine dT (i := 3) rfl rfl (by kernel_rfl) (fun _ _ => qL rfl rfl) d.pins ?_
 refine dM 4 (.bool (decide ((c.b : Int) = r))) d.pins ?_
 refine drbd (p := (c.b : Int) = r) (t := 15) rfl (fun a6 => ?_) (fun a6 => ?_)
 refine zQ (i := 5) rfl rfl rfl (zK rfl rfl rfl rfl) (by kernel_rfl) (fun _ _ => zI (k := 0) rfl dF rfl nz24 rfl) d.pins (zQ (i := 6) rfl rfl rfl (zK rfl rfl rfl rfl) (by kernel_rfl) (fun _ hS => zJ (u := u) ag24 rfl ((cC hS (cB m f)) _ _ _ (ap 0 _ rfl))) d.pins (zQ (i := 7) rfl rfl rfl (zK rfl rfl rfl rfl) (by kernel_rfl) (fun _ _ => zX (v := vJ y) rfl) d.pins (zQ (i := 8) rfl rfl rfl (zK rfl rfl rfl rfl) (by kernel_rfl) (fun _ _ => zE dD sz76 (v := u) rfl rfl hu (by omega) (by omega)) d.pins (zQ (i := 9) rfl rfl rfl (zK rfl rfl rfl rfl) (by kernel_rfl) (fun _ _ => yP (off := 0) dH rfl rfl nz40 (z := y) (k := 0) rfl hu (by omega) (by omega)) d.pins ?_))))
 obtain ⟨a7, ag, a8⟩ := jD (hu.at (z := y) (by omega) (by omega)) (j := (y).toNat) rfl
 have bq := ag.max
 refine zQ (i := 10) rfl rfl rfl (zK rfl rfl rfl rfl) (by kernel_rfl) (fun _ hS => a8 ag40 rfl (cC hS (cB (cB q m) f))) d.pins (zQ (i := 11) rfl rfl rfl (zK rfl rfl rfl rfl) (by kernel_rfl) (fun _ _ => zI (k := 0) rfl dE rfl nz3 rfl) d.pins (zQ (i := 12) rfl rfl rfl (zK rfl rfl rfl rfl) (by kernel_rfl) (fun _ hS => zJ (u := vJ c.a) ag3 rfl (hS _ _ _ (s 0 _ rfl))) d.pins ?_))
 refine dO (i := 13) (gE (i := 13) rfl rfl rfl (zK rfl rfl rfl rfl) (zP (vs := [a7, vJ c.a]) Tryz.func74 nm74 rfl rfl rfl ?_))
 refine cD (jV d.pins (ag.mono (cB (cB q m) f))) ?_
 rintro _ _ ⟨rfl, rfl⟩
 refine rt9 (⟨fun _ => d.pins, ?_⟩)
 refine dT (i := 14) rfl rfl (by kernel_rfl) (fun _ _ => yL (v := .bool (decide (c.a ∈ ((ns.getD (y).toNat default).l)))) rfl rfl) d.pins ?_
 refine dM 15 (.bool (decide (c.a ∈ ((ns.getD (y).toNat default).l)))) d.pins ?_
 refine drbd (p := c.a ∈ ((ns.getD (y).toNat default).l)) (t := 26) rfl (fun a9 => ?_) (fun a9 => ?_)
 refine zH (i := 16) rfl rfl (zM rfl rfl rfl rfl rfl) (by kernel_rfl) d.pins (zH (i := 17) rfl rfl (zM rfl rfl rfl rfl rfl) (by kernel_rfl) d.pins (zH (i := 18) rfl rfl (zM rfl rfl rfl rfl rfl) (by kernel_rfl) d.pins (zH (i := 19) rfl rfl (zM rfl rfl rfl rfl rfl) (by kernel_rfl) d.pins (zH (i := 20) rfl rfl (zM rfl rfl rfl rfl rfl) (by kernel_rfl) d.pins (zH (i := 21) rfl rfl (yU rfl rfl rfl rfl) (by kernel_rfl) d.pins (zH (i := 22) rfl rfl (yU rfl rfl rfl rfl) (by kernel_rfl) d.pins (zH (i := 23) rfl rfl (yU rfl rfl rfl rfl) (by kernel_rfl) d.pins (zH (i := 24) rfl rfl (yU rfl rfl rfl rfl) (by kernel_rfl) d.pins (zH (i := 25) rfl rfl (yU rfl rfl rfl rfl) (by kernel_rfl) d.pins (zH (i := 26) rfl rfl (yU rfl rfl rfl rfl) (by kernel_rfl) d.pins (zH (i := 27) rfl rfl (yU rfl rfl rfl rfl) (by kernel_rfl) d.pins (zH (i := 28) rfl rfl (yU rfl rfl rfl rfl) (by kernel_rfl) d.pins (zH (i := 29) rfl rfl (yU rfl rfl rfl rfl) (by kernel_rfl) d.pins (zH (i := 30) rfl rfl (zM rfl rfl rfl rfl rfl) (by kernel_rfl) d.pins (dT (i := 31) rfl rfl (by kernel_rfl) (fun _ _ => yL (v := .bool true) rfl rfl) d.pins ?_)))))))))))))))
 refine dM 32 (.bool true) d.pins ?_
 exact yH (by kernel_rfl) (zA (cO (zT (zS (v := .bool true) rfl rfl rfl (⟨_, cgA eB (decide_eq_true (mem_lefts.2 (by first | exact cF ⟨by omega, by assumption⟩ | exact cG ⟨by omega, by assumption⟩))).symm, d⟩)))))
 refine zQ (i := 16) rfl rfl rfl (zK rfl rfl rfl rfl) (by kernel_rfl) (fun _ _ => zI (k := 0) rfl dE rfl nz3 rfl) d.pins (zQ (i := 17) rfl rfl rfl (zK rfl rfl rfl rfl) (by kernel_rfl) (fun _ hS => zJ (u := vJ c.a) ag3 rfl (hS _ _ _ (s 0 _ rfl))) d.pins (zQ (i := 18) rfl rfl rfl (zK rfl rfl rfl rfl) (by kernel_rfl) (fun _ _ => zX (v := vJ y) rfl) d.pins (zQ (i := 19) rfl rfl rfl (zK rfl rfl rfl rfl) (by kernel_rfl) (fun _ _ => qL rfl rfl) d.pins (zQ (i := 20) rfl rfl rfl (zK rfl rfl rfl rfl) (by kernel_rfl) (fun _ _ => zX (v := .bool (decide ((c.a : Int) = y))) rfl) d.pins (drbd (p := (c.a : Int) = y) (t := 31) rfl (fun ba => ?_) (fun ba => ?_))))))
 refine zQ (i := 21) rfl rfl rfl (zK rfl rfl rfl rfl) (by kernel_rfl) (fun _ _ => zI (k := 0) rfl dF rfl nz24 rfl) d.pins (zQ (i := 22) rfl rfl rfl (zK rfl rfl rfl rfl) (by kernel_rfl) (fun _ hS => zJ (u := v) ag24 rfl ((cC hS f) _ _ _ (ad 0 _ rfl))) d.pins (zQ (i := 23) rfl rfl rfl (zK rfl rfl rfl rfl) (by kernel_rfl) (fun _ _ => zX (v := vJ r) rfl) d.pins (zQ (i := 24) rfl rfl rfl (zK rfl rfl rfl rfl) (by kernel_rfl) (fun _ _ => zE dD sz76 (v := v) rfl rfl hv (by omega) (by omega)) d.pins (zQ (i := 25) rfl rfl rfl (zK rfl rfl rfl rfl) (by kernel_rfl) (fun _ _ => yP (off := 1) dH rfl rfl nz40 (z := r) (k := 0) rfl hv (by omega) (by omega)) d.pins ?_))))
 obtain ⟨bb, ah, bc⟩ := jA (hv.at (z := r) (by omega) (by omega)) (j := (r).toNat) rfl
 have br := ah.max
 refine zQ (i := 26) rfl rfl rfl (zK rfl rfl rfl rfl) (by kernel_rfl) (fun _ hS => bc ag40 rfl (cC hS (cB (cB q m) f))) d.pins (zQ (i := 27) rfl rfl rfl (zK rfl rfl rfl rfl) (by kernel_rfl) (fun _ _ => zI (k := 1) rfl dE rfl nz3 rfl) d.pins (zQ (i := 28) rfl rfl rfl (zK rfl rfl rfl rfl) (by kernel_rfl) (fun _ hS => zJ (u := vJ c.b) ag3 rfl (hS _ _ _ (s 1 _ rfl))) d.pins ?_))
 refine dO (i := 29) (gE (i := 29) rfl rfl rfl (zK rfl rfl rfl rfl) (zP (vs := [bb, vJ c.b]) Tryz.func74 nm74 rfl rfl rfl ?_))
 refine cD (jV d.pins (ah.mono (cB (cB q m) f))) ?_
 rintro _ _ ⟨rfl, rfl⟩
 refine rt9 (⟨fun _ => d.pins, ?_⟩)
 refine zQ (i := 30) rfl rfl rfl (zK rfl rfl rfl rfl) (by kernel_rfl) (fun _ _ => yL (v := .bool (decide (c.b ∈ ((bs.getD (r).toNat default).r)))) rfl rfl) d.pins (dT (i := 31) rfl rfl (by kernel_rfl) (fun _ _ => yM (v := .bool (decide (c.b ∈ ((bs.getD (r).toNat default).r)))) rfl rfl) d.pins ?_)
 refine dM 32 (.bool (decide (c.b ∈ ((bs.getD (r).toNat default).r)))) d.pins ?_
 exact yH (by kernel_rfl) (zA (cO (zT (zS (v := .bool (decide (c.b ∈ ((bs.getD (r).toNat default).r)))) rfl rfl rfl (⟨_, cgA eB (decide_eq_decide.2 ⟨fun g => mem_lefts.2 (by first | exact cG ⟨by omega, g⟩ | exact cF ⟨by omega, g⟩), fun g => by rcases mem_lefts.1 g with ⟨o, h⟩ | ⟨o, h⟩ <;> first | exact h | contradiction | omega⟩), d⟩)))))
 refine zH (i := 21) rfl rfl (zM rfl rfl rfl rfl rfl) (by kernel_rfl) d.pins (zH (i := 22) rfl rfl (zM rfl rfl rfl rfl rfl) (by kernel_rfl) d.pins (zH (i := 23) rfl rfl (zM rfl rfl rfl rfl rfl) (by kernel_rfl) d.pins (zH (i := 24) rfl rfl (zM rfl rfl rfl rfl rfl) (by kernel_rfl) d.pins (zH (i := 25) rfl rfl (zM rfl rfl rfl rfl rfl) (by kernel_rfl) d.pins (zH (i := 26) rfl rfl (zM rfl rfl rfl rfl rfl) (by kernel_rfl) d.pins (zH (i := 27) rfl rfl (zM rfl rfl rfl rfl rfl) (by kernel_rfl) d.pins (zH (i := 28) rfl rfl (zM rfl rfl rfl rfl rfl) (by kernel_rfl) d.pins (zH (i := 29) rfl rfl (zM rfl rfl rfl rfl rfl) (by kernel_rfl) d.pins (zQ (i := 30) rfl rfl rfl (zK rfl rfl rfl rfl) (by kernel_rfl) (fun _ _ => yM (v := .bool false) rfl rfl) d.pins (dT (i := 31) rfl rfl (by kernel_rfl) (fun _ _ => yM (v := .bool false) rfl rfl) d.pins ?_))))))))))
 refine dM 32 (.bool false) d.pins ?_
 exact yH (by kernel_rfl) (zA (cO (zT (zS (v := .bool false) rfl rfl rfl (⟨_, cgA eB (decide_eq_false (fun g => by rcases mem_lefts.1 g with ⟨o, h⟩ | ⟨o, h⟩ <;> first | contradiction | omega)).symm, d⟩)))))
 refine zH (i := 5) rfl rfl (zM rfl rfl rfl rfl rfl) (by kernel_rfl) d.pins (zH (i := 6) rfl rfl (zM rfl rfl rfl rfl rfl) (by kernel_rfl) d.pins (zH (i := 7) rfl rfl (zM rfl rfl rfl rfl rfl) (by kernel_rfl) d.pins (zH (i := 8) rfl rfl (zM rfl rfl rfl rfl rfl) (by kernel_rfl) d.pins (zH (i := 9) rfl rfl (zM rfl rfl rfl rfl rfl) (by kernel_rfl) d.pins (zH (i := 10) rfl rfl (zM rfl rfl rfl rfl rfl) (by kernel_rfl) d.pins (zH (i := 11) rfl rfl (zM rfl rfl rfl rfl rfl) (by kernel_rfl) d.pins (zH (i := 12) rfl rfl (zM rfl rfl rfl rfl rfl) (by kernel_rfl) d.pins (zH (i := 13) rfl rfl (zM rfl rfl rfl rfl rfl) (by kernel_rfl) d.pins (dT (i := 14) rfl rfl (by kernel_rfl) (fun _ _ => yM (v := .bool false) rfl rfl) d.pins ?_)))))))))
 refine dM 15 (.bool false) d.pins ?_
 refine zQ (i := 16) rfl rfl rfl (zK rfl rfl rfl rfl) (by kernel_rfl) (fun _ _ => zI (k := 0) rfl dE rfl nz3 rfl) d.pins (zQ (i := 17) rfl rfl rfl (zK rfl rfl rfl rfl) (by kernel_rfl) (fun _ hS => zJ (u := vJ c.a) ag3 rfl (hS _ _ _ (s 0 _ rfl))) d.pins (zQ (i := 18) rfl rfl rfl (zK rfl rfl rfl rfl) (by kernel_rfl) (fun _ _ => zX (v := vJ y) rfl) d.pins (zQ (i := 19) rfl rfl rfl (zK rfl rfl rfl rfl) (by kernel_rfl) (fun _ _ => qL rfl rfl) d.pins (zQ (i := 20) rfl rfl rfl (zK rfl rfl rfl rfl) (by kernel_rfl) (fun _ _ => zX (v := .bool (decide ((c.a : Int) = y))) rfl) d.pins (drbd (p := (c.a : Int) = y) (t := 31) rfl (fun bd => ?_) (fun bd => ?_))))))
 refine zQ (i := 21) rfl rfl rfl (zK rfl rfl rfl rfl) (by kernel_rfl) (fun _ _ => zI (k := 0) rfl dF rfl nz24 rfl) d.pins (zQ (i := 22) rfl rfl rfl (zK rfl rfl rfl rfl) (by kernel_rfl) (fun _ hS => zJ (u := v) ag24 rfl ((cC hS f) _ _ _ (ad 0 _ rfl))) d.pins (zQ (i := 23) rfl rfl rfl (zK rfl rfl rfl rfl) (by kernel_rfl) (fun _ _ => zX (v := vJ r) rfl) d.pins (zQ (i := 24) rfl rfl rfl (zK rfl rfl rfl rfl) (by kernel_rfl) (fun _ _ => zE dD sz76 (v := v) rfl rfl hv (by omega) (by omega)) d.pins (zQ (i := 25) rfl rfl rfl (zK rfl rfl rfl rfl) (by kernel_rfl) (fun _ _ => yP (off := 1) dH rfl rfl nz40 (z := r) (k := 0) rfl hv (by omega) (by omega)) d.pins ?_))))
 obtain ⟨be, ai, bf⟩ := jA (hv.at (z := r) (by omega) (by omega)) (j := (r).toNat) rfl
 have bt := ai.max
 refine zQ (i := 26) rfl rfl rfl (zK rfl rfl rfl rfl) (by kernel_rfl) (fun _ hS => bf ag40 rfl (cC hS (cB (cB q m) f))) d.pins (zQ (i := 27) rfl rfl rfl (zK rfl rfl rfl rfl) (by kernel_rfl) (fun _ _ => zI (k := 1) rfl dE rfl nz3 rfl) d.pins (zQ (i := 28) rfl rfl rfl (zK rfl rfl rfl rfl) (by kernel_rfl) (fun _ hS => zJ (u := vJ c.b) ag3 rfl (hS _ _ _ (s 1 _ rfl))) d.pins ?_))
 refine dO (i := 29) (gE (i := 29) rfl rfl rfl (zK rfl rfl rfl rfl) (zP (vs := [be, vJ c.b]) Tryz.func74 nm74 rfl rfl rfl ?_))
 refine cD (jV d.pins (ai.mono (cB (cB q m) f))) ?_
 rintro _ _ ⟨rfl, rfl⟩
 refine rt9 (⟨fun _ => d.pins, ?_⟩)
 refine zQ (i := 30) rfl rfl rfl (zK rfl rfl rfl rfl) (by kernel_rfl) (fun _ _ => yL (v := .bool (decide (c.b ∈ ((bs.getD (r).toNat default).r)))) rfl rfl) d.pins (dT (i := 31) rfl rfl (by kernel_rfl) (fun _ _ => yM (v := .bool (decide (c.b ∈ ((bs.getD (r).toNat default).r)))) rfl rfl) d.pins ?_)
 refine dM 32 (.bool (decide (c.b ∈ ((bs.getD (r).toNat default).r)))) d.pins ?_
 exact yH (by kernel_rfl) (zA (cO (zT (zS (v := .bool (decide (c.b ∈ ((bs.getD (r).toNat default).r)))) rfl rfl rfl (⟨_, cgA eB (decide_eq_decide.2 ⟨fun g => mem_lefts.2 (by first | exact cG ⟨by omega, g⟩ | exact cF ⟨by omega, g⟩), fun g => by rcases mem_lefts.1 g with ⟨o, h⟩ | ⟨o, h⟩ <;> first | exact h | contradiction | omega⟩), d⟩)))))
 refine zH (i := 21) rfl rfl (zM rfl rfl rfl rfl rfl) (by kernel_rfl) d.pins (zH (i := 22) rfl rfl (zM rfl rfl rfl rfl rfl) (by kernel_rfl) d.pins (zH (i := 23) rfl rfl (zM rfl rfl rfl rfl rfl) (by kernel_rfl) d.pins (zH (i := 24) rfl rfl (zM rfl rfl rfl rfl rfl) (by kernel_rfl) d.pins (zH (i := 25) rfl rfl (zM rfl rfl rfl rfl rfl) (by kernel_rfl) d.pins (zH (i := 26) rfl rfl (zM rfl rfl rfl rfl rfl) (by kernel_rfl) d.pins (zH (i := 27) rfl rfl (zM rfl rfl rfl rfl rfl) (by kernel_rfl) d.pins (zH (i := 28) rfl rfl (zM rfl rfl rfl rfl rfl) (by kernel_rfl) d.pins (zH (i := 29) rfl rfl (zM rfl rfl rfl rfl rfl) (by kernel_rfl) d.pins (zQ (i := 30) rfl rfl rfl (zK rfl rfl rfl rfl) (by kernel_rfl) (fun _ _ => yM (v := .bool false) rfl rfl) d.pins (dT (i := 31) rfl rfl (by kernel_rfl) (fun _ _ => yM (v := .bool false) rfl rfl) d.pins ?_))))))))))
 refine dM 32 (.bool false) d.pins ?_
 exact yH (by kernel_rfl) (zA (cO (zT (zS (v := .bool false) rfl rfl rfl (⟨_, cgA eB (decide_eq_false (fun g => by rcases mem_lefts.1 g with ⟨o, h⟩ | ⟨o, h⟩ <;> first | contradiction | omega)).symm, d⟩)))))
theorem tT {w : World} {x : Value} (hP : Pins G w) (ha : RSl eNode G v ns) (hb : RSl eNode G x bs) (hu : RSl eClaim G u ps) :
  Calls Tryz.prog 7 [.agg #[v], .agg #[x], .agg #[u]].toArray w fun e w' => ∃ G', e = .returned (.tuple #[.bool (cpB ns bs ps), .bool (goodB ns && goodB bs)]) ∧ Ext noS G w G' w' := by
 refine yC (n := 101) Tryz.func7 Tryz.ntmps7 rfl rfl ?_
 have ap := exr noS hP
 have hmu := hu.max
 have hma := ha.max
 have hmb := hb.max
 refine w9d ?_
 refine qI rfl (xL [v] (v := .agg #[v]) rfl rfl ap.pins (fun b1 w2 df bq br bt => ?_))
 have bu := ap.step br bt
 have bv : w.heap.size ≤ b1 := by have := ap.size; omega
 obtain ⟨G9, ad, aq, ak, dh⟩ := bq.shut bu bv
 refine qI rfl (xL [x] (v := .agg #[x]) rfl rfl aq.pins (fun a8 di dj bw bx bz => ?_))
 have b0 := aq.step bx bz
 have b2 : w.heap.size ≤ a8 := by have := aq.size; omega
 obtain ⟨dk, y, ar, al, dl⟩ := bw.shut b0 b2
 refine qI rfl (xL [u] (v := .agg #[u]) rfl rfl ar.pins (fun a9 dm dn b3 b4 b5 => ?_))
 have b6 := ar.step b4 b5
 have b7 : w.heap.size ≤ a9 := by have := ar.size; omega
 obtain ⟨dp, h, au, aj, dq⟩ := b3.shut b6 b7
 refine qM (.bool false) ?_
 refine qM (.bool false) ?_
 refine qe (zA (w9b ?_))
 refine qD rfl (zU (cs := [v]) ag26 sz26 rfl (fun j u hj => (cC au.pins (cB y h)) _ _ _ (ak _ _ (by simpa using hj)))) (qI rfl (zP (vs := [.agg #[v]]) Tryz.func19 nm19 rfl rfl rfl ?_))
 refine cD (qR au.pins (ha.mono (cB (cB ad y) h))) ?_
 rintro _ dr ⟨ds, rfl, d⟩
 refine rt9 ?_
 have an := au.tr d
 refine qD rfl (xN rfl) (qM (.bool (!(goodB ns))) ?_)
 refine qbn (t := 15) rfl (fun ae => ?_) (fun ae => ?_)
 refine qN (zU (cs := [x]) ag26 sz26 rfl (fun j u hj => (cC an.pins (cB h d.le)) _ _ _ (al _ _ (by simpa using hj)))) ?_
 refine q1g rfl rfl rfl rfl rfl rfl (zP (vs := [.agg #[x]]) Tryz.func19 nm19 rfl rfl rfl ?_)
 refine cD (qR an.pins (hb.mono (cB (cB (cB ad y) h) d.le))) ?_
 rintro _ av ⟨aw, rfl, f⟩
 refine rt9 ?_
 have ao := an.tr f
 refine qN (xN rfl) ?_
 refine qD rfl (yM (v := .bool (!(goodB bs))) rfl rfl) (qe (zA ?_))
 refine qO rfl rfl (fun af => ?_) (fun af => ?_)
 refine cN (w9a ?_)
 have hga : GoodP ns := goodB_true.1 ae
 have hgb : GoodP bs := goodB_true.1 af
 have hloa := hga.lo
 have hlob := hgb.lo
 refine qD rfl (zI (k := 0) rfl dI rfl nz27 rfl) (qD rfl (zJ (u := u) ag27 rfl ((cC ao.pins (cB d.le f.le)) _ _ _ (aj 0 _ rfl))) (qD rfl (zN dG (v := u) rfl hu) (qM (vJ (ps.length : Int)) ?_)))
 refine qe (zA (zB (zB ?_)))
 refine yT (S := fun wz => Pins aw wz) (last := 34) (by kernel_rfl) rfl ?_
 have ba := bdr av
 have b8 := ao.pins.below ba
 have c := ao.step b8 ba
 refine dM 0 (vJ (ps.length : Int)) c.pins ?_
 refine dT (i := 1) rfl rfl (by kernel_rfl) (fun _ _ => yQ rfl rfl) c.pins ?_
 refine dM 2 (.bool (decide (((ps.length : Int) : Int) < 1))) c.pins ?_
 refine drbd (p := ((ps.length : Int) : Int) < 1) (t := 25) rfl (fun b9 => ?_) (fun b9 => ?_)
 refine zH (i := 3) rfl rfl (zM rfl rfl rfl rfl rfl) (by kernel_rfl) c.pins (zH (i := 4) rfl rfl (zM rfl rfl rfl rfl rfl) (by kernel_rfl) c.pins (dT (i := 5) rfl rfl (by kernel_rfl) (fun _ _ => yL (v := .bool true) rfl rfl) c.pins ?_))
 refine dM 6 (.bool true) c.pins ?_
 refine zH (i := 7) rfl rfl (zM rfl rfl rfl rfl rfl) (by kernel_rfl) c.pins (zH (i := 8) rfl rfl (zM rfl rfl rfl rfl rfl) (by kernel_rfl) c.pins (zH (i := 9) rfl rfl (zM rfl rfl rfl rfl rfl) (by kernel_rfl) c.pins (zH (i := 10) rfl rfl (zM rfl rfl rfl rfl rfl) (by kernel_rfl) c.pins (zH (i := 11) rfl rfl (zM rfl rfl rfl rfl rfl) (by kernel_rfl) c.pins (zH (i := 12) rfl rfl (zM rfl rfl rfl rfl rfl) (by kernel_rfl) c.pins (zH (i := 13) rfl rfl (zM rfl rfl rfl rfl rfl) (by kernel_rfl) c.pins (zH (i := 14) rfl rfl (zM rfl rfl rfl rfl rfl) (by kernel_rfl) c.pins (zH (i := 15) rfl rfl (zM rfl rfl rfl rfl rfl) (by kernel_rfl) c.pins (zH (i := 16) rfl rfl (zM rfl rfl rfl rfl rfl) (by kernel_rfl) c.pins (zH (i := 17) rfl rfl (zM rfl rfl rfl rfl rfl) (by kernel_rfl) c.pins (zH (i := 18) rfl rfl (zM rfl rfl rfl rfl rfl) (by kernel_rfl) c.pins (dT (i := 19) rfl rfl (by kernel_rfl) (fun _ _ => yL (v := .bool true) rfl rfl) c.pins ?_))))))))))))
 refine dM 20 (.bool true) c.pins ?_
 refine zH (i := 21) rfl rfl (zM rfl rfl rfl rfl rfl) (by kernel_rfl) c.pins (zH (i := 22) rfl rfl (zM rfl rfl rfl rfl rfl) (by kernel_rfl) c.pins (zH (i := 23) rfl rfl (zM rfl rfl rfl rfl rfl) (by kernel_rfl) c.pins (zH (i := 24) rfl rfl (zM rfl rfl rfl rfl rfl) (by kernel_rfl) c.pins (zH (i := 25) rfl rfl (zM rfl rfl rfl rfl rfl) (by kernel_rfl) c.pins (zH (i := 26) rfl rfl (zM rfl rfl rfl rfl rfl) (by kernel_rfl) c.pins (zH (i := 27) rfl rfl (zM rfl rfl rfl rfl rfl) (by kernel_rfl) c.pins (zH (i := 28) rfl rfl (zM rfl rfl rfl rfl rfl) (by kernel_rfl) c.pins (zH (i := 29) rfl rfl (zM rfl rfl rfl rfl rfl) (by kernel_rfl) c.pins (zH (i := 30) rfl rfl (zM rfl rfl rfl rfl rfl) (by kernel_rfl) c.pins (zH (i := 31) rfl rfl (zM rfl rfl rfl rfl rfl) (by kernel_rfl) c.pins (zH (i := 32) rfl rfl (zM rfl rfl rfl rfl rfl) (by kernel_rfl) c.pins (dT (i := 33) rfl rfl (by kernel_rfl) (fun _ _ => yL (v := .bool true) rfl rfl) c.pins ?_))))))))))))
 refine yH (by kernel_rfl) (zA (xY rfl rfl (w9d ?_)))
 refine qM (.bool false) ?_
 refine qM (.bool true) ?_
 refine qe (zA ?_)
 refine cO (zT (qF (v := .bool false) (u := .bool true) rfl rfl rfl rfl rfl ?_))
 obtain ⟨o, r⟩ := @tH ns bs ps ae af (fun g => by have h1 := g.n; have h2 := g.la; have h3 := g.lb; rw [show ps.length - 1 = ((ps.length : Int) - 1).toNat by omega] at h2 h3; omega)
 exact ⟨_, by rw [o, r], c⟩
 refine zQ (i := 3) rfl rfl rfl (zK rfl rfl rfl rfl) (by kernel_rfl) (fun _ _ => zX (v := vJ (ps.length : Int)) rfl) c.pins (zQ (i := 4) rfl rfl rfl (zK rfl rfl rfl rfl) (by kernel_rfl) (fun _ _ => jR rfl rfl) c.pins (dT (i := 5) rfl rfl (by kernel_rfl) (fun _ _ => yM (v := .bool (decide ((200 : Int) < (ps.length : Int)))) rfl rfl) c.pins ?_))
 refine dM 6 (.bool (decide ((200 : Int) < (ps.length : Int)))) c.pins ?_
 refine drbd (p := (200 : Int) < (ps.length : Int)) (t := 29) rfl (fun ca => ?_) (fun ca => ?_)
 refine zH (i := 7) rfl rfl (zM rfl rfl rfl rfl rfl) (by kernel_rfl) c.pins (zH (i := 8) rfl rfl (zM rfl rfl rfl rfl rfl) (by kernel_rfl) c.pins (zH (i := 9) rfl rfl (zM rfl rfl rfl rfl rfl) (by kernel_rfl) c.pins (zH (i := 10) rfl rfl (zM rfl rfl rfl rfl rfl) (by kernel_rfl) c.pins (zH (i := 11) rfl rfl (zM rfl rfl rfl rfl rfl) (by kernel_rfl) c.pins (zH (i := 12) rfl rfl (zM rfl rfl rfl rfl rfl) (by kernel_rfl) c.pins (zH (i := 13) rfl rfl (zM rfl rfl rfl rfl rfl) (by kernel_rfl) c.pins (zH (i := 14) rfl rfl (zM rfl rfl rfl rfl rfl) (by kernel_rfl) c.pins (zH (i := 15) rfl rfl (zM rfl rfl rfl rfl rfl) (by kernel_rfl) c.pins (zH (i := 16) rfl rfl (zM rfl rfl rfl rfl rfl) (by kernel_rfl) c.pins (zH (i := 17) rfl rfl (zM rfl rfl rfl rfl rfl) (by kernel_rfl) c.pins (zH (i := 18) rfl rfl (zM rfl rfl rfl rfl rfl) (by kernel_rfl) c.pins (dT (i := 19) rfl rfl (by kernel_rfl) (fun _ _ => yL (v := .bool true) rfl rfl) c.pins ?_))))))))))))
 refine dM 20 (.bool true) c.pins ?_
 refine zH (i := 21) rfl rfl (zM rfl rfl rfl rfl rfl) (by kernel_rfl) c.pins (zH (i := 22) rfl rfl (zM rfl rfl rfl rfl rfl) (by kernel_rfl) c.pins (zH (i := 23) rfl rfl (zM rfl rfl rfl rfl rfl) (by kernel_rfl) c.pins (zH (i := 24) rfl rfl (zM rfl rfl rfl rfl rfl) (by kernel_rfl) c.pins (zH (i := 25) rfl rfl (zM rfl rfl rfl rfl rfl) (by kernel_rfl) c.pins (zH (i := 26) rfl rfl (zM rfl rfl rfl rfl rfl) (by kernel_rfl) c.pins (zH (i := 27) rfl rfl (zM rfl rfl rfl rfl rfl) (by kernel_rfl) c.pins (zH (i := 28) rfl rfl (zM rfl rfl rfl rfl rfl) (by kernel_rfl) c.pins (zH (i := 29) rfl rfl (zM rfl rfl rfl rfl rfl) (by kernel_rfl) c.pins (zH (i := 30) rfl rfl (zM rfl rfl rfl rfl rfl) (by kernel_rfl) c.pins (zH (i := 31) rfl rfl (zM rfl rfl rfl rfl rfl) (by kernel_rfl) c.pins (zH (i := 32) rfl rfl (zM rfl rfl rfl rfl rfl) (by kernel_rfl) c.pins (dT (i := 33) rfl rfl (by kernel_rfl) (fun _ _ => yL (v := .bool true) rfl rfl) c.pins ?_))))))))))))
 refine yH (by kernel_rfl) (zA (xY rfl rfl (w9d ?_)))
 refine qM (.bool false) ?_
 refine qM (.bool true) ?_
 refine qe (zA ?_)
 refine cO (zT (qF (v := .bool false) (u := .bool true) rfl rfl rfl rfl rfl ?_))
 obtain ⟨o, r⟩ := @tH ns bs ps ae af (fun g => by have h1 := g.n; have h2 := g.la; have h3 := g.lb; rw [show ps.length - 1 = ((ps.length : Int) - 1).toNat by omega] at h2 h3; omega)
 exact ⟨_, by rw [o, r], c⟩
 refine zQ (i := 7) rfl rfl rfl (zK rfl rfl rfl rfl) (by kernel_rfl) (fun _ _ => zI (k := 0) rfl dI rfl nz27 rfl) c.pins (zQ (i := 8) rfl rfl rfl (zK rfl rfl rfl rfl) (by kernel_rfl) (fun _ hS => zJ (u := u) ag27 rfl ((cC hS (cB d.le f.le)) _ _ _ (aj 0 _ rfl))) c.pins (zQ (i := 9) rfl rfl rfl (zK rfl rfl rfl rfl) (by kernel_rfl) (fun _ _ => zX (v := vJ (ps.length : Int)) rfl) c.pins (zQ (i := 10) rfl rfl rfl (zK rfl rfl rfl rfl) (by kernel_rfl) (fun _ _ => xX rfl rfl (by omega)) c.pins (zQ (i := 11) rfl rfl rfl (zK rfl rfl rfl rfl) (by kernel_rfl) (fun _ _ => zE dG sz53 (v := u) rfl rfl hu (by omega) (by omega)) c.pins (zQ (i := 12) rfl rfl rfl (zK rfl rfl rfl rfl) (by kernel_rfl) (fun _ _ => yP (off := 0) dE rfl rfl nz3 (z := (ps.length : Int) - 1) (k := 0) rfl hu (by omega) (by omega)) c.pins ?_)))))
 obtain ⟨dt, cb, du, cc⟩ := qE (j := ((ps.length : Int) - 1).toNat) default (hu.at (z := (ps.length : Int) - 1) (by omega) (by omega)) rfl
 obtain ⟨dv, dw, rfl, cd, ce⟩ := cb
 have dx := cd.max
 have dy := ce.max
 refine zQ (i := 13) rfl rfl rfl (zK rfl rfl rfl rfl) (by kernel_rfl) (fun _ hS => cc 0 _ rfl ag3 rfl (cC hS (cB (cB (cB (cB ad y) h) d.le) f.le))) c.pins (zQ (i := 14) rfl rfl rfl (zK rfl rfl rfl rfl) (by kernel_rfl) (fun _ _ => zI (k := 0) rfl dF rfl nz24 rfl) c.pins (zQ (i := 15) rfl rfl rfl (zK rfl rfl rfl rfl) (by kernel_rfl) (fun _ hS => zJ (u := v) ag24 rfl ((cC hS (cB (cB (cB y h) d.le) f.le)) _ _ _ (ak 0 _ rfl))) c.pins (zQ (i := 16) rfl rfl rfl (zK rfl rfl rfl rfl) (by kernel_rfl) (fun _ _ => zN dD (v := v) rfl ha) c.pins (zQ (i := 17) rfl rfl rfl (zK rfl rfl rfl rfl) (by kernel_rfl) (fun _ _ => xX rfl rfl (by omega)) c.pins (zQ (i := 18) rfl rfl rfl (zK rfl rfl rfl rfl) (by kernel_rfl) (fun _ _ => jO rfl rfl) c.pins (dT (i := 19) rfl rfl (by kernel_rfl) (fun _ _ => yM (v := .bool (decide (((ps.getD ((ps.length : Int) - 1).toNat default).a : Int) ≠ ((ns.length : Int) - 1)))) rfl rfl) c.pins ?_))))))
 refine dM 20 (.bool (decide (((ps.getD ((ps.length : Int) - 1).toNat default).a : Int) ≠ ((ns.length : Int) - 1)))) c.pins ?_
 refine drbd (p := ((ps.getD ((ps.length : Int) - 1).toNat default).a : Int) ≠ ((ns.length : Int) - 1)) (t := 43) rfl (fun cf => ?_) (fun cf => ?_)
 refine zH (i := 21) rfl rfl (zM rfl rfl rfl rfl rfl) (by kernel_rfl) c.pins (zH (i := 22) rfl rfl (zM rfl rfl rfl rfl rfl) (by kernel_rfl) c.pins (zH (i := 23) rfl rfl (zM rfl rfl rfl rfl rfl) (by kernel_rfl) c.pins (zH (i := 24) rfl rfl (zM rfl rfl rfl rfl rfl) (by kernel_rfl) c.pins (zH (i := 25) rfl rfl (zM rfl rfl rfl rfl rfl) (by kernel_rfl) c.pins (zH (i := 26) rfl rfl (zM rfl rfl rfl rfl rfl) (by kernel_rfl) c.pins (zH (i := 27) rfl rfl (zM rfl rfl rfl rfl rfl) (by kernel_rfl) c.pins (zH (i := 28) rfl rfl (zM rfl rfl rfl rfl rfl) (by kernel_rfl) c.pins (zH (i := 29) rfl rfl (zM rfl rfl rfl rfl rfl) (by kernel_rfl) c.pins (zH (i := 30) rfl rfl (zM rfl rfl rfl rfl rfl) (by kernel_rfl) c.pins (zH (i := 31) rfl rfl (zM rfl rfl rfl rfl rfl) (by kernel_rfl) c.pins (zH (i := 32) rfl rfl (zM rfl rfl rfl rfl rfl) (by kernel_rfl) c.pins (dT (i := 33) rfl rfl (by kernel_rfl) (fun _ _ => yL (v := .bool true) rfl rfl) c.pins ?_))))))))))))
 refine yH (by kernel_rfl) (zA (xY rfl rfl (w9d ?_)))
 refine qM (.bool false) ?_
 refine qM (.bool true) ?_
 refine qe (zA ?_)
 refine cO (zT (qF (v := .bool false) (u := .bool true) rfl rfl rfl rfl rfl ?_))
 obtain ⟨o, r⟩ := @tH ns bs ps ae af (fun g => by have h1 := g.n; have h2 := g.la; have h3 := g.lb; rw [show ps.length - 1 = ((ps.length : Int) - 1).toNat by omega] at h2 h3; omega)
 exact ⟨_, by rw [o, r], c⟩
 refine zQ (i := 21) rfl rfl rfl (zK rfl rfl rfl rfl) (by kernel_rfl) (fun _ _ => zI (k := 0) rfl dI rfl nz27 rfl) c.pins (zQ (i := 22) rfl rfl rfl (zK rfl rfl rfl rfl) (by kernel_rfl) (fun _ hS => zJ (u := u) ag27 rfl ((cC hS (cB d.le f.le)) _ _ _ (aj 0 _ rfl))) c.pins (zQ (i := 23) rfl rfl rfl (zK rfl rfl rfl rfl) (by kernel_rfl) (fun _ _ => zX (v := vJ (ps.length : Int)) rfl) c.pins (zQ (i := 24) rfl rfl rfl (zK rfl rfl rfl rfl) (by kernel_rfl) (fun _ _ => xX rfl rfl (by omega)) c.pins (zQ (i := 25) rfl rfl rfl (zK rfl rfl rfl rfl) (by kernel_rfl) (fun _ _ => zE dG sz53 (v := u) rfl rfl hu (by omega) (by omega)) c.pins (zQ (i := 26) rfl rfl rfl (zK rfl rfl rfl rfl) (by kernel_rfl) (fun _ _ => yP (off := 1) dE rfl rfl nz3 (z := (ps.length : Int) - 1) (k := 0) rfl hu (by omega) (by omega)) c.pins ?_)))))
 obtain ⟨dz, cg, d0, ch⟩ := qE (j := ((ps.length : Int) - 1).toNat) default (hu.at (z := (ps.length : Int) - 1) (by omega) (by omega)) rfl
 obtain ⟨d1, d2, rfl, ci, cj⟩ := cg
 have d3 := ci.max
 have d4 := cj.max
 refine zQ (i := 27) rfl rfl rfl (zK rfl rfl rfl rfl) (by kernel_rfl) (fun _ hS => ch 1 _ rfl ag3 rfl (cC hS (cB (cB (cB (cB ad y) h) d.le) f.le))) c.pins (zQ (i := 28) rfl rfl rfl (zK rfl rfl rfl rfl) (by kernel_rfl) (fun _ _ => zI (k := 0) rfl dF rfl nz24 rfl) c.pins (zQ (i := 29) rfl rfl rfl (zK rfl rfl rfl rfl) (by kernel_rfl) (fun _ hS => zJ (u := x) ag24 rfl ((cC hS (cB (cB h d.le) f.le)) _ _ _ (al 0 _ rfl))) c.pins (zQ (i := 30) rfl rfl rfl (zK rfl rfl rfl rfl) (by kernel_rfl) (fun _ _ => zN dD (v := x) rfl hb) c.pins (zQ (i := 31) rfl rfl rfl (zK rfl rfl rfl rfl) (by kernel_rfl) (fun _ _ => xX rfl rfl (by omega)) c.pins (zQ (i := 32) rfl rfl rfl (zK rfl rfl rfl rfl) (by kernel_rfl) (fun _ _ => jO rfl rfl) c.pins (dT (i := 33) rfl rfl (by kernel_rfl) (fun _ _ => yM (v := .bool (decide (((ps.getD ((ps.length : Int) - 1).toNat default).b : Int) ≠ ((bs.length : Int) - 1)))) rfl rfl) c.pins ?_))))))
 refine yH (by kernel_rfl) (zA (yA (p := ((ps.getD ((ps.length : Int) - 1).toNat default).b : Int) ≠ ((bs.length : Int) - 1)) rfl rfl (fun ck => ?_) (fun ck => ?_)))
 refine w9d ?_
 refine qM (.bool false) ?_
 refine qM (.bool true) ?_
 refine qe (zA ?_)
 refine cO (zT (qF (v := .bool false) (u := .bool true) rfl rfl rfl rfl rfl ?_))
 obtain ⟨o, r⟩ := @tH ns bs ps ae af (fun g => by have h1 := g.n; have h2 := g.la; have h3 := g.lb; rw [show ps.length - 1 = ((ps.length : Int) - 1).toNat by omega] at h2 h3; omega)
 exact ⟨_, by rw [o, r], c⟩
 refine cN (zA (w9b ?_))
 refine qD rfl (zI (k := 0) rfl dI rfl nz27 rfl) (qD rfl (zJ (u := u) ag27 rfl ((cC c.pins (cB d.le f.le)) _ _ _ (aj 0 _ rfl))) (qD rfl (zN dG (v := u) rfl hu) (qM (vJ 0) ?_)))
 refine qe (zA ?_)
 refine zY (yN (fun k en W => ∃ (bb : Nat → Value) (m : Nat) (ax : Pin), en = (upd (upd (upd (upd (upd (upd bb 3 (vP b1)) 4 (vP a8)) 5 (vP a9)) 58 u) 59 (vJ (ps.length : Int))) 60 (vJ (m : Int))) ∧ k = ps.length - m ∧ Ext noS G w ax W ∧ Pin.le aw ax ∧ (m ≤ ps.length) ∧ (∀ q, q < m → RightP ns bs ps q) ∧ (∀ q, 1 ≤ q → q < m → AheadP (ps.getD (q - 1) default) (ps.getD q default))) _ ⟨_, 0, aw, (pS 60 (pS 59 (pS 58 (pS 5 (pS 4 (pU 3)))))), rfl, c, cJ _, cI _, (fun i hi => absurd hi (cK i)), (fun q a b => absurd b (by omega))⟩ ?_)
 rintro d5 _ d6 ⟨bb, m, ax, rfl, d7, am, l, hk, hok, hst⟩
 refine w9d ?_
 refine qD rfl (yQ rfl rfl) (qe (zA (zB ?_)))
 refine yA (p := ((m : Int) : Int) < (ps.length : Int)) rfl rfl (fun cl => ?_) (fun cl => ?_)
 refine cN (zA (zB ?_))
 refine zY (w9d ?_)
 refine qM (vJ (m : Int)) ?_
 refine qD rfl (zE dG sz53 (v := u) rfl rfl hu (by omega) (by omega)) ?_
 obtain ⟨d8, cm, cn, d9⟩ := qE (j := m) default (hu.at (z := (m : Int)) (by omega) (by omega)) rfl
 obtain ⟨ay, az, rfl, bc, bd⟩ := cm
 have ea := bc.max
 have eb := bd.max
 refine qD rfl (cn ag53 sz53 rfl (cC am.pins (cB (cB (cB (cB (cB ad y) h) d.le) f.le) l))) (qI rfl (yK [vJ 0, vJ 0, vN, vN] zr53 rfl am.pins (fun co ec ed cp cq cr => ?_)))
 have be := am.step cq cr
 have bf : w.heap.size ≤ co := by have := am.size; omega
 refine qM (vJ (m : Int)) ?_
 refine q0 rfl rfl rfl (o_stp (cs' := [vJ ((ps.getD m default).a), vJ ((ps.getD m default).b), ay, az]) (us := [vJ ((ps.getD m default).a), vJ ((ps.getD m default).b), ay, az]) (v := .agg #[vJ ((ps.getD m default).a), vJ ((ps.getD m default).b), ay, az]) sz53 rfl rfl rfl (jS (by rfl) (by rfl) bc.one bd.one) be.pins cp (cE rfl) rfl (fun ee ct cu cv ef => ?_))
 have cw := be.write cu cv ((zW bf))
 obtain ⟨eg, s, ai, a0, eh⟩ := ct.shut cw bf
 refine qe (zA (w9b ?_))
 refine qM (vJ (m : Int)) ?_
 refine qD rfl (jR rfl rfl) (qe (zA ?_))
 refine yA (p := (0 : Int) < (m : Int)) rfl rfl (fun cx => ?_) (fun cx => ?_)
 refine w9d ?_
 refine qD rfl (zI (k := 0) rfl dI rfl nz27 rfl) (qD rfl (zJ (u := u) ag27 rfl ((cC ai.pins (cB (cB (cB d.le f.le) l) s)) _ _ _ (aj 0 _ rfl))) (qM (vJ (m : Int)) ?_))
 refine qD rfl (xX rfl rfl (by omega)) (qD rfl (zE dG sz53 (v := u) rfl rfl hu (by omega) (by omega)) ?_)
 obtain ⟨ei, cy, cz, ej⟩ := qE (j := ((m : Int) - 1).toNat) default (hu.at (z := (m : Int) - 1) (by omega) (by omega)) rfl
 obtain ⟨a1, a2, rfl, bg, bh⟩ := cy
 have ek := bg.max
 have el := bh.max
 refine qD rfl (cz ag53 sz53 rfl (cC ai.pins (cB (cB (cB (cB (cB (cB ad y) h) d.le) f.le) l) s))) (qI rfl (yK [vJ 0, vJ 0, vN, vN] zr53 rfl ai.pins (fun c0 em eo c1 c2 c3 => ?_)))
 have bi := ai.step c2 c3
 have bj : w.heap.size ≤ c0 := by have := ai.size; omega
 refine q0 rfl rfl rfl (o_stp (cs' := [vJ ((ps.getD ((m : Int) - 1).toNat default).a), vJ ((ps.getD ((m : Int) - 1).toNat default).b), a1, a2]) (us := [vJ ((ps.getD ((m : Int) - 1).toNat default).a), vJ ((ps.getD ((m : Int) - 1).toNat default).b), a1, a2]) (v := .agg #[vJ ((ps.getD ((m : Int) - 1).toNat default).a), vJ ((ps.getD ((m : Int) - 1).toNat default).b), a1, a2]) sz53 rfl rfl rfl (jS (by rfl) (by rfl) bg.one bh.one) bi.pins c1 (cE rfl) rfl (fun ep c4 c5 c6 eq => ?_))
 have c7 := bi.write c5 c6 ((zW bj))
 obtain ⟨er, ac, ab, a3, es⟩ := c4.shut c7 bj
 refine qe (w9a ?_)
 refine qD rfl (zI (k := 0) rfl dE rfl nz3 rfl) (qD rfl (zJ (u := vJ ((ps.getD m default).a)) ag3 rfl ((cC ab.pins ac) _ _ _ (a0 0 _ rfl))) (qD rfl (zI (k := 0) rfl dE rfl nz3 rfl) (qD rfl (zJ (u := vJ ((ps.getD ((m : Int) - 1).toNat default).a)) ag3 rfl (ab.pins _ _ _ (a3 0 _ rfl))) (qD rfl (yQ rfl rfl) (qM (.bool (decide (((ps.getD m default).a : Int) < ((ps.getD ((m : Int) - 1).toNat default).a)))) ?_)))))
 refine qbd (p := ((ps.getD m default).a : Int) < ((ps.getD ((m : Int) - 1).toNat default).a)) (t := 78) rfl (fun c8 => ?_) (fun c8 => ?_)
 refine qW ?_
 refine qW ?_
 refine qW ?_
 refine qW ?_
 refine qW ?_
 refine qW ?_
 refine qX ?_
 refine qX ?_
 refine qX ?_
 refine qX ?_
 refine qX ?_
 refine qW ?_
 refine qD rfl (yL (v := .bool true) rfl rfl) (qe (zA ?_))
 refine xY rfl rfl (w9d ?_)
 refine qM (.bool false) ?_
 refine qM (.bool true) ?_
 refine qe (zA ?_)
 refine cO (zT (qF (v := .bool false) (u := .bool true) rfl rfl rfl rfl rfl ?_))
 obtain ⟨o, r⟩ := @tH ns bs ps ae af (fun g => by have a := g.st m (by omega) (by omega); unfold AheadP at a; rw [show m - 1 = ((m : Int) - 1).toNat by omega] at a; omega)
 exact ⟨_, by rw [o, r], ab⟩
 refine qN (zI (k := 0) rfl dE rfl nz3 rfl) ?_
 refine qN (zJ (u := vJ ((ps.getD m default).a)) ag3 rfl ((cC ab.pins ac) _ _ _ (a0 0 _ rfl))) ?_
 refine qN (zI (k := 0) rfl dE rfl nz3 rfl) ?_
 refine qN (zJ (u := vJ ((ps.getD ((m : Int) - 1).toNat default).a)) ag3 rfl (ab.pins _ _ _ (a3 0 _ rfl))) ?_
 refine qN (qL rfl rfl) ?_
 refine qN (zX (v := .bool (decide (((ps.getD m default).a : Int) = ((ps.getD ((m : Int) - 1).toNat default).a)))) rfl) ?_
 refine qbd (p := ((ps.getD m default).a : Int) = ((ps.getD ((m : Int) - 1).toNat default).a)) (t := 84) rfl (fun c9 => ?_) (fun c9 => ?_)
 refine qN (zI (k := 1) rfl dE rfl nz3 rfl) ?_
 refine qN (zJ (u := vJ ((ps.getD m default).b)) ag3 rfl ((cC ab.pins ac) _ _ _ (a0 1 _ rfl))) ?_
 refine qN (zI (k := 1) rfl dE rfl nz3 rfl) ?_
 refine qN (zJ (u := vJ ((ps.getD ((m : Int) - 1).toNat default).b)) ag3 rfl (ab.pins _ _ _ (a3 1 _ rfl))) ?_
 refine qN (gV rfl rfl) ?_
 refine qN (yL (v := .bool (decide (((ps.getD m default).b : Int) ≤ ((ps.getD ((m : Int) - 1).toNat default).b)))) rfl rfl) ?_
 refine qD rfl (yM (v := .bool (decide (((ps.getD m default).b : Int) ≤ ((ps.getD ((m : Int) - 1).toNat default).b)))) rfl rfl) (qe (zA ?_))
 refine yA (p := ((ps.getD m default).b : Int) ≤ ((ps.getD ((m : Int) - 1).toNat default).b)) rfl rfl (fun da => ?_) (fun da => ?_)
 refine w9d ?_
 refine qM (.bool false) ?_
 refine qM (.bool true) ?_
 refine qe (zA ?_)
 refine cO (zT (qF (v := .bool false) (u := .bool true) rfl rfl rfl rfl rfl ?_))
 obtain ⟨o, r⟩ := @tH ns bs ps ae af (fun g => by have a := g.st m (by omega) (by omega); unfold AheadP at a; rw [show m - 1 = ((m : Int) - 1).toNat by omega] at a; omega)
 exact ⟨_, by rw [o, r], ab⟩
 refine cN (w9a ?_)
 refine qD rfl (zU (cs := [u]) ag29 sz29 rfl (fun j u hj => (cC ab.pins (cB (cB (cB (cB d.le f.le) l) s) ac)) _ _ _ (aj _ _ (by simpa using hj)))) (qM (vJ (m : Int)) ?_)
 refine qD rfl (zI (k := 0) rfl dF rfl nz24 rfl) (qD rfl (zJ (u := v) ag24 rfl ((cC ab.pins (cB (cB (cB (cB (cB (cB y h) d.le) f.le) l) s) ac)) _ _ _ (ak 0 _ rfl))) (qD rfl (zI (k := 0) rfl dF rfl nz24 rfl) (qD rfl (zJ (u := x) ag24 rfl ((cC ab.pins (cB (cB (cB (cB (cB h d.le) f.le) l) s) ac)) _ _ _ (al 0 _ rfl))) (qI rfl (zP (vs := [.agg #[u], vJ (m : Int), v, x]) Tryz.func20 nm20 rfl rfl rfl ?_)))))
 refine cD (gG ab.pins (hu.mono (cB (cB (cB (cB (cB (cB (cB ad y) h) d.le) f.le) l) s) ac)) (ha.mono (cB (cB (cB (cB (cB (cB (cB ad y) h) d.le) f.le) l) s) ac)) (hb.mono (cB (cB (cB (cB (cB (cB (cB ad y) h) d.le) f.le) l) s) ac)) (by omega) hga hgb) ?_
 rintro _ et ⟨db, rfl, bk⟩
 refine rt9 ?_
 have bl := ab.tr bk
 refine qD rfl (xN rfl) (qe (zA ?_))
 refine qO rfl rfl (fun a4 => ?_) (fun a4 => ?_)
 refine cN (w9c ?_)
 refine qD rfl (yO rfl rfl (by omega)) (qM (vJ ((m : Int) + 1)) ?_)
 refine qe (yD (⟨_, ?_, _, rfl, _, m + 1, db, (pS 60 (pS 59 (pS 58 (pS 5 (pS 4 (pU 3)))))), rfl, bl, (cB (cB (cB l s) ac) bk.le), (by omega), (fun q hq => if h3 : q = m then h3 ▸ decP_true.1 a4 else hok q (by omega)), (fun q h1 h2 => if h3 : q = m then h3 ▸ (by unfold AheadP; rw [show m - 1 = ((m : Int) - 1).toNat by omega]; omega) else hst q h1 (by omega))⟩))
 omega
 refine w9d ?_
 refine qM (.bool false) ?_
 refine qM (.bool true) ?_
 refine qe (zA ?_)
 refine cO (zT (qF (v := .bool false) (u := .bool true) rfl rfl rfl rfl rfl ?_))
 obtain ⟨o, r⟩ := @tH ns bs ps ae af (fun g => decP_false.1 a4 (g.ok m (by omega)))
 exact ⟨_, by rw [o, r], bl⟩
 refine qW ?_
 refine qW ?_
 refine qW ?_
 refine qW ?_
 refine qW ?_
 refine qN (yM (v := .bool false) rfl rfl) ?_
 refine qD rfl (yM (v := .bool false) rfl rfl) (qe (zA ?_))
 refine jE rfl rfl (cN (w9a ?_))
 refine qD rfl (zU (cs := [u]) ag29 sz29 rfl (fun j u hj => (cC ab.pins (cB (cB (cB (cB d.le f.le) l) s) ac)) _ _ _ (aj _ _ (by simpa using hj)))) (qM (vJ (m : Int)) ?_)
 refine qD rfl (zI (k := 0) rfl dF rfl nz24 rfl) (qD rfl (zJ (u := v) ag24 rfl ((cC ab.pins (cB (cB (cB (cB (cB (cB y h) d.le) f.le) l) s) ac)) _ _ _ (ak 0 _ rfl))) (qD rfl (zI (k := 0) rfl dF rfl nz24 rfl) (qD rfl (zJ (u := x) ag24 rfl ((cC ab.pins (cB (cB (cB (cB (cB h d.le) f.le) l) s) ac)) _ _ _ (al 0 _ rfl))) (qI rfl (zP (vs := [.agg #[u], vJ (m : Int), v, x]) Tryz.func20 nm20 rfl rfl rfl ?_)))))
 refine cD (gG ab.pins (hu.mono (cB (cB (cB (cB (cB (cB (cB ad y) h) d.le) f.le) l) s) ac)) (ha.mono (cB (cB (cB (cB (cB (cB (cB ad y) h) d.le) f.le) l) s) ac)) (hb.mono (cB (cB (cB (cB (cB (cB (cB ad y) h) d.le) f.le) l) s) ac)) (by omega) hga hgb) ?_
 rintro _ eu ⟨dc, rfl, bm⟩
 refine rt9 ?_
 have bn := ab.tr bm
 refine qD rfl (xN rfl) (qe (zA ?_))
 refine qO rfl rfl (fun a5 => ?_) (fun a5 => ?_)
 refine cN (w9c ?_)
 refine qD rfl (yO rfl rfl (by omega)) (qM (vJ ((m : Int) + 1)) ?_)
 refine qe (yD (⟨_, ?_, _, rfl, _, m + 1, dc, (pS 60 (pS 59 (pS 58 (pS 5 (pS 4 (pU 3)))))), rfl, bn, (cB (cB (cB l s) ac) bm.le), (by omega), (fun q hq => if h3 : q = m then h3 ▸ decP_true.1 a5 else hok q (by omega)), (fun q h1 h2 => if h3 : q = m then h3 ▸ (by unfold AheadP; rw [show m - 1 = ((m : Int) - 1).toNat by omega]; omega) else hst q h1 (by omega))⟩))
 omega
 refine w9d ?_
 refine qM (.bool false) ?_
 refine qM (.bool true) ?_
 refine qe (zA ?_)
 refine cO (zT (qF (v := .bool false) (u := .bool true) rfl rfl rfl rfl rfl ?_))
 obtain ⟨o, r⟩ := @tH ns bs ps ae af (fun g => decP_false.1 a5 (g.ok m (by omega)))
 exact ⟨_, by rw [o, r], bn⟩
 refine cN (w9a ?_)
 refine qD rfl (zU (cs := [u]) ag29 sz29 rfl (fun j u hj => (cC ai.pins (cB (cB (cB d.le f.le) l) s)) _ _ _ (aj _ _ (by simpa using hj)))) (qM (vJ (m : Int)) ?_)
 refine qD rfl (zI (k := 0) rfl dF rfl nz24 rfl) (qD rfl (zJ (u := v) ag24 rfl ((cC ai.pins (cB (cB (cB (cB (cB y h) d.le) f.le) l) s)) _ _ _ (ak 0 _ rfl))) (qD rfl (zI (k := 0) rfl dF rfl nz24 rfl) (qD rfl (zJ (u := x) ag24 rfl ((cC ai.pins (cB (cB (cB (cB h d.le) f.le) l) s)) _ _ _ (al 0 _ rfl))) (qI rfl (zP (vs := [.agg #[u], vJ (m : Int), v, x]) Tryz.func20 nm20 rfl rfl rfl ?_)))))
 refine cD (gG ai.pins (hu.mono (cB (cB (cB (cB (cB (cB ad y) h) d.le) f.le) l) s)) (ha.mono (cB (cB (cB (cB (cB (cB ad y) h) d.le) f.le) l) s)) (hb.mono (cB (cB (cB (cB (cB (cB ad y) h) d.le) f.le) l) s)) (by omega) hga hgb) ?_
 rintro _ ev ⟨dd, rfl, bo⟩
 refine rt9 ?_
 have bp := ai.tr bo
 refine qD rfl (xN rfl) (qe (zA ?_))
 refine qO rfl rfl (fun a6 => ?_) (fun a6 => ?_)
 refine cN (w9c ?_)
 refine qD rfl (yO rfl rfl (by omega)) (qM (vJ ((m : Int) + 1)) ?_)
 refine qe (yD (⟨_, ?_, _, rfl, _, m + 1, dd, (pS 60 (pS 59 (pS 58 (pS 5 (pS 4 (pU 3)))))), rfl, bp, (cB (cB l s) bo.le), (by omega), (fun q hq => if h3 : q = m then h3 ▸ decP_true.1 a6 else hok q (by omega)), (fun q h1 h2 => if h3 : q = m then h3 ▸ (by unfold AheadP; rw [show m - 1 = ((m : Int) - 1).toNat by omega]; omega) else hst q h1 (by omega))⟩))
 omega
 refine w9d ?_
 refine qM (.bool false) ?_
 refine qM (.bool true) ?_
 refine qe (zA ?_)
 refine cO (zT (qF (v := .bool false) (u := .bool true) rfl rfl rfl rfl rfl ?_))
 obtain ⟨o, r⟩ := @tH ns bs ps ae af (fun g => decP_false.1 a6 (g.ok m (by omega)))
 exact ⟨_, by rw [o, r], bp⟩
 refine cP (zZ (yJ (yI (w9a ?_))))
 refine qM (.bool true) ?_
 refine qM (.bool true) ?_
 refine qe (zA ?_)
 refine cO (zT (qF (v := .bool true) (u := .bool true) rfl rfl rfl rfl rfl ?_))
 obtain ⟨o, r⟩ := @cp_yes ns bs ps ae af ⟨⟨by omega, by omega⟩, (by rw [show ps.length - 1 = ((ps.length : Int) - 1).toNat by omega]; omega), (by rw [show ps.length - 1 = ((ps.length : Int) - 1).toNat by omega]; omega), fun q h1 h2 => hst q h1 (by omega), fun q hq => hok q (by omega)⟩
 exact ⟨_, by rw [o, r], am⟩
 refine w9d ?_
 refine qM (.bool false) ?_
 refine qM (.bool false) ?_
 refine qe (zA ?_)
 refine cO (zT (qF (v := .bool false) (u := .bool false) rfl rfl rfl rfl rfl ?_))
 obtain ⟨o, r⟩ := @cp_bad ns bs ps (cG af)
 exact ⟨_, by rw [o, r], ao⟩
 refine qW ?_
 refine qW ?_
 refine qW ?_
 refine qD rfl (yL (v := .bool true) rfl rfl) (qe (zA ?_))
 refine xY rfl rfl (w9d ?_)
 refine qM (.bool false) ?_
 refine qM (.bool false) ?_
 refine qe (zA ?_)
 refine cO (zT (qF (v := .bool false) (u := .bool false) rfl rfl rfl rfl rfl ?_))
 obtain ⟨o, r⟩ := @cp_bad ns bs ps (cF ae)
 exact ⟨_, by rw [o, r], an⟩
end P1
namespace PF1
open B1 P1
theorem pl53 : (Tryz.prog.underlying 53).bind (placesD Tryz.prog) = some [(0, 1), (1, 1), (2, 1), (3, 1)] := by kernel_rfl
variable {G : Pin} {m : Nat} {v : Value} {M : List ((Int × Int) × Int)} {L : List Cl}
theorem rI {w : World} {ks : List (Int × Int)} (hP : Pins G w) (hm : Mp encP2 (fun v : Int => Value.int .i64 v) w m M) (hM : MapOk L M) (hv : RSl eP2 G v ks) :
  Calls Tryz.prog 56 #[.map (some m), v] w fun e w' => ∃ G', e = .returned (vJ (lowL L ks)) ∧ Ext noS G w G' w' := by
 refine yC (n := 35) Tryz.func56 Tryz.ntmps56 rfl rfl ?_
 have ac := exr noS hP
 have hmv := hv.max
 refine w9d ?_
 refine qM (vJ 0) ?_
 refine qe (w9a ?_)
 refine qM (vJ (-1)) ?_
 refine qe (zA (w9b ?_))
 refine qM v ?_
 refine qD rfl (zN dV (v := v) rfl hv) (qM (vJ 0) ?_)
 refine qe (zA ?_)
 refine zY (yN (fun k en W => ∃ (q : Nat → Value) (j : Nat) (bz : Int) (i : Pin), en = (upd (upd (upd (upd (upd (upd q 0 (.map (some m))) 4 (vJ 0)) 5 (vJ bz)) 10 v) 11 (vJ (ks.length : Int))) 12 (vJ (j : Int))) ∧ k = ks.length - j ∧ Ext noS G w i W ∧ Pin.le G i ∧ (j ≤ ks.length) ∧ (bz = lowL L (ks.take j)) ∧ (Mp encP2 (fun v : Int => Value.int .i64 v) W m (M))) _ ⟨_, 0, (-1), G, (pS 12 (pS 11 (pS 10 (pS 5 (pS 4 (pU 0)))))), rfl, ac, cJ _, cI _, (low_nil L).symm, hm⟩ ?_)
 rintro k1 _ w2 ⟨q, j, bz, i, rfl, ap, a, b, hj, hb, ad⟩
 refine w9d ?_
 refine qD rfl (yQ rfl rfl) (qe (zA (zB ?_)))
 refine yA (p := ((j : Int) : Int) < (ks.length : Int)) rfl rfl (fun h6 => ?_) (fun h6 => ?_)
 refine cN (zA (zB ?_))
 refine zY (w9d ?_)
 refine qD rfl (zE dV sz66 (v := v) rfl rfl hv (by omega) (by omega)) ?_
 obtain ⟨aq, af, ag, ar⟩ := qE (j := j) default (hv.at (z := (j : Int)) (by omega) (by omega)) rfl
 obtain rfl := af
 refine qD rfl (ag ag66 sz66 rfl (cC a.pins b)) (qI rfl (yK [vJ 0, vJ 0] zr66 rfl a.pins (fun ah au av r ai s => ?_)))
 have x := a.step ai s
 have y := ad.below s
 have aa : w.heap.size ≤ ah := by have := a.size; omega
 refine q0 rfl rfl rfl (o_stp (cs' := [vJ ((ks.getD j default).1), vJ ((ks.getD j default).2)]) (us := [vJ ((ks.getD j default).1), vJ ((ks.getD j default).2)]) (v := .agg #[vJ ((ks.getD j default).1), vJ ((ks.getD j default).2)]) sz66 rfl rfl rfl (vD (by rfl) (by rfl)) x.pins r (cE rfl) rfl (fun aw aj ak ab ax => ?_))
 have al := x.write ak ab ((zW aa))
 have c := y.kept ab (xC y r)
 obtain ⟨f, g, d, am, ay⟩ := aj.shut al aa
 refine qe (w9a ?_)
 refine qM (.map (some m)) ?_
 refine qD rfl (zU (cs := [vJ ((ks.getD j default).1), vJ ((ks.getD j default).2)]) ag66 sz66 rfl (fun j u hj => d.pins _ _ _ (am _ _ (by simpa using hj)))) (qD rfl (gB (k := (((ks.getD j default).1, (ks.getD j default).2) : Int × Int)) (kN dU dX sz3) Tryz.underlying63 zr3 c rfl rfl) (qM (.tuple #[vJ ((Go.GL.look M (((ks.getD j default).1, (ks.getD j default).2) : Int × Int)).getD 0), .bool ((Go.GL.look M (((ks.getD j default).1, (ks.getD j default).2) : Int × Int)).isSome)]) ?_))
 refine qD rfl (yR (v := vJ ((Go.GL.look M (((ks.getD j default).1, (ks.getD j default).2) : Int × Int)).getD 0)) rfl rfl) (qD rfl (yR (v := .bool ((Go.GL.look M (((ks.getD j default).1, (ks.getD j default).2) : Int × Int)).isSome)) rfl rfl) (qM (vJ ((Go.GL.look M (((ks.getD j default).1, (ks.getD j default).2) : Int × Int)).getD 0)) ?_))
 refine qM (.bool ((Go.GL.look M (((ks.getD j default).1, (ks.getD j default).2) : Int × Int)).isSome)) ?_
 refine qe (w9a ?_)
 refine qM (.bool ((Go.GL.look M (((ks.getD j default).1, (ks.getD j default).2) : Int × Int)).isSome)) ?_
 refine qM (.bool ((Go.GL.look M (((ks.getD j default).1, (ks.getD j default).2) : Int × Int)).isSome)) ?_
 refine qb (t := 23) rfl (fun h => ?_) (fun h => ?_)
 refine qN (zX (v := vJ bz) rfl) ?_
 refine qN (yQ rfl rfl) ?_
 refine qN (zX (v := .bool (decide ((bz : Int) < 0))) rfl) ?_
 refine qbd (p := (bz : Int) < 0) (t := 26) rfl (fun l => ?_) (fun l => ?_)
 refine qW ?_
 refine qW ?_
 refine qW ?_
 refine qN (yL (v := .bool true) rfl rfl) ?_
 refine qD rfl (yL (v := .bool true) rfl rfl) (qe (zA ?_))
 refine xY rfl rfl (zC (qM (vJ ((Go.GL.look M (((ks.getD j default).1, (ks.getD j default).2) : Int × Int)).getD 0)) ?_))
 refine qM (vJ ((Go.GL.look M (((ks.getD j default).1, (ks.getD j default).2) : Int × Int)).getD 0)) ?_
 refine qe (w9c ?_)
 refine qD rfl (yO rfl rfl (by omega)) (qM (vJ ((j : Int) + 1)) ?_)
 refine qe (yD (⟨_, ?_, _, rfl, _, j + 1, (Go.GL.look M (((ks.getD j default).1, (ks.getD j default).2) : Int × Int)).getD 0, f, (pS 12 (pS 11 (pS 10 (pS 5 (pS 4 (pU 0)))))), rfl, d, (cB b g), (by omega), (hM.take (by omega) h hb (cF l)), c⟩))
 omega
 refine qN (zX (v := vJ ((Go.GL.look M (((ks.getD j default).1, (ks.getD j default).2) : Int × Int)).getD 0)) rfl) ?_
 refine qN (zX (v := vJ bz) rfl) ?_
 refine qN (yQ rfl rfl) ?_
 refine qN (yM (v := .bool (decide (((Go.GL.look M (((ks.getD j default).1, (ks.getD j default).2) : Int × Int)).getD 0 : Int) < bz))) rfl rfl) ?_
 refine qD rfl (yL (v := .bool (decide (((Go.GL.look M (((ks.getD j default).1, (ks.getD j default).2) : Int × Int)).getD 0 : Int) < bz))) rfl rfl) (qe (zA ?_))
 refine yA (p := ((Go.GL.look M (((ks.getD j default).1, (ks.getD j default).2) : Int × Int)).getD 0 : Int) < bz) rfl rfl (fun o => ?_) (fun o => ?_)
 refine zC (qM (vJ ((Go.GL.look M (((ks.getD j default).1, (ks.getD j default).2) : Int × Int)).getD 0)) ?_)
 refine qM (vJ ((Go.GL.look M (((ks.getD j default).1, (ks.getD j default).2) : Int × Int)).getD 0)) ?_
 refine qe (w9c ?_)
 refine qD rfl (yO rfl rfl (by omega)) (qM (vJ ((j : Int) + 1)) ?_)
 refine qe (yD (⟨_, ?_, _, rfl, _, j + 1, (Go.GL.look M (((ks.getD j default).1, (ks.getD j default).2) : Int × Int)).getD 0, f, (pS 12 (pS 11 (pS 10 (pS 5 (pS 4 (pU 0)))))), rfl, d, (cB b g), (by omega), (hM.take (by omega) h hb (cG o)), c⟩))
 omega
 refine cN (w9c ?_)
 refine qD rfl (yO rfl rfl (by omega)) (qM (vJ ((j : Int) + 1)) ?_)
 refine qe (yD (⟨_, ?_, _, rfl, _, j + 1, bz, f, (pS 12 (pS 11 (pS 10 (pS 5 (pS 4 (pU 0)))))), rfl, d, (cB b g), (by omega), (hM.leave (by omega) hb l o), c⟩))
 omega
 refine qW ?_
 refine qW ?_
 refine qW ?_
 refine qX ?_
 refine qX ?_
 refine qX ?_
 refine qW ?_
 refine qD rfl (yM (v := .bool false) rfl rfl) (qe (zA ?_))
 refine jE rfl rfl (cN (w9c ?_))
 refine qD rfl (yO rfl rfl (by omega)) (qM (vJ ((j : Int) + 1)) ?_)
 refine qe (yD (⟨_, ?_, _, rfl, _, j + 1, bz, f, (pS 12 (pS 11 (pS 10 (pS 5 (pS 4 (pU 0)))))), rfl, d, (cB b g), (by omega), (hb.trans (hM.no (by omega) h).symm), c⟩))
 omega
 refine cP (zZ (yJ (yI (w9a ?_))))
 refine qM (vJ bz) ?_
 refine qM (vJ bz) ?_
 refine qe (zA ?_)
 refine cO (zT (zS (v := vJ bz) rfl rfl rfl ?_))
 rw [qK (by omega)] at hb
 exact ⟨_, cgA eI hb, a⟩
theorem nE {w : World} {u : Value} {ns bs : List Nd} {x y : Nat} (hP : Pins G w) (hm : Mp encP2 (fun v : Int => Value.int .i64 v) w m M) (hM : MapOk L M) (hu : RSl eNode G u ns) (hv : RSl eNode G v bs) (hga : GoodP ns) (hgb : GoodP bs) (hx : x < ns.length) (hy : y < bs.length) :
  Calls Tryz.prog 28 #[.map (some m), u, v, vJ (x : Int), vJ (y : Int)] w fun e w' => ∃ (r l : Value) (G' : Pin), e = .returned (.tuple #[.agg #[.int .i64 (jstC ns bs L x y).a, .int .i64 (jstC ns bs L x y).b, r, l], .bool (jstB ns bs L x y)]) ∧ RSl eInt G' r (jstC ns bs L x y).r ∧ RSl eInt G' l (jstC ns bs L x y).l ∧ Ext noS G w G' w' := by
 refine yC (n := 77) Tryz.func28 Tryz.ntmps28 rfl rfl ?_
 have a3 := exr noS hP
 have hmu := hu.max
 have hmv := hv.max
 have hlx := hga.lenr (i := x) (by omega)
 have hly := hgb.lenl (i := y) (by omega)
 refine w9d ?_
 refine qI rfl (yK [vJ 0, vJ 0, vN, vN] zr53 rfl a3.pins (fun s w2 f3 bz c4 b0 => ?_))
 have a4 := a3.step c4 b0
 have c5 := hm.below b0
 have a5 : w.heap.size ≤ s := by have := a3.size; omega
 refine qM (.bool false) ?_
 refine qe (w9a ?_)
 refine qM (vJ (x : Int)) ?_
 refine qM (vJ (y : Int)) ?_
 refine qD rfl (xH [vJ 0, vJ 0, vN, vN] [vJ (x : Int), vJ (y : Int), vN, vN] [(0, (vJ (x : Int)), [vJ (x : Int)]), (1, (vJ (y : Int)), [vJ (y : Int)])] dE zr53 rfl pl53 rfl (cM.2 ⟨rfl, (cM.2 ⟨rfl, (fun _ h => by cases h)⟩)⟩) rfl) (qI rfl (yK [vJ 0, vJ 0, vN, vN] zr53 rfl a4.pins (fun t f4 c6 b2 c7 a6 => ?_)))
 have b3 := a4.step c7 a6
 have c8 := bz.below a6
 have b4 := c5.below a6
 have a7 := zD (cgA some c6) bz.lt
 have a8 : w.heap.size ≤ t := by have := a4.size; omega
 refine q0 rfl rfl rfl (o_stp (cs' := [vJ (x : Int), vJ (y : Int), vN, vN]) (us := [vJ (x : Int), vJ (y : Int), vN, vN]) (v := .agg #[vJ (x : Int), vJ (y : Int), vN, vN]) sz53 rfl rfl rfl (jS (by rfl) (by rfl) (by rfl) (by rfl)) b3.pins b2 (cE rfl) rfl (fun f5 c9 da a9 f6 => ?_))
 have b5 := b3.write da a9 ((zW a8))
 have db := c8.keptA a9 a7.symm
 have dc := b4.kept a9 (xC b4 b2)
 refine qe (zA (w9b ?_))
 refine qM u ?_
 refine qM (vJ (x : Int)) ?_
 refine qD rfl (zE dD sz76 (v := u) rfl rfl hu (by omega) (by omega)) (qD rfl (yP (off := 1) dH rfl rfl nz40 (z := (x : Int)) (k := 0) rfl hu (by omega) (by omega)) ?_)
 obtain ⟨ba, aq, dd⟩ := jA (hu.at (z := (x : Int)) (by omega) (by omega)) (j := x) rfl
 have f7 := aq.max
 refine qD rfl (dd ag40 rfl b5.pins) (qD rfl (zN dC (v := ba) rfl aq) (qM (vJ 0) ?_))
 refine qe (zA ?_)
 refine zY (yN (fun k en W => ∃ (ah : Nat → Value) (i : Nat) (rv : Value) (rs : List Int) (GLi : Pin), en = (upd (upd (upd (upd (upd (upd (upd (upd (upd (upd ah 0 (.map (some m))) 1 u) 2 v) 3 (vJ (x : Int))) 4 (vJ (y : Int))) 10 (vP s)) 12 (vP t)) 26 ba) 27 (vJ (((ns.getD x default).r).length : Int))) 28 (vJ (i : Int))) ∧ k = (ns.getD x default).r.length - i ∧ Ext noS G w GLi W ∧ Pin.le G GLi ∧ (i ≤ (ns.getD x default).r.length) ∧ (rs = ((ns.getD x default).r.take i).map (fun r => lowL L (rightsP ns bs r y))) ∧ (∀ q, q < i → 0 ≤ lowL L (rightsP ns bs ((ns.getD x default).r.getD q 0) y)) ∧ (Own eInt 3 GLi W w.heap.size rv (rs)) ∧ (Bx GLi W s [vJ 0, vJ 0, vN, vN]) ∧ (Bx GLi W t [vJ (x : Int), vJ (y : Int), rv, vN]) ∧ (Apart rv.ownBlock (some s)) ∧ (Apart rv.ownBlock (some t)) ∧ (Mp encP2 (fun v : Int => Value.int .i64 v) W m (M))) _ ⟨_, 0, vN, [], G, (pS 28 (pS 27 (pS 26 (pS 12 (pS 10 (pS 4 (pS 3 (pS 2 (pS 1 (pU 0)))))))))), rfl, b5, cJ _, cI _, rfl, (fun i hi => absurd hi (cK i)), (Own.nil _ _ _ _ _), db, c9, apart_none, apart_none, dc⟩ ?_)
 rintro f8 _ f9 ⟨ah, i, rv, rs, GLi, rfl, ga, ac, c, hji, hrs, hpi, bb, bc, bd, be, bf, b6⟩
 have hrsl : rs.length ≤ (ns.getD x default).r.length := by rw [hrs, List.length_map, List.length_take]; omega
 refine w9d ?_
 refine qD rfl (yQ rfl rfl) (qe (zA (zB ?_)))
 refine yA (p := ((i : Int) : Int) < (((ns.getD x default).r).length : Int)) rfl rfl (fun de => ?_) (fun de => ?_)
 have hki := hga.optsOk.right (j := x) (i := i) (by omega) (by omega)
 have bg := hga.lenl (i := ((ns.getD x default).r.getD i 0).toNat) (by omega)
 have bh := hgb.lenr (i := y) (by omega)
 refine cN (zA (zB ?_))
 refine zY (w9d ?_)
 refine qD rfl (zE dC sz3 (v := ba) rfl rfl aq (by omega) (by omega)) (qD rfl (zL (r := ((ns.getD x default).r).getD i 0) rfl ag3 (z := (i : Int)) rfl aq (cC ac.pins c) (by omega) (by omega)) (qM (vJ (((ns.getD x default).r).getD i 0)) ?_))
 refine qe (w9a ?_)
 refine qM (.map (some m)) ?_
 refine qM u ?_
 refine qM v ?_
 refine qM (vJ (((ns.getD x default).r).getD i 0)) ?_
 refine qM (vJ (y : Int)) ?_
 refine qI rfl (zP (vs := [u, v, vJ (((ns.getD x default).r).getD i 0), vJ (y : Int)]) Tryz.func46 nm46 rfl rfl rfl ?_)
 refine cD (gC (x := ((ns.getD x default).r).getD i 0) (y := (y : Int)) ac.pins (hu.mono c) (hv.mono c) (by omega) (by omega) ⟨cQ bg (by decide), cQ bh (by decide)⟩) ?_
 rintro _ df ⟨b7, dg, rfl, ar, ad⟩
 refine rt9 ?_
 have dh := ac.tr ad
 have di := bb.ext ad
 have dj := bc.ext ad
 have dk := bd.ext ad
 have b8 := b6.below ad.below
 have dl := zR ar.lt bb.lt
 have dm := zV ar.lt bc.lt
 have dn := zV ar.lt bd.lt
 have dp := ar.weaken ac.size
 obtain ⟨gb, b9, ca, dq, bi⟩ := dp.sealed dh
 have dr := di.moreO b9 bi dl.symm
 have ds := dj.moreO bi dm.symm
 have dt := dk.moreO bi dn.symm
 refine qI rfl (zP (vs := [.map (some m), b7]) Tryz.func56 nm56 rfl rfl rfl ?_)
 refine cD (rI ca.pins b8 hM dq) ?_
 rintro _ gc ⟨cb, rfl, ae⟩
 refine rt9 ?_
 have ai := ca.tr ae
 have du := dr.ext ae
 have cc := ds.ext ae
 have cd := dt.ext ae
 have dv := b8.below ae.below
 refine qM (vJ (lowL L (rightsP ns bs (((ns.getD x default).r).getD i 0) (y : Int)))) ?_
 refine qe (zA (w9b ?_))
 refine qM (vJ (lowL L (rightsP ns bs (((ns.getD x default).r).getD i 0) (y : Int)))) ?_
 refine qD rfl (yQ rfl rfl) (qe (zA ?_))
 refine yA (p := (lowL L (rightsP ns bs (((ns.getD x default).r).getD i 0) (y : Int)) : Int) < 0) rfl rfl (fun dw => ?_) (fun dw => ?_)
 refine w9d ?_
 refine qD rfl (xH [vJ 0, vJ 0, vN, vN] [vJ 0, vJ 0, vN, vN] [] dE zr53 rfl pl53 rfl (fun _ h => by cases h) rfl) (q0 rfl rfl rfl (o_stp (cs' := [vJ 0, vJ 0, vN, vN]) (us := [vJ 0, vJ 0, vN, vN]) (v := .agg #[vJ 0, vJ 0, vN, vN]) sz53 rfl rfl rfl (jS (by rfl) (by rfl) (by rfl) (by rfl)) ai.pins cc (cE rfl) rfl (fun gd dx dy dz ge => ?_)))
 have d0 := ai.write dy dz ((zW a5))
 refine qM (.bool false) ?_
 refine qe (zA ?_)
 refine cO (zT (qV (cs := [vJ 0, vJ 0, vN, vN]) (v := .bool false) rfl rfl rfl rfl rfl ag53 sz53 (fun j u hj => by rw [cR]; exact dx.cell hj) ?_))
 obtain ⟨e1, e2⟩ := @jst_no ns bs L x y (fun g => absurd (g.r _ (xF (d := (0 : Int)) (show i < (ns.getD x default).r.length by omega))) (by omega))
 rw [e1, e2]
 exact ⟨_, _, _, rfl, (xV _ _), (xV _ _), d0⟩
 refine cN (zA (zC ?_))
 refine qD rfl (zI (k := 2) rfl dE rfl nz40 rfl) (qD rfl (zJ (u := rv) ag40 rfl (cd.cell (o := 2) rfl)) (qM (vJ (lowL L (rightsP ns bs (((ns.getD x default).r).getD i 0) (y : Int)))) ?_))
 refine qI rfl (xA (E := eInt) (e := 3) [vJ (lowL L (rightsP ns bs (((ns.getD x default).r).getD i 0) (y : Int)))] [lowL L (rightsP ns bs (((ns.getD x default).r).getD i 0) (y : Int))] dC sz3 zr3 (by exact qC (by rfl)) (yG (by rfl)) rfl rfl rfl rfl (by decide) ai.pins (fun ce d1 d2 d3 al gf => ?_))
 have bj := ai.step d3 al
 have bk := du.below al
 have cf := cc.below al
 have cg := cd.below al
 have ch := dv.below al
 have d4 := d2.weaken ai.size
 refine qI rfl (oA (E := eInt) (v := rv) (u := ce) 8 dC ap3 (by decide) rfl rfl bj.pins bk d4.src (bj.size) (fun au gg bl d5 av ci => ?_))
 have cj := bj.write d5 av ((yE bk))
 have d6 := cf.keptA av be.symm
 have ck := cg.keptA av bf.symm
 have cl := ch.kept av (yV ch bk)
 have d7 := zO be.symm ci cf.lt
 have cm := zO bf.symm ci cg.lt
 have gh := la1 rs (lowL L (rightsP ns bs (((ns.getD x default).r).getD i 0) (y : Int)))
 refine qD rfl (zI (k := 2) rfl dE rfl nz40 rfl) (q0 rfl rfl rfl (o_stp (cs' := [vJ (x : Int), vJ (y : Int), au, vN]) (us := [au]) (v := au) sz40 rfl rfl (jX bl.one) (yG bl.one) cj.pins ck (cE rfl) rfl (fun gi d8 d9 aw gj => ?_)))
 have ea := cj.write d9 aw ((zW a8))
 have eb := bl.keptA aw cm.symm
 have ec := d6.keptA aw a7.symm
 have ed := cl.kept aw (xC cl ck)
 refine qe (w9c ?_)
 refine qD rfl (yO rfl rfl (by omega)) (qM (vJ ((i : Int) + 1)) ?_)
 refine qe (yD (⟨_, ?_, _, rfl, _, i + 1, au, rs ++ ([lowL L (rightsP ns bs (((ns.getD x default).r).getD i 0) (y : Int))]), cb, (pS 28 (pS 27 (pS 26 (pS 12 (pS 10 (pS 4 (pS 3 (pS 2 (pS 1 (pU 0)))))))))), rfl, ea, (cB (cB (cB c ad.le) b9) ae.le), (by omega), (by rw [hrs]; exact vF (f := (fun r => lowL L (rightsP ns bs r y))) 0 (by omega)), (fun q hq => if h3 : q = i then h3 ▸ (by omega) else hpi q (by omega)), eb, ec, d8, d7.symm, cm.symm, ed⟩))
 omega
 refine cP (zZ (yJ (yI (zA (w9b ?_)))))
 refine qM v ?_
 refine qM (vJ (y : Int)) ?_
 refine qD rfl (zE dD sz76 (v := v) rfl rfl hv (by omega) (by omega)) (qD rfl (yP (off := 0) dH rfl rfl nz40 (z := (y : Int)) (k := 0) rfl hv (by omega) (by omega)) ?_)
 obtain ⟨bm, ax, ee⟩ := jD (hv.at (z := (y : Int)) (by omega) (by omega)) (j := y) rfl
 have gk := ax.max
 refine qD rfl (ee ag40 rfl (cC ac.pins c)) (qD rfl (zN dC (v := bm) rfl ax) (qM (vJ 0) ?_))
 refine qe (zA ?_)
 refine zY (yN (fun k en W => ∃ (ah : Nat → Value) (j : Nat) (lv : Value) (ls : List Int) (GLj : Pin), en = (upd (upd (upd (upd (upd (upd (upd (upd (upd ah 0 (.map (some m))) 1 u) 2 v) 3 (vJ (x : Int))) 10 (vP s)) 12 (vP t)) 53 bm) 54 (vJ (((bs.getD y default).l).length : Int))) 55 (vJ (j : Int))) ∧ k = (bs.getD y default).l.length - j ∧ Ext noS G w GLj W ∧ Pin.le GLi GLj ∧ (j ≤ (bs.getD y default).l.length) ∧ (ls = ((bs.getD y default).l.take j).map (fun r => lowL L (leftsP ns bs x r))) ∧ (∀ q, q < j → 0 ≤ lowL L (leftsP ns bs x ((bs.getD y default).l.getD q 0))) ∧ (Own eInt 3 GLj W w.heap.size lv (ls)) ∧ (Own eInt 3 GLj W w.heap.size rv (rs)) ∧ (Bx GLj W s [vJ 0, vJ 0, vN, vN]) ∧ (Bx GLj W t [vJ (x : Int), vJ (y : Int), rv, lv]) ∧ (Apart lv.ownBlock rv.ownBlock) ∧ (Apart lv.ownBlock (some s)) ∧ (Apart lv.ownBlock (some t)) ∧ (Mp encP2 (fun v : Int => Value.int .i64 v) W m (M))) _ ⟨_, 0, vN, [], GLi, (pS 55 (pS 54 (pS 53 (pS 12 (pS 10 (pS 3 (pS 2 (pS 1 (pU 0))))))))), rfl, ac, cJ _, cI _, rfl, (fun i hi => absurd hi (cK i)), (Own.nil _ _ _ _ _), bb, bc, bd, apart_none, apart_none, apart_none, b6⟩ ?_)
 rintro gl _ gm ⟨ah, j, lv, ls, GLj, rfl, gn, af, ay, hjj, hls, hpj, az, a0, bn, bo, bp, bq, cn, ef⟩
 have hlsl : ls.length ≤ (bs.getD y default).l.length := by rw [hls, List.length_map, List.length_take]; omega
 refine w9d ?_
 refine qD rfl (yQ rfl rfl) (qe (zA (zB ?_)))
 refine yA (p := ((j : Int) : Int) < (((bs.getD y default).l).length : Int)) rfl rfl (fun eg => ?_) (fun eg => ?_)
 have hki := hgb.optsOk.left (j := y) (i := j) (by omega) (by omega)
 have bg := hga.lenl (i := x) (by omega)
 have bh := hgb.lenr (i := ((bs.getD y default).l.getD j 0).toNat) (by omega)
 refine cN (zA (zB ?_))
 refine zY (w9d ?_)
 refine qD rfl (zE dC sz3 (v := bm) rfl rfl ax (by omega) (by omega)) (qD rfl (zL (r := ((bs.getD y default).l).getD j 0) rfl ag3 (z := (j : Int)) rfl ax (cC af.pins (cB c ay)) (by omega) (by omega)) (qM (vJ (((bs.getD y default).l).getD j 0)) ?_))
 refine qe (w9a ?_)
 refine qM (.map (some m)) ?_
 refine qM u ?_
 refine qM v ?_
 refine qM (vJ (x : Int)) ?_
 refine qM (vJ (((bs.getD y default).l).getD j 0)) ?_
 refine qI rfl (zP (vs := [u, v, vJ (x : Int), vJ (((bs.getD y default).l).getD j 0)]) Tryz.func47 nm47 rfl rfl rfl ?_)
 refine cD (gX (x := (x : Int)) (y := ((bs.getD y default).l).getD j 0) af.pins (hu.mono (cB c ay)) (hv.mono (cB c ay)) (by omega) (by omega) ⟨cQ bg (by decide), cQ bh (by decide)⟩) ?_
 rintro _ eh ⟨co, ei, rfl, am, aa⟩
 refine rt9 ?_
 have ej := af.tr aa
 have ek := az.ext aa
 have el := a0.ext aa
 have em := bn.ext aa
 have eo := bo.ext aa
 have cp := ef.below aa.below
 have ep := zR am.lt az.lt
 have eq := zR am.lt a0.lt
 have er := zV am.lt bn.lt
 have es := zV am.lt bo.lt
 have et := am.weaken af.size
 obtain ⟨gp, br, cq, eu, a1⟩ := et.sealed ej
 have ev := ek.moreO br a1 ep.symm
 have ew := el.moreO br a1 eq.symm
 have ex := em.moreO a1 er.symm
 have ey := eo.moreO a1 es.symm
 refine qI rfl (zP (vs := [.map (some m), co]) Tryz.func56 nm56 rfl rfl rfl ?_)
 refine cD (rI cq.pins cp hM eu) ?_
 rintro _ gq ⟨cr, rfl, ab⟩
 refine rt9 ?_
 have an := cq.tr ab
 have ez := ev.ext ab
 have e0 := ew.ext ab
 have ct := ex.ext ab
 have cu := ey.ext ab
 have e3 := cp.below ab.below
 refine qM (vJ (lowL L (leftsP ns bs (x : Int) (((bs.getD y default).l).getD j 0)))) ?_
 refine qe (zA (w9b ?_))
 refine qM (vJ (lowL L (leftsP ns bs (x : Int) (((bs.getD y default).l).getD j 0)))) ?_
 refine qD rfl (yQ rfl rfl) (qe (zA ?_))
 refine yA (p := (lowL L (leftsP ns bs (x : Int) (((bs.getD y default).l).getD j 0)) : Int) < 0) rfl rfl (fun e4 => ?_) (fun e4 => ?_)
 refine w9d ?_
 refine qD rfl (xH [vJ 0, vJ 0, vN, vN] [vJ 0, vJ 0, vN, vN] [] dE zr53 rfl pl53 rfl (fun _ h => by cases h) rfl) (q0 rfl rfl rfl (o_stp (cs' := [vJ 0, vJ 0, vN, vN]) (us := [vJ 0, vJ 0, vN, vN]) (v := .agg #[vJ 0, vJ 0, vN, vN]) sz53 rfl rfl rfl (jS (by rfl) (by rfl) (by rfl) (by rfl)) an.pins ct (cE rfl) rfl (fun gr e5 e6 e7 gs => ?_)))
 have e8 := an.write e6 e7 ((zW a5))
 refine qM (.bool false) ?_
 refine qe (zA ?_)
 refine cO (zT (qV (cs := [vJ 0, vJ 0, vN, vN]) (v := .bool false) rfl rfl rfl rfl rfl ag53 sz53 (fun j u hj => by rw [cR]; exact e5.cell hj) ?_))
 obtain ⟨e1, e2⟩ := @jst_no ns bs L x y (fun g => absurd (g.l _ (xF (d := (0 : Int)) (show j < (bs.getD y default).l.length by omega))) (by omega))
 rw [e1, e2]
 exact ⟨_, _, _, rfl, (xV _ _), (xV _ _), e8⟩
 refine cN (zA (zC ?_))
 refine qD rfl (zI (k := 3) rfl dE rfl nz40 rfl) (qD rfl (zJ (u := lv) ag40 rfl (cu.cell (o := 3) rfl)) (qM (vJ (lowL L (leftsP ns bs (x : Int) (((bs.getD y default).l).getD j 0)))) ?_))
 refine qI rfl (xA (E := eInt) (e := 3) [vJ (lowL L (leftsP ns bs (x : Int) (((bs.getD y default).l).getD j 0)))] [lowL L (leftsP ns bs (x : Int) (((bs.getD y default).l).getD j 0))] dC sz3 zr3 (by exact qC (by rfl)) (yG (by rfl)) rfl rfl rfl rfl (by decide) an.pins (fun cv e9 fa fb ag gt => ?_))
 have bt := an.step fb ag
 have bu := ez.below ag
 have cw := e0.below ag
 have cx := ct.below ag
 have cy := cu.below ag
 have cz := e3.below ag
 have fc := fa.weaken an.size
 refine qI rfl (oA (E := eInt) (v := lv) (u := cv) 8 dC ap3 (by decide) rfl rfl bt.pins bu fc.src (bt.size) (fun a2 gu bv fd ao bw => ?_))
 have c0 := bt.write fd ao ((yE bu))
 have fe := cw.keptA ao bp.symm
 have ff := cx.keptA ao bq.symm
 have c1 := cy.keptA ao cn.symm
 have c2 := cz.kept ao (yV cz bu)
 have fg := zF bp.symm bw cw.lt
 have fh := zO bq.symm bw cx.lt
 have c3 := zO cn.symm bw cy.lt
 have gv := la1 ls (lowL L (leftsP ns bs (x : Int) (((bs.getD y default).l).getD j 0)))
 refine qD rfl (zI (k := 3) rfl dE rfl nz40 rfl) (q0 rfl rfl rfl (o_stp (cs' := [vJ (x : Int), vJ (y : Int), rv, a2]) (us := [a2]) (v := a2) sz40 rfl rfl (jX bv.one) (yG bv.one) c0.pins c1 (cE rfl) rfl (fun gw fi fj ap gx => ?_)))
 have fk := c0.write fj ap ((zW a8))
 have fl := fe.keptA ap bf
 have fm := bv.keptA ap c3.symm
 have fn := ff.keptA ap a7.symm
 have fo := c2.kept ap (xC c2 c1)
 refine qe (w9c ?_)
 refine qD rfl (yO rfl rfl (by omega)) (qM (vJ ((j : Int) + 1)) ?_)
 refine qe (yD (⟨_, ?_, _, rfl, _, j + 1, a2, ls ++ ([lowL L (leftsP ns bs (x : Int) (((bs.getD y default).l).getD j 0))]), cr, (pS 55 (pS 54 (pS 53 (pS 12 (pS 10 (pS 3 (pS 2 (pS 1 (pU 0))))))))), rfl, fk, (cB (cB (cB ay aa.le) br) ab.le), (by omega), (by rw [hls]; exact vF (f := (fun r => lowL L (leftsP ns bs x r))) 0 (by omega)), (fun q hq => if h3 : q = j then h3 ▸ (by omega) else hpj q (by omega)), fm, fl, fn, fi, fg.symm, fh.symm, c3.symm, fo⟩))
 omega
 refine cP (zZ (yJ (yI (w9a ?_))))
 refine qD rfl (zU (cs := [vJ (x : Int), vJ (y : Int), rv, lv]) ag53 sz53 rfl (fun j u hj => bo.cell (by simpa using hj))) (q0 rfl rfl rfl (o_stp (cs' := [vJ (x : Int), vJ (y : Int), rv, lv]) (us := [vJ (x : Int), vJ (y : Int), rv, lv]) (v := .agg #[vJ (x : Int), vJ (y : Int), rv, lv]) sz53 rfl rfl rfl (jS (by rfl) (by rfl) a0.one az.one) af.pins bn (cE rfl) rfl (fun gy fp fq bx gz => ?_)))
 have fr := af.write fq bx ((zW a5))
 have fs := az.keptA bx bq
 have ft := a0.keptA bx be
 refine qM (.bool true) ?_
 refine qe (zA ?_)
 refine cO (zT (qV (cs := [vJ (x : Int), vJ (y : Int), rv, lv]) (v := .bool true) rfl rfl rfl rfl rfl ag53 sz53 (fun j u hj => by rw [cR]; exact fp.cell hj) ?_))
 obtain ⟨g0, fu, fv, fw, fx⟩ := ft.sealed fr
 have fy := fs.moreO fu fx bp
 obtain ⟨g1, fz, f0, f1, g2⟩ := fy.sealed fv
 rw [qK (by omega)] at hrs hls
 obtain ⟨e1, e2⟩ := @jst_yes ns bs L x y ⟨fun r hr => by obtain ⟨q, hq, rfl⟩ := at_mem (0 : Int) hr; exact hpi q (by omega), fun r hr => by obtain ⟨q, hq, rfl⟩ := at_mem (0 : Int) hr; exact hpj q (by omega)⟩
 rw [e1, e2]
 exact ⟨_, _, _, rfl, (by rw [show (claimOf ns bs L x y).r = rs from hrs.symm]; exact (fw.mono fz)), (by rw [show (claimOf ns bs L x y).l = ls from hls.symm]; exact f1), f0⟩
end PF1
namespace PF2
open B1 P1
theorem pl53 : (Tryz.prog.underlying 53).bind (placesD Tryz.prog) = some [(0, 1), (1, 1), (2, 1), (3, 1)] := by kernel_rfl
theorem nZ {w : World} {G : Pin} {u v p : Value} {L : List Cl} {ns bs : List Nd} {x y : Nat} (hP : Pins G w) (hu : RSl eNode G u ns) (hv : RSl eNode G v bs) (hp : RSl eClaim G p L) (hga : GoodP ns) (hgb : GoodP bs) (hx : x < ns.length) (hy : y < bs.length) (hj : JustP ns bs L x y) :
  Calls Tryz.prog 62 [.agg #[u], .agg #[v], p, vJ (x : Int), vJ (y : Int)].toArray w fun e w' => ∃ (r l : Value) (G' : Pin), e = .returned (.agg #[.int .i64 (claimOf ns bs L x y).a, .int .i64 (claimOf ns bs L x y).b, r, l]) ∧ Own eInt 3 G' w' w.heap.size r (claimOf ns bs L x y).r ∧ Own eInt 3 G' w' w.heap.size l (claimOf ns bs L x y).l ∧ Apart r.ownBlock l.ownBlock ∧ Ext noS G w G' w' := by
 refine yC (n := 96) Tryz.func62 Tryz.ntmps62 rfl rfl ?_
 have ba := exr noS hP
 have hmu := hu.max
 have hmv := hv.max
 have hmp := hp.max
 have hlx := hga.lenr (i := x) (by omega)
 have hly := hgb.lenl (i := y) (by omega)
 refine w9d ?_
 refine qI rfl (xL [u] (v := .agg #[u]) rfl rfl ba.pins (fun b1 w2 gm di dj dk => ?_))
 have dl := ba.step dj dk
 have dm : w.heap.size ≤ b1 := by have := ba.size; omega
 obtain ⟨G9, ab, bb, ay, gp⟩ := di.shut dl dm
 refine qI rfl (xL [v] (v := .agg #[v]) rfl rfl bb.pins (fun au gq gr dn dp dq => ?_))
 have dr := bb.step dp dq
 have ds : w.heap.size ≤ au := by have := bb.size; omega
 obtain ⟨az, t, bc, a0, gs⟩ := dn.shut dr ds
 refine qI rfl (yK [vJ 0, vJ 0, vN, vN] zr53 rfl bc.pins (fun ac gt gu cc dt du => ?_))
 have bd := bc.step dt du
 have dv : w.heap.size ≤ ac := by have := bc.size; omega
 refine qe (w9a ?_)
 refine qM (vJ (x : Int)) ?_
 refine qM (vJ (y : Int)) ?_
 refine qI rfl (xB (E := eInt) (e := 3) dC sz3 bd.pins (fun ak dw dx dy cd dz => ?_))
 have be := bd.step dy cd
 have ce := cc.below cd
 have d0 := zD dz cc.lt
 have cf := dx.weaken bd.size
 refine qI rfl (xB (E := eInt) (e := 3) dC sz3 be.pins (fun aa d1 d2 d3 bf cg => ?_))
 have bg := be.step d3 bf
 have bh := cf.below bf
 have ch := ce.below bf
 have d4 := zG cg cf.lt
 have d5 := zD cg ce.lt
 have bi := d2.weaken be.size
 refine qD rfl (xH [vJ 0, vJ 0, vN, vN] [vJ (x : Int), vJ (y : Int), ak, aa] [(0, (vJ (x : Int)), [vJ (x : Int)]), (1, (vJ (y : Int)), [vJ (y : Int)]), (2, ak, [ak]), (3, aa, [aa])] dE zr53 rfl pl53 rfl (cM.2 ⟨rfl, (cM.2 ⟨rfl, (cM.2 ⟨(yX bh.one), (cM.2 ⟨(yX bi.one), (fun _ h => by cases h)⟩)⟩)⟩)⟩) rfl) (qI rfl (yK [vJ 0, vJ 0, vN, vN] zr53 rfl bg.pins (fun ad gv bj d6 d7 a1 => ?_)))
 have ci := bg.step d7 a1
 have cj := bh.below a1
 have ck := bi.below a1
 have d8 := ch.below a1
 have cl := zG (cgA some bj) bh.lt
 have bk := zG (cgA some bj) bi.lt
 have bl := zD (cgA some bj) ch.lt
 have bm : w.heap.size ≤ ad := by have := bg.size; omega
 refine q0 rfl rfl rfl (o_stp (cs' := [vJ (x : Int), vJ (y : Int), ak, aa]) (us := [vJ (x : Int), vJ (y : Int), ak, aa]) (v := .agg #[vJ (x : Int), vJ (y : Int), ak, aa]) sz53 rfl rfl rfl (jS (by rfl) (by rfl) cj.one ck.one) ci.pins d6 (cE rfl) rfl (fun gw d9 ea a2 gx => ?_))
 have eb := ci.write ea a2 ((zW bm))
 have ec := cj.keptA a2 cl.symm
 have ed := ck.keptA a2 bk.symm
 have ee := d8.keptA a2 bl.symm
 refine qe (zA (w9b ?_))
 refine qM (vJ 0) ?_
 refine qe (zA ?_)
 refine zY (yN (fun k en W => ∃ (ae : Nat → Value) (i : Nat) (rv : Value) (rs : List Int) (GLi : Pin), en = (upd (upd (upd (upd (upd (upd (upd (upd ae 2 p) 3 (vJ (x : Int))) 4 (vJ (y : Int))) 5 (vP b1)) 6 (vP au)) 10 (vP ac)) 11 (vP ad)) 12 (vJ (i : Int))) ∧ k = (ns.getD x default).r.length - i ∧ Ext noS G w GLi W ∧ Pin.le az GLi ∧ (i ≤ (ns.getD x default).r.length) ∧ (rs = ((ns.getD x default).r.take i).map (fun r => lowL L (rightsP ns bs r y))) ∧ (Own eInt 3 GLi W w.heap.size rv (rs)) ∧ (Own eInt 3 GLi W w.heap.size aa ([])) ∧ (Bx GLi W ac [vJ 0, vJ 0, vN, vN]) ∧ (Bx GLi W ad [vJ (x : Int), vJ (y : Int), rv, aa]) ∧ (Apart rv.ownBlock aa.ownBlock) ∧ (Apart rv.ownBlock (some ac)) ∧ (Apart rv.ownBlock (some ad))) _ ⟨_, 0, ak, [], az, (pS 12 (pS 11 (pS 10 (pS 6 (pS 5 (pS 4 (pS 3 (pU 2)))))))), rfl, eb, cJ _, cI _, rfl, ec, ed, ee, d9, d4.symm, d0, cl.symm⟩ ?_)
 rintro gy _ gz ⟨ae, i, rv, rs, GLi, rfl, g0, a3, g, hji, hrs, cm, cn, co, cp, bn, bo, bp⟩
 have hrsl : rs.length ≤ (ns.getD x default).r.length := by rw [hrs, List.length_map, List.length_take]; omega
 refine w9b ?_
 refine qM (vJ (i : Int)) ?_
 refine qD rfl (zI (k := 0) rfl dF rfl nz24 rfl) (qD rfl (zJ (u := u) ag24 rfl ((cC a3.pins (cB t g)) _ _ _ (ay 0 _ rfl))) (qM (vJ (x : Int)) ?_))
 refine qD rfl (zE dD sz76 (v := u) rfl rfl hu (by omega) (by omega)) (qD rfl (yP (off := 1) dH rfl rfl nz40 (z := (x : Int)) (k := 0) rfl hu (by omega) (by omega)) ?_)
 obtain ⟨ef, cq, eg⟩ := jA (hu.at (z := (x : Int)) (by omega) (by omega)) (j := x) rfl
 have g1 := cq.max
 refine qD rfl (eg ag40 rfl (cC a3.pins (cB (cB ab t) g))) (qD rfl (zN dC (v := ef) rfl cq) (qD rfl (yQ rfl rfl) (qe (zA ?_))))
 refine yA (p := ((i : Int) : Int) < (((ns.getD x default).r).length : Int)) rfl rfl (fun eh => ?_) (fun eh => ?_)
 have hki := hga.optsOk.right (j := x) (i := i) (by omega) (by omega)
 have hloi := hj.r _ (xF (d := (0 : Int)) (show i < (ns.getD x default).r.length by omega))
 refine cN (zA (zB ?_))
 refine zY (w9d ?_)
 refine qM (vJ 0) ?_
 refine qe (zA (zB ?_))
 refine zY (yN (fun k en W => ∃ (ae : Nat → Value) (ni : Nat) (GNi : Pin), en = (upd (upd (upd (upd (upd (upd (upd (upd (upd ae 2 p) 3 (vJ (x : Int))) 4 (vJ (y : Int))) 5 (vP b1)) 6 (vP au)) 10 (vP ac)) 11 (vP ad)) 12 (vJ (i : Int))) 13 (vJ (ni : Int))) ∧ k = L.length - ni ∧ Ext noS G w GNi W ∧ Pin.le GLi GNi ∧ (∀ q, q < ni → prC (L.getD q default) ∉ rightsP ns bs ((ns.getD x default).r.getD i 0) y) ∧ (Own eInt 3 GNi W w.heap.size rv (rs)) ∧ (Own eInt 3 GNi W w.heap.size aa ([])) ∧ (Bx GNi W ac [vJ 0, vJ 0, vN, vN]) ∧ (Bx GNi W ad [vJ (x : Int), vJ (y : Int), rv, aa])) _ ⟨_, 0, GLi, (pS 13 (pS 12 (pS 11 (pS 10 (pS 6 (pS 5 (pS 4 (pS 3 (pU 2))))))))), rfl, a3, cJ _, (fun i hi => absurd hi (cK i)), cm, cn, co, cp⟩ ?_)
 rintro g2 _ bq ⟨ae, ni, GNi, rfl, g3, cr, ag, hmi, ei, ej, ek, el⟩
 have hnli := low_len hloi hmi
 refine zB (zB ?_)
 refine yT (S := fun wz => Pins GNi wz) (last := 18) (by kernel_rfl) rfl ?_
 have an := bdr bq
 have em := cr.pins.below an
 have m := cr.step em an
 have eo := ei.below an
 have ep := ej.below an
 have eq := ek.below an
 have er := el.below an
 refine dT (i := 0) rfl rfl (by kernel_rfl) (fun _ hS => zU (cs := [u]) ag26 sz26 rfl (fun j u hj => (cC hS (cB (cB t g) ag)) _ _ _ (ay _ _ (by simpa using hj)))) m.pins ?_
 refine dT (i := 1) rfl rfl (by kernel_rfl) (fun _ hS => zU (cs := [v]) ag26 sz26 rfl (fun j u hj => (cC hS (cB g ag)) _ _ _ (a0 _ _ (by simpa using hj)))) m.pins ?_
 refine dT (i := 2) rfl rfl (by kernel_rfl) (fun _ _ => zI (k := 0) rfl dF rfl nz24 rfl) m.pins ?_
 refine dT (i := 3) rfl rfl (by kernel_rfl) (fun _ hS => zJ (u := u) ag24 rfl ((cC hS (cB (cB t g) ag)) _ _ _ (ay 0 _ rfl))) m.pins ?_
 refine dM 4 (vJ (x : Int)) m.pins ?_
 refine dT (i := 5) rfl rfl (by kernel_rfl) (fun _ _ => zE dD sz76 (v := u) rfl rfl hu (by omega) (by omega)) m.pins ?_
 refine dT (i := 6) rfl rfl (by kernel_rfl) (fun _ _ => yP (off := 1) dH rfl rfl nz40 (z := (x : Int)) (k := 0) rfl hu (by omega) (by omega)) m.pins ?_
 obtain ⟨es, br, et⟩ := jA (hu.at (z := (x : Int)) (by omega) (by omega)) (j := x) rfl
 have g4 := br.max
 refine dT (i := 7) rfl rfl (by kernel_rfl) (fun _ hS => et ag40 rfl (cC hS (cB (cB (cB ab t) g) ag))) m.pins ?_
 refine dM 8 (vJ (i : Int)) m.pins ?_
 refine dT (i := 9) rfl rfl (by kernel_rfl) (fun _ _ => zE dC sz3 (v := es) rfl rfl br (by omega) (by omega)) m.pins ?_
 refine dT (i := 10) rfl rfl (by kernel_rfl) (fun _ hS => zL (r := ((ns.getD x default).r).getD i 0) rfl ag3 (z := (i : Int)) rfl br (cC hS (cB (cB (cB ab t) g) ag)) (by omega) (by omega)) m.pins ?_
 refine dM 11 p m.pins ?_
 refine dM 12 (vJ (ni : Int)) m.pins ?_
 refine dT (i := 13) rfl rfl (by kernel_rfl) (fun _ _ => zE dG sz53 (v := p) rfl rfl hp (by omega) (by omega)) m.pins ?_
 obtain ⟨g5, eu, ev, g6⟩ := qE (j := ni) default (hp.at (z := (ni : Int)) (by omega) (by omega)) rfl
 obtain ⟨ew, ex, rfl, ey, ez⟩ := eu
 have g7 := ey.max
 have g8 := ez.max
 refine dT (i := 14) rfl rfl (by kernel_rfl) (fun _ hS => ev ag53 sz53 rfl (cC hS (cB (cB (cB ab t) g) ag))) m.pins ?_
 refine dM 15 (vJ (y : Int)) m.pins ?_
 refine dP (i := 16) rfl rfl (zP (vs := [.agg #[u], .agg #[v], vJ (((ns.getD x default).r).getD i 0), .agg #[vJ ((L.getD ni default).a), vJ ((L.getD ni default).b), ew, ex], vJ (y : Int)]) Tryz.func53 nm53 rfl rfl rfl ?_)
 refine cD (nY (c := L.getD ni default) m.pins (hu.mono (cB (cB (cB ab t) g) ag)) (hv.mono (cB (cB (cB ab t) g) ag)) (by omega) (by omega)) ?_
 rintro _ g9 ⟨bt, rfl, ai⟩
 refine rt9 ?_
 have ao := m.tr ai
 have ct := eo.ext ai
 have cu := ep.ext ai
 have cv := eq.ext ai
 have bu := er.ext ai
 refine ⟨fun _ => (cC ao.pins ai.le), ?_⟩
 refine dT (i := 17) rfl rfl (by kernel_rfl) (fun _ _ => xN rfl) (cC ao.pins ai.le) ?_
 refine yH (by kernel_rfl) (zA (qO rfl rfl (fun al => ?_) (fun al => ?_)))
 replace al := of_decide_eq_true al
 refine cP (zZ (yJ (yI (zA (zC ?_)))))
 refine qD rfl (zI (k := 2) rfl dE rfl nz40 rfl) (qD rfl (zJ (u := rv) ag40 rfl (bu.cell (o := 2) rfl)) (qM (vJ (ni : Int)) ?_))
 refine qI rfl (xA (E := eInt) (e := 3) [vJ (ni : Int)] [(ni : Int)] dC sz3 zr3 (by exact qC (by rfl)) (yG (by rfl)) rfl rfl rfl rfl (by decide) ao.pins (fun cw e0 e1 e2 av ha => ?_))
 have bv := ao.step e2 av
 have cx := ct.below av
 have cy := cu.below av
 have cz := cv.below av
 have c0 := bu.below av
 have e3 := e1.weaken ao.size
 refine qI rfl (oA (E := eInt) (v := rv) (u := cw) 8 dC ap3 (by decide) rfl rfl bv.pins cx e3.src (bv.size) (fun a4 hb bw e4 a5 bx => ?_))
 have c1 := bv.write e4 a5 ((yE cx))
 have e5 := cy.keptA a5 bn.symm
 have e6 := cz.keptA a5 bo.symm
 have e7 := c0.keptA a5 bp.symm
 have e8 := zF bn.symm bx cy.lt
 have e9 := zO bo.symm bx cz.lt
 have c2 := zO bp.symm bx c0.lt
 have hc := la1 rs (ni : Int)
 refine qD rfl (zI (k := 2) rfl dE rfl nz40 rfl) (q0 rfl rfl rfl (o_stp (cs' := [vJ (x : Int), vJ (y : Int), a4, aa]) (us := [a4]) (v := a4) sz40 rfl rfl (jX bw.one) (yG bw.one) c1.pins e7 (cE rfl) rfl (fun hd fa fb a6 he => ?_)))
 have fc := c1.write fb a6 ((zW bm))
 have fd := e5.keptA a6 bk.symm
 have fe := bw.keptA a6 c2.symm
 have ff := e6.keptA a6 bl.symm
 refine qe (w9c ?_)
 refine qM (vJ (i : Int)) ?_
 refine qD rfl (yO rfl rfl (by omega)) (qM (vJ ((i : Int) + 1)) ?_)
 refine qe (yD (⟨_, ?_, _, rfl, _, i + 1, a4, rs ++ ([(ni : Int)]), bt, (pS 12 (pS 11 (pS 10 (pS 6 (pS 5 (pS 4 (pS 3 (pU 2)))))))), rfl, fc, (cB (cB g ag) ai.le), (by omega), (by rw [hrs, low_at hnli.1 al hmi]; exact vF (f := (fun r => lowL L (rightsP ns bs r y))) 0 (by omega)), fe, fd, ff, fa, e8.symm, e9.symm, c2.symm⟩))
 omega
 replace al := of_decide_eq_false al
 refine cN (zA (zY (zC (qM (vJ (ni : Int)) ?_))))
 refine qD rfl (yO rfl rfl (by omega)) (qM (vJ ((ni : Int) + 1)) ?_)
 refine qe (yB (yD (⟨_, ?_, _, rfl, _, ni + 1, bt, (pS 13 (pS 12 (pS 11 (pS 10 (pS 6 (pS 5 (pS 4 (pS 3 (pU 2))))))))), rfl, ao, (cB ag ai.le), (fun q hq => if h3 : q = ni then h3 ▸ al else hmi q (by omega)), ct, cu, cv, bu⟩)))
 omega
 refine cP (zZ (yJ (yI (zA (w9b ?_)))))
 refine qM (vJ 0) ?_
 refine qe (zA ?_)
 refine zY (yN (fun k en W => ∃ (ae : Nat → Value) (j : Nat) (lv : Value) (ls : List Int) (GLj : Pin), en = (upd (upd (upd (upd (upd (upd (upd (upd ae 2 p) 3 (vJ (x : Int))) 4 (vJ (y : Int))) 5 (vP b1)) 6 (vP au)) 10 (vP ac)) 11 (vP ad)) 14 (vJ (j : Int))) ∧ k = (bs.getD y default).l.length - j ∧ Ext noS G w GLj W ∧ Pin.le GLi GLj ∧ (j ≤ (bs.getD y default).l.length) ∧ (ls = ((bs.getD y default).l.take j).map (fun r => lowL L (leftsP ns bs x r))) ∧ (Own eInt 3 GLj W w.heap.size lv (ls)) ∧ (Own eInt 3 GLj W w.heap.size rv (rs)) ∧ (Bx GLj W ac [vJ 0, vJ 0, vN, vN]) ∧ (Bx GLj W ad [vJ (x : Int), vJ (y : Int), rv, lv]) ∧ (Apart lv.ownBlock rv.ownBlock) ∧ (Apart lv.ownBlock (some ac)) ∧ (Apart lv.ownBlock (some ad))) _ ⟨_, 0, aa, [], GLi, (pS 14 (pS 11 (pS 10 (pS 6 (pS 5 (pS 4 (pS 3 (pU 2)))))))), rfl, a3, cJ _, cI _, rfl, cn, cm, co, cp, bn.symm, d5, bk.symm⟩ ?_)
 rintro hf _ hg ⟨ae, j, lv, ls, GLj, rfl, hh, aw, af, hjj, hls, bz, b0, c3, c4, b2, b3, c5⟩
 have hlsl : ls.length ≤ (bs.getD y default).l.length := by rw [hls, List.length_map, List.length_take]; omega
 refine w9b ?_
 refine qM (vJ (j : Int)) ?_
 refine qD rfl (zI (k := 0) rfl dF rfl nz24 rfl) (qD rfl (zJ (u := v) ag24 rfl ((cC aw.pins (cB g af)) _ _ _ (a0 0 _ rfl))) (qM (vJ (y : Int)) ?_))
 refine qD rfl (zE dD sz76 (v := v) rfl rfl hv (by omega) (by omega)) (qD rfl (yP (off := 0) dH rfl rfl nz40 (z := (y : Int)) (k := 0) rfl hv (by omega) (by omega)) ?_)
 obtain ⟨fg, c6, fh⟩ := jD (hv.at (z := (y : Int)) (by omega) (by omega)) (j := y) rfl
 have hk := c6.max
 refine qD rfl (fh ag40 rfl (cC aw.pins (cB (cB (cB ab t) g) af))) (qD rfl (zN dC (v := fg) rfl c6) (qD rfl (yQ rfl rfl) (qe (zA ?_))))
 refine yA (p := ((j : Int) : Int) < (((bs.getD y default).l).length : Int)) rfl rfl (fun fi => ?_) (fun fi => ?_)
 have hki := hgb.optsOk.left (j := y) (i := j) (by omega) (by omega)
 have hloj := hj.l _ (xF (d := (0 : Int)) (show j < (bs.getD y default).l.length by omega))
 refine cN (zA (zB ?_))
 refine zY (w9d ?_)
 refine qM (vJ 0) ?_
 refine qe (zA (zB ?_))
 refine zY (yN (fun k en W => ∃ (ae : Nat → Value) (nj : Nat) (GNj : Pin), en = (upd (upd (upd (upd (upd (upd (upd (upd (upd ae 2 p) 3 (vJ (x : Int))) 4 (vJ (y : Int))) 5 (vP b1)) 6 (vP au)) 10 (vP ac)) 11 (vP ad)) 14 (vJ (j : Int))) 15 (vJ (nj : Int))) ∧ k = L.length - nj ∧ Ext noS G w GNj W ∧ Pin.le GLj GNj ∧ (∀ q, q < nj → prC (L.getD q default) ∉ leftsP ns bs x ((bs.getD y default).l.getD j 0)) ∧ (Own eInt 3 GNj W w.heap.size lv (ls)) ∧ (Own eInt 3 GNj W w.heap.size rv (rs)) ∧ (Bx GNj W ac [vJ 0, vJ 0, vN, vN]) ∧ (Bx GNj W ad [vJ (x : Int), vJ (y : Int), rv, lv])) _ ⟨_, 0, GLj, (pS 15 (pS 14 (pS 11 (pS 10 (pS 6 (pS 5 (pS 4 (pS 3 (pU 2))))))))), rfl, aw, cJ _, (fun i hi => absurd hi (cK i)), bz, b0, c3, c4⟩ ?_)
 rintro hl _ b4 ⟨ae, nj, GNj, rfl, hm, c7, ah, hmj, fj, fk, fl, fm⟩
 have hnlj := low_len hloj hmj
 refine zB (zB ?_)
 refine yT (S := fun wz => Pins GNj wz) (last := 18) (by kernel_rfl) rfl ?_
 have ap := bdr b4
 have fn := c7.pins.below ap
 have s := c7.step fn ap
 have fo := fj.below ap
 have fp := fk.below ap
 have fq := fl.below ap
 have fr := fm.below ap
 refine dT (i := 0) rfl rfl (by kernel_rfl) (fun _ hS => zU (cs := [u]) ag26 sz26 rfl (fun j u hj => (cC hS (cB (cB (cB t g) af) ah)) _ _ _ (ay _ _ (by simpa using hj)))) s.pins ?_
 refine dT (i := 1) rfl rfl (by kernel_rfl) (fun _ hS => zU (cs := [v]) ag26 sz26 rfl (fun j u hj => (cC hS (cB (cB g af) ah)) _ _ _ (a0 _ _ (by simpa using hj)))) s.pins ?_
 refine dT (i := 2) rfl rfl (by kernel_rfl) (fun _ _ => zI (k := 0) rfl dF rfl nz24 rfl) s.pins ?_
 refine dT (i := 3) rfl rfl (by kernel_rfl) (fun _ hS => zJ (u := v) ag24 rfl ((cC hS (cB (cB g af) ah)) _ _ _ (a0 0 _ rfl))) s.pins ?_
 refine dM 4 (vJ (y : Int)) s.pins ?_
 refine dT (i := 5) rfl rfl (by kernel_rfl) (fun _ _ => zE dD sz76 (v := v) rfl rfl hv (by omega) (by omega)) s.pins ?_
 refine dT (i := 6) rfl rfl (by kernel_rfl) (fun _ _ => yP (off := 0) dH rfl rfl nz40 (z := (y : Int)) (k := 0) rfl hv (by omega) (by omega)) s.pins ?_
 obtain ⟨fs, b5, ft⟩ := jD (hv.at (z := (y : Int)) (by omega) (by omega)) (j := y) rfl
 have hn := b5.max
 refine dT (i := 7) rfl rfl (by kernel_rfl) (fun _ hS => ft ag40 rfl (cC hS (cB (cB (cB (cB ab t) g) af) ah))) s.pins ?_
 refine dM 8 (vJ (j : Int)) s.pins ?_
 refine dT (i := 9) rfl rfl (by kernel_rfl) (fun _ _ => zE dC sz3 (v := fs) rfl rfl b5 (by omega) (by omega)) s.pins ?_
 refine dT (i := 10) rfl rfl (by kernel_rfl) (fun _ hS => zL (r := ((bs.getD y default).l).getD j 0) rfl ag3 (z := (j : Int)) rfl b5 (cC hS (cB (cB (cB (cB ab t) g) af) ah)) (by omega) (by omega)) s.pins ?_
 refine dM 11 p s.pins ?_
 refine dM 12 (vJ (nj : Int)) s.pins ?_
 refine dT (i := 13) rfl rfl (by kernel_rfl) (fun _ _ => zE dG sz53 (v := p) rfl rfl hp (by omega) (by omega)) s.pins ?_
 obtain ⟨ho, fu, fv, hr⟩ := qE (j := nj) default (hp.at (z := (nj : Int)) (by omega) (by omega)) rfl
 obtain ⟨fw, fx, rfl, fy, fz⟩ := fu
 have hs := fy.max
 have ht := fz.max
 refine dT (i := 14) rfl rfl (by kernel_rfl) (fun _ hS => fv ag53 sz53 rfl (cC hS (cB (cB (cB (cB ab t) g) af) ah))) s.pins ?_
 refine dM 15 (vJ (x : Int)) s.pins ?_
 refine dP (i := 16) rfl rfl (zP (vs := [.agg #[u], .agg #[v], vJ (((bs.getD y default).l).getD j 0), .agg #[vJ ((L.getD nj default).a), vJ ((L.getD nj default).b), fw, fx], vJ (x : Int)]) Tryz.func54 nm54 rfl rfl rfl ?_)
 refine cD (eC (c := L.getD nj default) s.pins (hu.mono (cB (cB (cB (cB ab t) g) af) ah)) (hv.mono (cB (cB (cB (cB ab t) g) af) ah)) (by omega) (by omega)) ?_
 rintro _ hw ⟨b6, rfl, aj⟩
 refine rt9 ?_
 have aq := s.tr aj
 have c8 := fo.ext aj
 have c9 := fp.ext aj
 have da := fq.ext aj
 have b7 := fr.ext aj
 refine ⟨fun _ => (cC aq.pins aj.le), ?_⟩
 refine dT (i := 17) rfl rfl (by kernel_rfl) (fun _ _ => xN rfl) (cC aq.pins aj.le) ?_
 refine yH (by kernel_rfl) (zA (qO rfl rfl (fun am => ?_) (fun am => ?_)))
 replace am := of_decide_eq_true am
 refine cP (zZ (yJ (yI (zA (zC ?_)))))
 refine qD rfl (zI (k := 3) rfl dE rfl nz40 rfl) (qD rfl (zJ (u := lv) ag40 rfl (b7.cell (o := 3) rfl)) (qM (vJ (nj : Int)) ?_))
 refine qI rfl (xA (E := eInt) (e := 3) [vJ (nj : Int)] [(nj : Int)] dC sz3 zr3 (by exact qC (by rfl)) (yG (by rfl)) rfl rfl rfl rfl (by decide) aq.pins (fun db f0 f1 f2 ax hz => ?_))
 have b8 := aq.step f2 ax
 have dc := c8.below ax
 have dd := c9.below ax
 have de := da.below ax
 have df := b7.below ax
 have f3 := f1.weaken aq.size
 refine qI rfl (oA (E := eInt) (v := lv) (u := db) 8 dC ap3 (by decide) rfl rfl b8.pins dc f3.src (b8.size) (fun a7 h0 b9 f4 a8 ca => ?_))
 have dg := b8.write f4 a8 ((yE dc))
 have f5 := dd.keptA a8 b2.symm
 have f6 := de.keptA a8 b3.symm
 have f7 := df.keptA a8 c5.symm
 have f8 := zF b2.symm ca dd.lt
 have f9 := zO b3.symm ca de.lt
 have dh := zO c5.symm ca df.lt
 have h1 := la1 ls (nj : Int)
 refine qD rfl (zI (k := 3) rfl dE rfl nz40 rfl) (q0 rfl rfl rfl (o_stp (cs' := [vJ (x : Int), vJ (y : Int), rv, a7]) (us := [a7]) (v := a7) sz40 rfl rfl (jX b9.one) (yG b9.one) dg.pins f7 (cE rfl) rfl (fun h2 ga gb a9 h4 => ?_)))
 have gc := dg.write gb a9 ((zW bm))
 have gd := f5.keptA a9 bp
 have ge := b9.keptA a9 dh.symm
 have gf := f6.keptA a9 bl.symm
 refine qe (w9c ?_)
 refine qM (vJ (j : Int)) ?_
 refine qD rfl (yO rfl rfl (by omega)) (qM (vJ ((j : Int) + 1)) ?_)
 refine qe (yD (⟨_, ?_, _, rfl, _, j + 1, a7, ls ++ ([(nj : Int)]), b6, (pS 14 (pS 11 (pS 10 (pS 6 (pS 5 (pS 4 (pS 3 (pU 2)))))))), rfl, gc, (cB (cB af ah) aj.le), (by omega), (by rw [hls, low_at hnlj.1 am hmj]; exact vF (f := (fun r => lowL L (leftsP ns bs x r))) 0 (by omega)), ge, gd, gf, ga, f8.symm, f9.symm, dh.symm⟩))
 omega
 replace am := of_decide_eq_false am
 refine cN (zA (zY (zC (qM (vJ (nj : Int)) ?_))))
 refine qD rfl (yO rfl rfl (by omega)) (qM (vJ ((nj : Int) + 1)) ?_)
 refine qe (yB (yD (⟨_, ?_, _, rfl, _, nj + 1, b6, (pS 15 (pS 14 (pS 11 (pS 10 (pS 6 (pS 5 (pS 4 (pS 3 (pU 2))))))))), rfl, aq, (cB ah aj.le), (fun q hq => if h3 : q = nj then h3 ▸ am else hmj q (by omega)), c8, c9, da, b7⟩)))
 omega
 refine cP (zZ (yJ (yI (w9a ?_))))
 refine qD rfl (zU (cs := [vJ (x : Int), vJ (y : Int), rv, lv]) ag53 sz53 rfl (fun j u hj => c4.cell (by simpa using hj))) (q0 rfl rfl rfl (o_stp (cs' := [vJ (x : Int), vJ (y : Int), rv, lv]) (us := [vJ (x : Int), vJ (y : Int), rv, lv]) (v := .agg #[vJ (x : Int), vJ (y : Int), rv, lv]) sz53 rfl rfl rfl (jS (by rfl) (by rfl) b0.one bz.one) aw.pins c3 (cE rfl) rfl (fun h5 gg gh cb h6 => ?_)))
 have gi := aw.write gh cb ((zW dv))
 have gj := bz.keptA cb b3
 have gk := b0.keptA cb bo
 refine qe (zA ?_)
 refine cO (zT (vU (cs := [vJ (x : Int), vJ (y : Int), rv, lv]) rfl rfl rfl ag53 sz53 (fun j u hj => by rw [cR]; exact gg.cell hj) ?_))
 rw [qK (by omega)] at hrs hls
 exact ⟨_, _, _, rfl, (by rw [show (claimOf ns bs L x y).r = rs from hrs.symm]; exact gk), (by rw [show (claimOf ns bs L x y).l = ls from hls.symm]; exact gj), b2.symm, gi⟩
end PF2
namespace PF3
open B1 C1 D1 E1 OR1 SF1 P1 PF2
theorem pl92 : (Tryz.prog.underlying 92).bind (placesD Tryz.prog) = some [(0, 1), (1, 1)] := by kernel_rfl
theorem eA {w : World} {G : Pin} {u v : Value} {ns bs : List Nd} (hP : Pins G w) (hu : RSl eNode G u ns) (hv : RSl eNode G v bs) (hga : GoodP ns) (hgb : GoodP bs) :
  Calls Tryz.prog 32 [.agg #[u], .agg #[v]].toArray w fun e w' => ∃ (r : Value) (G' : Pin), e = .returned r ∧ RSl eClaim G' r (fullL ns bs) ∧ Ext noS G w G' w' := by
 refine yC (n := 57) Tryz.func32 Tryz.ntmps32 rfl rfl ?_
 have bo := exr noS hP
 have hmu := hu.max
 have hmv := hv.max
 have hla := hga.lo
 have hlb := hgb.lo
 have hha := hga.hi
 have hhb := hgb.hi
 have hpb := pair_book (jL hga) (jL hgb) (by omega)
 have e1 := hpb.ok1.len
 have e2 := hpb.ok2.len
 have e3 := hpb.ok1.hi
 simp only [List.length_nil, cR] at e3
 refine w9d ?_
 refine qI rfl (xL [u] (v := .agg #[u]) rfl rfl bo.pins (fun b1 w2 ha dp dq dr => ?_))
 have ds := bo.step dq dr
 have dt : w.heap.size ≤ b1 := by have := bo.size; omega
 obtain ⟨G9, a9, bq, br, hc⟩ := dp.shut ds dt
 refine qI rfl (xL [v] (v := .agg #[v]) rfl rfl bq.pins (fun bt hd he du dv dw => ?_))
 have dx := bq.step dv dw
 have dy : w.heap.size ≤ bt := by have := bq.size; omega
 obtain ⟨dz, ah, bu, bv, hf⟩ := du.shut dx dy
 refine qM vN ?_
 refine qe (w9a ?_)
 refine qD rfl (xH [vN, vN] [vN, vN] [] dK zr92 rfl pl92 rfl (fun _ h => by cases h) rfl) (qI rfl (xL [vN, vN] (v := .agg #[vN, vN]) rfl rfl bu.pins (fun f bw hg d0 d1 d2 => ?_)))
 have ce := bu.step d1 d2
 have cf : w.heap.size ≤ f := by have := bu.size; omega
 refine qM (vP f) ?_
 refine qe (zA (zB ?_))
 refine yT (S := fun wz => Pins dz wz) (last := 8) (by kernel_rfl) rfl ?_
 have bz := bdr bw
 have d3 := ce.pins.below bz
 have ae := ce.step d3 bz
 have d4 := d0.below bz
 refine dM 0 (vP f) ae.pins ?_
 refine dT (i := 1) rfl rfl (by kernel_rfl) (fun _ hS => zU (cs := [u]) ag26 sz26 rfl (fun j u hj => (cC hS ah) _ _ _ (br _ _ (by simpa using hj)))) ae.pins ?_
 refine dM 3 (vP f) ae.pins ?_
 refine dT (i := 4) rfl rfl (by kernel_rfl) (fun _ hS => zU (cs := [v]) ag26 sz26 rfl (fun j u hj => hS _ _ _ (bv _ _ (by simpa using hj)))) ae.pins ?_
 refine dP (i := 2) rfl rfl (zP (vs := [vP f, .agg #[u]]) Tryz.func61 nm61 rfl rfl rfl ?_)
 refine cD (nV ae.pins ⟨d4, (Own.nil _ _ _ _ _), (Own.nil _ _ _ _ _), apart_none.symm, apart_none.symm, apart_none⟩ qJ (hu.mono (cB a9 ah)) (jL hga) (by first | omega | (simp; omega))) ?_
 rintro _ hh ⟨az, d5, d6, hk, rfl, cg, ao, m, d7, d8⟩
 refine rt9 ?_
 have b0 : ∀ i, inS f vN vN i → w.heap.size ≤ i ∨ noS i := kH (zW cf) (kD _ _) (kD _ _)
 have a0 := ae.trans m b0
 have d9 := ao.bx
 have ea := ao.ou
 have eb := ao.ov
 have ec := ao.abu
 have ed := ao.abv
 have ee := ao.auv
 have ef := xT d7 b0 ae.size
 have eg := xT d8 b0 ae.size
 refine ⟨fun _ => (cC a0.pins m.le), ?_⟩
 refine dP (i := 5) rfl rfl (zP (vs := [vP f, .agg #[v]]) Tryz.func61 nm61 rfl rfl rfl ?_)
 refine cD (nV a0.pins ⟨d9, ea, eb, ec, ed, ee⟩ hpb.ok1.book (hv.mono (cB (cB a9 ah) m.le)) (jL hgb) (by first | omega | (simp; omega))) ?_
 rintro _ hl ⟨a1, ap, aq, hm, rfl, ch, ar, q, eh, ei⟩
 refine rt9 ?_
 have b2 : ∀ i, inS f d5 d6 i → w.heap.size ≤ i ∨ noS i := kH (zW cf) ef eg
 have ai := a0.trans q b2
 have b3 := ar.bx
 have b4 := ar.ou
 have b5 := ar.ov
 have ci := ar.abu
 have cj := ar.abv
 have ck := ar.auv
 have hn := xT eh b2 a0.size
 have ho := xT ei b2 a0.size
 refine ⟨fun _ => (cC ai.pins (cB m.le q.le)), ?_⟩
 refine dM 6 az (cC ai.pins (cB m.le q.le)) ?_
 refine dM 7 a1 (cC ai.pins (cB m.le q.le)) ?_
 refine yH (by kernel_rfl) (w9a ?_)
 refine qM (vP f) ?_
 refine qI rfl (zP (vs := [vP f]) Tryz.func58 nm58 rfl rfl rfl ?_)
 refine cD (pT ai.pins ⟨b3, b4, b5, ci, cj, ck⟩ hpb.ok2.book) ?_
 rintro _ hp ⟨ab, aj, b6, rfl, cl, ba, ej, cm, o⟩
 refine rt9 ?_
 have b7 := ai.tr o
 have cn := b4.ext o
 have co := b5.ext o
 have cp := b3.ext o
 have cq := zR ba.lt b4.lt
 have cr := zR ba.lt b5.lt
 have ct := zV ba.lt b3.lt
 have hq := cQ ai.size ej
 have cu := ba.weaken ai.size
 refine qM (vP ab) ?_
 refine qe (w9a ?_)
 refine qI rfl (xB (E := eClaim) (e := 53) dG sz53 b7.pins (fun b8 ek el em au a2 => ?_))
 have eo := b7.step em au
 have ep := cn.below au
 have eq := co.below au
 have cv := cu.below au
 have er := cp.below au
 have es := cl.below au
 have et := zG a2 cn.lt
 have eu := zG a2 co.lt
 have ev := zG a2 cu.lt
 have ew := zD a2 cp.lt
 have ex := zD a2 cl.lt
 have ey := el.weaken b7.size
 refine qM b8 ?_
 refine qe (zA (w9b ?_))
 refine qM (vJ 0) ?_
 refine qe (zA ?_)
 refine zY ?_
 have hlok : Lo w noS aj.ownBlock := (yE cv)
 refine yN (fun k en W => ∃ (a3 : Nat → Value) (i : Nat) (ov : Value) (os : List Cl) (kq : List Int) (s : Pin), en = (upd (upd (upd (upd (upd (upd (upd (upd a3 2 (vP b1)) 3 (vP bt)) 4 vN) 6 az) 7 a1) 8 (vP ab)) 9 ov) 10 (vJ (i : Int))) ∧ k = ns.length - i ∧ Ext noS G w s W ∧ Pin.le b6 s ∧ (i ≤ ns.length) ∧ (os = rowL ns bs i) ∧ (KAll _ kq) ∧ (Own eClaim 53 s W w.heap.size ov (os)) ∧ (Own eInt 3 s W 0 aj (kq)) ∧ (Own eNode 76 s W 0 ap ((addM ((addM ([]) ([]) ns).2.1) ((addM ([]) ([]) ns).2.2) bs).2.1)) ∧ (Own eInt 3 s W 0 aq ((addM ((addM ([]) ([]) ns).2.1) ((addM ([]) ([]) ns).2.2) bs).2.2)) ∧ (Bx s W f [ap, aq]) ∧ (Bx s W ab [vP f, aj]) ∧ (Apart ov.ownBlock aj.ownBlock) ∧ (Apart ov.ownBlock ap.ownBlock) ∧ (Apart ov.ownBlock aq.ownBlock) ∧ (Apart ov.ownBlock (some f)) ∧ (Apart ov.ownBlock (some ab))) _ ⟨_, 0, b8, [], List.replicate (((addM ((addM ([]) ([]) ns).2.1) ((addM ([]) ([]) ns).2.2) bs).2.1).length * ((addM ((addM ([]) ([]) ns).2.1) ((addM ([]) ([]) ns).2.2) bs).2.1).length) 0, b6, (pS 10 (pS 9 (pS 8 (pS 7 (pS 6 (pS 4 (pS 3 (pU 2)))))))), rfl, eo, cJ _, cI _, rfl, KAll.zero, ey, (cv.weaken (cI _)), ep, eq, er, es, ev, et, eu, ew, ex⟩ ?_
 rintro hr _ hs ⟨a3, i, ov, os, kq, s, rfl, ht, b9, ac, hi, hos, ez, cw, e0, e4, e5, e6, e7, e8, e9, fa, fb, fc⟩
 refine w9b ?_
 refine qM (vJ (i : Int)) ?_
 refine qD rfl (zI (k := 0) rfl dF rfl nz24 rfl) (qD rfl (zJ (u := u) ag24 rfl ((cC b9.pins (cB (cB (cB (cB ah m.le) q.le) o.le) ac)) _ _ _ (br 0 _ rfl))) (qD rfl (zN dD (v := u) rfl hu) (qD rfl (yQ rfl rfl) (qe (zA ?_)))))
 refine yA (p := ((i : Int) : Int) < (ns.length : Int)) rfl rfl (fun fd => ?_) (fun fd => ?_)
 refine cN (zA (zB ?_))
 refine zY (w9d ?_)
 refine qM (vJ 0) ?_
 refine qe (zA ?_)
 refine zY (yN (fun k en W => ∃ (a3 : Nat → Value) (j : Nat) (d : Value) (c : List Cl) (bb : List Int) (t : Pin), en = (upd (upd (upd (upd (upd (upd (upd (upd (upd a3 2 (vP b1)) 3 (vP bt)) 4 vN) 6 az) 7 a1) 8 (vP ab)) 9 d) 10 (vJ (i : Int))) 11 (vJ (j : Int))) ∧ k = bs.length - j ∧ Ext noS G w t W ∧ Pin.le s t ∧ (j ≤ bs.length) ∧ (c = colL ns bs (rowL ns bs i) i j) ∧ (KAll _ bb) ∧ (Own eClaim 53 t W w.heap.size d (c)) ∧ (Own eInt 3 t W 0 aj (bb)) ∧ (Own eNode 76 t W 0 ap ((addM ((addM ([]) ([]) ns).2.1) ((addM ([]) ([]) ns).2.2) bs).2.1)) ∧ (Own eInt 3 t W 0 aq ((addM ((addM ([]) ([]) ns).2.1) ((addM ([]) ([]) ns).2.2) bs).2.2)) ∧ (Bx t W f [ap, aq]) ∧ (Bx t W ab [vP f, aj]) ∧ (Apart d.ownBlock aj.ownBlock) ∧ (Apart d.ownBlock ap.ownBlock) ∧ (Apart d.ownBlock aq.ownBlock) ∧ (Apart d.ownBlock (some f)) ∧ (Apart d.ownBlock (some ab))) _ ⟨_, 0, ov, os, kq, s, (pS 11 (pS 10 (pS 9 (pS 8 (pS 7 (pS 6 (pS 4 (pS 3 (pU 2))))))))), rfl, b9, cJ _, cI _, hos, ez, cw, e0, e4, e5, e6, e7, e8, e9, fa, fb, fc⟩ ?_)
 rintro hw _ ca ⟨a3, j, d, c, bb, t, rfl, hx, bc, aa, hj, a4, bd, cx, cy, cz, c0, c1, c2, a5, be, bf, bg, bh⟩
 refine w9b ?_
 refine qM (vJ (j : Int)) ?_
 refine qD rfl (zI (k := 0) rfl dF rfl nz24 rfl) (qD rfl (zJ (u := v) ag24 rfl ((cC bc.pins (cB (cB (cB (cB m.le q.le) o.le) ac) aa)) _ _ _ (bv 0 _ rfl))) (qD rfl (zN dD (v := v) rfl hv) (qD rfl (yQ rfl rfl) (qe (zA ?_)))))
 refine yA (p := ((j : Int) : Int) < (bs.length : Int)) rfl rfl (fun fe => ?_) (fun fe => ?_)
 have hT := trueAt hga.optsOk hgb.optsOk (x := i) (k := j) (by omega) (by omega)
 have hcb := sC hga.hi hgb.hi (x := i) (k := j) (by omega) (by omega)
 rw [← a4] at hT hcb
 refine cN (zA (zB ?_))
 refine zY (zB (yT (S := fun wz => Pins t wz) (last := 10) (by kernel_rfl) rfl ?_))
 have af := bdr ca
 have ff := bc.pins.below af
 have y := bc.step ff af
 have fg := cx.below af
 have fh := cy.below af
 have c3 := cz.below af
 have c4 := c0.below af
 have c5 := c1.below af
 have c6 := c2.below af
 refine dM 0 (vP ab) y.pins ?_
 refine dM 1 az y.pins ?_
 refine dM 2 (vJ (i : Int)) y.pins ?_
 refine dT (i := 3) rfl rfl (by kernel_rfl) (fun _ _ => zE dC sz3 (v := az) rfl rfl cg (by omega) (by omega)) y.pins ?_
 refine dT (i := 4) rfl rfl (by kernel_rfl) (fun _ hS => zL (r := ((addM ([]) ([]) ns).1).getD i 0) rfl ag3 (z := (i : Int)) rfl cg (cC hS (cB (cB (cB q.le o.le) ac) aa)) (by omega) (by omega)) y.pins ?_
 refine dM 5 a1 y.pins ?_
 refine dM 6 (vJ (j : Int)) y.pins ?_
 refine dT (i := 7) rfl rfl (by kernel_rfl) (fun _ _ => zE dC sz3 (v := a1) rfl rfl ch (by omega) (by omega)) y.pins ?_
 refine dT (i := 8) rfl rfl (by kernel_rfl) (fun _ hS => zL (r := ((addM ((addM ([]) ([]) ns).2.1) ((addM ([]) ([]) ns).2.2) bs).1).getD j 0) rfl ag3 (z := (j : Int)) rfl ch (cC hS (cB (cB o.le ac) aa)) (by omega) (by omega)) y.pins ?_
 refine dP (i := 9) rfl rfl (zP (vs := [vP ab, vJ (((addM ([]) ([]) ns).1).getD i 0), vJ (((addM ((addM ([]) ([]) ns).2.1) ((addM ([]) ([]) ns).2.2) bs).1).getD j 0)]) Tryz.func59 nm59 rfl rfl rfl ?_)
 refine cD (geq_spec y.pins ⟨⟨c5, c3, c4, ci, cj, ck⟩, c6, fh, cm, ct.symm, cq.symm, cr.symm⟩ (hpb.p1 _ (by omega)) (hpb.p2 _ (by omega)) bd.1 hpb.ok2.book (bd.2 _)) ?_
 rintro _ c7 ⟨c8, a6, rfl, bi, c9, g⟩
 refine rt9 ?_
 have ad := y.trans g (fun i hi => hlok i hi)
 have a7 := fg.extS g (notO a5)
 have bj := c3.extS g (notO cq.symm)
 have bk := c4.extS g (notO cr.symm)
 have bl := c5.extS g (xP ct.symm)
 have bm := c6.extS g (xP cm)
 have hy := c9.len
 have da := KAll.res bd c9
 refine ⟨fun _ => (cC ad.pins g.le), ?_⟩
 refine yH (by kernel_rfl) (zA (c_if rfl rfl (fun bn => ?_) (fun bn => ?_)))
 refine zC ?_
 have hjp := (hT.just hga.optsOk hgb.optsOk (by omega) (by omega)).2 ((hpb.ge i j (by omega) (by omega)).symm.trans bn)
 refine qM d ?_
 refine qD rfl (zU (cs := [u]) ag26 sz26 rfl (fun j u hj => (cC ad.pins (cB (cB (cB (cB (cB (cB ah m.le) q.le) o.le) ac) aa) g.le)) _ _ _ (br _ _ (by simpa using hj)))) (qD rfl (zU (cs := [v]) ag26 sz26 rfl (fun j u hj => (cC ad.pins (cB (cB (cB (cB (cB m.le q.le) o.le) ac) aa) g.le)) _ _ _ (bv _ _ (by simpa using hj)))) (qM d ?_))
 refine qM (vJ (i : Int)) ?_
 refine qM (vJ (j : Int)) ?_
 refine qI rfl (zP (vs := [.agg #[u], .agg #[v], d, vJ (i : Int), vJ (j : Int)]) Tryz.func62 nm62 rfl rfl rfl ?_)
 refine cD (nZ (cL ad.pins d) ((hu.mono (cB (cB (cB (cB (cB (cB (cB a9 ah) m.le) q.le) o.le) ac) aa) g.le)).mono (Gadd.le _ _ _)) ((hv.mono (cB (cB (cB (cB (cB (cB (cB a9 ah) m.le) q.le) o.le) ac) aa) g.le)).mono (Gadd.le _ _ _)) a7.read hga hgb (by omega) (by omega) hjp) ?_
 rintro _ db ⟨dc, dd, hz, rfl, fi, fj, fk, cb⟩
 refine rt9 ?_
 have ag := kS ad.pins cb
 have ak := fi.anti kR (cB (Gadd.le a6 c7 d) cb.le)
 have al := fj.anti kR (cB (Gadd.le a6 c7 d) cb.le)
 have fl := ad.step ag.pins ag.below
 have fm := a7.below ag.below
 have fn := bi.ok.below ag.below
 have fo := bj.below ag.below
 have fp := bk.below ag.below
 have fq := bl.below ag.below
 have fr := bm.below ag.below
 have fs := zR ak.lt a7.lt
 have ft := zR ak.lt bi.ok.lt
 have fu := zR ak.lt bj.lt
 have fv := zR ak.lt bk.lt
 have fw := zV ak.lt bl.lt
 have fx := zV ak.lt bm.lt
 have fy := ak.weaken ad.size
 have fz := zR al.lt a7.lt
 have f0 := zR al.lt bi.ok.lt
 have f1 := zR al.lt bj.lt
 have f2 := zR al.lt bk.lt
 have f3 := zV al.lt bl.lt
 have f4 := zV al.lt bm.lt
 have f5 := al.weaken ad.size
 obtain ⟨h0, av, f6, f7, am⟩ := fy.sealed fl
 have f8 := fm.moreO av am fs.symm
 have f9 := fn.moreO av am ft.symm
 have ga := fo.moreO av am fu.symm
 have gb := fp.moreO av am fv.symm
 have gc := f5.moreO av am fk.symm
 have gd := fq.moreO am fw.symm
 have gf := fr.moreO am fx.symm
 obtain ⟨de, aw, cc, gg, ax⟩ := gc.sealed f6
 have gh := f8.moreO aw ax fz.symm
 have gi := f9.moreO aw ax f0.symm
 have gj := ga.moreO aw ax f1.symm
 have gk := gb.moreO aw ax f2.symm
 have gl := gd.moreO ax f3.symm
 have gm := gf.moreO ax f4.symm
 refine qI rfl (xE (E := eClaim) (e := 53) [vJ ((claimOf ns bs c i j).a), vJ ((claimOf ns bs c i j).b), dc, dd] (⟨(claimOf ns bs c i j).a, (claimOf ns bs c i j).b, (claimOf ns bs c i j).r, (claimOf ns bs c i j).l⟩ : Cl) dG sz53 zr53 ⟨_, _, rfl, (f7.mono aw), gg⟩ rfl (by decide) cc.pins (fun df gn gp gq an h1 => ?_))
 have cd := cc.step gq an
 have dg := gh.below an
 have dh := gi.below an
 have di := gj.below an
 have dj := gk.below an
 have dk := gl.below an
 have dl := gm.below an
 have gr := gp.weaken cc.size
 refine qI rfl (oA (E := eClaim) (v := d) (u := df) 64 dG ap53 (by decide) rfl rfl cd.pins dg gr.src (cd.size) (fun dm h2 gs gt ay a8 => ?_))
 have gu := cd.write gt ay ((yE dg))
 have gv := dh.keptA ay a5.symm
 have gw := di.keptA ay be.symm
 have gx := dj.keptA ay bf.symm
 have gy := dk.keptA ay bg.symm
 have gz := dl.keptA ay bh.symm
 have g0 := zF a5.symm a8 dh.lt
 have g1 := zF be.symm a8 di.lt
 have g2 := zF bf.symm a8 dj.lt
 have g3 := zO bg.symm a8 dk.lt
 have g4 := zO bh.symm a8 dl.lt
 have h3 := la1 c (⟨(claimOf ns bs c i j).a, (claimOf ns bs c i j).b, (claimOf ns bs c i j).r, (claimOf ns bs c i j).l⟩ : Cl)
 refine qM dm ?_
 refine qe (w9c ?_)
 refine qM (vJ (j : Int)) ?_
 refine qD rfl (yO rfl rfl (by omega)) (qM (vJ ((j : Int) + 1)) ?_)
 refine qe (yD (⟨_, ?_, _, rfl, _, j + 1, dm, c ++ ([(⟨(claimOf ns bs c i j).a, (claimOf ns bs c i j).b, (claimOf ns bs c i j).r, (claimOf ns bs c i j).l⟩ : Cl)]), c8, de, (pS 11 (pS 10 (pS 9 (pS 8 (pS 7 (pS 6 (pS 4 (pS 3 (pU 2))))))))), rfl, gu, (cB (cB (cB aa g.le) av) aw), (by omega), (next_y a4 ((hpb.ge i j (by omega) (by omega)).symm.trans bn)), da, gs, gv, gw, gx, gy, gz, g0.symm, g1.symm, g2.symm, g3.symm, g4.symm⟩))
 omega
 refine cN (w9c ?_)
 refine qM (vJ (j : Int)) ?_
 refine qD rfl (yO rfl rfl (by omega)) (qM (vJ ((j : Int) + 1)) ?_)
 refine qe (yD (⟨_, ?_, _, rfl, _, j + 1, d, c, c8, a6, (pS 11 (pS 10 (pS 9 (pS 8 (pS 7 (pS 6 (pS 4 (pS 3 (pU 2))))))))), rfl, ad, (cB aa g.le), (by omega), (next_n a4 ((hpb.ge i j (by omega) (by omega)).symm.trans bn)), da, a7, bi.ok, bj, bk, bl, bm, a5, be, bf, bg, bh⟩))
 omega
 refine cP (zZ (yJ (yI (w9c ?_))))
 refine qM (vJ (i : Int)) ?_
 refine qD rfl (yO rfl rfl (by omega)) (qM (vJ ((i : Int) + 1)) ?_)
 refine qe (yD ?_)
 have hjn : j = bs.length := by omega
 rw [hjn] at a4
 refine ⟨_, ?_, _, rfl, _, i + 1, d, c, bb, t, (pS 10 (pS 9 (pS 8 (pS 7 (pS 6 (pS 4 (pS 3 (pU 2)))))))), rfl, bc, (cB ac aa), (by omega), a4, bd, cx, cy, cz, c0, c1, c2, a5, be, bf, bg, bh⟩
 omega
 refine cP (zZ (yJ (yI (w9a ?_))))
 refine qM ov ?_
 refine qM ov ?_
 refine qe (zA ?_)
 refine cO (zT (zS (v := ov) rfl rfl rfl ?_))
 obtain ⟨h4, h5, g5, g6, h6⟩ := cw.sealed b9
 have hin : i = ns.length := by omega
 rw [hin] at hos
 exact ⟨_, _, rfl, (by rw [show fullL ns bs = os from hos.symm]; exact g6), g5⟩
end PF3
end Go.Proofs.YtdleojbknkbpiaaGreatDoor
