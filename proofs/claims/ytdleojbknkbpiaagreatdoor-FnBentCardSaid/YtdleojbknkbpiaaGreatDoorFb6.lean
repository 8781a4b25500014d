/- Texts of this claim. -/
import Derived.Test.YtdleojbknkbpiaaGreatDoorFb5
import Derived.Test.YtdleojbknkbpiaaGreatDoorChecked
set_option maxRecDepth 20000
set_option maxHeartbeats 2000000
namespace Go.Proofs.YtdleojbknkbpiaaGreatDoor
open Go.RowKit Go.GL Go.Proofs
namespace DR2
open B1 C1 D1 E1 MK1 DR1
variable {G : Pin} {base : Nat} {vs : List Value} {cv : Value} {code : List UInt8} {a m : Int}
theorem xS {w : World} {Q : List Nat} {us ws : List Value} {u v : Value} (hP : Pins G w) (hF : Fr 76 base G w Q vs) (hq : KQ Q) (hl : Q.length ≤ 60) (hb : base ≤ w.heap.size)
  (hu : RSl eVal G u us) (hv : RSl eVal G v ws) (hmu : ∀ x ∈ us, x ∈ vs) (hmv : ∀ x ∈ ws, x ∈ vs) (hlu : us.length ≤ 100) (hlv : ws.length ≤ 100) :
  Calls Tryz.prog 65 #[u, v] w fun e w' => ∃ (x : Value) (g : Nat) (G' : Pin), e = .returned (.agg #[x]) ∧ KQ (g :: Q) ∧ Fr 76 base G' w' (g :: Q) (x :: vs) ∧ Ext noS G w G' w' := by
 obtain ⟨gs, g1, g2, g3⟩ := (hF.mem hmu).games
 obtain ⟨hs, h1, h2, h3⟩ := (hF.mem hmv).games
 have ru := nH hu (by rw [List.length_map]; exact g1) g3
 have rv := nH hv (by rw [List.length_map]; exact h1) h3
 have wu := hq.allW (by omega) g2 (by omega)
 have wv := hq.allW (by omega) h2 (by omega)
 refine (l3Make_own hP ru rv wu wv).mono fun e w' ⟨x, G', e1, hr, hx, Gi, ho, hle⟩ => ?_
 have hk := hq.add (by omega) g2 h2 (by omega) (by omega)
 have hm := hk.is _ List.mem_cons_self
 exact ⟨x, _, G', e1, hk, (hF.ext hx).cons ⟨⟨Gi, ho.weaken hb, hle⟩, hr, hm.1.lo⟩, hx⟩
theorem sF {w : World} (hP : Pins G w) :
  Calls Tryz.prog 63 #[] w fun e w' => ∃ (u : Value) (vs : List Value) (Q : List Nat) (G' : Pin), e = .returned u ∧ Own eVal 26 G' w' w.heap.size u vs ∧ Fr 76 w.heap.size G' w' Q vs ∧ KQ Q ∧ vs.length = 9 ∧ Q.length = 9 ∧ Ext noS G w G' w' := by
 refine yA (n := 59) Tryz.func63 Tryz.ntmps63 rfl rfl ?_
 have bi := exr noS hP
 have ey : Fr 76 w.heap.size G w [] [] := Fr.nil
 refine w9d ?_
 refine qM vN ?_
 refine qe (w9a ?_)
 refine qI rfl (zO (vs := [vN, vN]) Tryz.func65 nm65 rfl rfl rfl ?_)
 refine cC (xS bi.pins ey KQ.nil (by first | omega | (simp; done) | (simp; omega)) bi.size (kM _ _) (kM _ _) (by simp) (by simp) (by first | omega | simp) (by first | omega | simp)) ?_
 rintro _ w4 ⟨a, g2, G3, rfl, ez, ce, e0⟩
 refine rt9 ?_
 have bj := bi.tr e0
 have m := ce.one List.mem_cons_self
 refine qI rfl (yN [vN] zr26 rfl bj.pins (fun e1 ls lu cf e2 cg => ?_))
 have ch := bj.step e2 cg
 have e3 := ce.below cg
 have ci : w.heap.size ≤ e1 := by have := bj.size; omega
 refine q0 rfl rfl rfl (o_stp (cs' := [a]) (us := [a]) (v := .agg #[a]) sz26 rfl rfl rfl (yF m) ch.pins cf (cD rfl) rfl (fun lv e4 e5 cj lw => ?_))
 have e6 := ch.write e5 cj ((zW ci))
 have e7 := e3.kept cj (fun k hk o u => by cases hk; exact cf.free o u)
 obtain ⟨e8, e9, a5, aj, lx⟩ := e4.shut e6 ci
 have fa := e7.le e9
 refine qe (w9a ?_)
 refine qD rfl (zR (cs := [a]) ag26 sz26 rfl (fun j u hj => a5.pins _ _ _ (aj _ _ (by simpa using hj)))) (qI rfl (xF (E := eVal) (e := 26) [a] a dH sz26 zr26 ⟨rfl, m⟩ rfl (by decide) a5.pins (fun ck fb fc fd cl ly => ?_)))
 have fe := a5.step fd cl
 have ff := fa.below cl
 have fg := fc.weaken a5.size
 obtain ⟨lz, ak, bk, fh, l0⟩ := fg.sealed fe
 have fi := ff.le ak
 refine qI rfl (zO (vs := [ck, vN]) Tryz.func65 nm65 rfl rfl rfl ?_)
 refine cC (xS bk.pins fi ez (by first | omega | (simp; done) | (simp; omega)) bk.size fh (kM _ _) (by simp) (by simp) (by first | omega | simp) (by first | omega | simp)) ?_
 rintro _ l1 ⟨f, l2, l3, rfl, fj, cm, al⟩
 refine rt9 ?_
 have bl := bk.tr al
 have a1 := cm.one List.mem_cons_self
 refine qI rfl (yN [vN] zr26 rfl bl.pins (fun fk l4 l5 cn fl co => ?_))
 have cp := bl.step fl co
 have fm := cm.below co
 have cq : w.heap.size ≤ fk := by have := bl.size; omega
 refine q0 rfl rfl rfl (o_stp (cs' := [f]) (us := [f]) (v := .agg #[f]) sz26 rfl rfl rfl (yF a1) cp.pins cn (cD rfl) rfl (fun l6 fn fo cr l7 => ?_))
 have fp := cp.write fo cr ((zW cq))
 have fq := fm.kept cr (fun k hk o u => by cases hk; exact cn.free o u)
 obtain ⟨fr, am, a6, bm, l8⟩ := fn.shut fp cq
 have fs := fq.le am
 refine qe (w9a ?_)
 refine qD rfl (zR (cs := [a]) ag26 sz26 rfl (fun j u hj => (cB a6.pins (cA (cA ak al.le) am)) _ _ _ (aj _ _ (by simpa using hj)))) (qI rfl (xF (E := eVal) (e := 26) [a] a dH sz26 zr26 ⟨rfl, m⟩ rfl (by decide) a6.pins (fun ct ft fu fv cu l9 => ?_)))
 have fw := a6.step fv cu
 have fx := fs.below cu
 have fy := fu.weaken a6.size
 obtain ⟨ma, aa, bn, fz, mb⟩ := fy.sealed fw
 have f0 := fx.le aa
 refine qI rfl (zO (vs := [vN, ct]) Tryz.func65 nm65 rfl rfl rfl ?_)
 refine cC (xS bn.pins f0 fj (by first | omega | (simp; done) | (simp; omega)) bn.size (kM _ _) fz (by simp) (by simp) (by first | omega | simp) (by first | omega | simp)) ?_
 rintro _ mc ⟨ag, md, me, rfl, f1, cv, ab⟩
 refine rt9 ?_
 have bo := bn.tr ab
 have a7 := cv.one List.mem_cons_self
 refine qI rfl (yN [vN] zr26 rfl bo.pins (fun f2 mf mg cw f3 cx => ?_))
 have cy := bo.step f3 cx
 have f4 := cv.below cx
 have cz : w.heap.size ≤ f2 := by have := bo.size; omega
 refine q0 rfl rfl rfl (o_stp (cs' := [ag]) (us := [ag]) (v := .agg #[ag]) sz26 rfl rfl rfl (yF a7) cy.pins cw (cD rfl) rfl (fun mh f5 f6 c0 mi => ?_))
 have f7 := cy.write f6 c0 ((zW cz))
 have f8 := f4.kept c0 (fun k hk o u => by cases hk; exact cw.free o u)
 obtain ⟨c1, ac, a8, c2, mj⟩ := f5.shut f7 cz
 have f9 := f8.le ac
 refine qe (w9a ?_)
 refine qD rfl (zR (cs := [a]) ag26 sz26 rfl (fun j u hj => (cB a8.pins (cA (cA (cA (cA (cA ak al.le) am) aa) ab.le) ac)) _ _ _ (aj _ _ (by simpa using hj)))) (qI rfl (xF (E := eVal) (e := 26) [a] a dH sz26 zr26 ⟨rfl, m⟩ rfl (by decide) a8.pins (fun c3 ga gb gc c4 mk => ?_)))
 have a9 := a8.step gc c4
 have gd := f9.below c4
 have c5 := gb.weaken a8.size
 refine qD rfl (zR (cs := [a]) ag26 sz26 rfl (fun j u hj => (cB a9.pins (cA (cA (cA (cA (cA ak al.le) am) aa) ab.le) ac)) _ _ _ (aj _ _ (by simpa using hj)))) (qI rfl (xF (E := eVal) (e := 26) [a] a dH sz26 zr26 ⟨rfl, m⟩ rfl (by decide) a9.pins (fun c6 ge gf gg bp gh => ?_)))
 have gi := a9.step gg bp
 have gj := c5.below bp
 have gk := gd.below bp
 have gl := zL gh c5.lt
 have gm := gf.weaken a9.size
 obtain ⟨ml, t, gn, gp, gq⟩ := gj.sealed gi
 have gr := gm.moreO t gq gl
 have gs := gk.le t
 obtain ⟨mm, x, bq, gt, mn⟩ := gr.sealed gn
 have gu := gs.le x
 refine qI rfl (zO (vs := [c3, c6]) Tryz.func65 nm65 rfl rfl rfl ?_)
 refine cC (xS bq.pins gu f1 (by first | omega | (simp; done) | (simp; omega)) bq.size (gp.mono x) gt (by simp) (by simp) (by first | omega | simp) (by first | omega | simp)) ?_
 rintro _ mo ⟨b, mp, mq, rfl, gv, c7, ad⟩
 refine rt9 ?_
 have br := bq.tr ad
 have ar := c7.one List.mem_cons_self
 refine qI rfl (yN [vN] zr26 rfl br.pins (fun gw mr ms c8 gx c9 => ?_))
 have da := br.step gx c9
 have gy := c7.below c9
 have db : w.heap.size ≤ gw := by have := br.size; omega
 refine q0 rfl rfl rfl (o_stp (cs' := [b]) (us := [b]) (v := .agg #[b]) sz26 rfl rfl rfl (yF ar) da.pins c8 (cD rfl) rfl (fun mt gz g0 dc mu => ?_))
 have g1 := da.write g0 dc ((zW db))
 have g3 := gy.kept dc (fun k hk o u => by cases hk; exact c8.free o u)
 obtain ⟨dd, ae, ba, a2, mv⟩ := gz.shut g1 db
 have g4 := g3.le ae
 refine qe (w9a ?_)
 refine qD rfl (zR (cs := [a]) ag26 sz26 rfl (fun j u hj => (cB ba.pins (cA (cA (cA (cA (cA (cA (cA (cA (cA ak al.le) am) aa) ab.le) ac) t) x) ad.le) ae)) _ _ _ (aj _ _ (by simpa using hj)))) (qI rfl (xF (E := eVal) (e := 26) [a] a dH sz26 zr26 ⟨rfl, m⟩ rfl (by decide) ba.pins (fun de g5 g6 g7 df mw => ?_)))
 have bb := ba.step g7 df
 have g8 := g4.below df
 have dg := g6.weaken ba.size
 refine qD rfl (zR (cs := [b]) ag26 sz26 rfl (fun j u hj => bb.pins _ _ _ (a2 _ _ (by simpa using hj)))) (qI rfl (xF (E := eVal) (e := 26) [b] b dH sz26 zr26 ⟨rfl, ar⟩ rfl (by decide) bb.pins (fun dh g9 ha hb bs hc => ?_)))
 have hd := bb.step hb bs
 have he := dg.below bs
 have hf := g8.below bs
 have hg := zL hc dg.lt
 have hh := ha.weaken bb.size
 obtain ⟨mx, c, hi, hl, hm⟩ := he.sealed hd
 have hn := hh.moreO c hm hg
 have ho := hf.le c
 obtain ⟨my, d, bt, hp, mz⟩ := hn.sealed hi
 have hq := ho.le d
 refine qI rfl (zO (vs := [de, dh]) Tryz.func65 nm65 rfl rfl rfl ?_)
 refine cC (xS bt.pins hq gv (by first | omega | (simp; done) | (simp; omega)) bt.size (hl.mono d) hp (by simp) (by simp) (by first | omega | simp) (by first | omega | simp)) ?_
 rintro _ m0 ⟨aw, m1, m2, rfl, hr, di, g⟩
 refine rt9 ?_
 have bu := bt.tr g
 have bv := di.one List.mem_cons_self
 refine qI rfl (yN [vN] zr26 rfl bu.pins (fun hs m3 m4 dj ht dk => ?_))
 have dl := bu.step ht dk
 have hu := di.below dk
 have dm : w.heap.size ≤ hs := by have := bu.size; omega
 refine q0 rfl rfl rfl (o_stp (cs' := [aw]) (us := [aw]) (v := .agg #[aw]) sz26 rfl rfl rfl (yF bv) dl.pins dj (cD rfl) rfl (fun m5 hv hw dn m6 => ?_))
 have hx := dl.write hw dn ((zW dm))
 have hy := hu.kept dn (fun k hk o u => by cases hk; exact dj.free o u)
 obtain ⟨dp, h, bc, hz, m7⟩ := hv.shut hx dm
 have h0 := hy.le h
 refine qe (w9a ?_)
 refine qD rfl (zR (cs := [a]) ag26 sz26 rfl (fun j u hj => (cB bc.pins (cA (cA (cA (cA (cA (cA (cA (cA (cA (cA (cA (cA (cA ak al.le) am) aa) ab.le) ac) t) x) ad.le) ae) c) d) g.le) h)) _ _ _ (aj _ _ (by simpa using hj)))) (qI rfl (xF (E := eVal) (e := 26) [a] a dH sz26 zr26 ⟨rfl, m⟩ rfl (by decide) bc.pins (fun dq h1 h2 h3 dr m8 => ?_)))
 have bd := bc.step h3 dr
 have h4 := h0.below dr
 have ds := h2.weaken bc.size
 refine qD rfl (zR (cs := [f]) ag26 sz26 rfl (fun j u hj => (cB bd.pins (cA (cA (cA (cA (cA (cA (cA (cA (cA (cA aa ab.le) ac) t) x) ad.le) ae) c) d) g.le) h)) _ _ _ (bm _ _ (by simpa using hj)))) (qI rfl (xF (E := eVal) (e := 26) [f] f dH sz26 zr26 ⟨rfl, a1⟩ rfl (by decide) bd.pins (fun dt h5 h6 h7 bw h8 => ?_)))
 have h9 := bd.step h7 bw
 have ia := ds.below bw
 have ib := h4.below bw
 have ic := zL h8 ds.lt
 have ie := h6.weaken bd.size
 obtain ⟨m9, i, ig, ih, ii⟩ := ia.sealed h9
 have ij := ie.moreO i ii ic
 have ik := ib.le i
 obtain ⟨na, l, bx, il, nb⟩ := ij.sealed ig
 have im := ik.le l
 refine qI rfl (zO (vs := [dq, dt]) Tryz.func65 nm65 rfl rfl rfl ?_)
 refine cC (xS bx.pins im hr (by first | omega | (simp; done) | (simp; omega)) bx.size (ih.mono l) il (by simp) (by simp) (by first | omega | simp) (by first | omega | simp)) ?_
 rintro _ nc ⟨ax, nd, ne, rfl, io, du, p⟩
 refine rt9 ?_
 have bz := bx.tr p
 have b0 := du.one List.mem_cons_self
 refine qI rfl (yN [vN] zr26 rfl bz.pins (fun ip nf ng dv iq dw => ?_))
 have dx := bz.step iq dw
 have ir := du.below dw
 have dy : w.heap.size ≤ ip := by have := bz.size; omega
 refine q0 rfl rfl rfl (o_stp (cs' := [ax]) (us := [ax]) (v := .agg #[ax]) sz26 rfl rfl rfl (yF b0) dx.pins dv (cD rfl) rfl (fun nh it iu dz ni => ?_))
 have iv := dx.write iu dz ((zW dy))
 have iw := ir.kept dz (fun k hk o u => by cases hk; exact dv.free o u)
 obtain ⟨d0, q, be, ix, nj⟩ := it.shut iv dy
 have iy := iw.le q
 refine qe (w9a ?_)
 refine qD rfl (zR (cs := [f]) ag26 sz26 rfl (fun j u hj => (cB be.pins (cA (cA (cA (cA (cA (cA (cA (cA (cA (cA (cA (cA (cA (cA aa ab.le) ac) t) x) ad.le) ae) c) d) g.le) h) i) l) p.le) q)) _ _ _ (bm _ _ (by simpa using hj)))) (qI rfl (xF (E := eVal) (e := 26) [f] f dH sz26 zr26 ⟨rfl, a1⟩ rfl (by decide) be.pins (fun d1 iz i0 i1 d2 nk => ?_)))
 have bf := be.step i1 d2
 have i2 := iy.below d2
 have d3 := i0.weaken be.size
 refine qD rfl (zR (cs := [ag]) ag26 sz26 rfl (fun j u hj => (cB bf.pins (cA (cA (cA (cA (cA (cA (cA (cA (cA (cA (cA t x) ad.le) ae) c) d) g.le) h) i) l) p.le) q)) _ _ _ (c2 _ _ (by simpa using hj)))) (qI rfl (xF (E := eVal) (e := 26) [ag] ag dH sz26 zr26 ⟨rfl, a7⟩ rfl (by decide) bf.pins (fun d4 i3 i4 i5 b1 i6 => ?_)))
 have i7 := bf.step i5 b1
 have i8 := d3.below b1
 have i9 := i2.below b1
 have ja := zL i6 d3.lt
 have jb := i4.weaken bf.size
 obtain ⟨nl, r, jc, jd, je⟩ := i8.sealed i7
 have jf := jb.moreO r je ja
 have jg := i9.le r
 obtain ⟨nm, s, b2, jh, nn⟩ := jf.sealed jc
 have ji := jg.le s
 refine qI rfl (zO (vs := [d1, d4]) Tryz.func65 nm65 rfl rfl rfl ?_)
 refine cC (xS b2.pins ji io (by first | omega | (simp; done) | (simp; omega)) b2.size (jd.mono s) jh (by simp) (by simp) (by first | omega | simp) (by first | omega | simp)) ?_
 rintro _ no ⟨ay, np, nq, rfl, jj, d5, y⟩
 refine rt9 ?_
 have b3 := b2.tr y
 have b4 := d5.one List.mem_cons_self
 refine qI rfl (yN [vN] zr26 rfl b3.pins (fun jk nr ns d6 jl d7 => ?_))
 have d8 := b3.step jl d7
 have jm := d5.below d7
 have d9 : w.heap.size ≤ jk := by have := b3.size; omega
 refine q0 rfl rfl rfl (o_stp (cs' := [ay]) (us := [ay]) (v := .agg #[ay]) sz26 rfl rfl rfl (yF b4) d8.pins d6 (cD rfl) rfl (fun nt jn jo ea nu => ?_))
 have jp := d8.write jo ea ((zW d9))
 have jq := jm.kept ea (fun k hk o u => by cases hk; exact d6.free o u)
 obtain ⟨eb, z, a3, jr, nv⟩ := jn.shut jp d9
 have js := jq.le z
 refine qe (w9a ?_)
 refine qD rfl (zR (cs := [a]) ag26 sz26 rfl (fun j u hj => (cB a3.pins (cA (cA (cA (cA (cA (cA (cA (cA (cA (cA (cA (cA (cA (cA (cA (cA (cA (cA (cA (cA (cA ak al.le) am) aa) ab.le) ac) t) x) ad.le) ae) c) d) g.le) h) i) l) p.le) q) r) s) y.le) z)) _ _ _ (aj _ _ (by simpa using hj)))) (qD rfl (zR (cs := [b]) ag26 sz26 rfl (fun j u hj => (cB a3.pins (cA (cA (cA (cA (cA (cA (cA (cA (cA (cA (cA c d) g.le) h) i) l) p.le) q) r) s) y.le) z)) _ _ _ (a2 _ _ (by simpa using hj)))) (qI rfl (mD (E := eVal) (e := 26) [a, b] [a, b] dH sz26 zr26 (by exact reps2 (⟨rfl, m⟩) (⟨rfl, ar⟩)) (jZ m ar) rfl rfl rfl rfl (by decide) a3.pins (fun ec jt ju jv ed nw => ?_))))
 have a4 := a3.step jv ed
 have jw := js.below ed
 have ee := ju.weaken a3.size
 refine qD rfl (zR (cs := [a]) ag26 sz26 rfl (fun j u hj => (cB a4.pins (cA (cA (cA (cA (cA (cA (cA (cA (cA (cA (cA (cA (cA (cA (cA (cA (cA (cA (cA (cA (cA ak al.le) am) aa) ab.le) ac) t) x) ad.le) ae) c) d) g.le) h) i) l) p.le) q) r) s) y.le) z)) _ _ _ (aj _ _ (by simpa using hj)))) (qD rfl (zR (cs := [b]) ag26 sz26 rfl (fun j u hj => (cB a4.pins (cA (cA (cA (cA (cA (cA (cA (cA (cA (cA (cA c d) g.le) h) i) l) p.le) q) r) s) y.le) z)) _ _ _ (a2 _ _ (by simpa using hj)))) (qI rfl (mD (E := eVal) (e := 26) [a, b] [a, b] dH sz26 zr26 (by exact reps2 (⟨rfl, m⟩) (⟨rfl, ar⟩)) (jZ m ar) rfl rfl rfl rfl (by decide) a4.pins (fun ef jx jy jz b5 j0 => ?_))))
 have j1 := a4.step jz b5
 have j2 := ee.below b5
 have j3 := jw.below b5
 have j4 := zL j0 ee.lt
 have j5 := jy.weaken a4.size
 obtain ⟨nx, ah, j6, j7, j8⟩ := j2.sealed j1
 have j9 := j5.moreO ah j8 j4
 have ka := j3.le ah
 obtain ⟨ny, ai, b6, kb, nz⟩ := j9.sealed j6
 have kc := ka.le ai
 refine qI rfl (zO (vs := [ec, ef]) Tryz.func65 nm65 rfl rfl rfl ?_)
 refine cC (xS b6.pins kc jj (by first | omega | (simp; done) | (simp; omega)) b6.size (j7.mono ai) kb (by simp) (by simp) (by first | omega | simp) (by first | omega | simp)) ?_
 rintro _ n0 ⟨az, n1, n2, rfl, kd, eg, an⟩
 refine rt9 ?_
 have b7 := b6.tr an
 have b8 := eg.one List.mem_cons_self
 refine qI rfl (yN [vN] zr26 rfl b7.pins (fun ke n3 n4 eh kf ei => ?_))
 have ej := b7.step kf ei
 have kg := eg.below ei
 have ek : w.heap.size ≤ ke := by have := b7.size; omega
 refine q0 rfl rfl rfl (o_stp (cs' := [az]) (us := [az]) (v := .agg #[az]) sz26 rfl rfl rfl (yF b8) ej.pins eh (cD rfl) rfl (fun n5 kh ki el n6 => ?_))
 have kj := ej.write ki el ((zW ek))
 have kk := kg.kept el (fun k hk o u => by cases hk; exact eh.free o u)
 obtain ⟨em, ao, bg, kl, n7⟩ := kh.shut kj ek
 have km := kk.le ao
 refine qe (w9a ?_)
 refine qD rfl (zR (cs := [b]) ag26 sz26 rfl (fun j u hj => (cB bg.pins (cA (cA (cA (cA (cA (cA (cA (cA (cA (cA (cA (cA (cA (cA (cA c d) g.le) h) i) l) p.le) q) r) s) y.le) z) ah) ai) an.le) ao)) _ _ _ (a2 _ _ (by simpa using hj)))) (qI rfl (xF (E := eVal) (e := 26) [b] b dH sz26 zr26 ⟨rfl, ar⟩ rfl (by decide) bg.pins (fun en kn ko kp eo n8 => ?_)))
 have bh := bg.step kp eo
 have kq := km.below eo
 have ep := ko.weaken bg.size
 refine qD rfl (zR (cs := [a]) ag26 sz26 rfl (fun j u hj => (cB bh.pins (cA (cA (cA (cA (cA (cA (cA (cA (cA (cA (cA (cA (cA (cA (cA (cA (cA (cA (cA (cA (cA (cA (cA (cA (cA ak al.le) am) aa) ab.le) ac) t) x) ad.le) ae) c) d) g.le) h) i) l) p.le) q) r) s) y.le) z) ah) ai) an.le) ao)) _ _ _ (aj _ _ (by simpa using hj)))) (qI rfl (xF (E := eVal) (e := 26) [a] a dH sz26 zr26 ⟨rfl, m⟩ rfl (by decide) bh.pins (fun eq kr ks kt b9 ku => ?_)))
 have kv := bh.step kt b9
 have kw := ep.below b9
 have kx := kq.below b9
 have ky := zL ku ep.lt
 have kz := ks.weaken bh.size
 obtain ⟨n9, ap, k0, k1, k2⟩ := kw.sealed kv
 have k3 := kz.moreO ap k2 ky
 have k4 := kx.le ap
 obtain ⟨oa, aq, ca, k5, ob⟩ := k3.sealed k0
 have k6 := k4.le aq
 refine qI rfl (zO (vs := [en, eq]) Tryz.func65 nm65 rfl rfl rfl ?_)
 refine cC (xS ca.pins k6 kd (by first | omega | (simp; done) | (simp; omega)) ca.size (k1.mono aq) k5 (by simp) (by simp) (by first | omega | simp) (by first | omega | simp)) ?_
 rintro _ oc ⟨a0, od, oe, rfl, k7, er, au⟩
 refine rt9 ?_
 have cb := ca.tr au
 have cc := er.one List.mem_cons_self
 refine qI rfl (yN [vN] zr26 rfl cb.pins (fun k8 og oh es k9 et => ?_))
 have eu := cb.step k9 et
 have la := er.below et
 have ev : w.heap.size ≤ k8 := by have := cb.size; omega
 refine q0 rfl rfl rfl (o_stp (cs' := [a0]) (us := [a0]) (v := .agg #[a0]) sz26 rfl rfl rfl (yF cc) eu.pins es (cD rfl) rfl (fun oi lb lc ew oj => ?_))
 have ld := eu.write lc ew ((zW ev))
 have lf := la.kept ew (fun k hk o u => by cases hk; exact es.free o u)
 obtain ⟨lg, av, af, lh, ok⟩ := lb.shut ld ev
 have li := lf.le av
 refine qe (w9a ?_)
 refine qD rfl (zR (cs := [a]) ag26 sz26 rfl (fun j u hj => (cB af.pins (cA (cA (cA (cA (cA (cA (cA (cA (cA (cA (cA (cA (cA (cA (cA (cA (cA (cA (cA (cA (cA (cA (cA (cA (cA (cA (cA (cA (cA ak al.le) am) aa) ab.le) ac) t) x) ad.le) ae) c) d) g.le) h) i) l) p.le) q) r) s) y.le) z) ah) ai) an.le) ao) ap) aq) au.le) av)) _ _ _ (aj _ _ (by simpa using hj)))) (qD rfl (zR (cs := [f]) ag26 sz26 rfl (fun j u hj => (cB af.pins (cA (cA (cA (cA (cA (cA (cA (cA (cA (cA (cA (cA (cA (cA (cA (cA (cA (cA (cA (cA (cA (cA (cA (cA (cA (cA aa ab.le) ac) t) x) ad.le) ae) c) d) g.le) h) i) l) p.le) q) r) s) y.le) z) ah) ai) an.le) ao) ap) aq) au.le) av)) _ _ _ (bm _ _ (by simpa using hj)))) (qD rfl (zR (cs := [ag]) ag26 sz26 rfl (fun j u hj => (cB af.pins (cA (cA (cA (cA (cA (cA (cA (cA (cA (cA (cA (cA (cA (cA (cA (cA (cA (cA (cA (cA (cA (cA (cA t x) ad.le) ae) c) d) g.le) h) i) l) p.le) q) r) s) y.le) z) ah) ai) an.le) ao) ap) aq) au.le) av)) _ _ _ (c2 _ _ (by simpa using hj)))) (qD rfl (zR (cs := [b]) ag26 sz26 rfl (fun j u hj => (cB af.pins (cA (cA (cA (cA (cA (cA (cA (cA (cA (cA (cA (cA (cA (cA (cA (cA (cA (cA (cA c d) g.le) h) i) l) p.le) q) r) s) y.le) z) ah) ai) an.le) ao) ap) aq) au.le) av)) _ _ _ (a2 _ _ (by simpa using hj)))) (qD rfl (zR (cs := [aw]) ag26 sz26 rfl (fun j u hj => (cB af.pins (cA (cA (cA (cA (cA (cA (cA (cA (cA (cA (cA (cA (cA (cA (cA i l) p.le) q) r) s) y.le) z) ah) ai) an.le) ao) ap) aq) au.le) av)) _ _ _ (hz _ _ (by simpa using hj)))) (qD rfl (zR (cs := [ax]) ag26 sz26 rfl (fun j u hj => (cB af.pins (cA (cA (cA (cA (cA (cA (cA (cA (cA (cA (cA r s) y.le) z) ah) ai) an.le) ao) ap) aq) au.le) av)) _ _ _ (ix _ _ (by simpa using hj)))) (qD rfl (zR (cs := [ay]) ag26 sz26 rfl (fun j u hj => (cB af.pins (cA (cA (cA (cA (cA (cA (cA ah ai) an.le) ao) ap) aq) au.le) av)) _ _ _ (jr _ _ (by simpa using hj)))) (qD rfl (zR (cs := [az]) ag26 sz26 rfl (fun j u hj => (cB af.pins (cA (cA (cA ap aq) au.le) av)) _ _ _ (kl _ _ (by simpa using hj)))) (qD rfl (zR (cs := [a0]) ag26 sz26 rfl (fun j u hj => af.pins _ _ _ (lh _ _ (by simpa using hj)))) (qI rfl (mD (E := eVal) (e := 26) [a, f, ag, b, aw, ax, ay, az, a0] [a, f, ag, b, aw, ax, ay, az, a0] dH sz26 zr26 (vT (⟨rfl, m⟩) (vT (⟨rfl, a1⟩) (vT (⟨rfl, a7⟩) (vT (⟨rfl, ar⟩) (vT (⟨rfl, bv⟩) (vT (⟨rfl, b0⟩) (vT (⟨rfl, b4⟩) (vT (⟨rfl, b8⟩) (vT (⟨rfl, cc⟩) repsN))))))))) (vW m (vW a1 (vW a7 (vW ar (vW bv (vW b0 (vW b4 (vW b8 (vW cc onesN))))))))) rfl rfl rfl rfl (by decide) af.pins (fun cd lj lk ll ex ol => ?_)))))))))))
 have lm := af.step ll ex
 have ln := li.below ex
 have lo := lk.weaken af.size
 refine qM cd ?_
 refine qe (zA ?_)
 exact cN (zQ (zS (v := cd) rfl rfl rfl (⟨_, _, _, _, rfl, lo, ln.mem (by simp), k7, rfl, rfl, lm⟩)))
theorem some_spec {w : World} {c : Nat} {s : Int} {l : Value} (hP : Pins G w) (hB : Bx G w c [cv, .int .i64 a, .int .u64 s]) (hc : RSl eByte G cv code) (ha : 0 ≤ a ∧ a + 6 ≤ 1000000) (hs : 0 ≤ s ∧ s < 18446744073709551616) (hl : RSl eVal G l vs) (hn : 1 ≤ vs.length ∧ vs.length ≤ 1000) (hm2 : 0 ≤ m ∧ m ≤ 2) :
  Calls Tryz.prog 64 #[vP c, l, vJ m] w fun e w' => ∃ (u : Value) (ys : List Value) (a' s' : Int) (G' : Pin), e = .returned u ∧ Own eVal 26 G' w' w.heap.size u ys ∧ (∀ y ∈ ys, y ∈ vs) ∧ ys.length ≤ 2 ∧ Bx G' w' c [cv, .int .i64 a', .int .u64 s'] ∧ (a ≤ a' ∧ a' ≤ a + 6) ∧ (0 ≤ s' ∧ s' < 18446744073709551616) ∧ Ext (inO (some c)) G w G' w' := by
 refine yA (n := 31) Tryz.func64 Tryz.ntmps64 rfl rfl ?_
 have q := exr (inO (some c)) hP
 have hm := hc.max
 refine w9d ?_
 refine qM vN ?_
 refine qe (w9a ?_)
 refine qI rfl (xD (E := eVal) (e := 26) dH sz26 q.pins (fun r w2 ar au ad av => ?_))
 have ae := q.step au ad
 have aw := hB.below ad
 have af := zF av hB.lt
 have ax := ar.weaken q.size
 refine qM r ?_
 refine qe (w9a ?_)
 refine qM (vP c) ?_
 refine qM (vJ m) ?_
 refine qD rfl (yP rfl rfl (by omega)) (qI rfl (zO (vs := [vP c, vJ (m + 1)]) Tryz.func35 nm35 rfl rfl rfl ?_))
 refine cC (qA ae.pins aw hc (by omega) (by omega) (n := m + 1) (by omega)) ?_
 rintro _ bm ⟨d, ay, az, rfl, bn, a0, bo, bp, ag⟩
 refine rt9 ?_
 have a2 := ae.trans ag (fun i hi => xA i hi)
 have a3 := ax.extS ag (notO af)
 refine qM (vJ d) ?_
 refine qe (zA (w9b ?_))
 refine qM (vJ 0) ?_
 refine qe (zA ?_)
 refine zX (yO (fun k en W => ∃ (ah : Nat → Value) (i : Nat) (ov : Value) (ys : List Value) (f : Int) (g : Int) (GL : Pin), en = (upd (upd (upd (upd (upd (upd ah 0 (vP c)) 1 l) 6 vN) 7 ov) 8 (vJ d)) 9 (vJ (i : Int))) ∧ k = (d).toNat - i ∧ Ext (inO (some c)) G w GL W ∧ Pin.le G GL ∧ (i : Int) ≤ d ∧ (∀ y ∈ ys, y ∈ vs) ∧ (ys.length = i) ∧ (a ≤ f ∧ f ≤ a + 2 + 2 * (i : Int)) ∧ (0 ≤ g ∧ g < 18446744073709551616) ∧ (Own eVal 26 GL W w.heap.size ov (ys)) ∧ (Bx GL W c [cv, vJ f, .int .u64 g]) ∧ (Apart ov.ownBlock (some c))) _ ⟨_, 0, r, [], ay, az, G, (pS 9 (pS 8 (pS 7 (pS 6 (pS 1 (pU 0)))))), rfl, a2, cI _, (by omega), (fun y hy => (List.not_mem_nil hy).elim), rfl, (by omega), (by omega), a3, a0, af⟩ ?_)
 rintro bq _ br ⟨ah, i, ov, ys, f, g, GL, rfl, bs, t, x, hi, hys, hyl, hda, hds, ai, aj, aa⟩
 refine w9b ?_
 refine qM (vJ (i : Int)) ?_
 refine qM (vJ d) ?_
 refine qD rfl (yR rfl rfl) (qe (zA ?_))
 refine yE (p := ((i : Int) : Int) < d) rfl rfl (fun a4 => ?_) (fun a4 => ?_)
 refine cM (zA (zB ?_))
 refine zX (zC (qM ov ?_))
 refine qM l ?_
 refine qM (vP c) ?_
 refine qM l ?_
 refine qD rfl (run_len dH (v := l) rfl hl) (qI rfl (zO (vs := [vP c, vJ (vs.length : Int)]) Tryz.func35 nm35 rfl rfl rfl ?_))
 refine cC (qA t.pins aj (hc.mono x) (by omega) (by omega) (n := (vs.length : Int)) (by omega)) ?_
 rintro _ bt ⟨b, a5, a6, rfl, bu, a7, bv, bw, ak⟩
 refine rt9 ?_
 have o := t.trans ak (fun i hi => xA i hi)
 have a8 := ai.extS ak (notO aa)
 refine qD rfl (zI dH sz26 (v := l) rfl rfl hl (by omega) (by omega)) ?_
 obtain ⟨bx, a9, ba, bz⟩ := xX (j := (b).toNat) default (hl.at (z := b) (by omega) (by omega)) rfl
 obtain ⟨rfl, bb⟩ := a9
 refine qD rfl (ba ag26 sz26 rfl (cB o.pins x)) (qI rfl (xF (E := eVal) (e := 26) [vs.getD (b).toNat default] (vs.getD (b).toNat default) dH sz26 zr26 ⟨rfl, bb⟩ rfl (by decide) o.pins (fun al bc bd be ab b0 => ?_)))
 have ac := o.step be ab
 have am := a8.below ab
 have an := a7.below ab
 have bf := bd.weaken o.size
 refine qI rfl (oA (E := eVal) (v := ov) (u := al) 24 dH ap26 (by decide) rfl rfl ac.pins am bf.src (ac.size) (fun ao b1 bg bh ap bi => ?_))
 have bj := ac.write bh ap ((yG am))
 have bk := an.keptA ap aa.symm
 have bl := zP aa.symm bi an.lt
 have b2 := la1 ys (vs.getD (b).toNat default)
 refine qM ao ?_
 refine qe (w9c ?_)
 refine qM (vJ (i : Int)) ?_
 refine qD rfl (yP rfl rfl (by omega)) (qM (vJ ((i : Int) + 1)) ?_)
 refine qe (yK (⟨_, ?_, _, rfl, _, i + 1, ao, ys ++ ([vs.getD (b).toNat default]), a5, a6, GL, (pS 9 (pS 8 (pS 7 (pS 6 (pS 1 (pU 0)))))), rfl, bj, x, (by omega), (fun y hy => (List.mem_append.1 hy).elim (hys y) (fun h => by rw [List.mem_singleton.1 h]; exact xG (by omega))), (by simp; omega), (by omega), (by omega), bg, bk, bl.symm⟩))
 omega
 refine cO (zZ (yM (yL (w9a ?_))))
 refine qM ov ?_
 refine qM ov ?_
 refine qe (zA ?_)
 exact cN (zQ (zS (v := ov) rfl rfl rfl (⟨_, _, _, _, _, rfl, ai, hys, (by omega), aj, (by omega), (by omega), t⟩)))
theorem rU {w : World} {c : Nat} {s : Int} {l : Value} {e : Nat} (hP : Pins G w) (hB : Bx G w c [cv, .int .i64 a, .int .u64 s]) (hc : RSl eByte G cv code) (ha : 0 ≤ a ∧ a + 6 ≤ 1000000) (hs : 0 ≤ s ∧ s < 18446744073709551616) (hl : Own eVal e G w base l vs) (hap : Apart (some c) l.ownBlock) (hn : 1 ≤ vs.length ∧ vs.length ≤ 1000) (hm2 : 0 ≤ m ∧ m ≤ 2) :
  Calls Tryz.prog 64 #[.pointer (some ⟨c, 0, none⟩), l, .int .i64 m] w fun e w' => ∃ (u : Value) (ys : List Value) (a' s' : Int), e = .returned u ∧ Own eVal 26 G w' w.heap.size u ys ∧ (∀ y ∈ ys, y ∈ vs) ∧ ys.length ≤ 2 ∧ Bx G w' c [cv, .int .i64 a', .int .u64 s'] ∧ (a ≤ a' ∧ a' ≤ a + 6) ∧ (0 ≤ s' ∧ s' < 18446744073709551616) ∧ Ext (inO (some c)) G w G w' := by
 have hb2 : Bx (Gadd G w l) w c [cv, .int .i64 a, .int .u64 s] := ⟨hB.heap, fun o u hu => hu.elim (hB.free o u) (fun h => hap c rfl h.1)⟩
 refine (some_spec (cK hP l) hb2 (hc.mono (Gadd.le _ _ _)) ha hs hl.read hn hm2).mono fun e w' ⟨u, ys, a', s', G', e1, ho, hm, hy, hb, h1, h2, hx⟩ => ?_
 have hle : Pin.le G G' := cA (Gadd.le _ _ _) hx.le
 exact ⟨u, ys, a', s', e1, ownV_anti ho hle, hm, hy, hb.anti hle, h1, h2, ext_back (Gadd.le _ _ _) hx⟩
theorem gD {w : World} {c : Nat} {s : Int} {n : Int} (hP : Pins G w) (hB : Bx G w c [cv, .int .i64 a, .int .u64 s]) (hc : RSl eByte G cv code) (ha : 0 ≤ a ∧ a + (12 * n + 4) ≤ 1000000) (hs : 0 ≤ s ∧ s < 18446744073709551616) (hn : 0 ≤ n ∧ n ≤ 6) :
  Calls Tryz.prog 34 #[vP c, vJ n] w fun e w' => ∃ (u : Value) (g : Nat) (a' s' : Int) (G' : Pin), e = .returned (.agg #[u]) ∧ Own eNode 76 G' w' w.heap.size u (formG g) ∧ IsForm g (formG g) ∧ ((formG g).length : Int) ≤ 9 + n ∧ Bx G' w' c [cv, .int .i64 a', .int .u64 s'] ∧ (a ≤ a' ∧ a' ≤ a + (12 * n + 4)) ∧ (0 ≤ s' ∧ s' < 18446744073709551616) ∧ Ext (inO (some c)) G w G' w' := by
 refine yA (n := 40) Tryz.func34 Tryz.ntmps34 rfl rfl ?_
 have ar := exr (inO (some c)) hP
 have hm := hc.max
 refine w9d ?_
 refine qI rfl (yN [vN] zr26 rfl ar.pins (fun b1 w2 b3 bg b4 bh => ?_))
 have ae := ar.step b4 bh
 have bi := hB.below bh
 have h := zF (cgA some b3) hB.lt
 have bj : w.heap.size ≤ b1 := by have := ar.size; omega
 refine qe (w9a ?_)
 refine qI rfl (zO (vs := []) Tryz.func63 nm63 rfl rfl rfl ?_)
 refine cC (sF ae.pins) ?_
 rintro _ b5 ⟨au, bk, b6, av, rfl, aw, b7, b8, el, em, d⟩
 refine rt9 ?_
 have b9 := ae.tr d
 have ca := bi.ext d
 have cb := bg.ext d
 have cc := zV aw.lt bi.lt
 have cd := zV aw.lt bg.lt
 have ce := aw.weaken ae.size
 have cf := b7.wide ae.size
 refine qM au ?_
 refine qe (zA (w9b ?_))
 refine qM (vJ 0) ?_
 refine qe (zA ?_)
 refine zX (yO (fun k en W => ∃ (bl : Nat → Value) (i : Nat) (lv : Value) (ls : List Value) (Q : List Nat) (a1 : Int) (s1 : Int) (GL : Pin), en = (upd (upd (upd (upd (upd bl 0 (vP c)) 1 (vJ n)) 4 (vP b1)) 5 lv) 6 (vJ (i : Int))) ∧ k = n.toNat - i ∧ Ext (inO (some c)) G w GL W ∧ Pin.le av GL ∧ (i : Int) ≤ n ∧ (Fr 76 w.heap.size GL W Q ls) ∧ (KQ Q) ∧ (ls.length = 9 + i) ∧ (Q.length = 9 + i) ∧ (a ≤ a1 ∧ a1 ≤ a + 12 * (i : Int)) ∧ (0 ≤ s1 ∧ s1 < 18446744073709551616) ∧ (Own eVal 26 GL W w.heap.size lv (ls)) ∧ (Bx GL W c [cv, vJ a1, .int .u64 s1]) ∧ (Bx GL W b1 [vN]) ∧ (Apart lv.ownBlock (some c)) ∧ (Apart lv.ownBlock (some b1))) _ ⟨_, 0, au, bk, b6, a, s, av, (pS 6 (pS 5 (pS 4 (pS 1 (pU 0))))), rfl, b9, cI _, (by omega), cf, b8, (by omega), (by omega), (by omega), (by omega), ce, ca, cb, cc, cd⟩ ?_)
 rintro eo _ ep ⟨bl, i, lv, ls, Q, a1, s1, GL, rfl, eq, l, m, hi, hfl, hkl, hll, hQl, hda, hds, ah, q, ax, b, bm⟩
 refine w9b ?_
 refine qM (vJ (i : Int)) ?_
 refine qM (vJ n) ?_
 refine qD rfl (yR rfl rfl) (qe (zA ?_))
 refine yE (p := ((i : Int) : Int) < n) rfl rfl (fun cg => ?_) (fun cg => ?_)
 refine cM (zA (zB ?_))
 refine zX (w9d ?_)
 refine qM (vP c) ?_
 refine qM lv ?_
 refine qI rfl (zO (vs := [vP c, lv, vJ 2]) Tryz.func64 nm64 rfl rfl rfl ?_)
 refine cC (rU l.pins q (hc.mono (cA d.le m)) (by omega) (by omega) ah b.symm (by omega) (by omega)) ?_
 rintro _ ch ⟨ai, ci, er, es, rfl, aj, cj, et, ay, eu, ev, ak⟩
 refine rt9 ?_
 have az := l.trans ak (fun i hi => xA i hi)
 have a0 := ah.extS ak (notO b)
 have bn := ax.extS ak (yZ h)
 have ck := hfl.turned ak (fun k hk o u => by cases hk; exact q.free o u)
 have cl := zT aj.lt ah.lt
 have bo := zV aj.lt q.lt
 have cm := zV aj.lt ax.lt
 have bp := aj.weaken l.size
 refine qM ai ?_
 refine qe (zA (zC ?_))
 refine qM lv ?_
 refine qM ai ?_
 refine qM (vP c) ?_
 refine qM lv ?_
 refine qI rfl (zO (vs := [vP c, lv, vJ 2]) Tryz.func64 nm64 rfl rfl rfl ?_)
 refine cC (rU az.pins ay (hc.mono (cA d.le m)) (by omega) (by omega) a0 b.symm (by omega) (by omega)) ?_
 rintro _ cn ⟨bq, co, cp, cq, rfl, r, cr, ew, ct, ex, ey, t⟩
 refine rt9 ?_
 have cu := az.trans t (fun i hi => xA i hi)
 have cw := a0.extS t (notO b)
 have cx := bp.extS t (notO bo)
 have cy := bn.extS t (yZ h)
 have cz := ck.turned t (fun k hk o u => by cases hk; exact ay.free o u)
 have c0 := zT r.lt a0.lt
 have c1 := zT r.lt bp.lt
 have c2 := zV r.lt ay.lt
 have c3 := zV r.lt bn.lt
 have c4 := r.weaken az.size
 obtain ⟨ez, al, c5, c6, am⟩ := cx.sealed cu
 have c7 := cw.moreO al am cl.symm
 have c8 := c4.moreO al am c1
 have c9 := ct.moreO am bo.symm
 have da := cy.moreO am cm.symm
 have db := cz.le al
 obtain ⟨e0, an, a2, dc, a3⟩ := c8.sealed c5
 have dd := c7.moreO an a3 c0.symm
 have de := c9.moreO a3 c2.symm
 have df := da.moreO a3 c3.symm
 have dg := db.le an
 refine qI rfl (zO (vs := [ai, bq]) Tryz.func65 nm65 rfl rfl rfl ?_)
 refine cC (xS a2.pins dg hkl (by first | omega | (simp; done) | (simp; omega)) a2.size (c6.mono an) dc cj cr (by first | omega | simp) (by first | omega | simp)) ?_
 rintro _ e1 ⟨x, dh, br, rfl, di, bs, y⟩
 refine rt9 ?_
 have a4 := a2.tr y
 have dj := dd.ext y
 have dk := de.ext y
 have dl := df.ext y
 have dm := bs.one List.mem_cons_self
 refine qI rfl (xF (E := eVal) (e := 26) [x] x dH sz26 zr26 ⟨rfl, dm⟩ rfl (by decide) a4.pins (fun bt dn dp dq aa e2 => ?_))
 have a5 := a4.step dq aa
 have a6 := dj.below aa
 have bu := dk.below aa
 have bv := dl.below aa
 have dr := bs.below aa
 have ds := dp.weaken a4.size
 refine qI rfl (oA (E := eVal) (v := lv) (u := bt) 24 dH ap26 (by decide) rfl rfl a5.pins a6 ds.src (a5.size) (fun bw e3 dt du ao bx => ?_))
 have dv := a5.write du ao ((yG a6))
 have dw := bu.keptA ao b.symm
 have dx := bv.keptA ao bm.symm
 have dy := dr.kept ao a6.free
 have dz := zP b.symm bx bu.lt
 have d0 := zP bm.symm bx bv.lt
 have e4 := la1 ls x
 refine qM bw ?_
 refine qe (w9c ?_)
 refine qM (vJ (i : Int)) ?_
 refine qD rfl (yP rfl rfl (by omega)) (qM (vJ ((i : Int) + 1)) ?_)
 refine qe (yK (⟨_, ?_, _, rfl, _, i + 1, bw, ls ++ ([x]), (dh :: Q), cp, cq, br, (pS 6 (pS 5 (pS 4 (pS 1 (pU 0))))), rfl, dv, (cA (cA (cA m al) an) y.le), (by omega), (dy.mem snoc_mem), di, (by simp; omega), (by simp; omega), (by omega), (by omega), dt, dw, dx, dz.symm, d0.symm⟩))
 omega
 refine cO (zZ (yM (yL (zA (w9b ?_)))))
 refine qM (vP c) ?_
 refine qI rfl (zO (vs := [vP c, vJ 3]) Tryz.func16 nm16 rfl rfl rfl ?_)
 refine cC (mC l.pins q (hc.mono (cA d.le m)) (by omega) (by omega) (n := 3) (by omega)) ?_
 rintro _ e5 ⟨e6, e7, e8, rfl, a7, e9, fa, ap⟩
 refine rt9 ?_
 have ab := l.trans ap (fun i hi => xA i hi)
 have ac := ah.extS ap (notO b)
 have a8 := ax.extS ap (yZ h)
 have bz := hfl.turned ap (fun k hk o u => by cases hk; exact q.free o u)
 refine qe (zA ?_)
 refine c_if rfl rfl (fun d1 => ?_) (fun d1 => ?_)
 refine w9d ?_
 refine qM lv ?_
 refine qM (vP c) ?_
 refine qM lv ?_
 refine qD rfl (run_len dH (v := lv) rfl ac.read) (qI rfl (zO (vs := [vP c, vJ (ls.length : Int)]) Tryz.func35 nm35 rfl rfl rfl ?_))
 refine cC (qA ab.pins a7 (hc.mono (cA d.le m)) (by omega) (by omega) (n := (ls.length : Int)) (by omega)) ?_
 rintro _ fb ⟨f, fc, fd, rfl, fe, d2, ff, fg, aq⟩
 refine rt9 ?_
 have a9 := ab.trans aq (fun i hi => xA i hi)
 have b0 := ac.extS aq (notO b)
 have b2 := a8.extS aq (yZ h)
 have d3 := bz.turned aq (fun k hk o u => by cases hk; exact a7.free o u)
 refine qD rfl (zI dH sz26 (v := lv) rfl rfl b0.read (by omega) (by omega)) ?_
 obtain ⟨fh, d4, d5, fi⟩ := xX (j := (f).toNat) default (b0.at (z := f) (by omega) (by omega)) rfl
 obtain ⟨rfl, d6⟩ := d4
 refine qD rfl (d5 ag26 sz26 rfl (cK a9.pins lv)) (q0 rfl rfl rfl (o_stp (cs' := [ls.getD (f).toNat default]) (us := [ls.getD (f).toNat default]) (v := .agg #[ls.getD (f).toNat default]) sz26 rfl rfl rfl (yF d6) a9.pins b2 (cD rfl) rfl (fun fj d7 d8 ba fk => ?_)))
 have d9 := a9.write d8 ba ((zW bj))
 have ea := d2.keptA ba h.symm
 have eb := d3.kept ba (fun k hk o u => by cases hk; exact b2.free o u)
 refine qe (zA ?_)
 refine cN (zQ (qH (cs := [ls.getD (f).toNat default]) rfl rfl rfl ag26 sz26 (fun j u hj => by rw [cQ]; exact d7.cell hj) ?_))
 obtain ⟨g, hgq, htk⟩ := eb (ls.getD (f).toNat default) (xG (by omega))
 obtain ⟨G2, bc, bd, be⟩ := htk.give hP d9
 have hw := hkl.w (by omega) hgq
 exact ⟨_, g, _, _, G2, rfl, bc, hkl.is g hgq, (by omega), ea.anti be, (by omega), (by omega), bd⟩
 refine cM (w9a ?_)
 refine qM lv ?_
 refine qM lv ?_
 refine qD rfl (run_len dH (v := lv) rfl ac.read) (qD rfl (xR rfl rfl (by omega)) (qD rfl (zI dH sz26 (v := lv) rfl rfl ac.read (by omega) (by omega)) ?_))
 obtain ⟨fl, ec, ed, fm⟩ := xX (j := ((ls.length : Int) - 1).toNat) default (ac.at (z := (ls.length : Int) - 1) (by omega) (by omega)) rfl
 obtain ⟨rfl, ee⟩ := ec
 refine qD rfl (ed ag26 sz26 rfl (cK ab.pins lv)) (q0 rfl rfl rfl (o_stp (cs' := [ls.getD ((ls.length : Int) - 1).toNat default]) (us := [ls.getD ((ls.length : Int) - 1).toNat default]) (v := .agg #[ls.getD ((ls.length : Int) - 1).toNat default]) sz26 rfl rfl rfl (yF ee) ab.pins a8 (cD rfl) rfl (fun fn ef eg bf fo => ?_)))
 have eh := ab.write eg bf ((zW bj))
 have ei := a7.keptA bf h.symm
 have ej := bz.kept bf (fun k hk o u => by cases hk; exact a8.free o u)
 refine qe (zA ?_)
 refine cN (zQ (qH (cs := [ls.getD ((ls.length : Int) - 1).toNat default]) rfl rfl rfl ag26 sz26 (fun j u hj => by rw [cQ]; exact ef.cell hj) ?_))
 obtain ⟨g, hgq, htk⟩ := ej (ls.getD ((ls.length : Int) - 1).toNat default) (xG (by omega))
 obtain ⟨G2, bc, bd, be⟩ := htk.give hP eh
 have hw := hkl.w (by omega) hgq
 exact ⟨_, g, _, _, G2, rfl, bc, hkl.is g hgq, (by omega), ei.anti be, (by omega), (by omega), bd⟩
end DR2
namespace DV1
open B1 C1 D1 E1 MK1 DR1 DR2
theorem pl76 : (Tryz.prog.underlying 76).bind (placesD Tryz.prog) = some [(0, 1), (1, 1)] := by kernel_rfl
variable {G : Pin}
theorem gA {w : World} {v : Value} {xs : List Int} (hP : Pins G w) (hv : RSl eInt G v xs) (hs : xs.length ≤ 1048576) :
  Calls Tryz.prog 36 #[v] w fun e w' => ∃ (u : Value) (G' : Pin), e = .returned u ∧ Own eInt 3 G' w' w.heap.size u xs ∧ Ext noS G w G' w' := by
 refine yA (n := 6) Tryz.func36 Tryz.ntmps36 rfl rfl ?_
 have b := exr noS hP
 refine w9d ?_
 refine qM (.slice none 0 0) ?_
 refine qe (w9a ?_)
 refine qI rfl (xD (E := eInt) (e := 3) dB sz3 b.pins (fun c g h i j p => ?_))
 have a := b.step i j
 have d := h.weaken b.size
 refine qM v ?_
 refine qI rfl (vI (E := eInt) (v := c) (u := v) 8 dB ap3 (by decide) rfl rfl a.pins d ((hv.mono (cI _)).src a.pins (by decide)) (by first | omega | (rw [List.nil_append]; omega) | (rw [List.length_nil]; omega) | (rw [List.length_append]; omega) | (simp; done) | (simp; omega) | (simp only [List.length_cons, List.length_nil]; omega) | (simp only [List.length_append, List.length_cons, List.length_nil]; omega)) (by first | omega | (rw [List.nil_append]; omega) | (rw [List.length_nil]; omega) | (rw [List.length_append]; omega) | (simp; done) | (simp; omega) | (simp only [List.length_cons, List.length_nil]; omega) | (simp only [List.length_append, List.length_cons, List.length_nil]; omega)) (a.size) (fun f q k l m r => ?_))
 have o := a.write l m ((yG d))
 have s := la2 ([]) xs
 refine qM f ?_
 refine qe (zA ?_)
 exact cN (zQ (zS (v := f) rfl rfl rfl (⟨_, _, rfl, (by simpa using k), o⟩)))
theorem eH {w : World} {c : Nat} {cv : Value} {code : List UInt8} {a s : Int} {n : Int} (hP : Pins G w) (hB : Bx G w c [cv, .int .i64 a, .int .u64 s]) (hc : RSl eByte G cv code) (ha : 0 ≤ a ∧ a + (12 * n + 10) ≤ 1000000) (hs : 0 ≤ s ∧ s < 18446744073709551616) (hn : 0 ≤ n ∧ n ≤ 6) :
  Calls Tryz.prog 17 #[vP c, vJ n] w fun e w' => ∃ (u : Value) (ns : List Nd) (a' s' : Int) (G' : Pin), e = .returned (.agg #[u]) ∧ RSl eNode G' u ns ∧ Bx G' w' c [cv, .int .i64 a', .int .u64 s'] ∧ (a ≤ a' ∧ a' ≤ a + (12 * n + 10)) ∧ (0 ≤ s' ∧ s' < 18446744073709551616) ∧ Ext (inO (some c)) G w G' w' := by
 refine yA (n := 77) Tryz.func17 Tryz.ntmps17 rfl rfl ?_
 have cg := exr (inO (some c)) hP
 have hm := hc.max
 refine w9d ?_
 refine qI rfl (yN [vN] zr26 rfl cg.pins (fun b1 w2 ga dq gb dr => ?_))
 have ch := cg.step gb dr
 have ds := hB.below dr
 have y := zF (cgA some ga) hB.lt
 have au : w.heap.size ≤ b1 := by have := cg.size; omega
 refine qe (w9a ?_)
 refine qM (vP c) ?_
 refine qM (vJ n) ?_
 refine qI rfl (zO (vs := [vP c, vJ n]) Tryz.func34 nm34 rfl rfl rfl ?_)
 refine cC (gD (n := n) ch.pins ds hc (by omega) (by omega) (by omega)) ?_
 rintro _ gc ⟨b, f, np, nq, bh, rfl, ci, dt, nr, du, nt, nu, av⟩
 refine rt9 ?_
 have cj := ch.trans av (fun i hi => xA i hi)
 have dv := dq.extS av (yZ y)
 have g := zV ci.lt ds.lt
 have aa := zV ci.lt dq.lt
 have dw := ci.weaken ch.size
 have nv := dt.1.lo
 refine qI rfl (yN [vN] zr26 rfl cj.pins (fun bi nw ck gd ge bj => ?_))
 have dx := cj.step ge bj
 have dy := dw.below bj
 have gf := du.below bj
 have gg := dv.below bj
 have ag := zL (cgA some ck) dw.lt
 have ak := zF (cgA some ck) du.lt
 have cl := zF (cgA some ck) dv.lt
 have cm : w.heap.size ≤ bi := by have := cj.size; omega
 refine q0 rfl rfl rfl (o_stp (cs' := [b]) (us := [b]) (v := .agg #[b]) sz26 rfl rfl rfl (yF dy.one) dx.pins gd (cD rfl) rfl (fun nx dz gh bk ny => ?_))
 have d0 := dx.write gh bk ((zW cm))
 have d1 := dy.keptA bk ag.symm
 have gi := gf.keptA bk ak.symm
 have gj := gg.keptA bk cl.symm
 refine qe (w9a ?_)
 refine qM (vP c) ?_
 refine qD rfl (zK (k := 0) rfl dE rfl nz24 rfl) (qD rfl (zM (u := b) ag24 rfl (dz.cell (o := 0) rfl)) (qD rfl (run_len dC (v := b) rfl d1.read) (qI rfl (zO (vs := [vP c, vJ ((formG f).length : Int)]) Tryz.func35 nm35 rfl rfl rfl ?_))))
 refine cC (qA d0.pins gi (hc.mono av.le) (by omega) (by omega) (n := ((formG f).length : Int)) (by omega)) ?_
 rintro _ nz ⟨d, n0, n1, rfl, n2, gk, n3, n4, bl⟩
 refine rt9 ?_
 have d2 := d0.trans bl (fun i hi => xA i hi)
 have gl := d1.extS bl (notO g)
 have gm := gj.extS bl (yZ y)
 have gn := dz.extS bl (yZ ak)
 refine qM (vJ d) ?_
 refine qe (zA (w9b ?_))
 refine qM (vP c) ?_
 refine qI rfl (zO (vs := [vP c, vJ 24]) Tryz.func35 nm35 rfl rfl rfl ?_)
 refine cC (qA d2.pins gk (hc.mono av.le) (by omega) (by omega) (n := 24) (by omega)) ?_
 rintro _ bm ⟨ah, n5, n6, rfl, n7, al, n8, n9, bn⟩
 refine rt9 ?_
 have q := d2.trans bn (fun i hi => xA i hi)
 have t := gl.extS bn (notO g)
 have am := gm.extS bn (yZ y)
 have ab := gn.extS bn (yZ ak)
 refine qe (zA ?_)
 refine zX (w9d ?_)
 refine qD rfl (xY rfl rfl) (qM (.bool (decide ((ah : Int) = 0))) ?_)
 refine qe (zA ?_)
 refine yE (p := (ah : Int) = 0) rfl rfl (fun gp => ?_) (fun gp => ?_)
 have hlk := (nV dt (by omega)).lens (d).toNat (by omega)
 have gq := cK q.pins b
 have aw := t.read
 refine yQ (S := fun wz => BxR wz bi [b] ∧ Pins (Gadd bh bm b) wz) (last := 18) (by kernel_rfl) rfl ?_
 have an := bdr bm
 have gr := q.pins.below an
 have ax := q.step gr an
 have bo := t.below an
 have bp := al.below an
 have bq := am.below an
 have m := ab.below an
 have x := gq.below an
 refine dT (i := 0) rfl rfl (by kernel_rfl) (fun _ _ => zK (k := 0) rfl dE rfl nz24 rfl) ⟨m.reads, x⟩ ?_
 refine dT (i := 1) rfl rfl (by kernel_rfl) (fun _ hS => zM (u := b) ag24 rfl (hS.1 0 _ rfl)) ⟨m.reads, x⟩ ?_
 refine dT (i := 2) rfl rfl (by kernel_rfl) (fun _ _ => zU (v := vJ d) rfl) ⟨m.reads, x⟩ ?_
 refine dT (i := 3) rfl rfl (by kernel_rfl) (fun _ _ => zK (k := 0) rfl dE rfl nz24 rfl) ⟨m.reads, x⟩ ?_
 refine dT (i := 4) rfl rfl (by kernel_rfl) (fun _ hS => zM (u := b) ag24 rfl (hS.1 0 _ rfl)) ⟨m.reads, x⟩ ?_
 refine dT (i := 5) rfl rfl (by kernel_rfl) (fun _ _ => zU (v := vJ d) rfl) ⟨m.reads, x⟩ ?_
 refine dT (i := 6) rfl rfl (by kernel_rfl) (fun _ _ => zI dC sz76 (v := b) rfl rfl aw (by omega) (by omega)) ⟨m.reads, x⟩ ?_
 refine dT (i := 7) rfl rfl (by kernel_rfl) (fun _ _ => yI (off := 0) dF rfl rfl nz40 (z := d) (k := 0) rfl aw (by omega) (by omega)) ⟨m.reads, x⟩ ?_
 obtain ⟨d3, cn, gs⟩ := jC (t.at (z := d) (by omega) (by omega)) (j := (d).toNat) rfl
 have oa := cn.max
 refine dT (i := 8) rfl rfl (by kernel_rfl) (fun _ hS => gs ag40 rfl hS.2) ⟨m.reads, x⟩ ?_
 refine dT (i := 10) rfl rfl (by kernel_rfl) (fun _ _ => zU (v := vP c) rfl) ⟨m.reads, x⟩ ?_
 refine dT (i := 11) rfl rfl (by kernel_rfl) (fun _ _ => zU (v := vJ d) rfl) ⟨m.reads, x⟩ ?_
 refine jN (i := 9) (j := 12) (by kernel_rfl) ?_ ?_
 refine (dQ (i := 9) rfl rfl (zO (vs := [d3]) Tryz.func36 nm36 rfl rfl rfl ?_))
 refine cC (gA ax.pins cn (by omega)) ?_
 rintro _ gt ⟨d4, d5, rfl, a4, ae⟩
 refine rt9 ?_
 have co := ax.tr ae
 have d6 := bo.ext ae
 have d7 := bp.ext ae
 have d8 := bq.ext ae
 have cp := m.ext ae
 have cq := zT a4.lt bo.lt
 have cr := zV a4.lt bp.lt
 have d9 := zV a4.lt bq.lt
 have ea := zV a4.lt m.lt
 have eb := a4.weaken ax.size
 have ec := x.below ae.below
 refine ⟨fun _ => ⟨cp.reads, ec⟩, ?_⟩
 refine dP (i := 12) rfl rfl (yX (E := eInt) (e := 3) [vJ 0, vJ d, vJ (-1), vJ 1] [0, d, -1, 1] dB sz3 zr3 (by exact reps4 (by rfl) (by rfl) (by rfl) (by rfl)) (gO (by rfl) (by rfl) (by rfl) (by rfl)) rfl rfl rfl rfl (by decide) co.pins (fun ed gu gv gw ao a5 => ?_))
 have gx := co.step gw ao
 have gy := d6.below ao
 have gz := eb.below ao
 have g0 := d7.below ao
 have g1 := d8.below ao
 have ee := cp.below ao
 have g2 := zL a5 d6.lt
 have g3 := zL a5 eb.lt
 have g4 := zF a5 d7.lt
 have g5 := zF a5 d8.lt
 have g6 := zF a5 cp.lt
 have g7 := gv.weaken co.size
 have ef := ec.below ao
 refine ⟨fun _ => ⟨ee.reads, ef⟩, ?_⟩
 obtain ⟨g8, a6, eg, g9, a7⟩ := g7.sealed gx
 have hb := gy.moreO a6 a7 g2.symm
 have hd := gz.moreO a6 a7 g3.symm
 have he := g0.moreO a7 g4.symm
 have hf := g1.moreO a7 g5.symm
 have hg := ee.moreO a7 g6.symm
 refine dP (i := 13) rfl rfl (zO (vs := [vP c, ed]) Tryz.func37 nm37 rfl rfl rfl ?_)
 refine cC (gG eg.pins he (hc.mono (cA (cA av.le ae.le) a6)) (by omega) (by omega) g9 (by simp)) ?_
 rintro _ ob ⟨br, oc, od, rfl, oe, hh, og, oh, ay⟩
 refine rt9 ?_
 have bs := eg.trans ay (fun i hi => xA i hi)
 have hk := hb.extS ay (notO g)
 have hl := hd.extS ay (notO cr)
 have ho := hf.extS ay (yZ y)
 have eh := hg.extS ay (yZ ak)
 have ei := Gadd.turn ef (cB bs.pins (cA ae.le a6)) ay (notO g)
 refine ⟨fun _ => ⟨eh.reads, ei⟩, ?_⟩
 refine dP (i := 14) rfl rfl (yX (E := eInt) (e := 3) [vJ br] [br] dB sz3 zr3 (by exact qG (by rfl)) (yF (by rfl)) rfl rfl rfl rfl (by decide) bs.pins (fun ej hp hq hr ap oi => ?_))
 have ct := bs.step hr ap
 have ek := hk.below ap
 have el := hl.below ap
 have em := hh.below ap
 have en := ho.below ap
 have cu := eh.below ap
 have ht := hq.weaken bs.size
 have eo := ei.below ap
 refine ⟨fun _ => ⟨cu.reads, eo⟩, ?_⟩
 refine dP (i := 15) rfl rfl (vI (E := eInt) (v := d4) (u := ej) 8 dB ap3 (by decide) rfl rfl ct.pins el ht.src (by first | omega | (rw [List.nil_append]; omega) | (rw [List.length_nil]; omega) | (rw [List.length_append]; omega) | (simp; done) | (simp; omega) | (simp only [List.length_cons, List.length_nil]; omega) | (simp only [List.length_append, List.length_cons, List.length_nil]; omega)) (by first | omega | (rw [List.nil_append]; omega) | (rw [List.length_nil]; omega) | (rw [List.length_append]; omega) | (simp; done) | (simp; omega) | (simp only [List.length_cons, List.length_nil]; omega) | (simp only [List.length_append, List.length_cons, List.length_nil]; omega)) (ct.size) (fun hu oj hv ep az bt => ?_))
 have eq := ct.write ep az ((yG el))
 have hw := ek.keptA az cq.symm
 have hx := em.keptA az cr.symm
 have hy := en.keptA az d9.symm
 have bu := cu.keptA az ea.symm
 have hz := zJ cq.symm bt ek.lt
 have h0 := zP cr.symm bt em.lt
 have h1 := zP d9.symm bt en.lt
 have h2 := zP ea.symm bt cu.lt
 have ok := la1 (((formG f).getD (d).toNat default).l) br
 have cw := Gadd.turn eo (cB eq.pins (cA ae.le a6)) (Ext.one ep az) (notO cq.symm)
 refine ⟨fun _ => ⟨bu.reads, cw⟩, ?_⟩
 refine dP (i := 16) rfl rfl (EO.run (zI dC sz76 (v := b) rfl rfl aw (by omega) (by omega)) ⟨fun _ => ⟨bu.reads, cw⟩, ?_⟩)
 refine dT (i := 17) rfl rfl (by kernel_rfl) (fun _ _ => yI (off := 0) dF rfl rfl nz40 (z := d) (k := 0) rfl aw (by omega) (by omega)) ⟨bu.reads, cw⟩ ?_
 obtain ⟨ol, h3, er, h4, bv⟩ := hv.sealed eq
 have es := hw.moreO h3 bv hz
 have h5 := hx.moreO bv h0
 have h6 := hy.moreO bv h1
 have h7 := bu.moreO bv h2
 refine dO (i := 18) (xJ (i := 18) rfl rfl rfl (yB rfl _) (o_setNL (v := b) (z := d) (u := hu) sz40 rfl rfl h4 er.pins es (by omega) (by omega) (fun om et h8 bw oo => ?_)))
 have eu := er.write h8 bw ((yG es))
 have h9 := h5.keptA bw g.symm
 have ia := h6.keptA bw aa.symm
 have ib := h7.keptA bw ag
 refine ⟨fun h => absurd rfl h, ?_⟩
 refine zY (by kernel_rfl) (yD (w9a ?_))
 refine qD rfl (zR (cs := [b]) ag26 sz26 rfl (fun j u hj => ib.cell (by simpa using hj))) (q0 rfl rfl rfl (o_stp (cs' := [b]) (us := [b]) (v := .agg #[b]) sz26 rfl rfl rfl (yF et.one) eu.pins ia (cD rfl) rfl (fun op ic ie cx oq => ?_)))
 have ig := eu.write ie cx ((zW au))
 have ih := et.keptA cx aa
 have ii := h9.keptA cx y.symm
 refine qe (zA ?_)
 refine cN (zQ (qH (cs := [b]) rfl rfl rfl ag26 sz26 (fun j u hj => by rw [cQ]; exact ic.cell hj) ?_))
 obtain ⟨os, ot, ij, ik, il⟩ := ih.sealed ig
 have im := ii.moreO il g.symm
 exact ⟨_, _, _, _, _, rfl, ik, im, (by omega), (by omega), ij⟩
 refine (dQ (i := 12) rfl rfl (yX (E := eInt) (e := 3) [vJ 0, vJ d, vJ (-1), vJ 1] [0, d, -1, 1] dB sz3 zr3 (by exact reps4 (by rfl) (by rfl) (by rfl) (by rfl)) (gO (by rfl) (by rfl) (by rfl) (by rfl)) rfl rfl rfl rfl (by decide) ax.pins (fun ev io ip iq a0 bx => ?_)))
 have cy := ax.step iq a0
 have ew := bo.below a0
 have ex := bp.below a0
 have ey := bq.below a0
 have cz := m.below a0
 have ir := zL bx bo.lt
 have it := zF bx bp.lt
 have iu := zF bx bq.lt
 have iv := zF bx m.lt
 have ez := ip.weaken ax.size
 have e0 := x.below a0
 refine ⟨fun _ => ⟨cz.reads, e0⟩, ?_⟩
 refine dP (i := 9) rfl rfl (zO (vs := [d3]) Tryz.func36 nm36 rfl rfl rfl ?_)
 refine cC (gA cy.pins cn (by omega)) ?_
 rintro _ iw ⟨e1, ix, rfl, a1, ad⟩
 refine rt9 ?_
 have iy := cy.tr ad
 have iz := ew.ext ad
 have i0 := ez.ext ad
 have i1 := ex.ext ad
 have i2 := ey.ext ad
 have e2 := cz.ext ad
 have c0 := zT a1.lt ew.lt
 have i3 := zT a1.lt ez.lt
 have c1 := zV a1.lt ex.lt
 have e3 := zV a1.lt ey.lt
 have e4 := zV a1.lt cz.lt
 have i4 := a1.weaken cy.size
 have e5 := e0.below ad.below
 refine ⟨fun _ => ⟨e2.reads, e5⟩, ?_⟩
 obtain ⟨i5, a8, e6, i6, a9⟩ := i0.sealed iy
 have i7 := iz.moreO a8 a9 ir.symm
 have i8 := i4.moreO a8 a9 i3
 have i9 := i1.moreO a9 it.symm
 have ja := i2.moreO a9 iu.symm
 have jb := e2.moreO a9 iv.symm
 refine dP (i := 13) rfl rfl (zO (vs := [vP c, ev]) Tryz.func37 nm37 rfl rfl rfl ?_)
 refine cC (gG e6.pins i9 (hc.mono (cA (cA av.le ad.le) a8)) (by omega) (by omega) i6 (by simp)) ?_
 rintro _ ou ⟨bz, ov, ow, rfl, ox, jc, oy, oz, a2⟩
 refine rt9 ?_
 have b0 := e6.trans a2 (fun i hi => xA i hi)
 have jd := i7.extS a2 (notO g)
 have je := i8.extS a2 (notO c1)
 have jf := ja.extS a2 (yZ y)
 have e7 := jb.extS a2 (yZ ak)
 have e8 := Gadd.turn e5 (cB b0.pins (cA ad.le a8)) a2 (notO g)
 refine ⟨fun _ => ⟨e7.reads, e8⟩, ?_⟩
 refine dP (i := 14) rfl rfl (yX (E := eInt) (e := 3) [vJ bz] [bz] dB sz3 zr3 (by exact qG (by rfl)) (yF (by rfl)) rfl rfl rfl rfl (by decide) b0.pins (fun e9 jg jh ji aq o0 => ?_))
 have c2 := b0.step ji aq
 have fa := jd.below aq
 have fb := je.below aq
 have fc := jc.below aq
 have fd := jf.below aq
 have c3 := e7.below aq
 have jj := jh.weaken b0.size
 have fe := e8.below aq
 refine ⟨fun _ => ⟨c3.reads, fe⟩, ?_⟩
 refine dP (i := 15) rfl rfl (vI (E := eInt) (v := e1) (u := e9) 8 dB ap3 (by decide) rfl rfl c2.pins fb jj.src (by first | omega | (rw [List.nil_append]; omega) | (rw [List.length_nil]; omega) | (rw [List.length_append]; omega) | (simp; done) | (simp; omega) | (simp only [List.length_cons, List.length_nil]; omega) | (simp only [List.length_append, List.length_cons, List.length_nil]; omega)) (by first | omega | (rw [List.nil_append]; omega) | (rw [List.length_nil]; omega) | (rw [List.length_append]; omega) | (simp; done) | (simp; omega) | (simp only [List.length_cons, List.length_nil]; omega) | (simp only [List.length_append, List.length_cons, List.length_nil]; omega)) (c2.size) (fun jk o1 jl ff a3 b2 => ?_))
 have fg := c2.write ff a3 ((yG fb))
 have jm := fa.keptA a3 c0.symm
 have jn := fc.keptA a3 c1.symm
 have jo := fd.keptA a3 e3.symm
 have b3 := c3.keptA a3 e4.symm
 have jp := zJ c0.symm b2 fa.lt
 have jq := zP c1.symm b2 fc.lt
 have jr := zP e3.symm b2 fd.lt
 have js := zP e4.symm b2 c3.lt
 have o2 := la1 (((formG f).getD (d).toNat default).l) bz
 have c4 := Gadd.turn fe (cB fg.pins (cA ad.le a8)) (Ext.one ff a3) (notO c0.symm)
 refine ⟨fun _ => ⟨b3.reads, c4⟩, ?_⟩
 refine dP (i := 16) rfl rfl (EO.run (zI dC sz76 (v := b) rfl rfl aw (by omega) (by omega)) ⟨fun _ => ⟨b3.reads, c4⟩, ?_⟩)
 refine dT (i := 17) rfl rfl (by kernel_rfl) (fun _ _ => yI (off := 0) dF rfl rfl nz40 (z := d) (k := 0) rfl aw (by omega) (by omega)) ⟨b3.reads, c4⟩ ?_
 obtain ⟨o3, jt, fh, ju, b4⟩ := jl.sealed fg
 have fi := jm.moreO jt b4 jp
 have jv := jn.moreO b4 jq
 have jw := jo.moreO b4 jr
 have jx := b3.moreO b4 js
 refine dO (i := 18) (xJ (i := 18) rfl rfl rfl (yB rfl _) (o_setNL (v := b) (z := d) (u := jk) sz40 rfl rfl ju fh.pins fi (by omega) (by omega) (fun o4 fj jy b5 o5 => ?_)))
 have fk := fh.write jy b5 ((yG fi))
 have jz := jv.keptA b5 g.symm
 have j0 := jw.keptA b5 aa.symm
 have j1 := jx.keptA b5 ag
 refine ⟨fun h => absurd rfl h, ?_⟩
 refine zY (by kernel_rfl) (yD (w9a ?_))
 refine qD rfl (zR (cs := [b]) ag26 sz26 rfl (fun j u hj => j1.cell (by simpa using hj))) (q0 rfl rfl rfl (o_stp (cs' := [b]) (us := [b]) (v := .agg #[b]) sz26 rfl rfl rfl (yF fj.one) fk.pins j0 (cD rfl) rfl (fun o6 j2 j3 c5 o7 => ?_)))
 have j4 := fk.write j3 c5 ((zW au))
 have j5 := fj.keptA c5 aa
 have j6 := jz.keptA c5 y.symm
 refine qe (zA ?_)
 refine cN (zQ (qH (cs := [b]) rfl rfl rfl ag26 sz26 (fun j u hj => by rw [cQ]; exact j2.cell hj) ?_))
 obtain ⟨o8, o9, j7, j8, j9⟩ := j5.sealed j4
 have ka := j6.moreO j9 g.symm
 exact ⟨_, _, _, _, _, rfl, j8, ka, (by omega), (by omega), j7⟩
 refine w9d ?_
 refine qD rfl (xY rfl rfl) (qM (.bool (decide ((ah : Int) = 1))) ?_)
 refine qe (zA ?_)
 refine yE (p := (ah : Int) = 1) rfl rfl (fun kb => ?_) (fun kb => ?_)
 refine zC (qD rfl (zK (k := 0) rfl dE rfl nz24 rfl) (qD rfl (zM (u := b) ag24 rfl (ab.cell (o := 0) rfl)) (qI rfl (yX (E := eInt) (e := 3) [vJ 0] [0] dB sz3 zr3 (by exact qG (by rfl)) (yF (by rfl)) rfl rfl rfl rfl (by decide) q.pins (fun ba kc kd ke bb b6 => ?_)))))
 have kf := q.step ke bb
 have kg := t.below bb
 have kh := al.below bb
 have ki := am.below bb
 have kj := ab.below bb
 have kk := zL b6 t.lt
 have kl := zF b6 al.lt
 have km := zF b6 am.lt
 have kn := zF b6 ab.lt
 have fl := kd.weaken q.size
 refine qD rfl (xQ [vN, vN] [vN, ba] [(1, ba, [ba])] dF zr76 rfl pl76 rfl (cL.2 ⟨(xB fl.one), (fun _ h => by cases h)⟩) rfl) ?_
 obtain ⟨ko, kp, c6, kq, b7⟩ := fl.sealed kf
 have kr := kg.moreO kp b7 kk.symm
 have ks := kh.moreO b7 kl.symm
 have kt := ki.moreO b7 km.symm
 have ku := kj.moreO b7 kn.symm
 refine qI rfl (xF (E := eNode) (e := 76) [vN, ba] (⟨[], [0]⟩ : Nd) dC sz76 zr76 ⟨_, _, rfl, (kM _ _), kq⟩ rfl (by decide) c6.pins (fun fm kv kw kx bc pa => ?_))
 have c7 := c6.step kx bc
 have fn := kr.below bc
 have fo := ks.below bc
 have fp := kt.below bc
 have fq := ku.below bc
 have ky := kw.weaken c6.size
 refine qI rfl (vI (E := eNode) (v := b) (u := fm) 48 dC ap76 (by decide) rfl rfl c7.pins fn ky.src (by first | omega | (rw [List.nil_append]; omega) | (rw [List.length_nil]; omega) | (rw [List.length_append]; omega) | (simp; done) | (simp; omega) | (simp only [List.length_cons, List.length_nil]; omega) | (simp only [List.length_append, List.length_cons, List.length_nil]; omega)) (by first | omega | (rw [List.nil_append]; omega) | (rw [List.length_nil]; omega) | (rw [List.length_append]; omega) | (simp; done) | (simp; omega) | (simp only [List.length_cons, List.length_nil]; omega) | (simp only [List.length_append, List.length_cons, List.length_nil]; omega)) (c7.size) (fun ai pb c8 kz b8 c9 => ?_))
 have fr := c7.write kz b8 ((yG fn))
 have k0 := fo.keptA b8 g.symm
 have k1 := fp.keptA b8 aa.symm
 have k2 := fq.keptA b8 ag
 have k3 := zP g.symm c9 fo.lt
 have k4 := zP aa.symm c9 fp.lt
 have k5 := zP ag c9 fq.lt
 have pc := la1 (formG f) (⟨[], [0]⟩ : Nd)
 refine qD rfl (zK (k := 0) rfl dE rfl nz24 rfl) (q0 rfl rfl rfl (o_stp (cs' := [ai]) (us := [ai]) (v := ai) sz24 rfl rfl (vK c8.one) (yF c8.one) fr.pins k2 (cD rfl) rfl (fun pd k6 k7 b9 pe => ?_)))
 have fs := fr.write k7 b9 ((zW cm))
 have ft := c8.keptA b9 k5.symm
 have k8 := k0.keptA b9 ak.symm
 have k9 := k1.keptA b9 cl.symm
 refine qe (yD (w9a ?_))
 refine qD rfl (zR (cs := [ai]) ag26 sz26 rfl (fun j u hj => k6.cell (by simpa using hj))) (q0 rfl rfl rfl (o_stp (cs' := [ai]) (us := [ai]) (v := .agg #[ai]) sz26 rfl rfl rfl (yF ft.one) fs.pins k9 (cD rfl) rfl (fun pf la lb da pg => ?_)))
 have lc := fs.write lb da ((zW au))
 have ld := ft.keptA da k4.symm
 have lf := k8.keptA da y.symm
 refine qe (zA ?_)
 refine cN (zQ (qH (cs := [ai]) rfl rfl rfl ag26 sz26 (fun j u hj => by rw [cQ]; exact la.cell hj) ?_))
 obtain ⟨ph, pi, lg, lh, li⟩ := ld.sealed lc
 have lj := lf.moreO li k3
 exact ⟨_, _, _, _, _, rfl, lh, lj, (by omega), (by omega), lg⟩
 refine w9d ?_
 refine qD rfl (xY rfl rfl) (qM (.bool (decide ((ah : Int) = 2))) ?_)
 refine qe (zA ?_)
 refine yE (p := (ah : Int) = 2) rfl rfl (fun lk => ?_) (fun lk => ?_)
 refine zC (qD rfl (zK (k := 0) rfl dE rfl nz24 rfl) (qD rfl (zM (u := b) ag24 rfl (ab.cell (o := 0) rfl)) (qD rfl (zK (k := 0) rfl dE rfl nz24 rfl) (qD rfl (zM (u := b) ag24 rfl (ab.cell (o := 0) rfl)) (qD rfl (run_len dC (v := b) rfl t.read) (qD rfl (xR rfl rfl (by omega)) ?_))))))
 obtain ⟨ac, db, dc, ll⟩ := own_cut t ((((formG f).length : Int) - 1).toNat) (((formG f).length : Int) - 1) (by omega) rfl (by omega) (by omega)
 have lm : Apart ac.ownBlock (some c) := by rw [dc]; exact g
 have ln : Apart ac.ownBlock (some b1) := by rw [dc]; exact aa
 have lp : Apart (some bi) ac.ownBlock := by rw [dc]; exact ag
 refine qD rfl (ll dC sz76 rfl rfl rfl) (qD rfl (zK (k := 0) rfl dE rfl nz24 rfl) (q0 rfl rfl rfl (o_stp (cs' := [ac]) (us := [ac]) (v := ac) sz24 rfl rfl (vK db.one) (yF db.one) q.pins ab (cD rfl) rfl (fun pj lq lr ca pk => ?_))))
 have fu := q.write lr ca ((zW cm))
 have fv := db.keptA ca lp.symm
 have ls := al.keptA ca ak.symm
 have lu := am.keptA ca cl.symm
 refine qe (yD (w9a ?_))
 refine qD rfl (zR (cs := [ac]) ag26 sz26 rfl (fun j u hj => lq.cell (by simpa using hj))) (q0 rfl rfl rfl (o_stp (cs' := [ac]) (us := [ac]) (v := .agg #[ac]) sz26 rfl rfl rfl (yF fv.one) fu.pins lu (cD rfl) rfl (fun pl lv lw dd pm => ?_)))
 have lx := fu.write lw dd ((zW au))
 have ly := fv.keptA dd ln
 have lz := ls.keptA dd y.symm
 refine qe (zA ?_)
 refine cN (zQ (qH (cs := [ac]) rfl rfl rfl ag26 sz26 (fun j u hj => by rw [cQ]; exact lv.cell hj) ?_))
 obtain ⟨pn, po, l0, l1, l2⟩ := ly.sealed lx
 have l3 := lz.moreO l2 lm.symm
 exact ⟨_, _, _, _, _, rfl, l1, l3, (by omega), (by omega), l0⟩
 refine w9d ?_
 refine qD rfl (xY rfl rfl) (qM (.bool (decide ((ah : Int) = 3))) ?_)
 refine qe (zA ?_)
 refine yE (p := (ah : Int) = 3) rfl rfl (fun l4 => ?_) (fun l4 => ?_)
 refine w9d ?_
 refine qD rfl (zK (k := 0) rfl dE rfl nz24 rfl) (qD rfl (zM (u := b) ag24 rfl (ab.cell (o := 0) rfl)) (qD rfl (zI dC sz76 (v := b) rfl rfl t.read (by omega) (by omega)) ?_))
 obtain ⟨bd, be, de, df, l5⟩ := vD (t.at (z := 0) (by omega) (by omega)) (j := 0) rfl
 have pp := de.max
 have pq := df.max
 refine qD rfl (l5 ag76 sz76 rfl (cK q.pins b)) (qI rfl (yN [vN, vN] zr76 rfl q.pins (fun l6 pr cb l7 l8 bf => ?_)))
 have fw := q.step l8 bf
 have l9 := t.below bf
 have ma := al.below bf
 have mb := am.below bf
 have mc := ab.below bf
 have fx := zL (cgA some cb) t.lt
 have fy := zF (cgA some cb) al.lt
 have fz := zF (cgA some cb) am.lt
 have f0 := zF (cgA some cb) ab.lt
 have f1 : w.heap.size ≤ l6 := by have := q.size; omega
 refine q0 rfl rfl rfl (o_stp (cs' := [bd, be]) (us := [bd, be]) (v := .agg #[bd, be]) sz76 rfl rfl rfl (jZ de.one df.one) fw.pins l7 (cD rfl) rfl (fun cc md me bg ps => ?_))
 have mf := fw.write me bg ((zW f1))
 have mg := l9.keptA bg fx.symm
 have mh := ma.keptA bg fy.symm
 have mi := mb.keptA bg fz.symm
 have mj := mc.keptA bg f0.symm
 obtain ⟨dg, dh, di, mk, cd⟩ := md.shut mf f1
 have dj := mg.moreA dh cd fx.symm
 have ml := mh.moreA cd fy.symm
 have mm := mi.moreA cd fz.symm
 have mn := mj.moreA cd f0.symm
 refine qe (zA (zB ?_))
 have mo := cK di.pins b
 have f2 := dj.read
 refine yQ (S := fun wz => BxR wz bi [b] ∧ Pins (Gadd dg cc b) wz) (last := 8) (by kernel_rfl) rfl ?_
 have ar := bdr cc
 have mp := di.pins.below ar
 have f3 := di.step mp ar
 have f4 := dj.below ar
 have mq := ml.below ar
 have mr := mm.below ar
 have af := mn.below ar
 have aj := mo.below ar
 refine dT (i := 0) rfl rfl (by kernel_rfl) (fun _ _ => zK (k := 0) rfl dE rfl nz24 rfl) ⟨af.reads, aj⟩ ?_
 refine dT (i := 1) rfl rfl (by kernel_rfl) (fun _ hS => zM (u := b) ag24 rfl (hS.1 0 _ rfl)) ⟨af.reads, aj⟩ ?_
 refine dT (i := 2) rfl rfl (by kernel_rfl) (fun _ _ => zK (k := 0) rfl dE rfl nz24 rfl) ⟨af.reads, aj⟩ ?_
 refine dT (i := 3) rfl rfl (by kernel_rfl) (fun _ hS => zM (u := b) ag24 rfl (hS.1 0 _ rfl)) ⟨af.reads, aj⟩ ?_
 refine dT (i := 4) rfl rfl (by kernel_rfl) (fun _ _ => zU (v := vJ d) rfl) ⟨af.reads, aj⟩ ?_
 refine dT (i := 5) rfl rfl (by kernel_rfl) (fun _ _ => zI dC sz76 (v := b) rfl rfl f2 (by omega) (by omega)) ⟨af.reads, aj⟩ ?_
 obtain ⟨ms, mt, f5, f6, mu⟩ := vD (dj.at (z := d) (by omega) (by omega)) (j := (d).toNat) rfl
 have pt := f5.max
 have pu := f6.max
 refine dT (i := 6) rfl rfl (by kernel_rfl) (fun _ hS => mu ag76 sz76 rfl hS.2) ⟨af.reads, aj⟩ ?_
 refine dT (i := 7) rfl rfl (by kernel_rfl) (fun _ _ => zI dC sz76 (v := b) rfl rfl f2 (by omega) (by omega)) ⟨af.reads, aj⟩ ?_
 refine dO (i := 8) (xJ (i := 8) rfl rfl rfl (yB rfl _) (jL (E := eNode) (v := b) (u := .agg #[ms, mt]) (z := 0) ((⟨((formG f).getD (d).toNat default).l, ((formG f).getD (d).toNat default).r⟩ : Nd)) sz76 rfl rfl rfl ⟨_, _, rfl, f5, f6⟩ f3.pins f4 (by omega) (by omega) (fun mv mw mx ce pv => ?_)))
 have dk := f3.write mx ce ((yG f4))
 have my := mq.keptA ce g.symm
 have mz := mr.keptA ce aa.symm
 have f7 := af.keptA ce ag
 have dl : Own eNode 76 dg mv w.heap.size b ((formG f).set 0 (⟨((formG f).getD (d).toNat default).l, ((formG f).getD (d).toNat default).r⟩ : Nd)) := mw
 have pw : ((formG f).set 0 (⟨((formG f).getD (d).toNat default).l, ((formG f).getD (d).toNat default).r⟩ : Nd)).length = (formG f).length := cR ..
 refine ⟨fun h => absurd rfl h, ?_⟩
 refine zY (by kernel_rfl) (zA (zC ?_))
 refine qD rfl (zK (k := 0) rfl dE rfl nz24 rfl) (qD rfl (zM (u := b) ag24 rfl (f7.cell (o := 0) rfl)) (qM (vJ d) ?_))
 refine qD rfl (zR (cs := [bd, be]) ag76 sz76 rfl (fun j u hj => dk.pins _ _ _ (mk _ _ (by simpa using hj)))) (qD rfl (zI dC sz76 (v := b) rfl rfl dl.read (by omega) (by omega)) (q0 rfl rfl rfl (jL (E := eNode) (v := b) (u := .agg #[bd, be]) (z := d) ((⟨((formG f).getD 0 default).l, ((formG f).getD 0 default).r⟩ : Nd)) sz76 rfl rfl rfl ⟨_, _, rfl, (de.mono dh), (df.mono dh)⟩ dk.pins dl (by omega) (by omega) (fun m0 m1 m2 cf px => ?_))))
 have f8 := dk.write m2 cf ((yG dl))
 have m3 := my.keptA cf g.symm
 have m4 := mz.keptA cf aa.symm
 have m5 := f7.keptA cf ag
 have f9 : Own eNode 76 dg m0 w.heap.size b (((formG f).set 0 (⟨((formG f).getD (d).toNat default).l, ((formG f).getD (d).toNat default).r⟩ : Nd)).set (d).toNat (⟨((formG f).getD 0 default).l, ((formG f).getD 0 default).r⟩ : Nd)) := m1
 have py : (((formG f).set 0 (⟨((formG f).getD (d).toNat default).l, ((formG f).getD (d).toNat default).r⟩ : Nd)).set (d).toNat (⟨((formG f).getD 0 default).l, ((formG f).getD 0 default).r⟩ : Nd)).length = ((formG f).set 0 (⟨((formG f).getD (d).toNat default).l, ((formG f).getD (d).toNat default).r⟩ : Nd)).length := cR ..
 refine qe (yD (w9a ?_))
 refine qD rfl (zR (cs := [b]) ag26 sz26 rfl (fun j u hj => m5.cell (by simpa using hj))) (q0 rfl rfl rfl (o_stp (cs' := [b]) (us := [b]) (v := .agg #[b]) sz26 rfl rfl rfl (yF f9.one) f8.pins m4 (cD rfl) rfl (fun pz m6 m7 dm p0 => ?_)))
 have m8 := f8.write m7 dm ((zW au))
 have m9 := f9.keptA dm aa
 have na := m3.keptA dm y.symm
 refine qe (zA ?_)
 refine cN (zQ (qH (cs := [b]) rfl rfl rfl ag26 sz26 (fun j u hj => by rw [cQ]; exact m6.cell hj) ?_))
 obtain ⟨p1, p2, nb, nc, nd⟩ := m9.sealed m8
 have ne := na.moreO nd g.symm
 exact ⟨_, _, _, _, _, rfl, nc, ne, (by omega), (by omega), nb⟩
 refine cM (yD (w9a ?_))
 refine qD rfl (zR (cs := [b]) ag26 sz26 rfl (fun j u hj => ab.cell (by simpa using hj))) (q0 rfl rfl rfl (o_stp (cs' := [b]) (us := [b]) (v := .agg #[b]) sz26 rfl rfl rfl (yF t.one) q.pins am (cD rfl) rfl (fun p3 nf ng dn p4 => ?_)))
 have nh := q.write ng dn ((zW au))
 have ni := t.keptA dn aa
 have nj := al.keptA dn y.symm
 refine qe (zA ?_)
 refine cN (zQ (qH (cs := [b]) rfl rfl rfl ag26 sz26 (fun j u hj => by rw [cQ]; exact nf.cell hj) ?_))
 obtain ⟨p5, p6, nk, nl, nm⟩ := ni.sealed nh
 have nn := nj.moreO nm g.symm
 exact ⟨_, _, _, _, _, rfl, nl, nn, (by omega), (by omega), nk⟩
end DV1
namespace DV2
open B1 C1 D1 E1 MK1 DR1 DR2 DV1
theorem vBig_spec {w : World} {G : Pin} {v : Value} {code : List UInt8} (hP : Pins G w) (hc : RSl eByte G v code) :
  Calls Tryz.prog 5 #[v] w fun e w' => e = .returned (.bool (decide ((65536 : Int) < (code.length : Int)))) ∧ Ext noS G w G w' := by
 refine yA (n := 6) Tryz.func5 Tryz.ntmps5 rfl rfl ?_
 have hX0 := exr noS hP
 have hm := hc.max
 refine w9d ?_
 refine qM (.bool false) ?_
 refine qe (w9a ?_)
 refine qM v ?_
 refine qD rfl (run_len dN (v := v) rfl hc) (qD rfl (jV rfl rfl) (qM (.bool (decide ((65536 : Int) < (code.length : Int)))) ?_))
 refine qe (zA ?_)
 exact cN (zQ (zS (v := .bool (decide ((65536 : Int) < (code.length : Int)))) rfl rfl rfl (⟨rfl, hX0⟩)))
end DV2
namespace LX5
open B1 C1 D1 E1 MK1 DR1 DR2 DV1
theorem pG {w0 w : World} {A0 G : Pin} {c : Nat} {cv v : Value} {code : List UInt8} {a s : Int} {cs : List Cl} {lo hi : Nat} {bs : List (Nat × List Value)} (hX0 : Ext noS A0 w0 G w) (hB : Bx G w c [cv, .int .i64 a, .int .u64 s]) (hc : RSl eByte G cv code) (ha : 0 ≤ a ∧ a + 20 ≤ 1000000) (hs : 0 ≤ s ∧ s < 18446744073709551616) (hcl : w0.heap.size ≤ c) (hd : DPrf 53 3 G w lo hi v cs) (hsz : hi ≤ w.heap.size) (hlo : w0.heap.size ≤ lo) (hch : hi ≤ c ∨ c < lo) (hsm : SmC cs) (hbs : BxL G w bs) (hbc : NotB bs (some c)) (hbv : ∀ p ∈ bs, hi ≤ p.1 ∨ p.1 < lo) :
  Calls Tryz.prog 18 [vP c, .agg #[v]].toArray w fun e w' => ∃ (u : Value) (qs : List Cl) (G' : Pin), e = .returned (.agg #[u]) ∧ RSl eClaim G' u qs ∧ BxL G' w' bs ∧ Pin.le G G' ∧ Ext noS A0 w0 G' w' := by
 refine yA (n := 90) Tryz.func18 Tryz.ntmps18 rfl rfl ?_
 have hm := hc.max
 have hsl := hsm.len
 refine w9d ?_
 refine qI rfl (xH [v] (v := .agg #[v]) rfl rfl hX0.pins (fun b1 w2 c5 d7 gr bo => ?_))
 have c6 := hX0.step gr bo
 have d8 := hB.below bo
 have gs := hd.below bo
 have d9 := cP hsz bo.size
 have ea := hbs.below bo
 have ay := zF (cgA some c5) hB.lt
 have aa : hi ≤ b1 ∨ b1 < lo := cE (by have e := Option.some.inj (cgA some c5); have := hsz; omega)
 have gt : NotB bs (some b1) := hbs.new (fun k hk => by rw [cgA some c5] at hk; cases hk; exact cG _)
 have gu : w0.heap.size ≤ b1 := by have := hX0.size; omega
 refine qI rfl (yN [vN] zr29 rfl c6.pins (fun cc pa cd eb gv ba => ?_))
 have ce := c6.step gv ba
 have ec := d8.below ba
 have c7 := d7.below ba
 have c8 := gs.below ba
 have gw := cP d9 ba.size
 have ed := ea.below ba
 have az := zF (cgA some cd) d8.lt
 have gx := zF (cgA some cd) d7.lt
 have f : hi ≤ cc ∨ cc < lo := cE (by have e := Option.some.inj (cgA some cd); have := d9; omega)
 have aj : NotB bs (some cc) := ea.new (fun k hk => by rw [cgA some cd] at hk; cases hk; exact cG _)
 have ak : w0.heap.size ≤ cc := by have := c6.size; omega
 refine qe (zA (w9b ?_))
 refine qD rfl (zK (k := 0) rfl dI rfl nz27 rfl) (qD rfl (zM (u := v) ag27 rfl (c7.cell (o := 0) rfl)) (qD rfl (DPrf.run_len c8 dG rfl) (qD rfl (xY rfl rfl) (qM (.bool (decide (((cs.length : Int) : Int) = 0))) ?_))))
 refine qbd (p := ((cs.length : Int) : Int) = 0) (t := 10) rfl (fun gy => ?_) (fun gy => ?_)
 refine qW ?_
 refine qW ?_
 refine qD rfl (yJ (v := .bool true) rfl rfl) (qe (zA ?_))
 refine xW rfl rfl (w9d ?_)
 obtain ⟨pb, ee, gz, g0, bp⟩ := c8.readR ce.pins
 have ef := ce.promise ee gz (fun b o x h => (bp b o x h).imp id (fun a => a.1)) hlo
 have pc := ec.moreR bp hch
 have g1 := c7.moreR bp aa
 have g2 := eb.moreR bp f
 have g3 := ed.moreR bp hbv
 refine qD rfl (zR (cs := [v]) ag29 sz29 rfl (fun j u hj => g1.cell (by simpa using hj))) (q0 rfl rfl rfl (o_stp (cs' := [v]) (us := [v]) (v := .agg #[v]) sz29 rfl rfl rfl (yF hd.one) ef.pins g2 (cD rfl) rfl (fun pd g4 g5 eg pe => ?_)))
 have g6 := ef.write g5 eg ((zW ak))
 have g7 := g3.kept eg aj
 refine qe (zA ?_)
 exact cN (zQ (qH (cs := [v]) rfl rfl rfl ag29 sz29 (fun j u hj => by rw [cQ]; exact g4.cell hj) (⟨_, _, _, rfl, g0, g7, ee, g6⟩)))
 refine qN (zU (v := vP c) rfl) ?_
 refine q1g rfl rfl rfl rfl rfl rfl (zO (vs := [vP c, vJ 2]) Tryz.func16 nm16 rfl rfl rfl ?_)
 refine cC (mC ce.pins ec hc (by omega) (by omega) (n := 2) (by omega)) ?_
 rintro _ pf ⟨g8, pg, ph, rfl, eh, pi, pj, bb⟩
 refine rt9 ?_
 have cf := ce.trans bb (fun i hi => (zW hcl) i hi)
 have c9 := c7.extS bb (yZ ay)
 have ei := eb.extS bb (yZ az)
 have da := c8.extS bb (fun k h1 h2 h3 => by cases h3; have h4 := hch; omega)
 have g9 := cP gw bb.size
 have em := ed.turned bb hbc
 refine qD rfl (yH (v := .bool g8) rfl rfl) (qe (zA ?_))
 refine c_if rfl rfl (fun hb => ?_) (fun hb => ?_)
 refine w9d ?_
 obtain ⟨pk, en, he, hf, br⟩ := da.readR cf.pins
 have eo := cf.promise en he (fun b o x h => (br b o x h).imp id (fun a => a.1)) hlo
 have pl := eh.moreR br hch
 have hg := c9.moreR br aa
 have hh := ei.moreR br f
 have hl := em.moreR br hbv
 refine qD rfl (zR (cs := [v]) ag29 sz29 rfl (fun j u hj => hg.cell (by simpa using hj))) (q0 rfl rfl rfl (o_stp (cs' := [v]) (us := [v]) (v := .agg #[v]) sz29 rfl rfl rfl (yF hd.one) eo.pins hh (cD rfl) rfl (fun pm hn ho ep pn => ?_)))
 have hp := eo.write ho ep ((zW ak))
 have hq := hl.kept ep aj
 refine qe (zA ?_)
 exact cN (zQ (qH (cs := [v]) rfl rfl rfl ag29 sz29 (fun j u hj => by rw [cQ]; exact hn.cell hj) (⟨_, _, _, rfl, hf, hq, en, hp⟩)))
 refine cM (w9a ?_)
 refine qM (vP c) ?_
 refine qD rfl (zK (k := 0) rfl dI rfl nz27 rfl) (qD rfl (zM (u := v) ag27 rfl (c9.cell (o := 0) rfl)) (qD rfl (DPrf.run_len da dG rfl) (qI rfl (zO (vs := [vP c, vJ (cs.length : Int)]) Tryz.func35 nm35 rfl rfl rfl ?_))))
 refine cC (qA cf.pins eh hc (by omega) (by omega) (n := (cs.length : Int)) (by omega)) ?_
 rintro _ po ⟨d, pp, pq, rfl, pr, hr, pt, pu, bc⟩
 refine rt9 ?_
 have eq := cf.trans bc (fun i hi => (zW hcl) i hi)
 have ht := c9.extS bc (yZ ay)
 have hv := ei.extS bc (yZ az)
 have hw := da.extS bc (fun k h1 h2 h3 => by cases h3; have h4 := hch; omega)
 have hx := cP g9 bc.size
 have hz := em.turned bc hbc
 refine qM (vJ d) ?_
 refine qe (zA (w9b ?_))
 refine qM (vP c) ?_
 refine qI rfl (zO (vs := [vP c, vJ 6]) Tryz.func35 nm35 rfl rfl rfl ?_)
 refine cC (qA eq.pins hr hc (by omega) (by omega) (n := 6) (by omega)) ?_
 rintro _ g ⟨ae, pv, pw, rfl, px, bd, py, pz, be⟩
 refine rt9 ?_
 have ab := eq.trans be (fun i hi => (zW hcl) i hi)
 have bf := ht.extS be (yZ ay)
 have bg := hv.extS be (yZ az)
 have bh := hw.extS be (fun k h1 h2 h3 => by cases h3; have h4 := hch; omega)
 have p0 := cP hx be.size
 have bi := hz.turned be hbc
 refine qe (zA ?_)
 refine zX (w9d ?_)
 refine qD rfl (xY rfl rfl) (qM (.bool (decide ((ae : Int) = 0))) ?_)
 refine qe (zA ?_)
 refine yE (p := (ae : Int) = 0) rfl rfl (fun h0 => ?_) (fun h0 => ?_)
 have hkk : (d).toNat < cs.length := by omega
 have hln := hsm.ln (d).toNat hkk
 obtain ⟨er, ps, y, u, hy, hu, db, h5, hpl, h6, h7, a0, dc, es, p1, hra, hla, bt⟩ := bh.open ab.pins hkk
 have dd := ab.promise db h5 (fun b o x h => (bt b o x h).imp id (fun a => a.1)) hlo
 have h8 := bd.moreR bt hch
 have h9 := bf.moreR bt aa
 have ia := bg.moreR bt f
 have ib := bi.moreR bt hbv
 have et := h6.weaken hlo
 have ic := h7.weaken hlo
 have ie := cK dd.pins v
 have eu := et.read
 refine yQ (S := fun wz => BxR wz b1 [v] ∧ Pins (Gadd er g v) wz) (last := 8) (by kernel_rfl) rfl ?_
 have al := bdr g
 have ig := dd.pins.below al
 have ev := dd.step ig al
 have ih := et.below al
 have ii := ic.below al
 have ij := h8.below al
 have bu := h9.below al
 have ik := ia.below al
 have il := ib.below al
 have bv := ie.below al
 refine dT (i := 0) rfl rfl (by kernel_rfl) (fun _ _ => zK (k := 0) rfl dI rfl nz27 rfl) ⟨bu.reads, bv⟩ ?_
 refine dT (i := 1) rfl rfl (by kernel_rfl) (fun _ hS => zM (u := v) ag27 rfl (hS.1 0 _ rfl)) ⟨bu.reads, bv⟩ ?_
 refine dT (i := 2) rfl rfl (by kernel_rfl) (fun _ _ => zU (v := vJ d) rfl) ⟨bu.reads, bv⟩ ?_
 refine dT (i := 3) rfl rfl (by kernel_rfl) (fun _ _ => zU (v := vP c) rfl) ⟨bu.reads, bv⟩ ?_
 refine dP (i := 4) rfl rfl (zO (vs := [vP c, vJ 6]) Tryz.func35 nm35 rfl rfl rfl ?_)
 refine cC (qA ev.pins ij (hc.mono db) (by omega) (by omega) (n := 6) (by omega)) ?_
 rintro _ p2 ⟨de, p3, p4, rfl, p5, p6, p7, p8, a1⟩
 refine rt9 ?_
 have df := ev.trans a1 (fun i hi => (zW hcl) i hi)
 have ew := ih.extS a1 (notO (yS a0 hch))
 have im := ii.extS a1 (notO (yS dc hch))
 have bw := bu.extS a1 (yZ ay)
 have io := ik.extS a1 (yZ az)
 have ip := il.turned a1 hbc
 have cg := Gadd.turn bv (cB df.pins (cI _)) a1 (notO (yS a0 hch))
 refine ⟨fun _ => ⟨bw.reads, cg⟩, ?_⟩
 refine dT (i := 5) rfl rfl (by kernel_rfl) (fun _ _ => xR rfl rfl (by omega)) ⟨bw.reads, cg⟩ ?_
 refine dP (i := 6) rfl rfl (EO.run (zI dG sz53 (v := v) rfl rfl eu (by omega) (by omega)) ⟨fun _ => ⟨bw.reads, cg⟩, ?_⟩)
 refine dT (i := 7) rfl rfl (by kernel_rfl) (fun _ _ => yI (off := 0) dD rfl rfl nz3 (z := d) (k := 0) rfl eu (by omega) (by omega)) ⟨bw.reads, cg⟩ ?_
 refine dO (i := 8) (xJ (i := 8) rfl rfl rfl (yB rfl _) (o_setC (v := v) (z := d) (q := de - 1) 0 (by decide) sz3 rfl rfl df.pins ew (by omega) (by omega) (fun iq ir it bx p9 => ?_)))
 have ex := df.write it bx ((yG ew))
 have iu := im.keptA bx es
 have iv := bw.keptA bx (yS a0 aa).symm
 have iw := io.keptA bx (yS a0 f).symm
 have ix := ip.kept bx (NotB.row hbv a0)
 have qa : (ps.set (d).toNat (new4 0 (de - 1) (ps.getD (d).toNat default))).length = ps.length := cR ..
 have iy : Own eCl4 53 er iq w0.heap.size v (ps.set (d).toNat (new4 0 (de - 1) (ps.getD (d).toNat default))) := ir
 refine ⟨fun h => absurd rfl h, ?_⟩
 refine zY (by kernel_rfl) (yD (w9a ?_))
 refine qD rfl (zR (cs := [v]) ag29 sz29 rfl (fun j u hj => iv.cell (by simpa using hj))) (q0 rfl rfl rfl (o_stp (cs' := [v]) (us := [v]) (v := .agg #[v]) sz29 rfl rfl rfl (yF hd.one) ex.pins iw (cD rfl) rfl (fun qb iz i0 ch qc => ?_)))
 have i1 := ex.write i0 ch ((zW ak))
 have i2 := iy.keptA ch (yS a0 f)
 have i3 := iu.keptA ch (yS dc f)
 have i4 := ix.kept ch aj
 refine qe (zA ?_)
 refine cN (zQ (qH (cs := [v]) rfl rfl rfl ag29 sz29 (fun j u hj => by rw [cQ]; exact iz.cell hj) ?_))
 obtain ⟨qf, ci, i5, i6, ey⟩ := i2.sealed i1
 have i7 := i3.moreO ci ey es
 have i8 := i4.moreO ey (NotB.row hbv a0)
 obtain ⟨qg, cj, i9, ja, jb⟩ := i7.sealed i5
 have jc := i8.moreO jb (NotB.row hbv dc)
 obtain ⟨_, am⟩ := kK (cA ci cj) hu hla ja (by simp) (done_num (cA ci cj) hra) (i6.mono cj)
 exact ⟨_, _, _, rfl, am, jc, (cA (cA db ci) cj), i9⟩
 refine w9d ?_
 refine qD rfl (xY rfl rfl) (qM (.bool (decide ((ae : Int) = 1))) ?_)
 refine qe (zA ?_)
 refine yE (p := (ae : Int) = 1) rfl rfl (fun jd => ?_) (fun jd => ?_)
 have hkk : (d).toNat < cs.length := by omega
 have hln := hsm.ln (d).toNat hkk
 obtain ⟨ez, ps, y, u, hy, hu, dg, je, hpl, jf, jg, a2, dh, e0, qh, hra, hla, bz⟩ := bh.open ab.pins hkk
 have di := ab.promise dg je (fun b o x h => (bz b o x h).imp id (fun a => a.1)) hlo
 have jh := bd.moreR bz hch
 have ji := bf.moreR bz aa
 have jj := bg.moreR bz f
 have jk := bi.moreR bz hbv
 have e1 := jf.weaken hlo
 have jl := jg.weaken hlo
 have jm := cK di.pins v
 have e2 := e1.read
 refine yQ (S := fun wz => BxR wz b1 [v] ∧ Pins (Gadd ez g v) wz) (last := 8) (by kernel_rfl) rfl ?_
 have an := bdr g
 have jn := di.pins.below an
 have dj := di.step jn an
 have e3 := e1.below an
 have e4 := jl.below an
 have e5 := jh.below an
 have bj := ji.below an
 have e6 := jj.below an
 have e7 := jk.below an
 have b0 := jm.below an
 refine dT (i := 0) rfl rfl (by kernel_rfl) (fun _ _ => zK (k := 0) rfl dI rfl nz27 rfl) ⟨bj.reads, b0⟩ ?_
 refine dT (i := 1) rfl rfl (by kernel_rfl) (fun _ hS => zM (u := v) ag27 rfl (hS.1 0 _ rfl)) ⟨bj.reads, b0⟩ ?_
 refine dT (i := 2) rfl rfl (by kernel_rfl) (fun _ _ => zU (v := vJ d) rfl) ⟨bj.reads, b0⟩ ?_
 refine dT (i := 3) rfl rfl (by kernel_rfl) (fun _ _ => zU (v := vP c) rfl) ⟨bj.reads, b0⟩ ?_
 refine dP (i := 4) rfl rfl (yX (E := eInt) (e := 3) [vJ 0, vJ 1, vJ 119, vJ 120, vJ (-1)] [0, 1, 119, 120, -1] dB sz3 zr3 (vT (by rfl) (vT (by rfl) (vT (by rfl) (vT (by rfl) (vT (by rfl) repsN))))) (vW (by rfl) (vW (by rfl) (vW (by rfl) (vW (by rfl) (vW (by rfl) onesN))))) rfl rfl rfl rfl (by decide) dj.pins (fun dk jo jp jq ar bk => ?_))
 have jr := dj.step jq ar
 have js := e3.below ar
 have jt := e4.below ar
 have ju := e5.below ar
 have e8 := bj.below ar
 have jv := e6.below ar
 have jw := e7.below ar
 have jx := zL bk e3.lt
 have jy := zL bk e4.lt
 have jz := zF bk e5.lt
 have j0 := zF bk bj.lt
 have j1 := zF bk e6.lt
 have j2 : NotB bs dk.ownBlock := e7.new (fun k hk => by rw [bk] at hk; cases hk; exact cG _)
 have j3 := jp.weaken dj.size
 have e9 := b0.below ar
 refine ⟨fun _ => ⟨e8.reads, e9⟩, ?_⟩
 obtain ⟨j4, a3, fa, j5, bl⟩ := j3.sealed jr
 have j6 := js.moreO a3 bl jx.symm
 have j7 := jt.moreO a3 bl jy.symm
 have j8 := ju.moreO bl jz.symm
 have j9 := e8.moreO bl j0.symm
 have ka := jv.moreO bl j1.symm
 have kb := jw.moreO bl j2
 refine dP (i := 5) rfl rfl (zO (vs := [vP c, dk]) Tryz.func37 nm37 rfl rfl rfl ?_)
 refine cC (gG fa.pins j8 (hc.mono (cA dg a3)) (by omega) (by omega) j5 (by simp)) ?_
 rintro _ qi ⟨dl, qj, qk, rfl, ql, qm, qn, qo, a4⟩
 refine rt9 ?_
 have dm := fa.trans a4 (fun i hi => (zW hcl) i hi)
 have fb := j6.extS a4 (notO (yS a2 hch))
 have kc := j7.extS a4 (notO (yS dh hch))
 have ck := j9.extS a4 (yZ ay)
 have kd := ka.extS a4 (yZ az)
 have ke := kb.turned a4 hbc
 have dn := Gadd.turn e9 (cB dm.pins a3) a4 (notO (yS a2 hch))
 refine ⟨fun _ => ⟨ck.reads, dn⟩, ?_⟩
 refine dP (i := 6) rfl rfl (EO.run (zI dG sz53 (v := v) rfl rfl e2 (by omega) (by omega)) ⟨fun _ => ⟨ck.reads, dn⟩, ?_⟩)
 refine dT (i := 7) rfl rfl (by kernel_rfl) (fun _ _ => yI (off := 1) dD rfl rfl nz3 (z := d) (k := 0) rfl e2 (by omega) (by omega)) ⟨ck.reads, dn⟩ ?_
 refine dO (i := 8) (xJ (i := 8) rfl rfl rfl (yB rfl _) (o_setC (v := v) (z := d) (q := dl) 1 (by decide) sz3 rfl rfl dm.pins fb (by omega) (by omega) (fun kf kg kh b2 qp => ?_)))
 have fc := dm.write kh b2 ((yG fb))
 have ki := kc.keptA b2 e0
 have kj := ck.keptA b2 (yS a2 aa).symm
 have kk := kd.keptA b2 (yS a2 f).symm
 have kl := ke.kept b2 (NotB.row hbv a2)
 have qq : (ps.set (d).toNat (new4 1 dl (ps.getD (d).toNat default))).length = ps.length := cR ..
 have km : Own eCl4 53 j4 kf w0.heap.size v (ps.set (d).toNat (new4 1 dl (ps.getD (d).toNat default))) := kg
 refine ⟨fun h => absurd rfl h, ?_⟩
 refine zY (by kernel_rfl) (yD (w9a ?_))
 refine qD rfl (zR (cs := [v]) ag29 sz29 rfl (fun j u hj => kj.cell (by simpa using hj))) (q0 rfl rfl rfl (o_stp (cs' := [v]) (us := [v]) (v := .agg #[v]) sz29 rfl rfl rfl (yF hd.one) fc.pins kk (cD rfl) rfl (fun qr kn ko cl qt => ?_)))
 have kp := fc.write ko cl ((zW ak))
 have kq := km.keptA cl (yS a2 f)
 have kr := ki.keptA cl (yS dh f)
 have ks := kl.kept cl aj
 refine qe (zA ?_)
 refine cN (zQ (qH (cs := [v]) rfl rfl rfl ag29 sz29 (fun j u hj => by rw [cQ]; exact kn.cell hj) ?_))
 obtain ⟨qu, cm, kt, ku, fd⟩ := kq.sealed kp
 have kv := kr.moreO cm fd e0
 have kw := ks.moreO fd (NotB.row hbv a2)
 obtain ⟨qv, cn, kx, ky, kz⟩ := kv.sealed kt
 have k0 := kw.moreO kz (NotB.row hbv dh)
 obtain ⟨_, am⟩ := kK (cA (cA a3 cm) cn) hu hla ky (by simp) (done_num (cA (cA a3 cm) cn) hra) (ku.mono cn)
 exact ⟨_, _, _, rfl, am, k0, (cA (cA (cA dg a3) cm) cn), kx⟩
 refine w9d ?_
 refine qD rfl (xY rfl rfl) (qM (.bool (decide ((ae : Int) = 2))) ?_)
 refine qe (zA ?_)
 refine yE (p := (ae : Int) = 2) rfl rfl (fun k1 => ?_) (fun k1 => ?_)
 have hkk : (d).toNat < cs.length := by omega
 have hln := hsm.ln (d).toNat hkk
 obtain ⟨k2, ps, y, u, hy, hu, dp, k3, hpl, k4, k5, a5, dq, fe, k6, hra, hla, b3⟩ := bh.open ab.pins hkk
 have dr := ab.promise dp k3 (fun b o x h => (b3 b o x h).imp id (fun a => a.1)) hlo
 have k7 := bd.moreR b3 hch
 have k8 := bf.moreR b3 aa
 have k9 := bg.moreR b3 f
 have la := bi.moreR b3 hbv
 have ds := k4.weaken hlo
 have lb := k5.weaken hlo
 have lc := cK dr.pins v
 have co := ds.read
 refine yQ (S := fun wz => BxR wz b1 [v] ∧ Pins (Gadd k2 g v) wz) (last := 17) (by kernel_rfl) rfl ?_
 have ao := bdr g
 have ld := dr.pins.below ao
 have dt := dr.step ld ao
 have ff := ds.below ao
 have fg := lb.below ao
 have fh := k7.below ao
 have ac := k8.below ao
 have fi := k9.below ao
 have fj := la.below ao
 have ad := lc.below ao
 refine dT (i := 0) rfl rfl (by kernel_rfl) (fun _ _ => zK (k := 0) rfl dI rfl nz27 rfl) ⟨ac.reads, ad⟩ ?_
 refine dT (i := 1) rfl rfl (by kernel_rfl) (fun _ hS => zM (u := v) ag27 rfl (hS.1 0 _ rfl)) ⟨ac.reads, ad⟩ ?_
 refine dT (i := 2) rfl rfl (by kernel_rfl) (fun _ _ => zU (v := vJ d) rfl) ⟨ac.reads, ad⟩ ?_
 refine dT (i := 3) rfl rfl (by kernel_rfl) (fun _ _ => zK (k := 0) rfl dI rfl nz27 rfl) ⟨ac.reads, ad⟩ ?_
 refine dT (i := 4) rfl rfl (by kernel_rfl) (fun _ hS => zM (u := v) ag27 rfl (hS.1 0 _ rfl)) ⟨ac.reads, ad⟩ ?_
 refine dT (i := 5) rfl rfl (by kernel_rfl) (fun _ _ => zU (v := vJ d) rfl) ⟨ac.reads, ad⟩ ?_
 refine dT (i := 6) rfl rfl (by kernel_rfl) (fun _ _ => zI dG sz53 (v := v) rfl rfl co (by omega) (by omega)) ⟨ac.reads, ad⟩ ?_
 refine dT (i := 7) rfl rfl (by kernel_rfl) (fun _ _ => yI (off := 2) dD rfl rfl nz40 (z := d) (k := 0) rfl co (by omega) (by omega)) ⟨ac.reads, ad⟩ ?_
 obtain ⟨qw, lf, qx, lg⟩ := xX (j := (d).toNat) default (ds.at (z := d) (by omega) (by omega)) rfl
 obtain ⟨rfl, qy⟩ := lf
 refine dT (i := 8) rfl rfl (by kernel_rfl) (fun _ hS => lg 2 y (by rw [hy]; rfl) ag40 rfl hS.2) ⟨ac.reads, ad⟩ ?_
 refine dT (i := 10) rfl rfl (by kernel_rfl) (fun _ _ => zU (v := vP c) rfl) ⟨ac.reads, ad⟩ ?_
 refine dP (i := 9) rfl rfl (zO (vs := [y]) Tryz.func36 nm36 rfl rfl rfl ?_)
 refine cC (gA dt.pins k6 (by omega)) ?_
 rintro _ lh ⟨du, fk, rfl, a6, m⟩
 refine rt9 ?_
 have fl := dt.tr m
 have li := ff.ext m
 have lj := fg.ext m
 have lk := fh.ext m
 have fm := ac.ext m
 have ll := fi.ext m
 have lm := fj.ext m
 have dv := zT a6.lt ff.lt
 have fn := zT a6.lt fg.lt
 have lp := zV a6.lt fh.lt
 have lq := zV a6.lt ac.lt
 have fo := zV a6.lt fi.lt
 have fp : NotB bs du.ownBlock := fj.new (fun k hk => (a6.lt k hk).1)
 have lr := a6.weaken dt.size
 have fq := ad.below m.below
 refine ⟨fun _ => ⟨fm.reads, fq⟩, ?_⟩
 refine dP (i := 11) rfl rfl (zO (vs := [vP c, vJ 4]) Tryz.func35 nm35 rfl rfl rfl ?_)
 refine cC (qA fl.pins lk (hc.mono (cA dp m.le)) (by omega) (by omega) (n := 4) (by omega)) ?_
 rintro _ qz ⟨cp, q2, q3, rfl, q4, q5, q6, q7, au⟩
 refine rt9 ?_
 have cq := fl.trans au (fun i hi => (zW hcl) i hi)
 have ls := li.extS au (notO (yS a5 hch))
 have lu := lj.extS au (notO (yS dq hch))
 have lv := lr.extS au (notO lp)
 have dw := fm.extS au (yZ ay)
 have lw := ll.extS au (yZ az)
 have fr := lm.turned au hbc
 have dx := Gadd.turn fq (cB cq.pins m.le) au (notO (yS a5 hch))
 refine ⟨fun _ => ⟨dw.reads, dx⟩, ?_⟩
 refine dT (i := 12) rfl rfl (by kernel_rfl) (fun _ _ => xR rfl rfl (by omega)) ⟨dw.reads, dx⟩ ?_
 refine dP (i := 13) rfl rfl (yX (E := eInt) (e := 3) [vJ (cp - 1)] [cp - 1] dB sz3 zr3 (by exact qG (by rfl)) (yF (by rfl)) rfl rfl rfl rfl (by decide) cq.pins (fun dy lx ly lz av l0 => ?_))
 have dz := cq.step lz av
 have fs := ls.below av
 have ft := lu.below av
 have fu := lv.below av
 have fv := dw.below av
 have fw := lw.below av
 have fx := fr.below av
 have q8 : NotB bs dy.ownBlock := fr.new (fun k hk => by rw [l0] at hk; cases hk; exact cG _)
 have l1 := ly.weaken cq.size
 have fy := dx.below av
 refine ⟨fun _ => ⟨fv.reads, fy⟩, ?_⟩
 refine dP (i := 14) rfl rfl (vI (E := eInt) (v := du) (u := dy) 8 dB ap3 (by decide) rfl rfl dz.pins fu l1.src (by first | omega | (rw [List.nil_append]; omega) | (rw [List.length_nil]; omega) | (rw [List.length_append]; omega) | (simp; done) | (simp; omega) | (simp only [List.length_cons, List.length_nil]; omega) | (simp only [List.length_append, List.length_cons, List.length_nil]; omega)) (by first | omega | (rw [List.nil_append]; omega) | (rw [List.length_nil]; omega) | (rw [List.length_append]; omega) | (simp; done) | (simp; omega) | (simp only [List.length_cons, List.length_nil]; omega) | (simp only [List.length_append, List.length_cons, List.length_nil]; omega)) (dz.size) (fun fz q9 f0 f1 a7 cr => ?_))
 have d0 := dz.write f1 a7 ((yG fu))
 have f2 := fs.keptA a7 dv.symm
 have l2 := ft.keptA a7 fn.symm
 have ct := fv.keptA a7 lq.symm
 have l3 := fw.keptA a7 fo.symm
 have l4 := fx.kept a7 fp
 have f3 := zJ dv.symm cr fs.lt
 have l5 := zJ fn.symm cr ft.lt
 have l6 := zP fo.symm cr fw.lt
 have l7 : NotB bs fz.ownBlock := NotB.app fp fx cr
 have ra := la1 ((cs.getD (d).toNat default).r) (cp - 1)
 have d1 := Gadd.turn fy (cB d0.pins m.le) (Ext.one f1 a7) (notO dv.symm)
 refine ⟨fun _ => ⟨ct.reads, d1⟩, ?_⟩
 refine dP (i := 15) rfl rfl (EO.run (zI dG sz53 (v := v) rfl rfl co (by omega) (by omega)) ⟨fun _ => ⟨ct.reads, d1⟩, ?_⟩)
 refine dT (i := 16) rfl rfl (by kernel_rfl) (fun _ _ => yI (off := 2) dD rfl rfl nz40 (z := d) (k := 0) rfl co (by omega) (by omega)) ⟨ct.reads, d1⟩ ?_
 refine dO (i := 17) (xJ (i := 17) rfl rfl rfl (yB rfl _) (o_setV (v := v) (z := d) (q := fz) f0.one sz40 rfl rfl d0.pins f2 (by omega) (by omega) (fun rb l8 l9 bm rc => ?_)))
 have f4 := d0.write l9 bm ((yG f2))
 have ma := l2.keptA bm fe
 have mb := f0.keptA bm f3.symm
 have mc := ct.keptA bm (yS a5 aa).symm
 have md := l3.keptA bm (yS a5 f).symm
 have me := l4.kept bm (NotB.row hbv a5)
 refine ⟨fun h => absurd rfl h, ?_⟩
 refine zY (by kernel_rfl) (yD (w9a ?_))
 refine qD rfl (zR (cs := [v]) ag29 sz29 rfl (fun j u hj => mc.cell (by simpa using hj))) (q0 rfl rfl rfl (o_stp (cs' := [v]) (us := [v]) (v := .agg #[v]) sz29 rfl rfl rfl (yF hd.one) f4.pins md (cD rfl) rfl (fun rd mf mg b4 re => ?_)))
 have mh := f4.write mg b4 ((zW ak))
 have mi := l8.keptA b4 (yS a5 f)
 have mj := ma.keptA b4 (yS dq f)
 have mk := mb.keptA b4 l6.symm
 have ml := me.kept b4 aj
 refine qe (zA ?_)
 refine cN (zQ (qH (cs := [v]) rfl rfl rfl ag29 sz29 (fun j u hj => by rw [cQ]; exact mf.cell hj) ?_))
 obtain ⟨rf, b5, mm, mn, d2⟩ := mi.sealed mh
 have mo := mj.moreO b5 d2 fe
 have mp := mk.moreO b5 d2 f3.symm
 have mq := ml.moreO d2 (NotB.row hbv a5)
 obtain ⟨rg, b6, mr, ms, f5⟩ := mo.sealed mm
 have mt := mp.moreO b6 f5 l5.symm
 have mu := mq.moreO f5 (NotB.row hbv dq)
 obtain ⟨rh, b7, mv, mw, mx⟩ := mt.sealed mr
 have my := mu.moreO mx l7
 obtain ⟨_, am⟩ := kK (cA (cA (cA m.le b5) b6) b7) hu hla (ms.mono b7) (by simp) (done_row (by omega) (cA (cA (cA m.le b5) b6) b7) hra mw) (mn.mono (cA b6 b7))
 exact ⟨_, _, _, rfl, am, my, (cA (cA (cA (cA dp m.le) b5) b6) b7), mv⟩
 refine w9d ?_
 refine qD rfl (xY rfl rfl) (qM (.bool (decide ((ae : Int) = 3))) ?_)
 refine qe (zA ?_)
 refine yE (p := (ae : Int) = 3) rfl rfl (fun mz => ?_) (fun mz => ?_)
 refine w9d ?_
 have hkk : (d).toNat < cs.length := by omega
 have hln := hsm.ln (d).toNat hkk
 obtain ⟨f6, ps, y, u, hy, hu, cu, m0, hpl, m1, m2, bn, ap, d3, ri, hra, hla, b8⟩ := bh.open ab.pins hkk
 have a8 := ab.promise cu m0 (fun b o x h => (b8 b o x h).imp id (fun a => a.1)) hlo
 have m3 := bd.moreR b8 hch
 have d4 := bf.moreR b8 aa
 have f7 := bg.moreR b8 f
 have f8 := bi.moreR b8 hbv
 have a9 := m1.weaken hlo
 have cw := m2.weaken hlo
 refine qD rfl (zK (k := 0) rfl dI rfl nz27 rfl) (qD rfl (zM (u := v) ag27 rfl (d4.cell (o := 0) rfl)) (qM (vJ d) ?_))
 refine qD rfl (zI dG sz53 (v := v) rfl rfl a9.read (by omega) (by omega)) (qD rfl (yI (off := 3) dD rfl rfl nz40 (z := d) (k := 0) rfl a9.read (by omega) (by omega)) ?_)
 obtain ⟨rj, m4, rk, m5⟩ := xX (j := (d).toNat) default (a9.at (z := d) (by omega) (by omega)) rfl
 obtain ⟨rfl, rl⟩ := m4
 refine qD rfl (m5 3 u (by rw [hu]; rfl) ag40 rfl (cK a8.pins v)) (qD rfl (run_len dB (v := u) rfl cw.read) (qD rfl (jV rfl rfl) (qe (zA ?_))))
 refine yE (p := (0 : Int) < (((cs.getD (d).toNat default).l).length : Int)) rfl rfl (fun m6 => ?_) (fun m6 => ?_)
 have m7 := cK a8.pins v
 have m8 := cK a8.pins u
 have f9 := a9.read
 have m9 := cw.read
 refine yQ (S := fun wz => BxR wz b1 [v] ∧ Pins (Gadd f6 g v) wz ∧ Pins (Gadd f6 g u) wz) (last := 11) (by kernel_rfl) rfl ?_
 have af := bdr g
 have na := a8.pins.below af
 have ga := a8.step na af
 have nb := a9.below af
 have nc := cw.below af
 have nd := m3.below af
 have ag := d4.below af
 have ne := f7.below af
 have nf := f8.below af
 have ah := m7.below af
 have ai := m8.below af
 refine dT (i := 0) rfl rfl (by kernel_rfl) (fun _ _ => zK (k := 0) rfl dI rfl nz27 rfl) ⟨ag.reads, ah, ai⟩ ?_
 refine dT (i := 1) rfl rfl (by kernel_rfl) (fun _ hS => zM (u := v) ag27 rfl (hS.1 0 _ rfl)) ⟨ag.reads, ah, ai⟩ ?_
 refine dT (i := 2) rfl rfl (by kernel_rfl) (fun _ _ => zU (v := vJ d) rfl) ⟨ag.reads, ah, ai⟩ ?_
 refine dT (i := 3) rfl rfl (by kernel_rfl) (fun _ _ => zI dG sz53 (v := v) rfl rfl f9 (by omega) (by omega)) ⟨ag.reads, ah, ai⟩ ?_
 refine dT (i := 4) rfl rfl (by kernel_rfl) (fun _ _ => yI (off := 3) dD rfl rfl nz40 (z := d) (k := 0) rfl f9 (by omega) (by omega)) ⟨ag.reads, ah, ai⟩ ?_
 obtain ⟨rm, ng, rn, nh⟩ := xX (j := (d).toNat) default (a9.at (z := d) (by omega) (by omega)) rfl
 obtain ⟨rfl, ro⟩ := ng
 refine dT (i := 5) rfl rfl (by kernel_rfl) (fun _ hS => nh 3 u (by rw [hu]; rfl) ag40 rfl hS.2.1) ⟨ag.reads, ah, ai⟩ ?_
 refine dT (i := 6) rfl rfl (by kernel_rfl) (fun _ _ => zU (v := vP c) rfl) ⟨ag.reads, ah, ai⟩ ?_
 refine dT (i := 7) rfl rfl (by kernel_rfl) (fun _ _ => zU (v := vJ d) rfl) ⟨ag.reads, ah, ai⟩ ?_
 refine dT (i := 8) rfl rfl (by kernel_rfl) (fun _ _ => yP rfl rfl (by omega)) ⟨ag.reads, ah, ai⟩ ?_
 refine dP (i := 9) rfl rfl (zO (vs := [vP c, vJ (d + 1)]) Tryz.func35 nm35 rfl rfl rfl ?_)
 refine cC (qA ga.pins nd (hc.mono cu) (by omega) (by omega) (n := d + 1) (by omega)) ?_
 rintro _ rp ⟨gb, rq, rr, rfl, rs, rt, ru, rv, aw⟩
 refine rt9 ?_
 have cx := ga.trans aw (fun i hi => (zW hcl) i hi)
 have ni := nb.extS aw (notO (yS bn hch))
 have gc := nc.extS aw (notO (yS ap hch))
 have d5 := ag.extS aw (yZ ay)
 have nj := ne.extS aw (yZ az)
 have nk := nf.turned aw hbc
 have gd := Gadd.turn ah (cB cx.pins (cI _)) aw (notO (yS bn hch))
 have ge := Gadd.turn ai (cB cx.pins (cI _)) aw (notO (yS ap hch))
 refine ⟨fun _ => ⟨d5.reads, gd, ge⟩, ?_⟩
 refine dT (i := 10) rfl rfl (by kernel_rfl) (fun _ _ => zI dB sz3 (v := u) rfl rfl m9 (by omega) (by omega)) ⟨d5.reads, gd, ge⟩ ?_
 refine dO (i := 11) (xJ (i := 11) rfl rfl rfl (yB rfl _) (jL (E := eInt) (v := u) (u := vJ gb) (z := 0) (gb) sz3 rfl rfl rfl rfl cx.pins gc (by omega) (by omega) (fun rx nl nm b9 ry => ?_)))
 have gf := cx.write nm b9 ((yG gc))
 have nn := ni.keptA b9 d3.symm
 have no := d5.keptA b9 (yS ap aa).symm
 have np := nj.keptA b9 (yS ap f).symm
 have nq := nk.kept b9 (NotB.row hbv ap)
 refine ⟨fun h => absurd rfl h, ?_⟩
 refine zY (by kernel_rfl) (yD (w9a ?_))
 refine qD rfl (zR (cs := [v]) ag29 sz29 rfl (fun j u hj => no.cell (by simpa using hj))) (q0 rfl rfl rfl (o_stp (cs' := [v]) (us := [v]) (v := .agg #[v]) sz29 rfl rfl rfl (yF hd.one) gf.pins np (cD rfl) rfl (fun rz nr ns cy r0 => ?_)))
 have nt := gf.write ns cy ((zW ak))
 have nu := nn.keptA cy (yS bn f)
 have nv := nl.keptA cy (yS ap f)
 have nw := nq.kept cy aj
 refine qe (zA ?_)
 refine cN (zQ (qH (cs := [v]) rfl rfl rfl ag29 sz29 (fun j u hj => by rw [cQ]; exact nr.cell hj) ?_))
 obtain ⟨r1, cz, nx, ny, gg⟩ := nu.sealed nt
 have nz := nv.moreO cz gg d3
 have n0 := nw.moreO gg (NotB.row hbv bn)
 obtain ⟨r2, c0, n1, n2, n3⟩ := nz.sealed nx
 have n4 := n0.moreO n3 (NotB.row hbv ap)
 obtain ⟨_, am⟩ := kK (cA cz c0) hu hla n2 (by simp) (pB (cA cz c0) hra) (ny.mono c0)
 exact ⟨_, _, _, rfl, am, n4, (cA (cA cu cz) c0), n1⟩
 refine cM (yD (w9a ?_))
 refine qD rfl (zR (cs := [v]) ag29 sz29 rfl (fun j u hj => d4.cell (by simpa using hj))) (q0 rfl rfl rfl (o_stp (cs' := [v]) (us := [v]) (v := .agg #[v]) sz29 rfl rfl rfl (yF hd.one) a8.pins f7 (cD rfl) rfl (fun r3 n5 n6 c1 r4 => ?_)))
 have n7 := a8.write n6 c1 ((zW ak))
 have n8 := a9.keptA c1 (yS bn f)
 have n9 := cw.keptA c1 (yS ap f)
 have oa := f8.kept c1 aj
 refine qe (zA ?_)
 refine cN (zQ (qH (cs := [v]) rfl rfl rfl ag29 sz29 (fun j u hj => by rw [cQ]; exact n5.cell hj) ?_))
 obtain ⟨r5, c2, ob, oc, gh⟩ := n8.sealed n7
 have od := n9.moreO c2 gh d3
 have oe := oa.moreO gh (NotB.row hbv bn)
 obtain ⟨r6, c3, og, oh, oi⟩ := od.sealed ob
 have oj := oe.moreO oi (NotB.row hbv ap)
 obtain ⟨_, am⟩ := kK (cA c2 c3) hu hla oh (by simp) (pB (cA c2 c3) hra) (oc.mono c3)
 exact ⟨_, _, _, rfl, am, oj, (cA (cA cu c2) c3), og⟩
 refine w9d ?_
 refine qD rfl (xY rfl rfl) (qM (.bool (decide ((ae : Int) = 4))) ?_)
 refine qe (zA ?_)
 refine yE (p := (ae : Int) = 4) rfl rfl (fun ok => ?_) (fun ok => ?_)
 refine zC ?_
 obtain ⟨r7, gi, ol, om, ca⟩ := bh.readR ab.pins
 have gj := ab.promise gi ol (fun b o x h => (ca b o x h).imp id (fun a => a.1)) hlo
 have r8 := bd.moreR ca hch
 have gk := bf.moreR ca aa
 have oo := bg.moreR ca f
 have op := bi.moreR ca hbv
 refine qD rfl (zK (k := 0) rfl dI rfl nz27 rfl) (qD rfl (zM (u := v) ag27 rfl (gk.cell (o := 0) rfl)) (qM (vJ d) ?_))
 obtain ⟨ax, c4, oq⟩ := qK om (lo := none) (hi := some (d)) (0) ((d).toNat) (cE ⟨rfl, rfl⟩) (cF ⟨_, rfl, (by omega), rfl⟩) (by omega) (by omega)
 refine qD rfl (oq dG sz53 rfl rfl rfl) (qD rfl (zK (k := 0) rfl dI rfl nz27 rfl) (q0 rfl rfl rfl (o_stp (cs' := [ax]) (us := [ax]) (v := ax) sz27 rfl rfl (vK c4.one) (yF c4.one) gj.pins gk (cD rfl) rfl (fun r9 os ot d6 sa => ?_))))
 have gl := gj.write ot d6 ((zW gu))
 have ou := oo.keptA d6 gx
 have ov := op.kept d6 gt
 refine qe (yD (w9a ?_))
 refine qD rfl (zR (cs := [ax]) ag29 sz29 rfl (fun j u hj => os.cell (by simpa using hj))) (q0 rfl rfl rfl (o_stp (cs' := [ax]) (us := [ax]) (v := .agg #[ax]) sz29 rfl rfl rfl (yF c4.one) gl.pins ou (cD rfl) rfl (fun sb ow ox gm sc => ?_)))
 have oy := gl.write ox gm ((zW ak))
 have oz := ov.kept gm aj
 refine qe (zA ?_)
 exact cN (zQ (qH (cs := [ax]) rfl rfl rfl ag29 sz29 (fun j u hj => by rw [cQ]; exact ow.cell hj) (⟨_, _, _, rfl, c4, oz, gi, oy⟩)))
 refine cM (yD (w9a ?_))
 obtain ⟨sd, gn, o0, o1, cb⟩ := bh.readR ab.pins
 have gp := ab.promise gn o0 (fun b o x h => (cb b o x h).imp id (fun a => a.1)) hlo
 have se := bd.moreR cb hch
 have o2 := bf.moreR cb aa
 have o3 := bg.moreR cb f
 have o4 := bi.moreR cb hbv
 refine qD rfl (zR (cs := [v]) ag29 sz29 rfl (fun j u hj => o2.cell (by simpa using hj))) (q0 rfl rfl rfl (o_stp (cs' := [v]) (us := [v]) (v := .agg #[v]) sz29 rfl rfl rfl (yF hd.one) gp.pins o3 (cD rfl) rfl (fun sf o5 o6 gq sg => ?_)))
 have o7 := gp.write o6 gq ((zW ak))
 have o8 := o4.kept gq aj
 refine qe (zA ?_)
 exact cN (zQ (qH (cs := [v]) rfl rfl rfl ag29 sz29 (fun j u hj => by rw [cQ]; exact o5.cell hj) (⟨_, _, _, rfl, o1, o8, gn, o7⟩)))
end LX5
namespace PF2
open B1 P1
theorem pl53 : (Tryz.prog.underlying 53).bind (placesD Tryz.prog) = some [(0, 1), (1, 1), (2, 1), (3, 1)] := by kernel_rfl
theorem nA {w : World} {G : Pin} {u v p : Value} {L : List Cl} {ns bs : List Nd} {x y : Nat} (hP : Pins G w) (hu : RSl eNode G u ns) (hv : RSl eNode G v bs) (hp : RSl eClaim G p L) (hga : GoodP ns) (hgb : GoodP bs) (hx : x < ns.length) (hy : y < bs.length) (hj : JustP ns bs L x y) :
  Calls Tryz.prog 62 [.agg #[u], .agg #[v], p, vJ (x : Int), vJ (y : Int)].toArray w fun e w' => ∃ (r l : Value) (G' : Pin), e = .returned (.agg #[.int .i64 (claimOf ns bs L x y).a, .int .i64 (claimOf ns bs L x y).b, r, l]) ∧ Own eInt 3 G' w' w.heap.size r (claimOf ns bs L x y).r ∧ Own eInt 3 G' w' w.heap.size l (claimOf ns bs L x y).l ∧ Apart r.ownBlock l.ownBlock ∧ Ext noS G w G' w' := by
 refine yA (n := 96) Tryz.func62 Tryz.ntmps62 rfl rfl ?_
 have ba := exr noS hP
 have hmu := hu.max
 have hmv := hv.max
 have hmp := hp.max
 have hlx := hga.lenr (i := x) (by omega)
 have hly := hgb.lenl (i := y) (by omega)
 refine w9d ?_
 refine qI rfl (xH [u] (v := .agg #[u]) rfl rfl ba.pins (fun b1 w2 gm di dj dk => ?_))
 have dl := ba.step dj dk
 have dm : w.heap.size ≤ b1 := by have := ba.size; omega
 obtain ⟨G9, ab, bb, ay, gp⟩ := di.shut dl dm
 refine qI rfl (xH [v] (v := .agg #[v]) rfl rfl bb.pins (fun au gq gr dn dp dq => ?_))
 have dr := bb.step dp dq
 have ds : w.heap.size ≤ au := by have := bb.size; omega
 obtain ⟨az, t, bc, a0, gs⟩ := dn.shut dr ds
 refine qI rfl (yN [vJ 0, vJ 0, vN, vN] zr53 rfl bc.pins (fun ac gt gu cc dt du => ?_))
 have bd := bc.step dt du
 have dv : w.heap.size ≤ ac := by have := bc.size; omega
 refine qe (w9a ?_)
 refine qM (vJ (x : Int)) ?_
 refine qM (vJ (y : Int)) ?_
 refine qI rfl (xD (E := eInt) (e := 3) dB sz3 bd.pins (fun ak dw dx dy cd dz => ?_))
 have be := bd.step dy cd
 have ce := cc.below cd
 have d0 := zF dz cc.lt
 have cf := dx.weaken bd.size
 refine qI rfl (xD (E := eInt) (e := 3) dB sz3 be.pins (fun aa d1 d2 d3 bf cg => ?_))
 have bg := be.step d3 bf
 have bh := cf.below bf
 have ch := ce.below bf
 have d4 := zL cg cf.lt
 have d5 := zF cg ce.lt
 have bi := d2.weaken be.size
 refine qD rfl (xQ [vJ 0, vJ 0, vN, vN] [vJ (x : Int), vJ (y : Int), ak, aa] [(0, (vJ (x : Int)), [vJ (x : Int)]), (1, (vJ (y : Int)), [vJ (y : Int)]), (2, ak, [ak]), (3, aa, [aa])] dD zr53 rfl pl53 rfl (cL.2 ⟨rfl, (cL.2 ⟨rfl, (cL.2 ⟨(xB bh.one), (cL.2 ⟨(xB bi.one), (fun _ h => by cases h)⟩)⟩)⟩)⟩) rfl) (qI rfl (yN [vJ 0, vJ 0, vN, vN] zr53 rfl bg.pins (fun ad gv bj d6 d7 a1 => ?_)))
 have ci := bg.step d7 a1
 have cj := bh.below a1
 have ck := bi.below a1
 have d8 := ch.below a1
 have cl := zL (cgA some bj) bh.lt
 have bk := zL (cgA some bj) bi.lt
 have bl := zF (cgA some bj) ch.lt
 have bm : w.heap.size ≤ ad := by have := bg.size; omega
 refine q0 rfl rfl rfl (o_stp (cs' := [vJ (x : Int), vJ (y : Int), ak, aa]) (us := [vJ (x : Int), vJ (y : Int), ak, aa]) (v := .agg #[vJ (x : Int), vJ (y : Int), ak, aa]) sz53 rfl rfl rfl (gO (by rfl) (by rfl) cj.one ck.one) ci.pins d6 (cD rfl) rfl (fun gw d9 ea a2 gx => ?_))
 have eb := ci.write ea a2 ((zW bm))
 have ec := cj.keptA a2 cl.symm
 have ed := ck.keptA a2 bk.symm
 have ee := d8.keptA a2 bl.symm
 refine qe (zA (w9b ?_))
 refine qM (vJ 0) ?_
 refine qe (zA ?_)
 refine zX (yO (fun k en W => ∃ (ae : Nat → Value) (i : Nat) (rv : Value) (rs : List Int) (GLi : Pin), en = (upd (upd (upd (upd (upd (upd (upd (upd ae 2 p) 3 (vJ (x : Int))) 4 (vJ (y : Int))) 5 (vP b1)) 6 (vP au)) 10 (vP ac)) 11 (vP ad)) 12 (vJ (i : Int))) ∧ k = (ns.getD x default).r.length - i ∧ Ext noS G w GLi W ∧ Pin.le az GLi ∧ (i ≤ (ns.getD x default).r.length) ∧ (rs = ((ns.getD x default).r.take i).map (fun r => lowL L (rightsP ns bs r y))) ∧ (Own eInt 3 GLi W w.heap.size rv (rs)) ∧ (Own eInt 3 GLi W w.heap.size aa ([])) ∧ (Bx GLi W ac [vJ 0, vJ 0, vN, vN]) ∧ (Bx GLi W ad [vJ (x : Int), vJ (y : Int), rv, aa]) ∧ (Apart rv.ownBlock aa.ownBlock) ∧ (Apart rv.ownBlock (some ac)) ∧ (Apart rv.ownBlock (some ad))) _ ⟨_, 0, ak, [], az, (pS 12 (pS 11 (pS 10 (pS 6 (pS 5 (pS 4 (pS 3 (pU 2)))))))), rfl, eb, cI _, cH _, rfl, ec, ed, ee, d9, d4.symm, d0, cl.symm⟩ ?_)
 rintro gy _ gz ⟨ae, i, rv, rs, GLi, rfl, g0, a3, g, hji, hrs, cm, cn, co, cp, bn, bo, bp⟩
 have hrsl : rs.length ≤ (ns.getD x default).r.length := by rw [hrs, List.length_map, List.length_take]; omega
 refine w9b ?_
 refine qM (vJ (i : Int)) ?_
 refine qD rfl (zK (k := 0) rfl dE rfl nz24 rfl) (qD rfl (zM (u := u) ag24 rfl ((cB a3.pins (cA t g)) _ _ _ (ay 0 _ rfl))) (qM (vJ (x : Int)) ?_))
 refine qD rfl (zI dC sz76 (v := u) rfl rfl hu (by omega) (by omega)) (qD rfl (yI (off := 1) dF rfl rfl nz40 (z := (x : Int)) (k := 0) rfl hu (by omega) (by omega)) ?_)
 obtain ⟨ef, cq, eg⟩ := qV (hu.at (z := (x : Int)) (by omega) (by omega)) (j := x) rfl
 have g1 := cq.max
 refine qD rfl (eg ag40 rfl (cB a3.pins (cA (cA ab t) g))) (qD rfl (run_len dB (v := ef) rfl cq) (qD rfl (yR rfl rfl) (qe (zA ?_))))
 refine yE (p := ((i : Int) : Int) < (((ns.getD x default).r).length : Int)) rfl rfl (fun eh => ?_) (fun eh => ?_)
 have hki := hga.optsOk.right (j := x) (i := i) (by omega) (by omega)
 have hloi := hj.r _ (xG (d := (0 : Int)) (show i < (ns.getD x default).r.length by omega))
 refine cM (zA (zB ?_))
 refine zX (w9d ?_)
 refine qM (vJ 0) ?_
 refine qe (zA (zB ?_))
 refine zX (yO (fun k en W => ∃ (ae : Nat → Value) (ni : Nat) (GNi : Pin), en = (upd (upd (upd (upd (upd (upd (upd (upd (upd ae 2 p) 3 (vJ (x : Int))) 4 (vJ (y : Int))) 5 (vP b1)) 6 (vP au)) 10 (vP ac)) 11 (vP ad)) 12 (vJ (i : Int))) 13 (vJ (ni : Int))) ∧ k = L.length - ni ∧ Ext noS G w GNi W ∧ Pin.le GLi GNi ∧ (∀ q, q < ni → prC (L.getD q default) ∉ rightsP ns bs ((ns.getD x default).r.getD i 0) y) ∧ (Own eInt 3 GNi W w.heap.size rv (rs)) ∧ (Own eInt 3 GNi W w.heap.size aa ([])) ∧ (Bx GNi W ac [vJ 0, vJ 0, vN, vN]) ∧ (Bx GNi W ad [vJ (x : Int), vJ (y : Int), rv, aa])) _ ⟨_, 0, GLi, (pS 13 (pS 12 (pS 11 (pS 10 (pS 6 (pS 5 (pS 4 (pS 3 (pU 2))))))))), rfl, a3, cI _, (fun i hi => absurd hi (cJ i)), cm, cn, co, cp⟩ ?_)
 rintro g2 _ bq ⟨ae, ni, GNi, rfl, g3, cr, ag, hmi, ei, ej, ek, el⟩
 have hnli := low_len hloi hmi
 refine zB (zB ?_)
 refine yQ (S := fun wz => Pins GNi wz) (last := 18) (by kernel_rfl) rfl ?_
 have an := bdr bq
 have em := cr.pins.below an
 have m := cr.step em an
 have eo := ei.below an
 have ep := ej.below an
 have eq := ek.below an
 have er := el.below an
 refine dT (i := 0) rfl rfl (by kernel_rfl) (fun _ hS => zR (cs := [u]) ag26 sz26 rfl (fun j u hj => (cB hS (cA (cA t g) ag)) _ _ _ (ay _ _ (by simpa using hj)))) m.pins ?_
 refine dT (i := 1) rfl rfl (by kernel_rfl) (fun _ hS => zR (cs := [v]) ag26 sz26 rfl (fun j u hj => (cB hS (cA g ag)) _ _ _ (a0 _ _ (by simpa using hj)))) m.pins ?_
 refine dT (i := 2) rfl rfl (by kernel_rfl) (fun _ _ => zK (k := 0) rfl dE rfl nz24 rfl) m.pins ?_
 refine dT (i := 3) rfl rfl (by kernel_rfl) (fun _ hS => zM (u := u) ag24 rfl ((cB hS (cA (cA t g) ag)) _ _ _ (ay 0 _ rfl))) m.pins ?_
 refine dM 4 (vJ (x : Int)) m.pins ?_
 refine dT (i := 5) rfl rfl (by kernel_rfl) (fun _ _ => zI dC sz76 (v := u) rfl rfl hu (by omega) (by omega)) m.pins ?_
 refine dT (i := 6) rfl rfl (by kernel_rfl) (fun _ _ => yI (off := 1) dF rfl rfl nz40 (z := (x : Int)) (k := 0) rfl hu (by omega) (by omega)) m.pins ?_
 obtain ⟨es, br, et⟩ := qV (hu.at (z := (x : Int)) (by omega) (by omega)) (j := x) rfl
 have g4 := br.max
 refine dT (i := 7) rfl rfl (by kernel_rfl) (fun _ hS => et ag40 rfl (cB hS (cA (cA (cA ab t) g) ag))) m.pins ?_
 refine dM 8 (vJ (i : Int)) m.pins ?_
 refine dT (i := 9) rfl rfl (by kernel_rfl) (fun _ _ => zI dB sz3 (v := es) rfl rfl br (by omega) (by omega)) m.pins ?_
 refine dT (i := 10) rfl rfl (by kernel_rfl) (fun _ hS => zN (r := ((ns.getD x default).r).getD i 0) rfl ag3 (z := (i : Int)) rfl br (cB hS (cA (cA (cA ab t) g) ag)) (by omega) (by omega)) m.pins ?_
 refine dM 11 p m.pins ?_
 refine dM 12 (vJ (ni : Int)) m.pins ?_
 refine dT (i := 13) rfl rfl (by kernel_rfl) (fun _ _ => zI dG sz53 (v := p) rfl rfl hp (by omega) (by omega)) m.pins ?_
 obtain ⟨g5, eu, ev, g6⟩ := xX (j := ni) default (hp.at (z := (ni : Int)) (by omega) (by omega)) rfl
 obtain ⟨ew, ex, rfl, ey, ez⟩ := eu
 have g7 := ey.max
 have g8 := ez.max
 refine dT (i := 14) rfl rfl (by kernel_rfl) (fun _ hS => ev ag53 sz53 rfl (cB hS (cA (cA (cA ab t) g) ag))) m.pins ?_
 refine dM 15 (vJ (y : Int)) m.pins ?_
 refine dP (i := 16) rfl rfl (zO (vs := [.agg #[u], .agg #[v], vJ (((ns.getD x default).r).getD i 0), .agg #[vJ ((L.getD ni default).a), vJ ((L.getD ni default).b), ew, ex], vJ (y : Int)]) Tryz.func53 nm53 rfl rfl rfl ?_)
 refine cC (fV (c := L.getD ni default) m.pins (hu.mono (cA (cA (cA ab t) g) ag)) (hv.mono (cA (cA (cA ab t) g) ag)) (by omega) (by omega)) ?_
 rintro _ g9 ⟨bt, rfl, ai⟩
 refine rt9 ?_
 have ao := m.tr ai
 have ct := eo.ext ai
 have cu := ep.ext ai
 have cv := eq.ext ai
 have bu := er.ext ai
 refine ⟨fun _ => (cB ao.pins ai.le), ?_⟩
 refine dT (i := 17) rfl rfl (by kernel_rfl) (fun _ _ => xM rfl) (cB ao.pins ai.le) ?_
 refine zY (by kernel_rfl) (zA (qQ rfl rfl (fun al => ?_) (fun al => ?_)))
 replace al := of_decide_eq_true al
 refine cO (zZ (yM (yL (zA (zC ?_)))))
 refine qD rfl (zK (k := 2) rfl dD rfl nz40 rfl) (qD rfl (zM (u := rv) ag40 rfl (bu.cell (o := 2) rfl)) (qM (vJ (ni : Int)) ?_))
 refine qI rfl (yX (E := eInt) (e := 3) [vJ (ni : Int)] [(ni : Int)] dB sz3 zr3 (by exact qG (by rfl)) (yF (by rfl)) rfl rfl rfl rfl (by decide) ao.pins (fun cw e0 e1 e2 av ha => ?_))
 have bv := ao.step e2 av
 have cx := ct.below av
 have cy := cu.below av
 have cz := cv.below av
 have c0 := bu.below av
 have e3 := e1.weaken ao.size
 refine qI rfl (oA (E := eInt) (v := rv) (u := cw) 8 dB ap3 (by decide) rfl rfl bv.pins cx e3.src (bv.size) (fun a4 hb bw e4 a5 bx => ?_))
 have c1 := bv.write e4 a5 ((yG cx))
 have e5 := cy.keptA a5 bn.symm
 have e6 := cz.keptA a5 bo.symm
 have e7 := c0.keptA a5 bp.symm
 have e8 := zJ bn.symm bx cy.lt
 have e9 := zP bo.symm bx cz.lt
 have c2 := zP bp.symm bx c0.lt
 have hc := la1 rs (ni : Int)
 refine qD rfl (zK (k := 2) rfl dD rfl nz40 rfl) (q0 rfl rfl rfl (o_stp (cs' := [vJ (x : Int), vJ (y : Int), a4, aa]) (us := [a4]) (v := a4) sz40 rfl rfl (vK bw.one) (yF bw.one) c1.pins e7 (cD rfl) rfl (fun hd fa fb a6 he => ?_)))
 have fc := c1.write fb a6 ((zW bm))
 have fd := e5.keptA a6 bk.symm
 have fe := bw.keptA a6 c2.symm
 have ff := e6.keptA a6 bl.symm
 refine qe (w9c ?_)
 refine qM (vJ (i : Int)) ?_
 refine qD rfl (yP rfl rfl (by omega)) (qM (vJ ((i : Int) + 1)) ?_)
 refine qe (yK (⟨_, ?_, _, rfl, _, i + 1, a4, rs ++ ([(ni : Int)]), bt, (pS 12 (pS 11 (pS 10 (pS 6 (pS 5 (pS 4 (pS 3 (pU 2)))))))), rfl, fc, (cA (cA g ag) ai.le), (by omega), (by rw [hrs, low_at hnli.1 al hmi]; exact kN (f := (fun r => lowL L (rightsP ns bs r y))) 0 (by omega)), fe, fd, ff, fa, e8.symm, e9.symm, c2.symm⟩))
 omega
 replace al := of_decide_eq_false al
 refine cM (zA (zX (zC (qM (vJ (ni : Int)) ?_))))
 refine qD rfl (yP rfl rfl (by omega)) (qM (vJ ((ni : Int) + 1)) ?_)
 refine qe (yD (yK (⟨_, ?_, _, rfl, _, ni + 1, bt, (pS 13 (pS 12 (pS 11 (pS 10 (pS 6 (pS 5 (pS 4 (pS 3 (pU 2))))))))), rfl, ao, (cA ag ai.le), (fun q hq => if h3 : q = ni then h3 ▸ al else hmi q (by omega)), ct, cu, cv, bu⟩)))
 omega
 refine cO (zZ (yM (yL (zA (w9b ?_)))))
 refine qM (vJ 0) ?_
 refine qe (zA ?_)
 refine zX (yO (fun k en W => ∃ (ae : Nat → Value) (j : Nat) (lv : Value) (ls : List Int) (GLj : Pin), en = (upd (upd (upd (upd (upd (upd (upd (upd ae 2 p) 3 (vJ (x : Int))) 4 (vJ (y : Int))) 5 (vP b1)) 6 (vP au)) 10 (vP ac)) 11 (vP ad)) 14 (vJ (j : Int))) ∧ k = (bs.getD y default).l.length - j ∧ Ext noS G w GLj W ∧ Pin.le GLi GLj ∧ (j ≤ (bs.getD y default).l.length) ∧ (ls = ((bs.getD y default).l.take j).map (fun r => lowL L (leftsP ns bs x r))) ∧ (Own eInt 3 GLj W w.heap.size lv (ls)) ∧ (Own eInt 3 GLj W w.heap.size rv (rs)) ∧ (Bx GLj W ac [vJ 0, vJ 0, vN, vN]) ∧ (Bx GLj W ad [vJ (x : Int), vJ (y : Int), rv, lv]) ∧ (Apart lv.ownBlock rv.ownBlock) ∧ (Apart lv.ownBlock (some ac)) ∧ (Apart lv.ownBlock (some ad))) _ ⟨_, 0, aa, [], GLi, (pS 14 (pS 11 (pS 10 (pS 6 (pS 5 (pS 4 (pS 3 (pU 2)))))))), rfl, a3, cI _, cH _, rfl, cn, cm, co, cp, bn.symm, d5, bk.symm⟩ ?_)
 rintro hf _ hg ⟨ae, j, lv, ls, GLj, rfl, hh, aw, af, hjj, hls, bz, b0, c3, c4, b2, b3, c5⟩
 have hlsl : ls.length ≤ (bs.getD y default).l.length := by rw [hls, List.length_map, List.length_take]; omega
 refine w9b ?_
 refine qM (vJ (j : Int)) ?_
 refine qD rfl (zK (k := 0) rfl dE rfl nz24 rfl) (qD rfl (zM (u := v) ag24 rfl ((cB aw.pins (cA g af)) _ _ _ (a0 0 _ rfl))) (qM (vJ (y : Int)) ?_))
 refine qD rfl (zI dC sz76 (v := v) rfl rfl hv (by omega) (by omega)) (qD rfl (yI (off := 0) dF rfl rfl nz40 (z := (y : Int)) (k := 0) rfl hv (by omega) (by omega)) ?_)
 obtain ⟨fg, c6, fh⟩ := jC (hv.at (z := (y : Int)) (by omega) (by omega)) (j := y) rfl
 have hk := c6.max
 refine qD rfl (fh ag40 rfl (cB aw.pins (cA (cA (cA ab t) g) af))) (qD rfl (run_len dB (v := fg) rfl c6) (qD rfl (yR rfl rfl) (qe (zA ?_))))
 refine yE (p := ((j : Int) : Int) < (((bs.getD y default).l).length : Int)) rfl rfl (fun fi => ?_) (fun fi => ?_)
 have hki := hgb.optsOk.left (j := y) (i := j) (by omega) (by omega)
 have hloj := hj.l _ (xG (d := (0 : Int)) (show j < (bs.getD y default).l.length by omega))
 refine cM (zA (zB ?_))
 refine zX (w9d ?_)
 refine qM (vJ 0) ?_
 refine qe (zA (zB ?_))
 refine zX (yO (fun k en W => ∃ (ae : Nat → Value) (nj : Nat) (GNj : Pin), en = (upd (upd (upd (upd (upd (upd (upd (upd (upd ae 2 p) 3 (vJ (x : Int))) 4 (vJ (y : Int))) 5 (vP b1)) 6 (vP au)) 10 (vP ac)) 11 (vP ad)) 14 (vJ (j : Int))) 15 (vJ (nj : Int))) ∧ k = L.length - nj ∧ Ext noS G w GNj W ∧ Pin.le GLj GNj ∧ (∀ q, q < nj → prC (L.getD q default) ∉ leftsP ns bs x ((bs.getD y default).l.getD j 0)) ∧ (Own eInt 3 GNj W w.heap.size lv (ls)) ∧ (Own eInt 3 GNj W w.heap.size rv (rs)) ∧ (Bx GNj W ac [vJ 0, vJ 0, vN, vN]) ∧ (Bx GNj W ad [vJ (x : Int), vJ (y : Int), rv, lv])) _ ⟨_, 0, GLj, (pS 15 (pS 14 (pS 11 (pS 10 (pS 6 (pS 5 (pS 4 (pS 3 (pU 2))))))))), rfl, aw, cI _, (fun i hi => absurd hi (cJ i)), bz, b0, c3, c4⟩ ?_)
 rintro hl _ b4 ⟨ae, nj, GNj, rfl, hm, c7, ah, hmj, fj, fk, fl, fm⟩
 have hnlj := low_len hloj hmj
 refine zB (zB ?_)
 refine yQ (S := fun wz => Pins GNj wz) (last := 18) (by kernel_rfl) rfl ?_
 have ap := bdr b4
 have fn := c7.pins.below ap
 have s := c7.step fn ap
 have fo := fj.below ap
 have fp := fk.below ap
 have fq := fl.below ap
 have fr := fm.below ap
 refine dT (i := 0) rfl rfl (by kernel_rfl) (fun _ hS => zR (cs := [u]) ag26 sz26 rfl (fun j u hj => (cB hS (cA (cA (cA t g) af) ah)) _ _ _ (ay _ _ (by simpa using hj)))) s.pins ?_
 refine dT (i := 1) rfl rfl (by kernel_rfl) (fun _ hS => zR (cs := [v]) ag26 sz26 rfl (fun j u hj => (cB hS (cA (cA g af) ah)) _ _ _ (a0 _ _ (by simpa using hj)))) s.pins ?_
 refine dT (i := 2) rfl rfl (by kernel_rfl) (fun _ _ => zK (k := 0) rfl dE rfl nz24 rfl) s.pins ?_
 refine dT (i := 3) rfl rfl (by kernel_rfl) (fun _ hS => zM (u := v) ag24 rfl ((cB hS (cA (cA g af) ah)) _ _ _ (a0 0 _ rfl))) s.pins ?_
 refine dM 4 (vJ (y : Int)) s.pins ?_
 refine dT (i := 5) rfl rfl (by kernel_rfl) (fun _ _ => zI dC sz76 (v := v) rfl rfl hv (by omega) (by omega)) s.pins ?_
 refine dT (i := 6) rfl rfl (by kernel_rfl) (fun _ _ => yI (off := 0) dF rfl rfl nz40 (z := (y : Int)) (k := 0) rfl hv (by omega) (by omega)) s.pins ?_
 obtain ⟨fs, b5, ft⟩ := jC (hv.at (z := (y : Int)) (by omega) (by omega)) (j := y) rfl
 have hn := b5.max
 refine dT (i := 7) rfl rfl (by kernel_rfl) (fun _ hS => ft ag40 rfl (cB hS (cA (cA (cA (cA ab t) g) af) ah))) s.pins ?_
 refine dM 8 (vJ (j : Int)) s.pins ?_
 refine dT (i := 9) rfl rfl (by kernel_rfl) (fun _ _ => zI dB sz3 (v := fs) rfl rfl b5 (by omega) (by omega)) s.pins ?_
 refine dT (i := 10) rfl rfl (by kernel_rfl) (fun _ hS => zN (r := ((bs.getD y default).l).getD j 0) rfl ag3 (z := (j : Int)) rfl b5 (cB hS (cA (cA (cA (cA ab t) g) af) ah)) (by omega) (by omega)) s.pins ?_
 refine dM 11 p s.pins ?_
 refine dM 12 (vJ (nj : Int)) s.pins ?_
 refine dT (i := 13) rfl rfl (by kernel_rfl) (fun _ _ => zI dG sz53 (v := p) rfl rfl hp (by omega) (by omega)) s.pins ?_
 obtain ⟨ho, fu, fv, hr⟩ := xX (j := nj) default (hp.at (z := (nj : Int)) (by omega) (by omega)) rfl
 obtain ⟨fw, fx, rfl, fy, fz⟩ := fu
 have hs := fy.max
 have ht := fz.max
 refine dT (i := 14) rfl rfl (by kernel_rfl) (fun _ hS => fv ag53 sz53 rfl (cB hS (cA (cA (cA (cA ab t) g) af) ah))) s.pins ?_
 refine dM 15 (vJ (x : Int)) s.pins ?_
 refine dP (i := 16) rfl rfl (zO (vs := [.agg #[u], .agg #[v], vJ (((bs.getD y default).l).getD j 0), .agg #[vJ ((L.getD nj default).a), vJ ((L.getD nj default).b), fw, fx], vJ (x : Int)]) Tryz.func54 nm54 rfl rfl rfl ?_)
 refine cC (gP (c := L.getD nj default) s.pins (hu.mono (cA (cA (cA (cA ab t) g) af) ah)) (hv.mono (cA (cA (cA (cA ab t) g) af) ah)) (by omega) (by omega)) ?_
 rintro _ hw ⟨b6, rfl, aj⟩
 refine rt9 ?_
 have aq := s.tr aj
 have c8 := fo.ext aj
 have c9 := fp.ext aj
 have da := fq.ext aj
 have b7 := fr.ext aj
 refine ⟨fun _ => (cB aq.pins aj.le), ?_⟩
 refine dT (i := 17) rfl rfl (by kernel_rfl) (fun _ _ => xM rfl) (cB aq.pins aj.le) ?_
 refine zY (by kernel_rfl) (zA (qQ rfl rfl (fun am => ?_) (fun am => ?_)))
 replace am := of_decide_eq_true am
 refine cO (zZ (yM (yL (zA (zC ?_)))))
 refine qD rfl (zK (k := 3) rfl dD rfl nz40 rfl) (qD rfl (zM (u := lv) ag40 rfl (b7.cell (o := 3) rfl)) (qM (vJ (nj : Int)) ?_))
 refine qI rfl (yX (E := eInt) (e := 3) [vJ (nj : Int)] [(nj : Int)] dB sz3 zr3 (by exact qG (by rfl)) (yF (by rfl)) rfl rfl rfl rfl (by decide) aq.pins (fun db f0 f1 f2 ax hz => ?_))
 have b8 := aq.step f2 ax
 have dc := c8.below ax
 have dd := c9.below ax
 have de := da.below ax
 have df := b7.below ax
 have f3 := f1.weaken aq.size
 refine qI rfl (oA (E := eInt) (v := lv) (u := db) 8 dB ap3 (by decide) rfl rfl b8.pins dc f3.src (b8.size) (fun a7 h0 b9 f4 a8 ca => ?_))
 have dg := b8.write f4 a8 ((yG dc))
 have f5 := dd.keptA a8 b2.symm
 have f6 := de.keptA a8 b3.symm
 have f7 := df.keptA a8 c5.symm
 have f8 := zJ b2.symm ca dd.lt
 have f9 := zP b3.symm ca de.lt
 have dh := zP c5.symm ca df.lt
 have h1 := la1 ls (nj : Int)
 refine qD rfl (zK (k := 3) rfl dD rfl nz40 rfl) (q0 rfl rfl rfl (o_stp (cs' := [vJ (x : Int), vJ (y : Int), rv, a7]) (us := [a7]) (v := a7) sz40 rfl rfl (vK b9.one) (yF b9.one) dg.pins f7 (cD rfl) rfl (fun h2 ga gb a9 h4 => ?_)))
 have gc := dg.write gb a9 ((zW bm))
 have gd := f5.keptA a9 bp
 have ge := b9.keptA a9 dh.symm
 have gf := f6.keptA a9 bl.symm
 refine qe (w9c ?_)
 refine qM (vJ (j : Int)) ?_
 refine qD rfl (yP rfl rfl (by omega)) (qM (vJ ((j : Int) + 1)) ?_)
 refine qe (yK (⟨_, ?_, _, rfl, _, j + 1, a7, ls ++ ([(nj : Int)]), b6, (pS 14 (pS 11 (pS 10 (pS 6 (pS 5 (pS 4 (pS 3 (pU 2)))))))), rfl, gc, (cA (cA af ah) aj.le), (by omega), (by rw [hls, low_at hnlj.1 am hmj]; exact kN (f := (fun r => lowL L (leftsP ns bs x r))) 0 (by omega)), ge, gd, gf, ga, f8.symm, f9.symm, dh.symm⟩))
 omega
 replace am := of_decide_eq_false am
 refine cM (zA (zX (zC (qM (vJ (nj : Int)) ?_))))
 refine qD rfl (yP rfl rfl (by omega)) (qM (vJ ((nj : Int) + 1)) ?_)
 refine qe (yD (yK (⟨_, ?_, _, rfl, _, nj + 1, b6, (pS 15 (pS 14 (pS 11 (pS 10 (pS 6 (pS 5 (pS 4 (pS 3 (pU 2))))))))), rfl, aq, (cA ah aj.le), (fun q hq => if h3 : q = nj then h3 ▸ am else hmj q (by omega)), c8, c9, da, b7⟩)))
 omega
 refine cO (zZ (yM (yL (w9a ?_))))
 refine qD rfl (zR (cs := [vJ (x : Int), vJ (y : Int), rv, lv]) ag53 sz53 rfl (fun j u hj => c4.cell (by simpa using hj))) (q0 rfl rfl rfl (o_stp (cs' := [vJ (x : Int), vJ (y : Int), rv, lv]) (us := [vJ (x : Int), vJ (y : Int), rv, lv]) (v := .agg #[vJ (x : Int), vJ (y : Int), rv, lv]) sz53 rfl rfl rfl (gO (by rfl) (by rfl) b0.one bz.one) aw.pins c3 (cD rfl) rfl (fun h5 gg gh cb h6 => ?_)))
 have gi := aw.write gh cb ((zW dv))
 have gj := bz.keptA cb b3
 have gk := b0.keptA cb bo
 refine qe (zA ?_)
 refine cN (zQ (qH (cs := [vJ (x : Int), vJ (y : Int), rv, lv]) rfl rfl rfl ag53 sz53 (fun j u hj => by rw [cQ]; exact gg.cell hj) ?_))
 rw [qZ (by omega)] at hrs hls
 exact ⟨_, _, _, rfl, (by rw [show (claimOf ns bs L x y).r = rs from hrs.symm]; exact gk), (by rw [show (claimOf ns bs L x y).l = ls from hls.symm]; exact gj), b2.symm, gi⟩
end PF2
namespace PF3
open B1 C1 D1 E1 OR1 SF1 P1 PF2
theorem pl92 : (Tryz.prog.underlying 92).bind (placesD Tryz.prog) = some [(0, 1), (1, 1)] := by kernel_rfl
theorem sG {w : World} {G : Pin} {u v : Value} {ns bs : List Nd} (hP : Pins G w) (hu : RSl eNode G u ns) (hv : RSl eNode G v bs) (hga : GoodP ns) (hgb : GoodP bs) :
  Calls Tryz.prog 32 [.agg #[u], .agg #[v]].toArray w fun e w' => ∃ (r : Value) (G' : Pin), e = .returned r ∧ RSl eClaim G' r (fullL ns bs) ∧ Ext noS G w G' w' := by
 refine yA (n := 57) Tryz.func32 Tryz.ntmps32 rfl rfl ?_
 have bo := exr noS hP
 have hmu := hu.max
 have hmv := hv.max
 have hla := hga.lo
 have hlb := hgb.lo
 have hha := hga.hi
 have hhb := hgb.hi
 have hpb := pair_book (qS hga) (qS hgb) (by omega)
 have e1 := hpb.ok1.len
 have e2 := hpb.ok2.len
 have e3 := hpb.ok1.hi
 simp only [List.length_nil, cQ] at e3
 refine w9d ?_
 refine qI rfl (xH [u] (v := .agg #[u]) rfl rfl bo.pins (fun b1 w2 ha dp dq dr => ?_))
 have ds := bo.step dq dr
 have dt : w.heap.size ≤ b1 := by have := bo.size; omega
 obtain ⟨G9, a9, bq, br, hc⟩ := dp.shut ds dt
 refine qI rfl (xH [v] (v := .agg #[v]) rfl rfl bq.pins (fun bt hd he du dv dw => ?_))
 have dx := bq.step dv dw
 have dy : w.heap.size ≤ bt := by have := bq.size; omega
 obtain ⟨dz, ah, bu, bv, hf⟩ := du.shut dx dy
 refine qM vN ?_
 refine qe (w9a ?_)
 refine qD rfl (xQ [vN, vN] [vN, vN] [] dJ zr92 rfl pl92 rfl (fun _ h => by cases h) rfl) (qI rfl (xH [vN, vN] (v := .agg #[vN, vN]) rfl rfl bu.pins (fun f bw hg d0 d1 d2 => ?_)))
 have ce := bu.step d1 d2
 have cf : w.heap.size ≤ f := by have := bu.size; omega
 refine qM (vP f) ?_
 refine qe (zA (zB ?_))
 refine yQ (S := fun wz => Pins dz wz) (last := 8) (by kernel_rfl) rfl ?_
 have bz := bdr bw
 have d3 := ce.pins.below bz
 have ae := ce.step d3 bz
 have d4 := d0.below bz
 refine dM 0 (vP f) ae.pins ?_
 refine dT (i := 1) rfl rfl (by kernel_rfl) (fun _ hS => zR (cs := [u]) ag26 sz26 rfl (fun j u hj => (cB hS ah) _ _ _ (br _ _ (by simpa using hj)))) ae.pins ?_
 refine dM 3 (vP f) ae.pins ?_
 refine dT (i := 4) rfl rfl (by kernel_rfl) (fun _ hS => zR (cs := [v]) ag26 sz26 rfl (fun j u hj => hS _ _ _ (bv _ _ (by simpa using hj)))) ae.pins ?_
 refine dP (i := 2) rfl rfl (zO (vs := [vP f, .agg #[u]]) Tryz.func61 nm61 rfl rfl rfl ?_)
 refine cC (mU ae.pins ⟨d4, (Own.nil _ _ _ _ _), (Own.nil _ _ _ _ _), apart_none.symm, apart_none.symm, apart_none⟩ qO (hu.mono (cA a9 ah)) (qS hga) (by first | omega | (simp; omega))) ?_
 rintro _ hh ⟨az, d5, d6, hk, rfl, cg, ao, m, d7, d8⟩
 refine rt9 ?_
 have b0 : ∀ i, inS f vN vN i → w.heap.size ≤ i ∨ noS i := kE (zW cf) (vZ _ _) (vZ _ _)
 have a0 := ae.trans m b0
 have d9 := ao.bx
 have ea := ao.ou
 have eb := ao.ov
 have ec := ao.abu
 have ed := ao.abv
 have ee := ao.auv
 have ef := xU d7 b0 ae.size
 have eg := xU d8 b0 ae.size
 refine ⟨fun _ => (cB a0.pins m.le), ?_⟩
 refine dP (i := 5) rfl rfl (zO (vs := [vP f, .agg #[v]]) Tryz.func61 nm61 rfl rfl rfl ?_)
 refine cC (mU a0.pins ⟨d9, ea, eb, ec, ed, ee⟩ hpb.ok1.book (hv.mono (cA (cA a9 ah) m.le)) (qS hgb) (by first | omega | (simp; omega))) ?_
 rintro _ hl ⟨a1, ap, aq, hm, rfl, ch, ar, q, eh, ei⟩
 refine rt9 ?_
 have b2 : ∀ i, inS f d5 d6 i → w.heap.size ≤ i ∨ noS i := kE (zW cf) ef eg
 have ai := a0.trans q b2
 have b3 := ar.bx
 have b4 := ar.ou
 have b5 := ar.ov
 have ci := ar.abu
 have cj := ar.abv
 have ck := ar.auv
 have hn := xU eh b2 a0.size
 have ho := xU ei b2 a0.size
 refine ⟨fun _ => (cB ai.pins (cA m.le q.le)), ?_⟩
 refine dM 6 az (cB ai.pins (cA m.le q.le)) ?_
 refine dM 7 a1 (cB ai.pins (cA m.le q.le)) ?_
 refine zY (by kernel_rfl) (w9a ?_)
 refine qM (vP f) ?_
 refine qI rfl (zO (vs := [vP f]) Tryz.func58 nm58 rfl rfl rfl ?_)
 refine cC (nU ai.pins ⟨b3, b4, b5, ci, cj, ck⟩ hpb.ok2.book) ?_
 rintro _ hp ⟨ab, aj, b6, rfl, cl, ba, ej, cm, o⟩
 refine rt9 ?_
 have b7 := ai.tr o
 have cn := b4.ext o
 have co := b5.ext o
 have cp := b3.ext o
 have cq := zT ba.lt b4.lt
 have cr := zT ba.lt b5.lt
 have ct := zV ba.lt b3.lt
 have hq := cP ai.size ej
 have cu := ba.weaken ai.size
 refine qM (vP ab) ?_
 refine qe (w9a ?_)
 refine qI rfl (xD (E := eClaim) (e := 53) dG sz53 b7.pins (fun b8 ek el em au a2 => ?_))
 have eo := b7.step em au
 have ep := cn.below au
 have eq := co.below au
 have cv := cu.below au
 have er := cp.below au
 have es := cl.below au
 have et := zL a2 cn.lt
 have eu := zL a2 co.lt
 have ev := zL a2 cu.lt
 have ew := zF a2 cp.lt
 have ex := zF a2 cl.lt
 have ey := el.weaken b7.size
 refine qM b8 ?_
 refine qe (zA (w9b ?_))
 refine qM (vJ 0) ?_
 refine qe (zA ?_)
 refine zX ?_
 have hlok : Lo w noS aj.ownBlock := (yG cv)
 refine yO (fun k en W => ∃ (a3 : Nat → Value) (i : Nat) (ov : Value) (os : List Cl) (kq : List Int) (s : Pin), en = (upd (upd (upd (upd (upd (upd (upd (upd a3 2 (vP b1)) 3 (vP bt)) 4 vN) 6 az) 7 a1) 8 (vP ab)) 9 ov) 10 (vJ (i : Int))) ∧ k = ns.length - i ∧ Ext noS G w s W ∧ Pin.le b6 s ∧ (i ≤ ns.length) ∧ (os = rowL ns bs i) ∧ (KAll _ kq) ∧ (Own eClaim 53 s W w.heap.size ov (os)) ∧ (Own eInt 3 s W 0 aj (kq)) ∧ (Own eNode 76 s W 0 ap ((addM ((addM ([]) ([]) ns).2.1) ((addM ([]) ([]) ns).2.2) bs).2.1)) ∧ (Own eInt 3 s W 0 aq ((addM ((addM ([]) ([]) ns).2.1) ((addM ([]) ([]) ns).2.2) bs).2.2)) ∧ (Bx s W f [ap, aq]) ∧ (Bx s W ab [vP f, aj]) ∧ (Apart ov.ownBlock aj.ownBlock) ∧ (Apart ov.ownBlock ap.ownBlock) ∧ (Apart ov.ownBlock aq.ownBlock) ∧ (Apart ov.ownBlock (some f)) ∧ (Apart ov.ownBlock (some ab))) _ ⟨_, 0, b8, [], List.replicate (((addM ((addM ([]) ([]) ns).2.1) ((addM ([]) ([]) ns).2.2) bs).2.1).length * ((addM ((addM ([]) ([]) ns).2.1) ((addM ([]) ([]) ns).2.2) bs).2.1).length) 0, b6, (pS 10 (pS 9 (pS 8 (pS 7 (pS 6 (pS 4 (pS 3 (pU 2)))))))), rfl, eo, cI _, cH _, rfl, KAll.zero, ey, (cv.weaken (cH _)), ep, eq, er, es, ev, et, eu, ew, ex⟩ ?_
 rintro hr _ hs ⟨a3, i, ov, os, kq, s, rfl, ht, b9, ac, hi, hos, ez, cw, e0, e4, e5, e6, e7, e8, e9, fa, fb, fc⟩
 refine w9b ?_
 refine qM (vJ (i : Int)) ?_
 refine qD rfl (zK (k := 0) rfl dE rfl nz24 rfl) (qD rfl (zM (u := u) ag24 rfl ((cB b9.pins (cA (cA (cA (cA ah m.le) q.le) o.le) ac)) _ _ _ (br 0 _ rfl))) (qD rfl (run_len dC (v := u) rfl hu) (qD rfl (yR rfl rfl) (qe (zA ?_)))))
 refine yE (p := ((i : Int) : Int) < (ns.length : Int)) rfl rfl (fun fd => ?_) (fun fd => ?_)
 refine cM (zA (zB ?_))
 refine zX (w9d ?_)
 refine qM (vJ 0) ?_
 refine qe (zA ?_)
 refine zX (yO (fun k en W => ∃ (a3 : Nat → Value) (j : Nat) (d : Value) (c : List Cl) (bb : List Int) (t : Pin), en = (upd (upd (upd (upd (upd (upd (upd (upd (upd a3 2 (vP b1)) 3 (vP bt)) 4 vN) 6 az) 7 a1) 8 (vP ab)) 9 d) 10 (vJ (i : Int))) 11 (vJ (j : Int))) ∧ k = bs.length - j ∧ Ext noS G w t W ∧ Pin.le s t ∧ (j ≤ bs.length) ∧ (c = colL ns bs (rowL ns bs i) i j) ∧ (KAll _ bb) ∧ (Own eClaim 53 t W w.heap.size d (c)) ∧ (Own eInt 3 t W 0 aj (bb)) ∧ (Own eNode 76 t W 0 ap ((addM ((addM ([]) ([]) ns).2.1) ((addM ([]) ([]) ns).2.2) bs).2.1)) ∧ (Own eInt 3 t W 0 aq ((addM ((addM ([]) ([]) ns).2.1) ((addM ([]) ([]) ns).2.2) bs).2.2)) ∧ (Bx t W f [ap, aq]) ∧ (Bx t W ab [vP f, aj]) ∧ (Apart d.ownBlock aj.ownBlock) ∧ (Apart d.ownBlock ap.ownBlock) ∧ (Apart d.ownBlock aq.ownBlock) ∧ (Apart d.ownBlock (some f)) ∧ (Apart d.ownBlock (some ab))) _ ⟨_, 0, ov, os, kq, s, (pS 11 (pS 10 (pS 9 (pS 8 (pS 7 (pS 6 (pS 4 (pS 3 (pU 2))))))))), rfl, b9, cI _, cH _, hos, ez, cw, e0, e4, e5, e6, e7, e8, e9, fa, fb, fc⟩ ?_)
 rintro hw _ ca ⟨a3, j, d, c, bb, t, rfl, hx, bc, aa, hj, a4, bd, cx, cy, cz, c0, c1, c2, a5, be, bf, bg, bh⟩
 refine w9b ?_
 refine qM (vJ (j : Int)) ?_
 refine qD rfl (zK (k := 0) rfl dE rfl nz24 rfl) (qD rfl (zM (u := v) ag24 rfl ((cB bc.pins (cA (cA (cA (cA m.le q.le) o.le) ac) aa)) _ _ _ (bv 0 _ rfl))) (qD rfl (run_len dC (v := v) rfl hv) (qD rfl (yR rfl rfl) (qe (zA ?_)))))
 refine yE (p := ((j : Int) : Int) < (bs.length : Int)) rfl rfl (fun fe => ?_) (fun fe => ?_)
 have hT := trueAt hga.optsOk hgb.optsOk (x := i) (k := j) (by omega) (by omega)
 have hcb := col_bound hga.hi hgb.hi (x := i) (k := j) (by omega) (by omega)
 rw [← a4] at hT hcb
 refine cM (zA (zB ?_))
 refine zX (zB (yQ (S := fun wz => Pins t wz) (last := 10) (by kernel_rfl) rfl ?_))
 have af := bdr ca
 have ff := bc.pins.below af
 have y := bc.step ff af
 have fg := cx.below af
 have fh := cy.below af
 have c3 := cz.below af
 have c4 := c0.below af
 have c5 := c1.below af
 have c6 := c2.below af
 refine dM 0 (vP ab) y.pins ?_
 refine dM 1 az y.pins ?_
 refine dM 2 (vJ (i : Int)) y.pins ?_
 refine dT (i := 3) rfl rfl (by kernel_rfl) (fun _ _ => zI dB sz3 (v := az) rfl rfl cg (by omega) (by omega)) y.pins ?_
 refine dT (i := 4) rfl rfl (by kernel_rfl) (fun _ hS => zN (r := ((addM ([]) ([]) ns).1).getD i 0) rfl ag3 (z := (i : Int)) rfl cg (cB hS (cA (cA (cA q.le o.le) ac) aa)) (by omega) (by omega)) y.pins ?_
 refine dM 5 a1 y.pins ?_
 refine dM 6 (vJ (j : Int)) y.pins ?_
 refine dT (i := 7) rfl rfl (by kernel_rfl) (fun _ _ => zI dB sz3 (v := a1) rfl rfl ch (by omega) (by omega)) y.pins ?_
 refine dT (i := 8) rfl rfl (by kernel_rfl) (fun _ hS => zN (r := ((addM ((addM ([]) ([]) ns).2.1) ((addM ([]) ([]) ns).2.2) bs).1).getD j 0) rfl ag3 (z := (j : Int)) rfl ch (cB hS (cA (cA o.le ac) aa)) (by omega) (by omega)) y.pins ?_
 refine dP (i := 9) rfl rfl (zO (vs := [vP ab, vJ (((addM ([]) ([]) ns).1).getD i 0), vJ (((addM ((addM ([]) ([]) ns).2.1) ((addM ([]) ([]) ns).2.2) bs).1).getD j 0)]) Tryz.func59 nm59 rfl rfl rfl ?_)
 refine cC (geq_spec y.pins ⟨⟨c5, c3, c4, ci, cj, ck⟩, c6, fh, cm, ct.symm, cq.symm, cr.symm⟩ (hpb.p1 _ (by omega)) (hpb.p2 _ (by omega)) bd.1 hpb.ok2.book (bd.2 _)) ?_
 rintro _ c7 ⟨c8, a6, rfl, bi, c9, g⟩
 refine rt9 ?_
 have ad := y.trans g (fun i hi => hlok i hi)
 have a7 := fg.extS g (notO a5)
 have bj := c3.extS g (notO cq.symm)
 have bk := c4.extS g (notO cr.symm)
 have bl := c5.extS g (yZ ct.symm)
 have bm := c6.extS g (yZ cm)
 have hy := c9.len
 have da := KAll.res bd c9
 refine ⟨fun _ => (cB ad.pins g.le), ?_⟩
 refine zY (by kernel_rfl) (zA (c_if rfl rfl (fun bn => ?_) (fun bn => ?_)))
 refine zC ?_
 have hjp := (hT.just hga.optsOk hgb.optsOk (by omega) (by omega)).2 ((hpb.ge i j (by omega) (by omega)).symm.trans bn)
 refine qM d ?_
 refine qD rfl (zR (cs := [u]) ag26 sz26 rfl (fun j u hj => (cB ad.pins (cA (cA (cA (cA (cA (cA ah m.le) q.le) o.le) ac) aa) g.le)) _ _ _ (br _ _ (by simpa using hj)))) (qD rfl (zR (cs := [v]) ag26 sz26 rfl (fun j u hj => (cB ad.pins (cA (cA (cA (cA (cA m.le q.le) o.le) ac) aa) g.le)) _ _ _ (bv _ _ (by simpa using hj)))) (qM d ?_))
 refine qM (vJ (i : Int)) ?_
 refine qM (vJ (j : Int)) ?_
 refine qI rfl (zO (vs := [.agg #[u], .agg #[v], d, vJ (i : Int), vJ (j : Int)]) Tryz.func62 nm62 rfl rfl rfl ?_)
 refine cC (nA (cK ad.pins d) ((hu.mono (cA (cA (cA (cA (cA (cA (cA a9 ah) m.le) q.le) o.le) ac) aa) g.le)).mono (Gadd.le _ _ _)) ((hv.mono (cA (cA (cA (cA (cA (cA (cA a9 ah) m.le) q.le) o.le) ac) aa) g.le)).mono (Gadd.le _ _ _)) a7.read hga hgb (by omega) (by omega) hjp) ?_
 rintro _ db ⟨dc, dd, hz, rfl, fi, fj, fk, cb⟩
 refine rt9 ?_
 have ag := tQ ad.pins cb
 have ak := fi.anti gZ (cA (Gadd.le a6 c7 d) cb.le)
 have al := fj.anti gZ (cA (Gadd.le a6 c7 d) cb.le)
 have fl := ad.step ag.pins ag.below
 have fm := a7.below ag.below
 have fn := bi.ok.below ag.below
 have fo := bj.below ag.below
 have fp := bk.below ag.below
 have fq := bl.below ag.below
 have fr := bm.below ag.below
 have fs := zT ak.lt a7.lt
 have ft := zT ak.lt bi.ok.lt
 have fu := zT ak.lt bj.lt
 have fv := zT ak.lt bk.lt
 have fw := zV ak.lt bl.lt
 have fx := zV ak.lt bm.lt
 have fy := ak.weaken ad.size
 have fz := zT al.lt a7.lt
 have f0 := zT al.lt bi.ok.lt
 have f1 := zT al.lt bj.lt
 have f2 := zT al.lt bk.lt
 have f3 := zV al.lt bl.lt
 have f4 := zV al.lt bm.lt
 have f5 := al.weaken ad.size
 obtain ⟨h0, av, f6, f7, am⟩ := fy.sealed fl
 have f8 := fm.moreO av am fs.symm
 have f9 := fn.moreO av am ft.symm
 have ga := fo.moreO av am fu.symm
 have gb := fp.moreO av am fv.symm
 have gc := f5.moreO av am fk.symm
 have gd := fq.moreO am fw.symm
 have gf := fr.moreO am fx.symm
 obtain ⟨de, aw, cc, gg, ax⟩ := gc.sealed f6
 have gh := f8.moreO aw ax fz.symm
 have gi := f9.moreO aw ax f0.symm
 have gj := ga.moreO aw ax f1.symm
 have gk := gb.moreO aw ax f2.symm
 have gl := gd.moreO ax f3.symm
 have gm := gf.moreO ax f4.symm
 refine qI rfl (xF (E := eClaim) (e := 53) [vJ ((claimOf ns bs c i j).a), vJ ((claimOf ns bs c i j).b), dc, dd] (⟨(claimOf ns bs c i j).a, (claimOf ns bs c i j).b, (claimOf ns bs c i j).r, (claimOf ns bs c i j).l⟩ : Cl) dG sz53 zr53 ⟨_, _, rfl, (f7.mono aw), gg⟩ rfl (by decide) cc.pins (fun df gn gp gq an h1 => ?_))
 have cd := cc.step gq an
 have dg := gh.below an
 have dh := gi.below an
 have di := gj.below an
 have dj := gk.below an
 have dk := gl.below an
 have dl := gm.below an
 have gr := gp.weaken cc.size
 refine qI rfl (oA (E := eClaim) (v := d) (u := df) 64 dG ap53 (by decide) rfl rfl cd.pins dg gr.src (cd.size) (fun dm h2 gs gt ay a8 => ?_))
 have gu := cd.write gt ay ((yG dg))
 have gv := dh.keptA ay a5.symm
 have gw := di.keptA ay be.symm
 have gx := dj.keptA ay bf.symm
 have gy := dk.keptA ay bg.symm
 have gz := dl.keptA ay bh.symm
 have g0 := zJ a5.symm a8 dh.lt
 have g1 := zJ be.symm a8 di.lt
 have g2 := zJ bf.symm a8 dj.lt
 have g3 := zP bg.symm a8 dk.lt
 have g4 := zP bh.symm a8 dl.lt
 have h3 := la1 c (⟨(claimOf ns bs c i j).a, (claimOf ns bs c i j).b, (claimOf ns bs c i j).r, (claimOf ns bs c i j).l⟩ : Cl)
 refine qM dm ?_
 refine qe (w9c ?_)
 refine qM (vJ (j : Int)) ?_
 refine qD rfl (yP rfl rfl (by omega)) (qM (vJ ((j : Int) + 1)) ?_)
 refine qe (yK (⟨_, ?_, _, rfl, _, j + 1, dm, c ++ ([(⟨(claimOf ns bs c i j).a, (claimOf ns bs c i j).b, (claimOf ns bs c i j).r, (claimOf ns bs c i j).l⟩ : Cl)]), c8, de, (pS 11 (pS 10 (pS 9 (pS 8 (pS 7 (pS 6 (pS 4 (pS 3 (pU 2))))))))), rfl, gu, (cA (cA (cA aa g.le) av) aw), (by omega), (next_y a4 ((hpb.ge i j (by omega) (by omega)).symm.trans bn)), da, gs, gv, gw, gx, gy, gz, g0.symm, g1.symm, g2.symm, g3.symm, g4.symm⟩))
 omega
 refine cM (w9c ?_)
 refine qM (vJ (j : Int)) ?_
 refine qD rfl (yP rfl rfl (by omega)) (qM (vJ ((j : Int) + 1)) ?_)
 refine qe (yK (⟨_, ?_, _, rfl, _, j + 1, d, c, c8, a6, (pS 11 (pS 10 (pS 9 (pS 8 (pS 7 (pS 6 (pS 4 (pS 3 (pU 2))))))))), rfl, ad, (cA aa g.le), (by omega), (next_n a4 ((hpb.ge i j (by omega) (by omega)).symm.trans bn)), da, a7, bi.ok, bj, bk, bl, bm, a5, be, bf, bg, bh⟩))
 omega
 refine cO (zZ (yM (yL (w9c ?_))))
 refine qM (vJ (i : Int)) ?_
 refine qD rfl (yP rfl rfl (by omega)) (qM (vJ ((i : Int) + 1)) ?_)
 refine qe (yK ?_)
 have hjn : j = bs.length := by omega
 rw [hjn] at a4
 refine ⟨_, ?_, _, rfl, _, i + 1, d, c, bb, t, (pS 10 (pS 9 (pS 8 (pS 7 (pS 6 (pS 4 (pS 3 (pU 2)))))))), rfl, bc, (cA ac aa), (by omega), a4, bd, cx, cy, cz, c0, c1, c2, a5, be, bf, bg, bh⟩
 omega
 refine cO (zZ (yM (yL (w9a ?_))))
 refine qM ov ?_
 refine qM ov ?_
 refine qe (zA ?_)
 refine cN (zQ (zS (v := ov) rfl rfl rfl ?_))
 obtain ⟨h4, h5, g5, g6, h6⟩ := cw.sealed b9
 have hin : i = ns.length := by omega
 rw [hin] at hos
 exact ⟨_, _, rfl, (by rw [show fullL ns bs = os from hos.symm]; exact g6), g5⟩
end PF3
namespace LX3
open B1 C1 D1 E1
theorem mk3 : (Tryz.prog.info? 3).map (fun i => (i.size, i.bytes, i.zero)) = some (1, 8, some (.int .i64 0)) := by kernel_rfl
theorem mk4 : (Tryz.prog.info? 4).map (fun i => (i.size, i.bytes, i.zero)) = some (1, 1, some (.bool false)) := by kernel_rfl
theorem pl53 : (Tryz.prog.underlying 53).bind (placesD Tryz.prog) = some [(0, 1), (1, 1), (2, 1), (3, 1)] := by kernel_rfl
theorem sH {w : World} {G : Pin} {p : Value} {L : List Cl} (hP : Pins G w) (hp : RSl eClaim G p L) (hL : LOk L) :
  Calls Tryz.prog 31 #[p] w fun e w' => ∃ (u : Value) (G' : Pin), e = .returned u ∧ DPrf 53 3 G' w' w.heap.size w'.heap.size u (cutL L) ∧ Ext noS G w G' w' := by
 refine yA (n := 125) Tryz.func31 Tryz.ntmps31 rfl rfl ?_
 have bd := exr noS hP
 have b2 : Lvs 3 G w w.heap.size w.heap.size [] := Lvs.nil
 have hLp := hL.pos
 have hLh := hL.hi
 have hrl : (List.replicate L.length false).length = L.length := by simp
 refine w9d ?_
 refine qM vN ?_
 refine qe (w9a ?_)
 refine qM p ?_
 refine qD rfl (run_len dG (v := p) rfl hp) (qI rfl (fG (E := eBool) false 1 (.bool false) dR mk4 (fun _ => rfl) rfl rfl bd.pins (by omega) (by omega) (by omega) (fun d w2 c1 c2 b3 c3 => ?_)))
 have b4 := bd.step c2 b3
 have c4 := (b2.below b3).top
 have b5 : ApL [] d.ownBlock := ApL.fresh b2 (fun k hk => by rw [c3] at hk; cases hk; exact cG _)
 have be : Own eBool 4 G w2 w.heap.size d (List.replicate L.length false) := c1.weaken bd.size
 have gc : (List.replicate L.length false).length = L.length := List.length_replicate ..
 refine qM d ?_
 refine qe (w9a ?_)
 refine qM d ?_
 refine qM p ?_
 refine qD rfl (run_len dG (v := p) rfl hp) (qD rfl (xR rfl rfl (by omega)) (qD rfl (zI dR sz4 (v := d) rfl rfl be.read (by omega) (by omega)) (q0 rfl rfl rfl (jL (E := eBool) (v := d) (u := .bool true) (z := (L.length : Int) - 1) (true) sz4 rfl rfl rfl rfl b4.pins be (by omega) (by omega) (fun gd c5 c6 b6 ge => ?_)))))
 have c7 := b4.write c6 b6 ((yG be))
 have c8 := (c4.kept b6 b5).top
 refine qe (zA (w9b ?_))
 refine qM p ?_
 refine qD rfl (run_len dG (v := p) rfl hp) (qD rfl (xR rfl rfl (by omega)) (qM (vJ ((L.length : Int) - 1)) ?_))
 refine qe (zA ?_)
 refine zX (yO (fun k en W => ∃ (x : Nat → Value) (z : Int) (nd : List Bool), en = (upd (upd (upd (upd x 0 p) 2 vN) 3 d) 4 (vJ z)) ∧ k = (z + 1).toNat ∧ Ext noS G w G W ∧ (-1 ≤ z ∧ z ≤ (L.length : Int) - 1) ∧ (nd.length = L.length) ∧ (nd = needZ L z) ∧ (Own eBool 4 G W w.heap.size d (nd)) ∧ (Lvs 3 G W w.heap.size W.heap.size []) ∧ (ApL [] d.ownBlock)) _ ⟨_, ((L.length : Int) - 1), (List.replicate L.length false).set ((L.length : Int) - 1).toNat true, (pS 4 (pS 3 (pS 2 (pU 0)))), rfl, c7, (by omega), (by simp), (dA L).symm, c5, c8, b5⟩ ?_)
 rintro gf _ gg ⟨x, z, nd, rfl, gh, a2, hz, hndl, hnd, bf, bg, b7⟩
 refine w9b ?_
 refine qM (vJ z) ?_
 refine qD rfl (vU rfl rfl) (qe (zA ?_))
 refine yE (p := (0 : Int) ≤ z) rfl rfl (fun c9 => ?_) (fun c9 => ?_)
 have hlz := hL.ln z.toNat (by omega)
 refine cM (zA (zB ?_))
 refine zX (w9b ?_)
 refine qM (vJ 0) ?_
 refine qe (zA ?_)
 refine zX (c_cutE (fun (en : Nat → Value) (W : World) => ∃ (x : Nat → Value) (q1 : Nat) (m : List Bool), en = (upd (upd (upd (upd (upd x 0 p) 2 vN) 3 d) 4 (vJ z)) 5 (vJ (q1 : Int))) ∧ Ext noS G w G W ∧ (q1 ≤ (L.getD z.toNat default).r.length) ∧ (m.length = L.length) ∧ (m = halfN nd (L.getD z.toNat default).r z.toNat) ∧ (Own eBool 4 G W w.heap.size d (m)) ∧ (Lvs 3 G W w.heap.size W.heap.size []) ∧ (ApL [] d.ownBlock)) 2 ?_ ?_)
 ·rintro _ da ⟨x, q1, m, rfl, ad, bh, ap, db, af, aq, ak⟩
  refine yL (w9a ?_)
  refine qM (vJ 0) ?_
  refine qe (zA ?_)
  refine zX (c_cutE (fun (en : Nat → Value) (W : World) => ∃ (x : Nat → Value) (g : Nat) (y : List Bool), en = (upd (upd (upd (upd (upd x 0 p) 2 vN) 3 d) 4 (vJ z)) 6 (vJ (g : Int))) ∧ Ext noS G w G W ∧ (g ≤ (L.getD z.toNat default).l.length) ∧ (y.length = L.length) ∧ (y = halfN m (L.getD z.toNat default).l z.toNat) ∧ (Own eBool 4 G W w.heap.size d (y)) ∧ (Lvs 3 G W w.heap.size W.heap.size []) ∧ (ApL [] d.ownBlock)) 4 ?_ ?_)
  ·rintro _ dc ⟨x, g, y, rfl, ae, bi, ar, dd, ag, au, al⟩
   refine yL (w9c ?_)
   refine qM (vJ z) ?_
   refine qD rfl (xR rfl rfl (by omega)) (qM (vJ (z - 1)) ?_)
   refine qe (yK (⟨_, ?_, _, rfl, _, z - 1, y, (pS 4 (pS 3 (pS 2 (pU 0)))), rfl, ae, (by omega), ar, (by rw [needZ_step (by omega) (by omega), ← hnd]; exact half_step db dd), ag, au, al⟩))
   omega
  refine yO (fun k en W => ∃ (x : Nat → Value) (g : Nat) (y : List Bool), en = (upd (upd (upd (upd (upd x 0 p) 2 vN) 3 d) 4 (vJ z)) 6 (vJ (g : Int))) ∧ k = (L.getD z.toNat default).l.length - g ∧ Ext noS G w G W ∧ (g ≤ (L.getD z.toNat default).l.length) ∧ (y.length = L.length) ∧ ((g = 0 ∨ m.getD z.toNat false = true) ∧ y = needAll m ((L.getD z.toNat default).l.take g)) ∧ (Own eBool 4 G W w.heap.size d (y)) ∧ (Lvs 3 G W w.heap.size W.heap.size []) ∧ (ApL [] d.ownBlock)) _ ⟨_, 0, m, (pS 6 (pS 4 (pS 3 (pS 2 (pU 0))))), rfl, ad, cH _, ap, (mM _ _ z.toNat), af, aq, ak⟩ ?_
  rintro gi _ dc ⟨x, g, y, rfl, gj, ae, bi, ar, bj, ag, au, al⟩
  refine w9b ?_
  refine qM d ?_
  refine qM (vJ z) ?_
  refine qD rfl (zI dR sz4 (v := d) rfl rfl ag.read (by omega) (by omega)) (qD rfl (qC (r := y.getD (z).toNat false) rfl ag4 (z := z) rfl ag.read (cK ae.pins d) (by omega) (by omega)) (qM (.bool (y.getD (z).toNat false)) ?_))
  refine qb (t := 55) rfl (fun a3 => ?_) (fun a3 => ?_)
  refine qN (zU (v := vJ (g : Int)) rfl) ?_
  refine qN (zU (v := p) rfl) ?_
  refine qN (zU (v := vJ z) rfl) ?_
  refine qN (zI dG sz53 (v := p) rfl rfl hp (by omega) (by omega)) ?_
  refine qN (yI (off := 3) dD rfl rfl nz40 (z := z) (k := 0) rfl hp (by omega) (by omega)) ?_
  obtain ⟨gk, de, gl, df⟩ := xX (j := (z).toNat) default (hp.at (z := z) (by omega) (by omega)) rfl
  obtain ⟨gm, dg, rfl, dh, b8⟩ := de
  have gn := dh.max
  have gp := b8.max
  refine qN (df 3 _ rfl ag40 rfl ae.pins) ?_
  refine qN (run_len dB (v := dg) rfl b8) ?_
  refine qN (yR rfl rfl) ?_
  refine qD rfl (yJ (v := .bool (decide (((g : Int) : Int) < (((L.getD (z).toNat default).l).length : Int)))) rfl rfl) (qe (zA ?_))
  refine yE (p := ((g : Int) : Int) < (((L.getD (z).toNat default).l).length : Int)) rfl rfl (fun di => ?_) (fun di => ?_)
  refine cM (zA (zB ?_))
  refine zX (zC ?_)
  have gq := hL.l (j := z.toNat) (q := g) (by omega) (by omega)
  refine qM d ?_
  refine qM p ?_
  refine qM (vJ z) ?_
  refine qD rfl (zI dG sz53 (v := p) rfl rfl hp (by omega) (by omega)) (qD rfl (yI (off := 3) dD rfl rfl nz40 (z := z) (k := 0) rfl hp (by omega) (by omega)) ?_)
  obtain ⟨gr, dj, gs, dk⟩ := xX (j := (z).toNat) default (hp.at (z := z) (by omega) (by omega)) rfl
  obtain ⟨gt, dl, rfl, dm, bk⟩ := dj
  have gu := dm.max
  have gv := bk.max
  refine qD rfl (dk 3 _ rfl ag40 rfl ae.pins) (qM (vJ (g : Int)) ?_)
  refine qD rfl (zI dB sz3 (v := dl) rfl rfl bk (by omega) (by omega)) (qD rfl (zN (r := ((L.getD (z).toNat default).l).getD g 0) rfl ag3 (z := (g : Int)) rfl bk ae.pins (by omega) (by omega)) (qD rfl (zI dR sz4 (v := d) rfl rfl ag.read (by omega) (by omega)) (q0 rfl rfl rfl (jL (E := eBool) (v := d) (u := .bool true) (z := ((L.getD (z).toNat default).l).getD g 0) (true) sz4 rfl rfl rfl rfl ae.pins ag (by omega) (by omega) (fun gw dn dp b9 gx => ?_)))))
  have dq := ae.write dp b9 ((yG ag))
  have dr := (au.kept b9 al).top
  refine qe (w9c ?_)
  refine qM (vJ (g : Int)) ?_
  refine qD rfl (yP rfl rfl (by omega)) (qM (vJ ((g : Int) + 1)) ?_)
  refine qe (yK (⟨_, ?_, _, rfl, _, g + 1, y.set ((L.getD z.toNat default).l.getD g 0).toNat true, (pS 6 (pS 4 (pS 3 (pS 2 (pU 0))))), rfl, dq, (by omega), ((cR ..).trans ar), (nX bj (by omega) a3), dn, dr, al⟩))
  omega
  exact cO (zZ (yM (fR ⟨_, g, y, (pS 6 (pS 4 (pS 3 (pS 2 (pU 0))))), ae, bi, ar, (half_end bj a3 (by omega)), ag, au, al⟩)))
  refine qW ?_
  refine qW ?_
  refine qW ?_
  refine qW ?_
  refine qW ?_
  refine qW ?_
  refine qW ?_
  refine qW ?_
  refine qD rfl (yH (v := .bool false) rfl rfl) (qe (zA ?_))
  exact qY rfl rfl (cO (zZ (yM (fR ⟨_, g, y, (pS 6 (pS 4 (pS 3 (pS 2 (pU 0))))), ae, bi, ar, (nW bj a3), ag, au, al⟩))))
 refine yO (fun k en W => ∃ (x : Nat → Value) (q1 : Nat) (m : List Bool), en = (upd (upd (upd (upd (upd x 0 p) 2 vN) 3 d) 4 (vJ z)) 5 (vJ (q1 : Int))) ∧ k = (L.getD z.toNat default).r.length - q1 ∧ Ext noS G w G W ∧ (q1 ≤ (L.getD z.toNat default).r.length) ∧ (m.length = L.length) ∧ ((q1 = 0 ∨ nd.getD z.toNat false = true) ∧ m = needAll nd ((L.getD z.toNat default).r.take q1)) ∧ (Own eBool 4 G W w.heap.size d (m)) ∧ (Lvs 3 G W w.heap.size W.heap.size []) ∧ (ApL [] d.ownBlock)) _ ⟨_, 0, nd, (pS 5 (pS 4 (pS 3 (pS 2 (pU 0))))), rfl, a2, cH _, hndl, (mM _ _ z.toNat), bf, bg, b7⟩ ?_
 rintro gy _ da ⟨x, q1, m, rfl, gz, ad, bh, ap, bl, af, aq, ak⟩
 refine w9b ?_
 refine qM d ?_
 refine qM (vJ z) ?_
 refine qD rfl (zI dR sz4 (v := d) rfl rfl af.read (by omega) (by omega)) (qD rfl (qC (r := m.getD (z).toNat false) rfl ag4 (z := z) rfl af.read (cK ad.pins d) (by omega) (by omega)) (qM (.bool (m.getD (z).toNat false)) ?_))
 refine qb (t := 29) rfl (fun a4 => ?_) (fun a4 => ?_)
 refine qN (zU (v := vJ (q1 : Int)) rfl) ?_
 refine qN (zU (v := p) rfl) ?_
 refine qN (zU (v := vJ z) rfl) ?_
 refine qN (zI dG sz53 (v := p) rfl rfl hp (by omega) (by omega)) ?_
 refine qN (yI (off := 2) dD rfl rfl nz40 (z := z) (k := 0) rfl hp (by omega) (by omega)) ?_
 obtain ⟨g0, ds, g1, dt⟩ := xX (j := (z).toNat) default (hp.at (z := z) (by omega) (by omega)) rfl
 obtain ⟨du, g2, rfl, ca, dv⟩ := ds
 have g3 := ca.max
 have g4 := dv.max
 refine qN (dt 2 _ rfl ag40 rfl ad.pins) ?_
 refine qN (run_len dB (v := du) rfl ca) ?_
 refine qN (yR rfl rfl) ?_
 refine qD rfl (yJ (v := .bool (decide (((q1 : Int) : Int) < (((L.getD (z).toNat default).r).length : Int)))) rfl rfl) (qe (zA ?_))
 refine yE (p := ((q1 : Int) : Int) < (((L.getD (z).toNat default).r).length : Int)) rfl rfl (fun dw => ?_) (fun dw => ?_)
 refine cM (zA (zB ?_))
 refine zX (zC ?_)
 have g5 := hL.r (j := z.toNat) (q := q1) (by omega) (by omega)
 refine qM d ?_
 refine qM p ?_
 refine qM (vJ z) ?_
 refine qD rfl (zI dG sz53 (v := p) rfl rfl hp (by omega) (by omega)) (qD rfl (yI (off := 2) dD rfl rfl nz40 (z := z) (k := 0) rfl hp (by omega) (by omega)) ?_)
 obtain ⟨g6, dx, g7, dy⟩ := xX (j := (z).toNat) default (hp.at (z := z) (by omega) (by omega)) rfl
 obtain ⟨dz, g8, rfl, bm, d0⟩ := dx
 have g9 := bm.max
 have ha := d0.max
 refine qD rfl (dy 2 _ rfl ag40 rfl ad.pins) (qM (vJ (q1 : Int)) ?_)
 refine qD rfl (zI dB sz3 (v := dz) rfl rfl bm (by omega) (by omega)) (qD rfl (zN (r := ((L.getD (z).toNat default).r).getD q1 0) rfl ag3 (z := (q1 : Int)) rfl bm ad.pins (by omega) (by omega)) (qD rfl (zI dR sz4 (v := d) rfl rfl af.read (by omega) (by omega)) (q0 rfl rfl rfl (jL (E := eBool) (v := d) (u := .bool true) (z := ((L.getD (z).toNat default).r).getD q1 0) (true) sz4 rfl rfl rfl rfl ad.pins af (by omega) (by omega) (fun hb d1 d2 cb hd => ?_)))))
 have d3 := ad.write d2 cb ((yG af))
 have d4 := (aq.kept cb ak).top
 refine qe (w9c ?_)
 refine qM (vJ (q1 : Int)) ?_
 refine qD rfl (yP rfl rfl (by omega)) (qM (vJ ((q1 : Int) + 1)) ?_)
 refine qe (yK (⟨_, ?_, _, rfl, _, q1 + 1, m.set ((L.getD z.toNat default).r.getD q1 0).toNat true, (pS 5 (pS 4 (pS 3 (pS 2 (pU 0))))), rfl, d3, (by omega), ((cR ..).trans ap), (nX bl (by omega) a4), d1, d4, ak⟩))
 omega
 exact cO (zZ (yM (fR ⟨_, q1, m, (pS 5 (pS 4 (pS 3 (pS 2 (pU 0))))), ad, bh, ap, (half_end bl a4 (by omega)), af, aq, ak⟩)))
 refine qW ?_
 refine qW ?_
 refine qW ?_
 refine qW ?_
 refine qW ?_
 refine qW ?_
 refine qW ?_
 refine qW ?_
 refine qD rfl (yH (v := .bool false) rfl rfl) (qe (zA ?_))
 exact qY rfl rfl (cO (zZ (yM (fR ⟨_, q1, m, (pS 5 (pS 4 (pS 3 (pS 2 (pU 0))))), ad, bh, ap, (nW bl a4), af, aq, ak⟩))))
 refine cO (zZ (yM (yL (w9a ?_))))
 refine qM p ?_
 refine qD rfl (run_len dG (v := p) rfl hp) (qI rfl (fG (E := eInt) 0 8 (vJ 0) dB mk3 (fun _ => rfl) rfl rfl a2.pins (by omega) (by omega) (by omega) (fun o d5 d6 d7 bn cc => ?_)))
 have bo := a2.step d7 bn
 have cd := bf.below bn
 have ce := (bg.below bn).top
 have d8 := zL cc bf.lt
 have d9 : ApL [] o.ownBlock := ApL.fresh bg (fun k hk => by rw [cc] at hk; cases hk; exact cG _)
 have cf : Own eInt 3 G d5 w.heap.size o (List.replicate L.length 0) := d6.weaken a2.size
 have he : (List.replicate L.length 0).length = L.length := List.length_replicate ..
 refine qM o ?_
 refine qe (w9a ?_)
 refine qI rfl (xD (E := eCl4) (e := 53) dG sz53 bo.pins (fun a5 ea eb ec a6 bp => ?_))
 have ed := bo.step ec a6
 have ee := cd.below a6
 have ef := cf.below a6
 have eg := (ce.below a6).top
 have eh := zL bp cd.lt
 have ei := zL bp cf.lt
 have ej : ApL [] a5.ownBlock := ApL.fresh ce (fun k hk => by rw [bp] at hk; cases hk; exact cG _)
 have ek := eb.weaken bo.size
 refine qM a5 ?_
 refine qe (zA (w9b ?_))
 refine qM (vJ 0) ?_
 refine qe (zA ?_)
 refine zX (yO (fun k en W => ∃ (x : Nat → Value) (kc : Nat) (ats : List Int) (ov : Value) (ps : List C4) (os : List Cl) (LV : List Leaf) (ah : Pin), en = (upd (upd (upd (upd (upd (upd x 0 p) 2 vN) 3 d) 7 o) 8 ov) 9 (vJ (kc : Int))) ∧ k = L.length - kc ∧ Ext noS G w ah W ∧ Pin.le G ah ∧ (kc ≤ L.length) ∧ (ats.length = L.length) ∧ (cutN L nd kc = (ats, os)) ∧ (ps.length = os.length) ∧ (ps.map ab4 = os.map prC) ∧ (LV = lvC ps os) ∧ (Own eInt 3 ah W w.heap.size o (ats)) ∧ (Own eCl4 53 ah W w.heap.size ov (ps)) ∧ (Own eBool 4 ah W w.heap.size d (nd)) ∧ (Apart o.ownBlock ov.ownBlock) ∧ (Apart ov.ownBlock d.ownBlock) ∧ (Lvs 3 ah W w.heap.size W.heap.size LV) ∧ (ApL LV o.ownBlock) ∧ (ApL LV ov.ownBlock) ∧ (ApL LV d.ownBlock)) _ ⟨_, 0, List.replicate L.length 0, a5, [], [], [], G, (pS 9 (pS 8 (pS 7 (pS 3 (pS 2 (pU 0)))))), rfl, ed, cI _, cH _, (by simp), rfl, rfl, rfl, rfl, ef, ek, ee, ei.symm, eh, eg, d9, ej, b7⟩ ?_)
 rintro hf _ hg ⟨x, kc, ats, ov, ps, os, LV, ah, rfl, hh, av, ai, hk, hat, hc, hpl, hab, hLV, a7, aw, a8, a9, bq, br, bs, ba, cg⟩
 have hcl := (gE L nd kc).2
 rw [hc] at hcl
 have hj : os.length ≤ kc := hcl
 refine w9b ?_
 refine qM (vJ (kc : Int)) ?_
 refine qM p ?_
 refine qD rfl (run_len dG (v := p) rfl hp) (qD rfl (yR rfl rfl) (qe (zA ?_)))
 refine yE (p := ((kc : Int) : Int) < (L.length : Int)) rfl rfl (fun el => ?_) (fun el => ?_)
 have hlk := hL.ln kc (by omega)
 refine cM (zA (zB ?_))
 refine zX (w9d ?_)
 refine qM d ?_
 refine qM (vJ (kc : Int)) ?_
 refine qD rfl (zI dR sz4 (v := d) rfl rfl a8.read (by omega) (by omega)) (qD rfl (qC (r := nd.getD kc false) rfl ag4 (z := (kc : Int)) rfl a8.read (cK av.pins d) (by omega) (by omega)) (qe (zA ?_)))
 refine c_if rfl rfl (fun bt => ?_) (fun bt => ?_)
 refine w9d ?_
 refine qM o ?_
 refine qM (vJ (kc : Int)) ?_
 refine qM ov ?_
 refine qD rfl (run_len dG (v := ov) rfl aw.read) (qD rfl (zI dB sz3 (v := o) rfl rfl a7.read (by omega) (by omega)) (q0 rfl rfl rfl (jL (E := eInt) (v := o) (u := vJ (ps.length : Int)) (z := (kc : Int)) ((ps.length : Int)) sz3 rfl rfl rfl rfl av.pins a7 (by omega) (by omega) (fun bu em eo bb hl => ?_))))
 have ch := av.write eo bb ((yG a7))
 have ep := aw.keptA bb a9.symm
 have eq := a8.keptA bb d8.symm
 have er := (br.kept bb bs).top
 refine qe (zA ?_)
 refine yQ (S := fun wz => Pins ah wz) (last := 29) (by kernel_rfl) rfl ?_
 have am := bdr bu
 have es := ch.pins.below am
 have f := ch.step es am
 have bv := em.below am
 have ci := ep.below am
 have cj := eq.below am
 have ck := (er.below am).top
 refine dM 0 ov f.pins ?_
 refine dM 1 p f.pins ?_
 refine dM 2 (vJ (kc : Int)) f.pins ?_
 refine dT (i := 3) rfl rfl (by kernel_rfl) (fun _ _ => zI dG sz53 (v := p) rfl rfl hp (by omega) (by omega)) f.pins ?_
 refine dT (i := 4) rfl rfl (by kernel_rfl) (fun _ _ => yI (off := 0) dD rfl rfl nz3 (z := (kc : Int)) (k := 0) rfl hp (by omega) (by omega)) f.pins ?_
 obtain ⟨hm, et, hn, eu⟩ := xX (j := kc) default (hp.at (z := (kc : Int)) (by omega) (by omega)) rfl
 obtain ⟨ho, hq, rfl, ev, ew⟩ := et
 have hr := ev.max
 have hs := ew.max
 refine dT (i := 5) rfl rfl (by kernel_rfl) (fun _ hS => eu 0 _ rfl ag3 rfl (cB hS ai)) f.pins ?_
 refine dM 6 p f.pins ?_
 refine dM 7 (vJ (kc : Int)) f.pins ?_
 refine dT (i := 8) rfl rfl (by kernel_rfl) (fun _ _ => zI dG sz53 (v := p) rfl rfl hp (by omega) (by omega)) f.pins ?_
 refine dT (i := 9) rfl rfl (by kernel_rfl) (fun _ _ => yI (off := 1) dD rfl rfl nz3 (z := (kc : Int)) (k := 0) rfl hp (by omega) (by omega)) f.pins ?_
 obtain ⟨ht, ex, hu, ey⟩ := xX (j := kc) default (hp.at (z := (kc : Int)) (by omega) (by omega)) rfl
 obtain ⟨hv, hw, rfl, ez, e0⟩ := ex
 have hx := ez.max
 have hy := e0.max
 refine dT (i := 10) rfl rfl (by kernel_rfl) (fun _ hS => ey 1 _ rfl ag3 rfl (cB hS ai)) f.pins ?_
 refine dM 11 o f.pins ?_
 refine dM 12 p f.pins ?_
 refine dM 13 (vJ (kc : Int)) f.pins ?_
 refine dT (i := 14) rfl rfl (by kernel_rfl) (fun _ _ => zI dG sz53 (v := p) rfl rfl hp (by omega) (by omega)) f.pins ?_
 refine dT (i := 15) rfl rfl (by kernel_rfl) (fun _ _ => yI (off := 2) dD rfl rfl nz40 (z := (kc : Int)) (k := 0) rfl hp (by omega) (by omega)) f.pins ?_
 obtain ⟨h0, e1, h1, e2⟩ := xX (j := kc) default (hp.at (z := (kc : Int)) (by omega) (by omega)) rfl
 obtain ⟨e3, h2, rfl, cl, e4⟩ := e1
 have h3 := cl.max
 have h4 := e4.max
 refine dT (i := 16) rfl rfl (by kernel_rfl) (fun _ hS => e2 2 _ rfl ag40 rfl (cB hS ai)) f.pins ?_
 refine dM 18 o f.pins ?_
 refine dM 19 p f.pins ?_
 refine dM 20 (vJ (kc : Int)) f.pins ?_
 refine dT (i := 21) rfl rfl (by kernel_rfl) (fun _ _ => zI dG sz53 (v := p) rfl rfl hp (by omega) (by omega)) f.pins ?_
 refine dT (i := 22) rfl rfl (by kernel_rfl) (fun _ _ => yI (off := 3) dD rfl rfl nz40 (z := (kc : Int)) (k := 0) rfl hp (by omega) (by omega)) f.pins ?_
 obtain ⟨h5, e5, h6, e6⟩ := xX (j := kc) default (hp.at (z := (kc : Int)) (by omega) (by omega)) rfl
 obtain ⟨h7, e7, rfl, e8, cm⟩ := e5
 have h8 := e8.max
 have h9 := cm.max
 refine dT (i := 23) rfl rfl (by kernel_rfl) (fun _ hS => e6 3 _ rfl ag40 rfl (cB hS ai)) f.pins ?_
 refine dP (i := 17) rfl rfl (zO (vs := [o, e3]) Tryz.func60 nm60 rfl rfl rfl ?_)
 refine cC (qR f.pins (cK f.pins o) bv.read (cl.mono ai) (by omega) (fun i hi => by have h := hL.r (j := kc) (by omega) hi; rw [cR]; omega)) ?_
 rintro _ e9 ⟨s, fa, rfl, ax, ab⟩
 refine rt9 ?_
 have ay := f.tr ab
 have bw := bv.ext ab
 have cn := ci.ext ab
 have co := cj.ext ab
 have cp := (ck.ext ab).top
 have fb := zT ax.lt bv.lt
 have cq := zT ax.lt ci.lt
 have fc := zT ax.lt cj.lt
 have fd : ApL LV s.ownBlock := ApL.fresh ck (fun k hk => (ax.lt k hk).1)
 have cr := ax.weaken f.size
 refine ⟨fun _ => (cB ay.pins ab.le), ?_⟩
 refine dP (i := 24) rfl rfl (zO (vs := [o, e7]) Tryz.func60 nm60 rfl rfl rfl ?_)
 refine cC (qR ay.pins (cK ay.pins o) bw.read (cm.mono (cA ai ab.le)) (by omega) (fun i hi => by have h := hL.l (j := kc) (by omega) hi; rw [cR]; omega)) ?_
 rintro _ fe ⟨aa, bx, rfl, an, ac⟩
 refine rt9 ?_
 have az := ay.tr ac
 have ff := bw.ext ac
 have fg := cn.ext ac
 have fh := co.ext ac
 have bz := cr.ext ac
 have fi := (cp.ext ac).top
 have fj := zT an.lt bw.lt
 have cs := zT an.lt cn.lt
 have fk := zT an.lt co.lt
 have fl := zT an.lt cr.lt
 have fm : ApL LV aa.ownBlock := ApL.fresh cp (fun k hk => (an.lt k hk).1)
 have b0 := an.weaken ay.size
 refine ⟨fun _ => (cB az.pins (cA ab.le ac.le)), ?_⟩
 refine dT (i := 25) rfl rfl (by kernel_rfl) (fun _ _ => xQ [vJ 0, vJ 0, vN, vN] [vJ ((L.getD kc default).a), vJ ((L.getD kc default).b), s, aa] [(0, (vJ ((L.getD kc default).a)), [vJ ((L.getD kc default).a)]), (1, (vJ ((L.getD kc default).b)), [vJ ((L.getD kc default).b)]), (2, s, [s]), (3, aa, [aa])] dD zr53 rfl pl53 rfl (cL.2 ⟨rfl, (cL.2 ⟨rfl, (cL.2 ⟨(xB bz.one), (cL.2 ⟨(xB b0.one), (fun _ h => by cases h)⟩)⟩)⟩)⟩) rfl) (cB az.pins (cA ab.le ac.le)) ?_
 refine dP (i := 26) rfl rfl (xF (E := eCl4) (e := 53) [vJ ((L.getD kc default).a), vJ ((L.getD kc default).b), s, aa] (((L.getD kc default).a, (L.getD kc default).b, s, aa) : C4) dG sz53 zr53 ⟨rfl, bz.one, b0.one⟩ rfl (by decide) az.pins (fun ct fn fo fp aj ia => ?_))
 have bc := az.step fp aj
 have cu := ff.below aj
 have cv := fg.below aj
 have cw := fh.below aj
 have cx := bz.below aj
 have cy := b0.below aj
 have cz := (fi.below aj).top
 have fq := fo.weaken az.size
 refine ⟨fun _ => (cB bc.pins (cA ab.le ac.le)), ?_⟩
 refine dP (i := 27) rfl rfl (vI (E := eCl4) (v := ov) (u := ct) 64 dG ap53 (by decide) rfl rfl bc.pins cv fq.src (by first | omega | (rw [List.nil_append]; omega) | (rw [List.length_nil]; omega) | (rw [List.length_append]; omega) | (simp; done) | (simp; omega) | (simp only [List.length_cons, List.length_nil]; omega) | (simp only [List.length_append, List.length_cons, List.length_nil]; omega)) (by first | omega | (rw [List.nil_append]; omega) | (rw [List.length_nil]; omega) | (rw [List.length_append]; omega) | (simp; done) | (simp; omega) | (simp only [List.length_cons, List.length_nil]; omega) | (simp only [List.length_append, List.length_cons, List.length_nil]; omega)) (bc.size) (fun a0 ib fr fs ao a1 => ?_))
 have b1 := bc.write fs ao ((yG cv))
 have ft := cu.keptA ao a9
 have fu := cw.keptA ao bq.symm
 have fv := cx.keptA ao cq
 have fw := cy.keptA ao cs
 have fx := (cz.kept ao ba).top
 have fy := zJ a9 a1 cu.lt
 have fz := zJ bq.symm a1 cw.lt
 have f0 := zJ cq a1 cx.lt
 have f1 := zJ cs a1 cy.lt
 have f2 : ApL LV a0.ownBlock := ApL.app cz ba a1
 have ic := la1 ps (((L.getD kc default).a, (L.getD kc default).b, s, aa) : C4)
 refine ⟨fun _ => (cB b1.pins (cA ab.le ac.le)), ?_⟩
 refine dM 28 a0 (cB b1.pins (cA ab.le ac.le)) ?_
 refine zY (by kernel_rfl) (w9c ?_)
 refine qM (vJ (kc : Int)) ?_
 refine qD rfl (yP rfl rfl (by omega)) (qM (vJ ((kc : Int) + 1)) ?_)
 refine qe (yK ?_)
 have f3 := fx.add fv fd
 have f4 : ApL (LV ++ [(s, atL ((ats).set kc (ps.length : Int)) ((L.getD kc default).r))]) o.ownBlock := bs.add fb
 have f5 : ApL (LV ++ [(s, atL ((ats).set kc (ps.length : Int)) ((L.getD kc default).r))]) d.ownBlock := cg.add fc
 have f6 : ApL (LV ++ [(s, atL ((ats).set kc (ps.length : Int)) ((L.getD kc default).r))]) aa.ownBlock := fm.add fl.symm
 have f7 : ApL (LV ++ [(s, atL ((ats).set kc (ps.length : Int)) ((L.getD kc default).r))]) a0.ownBlock := f2.add f0
 have f8 := f3.add fw f6
 have f9 : ApL ((LV ++ [(s, atL ((ats).set kc (ps.length : Int)) ((L.getD kc default).r))]) ++ [(aa, atL ((ats).set kc (ps.length : Int)) ((L.getD kc default).l))]) o.ownBlock := f4.add fj
 have ga : ApL ((LV ++ [(s, atL ((ats).set kc (ps.length : Int)) ((L.getD kc default).r))]) ++ [(aa, atL ((ats).set kc (ps.length : Int)) ((L.getD kc default).l))]) d.ownBlock := f5.add fk
 have gb : ApL ((LV ++ [(s, atL ((ats).set kc (ps.length : Int)) ((L.getD kc default).r))]) ++ [(aa, atL ((ats).set kc (ps.length : Int)) ((L.getD kc default).l))]) a0.ownBlock := f7.add f1
 refine ⟨_, ?_, _, rfl, _, kc + 1, (ats).set kc (ps.length : Int), a0, ps ++ ([(((L.getD kc default).a, (L.getD kc default).b, s, aa) : C4)]), os ++ [(⟨(L.getD kc default).a, (L.getD kc default).b, atL ((ats).set kc (ps.length : Int)) ((L.getD kc default).r), atL ((ats).set kc (ps.length : Int)) ((L.getD kc default).l)⟩ : Cl)], (LV ++ [(s, atL ((ats).set kc (ps.length : Int)) ((L.getD kc default).r))]) ++ [(aa, atL ((ats).set kc (ps.length : Int)) ((L.getD kc default).l))], bx, (pS 9 (pS 8 (pS 7 (pS 3 (pS 2 (pU 0)))))), rfl, b1, (cA (cA ai ab.le) ac.le), (by omega), ((cR ..).trans hat), ((rO hc bt).trans (by rw [hpl])), (by simp [hpl]), (ab_snoc (c := (⟨(L.getD kc default).a, (L.getD kc default).b, atL ((ats).set kc (ps.length : Int)) ((L.getD kc default).r), atL ((ats).set kc (ps.length : Int)) ((L.getD kc default).l)⟩ : Cl)) hab rfl), (lvC_snoc (c := (⟨(L.getD kc default).a, (L.getD kc default).b, atL ((ats).set kc (ps.length : Int)) ((L.getD kc default).r), atL ((ats).set kc (ps.length : Int)) ((L.getD kc default).l)⟩ : Cl)) hLV hpl), ft, fr, fu, fy, fz.symm, f8, f9, gb, ga⟩
 omega
 refine cM (w9c ?_)
 refine qM (vJ (kc : Int)) ?_
 refine qD rfl (yP rfl rfl (by omega)) (qM (vJ ((kc : Int) + 1)) ?_)
 refine qe (yK (⟨_, ?_, _, rfl, _, kc + 1, ats, ov, ps, os, LV, ah, (pS 9 (pS 8 (pS 7 (pS 3 (pS 2 (pU 0)))))), rfl, av, ai, (by omega), hat, (cut_no hc bt), hpl, hab, hLV, a7, aw, a8, a9, bq, br, bs, ba, cg⟩))
 omega
 refine cO (zZ (yM (yL (w9a ?_))))
 refine qM ov ?_
 refine qM ov ?_
 refine qe (zA ?_)
 refine cN (zQ (zS (v := ov) rfl rfl rfl ?_))
 have hkn : kc = L.length := by omega
 rw [hkn, hnd, needZ_end (show z = -1 by omega)] at hc
 have hcut : cutL L = os := by unfold cutL; rw [hc]
 have hap := ba
 have hlv := br
 rw [hLV] at hap hlv
 rw [hcut]
 exact ⟨_, _, rfl, ⟨ps, hpl, hab, aw, fun k hk => (aw.lt k hk).2, hlv, hap⟩, av⟩
end LX3
namespace LX4
open B1 C1 D1 E1 OR1 SF1 P1 PF2 PF3 LX3
theorem pl29 : (Tryz.prog.underlying 29).bind (placesD Tryz.prog) = some [(0, 1)] := by kernel_rfl
theorem xZ {w : World} {G : Pin} {u v : Value} {ns bs : List Nd} (hP : Pins G w) (hu : RSl eNode G u ns) (hv : RSl eNode G v bs) :
  Calls Tryz.prog 12 [.agg #[u], .agg #[v]].toArray w fun e w' => ∃ (u : Value) (G' : Pin), e = .returned (.tuple #[.agg #[u], .bool (prfB ns bs)]) ∧ DPrf 53 3 G' w' w.heap.size w'.heap.size u (prfL ns bs) ∧ Ext noS G w G' w' := by
 refine yA (n := 32) Tryz.func12 Tryz.ntmps12 rfl rfl ?_
 have y := exr noS hP
 refine w9d ?_
 refine qI rfl (xH [u] (v := .agg #[u]) rfl rfl y.pins (fun b1 w2 b2 aw ax ay => ?_))
 have az := y.step ax ay
 have a0 : w.heap.size ≤ b1 := by have := y.size; omega
 obtain ⟨G9, k, z, aa, b4⟩ := aw.shut az a0
 refine qI rfl (xH [v] (v := .agg #[v]) rfl rfl z.pins (fun a1 b5 b6 a2 a3 a4 => ?_))
 have a5 := z.step a3 a4
 have a6 : w.heap.size ≤ a1 := by have := z.size; omega
 obtain ⟨b7, d, ab, ac, b8⟩ := a2.shut a5 a6
 refine qI rfl (yN [vN] zr29 rfl ab.pins (fun a7 b9 ca a8 a9 ba => ?_))
 have ad := ab.step a9 ba
 have q : w.heap.size ≤ a7 := by have := ab.size; omega
 refine qM (.bool false) ?_
 refine qe (zA (w9b ?_))
 refine qD rfl (zR (cs := [u]) ag26 sz26 rfl (fun j u hj => (cB ad.pins d) _ _ _ (aa _ _ (by simpa using hj)))) (qI rfl (zO (vs := [.agg #[u]]) Tryz.func21 nm21 rfl rfl rfl ?_))
 refine cC (kA ad.pins (hu.mono (cA k d))) ?_
 rintro _ cb ⟨cc, rfl, a⟩
 refine rt9 ?_
 have r := ad.tr a
 have aj := a8.ext a
 refine qD rfl (xM rfl) (qM (.bool (!(decP (GoodS ns)))) ?_)
 refine qbn (t := 10) rfl (fun ae => ?_) (fun ae => ?_)
 refine qN (zR (cs := [v]) ag26 sz26 rfl (fun j u hj => (cB r.pins a.le) _ _ _ (ac _ _ (by simpa using hj)))) ?_
 refine q1g rfl rfl rfl rfl rfl rfl (zO (vs := [.agg #[v]]) Tryz.func21 nm21 rfl rfl rfl ?_)
 refine cC (kA r.pins (hv.mono (cA (cA k d) a.le))) ?_
 rintro _ cd ⟨ce, rfl, b⟩
 refine rt9 ?_
 have l := r.tr b
 have ak := aj.ext b
 refine qN (xM rfl) ?_
 refine qD rfl (yH (v := .bool (!(decP (GoodS bs)))) rfl rfl) (qM (.bool (!(decP (GoodS bs)))) ?_)
 refine qbn (t := 15) rfl (fun af => ?_) (fun af => ?_)
 have hga : GoodP ns := goodB_true.1 ((xO ns).symm.trans ae)
 have hgb : GoodP bs := goodB_true.1 ((xO bs).symm.trans af)
 have hla := hga.lo
 have hlb := hgb.lo
 have hha := hga.hi
 have hhb := hgb.hi
 refine qN (zR (cs := [u]) ag26 sz26 rfl (fun j u hj => (cB l.pins (cA (cA d a.le) b.le)) _ _ _ (aa _ _ (by simpa using hj)))) ?_
 refine qN (zR (cs := [v]) ag26 sz26 rfl (fun j u hj => (cB l.pins (cA a.le b.le)) _ _ _ (ac _ _ (by simpa using hj)))) ?_
 refine q1g rfl rfl rfl rfl rfl rfl (zO (vs := [.agg #[u], .agg #[v]]) Tryz.func30 nm30 rfl rfl rfl ?_)
 refine cC (jP l.pins (hu.mono (cA (cA (cA k d) a.le) b.le)) (hv.mono (cA (cA (cA k d) a.le) b.le)) ⟨qS hga, hla⟩ ⟨qS hgb, hlb⟩ (by omega)) ?_
 rintro _ cf ⟨cg, rfl, m⟩
 refine rt9 ?_
 have o := l.tr m
 have al := ak.ext m
 refine qN (xM rfl) ?_
 refine qD rfl (yH (v := .bool (!(decP (geG (gOf ns) (gOf bs))))) rfl rfl) (qe (zA ?_))
 refine qQ rfl rfl (fun ag => ?_) (fun ag => ?_)
 refine cM (w9a ?_)
 have hge := decP_true.1 ag
 refine qD rfl (zR (cs := [u]) ag26 sz26 rfl (fun j u hj => (cB o.pins (cA (cA (cA d a.le) b.le) m.le)) _ _ _ (aa _ _ (by simpa using hj)))) (qD rfl (zR (cs := [v]) ag26 sz26 rfl (fun j u hj => (cB o.pins (cA (cA a.le b.le) m.le)) _ _ _ (ac _ _ (by simpa using hj)))) (qI rfl (zO (vs := [.agg #[u], .agg #[v]]) Tryz.func32 nm32 rfl rfl rfl ?_)))
 refine cC (sG o.pins (hu.mono (cA (cA (cA (cA k d) a.le) b.le) m.le)) (hv.mono (cA (cA (cA (cA k d) a.le) b.le) m.le)) hga hgb) ?_
 rintro _ ch ⟨bb, ci, rfl, bc, am⟩
 refine rt9 ?_
 have ah := o.tr am
 have an := al.ext am
 refine qI rfl (zO (vs := [bb]) Tryz.func31 nm31 rfl rfl rfl ?_)
 refine cC (sH ah.pins bc (sL hga hgb hge)) ?_
 rintro _ ao ⟨c, cj, rfl, s, ap⟩
 refine rt9 ?_
 have x := ah.tr ap
 have aq := an.ext ap
 have ar := s.one
 have ck := s.len
 refine qM c ?_
 refine qe (zA (w9b ?_))
 refine qM c ?_
 refine qD rfl (DPrf.run_len s dG rfl) (qD rfl (jV rfl rfl) (qe (zA ?_)))
 refine yE (p := (200 : Int) < ((cutL (fullL ns bs)).length : Int)) rfl rfl (fun bd => ?_) (fun bd => ?_)
 refine w9d ?_
 refine qD rfl (xQ [vN] [vN] [] dI zr29 rfl pl29 rfl (fun _ h => by cases h) rfl) (q0 rfl rfl rfl (o_stp (cs' := [vN]) (us := [vN]) (v := .agg #[vN]) sz29 rfl rfl rfl (yF (by rfl)) x.pins aq (cD rfl) rfl (fun cl be bf au cm => ?_)))
 have bg := x.write bf au ((zW q))
 have cn := cP (cG ao.heap.size) au.size
 refine qM (.bool false) ?_
 refine qe (zA ?_)
 refine cN (zQ (tB (cs := [vN]) (v := .bool false) rfl rfl rfl rfl rfl ag29 sz29 (fun j u hj => by rw [cQ]; exact be.cell hj) ?_))
 obtain ⟨f, i⟩ := @tG ns bs (fun g => absurd g.le (by omega))
 rw [f, i]
 exact ⟨_, _, rfl, DPrf.nil, bg⟩
 refine cM (w9a ?_)
 refine qM c ?_
 refine qD rfl (xQ [vN] [c] [(0, c, [c])] dI zr29 rfl pl29 rfl (cL.2 ⟨(xB ar), (fun _ h => by cases h)⟩) rfl) (q0 rfl rfl rfl (o_stp (cs' := [c]) (us := [c]) (v := .agg #[c]) sz29 rfl rfl rfl (yF ar) x.pins aq (cD rfl) rfl (fun co bh bi ai cp => ?_)))
 have bj := x.write bi ai ((zW q))
 have bk := s.kept ai (cF an.lt)
 have bl := cP (cG ao.heap.size) ai.size
 refine qM (.bool true) ?_
 refine qe (zA ?_)
 refine cN (zQ (tB (cs := [c]) (v := .bool true) rfl rfl rfl rfl rfl ag29 sz29 (fun j u hj => by rw [cQ]; exact bh.cell hj) ?_))
 obtain ⟨f, i⟩ := @pT ns bs ⟨hga, hgb, hge, by omega⟩
 rw [f, i]
 exact ⟨_, _, rfl, (bk.wide ah.size bl), bj⟩
 refine w9d ?_
 refine qD rfl (xQ [vN] [vN] [] dI zr29 rfl pl29 rfl (fun _ h => by cases h) rfl) (q0 rfl rfl rfl (o_stp (cs' := [vN]) (us := [vN]) (v := .agg #[vN]) sz29 rfl rfl rfl (yF (by rfl)) o.pins al (cD rfl) rfl (fun cq bm bn bo cr => ?_)))
 have bp := o.write bn bo ((zW q))
 refine qM (.bool false) ?_
 refine qe (zA ?_)
 refine cN (zQ (tB (cs := [vN]) (v := .bool false) rfl rfl rfl rfl rfl ag29 sz29 (fun j u hj => by rw [cQ]; exact bm.cell hj) ?_))
 obtain ⟨f, i⟩ := @tG ns bs (fun g => decP_false.1 ag g.ge)
 rw [f, i]
 exact ⟨_, _, rfl, DPrf.nil, bp⟩
 refine qW ?_
 refine qW ?_
 refine qW ?_
 refine qW ?_
 refine qD rfl (yJ (v := .bool true) rfl rfl) (qe (zA ?_))
 refine xW rfl rfl (w9d ?_)
 refine qD rfl (xQ [vN] [vN] [] dI zr29 rfl pl29 rfl (fun _ h => by cases h) rfl) (q0 rfl rfl rfl (o_stp (cs' := [vN]) (us := [vN]) (v := .agg #[vN]) sz29 rfl rfl rfl (yF (by rfl)) l.pins ak (cD rfl) rfl (fun ct bq br bt cu => ?_)))
 have bu := l.write br bt ((zW q))
 refine qM (.bool false) ?_
 refine qe (zA ?_)
 refine cN (zQ (tB (cs := [vN]) (v := .bool false) rfl rfl rfl rfl rfl ag29 sz29 (fun j u hj => by rw [cQ]; exact bq.cell hj) ?_))
 obtain ⟨f, i⟩ := @tG ns bs (fun g => goodB_false.1 ((xO bs).symm.trans af) g.gb)
 rw [f, i]
 exact ⟨_, _, rfl, DPrf.nil, bu⟩
 refine qW ?_
 refine qW ?_
 refine qW ?_
 refine qD rfl (yJ (v := .bool true) rfl rfl) (qM (.bool true) ?_)
 refine qW ?_
 refine qW ?_
 refine qW ?_
 refine qW ?_
 refine qD rfl (yJ (v := .bool true) rfl rfl) (qe (zA ?_))
 refine xW rfl rfl (w9d ?_)
 refine qD rfl (xQ [vN] [vN] [] dI zr29 rfl pl29 rfl (fun _ h => by cases h) rfl) (q0 rfl rfl rfl (o_stp (cs' := [vN]) (us := [vN]) (v := .agg #[vN]) sz29 rfl rfl rfl (yF (by rfl)) r.pins aj (cD rfl) rfl (fun cv bv bw bx cw => ?_)))
 have bz := r.write bw bx ((zW q))
 refine qM (.bool false) ?_
 refine qe (zA ?_)
 refine cN (zQ (tB (cs := [vN]) (v := .bool false) rfl rfl rfl rfl rfl ag29 sz29 (fun j u hj => by rw [cQ]; exact bv.cell hj) ?_))
 obtain ⟨f, i⟩ := @tG ns bs (fun g => goodB_false.1 ((xO ns).symm.trans ae) g.ga)
 rw [f, i]
 exact ⟨_, _, rfl, DPrf.nil, bz⟩
end LX4
namespace LX6
open B1 C1 D1 E1 SF1 DR1 DR2 DV1 LX4
theorem eW {w : World} {G : Pin} {c : Nat} {cv : Value} {code : List UInt8} {a s : Int} (hP : Pins G w) (hB : Bx G w c [cv, .int .i64 a, .int .u64 s]) (hc : RSl eByte G cv code) (ha : 0 ≤ a ∧ a + 56 ≤ 1000000) (hs : 0 ≤ s ∧ s < 18446744073709551616) :
  Calls Tryz.prog 15 #[vP c] w fun e w' => ∃ (u v r : Value) (xs ys : List Nd) (ps : List Cl) (lo hi : Nat) (a' s' : Int) (G' : Pin), e = .returned (.tuple #[.agg #[u], .agg #[v], .agg #[r]]) ∧ RSl eNode G' u xs ∧ RSl eNode G' v ys ∧ DPrf 53 3 G' w' lo hi r ps ∧ w.heap.size ≤ lo ∧ hi ≤ w'.heap.size ∧ SmC ps ∧ WfL ps ∧ Bx G' w' c [cv, .int .i64 a', .int .u64 s'] ∧ (a ≤ a' ∧ a' ≤ a + 56) ∧ (0 ≤ s' ∧ s' < 18446744073709551616) ∧ Ext (inO (some c)) G w G' w' := by
 refine yA (n := 38) Tryz.func15 Tryz.ntmps15 rfl rfl ?_
 have d2 := exr (inO (some c)) hP
 have hm := hc.max
 refine w9d ?_
 refine qI rfl (yN [vN] zr26 rfl d2.pins (fun b1 w2 kn e9 ko fa => ?_))
 have d3 := d2.step ko fa
 have fb := hB.below fa
 have bo := zF (cgA some kn) hB.lt
 have ca : w.heap.size ≤ b1 := by have := d2.size; omega
 refine qI rfl (yN [vN] zr26 rfl d3.pins (fun kp xd fc fd kq d4 => ?_))
 have d5 := d3.step kq d4
 have fe := fb.below d4
 have ff := e9.below d4
 have bp := zF (cgA some fc) fb.lt
 have z := zF (cgA some fc) e9.lt
 have cb : w.heap.size ≤ kp := by have := d3.size; omega
 refine qI rfl (yN [vN] zr29 rfl d5.pins (fun kr xe d6 fg ks c2 => ?_))
 have d7 := d5.step ks c2
 have fh := fe.below c2
 have fi := ff.below c2
 have fj := fd.below c2
 have bq := zF (cgA some d6) fe.lt
 have aa := zF (cgA some d6) ff.lt
 have ab := zF (cgA some d6) fd.lt
 have cc : w.heap.size ≤ kr := by have := d5.size; omega
 refine qe (w9a ?_)
 refine qM (vP c) ?_
 refine qI rfl (zO (vs := [vP c, vJ 2]) Tryz.func34 nm34 rfl rfl rfl ?_)
 refine cC (gD (n := 2) d7.pins fh hc (by omega) (by omega) (by omega)) ?_
 rintro _ kt ⟨b, l, xf, xg, ku, rfl, cr, ac, xh, fk, xi, xj, ct⟩
 refine rt9 ?_
 have d8 := d7.trans ct (fun i hi => xA i hi)
 have fl := fi.extS ct (yZ bo)
 have fm := fj.extS ct (yZ bp)
 have fn := fg.extS ct (yZ bq)
 have fo := zV cr.lt fh.lt
 have kv := zV cr.lt fi.lt
 have kw := zV cr.lt fj.lt
 have kx := zV cr.lt fg.lt
 have fp := cr.weaken d7.size
 have xk := ac.1.lo
 refine qM (vP c) ?_
 refine qI rfl (zO (vs := [vP c, vJ 2]) Tryz.func34 nm34 rfl rfl rfl ?_)
 refine cC (gD (n := 2) d8.pins fk (hc.mono ct.le) (by omega) (by omega) (by omega)) ?_
 rintro _ ky ⟨d, o, xl, xm, kz, rfl, cd, ad, xn, fq, xo, xp, cu⟩
 refine rt9 ?_
 have d9 := d8.trans cu (fun i hi => xA i hi)
 have fr := fp.extS cu (notO fo)
 have fs := fl.extS cu (yZ bo)
 have ft := fm.extS cu (yZ bp)
 have fu := fn.extS cu (yZ bq)
 have k0 := zT cd.lt fp.lt
 have k1 := zV cd.lt fk.lt
 have k2 := zV cd.lt fl.lt
 have k3 := zV cd.lt fm.lt
 have k4 := zV cd.lt fn.lt
 have fv := cd.weaken d8.size
 have xq := ad.1.lo
 refine qI rfl (yN [vN] zr26 rfl d9.pins (fun bw xr ce fw k5 bx => ?_))
 have ea := d9.step k5 bx
 have fx := fr.below bx
 have fy := fv.below bx
 have fz := fq.below bx
 have f0 := fs.below bx
 have f1 := ft.below bx
 have f2 := fu.below bx
 have f3 := zL (cgA some ce) fr.lt
 have f4 := zL (cgA some ce) fv.lt
 have f5 := zF (cgA some ce) fq.lt
 have br := zF (cgA some ce) fs.lt
 have bs := zF (cgA some ce) ft.lt
 have f6 := zF (cgA some ce) fu.lt
 have f7 : w.heap.size ≤ bw := by have := d9.size; omega
 refine qI rfl (yN [vN] zr26 rfl ea.pins (fun bz xt b0 k6 k7 bt => ?_))
 have f8 := ea.step k7 bt
 have f9 := fx.below bt
 have k8 := fy.below bt
 have k9 := fz.below bt
 have la := f0.below bt
 have lb := f1.below bt
 have lc := f2.below bt
 have ld := fw.below bt
 have ga := zL (cgA some b0) fx.lt
 have gb := zL (cgA some b0) fy.lt
 have cw := zF (cgA some b0) fz.lt
 have ae := zF (cgA some b0) f0.lt
 have af := zF (cgA some b0) f1.lt
 have cx := zF (cgA some b0) f2.lt
 have b2 := zF (cgA some b0) fw.lt
 have cy : w.heap.size ≤ bz := by have := ea.size; omega
 refine q0 rfl rfl rfl (o_stp (cs' := [b]) (us := [b]) (v := .agg #[b]) sz26 rfl rfl rfl (yF f9.one) f8.pins ld (cD rfl) rfl (fun xu lf lg bu xv => ?_))
 have gc := f8.write lg bu ((zW f7))
 have lh := f9.keptA bu f3.symm
 have gd := k8.keptA bu f4.symm
 have li := k9.keptA bu f5.symm
 have lj := la.keptA bu br.symm
 have lk := lb.keptA bu bs.symm
 have ll := lc.keptA bu f6.symm
 have lm := k6.keptA bu b2
 refine q0 rfl rfl rfl (o_stp (cs' := [d]) (us := [d]) (v := .agg #[d]) sz26 rfl rfl rfl (yF gd.one) gc.pins lm (cD rfl) rfl (fun xw ge ln bv xx => ?_))
 have lp := gc.write ln bv ((zW cy))
 have lq := lh.keptA bv ga.symm
 have lr := gd.keptA bv gb.symm
 have ls := li.keptA bv cw.symm
 have lu := lj.keptA bv ae.symm
 have lv := lk.keptA bv af.symm
 have lw := ll.keptA bv cx.symm
 have gf := lf.keptA bv b2.symm
 refine qe (zA (w9b ?_))
 refine qD rfl (zR (cs := [d]) ag26 sz26 rfl (fun j u hj => ge.cell (by simpa using hj))) (qD rfl (zR (cs := [b]) ag26 sz26 rfl (fun j u hj => gf.cell (by simpa using hj))) ?_)
 obtain ⟨xy, lx, ly, m, b3⟩ := lr.sealed lp
 have lz := lq.moreO lx b3 k0.symm
 have l0 := ls.moreO b3 k1.symm
 have l1 := lu.moreO b3 k2.symm
 have l2 := lv.moreO b3 k3.symm
 have l3 := lw.moreO b3 k4.symm
 have l4 := gf.moreO b3 f4
 have l5 := ge.moreO b3 gb
 obtain ⟨xz, p, gg, g, cf⟩ := lz.sealed ly
 have l6 := l0.moreO cf fo.symm
 have l7 := l1.moreO cf kv.symm
 have l8 := l2.moreO cf kw.symm
 have l9 := l3.moreO cf kx.symm
 have ma := l4.moreO cf f3
 have mb := l5.moreO cf ga
 refine qI rfl (zO (vs := [.agg #[d], .agg #[b]]) Tryz.func30 nm30 rfl rfl rfl ?_)
 refine cC (jP gg.pins (m.mono p) g ⟨ad.1.wf.ok, ad.1.lo⟩ ⟨ac.1.wf.ok, ac.1.lo⟩ (by omega)) ?_
 rintro _ x0 ⟨x1, rfl, f⟩
 refine rt9 ?_
 have c3 := gg.tr f
 have gh := l6.ext f
 have gi := l7.ext f
 have gj := l8.ext f
 have gk := l9.ext f
 have c4 := ma.ext f
 have c5 := mb.ext f
 refine qM (.bool (decP (geG (gOf (formG o)) (gOf (formG l))))) ?_
 refine qb (t := 16) rfl (fun mc => ?_) (fun mc => ?_)
 refine qN (zR (cs := [b]) ag26 sz26 rfl (fun j u hj => c4.cell (by simpa using hj))) ?_
 refine qN (zR (cs := [d]) ag26 sz26 rfl (fun j u hj => c5.cell (by simpa using hj))) ?_
 refine q1g rfl rfl rfl rfl rfl rfl (zO (vs := [.agg #[b], .agg #[d]]) Tryz.func30 nm30 rfl rfl rfl ?_)
 refine cC (jP c3.pins (g.mono f.le) (m.mono (cA p f.le)) ⟨ac.1.wf.ok, ac.1.lo⟩ ⟨ad.1.wf.ok, ad.1.lo⟩ (by omega)) ?_
 rintro _ x2 ⟨x3, rfl, k⟩
 refine rt9 ?_
 have c6 := c3.tr k
 have gl := gh.ext k
 have gm := gi.ext k
 have gn := gj.ext k
 have gp := gk.ext k
 have c7 := c4.ext k
 have c8 := c5.ext k
 refine qN (xM rfl) ?_
 refine qD rfl (yJ (v := .bool (!(decP (geG (gOf (formG l)) (gOf (formG o)))))) rfl rfl) (qe (zA ?_))
 refine qQ rfl rfl (fun md => ?_) (fun md => ?_)
 refine cM (zA (w9b ?_))
 refine qD rfl (zR (cs := [b]) ag26 sz26 rfl (fun j u hj => c7.cell (by simpa using hj))) (qD rfl (zR (cs := [d]) ag26 sz26 rfl (fun j u hj => c8.cell (by simpa using hj))) (qI rfl (zO (vs := [.agg #[b], .agg #[d]]) Tryz.func30 nm30 rfl rfl rfl ?_)))
 refine cC (jP c6.pins (g.mono (cA f.le k.le)) (m.mono (cA (cA p f.le) k.le)) ⟨ac.1.wf.ok, ac.1.lo⟩ ⟨ad.1.wf.ok, ad.1.lo⟩ (by omega)) ?_
 rintro _ me ⟨x4, rfl, q⟩
 refine rt9 ?_
 have cz := c6.tr q
 have gq := gl.ext q
 have eb := gm.ext q
 have ec := gn.ext q
 have ed := gp.ext q
 have c9 := c7.ext q
 have ee := c8.ext q
 refine qD rfl (xM rfl) (qe (zA ?_))
 refine qQ rfl rfl (fun mf => ?_) (fun mf => ?_)
 refine cM (w9a ?_)
 refine qD rfl (zR (cs := [b]) ag26 sz26 rfl (fun j u hj => c9.cell (by simpa using hj))) (qD rfl (zR (cs := [d]) ag26 sz26 rfl (fun j u hj => ee.cell (by simpa using hj))) (qI rfl (zO (vs := [.agg #[b], .agg #[d]]) Tryz.func12 nm12 rfl rfl rfl ?_)))
 refine cC (xZ cz.pins (g.mono (cA (cA f.le k.le) q.le)) (m.mono (cA (cA (cA p f.le) k.le) q.le))) ?_
 rintro _ ef ⟨ag, x5, rfl, gr, au⟩
 refine rt9 ?_
 have eg := cz.tr au
 have gs := gq.ext au
 have gt := eb.ext au
 have gu := ec.ext au
 have gv := ed.ext au
 have gw := c9.ext au
 have gx := ee.ext au
 have gy := gr.one
 refine qM (.tuple #[.agg #[ag], .bool (prfB (formG l) (formG o))]) ?_
 refine qD rfl (yV (v := .agg #[ag]) rfl rfl) (qD rfl (yV (v := .bool (prfB (formG l) (formG o))) rfl rfl) (qI rfl (yN [vN] zr29 rfl eg.pins (fun da x6 b4 mg mh av => ?_))))
 have gz := eg.step mh av
 have mi := gs.below av
 have mj := gt.below av
 have mk := gu.below av
 have ml := gv.below av
 have mm := gw.below av
 have mn := gx.below av
 have mo := gr.below av
 have mp := cP (cG ef.heap.size) av.size
 have mq := zF (cgA some b4) gs.lt
 have g0 := zF (cgA some b4) gt.lt
 have g1 := zF (cgA some b4) gu.lt
 have mr := zF (cgA some b4) gv.lt
 have ms := zF (cgA some b4) gw.lt
 have mt := zF (cgA some b4) gx.lt
 have mu : ef.heap.size ≤ da ∨ da < me.heap.size := cE (by have e := Option.some.inj (cgA some b4); have := (cG ef.heap.size); omega)
 have mv : w.heap.size ≤ da := by have := eg.size; omega
 refine q0 rfl rfl rfl (o_stp (cs' := [ag]) (us := [ag]) (v := .agg #[ag]) sz29 rfl rfl rfl (yF gy) gz.pins mg (cD rfl) rfl (fun eh mw mx aw x7 => ?_))
 have g2 := gz.write mx aw ((zW mv))
 have my := mi.keptA aw mq.symm
 have mz := mj.keptA aw g0.symm
 have m0 := mk.keptA aw g1.symm
 have m1 := ml.keptA aw mr.symm
 have m2 := mm.keptA aw ms.symm
 have m3 := mn.keptA aw mt.symm
 have m4 := mo.kept aw mu
 have m5 := cP mp aw.size
 refine qM (.bool (prfB (formG l) (formG o))) ?_
 refine qe (zA (zB ?_))
 refine yQ (S := fun wz => BxR wz bw [b] ∧ BxR wz bz [d] ∧ BxR wz da [ag]) (last := 5) (by kernel_rfl) rfl ?_
 have ah := bdr eh
 have m6 := g2.pins.below ah
 have g3 := g2.step m6 ah
 have m7 := my.below ah
 have m8 := mz.below ah
 have m9 := m0.below ah
 have na := m1.below ah
 have db := m2.below ah
 have dc := m3.below ah
 have dd := mw.below ah
 have nb := m4.below ah
 have nc := cP m5 ah.size
 refine dT (i := 0) rfl rfl (by kernel_rfl) (fun _ hS => zR (cs := [b]) ag26 sz26 rfl (fun j u hj => hS.1 _ _ (by simpa using hj))) ⟨db.reads, dc.reads, dd.reads⟩ ?_
 refine dT (i := 1) rfl rfl (by kernel_rfl) (fun _ hS => zR (cs := [d]) ag26 sz26 rfl (fun j u hj => hS.2.1 _ _ (by simpa using hj))) ⟨db.reads, dc.reads, dd.reads⟩ ?_
 refine dT (i := 2) rfl rfl (by kernel_rfl) (fun _ hS => zR (cs := [ag]) ag29 sz29 rfl (fun j u hj => hS.2.2 _ _ (by simpa using hj))) ⟨db.reads, dc.reads, dd.reads⟩ ?_
 refine dO (i := 3) (xJ (i := 3) rfl rfl rfl (yB rfl _) (o_stp (cs' := [b]) (us := [b]) (v := .agg #[b]) sz26 rfl rfl rfl (yF g.one) g3.pins m8 (cD rfl) rfl (fun x8 nd ne ax x9 => ?_)))
 have g4 := g3.write ne ax ((zW ca))
 have nf := m7.keptA ax bo.symm
 have ng := m9.keptA ax z
 have nh := na.keptA ax aa
 have g5 := db.keptA ax br
 have g6 := dc.keptA ax ae
 have g7 := dd.keptA ax g0
 have ni := nb.kept ax (cF eb.lt)
 have nj := cP nc ax.size
 refine ⟨fun _ => ⟨g5.reads, g6.reads, g7.reads⟩, ?_⟩
 refine dO (i := 4) (xJ (i := 4) rfl rfl rfl (yB rfl _) (o_stp (cs' := [d]) (us := [d]) (v := .agg #[d]) sz26 rfl rfl rfl (yF m.one) g4.pins ng (cD rfl) rfl (fun ya nk nl ay yb => ?_)))
 have g8 := g4.write nl ay ((zW cb))
 have nm := nf.keptA ay bp.symm
 have nn := nd.keptA ay z.symm
 have no := nh.keptA ay ab
 have np := g5.keptA ay bs
 have nq := g6.keptA ay af
 have nr := g7.keptA ay g1
 have ns := ni.kept ay (cF ec.lt)
 have nt := cP nj ay.size
 refine ⟨fun _ => ⟨np.reads, nq.reads, nr.reads⟩, ?_⟩
 refine dO (i := 5) (xJ (i := 5) rfl rfl rfl (yB rfl _) (o_stp (cs' := [ag]) (us := [ag]) (v := .agg #[ag]) sz29 rfl rfl rfl (yF gy) g8.pins no (cD rfl) rfl (fun yc nu nv cg yd => ?_)))
 have nw := g8.write nv cg ((zW cc))
 have nx := nm.keptA cg bq.symm
 have ny := nn.keptA cg aa.symm
 have nz := nk.keptA cg ab.symm
 have n0 := ns.kept cg (cF ed.lt)
 have n1 := cP nt cg.size
 refine ⟨fun h => absurd rfl h, ?_⟩
 exact zY (by kernel_rfl) (zA (cN (zQ (jX (cs := [b]) (ds := [d]) (es := [ag]) rfl rfl rfl rfl rfl rfl rfl ag26 sz26 rfl ag29 sz29 (fun j u hj => by rw [cQ]; exact ny.cell hj) (fun j u hj => by rw [cQ]; exact nz.cell hj) (fun j u hj => by rw [cQ]; exact nu.cell hj) (⟨_, _, _, _, _, _, _, _, _, _, _, rfl, (g.mono (cA (cA (cA f.le k.le) q.le) au.le)), (m.mono (cA (cA (cA (cA p f.le) k.le) q.le) au.le)), n0, cz.size, n1, vF _ _, (kJ _ _).wf, nx, (by omega), (by omega), nw⟩)))))
 refine zC (qD rfl (zR (cs := [b]) ag26 sz26 rfl (fun j u hj => c9.cell (by simpa using hj))) (q0 rfl rfl rfl (o_stp (cs' := [b]) (us := [b]) (v := .agg #[b]) sz26 rfl rfl rfl (yF g.one) cz.pins ee (cD rfl) rfl (fun n2 g9 n3 ch ye => ?_))))
 have ei := cz.write n3 ch ((zW cy))
 have n4 := gq.keptA ch cw.symm
 have hb := eb.keptA ch ae.symm
 have hd := ec.keptA ch af.symm
 have he := ed.keptA ch cx.symm
 have hf := c9.keptA ch b2.symm
 refine qe (w9a ?_)
 refine qD rfl (zR (cs := [b]) ag26 sz26 rfl (fun j u hj => hf.cell (by simpa using hj))) (qD rfl (zR (cs := [b]) ag26 sz26 rfl (fun j u hj => g9.cell (by simpa using hj))) (qI rfl (zO (vs := [.agg #[b], .agg #[b]]) Tryz.func12 nm12 rfl rfl rfl ?_)))
 refine cC (xZ ei.pins (g.mono (cA (cA f.le k.le) q.le)) (g.mono (cA (cA f.le k.le) q.le))) ?_
 rintro _ ej ⟨ai, yf, rfl, hg, az⟩
 refine rt9 ?_
 have ek := ei.tr az
 have hh := n4.ext az
 have hk := hb.ext az
 have hl := hd.ext az
 have hn := he.ext az
 have ho := hf.ext az
 have hp := g9.ext az
 have hq := hg.one
 refine qM (.tuple #[.agg #[ai], .bool (prfB (formG l) (formG l))]) ?_
 refine qD rfl (yV (v := .agg #[ai]) rfl rfl) (qD rfl (yV (v := .bool (prfB (formG l) (formG l))) rfl rfl) (qI rfl (yN [vN] zr29 rfl ek.pins (fun de yg b5 n5 n6 a0 => ?_))))
 have hr := ek.step n6 a0
 have n7 := hh.below a0
 have n8 := hk.below a0
 have n9 := hl.below a0
 have oa := hn.below a0
 have ob := ho.below a0
 have oc := hp.below a0
 have od := hg.below a0
 have oe := cP (cG ej.heap.size) a0.size
 have og := zF (cgA some b5) hh.lt
 have ht := zF (cgA some b5) hk.lt
 have hu := zF (cgA some b5) hl.lt
 have oh := zF (cgA some b5) hn.lt
 have oi := zF (cgA some b5) ho.lt
 have oj := zF (cgA some b5) hp.lt
 have ol : ej.heap.size ≤ de ∨ de < n2.heap.size := cE (by have e := Option.some.inj (cgA some b5); have := (cG ej.heap.size); omega)
 have om : w.heap.size ≤ de := by have := ek.size; omega
 refine q0 rfl rfl rfl (o_stp (cs' := [ai]) (us := [ai]) (v := .agg #[ai]) sz29 rfl rfl rfl (yF hq) hr.pins n5 (cD rfl) rfl (fun el oo op a1 yh => ?_))
 have hv := hr.write op a1 ((zW om))
 have oq := n7.keptA a1 og.symm
 have os := n8.keptA a1 ht.symm
 have ot := n9.keptA a1 hu.symm
 have ou := oa.keptA a1 oh.symm
 have ov := ob.keptA a1 oi.symm
 have ow := oc.keptA a1 oj.symm
 have ox := od.kept a1 ol
 have oy := cP oe a1.size
 refine qM (.bool (prfB (formG l) (formG l))) ?_
 refine qe (zA (zB ?_))
 refine yQ (S := fun wz => BxR wz bw [b] ∧ BxR wz bz [b] ∧ BxR wz de [ai]) (last := 5) (by kernel_rfl) rfl ?_
 have aj := bdr el
 have oz := hv.pins.below aj
 have hw := hv.step oz aj
 have o0 := oq.below aj
 have o1 := os.below aj
 have o2 := ot.below aj
 have o3 := ou.below aj
 have df := ov.below aj
 have dg := ow.below aj
 have dh := oo.below aj
 have o4 := ox.below aj
 have o5 := cP oy aj.size
 refine dT (i := 0) rfl rfl (by kernel_rfl) (fun _ hS => zR (cs := [b]) ag26 sz26 rfl (fun j u hj => hS.1 _ _ (by simpa using hj))) ⟨df.reads, dg.reads, dh.reads⟩ ?_
 refine dT (i := 1) rfl rfl (by kernel_rfl) (fun _ hS => zR (cs := [b]) ag26 sz26 rfl (fun j u hj => hS.2.1 _ _ (by simpa using hj))) ⟨df.reads, dg.reads, dh.reads⟩ ?_
 refine dT (i := 2) rfl rfl (by kernel_rfl) (fun _ hS => zR (cs := [ai]) ag29 sz29 rfl (fun j u hj => hS.2.2 _ _ (by simpa using hj))) ⟨df.reads, dg.reads, dh.reads⟩ ?_
 refine dO (i := 3) (xJ (i := 3) rfl rfl rfl (yB rfl _) (o_stp (cs' := [b]) (us := [b]) (v := .agg #[b]) sz26 rfl rfl rfl (yF g.one) hw.pins o1 (cD rfl) rfl (fun yi o6 o7 a2 yj => ?_)))
 have hx := hw.write o7 a2 ((zW ca))
 have o8 := o0.keptA a2 bo.symm
 have o9 := o2.keptA a2 z
 have pa := o3.keptA a2 aa
 have hy := df.keptA a2 br
 have hz := dg.keptA a2 ae
 have h0 := dh.keptA a2 ht
 have pb := o4.kept a2 (cF hb.lt)
 have pc := cP o5 a2.size
 refine ⟨fun _ => ⟨hy.reads, hz.reads, h0.reads⟩, ?_⟩
 refine dO (i := 4) (xJ (i := 4) rfl rfl rfl (yB rfl _) (o_stp (cs' := [b]) (us := [b]) (v := .agg #[b]) sz26 rfl rfl rfl (yF g.one) hx.pins o9 (cD rfl) rfl (fun yk pd pe a3 yl => ?_)))
 have h1 := hx.write pe a3 ((zW cb))
 have pf := o8.keptA a3 bp.symm
 have pg := o6.keptA a3 z.symm
 have ph := pa.keptA a3 ab
 have pi := hy.keptA a3 bs
 have pj := hz.keptA a3 af
 have pk := h0.keptA a3 hu
 have pl := pb.kept a3 (cF hd.lt)
 have pm := cP pc a3.size
 refine ⟨fun _ => ⟨pi.reads, pj.reads, pk.reads⟩, ?_⟩
 refine dO (i := 5) (xJ (i := 5) rfl rfl rfl (yB rfl _) (o_stp (cs' := [ai]) (us := [ai]) (v := .agg #[ai]) sz29 rfl rfl rfl (yF hq) h1.pins ph (cD rfl) rfl (fun ym pn po ci yn => ?_)))
 have pp := h1.write po ci ((zW cc))
 have pq := pf.keptA ci bq.symm
 have pr := pg.keptA ci aa.symm
 have pt := pd.keptA ci ab.symm
 have pu := pl.kept ci (cF he.lt)
 have pv := cP pm ci.size
 refine ⟨fun h => absurd rfl h, ?_⟩
 exact zY (by kernel_rfl) (zA (cN (zQ (jX (cs := [b]) (ds := [b]) (es := [ai]) rfl rfl rfl rfl rfl rfl rfl ag26 sz26 rfl ag29 sz29 (fun j u hj => by rw [cQ]; exact pr.cell hj) (fun j u hj => by rw [cQ]; exact pt.cell hj) (fun j u hj => by rw [cQ]; exact pn.cell hj) (⟨_, _, _, _, _, _, _, _, _, _, _, rfl, (g.mono (cA (cA (cA f.le k.le) q.le) az.le)), (g.mono (cA (cA (cA f.le k.le) q.le) az.le)), pu, ei.size, pv, vF _ _, (kJ _ _).wf, pq, (by omega), (by omega), pp⟩)))))
 refine zC (qD rfl (zR (cs := [d]) ag26 sz26 rfl (fun j u hj => c8.cell (by simpa using hj))) (qD rfl (zR (cs := [b]) ag26 sz26 rfl (fun j u hj => c7.cell (by simpa using hj))) (q0 rfl rfl rfl (o_stp (cs' := [d]) (us := [d]) (v := .agg #[d]) sz26 rfl rfl rfl (yF m.one) c6.pins c7 (cD rfl) rfl (fun yo pw px cj yp => ?_)))))
 have h2 := c6.write px cj ((zW f7))
 have py := gl.keptA cj f5.symm
 have pz := gm.keptA cj br.symm
 have p0 := gn.keptA cj bs.symm
 have p1 := gp.keptA cj f6.symm
 have p2 := c8.keptA cj b2
 refine q0 rfl rfl rfl (o_stp (cs' := [b]) (us := [b]) (v := .agg #[b]) sz26 rfl rfl rfl (yF g.one) h2.pins p2 (cD rfl) rfl (fun yq h3 p3 ck yr => ?_))
 have h4 := h2.write p3 ck ((zW cy))
 have p4 := py.keptA ck cw.symm
 have p5 := pz.keptA ck ae.symm
 have p6 := p0.keptA ck af.symm
 have p7 := p1.keptA ck cx.symm
 have h5 := pw.keptA ck b2.symm
 refine qe (zA (w9b ?_))
 refine qD rfl (zR (cs := [d]) ag26 sz26 rfl (fun j u hj => h5.cell (by simpa using hj))) (qD rfl (zR (cs := [b]) ag26 sz26 rfl (fun j u hj => h3.cell (by simpa using hj))) (qI rfl (zO (vs := [.agg #[d], .agg #[b]]) Tryz.func30 nm30 rfl rfl rfl ?_)))
 refine cC (jP h4.pins (m.mono (cA (cA p f.le) k.le)) (g.mono (cA f.le k.le)) ⟨ad.1.wf.ok, ad.1.lo⟩ ⟨ac.1.wf.ok, ac.1.lo⟩ (by omega)) ?_
 rintro _ p8 ⟨yt, rfl, x⟩
 refine rt9 ?_
 have c0 := h4.tr x
 have h6 := p4.ext x
 have em := p5.ext x
 have en := p6.ext x
 have eo := p7.ext x
 have di := h5.ext x
 have ep := h3.ext x
 refine qD rfl (xM rfl) (qe (zA ?_))
 refine qQ rfl rfl (fun p9 => ?_) (fun p9 => ?_)
 refine cM (w9a ?_)
 refine qD rfl (zR (cs := [d]) ag26 sz26 rfl (fun j u hj => di.cell (by simpa using hj))) (qD rfl (zR (cs := [b]) ag26 sz26 rfl (fun j u hj => ep.cell (by simpa using hj))) (qI rfl (zO (vs := [.agg #[d], .agg #[b]]) Tryz.func12 nm12 rfl rfl rfl ?_)))
 refine cC (xZ c0.pins (m.mono (cA (cA (cA p f.le) k.le) x.le)) (g.mono (cA (cA f.le k.le) x.le))) ?_
 rintro _ eq ⟨ak, yu, rfl, h7, a4⟩
 refine rt9 ?_
 have er := c0.tr a4
 have h8 := h6.ext a4
 have h9 := em.ext a4
 have ia := en.ext a4
 have ib := eo.ext a4
 have ic := di.ext a4
 have ie := ep.ext a4
 have ig := h7.one
 refine qM (.tuple #[.agg #[ak], .bool (prfB (formG o) (formG l))]) ?_
 refine qD rfl (yV (v := .agg #[ak]) rfl rfl) (qD rfl (yV (v := .bool (prfB (formG o) (formG l))) rfl rfl) (qI rfl (yN [vN] zr29 rfl er.pins (fun dj yv b6 qa qc a5 => ?_))))
 have ih := er.step qc a5
 have qf := h8.below a5
 have qg := h9.below a5
 have qh := ia.below a5
 have qi := ib.below a5
 have qj := ic.below a5
 have qk := ie.below a5
 have ql := h7.below a5
 have qm := cP (cG eq.heap.size) a5.size
 have qn := zF (cgA some b6) h8.lt
 have ii := zF (cgA some b6) h9.lt
 have ij := zF (cgA some b6) ia.lt
 have qo := zF (cgA some b6) ib.lt
 have qp := zF (cgA some b6) ic.lt
 have qq := zF (cgA some b6) ie.lt
 have qr : eq.heap.size ≤ dj ∨ dj < p8.heap.size := cE (by have e := Option.some.inj (cgA some b6); have := (cG eq.heap.size); omega)
 have qs : w.heap.size ≤ dj := by have := er.size; omega
 refine q0 rfl rfl rfl (o_stp (cs' := [ak]) (us := [ak]) (v := .agg #[ak]) sz29 rfl rfl rfl (yF ig) ih.pins qa (cD rfl) rfl (fun et qt qu a6 yw => ?_))
 have ik := ih.write qu a6 ((zW qs))
 have qv := qf.keptA a6 qn.symm
 have qw := qg.keptA a6 ii.symm
 have qx := qh.keptA a6 ij.symm
 have qy := qi.keptA a6 qo.symm
 have qz := qj.keptA a6 qp.symm
 have q2 := qk.keptA a6 qq.symm
 have q3 := ql.kept a6 qr
 have q4 := cP qm a6.size
 refine qM (.bool (prfB (formG o) (formG l))) ?_
 refine qe (zA (zB ?_))
 refine yQ (S := fun wz => BxR wz bw [d] ∧ BxR wz bz [b] ∧ BxR wz dj [ak]) (last := 5) (by kernel_rfl) rfl ?_
 have al := bdr et
 have q5 := ik.pins.below al
 have il := ik.step q5 al
 have q6 := qv.below al
 have q7 := qw.below al
 have q8 := qx.below al
 have q9 := qy.below al
 have dk := qz.below al
 have dl := q2.below al
 have dm := qt.below al
 have ra := q3.below al
 have rb := cP q4 al.size
 refine dT (i := 0) rfl rfl (by kernel_rfl) (fun _ hS => zR (cs := [d]) ag26 sz26 rfl (fun j u hj => hS.1 _ _ (by simpa using hj))) ⟨dk.reads, dl.reads, dm.reads⟩ ?_
 refine dT (i := 1) rfl rfl (by kernel_rfl) (fun _ hS => zR (cs := [b]) ag26 sz26 rfl (fun j u hj => hS.2.1 _ _ (by simpa using hj))) ⟨dk.reads, dl.reads, dm.reads⟩ ?_
 refine dT (i := 2) rfl rfl (by kernel_rfl) (fun _ hS => zR (cs := [ak]) ag29 sz29 rfl (fun j u hj => hS.2.2 _ _ (by simpa using hj))) ⟨dk.reads, dl.reads, dm.reads⟩ ?_
 refine dO (i := 3) (xJ (i := 3) rfl rfl rfl (yB rfl _) (o_stp (cs' := [d]) (us := [d]) (v := .agg #[d]) sz26 rfl rfl rfl (yF m.one) il.pins q7 (cD rfl) rfl (fun yx rc rd a7 yy => ?_)))
 have im := il.write rd a7 ((zW ca))
 have re := q6.keptA a7 bo.symm
 have rf := q8.keptA a7 z
 have rg := q9.keptA a7 aa
 have io := dk.keptA a7 br
 have ip := dl.keptA a7 ae
 have iq := dm.keptA a7 ii
 have rh := ra.kept a7 (cF em.lt)
 have ri := cP rb a7.size
 refine ⟨fun _ => ⟨io.reads, ip.reads, iq.reads⟩, ?_⟩
 refine dO (i := 4) (xJ (i := 4) rfl rfl rfl (yB rfl _) (o_stp (cs' := [b]) (us := [b]) (v := .agg #[b]) sz26 rfl rfl rfl (yF g.one) im.pins rf (cD rfl) rfl (fun yz rj rk a8 y0 => ?_)))
 have ir := im.write rk a8 ((zW cb))
 have rl := re.keptA a8 bp.symm
 have rm := rc.keptA a8 z.symm
 have rn := rg.keptA a8 ab
 have ro := io.keptA a8 bs
 have rp := ip.keptA a8 af
 have rq := iq.keptA a8 ij
 have rr := rh.kept a8 (cF en.lt)
 have rs := cP ri a8.size
 refine ⟨fun _ => ⟨ro.reads, rp.reads, rq.reads⟩, ?_⟩
 refine dO (i := 5) (xJ (i := 5) rfl rfl rfl (yB rfl _) (o_stp (cs' := [ak]) (us := [ak]) (v := .agg #[ak]) sz29 rfl rfl rfl (yF ig) ir.pins rn (cD rfl) rfl (fun y1 rt ru cl y2 => ?_)))
 have rv := ir.write ru cl ((zW cc))
 have rx := rl.keptA cl bq.symm
 have ry := rm.keptA cl aa.symm
 have rz := rj.keptA cl ab.symm
 have r0 := rr.kept cl (cF eo.lt)
 have r1 := cP rs cl.size
 refine ⟨fun h => absurd rfl h, ?_⟩
 exact zY (by kernel_rfl) (zA (cN (zQ (jX (cs := [d]) (ds := [b]) (es := [ak]) rfl rfl rfl rfl rfl rfl rfl ag26 sz26 rfl ag29 sz29 (fun j u hj => by rw [cQ]; exact ry.cell hj) (fun j u hj => by rw [cQ]; exact rz.cell hj) (fun j u hj => by rw [cQ]; exact rt.cell hj) (⟨_, _, _, _, _, _, _, _, _, _, _, rfl, (m.mono (cA (cA (cA (cA p f.le) k.le) x.le) a4.le)), (g.mono (cA (cA (cA f.le k.le) x.le) a4.le)), r0, c0.size, r1, vF _ _, (kJ _ _).wf, rx, (by omega), (by omega), rv⟩)))))
 refine zC (qD rfl (zR (cs := [d]) ag26 sz26 rfl (fun j u hj => di.cell (by simpa using hj))) (q0 rfl rfl rfl (o_stp (cs' := [d]) (us := [d]) (v := .agg #[d]) sz26 rfl rfl rfl (yF m.one) c0.pins ep (cD rfl) rfl (fun r2 it r3 cm y3 => ?_))))
 have eu := c0.write r3 cm ((zW cy))
 have r4 := h6.keptA cm cw.symm
 have iu := em.keptA cm ae.symm
 have iv := en.keptA cm af.symm
 have iw := eo.keptA cm cx.symm
 have ix := di.keptA cm b2.symm
 refine qe (w9a ?_)
 refine qD rfl (zR (cs := [d]) ag26 sz26 rfl (fun j u hj => ix.cell (by simpa using hj))) (qD rfl (zR (cs := [d]) ag26 sz26 rfl (fun j u hj => it.cell (by simpa using hj))) (qI rfl (zO (vs := [.agg #[d], .agg #[d]]) Tryz.func12 nm12 rfl rfl rfl ?_)))
 refine cC (xZ eu.pins (m.mono (cA (cA (cA p f.le) k.le) x.le)) (m.mono (cA (cA (cA p f.le) k.le) x.le))) ?_
 rintro _ ev ⟨am, y4, rfl, iy, a9⟩
 refine rt9 ?_
 have ew := eu.tr a9
 have iz := r4.ext a9
 have i0 := iu.ext a9
 have i1 := iv.ext a9
 have i2 := iw.ext a9
 have i3 := ix.ext a9
 have i4 := it.ext a9
 have i5 := iy.one
 refine qM (.tuple #[.agg #[am], .bool (prfB (formG o) (formG o))]) ?_
 refine qD rfl (yV (v := .agg #[am]) rfl rfl) (qD rfl (yV (v := .bool (prfB (formG o) (formG o))) rfl rfl) (qI rfl (yN [vN] zr29 rfl ew.pins (fun dn y5 b7 r5 r6 ba => ?_))))
 have i6 := ew.step r6 ba
 have r7 := iz.below ba
 have r8 := i0.below ba
 have r9 := i1.below ba
 have sa := i2.below ba
 have sb := i3.below ba
 have sc := i4.below ba
 have sd := iy.below ba
 have se := cP (cG ev.heap.size) ba.size
 have sf := zF (cgA some b7) iz.lt
 have i7 := zF (cgA some b7) i0.lt
 have i8 := zF (cgA some b7) i1.lt
 have sg := zF (cgA some b7) i2.lt
 have sh := zF (cgA some b7) i3.lt
 have si := zF (cgA some b7) i4.lt
 have sj : ev.heap.size ≤ dn ∨ dn < r2.heap.size := cE (by have e := Option.some.inj (cgA some b7); have := (cG ev.heap.size); omega)
 have sk : w.heap.size ≤ dn := by have := ew.size; omega
 refine q0 rfl rfl rfl (o_stp (cs' := [am]) (us := [am]) (v := .agg #[am]) sz29 rfl rfl rfl (yF i5) i6.pins r5 (cD rfl) rfl (fun ex sl sm bb y6 => ?_))
 have i9 := i6.write sm bb ((zW sk))
 have sn := r7.keptA bb sf.symm
 have sp := r8.keptA bb i7.symm
 have sq := r9.keptA bb i8.symm
 have sr := sa.keptA bb sg.symm
 have ss := sb.keptA bb sh.symm
 have st := sc.keptA bb si.symm
 have su := sd.kept bb sj
 have sv := cP se bb.size
 refine qM (.bool (prfB (formG o) (formG o))) ?_
 refine qe (zA (zB ?_))
 refine yQ (S := fun wz => BxR wz bw [d] ∧ BxR wz bz [d] ∧ BxR wz dn [am]) (last := 5) (by kernel_rfl) rfl ?_
 have an := bdr ex
 have sw := i9.pins.below an
 have ja := i9.step sw an
 have sx := sn.below an
 have sy := sp.below an
 have sz := sq.below an
 have s0 := sr.below an
 have dp := ss.below an
 have dq := st.below an
 have dr := sl.below an
 have s1 := su.below an
 have s2 := cP sv an.size
 refine dT (i := 0) rfl rfl (by kernel_rfl) (fun _ hS => zR (cs := [d]) ag26 sz26 rfl (fun j u hj => hS.1 _ _ (by simpa using hj))) ⟨dp.reads, dq.reads, dr.reads⟩ ?_
 refine dT (i := 1) rfl rfl (by kernel_rfl) (fun _ hS => zR (cs := [d]) ag26 sz26 rfl (fun j u hj => hS.2.1 _ _ (by simpa using hj))) ⟨dp.reads, dq.reads, dr.reads⟩ ?_
 refine dT (i := 2) rfl rfl (by kernel_rfl) (fun _ hS => zR (cs := [am]) ag29 sz29 rfl (fun j u hj => hS.2.2 _ _ (by simpa using hj))) ⟨dp.reads, dq.reads, dr.reads⟩ ?_
 refine dO (i := 3) (xJ (i := 3) rfl rfl rfl (yB rfl _) (o_stp (cs' := [d]) (us := [d]) (v := .agg #[d]) sz26 rfl rfl rfl (yF m.one) ja.pins sy (cD rfl) rfl (fun y7 s3 s4 bc y8 => ?_)))
 have jb := ja.write s4 bc ((zW ca))
 have s5 := sx.keptA bc bo.symm
 have s6 := sz.keptA bc z
 have s7 := s0.keptA bc aa
 have jc := dp.keptA bc br
 have jd := dq.keptA bc ae
 have je := dr.keptA bc i7
 have s8 := s1.kept bc (cF iu.lt)
 have s9 := cP s2 bc.size
 refine ⟨fun _ => ⟨jc.reads, jd.reads, je.reads⟩, ?_⟩
 refine dO (i := 4) (xJ (i := 4) rfl rfl rfl (yB rfl _) (o_stp (cs' := [d]) (us := [d]) (v := .agg #[d]) sz26 rfl rfl rfl (yF m.one) jb.pins s6 (cD rfl) rfl (fun y9 ta tb bd za => ?_)))
 have jf := jb.write tb bd ((zW cb))
 have tc := s5.keptA bd bp.symm
 have td := s3.keptA bd z.symm
 have te := s7.keptA bd ab
 have tf := jc.keptA bd bs
 have tg := jd.keptA bd af
 have th := je.keptA bd i8
 have ti := s8.kept bd (cF iv.lt)
 have tj := cP s9 bd.size
 refine ⟨fun _ => ⟨tf.reads, tg.reads, th.reads⟩, ?_⟩
 refine dO (i := 5) (xJ (i := 5) rfl rfl rfl (yB rfl _) (o_stp (cs' := [am]) (us := [am]) (v := .agg #[am]) sz29 rfl rfl rfl (yF i5) jf.pins te (cD rfl) rfl (fun zb tk tl cn zc => ?_)))
 have tm := jf.write tl cn ((zW cc))
 have tn := tc.keptA cn bq.symm
 have tp := td.keptA cn aa.symm
 have tq := ta.keptA cn ab.symm
 have ts := ti.kept cn (cF iw.lt)
 have tt := cP tj cn.size
 refine ⟨fun h => absurd rfl h, ?_⟩
 exact zY (by kernel_rfl) (zA (cN (zQ (jX (cs := [d]) (ds := [d]) (es := [am]) rfl rfl rfl rfl rfl rfl rfl ag26 sz26 rfl ag29 sz29 (fun j u hj => by rw [cQ]; exact tp.cell hj) (fun j u hj => by rw [cQ]; exact tq.cell hj) (fun j u hj => by rw [cQ]; exact tk.cell hj) (⟨_, _, _, _, _, _, _, _, _, _, _, rfl, (m.mono (cA (cA (cA (cA p f.le) k.le) x.le) a9.le)), (m.mono (cA (cA (cA (cA p f.le) k.le) x.le) a9.le)), ts, eu.size, tt, vF _ _, (kJ _ _).wf, tn, (by omega), (by omega), tm⟩)))))
 refine qW ?_
 refine qW ?_
 refine qW ?_
 refine qW ?_
 refine qD rfl (yH (v := .bool false) rfl rfl) (qe (zA ?_))
 refine qY rfl rfl (cM (zA (w9b ?_)))
 refine qD rfl (zR (cs := [b]) ag26 sz26 rfl (fun j u hj => c4.cell (by simpa using hj))) (qD rfl (zR (cs := [d]) ag26 sz26 rfl (fun j u hj => c5.cell (by simpa using hj))) (qI rfl (zO (vs := [.agg #[b], .agg #[d]]) Tryz.func30 nm30 rfl rfl rfl ?_)))
 refine cC (jP c3.pins (g.mono f.le) (m.mono (cA p f.le)) ⟨ac.1.wf.ok, ac.1.lo⟩ ⟨ad.1.wf.ok, ad.1.lo⟩ (by omega)) ?_
 rintro _ tu ⟨zd, rfl, y⟩
 refine rt9 ?_
 have c1 := c3.tr y
 have jg := gh.ext y
 have ey := gi.ext y
 have ez := gj.ext y
 have e0 := gk.ext y
 have dt := c4.ext y
 have e1 := c5.ext y
 refine qD rfl (xM rfl) (qe (zA ?_))
 refine qQ rfl rfl (fun tv => ?_) (fun tv => ?_)
 refine cM (w9a ?_)
 refine qD rfl (zR (cs := [b]) ag26 sz26 rfl (fun j u hj => dt.cell (by simpa using hj))) (qD rfl (zR (cs := [d]) ag26 sz26 rfl (fun j u hj => e1.cell (by simpa using hj))) (qI rfl (zO (vs := [.agg #[b], .agg #[d]]) Tryz.func12 nm12 rfl rfl rfl ?_)))
 refine cC (xZ c1.pins (g.mono (cA f.le y.le)) (m.mono (cA (cA p f.le) y.le))) ?_
 rintro _ e2 ⟨ao, ze, rfl, jh, be⟩
 refine rt9 ?_
 have e3 := c1.tr be
 have ji := jg.ext be
 have jj := ey.ext be
 have jk := ez.ext be
 have jl := e0.ext be
 have jm := dt.ext be
 have jn := e1.ext be
 have jo := jh.one
 refine qM (.tuple #[.agg #[ao], .bool (prfB (formG l) (formG o))]) ?_
 refine qD rfl (yV (v := .agg #[ao]) rfl rfl) (qD rfl (yV (v := .bool (prfB (formG l) (formG o))) rfl rfl) (qI rfl (yN [vN] zr29 rfl e3.pins (fun du zf b8 tw tx bf => ?_))))
 have jp := e3.step tx bf
 have ty := ji.below bf
 have tz := jj.below bf
 have t0 := jk.below bf
 have t1 := jl.below bf
 have t2 := jm.below bf
 have t3 := jn.below bf
 have t4 := jh.below bf
 have t5 := cP (cG e2.heap.size) bf.size
 have t6 := zF (cgA some b8) ji.lt
 have jq := zF (cgA some b8) jj.lt
 have jr := zF (cgA some b8) jk.lt
 have t7 := zF (cgA some b8) jl.lt
 have t8 := zF (cgA some b8) jm.lt
 have t9 := zF (cgA some b8) jn.lt
 have ua : e2.heap.size ≤ du ∨ du < tu.heap.size := cE (by have e := Option.some.inj (cgA some b8); have := (cG e2.heap.size); omega)
 have ub : w.heap.size ≤ du := by have := e3.size; omega
 refine q0 rfl rfl rfl (o_stp (cs' := [ao]) (us := [ao]) (v := .agg #[ao]) sz29 rfl rfl rfl (yF jo) jp.pins tw (cD rfl) rfl (fun e4 uc ud bg zg => ?_))
 have js := jp.write ud bg ((zW ub))
 have ue := ty.keptA bg t6.symm
 have uf := tz.keptA bg jq.symm
 have ug := t0.keptA bg jr.symm
 have uh := t1.keptA bg t7.symm
 have ui := t2.keptA bg t8.symm
 have uj := t3.keptA bg t9.symm
 have uk := t4.kept bg ua
 have ul := cP t5 bg.size
 refine qM (.bool (prfB (formG l) (formG o))) ?_
 refine qe (zA (zB ?_))
 refine yQ (S := fun wz => BxR wz bw [b] ∧ BxR wz bz [d] ∧ BxR wz du [ao]) (last := 5) (by kernel_rfl) rfl ?_
 have ap := bdr e4
 have um := js.pins.below ap
 have jt := js.step um ap
 have un := ue.below ap
 have uo := uf.below ap
 have up := ug.below ap
 have uq := uh.below ap
 have dv := ui.below ap
 have dw := uj.below ap
 have dx := uc.below ap
 have ur := uk.below ap
 have ut := cP ul ap.size
 refine dT (i := 0) rfl rfl (by kernel_rfl) (fun _ hS => zR (cs := [b]) ag26 sz26 rfl (fun j u hj => hS.1 _ _ (by simpa using hj))) ⟨dv.reads, dw.reads, dx.reads⟩ ?_
 refine dT (i := 1) rfl rfl (by kernel_rfl) (fun _ hS => zR (cs := [d]) ag26 sz26 rfl (fun j u hj => hS.2.1 _ _ (by simpa using hj))) ⟨dv.reads, dw.reads, dx.reads⟩ ?_
 refine dT (i := 2) rfl rfl (by kernel_rfl) (fun _ hS => zR (cs := [ao]) ag29 sz29 rfl (fun j u hj => hS.2.2 _ _ (by simpa using hj))) ⟨dv.reads, dw.reads, dx.reads⟩ ?_
 refine dO (i := 3) (xJ (i := 3) rfl rfl rfl (yB rfl _) (o_stp (cs' := [b]) (us := [b]) (v := .agg #[b]) sz26 rfl rfl rfl (yF g.one) jt.pins uo (cD rfl) rfl (fun zh uu uv bh zi => ?_)))
 have ju := jt.write uv bh ((zW ca))
 have uw := un.keptA bh bo.symm
 have ux := up.keptA bh z
 have uy := uq.keptA bh aa
 have jv := dv.keptA bh br
 have jw := dw.keptA bh ae
 have jx := dx.keptA bh jq
 have uz := ur.kept bh (cF ey.lt)
 have u0 := cP ut bh.size
 refine ⟨fun _ => ⟨jv.reads, jw.reads, jx.reads⟩, ?_⟩
 refine dO (i := 4) (xJ (i := 4) rfl rfl rfl (yB rfl _) (o_stp (cs' := [d]) (us := [d]) (v := .agg #[d]) sz26 rfl rfl rfl (yF m.one) ju.pins ux (cD rfl) rfl (fun zj u1 u2 bi zk => ?_)))
 have jy := ju.write u2 bi ((zW cb))
 have u3 := uw.keptA bi bp.symm
 have u4 := uu.keptA bi z.symm
 have u5 := uy.keptA bi ab
 have u6 := jv.keptA bi bs
 have u7 := jw.keptA bi af
 have u8 := jx.keptA bi jr
 have u9 := uz.kept bi (cF ez.lt)
 have va := cP u0 bi.size
 refine ⟨fun _ => ⟨u6.reads, u7.reads, u8.reads⟩, ?_⟩
 refine dO (i := 5) (xJ (i := 5) rfl rfl rfl (yB rfl _) (o_stp (cs' := [ao]) (us := [ao]) (v := .agg #[ao]) sz29 rfl rfl rfl (yF jo) jy.pins u5 (cD rfl) rfl (fun zl vb vc co zm => ?_)))
 have vd := jy.write vc co ((zW cc))
 have ve := u3.keptA co bq.symm
 have vf := u4.keptA co aa.symm
 have vg := u1.keptA co ab.symm
 have vh := u9.kept co (cF e0.lt)
 have vi := cP va co.size
 refine ⟨fun h => absurd rfl h, ?_⟩
 exact zY (by kernel_rfl) (zA (cN (zQ (jX (cs := [b]) (ds := [d]) (es := [ao]) rfl rfl rfl rfl rfl rfl rfl ag26 sz26 rfl ag29 sz29 (fun j u hj => by rw [cQ]; exact vf.cell hj) (fun j u hj => by rw [cQ]; exact vg.cell hj) (fun j u hj => by rw [cQ]; exact vb.cell hj) (⟨_, _, _, _, _, _, _, _, _, _, _, rfl, (g.mono (cA (cA f.le y.le) be.le)), (m.mono (cA (cA (cA p f.le) y.le) be.le)), vh, c1.size, vi, vF _ _, (kJ _ _).wf, ve, (by omega), (by omega), vd⟩)))))
 refine zC (qD rfl (zR (cs := [b]) ag26 sz26 rfl (fun j u hj => dt.cell (by simpa using hj))) (q0 rfl rfl rfl (o_stp (cs' := [b]) (us := [b]) (v := .agg #[b]) sz26 rfl rfl rfl (yF g.one) c1.pins e1 (cD rfl) rfl (fun vj jz vk cp zn => ?_))))
 have e5 := c1.write vk cp ((zW cy))
 have vl := jg.keptA cp cw.symm
 have j0 := ey.keptA cp ae.symm
 have j1 := ez.keptA cp af.symm
 have j2 := e0.keptA cp cx.symm
 have j3 := dt.keptA cp b2.symm
 refine qe (w9a ?_)
 refine qD rfl (zR (cs := [b]) ag26 sz26 rfl (fun j u hj => j3.cell (by simpa using hj))) (qD rfl (zR (cs := [b]) ag26 sz26 rfl (fun j u hj => jz.cell (by simpa using hj))) (qI rfl (zO (vs := [.agg #[b], .agg #[b]]) Tryz.func12 nm12 rfl rfl rfl ?_)))
 refine cC (xZ e5.pins (g.mono (cA f.le y.le)) (g.mono (cA f.le y.le))) ?_
 rintro _ e6 ⟨aq, zo, rfl, j4, bj⟩
 refine rt9 ?_
 have e7 := e5.tr bj
 have j5 := vl.ext bj
 have j6 := j0.ext bj
 have j7 := j1.ext bj
 have j8 := j2.ext bj
 have j9 := j3.ext bj
 have ka := jz.ext bj
 have kb := j4.one
 refine qM (.tuple #[.agg #[aq], .bool (prfB (formG l) (formG l))]) ?_
 refine qD rfl (yV (v := .agg #[aq]) rfl rfl) (qD rfl (yV (v := .bool (prfB (formG l) (formG l))) rfl rfl) (qI rfl (yN [vN] zr29 rfl e7.pins (fun dy zp b9 vm vn bk => ?_))))
 have kc := e7.step vn bk
 have vo := j5.below bk
 have vp := j6.below bk
 have vq := j7.below bk
 have vr := j8.below bk
 have vt := j9.below bk
 have vu := ka.below bk
 have vv := j4.below bk
 have vw := cP (cG e6.heap.size) bk.size
 have vx := zF (cgA some b9) j5.lt
 have kd := zF (cgA some b9) j6.lt
 have ke := zF (cgA some b9) j7.lt
 have vy := zF (cgA some b9) j8.lt
 have vz := zF (cgA some b9) j9.lt
 have v0 := zF (cgA some b9) ka.lt
 have v1 : e6.heap.size ≤ dy ∨ dy < vj.heap.size := cE (by have e := Option.some.inj (cgA some b9); have := (cG e6.heap.size); omega)
 have v2 : w.heap.size ≤ dy := by have := e7.size; omega
 refine q0 rfl rfl rfl (o_stp (cs' := [aq]) (us := [aq]) (v := .agg #[aq]) sz29 rfl rfl rfl (yF kb) kc.pins vm (cD rfl) rfl (fun e8 v3 v4 bl zq => ?_))
 have kf := kc.write v4 bl ((zW v2))
 have v5 := vo.keptA bl vx.symm
 have v6 := vp.keptA bl kd.symm
 have v7 := vq.keptA bl ke.symm
 have v8 := vr.keptA bl vy.symm
 have v9 := vt.keptA bl vz.symm
 have wa := vu.keptA bl v0.symm
 have wb := vv.kept bl v1
 have wc := cP vw bl.size
 refine qM (.bool (prfB (formG l) (formG l))) ?_
 refine qe (zA (zB ?_))
 refine yQ (S := fun wz => BxR wz bw [b] ∧ BxR wz bz [b] ∧ BxR wz dy [aq]) (last := 5) (by kernel_rfl) rfl ?_
 have ar := bdr e8
 have wd := kf.pins.below ar
 have kg := kf.step wd ar
 have we := v5.below ar
 have wg := v6.below ar
 have wh := v7.below ar
 have wi := v8.below ar
 have dz := v9.below ar
 have d0 := wa.below ar
 have d1 := v3.below ar
 have wj := wb.below ar
 have wk := cP wc ar.size
 refine dT (i := 0) rfl rfl (by kernel_rfl) (fun _ hS => zR (cs := [b]) ag26 sz26 rfl (fun j u hj => hS.1 _ _ (by simpa using hj))) ⟨dz.reads, d0.reads, d1.reads⟩ ?_
 refine dT (i := 1) rfl rfl (by kernel_rfl) (fun _ hS => zR (cs := [b]) ag26 sz26 rfl (fun j u hj => hS.2.1 _ _ (by simpa using hj))) ⟨dz.reads, d0.reads, d1.reads⟩ ?_
 refine dT (i := 2) rfl rfl (by kernel_rfl) (fun _ hS => zR (cs := [aq]) ag29 sz29 rfl (fun j u hj => hS.2.2 _ _ (by simpa using hj))) ⟨dz.reads, d0.reads, d1.reads⟩ ?_
 refine dO (i := 3) (xJ (i := 3) rfl rfl rfl (yB rfl _) (o_stp (cs' := [b]) (us := [b]) (v := .agg #[b]) sz26 rfl rfl rfl (yF g.one) kg.pins wg (cD rfl) rfl (fun zr wl wm bm zs => ?_)))
 have kh := kg.write wm bm ((zW ca))
 have wn := we.keptA bm bo.symm
 have wo := wh.keptA bm z
 have wp := wi.keptA bm aa
 have ki := dz.keptA bm br
 have kj := d0.keptA bm ae
 have kk := d1.keptA bm kd
 have wq := wj.kept bm (cF j0.lt)
 have wr := cP wk bm.size
 refine ⟨fun _ => ⟨ki.reads, kj.reads, kk.reads⟩, ?_⟩
 refine dO (i := 4) (xJ (i := 4) rfl rfl rfl (yB rfl _) (o_stp (cs' := [b]) (us := [b]) (v := .agg #[b]) sz26 rfl rfl rfl (yF g.one) kh.pins wo (cD rfl) rfl (fun zt ws wt bn zu => ?_)))
 have kl := kh.write wt bn ((zW cb))
 have wu := wn.keptA bn bp.symm
 have wv := wl.keptA bn z.symm
 have ww := wp.keptA bn ab
 have wx := ki.keptA bn bs
 have wy := kj.keptA bn af
 have w0 := kk.keptA bn ke
 have w1 := wq.kept bn (cF j1.lt)
 have w3 := cP wr bn.size
 refine ⟨fun _ => ⟨wx.reads, wy.reads, w0.reads⟩, ?_⟩
 refine dO (i := 5) (xJ (i := 5) rfl rfl rfl (yB rfl _) (o_stp (cs' := [aq]) (us := [aq]) (v := .agg #[aq]) sz29 rfl rfl rfl (yF kb) kl.pins ww (cD rfl) rfl (fun zv w4 w5 cq zw => ?_)))
 have w6 := kl.write w5 cq ((zW cc))
 have w7 := wu.keptA cq bq.symm
 have w8 := wv.keptA cq aa.symm
 have w9 := ws.keptA cq ab.symm
 have xa := w1.kept cq (cF j2.lt)
 have xb := cP w3 cq.size
 refine ⟨fun h => absurd rfl h, ?_⟩
 exact zY (by kernel_rfl) (zA (cN (zQ (jX (cs := [b]) (ds := [b]) (es := [aq]) rfl rfl rfl rfl rfl rfl rfl ag26 sz26 rfl ag29 sz29 (fun j u hj => by rw [cQ]; exact w8.cell hj) (fun j u hj => by rw [cQ]; exact w9.cell hj) (fun j u hj => by rw [cQ]; exact w4.cell hj) (⟨_, _, _, _, _, _, _, _, _, _, _, rfl, (g.mono (cA (cA f.le y.le) bj.le)), (g.mono (cA (cA f.le y.le) bj.le)), xa, e5.size, xb, vF _ _, (kJ _ _).wf, w7, (by omega), (by omega), w6⟩)))))
end LX6
namespace LX7
open B1 C1 D1 E1 SF1 DR1 DR2 DV1 LX5 LX6
theorem pl46 : (Tryz.prog.underlying 46).bind (placesD Tryz.prog) = some [(0, 1), (1, 1), (2, 1)] := by kernel_rfl
theorem tA {w : World} {G : Pin} {v : Value} {code : List UInt8} (hP : Pins G w) (hc : RSl eByte G v code) :
  Calls Tryz.prog 6 #[v] w fun e w' => ∃ (u v r : Value) (xs ys : List Nd) (ps : List Cl) (G' : Pin), e = .returned (.tuple #[.agg #[u], .agg #[v], .agg #[r]]) ∧ RSl eNode G' u xs ∧ RSl eNode G' v ys ∧ RSl eClaim G' r ps ∧ Ext noS G w G' w' := by
 refine yA (n := 27) Tryz.func6 Tryz.ntmps6 rfl rfl ?_
 have bq := exr noS hP
 have hm := hc.max
 refine w9d ?_
 refine qI rfl (yN [vN] zr26 rfl bq.pins (fun o w2 ix cf em en => ?_))
 have br := bq.step em en
 have cg : w.heap.size ≤ o := by have := bq.size; omega
 refine qI rfl (yN [vN] zr26 rfl br.pins (fun q iy eo ch ep ci => ?_))
 have bs := br.step ep ci
 have cj := cf.below ci
 have ba := zF (cgA some eo) cf.lt
 have ck : w.heap.size ≤ q := by have := br.size; omega
 refine qI rfl (yN [vN] zr29 rfl bs.pins (fun s iz cl cm eq bt => ?_))
 have bu := bs.step eq bt
 have cn := cj.below bt
 have co := ch.below bt
 have bb := zF (cgA some cl) cj.lt
 have bc := zF (cgA some cl) ch.lt
 have cp : w.heap.size ≤ s := by have := bs.size; omega
 refine qe (w9a ?_)
 refine qM v ?_
 refine qD rfl (xQ [vN, vJ 0, .int .u64 0] [v, vJ 0, .int .u64 0] [(0, v, [v])] dK zr46 rfl pl46 rfl (cL.2 ⟨(xB hc.one), (fun _ h => by cases h)⟩) rfl) (qI rfl (xH [v, vJ 0, .int .u64 0] (v := .agg #[v, vJ 0, .int .u64 0]) rfl rfl bu.pins (fun c i0 bv cq er bd => ?_)))
 have be := bu.step er bd
 have cr := cn.below bd
 have ct := co.below bd
 have cu := cm.below bd
 have ax := zF (cgA some bv) cn.lt
 have ay := zF (cgA some bv) co.lt
 have az := zF (cgA some bv) cm.lt
 have a0 : w.heap.size ≤ c := by have := bu.size; omega
 refine qM (vP c) ?_
 refine qe (w9a ?_)
 refine qM (vP c) ?_
 refine qI rfl (zO (vs := [vP c]) Tryz.func15 nm15 rfl rfl rfl ?_)
 refine cC (eW be.pins cq hc (by omega) (by omega)) ?_
 rintro _ i1 ⟨a, d, b, i2, i3, i4, z, aa, i5, i6, et, rfl, al, bf, cv, am, cw, cx, i7, cy, i8, i9, ah⟩
 refine rt9 ?_
 have bw := be.trans ah (fun i hi => (zW a0) i hi)
 have cz := cr.extS ah (yZ ax.symm)
 have c0 := ct.extS ah (yZ ay.symm)
 have c1 := cu.extS ah (yZ az.symm)
 have ja := al.max
 have jb := bf.max
 have eu := cv.one
 have c2 : aa ≤ o ∨ o < z := cF (Nat.lt_of_lt_of_le cr.lt am)
 have c3 : aa ≤ q ∨ q < z := cF (Nat.lt_of_lt_of_le ct.lt am)
 have c4 : aa ≤ s ∨ s < z := cF (Nat.lt_of_lt_of_le cu.lt am)
 have bg : aa ≤ c ∨ c < z := cF (Nat.lt_of_lt_of_le cq.lt am)
 refine qM (.tuple #[.agg #[a], .agg #[d], .agg #[b]]) ?_
 refine qD rfl (yV (v := .agg #[a]) rfl rfl) (qD rfl (yV (v := .agg #[d]) rfl rfl) (qD rfl (yV (v := .agg #[b]) rfl rfl) (qI rfl (yN [vN] zr26 rfl bw.pins (fun f jc a1 c5 ev aj => ?_)))))
 have bx := bw.step ev aj
 have c6 := cz.below aj
 have c7 := c0.below aj
 have c8 := c1.below aj
 have c9 := cy.below aj
 have ew := cv.below aj
 have da := cP cw aj.size
 have bz := zF (cgA some a1) cz.lt
 have b0 := zF (cgA some a1) c0.lt
 have ex := zF (cgA some a1) c1.lt
 have a2 := zF (cgA some a1) cy.lt
 have b2 : aa ≤ f ∨ f < z := cE (by have e := Option.some.inj (cgA some a1); have := cw; omega)
 have ey : w.heap.size ≤ f := by have := bw.size; omega
 refine qI rfl (yN [vN] zr26 rfl bx.pins (fun g jd an db ez ai => ?_))
 have b3 := bx.step ez ai
 have dc := c6.below ai
 have dd := c7.below ai
 have de := c8.below ai
 have df := c9.below ai
 have dg := c5.below ai
 have e0 := ew.below ai
 have dh := cP da ai.size
 have bh := zF (cgA some an) c6.lt
 have bi := zF (cgA some an) c7.lt
 have di := zF (cgA some an) c8.lt
 have ao := zF (cgA some an) c9.lt
 have b4 := zF (cgA some an) c5.lt
 have bj : aa ≤ g ∨ g < z := cE (by have e := Option.some.inj (cgA some an); have := da; omega)
 have dj : w.heap.size ≤ g := by have := bx.size; omega
 refine qI rfl (yN [vN] zr29 rfl b3.pins (fun l je ak e1 e2 ab => ?_))
 have dk := b3.step e2 ab
 have e3 := dc.below ab
 have e4 := dd.below ab
 have e5 := de.below ab
 have e6 := df.below ab
 have e7 := dg.below ab
 have e8 := db.below ab
 have e9 := e0.below ab
 have fa := cP dh ab.size
 have b5 := zF (cgA some ak) dc.lt
 have b6 := zF (cgA some ak) dd.lt
 have fb := zF (cgA some ak) de.lt
 have a3 := zF (cgA some ak) df.lt
 have dl := zF (cgA some ak) dg.lt
 have b7 := zF (cgA some ak) db.lt
 have b8 : aa ≤ l ∨ l < z := cE (by have e := Option.some.inj (cgA some ak); have := dh; omega)
 have fc : w.heap.size ≤ l := by have := b3.size; omega
 refine q0 rfl rfl rfl (o_stp (cs' := [a]) (us := [a]) (v := .agg #[a]) sz26 rfl rfl rfl (yF al.one) dk.pins e7 (cD rfl) rfl (fun jf fd fe ac jg => ?_))
 have dm := dk.write fe ac ((zW ey))
 have ff := e3.keptA ac bz.symm
 have fg := e4.keptA ac b0.symm
 have fh := e5.keptA ac ex.symm
 have fi := e6.keptA ac a2.symm
 have fj := e8.keptA ac b4
 have fk := e1.keptA ac dl
 have fl := e9.kept ac b2
 have fm := cP fa ac.size
 refine q0 rfl rfl rfl (o_stp (cs' := [d]) (us := [d]) (v := .agg #[d]) sz26 rfl rfl rfl (yF bf.one) dm.pins fj (cD rfl) rfl (fun jh fn fo ad ji => ?_))
 have dn := dm.write fo ad ((zW dj))
 have fp := ff.keptA ad bh.symm
 have fq := fg.keptA ad bi.symm
 have fr := fh.keptA ad di.symm
 have fs := fi.keptA ad ao.symm
 have ft := fd.keptA ad b4.symm
 have fu := fk.keptA ad b7
 have fv := fl.kept ad bj
 have fw := cP fm ad.size
 refine q0 rfl rfl rfl (o_stp (cs' := [b]) (us := [b]) (v := .agg #[b]) sz29 rfl rfl rfl (yF eu) dn.pins fu (cD rfl) rfl (fun jj fx fy ae jk => ?_))
 have dp := dn.write fy ae ((zW fc))
 have fz := fp.keptA ae b5.symm
 have f0 := fq.keptA ae b6.symm
 have f1 := fr.keptA ae fb.symm
 have f2 := fs.keptA ae a3.symm
 have f3 := ft.keptA ae dl.symm
 have f4 := fn.keptA ae b7.symm
 have f5 := fv.kept ae b8
 have f6 := cP fw ae.size
 refine qe (zA (w9b ?_))
 refine qM (vP c) ?_
 refine qI rfl (zO (vs := [vP c, vJ 10]) Tryz.func16 nm16 rfl rfl rfl ?_)
 refine cC (mC dp.pins f2 (hc.mono ah.le) (by omega) (by omega) (n := 10) (by omega)) ?_
 rintro _ bk ⟨jl, jm, jn, rfl, dq, jo, jp, af⟩
 refine rt9 ?_
 have bl := dp.trans af (fun i hi => (zW a0) i hi)
 have dr := fz.extS af (yZ ax.symm)
 have dt := f0.extS af (yZ ay.symm)
 have du := f1.extS af (yZ az.symm)
 have dv := f3.extS af (yZ a2)
 have dw := f4.extS af (yZ ao)
 have dx := fx.extS af (yZ a3)
 have dy := f5.extS af (fun k h1 h2 h3 => by cases h3; have h4 := bg; omega)
 have dz := cP f6 af.size
 refine qe (zA ?_)
 refine c_if rfl rfl (fun ga => ?_) (fun ga => ?_)
 refine zC (qM (vP c) ?_)
 refine qI rfl (zO (vs := [vP c, vJ 2]) Tryz.func17 nm17 rfl rfl rfl ?_)
 refine cC (eH (n := 2) bl.pins dq (hc.mono ah.le) (by omega) (by omega) (by omega)) ?_
 rintro _ jq ⟨m, jr, js, jt, gb, rfl, bm, gc, ju, jv, t⟩
 refine rt9 ?_
 have d0 := bl.trans t (fun i hi => (zW a0) i hi)
 have gd := dr.extS t (yZ ax.symm)
 have ge := dt.extS t (yZ ay.symm)
 have gf := du.extS t (yZ az.symm)
 have gg := dv.extS t (yZ a2)
 have gh := dw.extS t (yZ ao)
 have gi := dx.extS t (yZ a3)
 have gj := dy.extS t (fun k h1 h2 h3 => by cases h3; have h4 := bg; omega)
 have gk := cP dz t.size
 have jw := bm.max
 refine q0 rfl rfl rfl (o_stp (cs' := [m]) (us := [m]) (v := .agg #[m]) sz26 rfl rfl rfl (yF bm.one) d0.pins gh (cD rfl) rfl (fun bn gl gm ag jx => ?_))
 have d1 := d0.write gm ag ((zW dj))
 have gn := gd.keptA ag bh.symm
 have gp := ge.keptA ag bi.symm
 have gq := gf.keptA ag di.symm
 have gr := gc.keptA ag ao.symm
 have gs := gg.keptA ag b4.symm
 have gt := gi.keptA ag b7
 have gu := gj.kept ag bj
 have gv := cP gk ag.size
 refine qe (zA (zB ?_))
 refine yQ (S := fun wz => BxR wz f [a] ∧ BxR wz g [m] ∧ BxR wz l [b]) (last := 7) (by kernel_rfl) rfl ?_
 have x := bdr bn
 have gw := d1.pins.below x
 have gx := d1.step gw x
 have gy := gn.below x
 have gz := gp.below x
 have g0 := gq.below x
 have g1 := gr.below x
 have a4 := gs.below x
 have a5 := gl.below x
 have a6 := gt.below x
 have g2 := gu.below x
 have g3 := cP gv x.size
 refine dT (i := 0) rfl rfl (by kernel_rfl) (fun _ hS => zR (cs := [a]) ag26 sz26 rfl (fun j u hj => hS.1 _ _ (by simpa using hj))) ⟨a4.reads, a5.reads, a6.reads⟩ ?_
 refine dT (i := 1) rfl rfl (by kernel_rfl) (fun _ hS => zR (cs := [m]) ag26 sz26 rfl (fun j u hj => hS.2.1 _ _ (by simpa using hj))) ⟨a4.reads, a5.reads, a6.reads⟩ ?_
 refine dT (i := 2) rfl rfl (by kernel_rfl) (fun _ _ => zU (v := vP c) rfl) ⟨a4.reads, a5.reads, a6.reads⟩ ?_
 refine dT (i := 3) rfl rfl (by kernel_rfl) (fun _ hS => zR (cs := [b]) ag29 sz29 rfl (fun j u hj => hS.2.2 _ _ (by simpa using hj))) ⟨a4.reads, a5.reads, a6.reads⟩ ?_
 have g4 : BxL gb bn.drew [(o, [vN]), (q, [vN]), (s, [vN]), (f, [a]), (g, [m]), (l, [b])] := (BxL.cons gy (BxL.cons gz (BxL.cons g0 (BxL.cons a4 (BxL.cons a5 (BxL.cons a6 BxL.nil))))))
 have g5 : NotB [(o, [vN]), (q, [vN]), (s, [vN]), (f, [a]), (g, [m]), (l, [b])] (some c) := (NotB.cons ax.symm (NotB.cons ay.symm (NotB.cons az.symm (NotB.cons a2 (NotB.cons ao (NotB.cons a3 NotB.nil))))))
 have g6 : ∀ p ∈ ([(o, [vN]), (q, [vN]), (s, [vN]), (f, [a]), (g, [m]), (l, [b])] : List (Nat × List Value)), aa ≤ p.1 ∨ p.1 < z := (qP c2 (qP c3 (qP c4 (qP b2 (qP bj (qP b8 rng_nil))))))
 refine dP (i := 4) rfl rfl (zO (vs := [vP c, .agg #[b]]) Tryz.func18 nm18 rfl rfl rfl ?_)
 refine cC (pG gx g1 (hc.mono (cA ah.le t.le)) (by omega) (by omega) a0 g2 g3 (cP be.size am) bg cx g4 g5 g6) ?_
 rintro _ jy ⟨bo, jz, j0, rfl, cb, ap, d2, d3⟩
 refine rt9 ?_
 have g7 := ap (o, [vN]) (List.mem_cons_self)
 have g8 := ap (q, [vN]) (List.mem_cons_of_mem _ (List.mem_cons_self))
 have g9 := ap (s, [vN]) (List.mem_cons_of_mem _ (List.mem_cons_of_mem _ (List.mem_cons_self)))
 have d4 := ap (f, [a]) (List.mem_cons_of_mem _ (List.mem_cons_of_mem _ (List.mem_cons_of_mem _ (List.mem_cons_self))))
 have d5 := ap (g, [m]) (List.mem_cons_of_mem _ (List.mem_cons_of_mem _ (List.mem_cons_of_mem _ (List.mem_cons_of_mem _ (List.mem_cons_self)))))
 have d6 := ap (l, [b]) (List.mem_cons_of_mem _ (List.mem_cons_of_mem _ (List.mem_cons_of_mem _ (List.mem_cons_of_mem _ (List.mem_cons_of_mem _ (List.mem_cons_self))))))
 have j1 := cb.max
 refine ⟨fun _ => ⟨d4.reads, d5.reads, d6.reads⟩, ?_⟩
 refine dO (i := 5) (xJ (i := 5) rfl rfl rfl (yB rfl _) (o_stp (cs' := [a]) (us := [a]) (v := .agg #[a]) sz26 rfl rfl rfl (yF al.one) d3.pins g7 (cD rfl) rfl (fun j2 ha hb aq j3 => ?_)))
 have d7 := d3.write hb aq ((zW cg))
 have hd := g8.keptA aq ba
 have he := g9.keptA aq bb
 have d8 := d4.keptA aq bz
 have d9 := d5.keptA aq bh
 have ea := d6.keptA aq b5
 refine ⟨fun _ => ⟨d8.reads, d9.reads, ea.reads⟩, ?_⟩
 refine dO (i := 6) (xJ (i := 6) rfl rfl rfl (yB rfl _) (o_stp (cs' := [m]) (us := [m]) (v := .agg #[m]) sz26 rfl rfl rfl (yF bm.one) d7.pins hd (cD rfl) rfl (fun j4 hf hg ar j5 => ?_)))
 have eb := d7.write hg ar ((zW ck))
 have hh := ha.keptA ar ba.symm
 have hk := he.keptA ar bc
 have hl := d8.keptA ar b0
 have hn := d9.keptA ar bi
 have ho := ea.keptA ar b6
 refine ⟨fun _ => ⟨hl.reads, hn.reads, ho.reads⟩, ?_⟩
 refine dO (i := 7) (xJ (i := 7) rfl rfl rfl (yB rfl _) (o_stp (cs' := [bo]) (us := [bo]) (v := .agg #[bo]) sz29 rfl rfl rfl (yF cb.one) eb.pins hk (cD rfl) rfl (fun j6 hp hq cc j7 => ?_)))
 have hr := eb.write hq cc ((zW cp))
 have hs := hh.keptA cc bb.symm
 have ht := hf.keptA cc bc.symm
 refine ⟨fun h => absurd rfl h, ?_⟩
 exact zY (by kernel_rfl) (zA (cN (zQ (jX (cs := [a]) (ds := [m]) (es := [bo]) rfl rfl rfl rfl rfl rfl rfl ag26 sz26 rfl ag29 sz29 (fun j u hj => by rw [cQ]; exact hs.cell hj) (fun j u hj => by rw [cQ]; exact ht.cell hj) (fun j u hj => by rw [cQ]; exact hp.cell hj) (⟨_, _, _, _, _, _, _, rfl, (al.mono (cA t.le d2)), (bm.mono d2), cb, hr⟩)))))
 refine cM (zA (zB ?_))
 refine yQ (S := fun wz => BxR wz f [a] ∧ BxR wz g [d] ∧ BxR wz l [b]) (last := 7) (by kernel_rfl) rfl ?_
 have y := bdr bk
 have hu := bl.pins.below y
 have hv := bl.step hu y
 have hw := dr.below y
 have hx := dt.below y
 have hy := du.below y
 have hz := dq.below y
 have a7 := dv.below y
 have a8 := dw.below y
 have a9 := dx.below y
 have h0 := dy.below y
 have h5 := cP dz y.size
 refine dT (i := 0) rfl rfl (by kernel_rfl) (fun _ hS => zR (cs := [a]) ag26 sz26 rfl (fun j u hj => hS.1 _ _ (by simpa using hj))) ⟨a7.reads, a8.reads, a9.reads⟩ ?_
 refine dT (i := 1) rfl rfl (by kernel_rfl) (fun _ hS => zR (cs := [d]) ag26 sz26 rfl (fun j u hj => hS.2.1 _ _ (by simpa using hj))) ⟨a7.reads, a8.reads, a9.reads⟩ ?_
 refine dT (i := 2) rfl rfl (by kernel_rfl) (fun _ _ => zU (v := vP c) rfl) ⟨a7.reads, a8.reads, a9.reads⟩ ?_
 refine dT (i := 3) rfl rfl (by kernel_rfl) (fun _ hS => zR (cs := [b]) ag29 sz29 rfl (fun j u hj => hS.2.2 _ _ (by simpa using hj))) ⟨a7.reads, a8.reads, a9.reads⟩ ?_
 have h6 : BxL et bk.drew [(o, [vN]), (q, [vN]), (s, [vN]), (f, [a]), (g, [d]), (l, [b])] := (BxL.cons hw (BxL.cons hx (BxL.cons hy (BxL.cons a7 (BxL.cons a8 (BxL.cons a9 BxL.nil))))))
 have h7 : NotB [(o, [vN]), (q, [vN]), (s, [vN]), (f, [a]), (g, [d]), (l, [b])] (some c) := (NotB.cons ax.symm (NotB.cons ay.symm (NotB.cons az.symm (NotB.cons a2 (NotB.cons ao (NotB.cons a3 NotB.nil))))))
 have h8 : ∀ p ∈ ([(o, [vN]), (q, [vN]), (s, [vN]), (f, [a]), (g, [d]), (l, [b])] : List (Nat × List Value)), aa ≤ p.1 ∨ p.1 < z := (qP c2 (qP c3 (qP c4 (qP b2 (qP bj (qP b8 rng_nil))))))
 refine dP (i := 4) rfl rfl (zO (vs := [vP c, .agg #[b]]) Tryz.func18 nm18 rfl rfl rfl ?_)
 refine cC (pG hv hz (hc.mono ah.le) (by omega) (by omega) a0 h0 h5 (cP be.size am) bg cx h6 h7 h8) ?_
 rintro _ j8 ⟨bp, j9, ka, rfl, cd, au, ec, ed⟩
 refine rt9 ?_
 have h9 := au (o, [vN]) (List.mem_cons_self)
 have ia := au (q, [vN]) (List.mem_cons_of_mem _ (List.mem_cons_self))
 have ib := au (s, [vN]) (List.mem_cons_of_mem _ (List.mem_cons_of_mem _ (List.mem_cons_self)))
 have ee := au (f, [a]) (List.mem_cons_of_mem _ (List.mem_cons_of_mem _ (List.mem_cons_of_mem _ (List.mem_cons_self))))
 have ef := au (g, [d]) (List.mem_cons_of_mem _ (List.mem_cons_of_mem _ (List.mem_cons_of_mem _ (List.mem_cons_of_mem _ (List.mem_cons_self)))))
 have eg := au (l, [b]) (List.mem_cons_of_mem _ (List.mem_cons_of_mem _ (List.mem_cons_of_mem _ (List.mem_cons_of_mem _ (List.mem_cons_of_mem _ (List.mem_cons_self))))))
 have kb := cd.max
 refine ⟨fun _ => ⟨ee.reads, ef.reads, eg.reads⟩, ?_⟩
 refine dO (i := 5) (xJ (i := 5) rfl rfl rfl (yB rfl _) (o_stp (cs' := [a]) (us := [a]) (v := .agg #[a]) sz26 rfl rfl rfl (yF al.one) ed.pins h9 (cD rfl) rfl (fun kc ic ie av kd => ?_)))
 have eh := ed.write ie av ((zW cg))
 have ig := ia.keptA av ba
 have ih := ib.keptA av bb
 have ei := ee.keptA av bz
 have ej := ef.keptA av bh
 have ek := eg.keptA av b5
 refine ⟨fun _ => ⟨ei.reads, ej.reads, ek.reads⟩, ?_⟩
 refine dO (i := 6) (xJ (i := 6) rfl rfl rfl (yB rfl _) (o_stp (cs' := [d]) (us := [d]) (v := .agg #[d]) sz26 rfl rfl rfl (yF bf.one) eh.pins ig (cD rfl) rfl (fun ke ii ij aw kf => ?_)))
 have el := eh.write ij aw ((zW ck))
 have ik := ic.keptA aw ba.symm
 have il := ih.keptA aw bc
 have im := ei.keptA aw b0
 have io := ej.keptA aw bi
 have ip := ek.keptA aw b6
 refine ⟨fun _ => ⟨im.reads, io.reads, ip.reads⟩, ?_⟩
 refine dO (i := 7) (xJ (i := 7) rfl rfl rfl (yB rfl _) (o_stp (cs' := [bp]) (us := [bp]) (v := .agg #[bp]) sz29 rfl rfl rfl (yF cd.one) el.pins il (cD rfl) rfl (fun kg iq ir ce kh => ?_)))
 have it := el.write ir ce ((zW cp))
 have iu := ik.keptA ce bb.symm
 have iv := ii.keptA ce bc.symm
 refine ⟨fun h => absurd rfl h, ?_⟩
 exact zY (by kernel_rfl) (zA (cN (zQ (jX (cs := [a]) (ds := [d]) (es := [bp]) rfl rfl rfl rfl rfl rfl rfl ag26 sz26 rfl ag29 sz29 (fun j u hj => by rw [cQ]; exact iu.cell hj) (fun j u hj => by rw [cQ]; exact iv.cell hj) (fun j u hj => by rw [cQ]; exact iq.cell hj) (⟨_, _, _, _, _, _, _, rfl, (al.mono ec), (bf.mono ec), cd, it⟩)))))
end LX7
end Go.Proofs.YtdleojbknkbpiaaGreatDoor
