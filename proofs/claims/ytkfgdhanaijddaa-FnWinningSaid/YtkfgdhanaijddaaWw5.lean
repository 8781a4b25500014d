/- Texts of this claim in one file: DR2, DV1, DV2, WN1, WN2, WN3, N1, WM1, WM2, LWW. -/
import Derived.Test.YtkfgdhanaijddaaWw4
import Derived.Test.YtkfgdhanaijddaaChecked
set_option maxRecDepth 20000
set_option maxHeartbeats 2000000
namespace Go.Proofs.Ytkfgdhanaijddaa
namespace DR2
open Go.RowKit Go.GL Go.Proofs
open Go.Proofs.Ytkfgdhanaijddaa.B1
open Go.Proofs.Ytkfgdhanaijddaa.C1
open Go.Proofs.Ytkfgdhanaijddaa.D1
open Go.Proofs.Ytkfgdhanaijddaa.E1
open Go.Proofs.Ytkfgdhanaijddaa.MK1
open Go.Proofs.Ytkfgdhanaijddaa.DR1









theorem xH {w : World} {G : Pin} {base : Nat} {Q : List Nat} {vs us ws : List Value} {u v : Value} (hP : Pins G w) (hF : Fr 53 base G w Q vs) (hq : KQ Q) (hl : Q.length ≤ 60) (hb : base ≤ w.heap.size)
  (hu : RSl eVal G u us) (hv : RSl eVal G v ws) (hmu : ∀ x ∈ us, x ∈ vs) (hmv : ∀ x ∈ ws, x ∈ vs) (hlu : us.length ≤ 100) (hlv : ws.length ≤ 100) :
  Calls Try.prog 53 [u, v].toArray w fun e w' => ∃ (x : Value) (g : Nat) (G' : Pin), e = .returned (.agg [x].toArray) ∧ KQ (g :: Q) ∧ Fr 53 base G' w' (g :: Q) (x :: vs) ∧ Ext noS G w G' w' := by
 obtain ⟨gs, g1, g2, g3⟩ := (hF.mem hmu).games
 obtain ⟨hs, h1, h2, h3⟩ := (hF.mem hmv).games
 have ru := vals_read hu (by rw [List.length_map]; exact g1) g3
 have rv := vals_read hv (by rw [List.length_map]; exact h1) h3
 have wu := hq.allW (by omega) g2 (by omega)
 have wv := hq.allW (by omega) h2 (by omega)
 refine (l3Make_own hP ru rv wu wv).mono fun e w' ⟨x, G', e1, hr, hx, Gi, ho, hle⟩ => ?_
 have hk := hq.add (by omega) g2 h2 (by omega) (by omega)
 have hm := hk.is _ List.mem_cons_self
 exact ⟨x, _, G', e1, hk, (hF.ext hx).cons ⟨⟨Gi, ho.weaken hb, hle⟩, hr, hm.1.lo⟩, hx⟩

theorem l3Small_spec {w : World} {G : Pin} (hP : Pins G w) :
  Calls Try.prog 51 [].toArray w fun e w' => ∃ (u : Value) (vs : List Value) (Q : List Nat) (G' : Pin), e = .returned u ∧ Own eVal 26 G' w' w.heap.size u vs ∧ Fr 53 w.heap.size G' w' Q vs ∧ KQ Q ∧ vs.length = 9 ∧ Q.length = 9 ∧ Ext noS G w G' w' := by
 refine yA (n := 59) Try.func51 Try.ntmps51 rfl rfl ?_
 have bi : Ext noS G w G w := Ext.refl hP
 have ey : Fr 53 w.heap.size G w [] [] := Fr.nil
 refine zB (zC ?_)
 refine qM (.slice none 0 0) ?_
 refine qe (zA (zB (zC ?_)))
 refine qI rfl (zM (vs := [(.slice none 0 0), (.slice none 0 0)]) Try.func53 nm53 rfl rfl rfl ?_)
 refine Calls.mono (xH bi.pins ey KQ.nil (by first | omega | (simp; done) | (simp; omega)) bi.size (nil_reads _ _) (nil_reads _ _) (by simp) (by simp) (by first | omega | simp) (by first | omega | simp)) ?_
 rintro _ w4 ⟨a, g2, G3, rfl, ez, cq, e0⟩
 refine ⟨_, rfl, ?_⟩
 have bj := bi.tr e0
 have m := cq.one List.mem_cons_self
 refine qI rfl (yN [(.slice none 0 0)] zr26 rfl bj.pins (fun e1 ls lu cr e2 ct => ?_))
 have cu := bj.step e2 ct
 have e3 := cq.below ct
 have cv : w.heap.size ≤ e1 := by have := bj.size; omega
 refine q0 rfl rfl rfl (yW (cs' := [a]) (us := [a]) (v := (.agg [a].toArray)) sz26 rfl rfl rfl (yR m) cu.pins cr (Nat.le_of_ble_eq_true rfl) rfl (fun lv e4 e5 cw lw => ?_))
 have e6 := cu.write e5 cw ((yI cv))
 have e7 := e3.kept cw (fun k hk o u => by cases hk; exact cr.free o u)
 obtain ⟨e8, e9, a5, aj, lx⟩ := e4.shut e6 cv
 have fa := e7.le e9
 refine qe (zA (zB (zC ?_)))
 refine qD rfl (yC (cs := [a]) ag26 sz26 rfl (fun j u hj => a5.pins _ _ _ (aj _ _ (by simpa using hj)))) ?_
 refine qI rfl (yY (E := eVal) (e := 26) [a] a Try.underlying35 sz26 zr26 ⟨rfl, m⟩ rfl (by decide) a5.pins (fun cx fb fc fd cy ly => ?_))
 have fe := a5.step fd cy
 have ff := fa.below cy
 have fg : Own eVal 26 e8 fb w.heap.size cx ([a]) := fc.weaken a5.size
 obtain ⟨lz, ak, bk, fh, l0⟩ := fg.sealed fe
 have fi := ff.le ak
 refine qI rfl (zM (vs := [cx, (.slice none 0 0)]) Try.func53 nm53 rfl rfl rfl ?_)
 refine Calls.mono (xH bk.pins fi ez (by first | omega | (simp; done) | (simp; omega)) bk.size fh (nil_reads _ _) (by simp) (by simp) (by first | omega | simp) (by first | omega | simp)) ?_
 rintro _ l1 ⟨f, l2, l3, rfl, fj, cz, al⟩
 refine ⟨_, rfl, ?_⟩
 have bl := bk.tr al
 have a1 := cz.one List.mem_cons_self
 refine qI rfl (yN [(.slice none 0 0)] zr26 rfl bl.pins (fun fk l4 l5 c0 fl c1 => ?_))
 have c2 := bl.step fl c1
 have fm := cz.below c1
 have c3 : w.heap.size ≤ fk := by have := bl.size; omega
 refine q0 rfl rfl rfl (yW (cs' := [f]) (us := [f]) (v := (.agg [f].toArray)) sz26 rfl rfl rfl (yR a1) c2.pins c0 (Nat.le_of_ble_eq_true rfl) rfl (fun l6 fn fo c4 l7 => ?_))
 have fp := c2.write fo c4 ((yI c3))
 have fq := fm.kept c4 (fun k hk o u => by cases hk; exact c0.free o u)
 obtain ⟨fr, am, a6, bm, l8⟩ := fn.shut fp c3
 have fs := fq.le am
 refine qe (zA (zB (zC ?_)))
 refine qD rfl (yC (cs := [a]) ag26 sz26 rfl (fun j u hj => (Pins.of_le a6.pins (Pin.le_trans (Pin.le_trans ak al.le) am)) _ _ _ (aj _ _ (by simpa using hj)))) ?_
 refine qI rfl (yY (E := eVal) (e := 26) [a] a Try.underlying35 sz26 zr26 ⟨rfl, m⟩ rfl (by decide) a6.pins (fun c5 ft fu fv c6 l9 => ?_))
 have fw := a6.step fv c6
 have fx := fs.below c6
 have fy : Own eVal 26 fr ft w.heap.size c5 ([a]) := fu.weaken a6.size
 obtain ⟨ma, aa, bn, fz, mb⟩ := fy.sealed fw
 have f0 := fx.le aa
 refine qI rfl (zM (vs := [(.slice none 0 0), c5]) Try.func53 nm53 rfl rfl rfl ?_)
 refine Calls.mono (xH bn.pins f0 fj (by first | omega | (simp; done) | (simp; omega)) bn.size (nil_reads _ _) fz (by simp) (by simp) (by first | omega | simp) (by first | omega | simp)) ?_
 rintro _ mc ⟨ag, md, me, rfl, f1, c7, ab⟩
 refine ⟨_, rfl, ?_⟩
 have bo := bn.tr ab
 have a7 := c7.one List.mem_cons_self
 refine qI rfl (yN [(.slice none 0 0)] zr26 rfl bo.pins (fun f2 mf mg c8 f3 c9 => ?_))
 have da := bo.step f3 c9
 have f4 := c7.below c9
 have db : w.heap.size ≤ f2 := by have := bo.size; omega
 refine q0 rfl rfl rfl (yW (cs' := [ag]) (us := [ag]) (v := (.agg [ag].toArray)) sz26 rfl rfl rfl (yR a7) da.pins c8 (Nat.le_of_ble_eq_true rfl) rfl (fun mh f5 f6 dc mi => ?_))
 have f7 := da.write f6 dc ((yI db))
 have f8 := f4.kept dc (fun k hk o u => by cases hk; exact c8.free o u)
 obtain ⟨dd, ac, a8, de, mj⟩ := f5.shut f7 db
 have f9 := f8.le ac
 refine qe (zA (zB (zC ?_)))
 refine qD rfl (yC (cs := [a]) ag26 sz26 rfl (fun j u hj => (Pins.of_le a8.pins (Pin.le_trans (Pin.le_trans (Pin.le_trans (Pin.le_trans (Pin.le_trans ak al.le) am) aa) ab.le) ac)) _ _ _ (aj _ _ (by simpa using hj)))) ?_
 refine qI rfl (yY (E := eVal) (e := 26) [a] a Try.underlying35 sz26 zr26 ⟨rfl, m⟩ rfl (by decide) a8.pins (fun bp ga gb gc df mk => ?_))
 have a9 := a8.step gc df
 have gd := f9.below df
 have dg : Own eVal 26 dd ga w.heap.size bp ([a]) := gb.weaken a8.size
 refine qD rfl (yC (cs := [a]) ag26 sz26 rfl (fun j u hj => (Pins.of_le a9.pins (Pin.le_trans (Pin.le_trans (Pin.le_trans (Pin.le_trans (Pin.le_trans ak al.le) am) aa) ab.le) ac)) _ _ _ (aj _ _ (by simpa using hj)))) ?_
 refine qI rfl (yY (E := eVal) (e := 26) [a] a Try.underlying35 sz26 zr26 ⟨rfl, m⟩ rfl (by decide) a9.pins (fun bq ge gf gg br gh => ?_))
 have gi := a9.step gg br
 have gj := dg.below br
 have gk := gd.below br
 have gl : Apart bq.ownBlock bp.ownBlock := zE gh dg.lt
 have gm : Own eVal 26 dd ge w.heap.size bq ([a]) := gf.weaken a9.size
 obtain ⟨ml, t, gn, gp, gq⟩ := gj.sealed gi
 have gr := gm.moreO t gq gl
 have gs := gk.le t
 obtain ⟨mm, x, bs, gt, mn⟩ := gr.sealed gn
 have gu := gs.le x
 refine qI rfl (zM (vs := [bp, bq]) Try.func53 nm53 rfl rfl rfl ?_)
 refine Calls.mono (xH bs.pins gu f1 (by first | omega | (simp; done) | (simp; omega)) bs.size (gp.mono x) gt (by simp) (by simp) (by first | omega | simp) (by first | omega | simp)) ?_
 rintro _ mo ⟨b, mp, mq, rfl, gv, dh, ad⟩
 refine ⟨_, rfl, ?_⟩
 have bt := bs.tr ad
 have ar := dh.one List.mem_cons_self
 refine qI rfl (yN [(.slice none 0 0)] zr26 rfl bt.pins (fun gw mr ms di gx dj => ?_))
 have dk := bt.step gx dj
 have gy := dh.below dj
 have dl : w.heap.size ≤ gw := by have := bt.size; omega
 refine q0 rfl rfl rfl (yW (cs' := [b]) (us := [b]) (v := (.agg [b].toArray)) sz26 rfl rfl rfl (yR ar) dk.pins di (Nat.le_of_ble_eq_true rfl) rfl (fun mt gz g0 dm mu => ?_))
 have g1 := dk.write g0 dm ((yI dl))
 have g3 := gy.kept dm (fun k hk o u => by cases hk; exact di.free o u)
 obtain ⟨dn, ae, ba, a2, mv⟩ := gz.shut g1 dl
 have g4 := g3.le ae
 refine qe (zA (zB (zC ?_)))
 refine qD rfl (yC (cs := [a]) ag26 sz26 rfl (fun j u hj => (Pins.of_le ba.pins (Pin.le_trans (Pin.le_trans (Pin.le_trans (Pin.le_trans (Pin.le_trans (Pin.le_trans (Pin.le_trans (Pin.le_trans (Pin.le_trans ak al.le) am) aa) ab.le) ac) t) x) ad.le) ae)) _ _ _ (aj _ _ (by simpa using hj)))) ?_
 refine qI rfl (yY (E := eVal) (e := 26) [a] a Try.underlying35 sz26 zr26 ⟨rfl, m⟩ rfl (by decide) ba.pins (fun bu g5 g6 g7 dp mw => ?_))
 have bb := ba.step g7 dp
 have g8 := g4.below dp
 have dq : Own eVal 26 dn g5 w.heap.size bu ([a]) := g6.weaken ba.size
 refine qD rfl (yC (cs := [b]) ag26 sz26 rfl (fun j u hj => bb.pins _ _ _ (a2 _ _ (by simpa using hj)))) ?_
 refine qI rfl (yY (E := eVal) (e := 26) [b] b Try.underlying35 sz26 zr26 ⟨rfl, ar⟩ rfl (by decide) bb.pins (fun bv g9 ha hb bw hc => ?_))
 have hd := bb.step hb bw
 have he := dq.below bw
 have hf := g8.below bw
 have hg : Apart bv.ownBlock bu.ownBlock := zE hc dq.lt
 have hh : Own eVal 26 dn g9 w.heap.size bv ([b]) := ha.weaken bb.size
 obtain ⟨mx, c, hi, hl, hm⟩ := he.sealed hd
 have hn := hh.moreO c hm hg
 have ho := hf.le c
 obtain ⟨my, d, bx, hp, mz⟩ := hn.sealed hi
 have hq := ho.le d
 refine qI rfl (zM (vs := [bu, bv]) Try.func53 nm53 rfl rfl rfl ?_)
 refine Calls.mono (xH bx.pins hq gv (by first | omega | (simp; done) | (simp; omega)) bx.size (hl.mono d) hp (by simp) (by simp) (by first | omega | simp) (by first | omega | simp)) ?_
 rintro _ m0 ⟨aw, m1, m2, rfl, hr, dr, g⟩
 refine ⟨_, rfl, ?_⟩
 have bz := bx.tr g
 have b0 := dr.one List.mem_cons_self
 refine qI rfl (yN [(.slice none 0 0)] zr26 rfl bz.pins (fun hs m3 m4 ds ht dt => ?_))
 have du := bz.step ht dt
 have hu := dr.below dt
 have dv : w.heap.size ≤ hs := by have := bz.size; omega
 refine q0 rfl rfl rfl (yW (cs' := [aw]) (us := [aw]) (v := (.agg [aw].toArray)) sz26 rfl rfl rfl (yR b0) du.pins ds (Nat.le_of_ble_eq_true rfl) rfl (fun m5 hv hw dw m6 => ?_))
 have hx := du.write hw dw ((yI dv))
 have hy := hu.kept dw (fun k hk o u => by cases hk; exact ds.free o u)
 obtain ⟨dx, h, bc, hz, m7⟩ := hv.shut hx dv
 have h0 := hy.le h
 refine qe (zA (zB (zC ?_)))
 refine qD rfl (yC (cs := [a]) ag26 sz26 rfl (fun j u hj => (Pins.of_le bc.pins (Pin.le_trans (Pin.le_trans (Pin.le_trans (Pin.le_trans (Pin.le_trans (Pin.le_trans (Pin.le_trans (Pin.le_trans (Pin.le_trans (Pin.le_trans (Pin.le_trans (Pin.le_trans (Pin.le_trans ak al.le) am) aa) ab.le) ac) t) x) ad.le) ae) c) d) g.le) h)) _ _ _ (aj _ _ (by simpa using hj)))) ?_
 refine qI rfl (yY (E := eVal) (e := 26) [a] a Try.underlying35 sz26 zr26 ⟨rfl, m⟩ rfl (by decide) bc.pins (fun b1 h1 h2 h3 dy m8 => ?_))
 have bd := bc.step h3 dy
 have h4 := h0.below dy
 have dz : Own eVal 26 dx h1 w.heap.size b1 ([a]) := h2.weaken bc.size
 refine qD rfl (yC (cs := [f]) ag26 sz26 rfl (fun j u hj => (Pins.of_le bd.pins (Pin.le_trans (Pin.le_trans (Pin.le_trans (Pin.le_trans (Pin.le_trans (Pin.le_trans (Pin.le_trans (Pin.le_trans (Pin.le_trans (Pin.le_trans aa ab.le) ac) t) x) ad.le) ae) c) d) g.le) h)) _ _ _ (bm _ _ (by simpa using hj)))) ?_
 refine qI rfl (yY (E := eVal) (e := 26) [f] f Try.underlying35 sz26 zr26 ⟨rfl, a1⟩ rfl (by decide) bd.pins (fun b2 h5 h6 h7 b3 h8 => ?_))
 have h9 := bd.step h7 b3
 have ia := dz.below b3
 have ib := h4.below b3
 have ic : Apart b2.ownBlock b1.ownBlock := zE h8 dz.lt
 have ie : Own eVal 26 dx h5 w.heap.size b2 ([f]) := h6.weaken bd.size
 obtain ⟨m9, i, ig, ih, ii⟩ := ia.sealed h9
 have ij := ie.moreO i ii ic
 have ik := ib.le i
 obtain ⟨na, l, b4, il, nb⟩ := ij.sealed ig
 have im := ik.le l
 refine qI rfl (zM (vs := [b1, b2]) Try.func53 nm53 rfl rfl rfl ?_)
 refine Calls.mono (xH b4.pins im hr (by first | omega | (simp; done) | (simp; omega)) b4.size (ih.mono l) il (by simp) (by simp) (by first | omega | simp) (by first | omega | simp)) ?_
 rintro _ nc ⟨ax, nd, ne, rfl, io, d0, p⟩
 refine ⟨_, rfl, ?_⟩
 have b5 := b4.tr p
 have b6 := d0.one List.mem_cons_self
 refine qI rfl (yN [(.slice none 0 0)] zr26 rfl b5.pins (fun ip nf ng d1 iq d2 => ?_))
 have d3 := b5.step iq d2
 have ir := d0.below d2
 have d4 : w.heap.size ≤ ip := by have := b5.size; omega
 refine q0 rfl rfl rfl (yW (cs' := [ax]) (us := [ax]) (v := (.agg [ax].toArray)) sz26 rfl rfl rfl (yR b6) d3.pins d1 (Nat.le_of_ble_eq_true rfl) rfl (fun nh it iu d5 ni => ?_))
 have iv := d3.write iu d5 ((yI d4))
 have iw := ir.kept d5 (fun k hk o u => by cases hk; exact d1.free o u)
 obtain ⟨d6, q, be, ix, nj⟩ := it.shut iv d4
 have iy := iw.le q
 refine qe (zA (zB (zC ?_)))
 refine qD rfl (yC (cs := [f]) ag26 sz26 rfl (fun j u hj => (Pins.of_le be.pins (Pin.le_trans (Pin.le_trans (Pin.le_trans (Pin.le_trans (Pin.le_trans (Pin.le_trans (Pin.le_trans (Pin.le_trans (Pin.le_trans (Pin.le_trans (Pin.le_trans (Pin.le_trans (Pin.le_trans (Pin.le_trans aa ab.le) ac) t) x) ad.le) ae) c) d) g.le) h) i) l) p.le) q)) _ _ _ (bm _ _ (by simpa using hj)))) ?_
 refine qI rfl (yY (E := eVal) (e := 26) [f] f Try.underlying35 sz26 zr26 ⟨rfl, a1⟩ rfl (by decide) be.pins (fun b7 iz i0 i1 d7 nk => ?_))
 have bf := be.step i1 d7
 have i2 := iy.below d7
 have d8 : Own eVal 26 d6 iz w.heap.size b7 ([f]) := i0.weaken be.size
 refine qD rfl (yC (cs := [ag]) ag26 sz26 rfl (fun j u hj => (Pins.of_le bf.pins (Pin.le_trans (Pin.le_trans (Pin.le_trans (Pin.le_trans (Pin.le_trans (Pin.le_trans (Pin.le_trans (Pin.le_trans (Pin.le_trans (Pin.le_trans (Pin.le_trans t x) ad.le) ae) c) d) g.le) h) i) l) p.le) q)) _ _ _ (de _ _ (by simpa using hj)))) ?_
 refine qI rfl (yY (E := eVal) (e := 26) [ag] ag Try.underlying35 sz26 zr26 ⟨rfl, a7⟩ rfl (by decide) bf.pins (fun b8 i3 i4 i5 b9 i6 => ?_))
 have i7 := bf.step i5 b9
 have i8 := d8.below b9
 have i9 := i2.below b9
 have ja : Apart b8.ownBlock b7.ownBlock := zE i6 d8.lt
 have jb : Own eVal 26 d6 i3 w.heap.size b8 ([ag]) := i4.weaken bf.size
 obtain ⟨nl, r, jc, jd, je⟩ := i8.sealed i7
 have jf := jb.moreO r je ja
 have jg := i9.le r
 obtain ⟨nm, s, ca, jh, nn⟩ := jf.sealed jc
 have ji := jg.le s
 refine qI rfl (zM (vs := [b7, b8]) Try.func53 nm53 rfl rfl rfl ?_)
 refine Calls.mono (xH ca.pins ji io (by first | omega | (simp; done) | (simp; omega)) ca.size (jd.mono s) jh (by simp) (by simp) (by first | omega | simp) (by first | omega | simp)) ?_
 rintro _ no ⟨ay, np, nq, rfl, jj, d9, y⟩
 refine ⟨_, rfl, ?_⟩
 have cb := ca.tr y
 have cc := d9.one List.mem_cons_self
 refine qI rfl (yN [(.slice none 0 0)] zr26 rfl cb.pins (fun jk nr ns ea jl eb => ?_))
 have ec := cb.step jl eb
 have jm := d9.below eb
 have ed : w.heap.size ≤ jk := by have := cb.size; omega
 refine q0 rfl rfl rfl (yW (cs' := [ay]) (us := [ay]) (v := (.agg [ay].toArray)) sz26 rfl rfl rfl (yR cc) ec.pins ea (Nat.le_of_ble_eq_true rfl) rfl (fun nt jn jo ee nu => ?_))
 have jp := ec.write jo ee ((yI ed))
 have jq := jm.kept ee (fun k hk o u => by cases hk; exact ea.free o u)
 obtain ⟨ef, z, a3, jr, nv⟩ := jn.shut jp ed
 have js := jq.le z
 refine qe (zA (zB (zC ?_)))
 refine qD rfl (yC (cs := [a]) ag26 sz26 rfl (fun j u hj => (Pins.of_le a3.pins (Pin.le_trans (Pin.le_trans (Pin.le_trans (Pin.le_trans (Pin.le_trans (Pin.le_trans (Pin.le_trans (Pin.le_trans (Pin.le_trans (Pin.le_trans (Pin.le_trans (Pin.le_trans (Pin.le_trans (Pin.le_trans (Pin.le_trans (Pin.le_trans (Pin.le_trans (Pin.le_trans (Pin.le_trans (Pin.le_trans (Pin.le_trans ak al.le) am) aa) ab.le) ac) t) x) ad.le) ae) c) d) g.le) h) i) l) p.le) q) r) s) y.le) z)) _ _ _ (aj _ _ (by simpa using hj)))) ?_
 refine qD rfl (yC (cs := [b]) ag26 sz26 rfl (fun j u hj => (Pins.of_le a3.pins (Pin.le_trans (Pin.le_trans (Pin.le_trans (Pin.le_trans (Pin.le_trans (Pin.le_trans (Pin.le_trans (Pin.le_trans (Pin.le_trans (Pin.le_trans (Pin.le_trans c d) g.le) h) i) l) p.le) q) r) s) y.le) z)) _ _ _ (a2 _ _ (by simpa using hj)))) ?_
 refine qI rfl (o_buildA (E := eVal) (e := 26) [a, b] [a, b] Try.underlying35 sz26 zr26 (by exact reps2 (⟨rfl, m⟩) (⟨rfl, ar⟩)) (ones2 m ar) rfl rfl rfl rfl (by decide) a3.pins (fun cd jt ju jv eg nw => ?_))
 have a4 := a3.step jv eg
 have jw := js.below eg
 have eh : Own eVal 26 ef jt w.heap.size cd ([a, b]) := ju.weaken a3.size
 refine qD rfl (yC (cs := [a]) ag26 sz26 rfl (fun j u hj => (Pins.of_le a4.pins (Pin.le_trans (Pin.le_trans (Pin.le_trans (Pin.le_trans (Pin.le_trans (Pin.le_trans (Pin.le_trans (Pin.le_trans (Pin.le_trans (Pin.le_trans (Pin.le_trans (Pin.le_trans (Pin.le_trans (Pin.le_trans (Pin.le_trans (Pin.le_trans (Pin.le_trans (Pin.le_trans (Pin.le_trans (Pin.le_trans (Pin.le_trans ak al.le) am) aa) ab.le) ac) t) x) ad.le) ae) c) d) g.le) h) i) l) p.le) q) r) s) y.le) z)) _ _ _ (aj _ _ (by simpa using hj)))) ?_
 refine qD rfl (yC (cs := [b]) ag26 sz26 rfl (fun j u hj => (Pins.of_le a4.pins (Pin.le_trans (Pin.le_trans (Pin.le_trans (Pin.le_trans (Pin.le_trans (Pin.le_trans (Pin.le_trans (Pin.le_trans (Pin.le_trans (Pin.le_trans (Pin.le_trans c d) g.le) h) i) l) p.le) q) r) s) y.le) z)) _ _ _ (a2 _ _ (by simpa using hj)))) ?_
 refine qI rfl (o_buildA (E := eVal) (e := 26) [a, b] [a, b] Try.underlying35 sz26 zr26 (by exact reps2 (⟨rfl, m⟩) (⟨rfl, ar⟩)) (ones2 m ar) rfl rfl rfl rfl (by decide) a4.pins (fun ce jx jy jz cf j0 => ?_))
 have j1 := a4.step jz cf
 have j2 := eh.below cf
 have j3 := jw.below cf
 have j4 : Apart ce.ownBlock cd.ownBlock := zE j0 eh.lt
 have j5 : Own eVal 26 ef jx w.heap.size ce ([a, b]) := jy.weaken a4.size
 obtain ⟨nx, ah, j6, j7, j8⟩ := j2.sealed j1
 have j9 := j5.moreO ah j8 j4
 have ka := j3.le ah
 obtain ⟨ny, ai, cg, kb, nz⟩ := j9.sealed j6
 have kc := ka.le ai
 refine qI rfl (zM (vs := [cd, ce]) Try.func53 nm53 rfl rfl rfl ?_)
 refine Calls.mono (xH cg.pins kc jj (by first | omega | (simp; done) | (simp; omega)) cg.size (j7.mono ai) kb (by simp) (by simp) (by first | omega | simp) (by first | omega | simp)) ?_
 rintro _ n0 ⟨az, n1, n2, rfl, kd, ei, an⟩
 refine ⟨_, rfl, ?_⟩
 have ch := cg.tr an
 have ci := ei.one List.mem_cons_self
 refine qI rfl (yN [(.slice none 0 0)] zr26 rfl ch.pins (fun ke n3 n4 ej kf ek => ?_))
 have el := ch.step kf ek
 have kg := ei.below ek
 have em : w.heap.size ≤ ke := by have := ch.size; omega
 refine q0 rfl rfl rfl (yW (cs' := [az]) (us := [az]) (v := (.agg [az].toArray)) sz26 rfl rfl rfl (yR ci) el.pins ej (Nat.le_of_ble_eq_true rfl) rfl (fun n5 kh ki en n6 => ?_))
 have kj := el.write ki en ((yI em))
 have kk := kg.kept en (fun k hk o u => by cases hk; exact ej.free o u)
 obtain ⟨eo, ao, bg, kl, n7⟩ := kh.shut kj em
 have km := kk.le ao
 refine qe (zA (zB (zC ?_)))
 refine qD rfl (yC (cs := [b]) ag26 sz26 rfl (fun j u hj => (Pins.of_le bg.pins (Pin.le_trans (Pin.le_trans (Pin.le_trans (Pin.le_trans (Pin.le_trans (Pin.le_trans (Pin.le_trans (Pin.le_trans (Pin.le_trans (Pin.le_trans (Pin.le_trans (Pin.le_trans (Pin.le_trans (Pin.le_trans (Pin.le_trans c d) g.le) h) i) l) p.le) q) r) s) y.le) z) ah) ai) an.le) ao)) _ _ _ (a2 _ _ (by simpa using hj)))) ?_
 refine qI rfl (yY (E := eVal) (e := 26) [b] b Try.underlying35 sz26 zr26 ⟨rfl, ar⟩ rfl (by decide) bg.pins (fun cj kn ko kp ep n8 => ?_))
 have bh := bg.step kp ep
 have kq := km.below ep
 have eq : Own eVal 26 eo kn w.heap.size cj ([b]) := ko.weaken bg.size
 refine qD rfl (yC (cs := [a]) ag26 sz26 rfl (fun j u hj => (Pins.of_le bh.pins (Pin.le_trans (Pin.le_trans (Pin.le_trans (Pin.le_trans (Pin.le_trans (Pin.le_trans (Pin.le_trans (Pin.le_trans (Pin.le_trans (Pin.le_trans (Pin.le_trans (Pin.le_trans (Pin.le_trans (Pin.le_trans (Pin.le_trans (Pin.le_trans (Pin.le_trans (Pin.le_trans (Pin.le_trans (Pin.le_trans (Pin.le_trans (Pin.le_trans (Pin.le_trans (Pin.le_trans (Pin.le_trans ak al.le) am) aa) ab.le) ac) t) x) ad.le) ae) c) d) g.le) h) i) l) p.le) q) r) s) y.le) z) ah) ai) an.le) ao)) _ _ _ (aj _ _ (by simpa using hj)))) ?_
 refine qI rfl (yY (E := eVal) (e := 26) [a] a Try.underlying35 sz26 zr26 ⟨rfl, m⟩ rfl (by decide) bh.pins (fun ck kr ks kt cl ku => ?_))
 have kv := bh.step kt cl
 have kw := eq.below cl
 have kx := kq.below cl
 have ky : Apart ck.ownBlock cj.ownBlock := zE ku eq.lt
 have kz : Own eVal 26 eo kr w.heap.size ck ([a]) := ks.weaken bh.size
 obtain ⟨n9, ap, k0, k1, k2⟩ := kw.sealed kv
 have k3 := kz.moreO ap k2 ky
 have k4 := kx.le ap
 obtain ⟨oa, aq, cm, k5, ob⟩ := k3.sealed k0
 have k6 := k4.le aq
 refine qI rfl (zM (vs := [cj, ck]) Try.func53 nm53 rfl rfl rfl ?_)
 refine Calls.mono (xH cm.pins k6 kd (by first | omega | (simp; done) | (simp; omega)) cm.size (k1.mono aq) k5 (by simp) (by simp) (by first | omega | simp) (by first | omega | simp)) ?_
 rintro _ oc ⟨a0, od, oe, rfl, k7, er, au⟩
 refine ⟨_, rfl, ?_⟩
 have cn := cm.tr au
 have co := er.one List.mem_cons_self
 refine qI rfl (yN [(.slice none 0 0)] zr26 rfl cn.pins (fun k8 og oh es k9 et => ?_))
 have eu := cn.step k9 et
 have la := er.below et
 have ev : w.heap.size ≤ k8 := by have := cn.size; omega
 refine q0 rfl rfl rfl (yW (cs' := [a0]) (us := [a0]) (v := (.agg [a0].toArray)) sz26 rfl rfl rfl (yR co) eu.pins es (Nat.le_of_ble_eq_true rfl) rfl (fun oi lb lc ew oj => ?_))
 have ld := eu.write lc ew ((yI ev))
 have lf := la.kept ew (fun k hk o u => by cases hk; exact es.free o u)
 obtain ⟨lg, av, af, lh, ok⟩ := lb.shut ld ev
 have li := lf.le av
 refine qe (zA (zB (zC ?_)))
 refine qD rfl (yC (cs := [a]) ag26 sz26 rfl (fun j u hj => (Pins.of_le af.pins (Pin.le_trans (Pin.le_trans (Pin.le_trans (Pin.le_trans (Pin.le_trans (Pin.le_trans (Pin.le_trans (Pin.le_trans (Pin.le_trans (Pin.le_trans (Pin.le_trans (Pin.le_trans (Pin.le_trans (Pin.le_trans (Pin.le_trans (Pin.le_trans (Pin.le_trans (Pin.le_trans (Pin.le_trans (Pin.le_trans (Pin.le_trans (Pin.le_trans (Pin.le_trans (Pin.le_trans (Pin.le_trans (Pin.le_trans (Pin.le_trans (Pin.le_trans (Pin.le_trans ak al.le) am) aa) ab.le) ac) t) x) ad.le) ae) c) d) g.le) h) i) l) p.le) q) r) s) y.le) z) ah) ai) an.le) ao) ap) aq) au.le) av)) _ _ _ (aj _ _ (by simpa using hj)))) ?_
 refine qD rfl (yC (cs := [f]) ag26 sz26 rfl (fun j u hj => (Pins.of_le af.pins (Pin.le_trans (Pin.le_trans (Pin.le_trans (Pin.le_trans (Pin.le_trans (Pin.le_trans (Pin.le_trans (Pin.le_trans (Pin.le_trans (Pin.le_trans (Pin.le_trans (Pin.le_trans (Pin.le_trans (Pin.le_trans (Pin.le_trans (Pin.le_trans (Pin.le_trans (Pin.le_trans (Pin.le_trans (Pin.le_trans (Pin.le_trans (Pin.le_trans (Pin.le_trans (Pin.le_trans (Pin.le_trans (Pin.le_trans aa ab.le) ac) t) x) ad.le) ae) c) d) g.le) h) i) l) p.le) q) r) s) y.le) z) ah) ai) an.le) ao) ap) aq) au.le) av)) _ _ _ (bm _ _ (by simpa using hj)))) ?_
 refine qD rfl (yC (cs := [ag]) ag26 sz26 rfl (fun j u hj => (Pins.of_le af.pins (Pin.le_trans (Pin.le_trans (Pin.le_trans (Pin.le_trans (Pin.le_trans (Pin.le_trans (Pin.le_trans (Pin.le_trans (Pin.le_trans (Pin.le_trans (Pin.le_trans (Pin.le_trans (Pin.le_trans (Pin.le_trans (Pin.le_trans (Pin.le_trans (Pin.le_trans (Pin.le_trans (Pin.le_trans (Pin.le_trans (Pin.le_trans (Pin.le_trans (Pin.le_trans t x) ad.le) ae) c) d) g.le) h) i) l) p.le) q) r) s) y.le) z) ah) ai) an.le) ao) ap) aq) au.le) av)) _ _ _ (de _ _ (by simpa using hj)))) ?_
 refine qD rfl (yC (cs := [b]) ag26 sz26 rfl (fun j u hj => (Pins.of_le af.pins (Pin.le_trans (Pin.le_trans (Pin.le_trans (Pin.le_trans (Pin.le_trans (Pin.le_trans (Pin.le_trans (Pin.le_trans (Pin.le_trans (Pin.le_trans (Pin.le_trans (Pin.le_trans (Pin.le_trans (Pin.le_trans (Pin.le_trans (Pin.le_trans (Pin.le_trans (Pin.le_trans (Pin.le_trans c d) g.le) h) i) l) p.le) q) r) s) y.le) z) ah) ai) an.le) ao) ap) aq) au.le) av)) _ _ _ (a2 _ _ (by simpa using hj)))) ?_
 refine qD rfl (yC (cs := [aw]) ag26 sz26 rfl (fun j u hj => (Pins.of_le af.pins (Pin.le_trans (Pin.le_trans (Pin.le_trans (Pin.le_trans (Pin.le_trans (Pin.le_trans (Pin.le_trans (Pin.le_trans (Pin.le_trans (Pin.le_trans (Pin.le_trans (Pin.le_trans (Pin.le_trans (Pin.le_trans (Pin.le_trans i l) p.le) q) r) s) y.le) z) ah) ai) an.le) ao) ap) aq) au.le) av)) _ _ _ (hz _ _ (by simpa using hj)))) ?_
 refine qD rfl (yC (cs := [ax]) ag26 sz26 rfl (fun j u hj => (Pins.of_le af.pins (Pin.le_trans (Pin.le_trans (Pin.le_trans (Pin.le_trans (Pin.le_trans (Pin.le_trans (Pin.le_trans (Pin.le_trans (Pin.le_trans (Pin.le_trans (Pin.le_trans r s) y.le) z) ah) ai) an.le) ao) ap) aq) au.le) av)) _ _ _ (ix _ _ (by simpa using hj)))) ?_
 refine qD rfl (yC (cs := [ay]) ag26 sz26 rfl (fun j u hj => (Pins.of_le af.pins (Pin.le_trans (Pin.le_trans (Pin.le_trans (Pin.le_trans (Pin.le_trans (Pin.le_trans (Pin.le_trans ah ai) an.le) ao) ap) aq) au.le) av)) _ _ _ (jr _ _ (by simpa using hj)))) ?_
 refine qD rfl (yC (cs := [az]) ag26 sz26 rfl (fun j u hj => (Pins.of_le af.pins (Pin.le_trans (Pin.le_trans (Pin.le_trans ap aq) au.le) av)) _ _ _ (kl _ _ (by simpa using hj)))) ?_
 refine qD rfl (yC (cs := [a0]) ag26 sz26 rfl (fun j u hj => af.pins _ _ _ (lh _ _ (by simpa using hj)))) ?_
 refine qI rfl (o_buildA (E := eVal) (e := 26) [a, f, ag, b, aw, ax, ay, az, a0] [a, f, ag, b, aw, ax, ay, az, a0] Try.underlying35 sz26 zr26 (repsC (⟨rfl, m⟩) (repsC (⟨rfl, a1⟩) (repsC (⟨rfl, a7⟩) (repsC (⟨rfl, ar⟩) (repsC (⟨rfl, b0⟩) (repsC (⟨rfl, b6⟩) (repsC (⟨rfl, cc⟩) (repsC (⟨rfl, ci⟩) (repsC (⟨rfl, co⟩) repsN))))))))) (onesC m (onesC a1 (onesC a7 (onesC ar (onesC b0 (onesC b6 (onesC cc (onesC ci (onesC co onesN))))))))) rfl rfl rfl rfl (by decide) af.pins (fun cp lj lk ll ex ol => ?_))
 have lm := af.step ll ex
 have ln := li.below ex
 have lo : Own eVal 26 lg lj w.heap.size cp ([a, f, ag, b, aw, ax, ay, az, a0]) := lk.weaken af.size
 refine qM cp ?_
 refine qe (zA ?_)
 refine wp_ret ?_
 refine zS ?_
 refine zR (v := cp) rfl rfl rfl ?_
 exact ⟨_, _, _, _, rfl, lo, ln.mem (by simp), k7, rfl, rfl, lm⟩

theorem some_spec {w : World} {G : Pin} {c : Nat} {cv : Value} {code : List UInt8} {a s : Int} {l : Value} {vs : List Value} {m : Int} (hP : Pins G w) (hB : Bx G w c [cv, .int .i64 a, .int .u64 s]) (hc : RSl eByte G cv code) (ha : 0 ≤ a ∧ a + 6 ≤ 1000000) (hs : 0 ≤ s ∧ s < 18446744073709551616) (hl : RSl eVal G l vs) (hn : 1 ≤ vs.length ∧ vs.length ≤ 1000) (hm2 : 0 ≤ m ∧ m ≤ 2) :
  Calls Try.prog 52 [(.pointer (some ⟨c, 0, none⟩)), l, (vJ m)].toArray w fun e w' => ∃ (u : Value) (ys : List Value) (a' s' : Int) (G' : Pin), e = .returned u ∧ Own eVal 26 G' w' w.heap.size u ys ∧ (∀ y ∈ ys, y ∈ vs) ∧ ys.length ≤ 2 ∧ Bx G' w' c [cv, .int .i64 a', .int .u64 s'] ∧ (a ≤ a' ∧ a' ≤ a + 6) ∧ (0 ≤ s' ∧ s' < 18446744073709551616) ∧ Ext (inO (some c)) G w G' w' := by
 refine yA (n := 31) Try.func52 Try.ntmps52 rfl rfl ?_
 have r : Ext (inO (some c)) G w G w := Ext.refl hP
 have hm := hc.max
 refine zB (zC ?_)
 refine qM (.slice none 0 0) ?_
 refine qe (zA (zB (zC ?_)))
 refine qI rfl (yM (E := eVal) (e := 26) Try.underlying35 sz26 r.pins (fun f w2 ar au ae av => ?_))
 have af := r.step au ae
 have aw := hB.below ae
 have ag : Apart f.ownBlock (some c) := zI av hB.lt
 have ax : Own eVal 26 G w2 w.heap.size f ([]) := ar.weaken r.size
 refine qM f ?_
 refine qe (zA (zB (zC ?_)))
 refine qM (.pointer (some ⟨c, 0, none⟩)) ?_
 refine qM (vJ m) ?_
 refine qD rfl (yE rfl rfl (by omega)) ?_
 refine qI rfl (zM (vs := [(.pointer (some ⟨c, 0, none⟩)), (vJ (m + 1))]) Try.func48 nm48 rfl rfl rfl ?_)
 refine Calls.mono (pick_spec af.pins aw hc (by omega) (by omega) (n := (m + 1)) (by omega)) ?_
 rintro _ bm ⟨d, ay, az, rfl, bn, a0, bo, bp, ah⟩
 refine ⟨_, rfl, ?_⟩
 have a2 := af.trans ah (fun i hi => xI i hi)
 have a3 := ax.extS ah (notO ag)
 refine qM (vJ d) ?_
 refine qe (zA (zB (zB (zC ?_))))
 refine qM (vJ 0) ?_
 refine qe (zA ?_)
 refine zU ?_
 refine yH (fun (k : Nat) (en : Nat → Value) (W : World) => ∃ (ai : Nat → Value) (i : Nat) (ov : Value) (ys : List Value) (g : Int) (o : Int) (GL : Pin), en = (upd (upd (upd (upd (upd (upd ai 0 (.pointer (some ⟨c, 0, none⟩))) 1 l) 6 (.slice none 0 0)) 7 ov) 8 (vJ d)) 9 (vJ (i : Int))) ∧ k = (d).toNat - i ∧ Ext (inO (some c)) G w GL W ∧ Pin.le G GL ∧ (i : Int) ≤ d ∧ (∀ y ∈ ys, y ∈ vs) ∧ (ys.length = i) ∧ (a ≤ g ∧ g ≤ a + 2 + 2 * (i : Int)) ∧ (0 ≤ o ∧ o < 18446744073709551616) ∧ (Own eVal 26 GL W w.heap.size ov (ys)) ∧ (Bx GL W c [cv, (vJ g), (.int .u64 o)]) ∧ (Apart ov.ownBlock (some c))) _ ⟨_, 0, f, [], ay, az, G, (pS 9 (pS 8 (pS 7 (pS 6 (pS 1 (pU 0)))))), rfl, a2, Pin.le_refl _, (by omega), (fun y hy => (List.not_mem_nil hy).elim), rfl, (by omega), (by omega), a3, a0, ag⟩ ?_
 rintro bq _ br ⟨ai, i, ov, ys, g, o, GL, rfl, bs, t, x, hi, hys, hyl, hda, hds, aj, ak, aa⟩
 refine zB (zB (zC ?_))
 refine qM (vJ (i : Int)) ?_
 refine qM (vJ d) ?_
 refine qD rfl (yK rfl rfl) ?_
 refine qe (zA ?_)
 refine zZ (p := ((i : Int) : Int) < d) rfl rfl (fun a4 => ?_) (fun a4 => ?_)
 ·skip
  refine wp_skip ?_
  refine zA (zB ?_)
  refine zU ?_
  refine zC ?_
  refine qM ov ?_
  refine qM l ?_
  refine qM (.pointer (some ⟨c, 0, none⟩)) ?_
  refine qM l ?_
  refine qD rfl (zK Try.underlying35 (v := l) rfl hl) ?_
  refine qI rfl (zM (vs := [(.pointer (some ⟨c, 0, none⟩)), (vJ (vs.length : Int))]) Try.func48 nm48 rfl rfl rfl ?_)
  refine Calls.mono (pick_spec t.pins ak (hc.mono x) (by omega) (by omega) (n := (vs.length : Int)) (by omega)) ?_
  rintro _ bt ⟨b, a5, a6, rfl, bu, a7, bv, bw, al⟩
  refine ⟨_, rfl, ?_⟩
  have q := t.trans al (fun i hi => xI i hi)
  have a8 := aj.extS al (notO aa)
  refine qD rfl (zG Try.underlying35 sz26 (v := l) rfl rfl hl (by omega) (by omega)) ?_
  obtain ⟨bx, a9, ba, bz⟩ := nm_el (j := (b).toNat) default (hl.at (z := b) (by omega) (by omega)) rfl
  obtain ⟨rfl, bb⟩ := a9
  refine qD rfl (ba ag26 sz26 rfl (Pins.of_le q.pins x)) ?_
  refine qI rfl (yY (E := eVal) (e := 26) [(vs.getD (b).toNat default)] (vs.getD (b).toNat default) Try.underlying35 sz26 zr26 ⟨rfl, bb⟩ rfl (by decide) q.pins (fun am bc bd be ab b0 => ?_))
  have ac := q.step be ab
  have an := a8.below ab
  have ao := a7.below ab
  have bf : Own eVal 26 GL bc w.heap.size am ([(vs.getD (b).toNat default)]) := bd.weaken q.size
  refine qI rfl (oA (E := eVal) (v := ov) (u := am) 24 Try.underlying35 ap26 (by decide) rfl rfl ac.pins an bf.src (ac.size) (fun ad b1 bg bh ap bi => ?_))
  have bj := ac.write bh ap ((zX an))
  have bk := ao.keptA ap aa.symm
  have bl : Apart (some c) ad.ownBlock := zH aa.symm bi ao.lt
  have b2 : (ys ++ ([(vs.getD (b).toNat default)])).length = ys.length + 1 := List.length_append
  refine qM ad ?_
  refine qe ?_
  refine zW ?_
  refine zA (zC ?_)
  refine qM (vJ (i : Int)) ?_
  refine qD rfl (yE rfl rfl (by omega)) ?_
  refine qM (vJ ((i : Int) + 1)) ?_
  refine qe ?_
  refine zY ?_
  refine ⟨_, ?_, _, rfl, _, i + 1, ad, ys ++ ([(vs.getD (b).toNat default)]), a5, a6, GL, (pS 9 (pS 8 (pS 7 (pS 6 (pS 1 (pU 0)))))), rfl, bj, x, (by omega), (fun y hy => (List.mem_append.1 hy).elim (hys y) (fun h => by rw [List.mem_singleton.1 h]; exact yT (by omega))), (by simp; omega), (by omega), (by omega), bg, bk, bl.symm⟩
  omega
 refine wp_exit ?_
 refine zV ?_
 refine yD ?_
 refine yB ?_
 refine zA (zB (zC ?_))
 refine qM ov ?_
 refine qM ov ?_
 refine qe (zA ?_)
 refine wp_ret ?_
 refine zS ?_
 refine zR (v := ov) rfl rfl rfl ?_
 exact ⟨_, _, _, _, _, rfl, aj, hys, (by omega), ak, (by omega), (by omega), t⟩

theorem someO_spec {w : World} {G : Pin} {c : Nat} {cv : Value} {code : List UInt8} {a s : Int} {l : Value} {vs : List Value} {m : Int} {e base : Nat} (hP : Pins G w) (hB : Bx G w c [cv, .int .i64 a, .int .u64 s]) (hc : RSl eByte G cv code) (ha : 0 ≤ a ∧ a + 6 ≤ 1000000) (hs : 0 ≤ s ∧ s < 18446744073709551616) (hl : Own eVal e G w base l vs) (hap : Apart (some c) l.ownBlock) (hn : 1 ≤ vs.length ∧ vs.length ≤ 1000) (hm2 : 0 ≤ m ∧ m ≤ 2) :
  Calls Try.prog 52 [(.pointer (some ⟨c, 0, none⟩)), l, (.int .i64 m)].toArray w fun e w' => ∃ (u : Value) (ys : List Value) (a' s' : Int), e = .returned u ∧ Own eVal 26 G w' w.heap.size u ys ∧ (∀ y ∈ ys, y ∈ vs) ∧ ys.length ≤ 2 ∧ Bx G w' c [cv, .int .i64 a', .int .u64 s'] ∧ (a ≤ a' ∧ a' ≤ a + 6) ∧ (0 ≤ s' ∧ s' < 18446744073709551616) ∧ Ext (inO (some c)) G w G w' := by
 have hb2 : Bx (Gadd G w l) w c [cv, .int .i64 a, .int .u64 s] := ⟨hB.heap, fun o u hu => hu.elim (hB.free o u) (fun h => hap c rfl h.1)⟩
 refine (some_spec (Gadd.pins hP l) hb2 (hc.mono (Gadd.le _ _ _)) ha hs hl.read hn hm2).mono fun e w' ⟨u, ys, a', s', G', e1, ho, hm, hy, hb, h1, h2, hx⟩ => ?_
 have hle : Pin.le G G' := Pin.le_trans (Gadd.le _ _ _) hx.le
 exact ⟨u, ys, a', s', e1, ownV_anti ho hle, hm, hy, hb.anti hle, h1, h2, ext_back (Gadd.le _ _ _) hx⟩

theorem dform_spec {w : World} {G : Pin} {c : Nat} {cv : Value} {code : List UInt8} {a s : Int} {n : Int} (hP : Pins G w) (hB : Bx G w c [cv, .int .i64 a, .int .u64 s]) (hc : RSl eByte G cv code) (ha : 0 ≤ a ∧ a + (12 * n + 4) ≤ 1000000) (hs : 0 ≤ s ∧ s < 18446744073709551616) (hn : 0 ≤ n ∧ n ≤ 6) :
  Calls Try.prog 28 [(.pointer (some ⟨c, 0, none⟩)), (vJ n)].toArray w fun e w' => ∃ (u : Value) (g : Nat) (a' s' : Int) (G' : Pin), e = .returned (.agg [u].toArray) ∧ Own eNode 53 G' w' w.heap.size u (formG g) ∧ IsForm g (formG g) ∧ ((formG g).length : Int) ≤ 9 + n ∧ Bx G' w' c [cv, .int .i64 a', .int .u64 s'] ∧ (a ≤ a' ∧ a' ≤ a + (12 * n + 4)) ∧ (0 ≤ s' ∧ s' < 18446744073709551616) ∧ Ext (inO (some c)) G w G' w' := by
 refine yA (n := 40) Try.func28 Try.ntmps28 rfl rfl ?_
 have au : Ext (inO (some c)) G w G w := Ext.refl hP
 have hm := hc.max
 refine zB (zC ?_)
 refine qI rfl (yN [(.slice none 0 0)] zr26 rfl au.pins (fun h w2 b3 bh b4 bi => ?_))
 have ae := au.step b4 bi
 have bj := hB.below bi
 have l : Apart (some h) (some c) := zI (congrArg some b3) hB.lt
 have bk : w.heap.size ≤ h := by have := au.size; omega
 refine qe (zA (zB (zC ?_)))
 refine qI rfl (zM (vs := []) Try.func51 nm51 rfl rfl rfl ?_)
 refine Calls.mono (l3Small_spec ae.pins) ?_
 rintro _ b5 ⟨av, bl, b6, aw, rfl, ax, b7, b8, el, em, d⟩
 refine ⟨_, rfl, ?_⟩
 have b9 := ae.tr d
 have ca := bj.ext d
 have cb := bh.ext d
 have cc := zP ax.lt bj.lt
 have cd := zP ax.lt bh.lt
 have ce : Own eVal 26 aw b5 w.heap.size av bl := ax.weaken ae.size
 have cf := b7.wide ae.size
 refine qM av ?_
 refine qe (zA (zB (zB (zC ?_))))
 refine qM (vJ 0) ?_
 refine qe (zA ?_)
 refine zU ?_
 refine yH (fun (k : Nat) (en : Nat → Value) (W : World) => ∃ (bm : Nat → Value) (i : Nat) (lv : Value) (ls : List Value) (Q : List Nat) (a1 : Int) (s1 : Int) (GL : Pin), en = (upd (upd (upd (upd (upd bm 0 (.pointer (some ⟨c, 0, none⟩))) 1 (vJ n)) 4 (.pointer (some ⟨h, 0, none⟩))) 5 lv) 6 (vJ (i : Int))) ∧ k = n.toNat - i ∧ Ext (inO (some c)) G w GL W ∧ Pin.le aw GL ∧ (i : Int) ≤ n ∧ (Fr 53 w.heap.size GL W Q ls) ∧ (KQ Q) ∧ (ls.length = 9 + i) ∧ (Q.length = 9 + i) ∧ (a ≤ a1 ∧ a1 ≤ a + 12 * (i : Int)) ∧ (0 ≤ s1 ∧ s1 < 18446744073709551616) ∧ (Own eVal 26 GL W w.heap.size lv (ls)) ∧ (Bx GL W c [cv, (vJ a1), (.int .u64 s1)]) ∧ (Bx GL W h [(.slice none 0 0)]) ∧ (Apart lv.ownBlock (some c)) ∧ (Apart lv.ownBlock (some h))) _ ⟨_, 0, av, bl, b6, a, s, aw, (pS 6 (pS 5 (pS 4 (pS 1 (pU 0))))), rfl, b9, Pin.le_refl _, (by omega), cf, b8, (by omega), (by omega), (by omega), (by omega), ce, ca, cb, cc, cd⟩ ?_
 rintro eo _ ep ⟨bm, i, lv, ls, Q, a1, s1, GL, rfl, eq, m, q, hi, hfl, hkl, hll, hQl, hda, hds, ah, r, ay, b, bn⟩
 refine zB (zB (zC ?_))
 refine qM (vJ (i : Int)) ?_
 refine qM (vJ n) ?_
 refine qD rfl (yK rfl rfl) ?_
 refine qe (zA ?_)
 refine zZ (p := ((i : Int) : Int) < n) rfl rfl (fun cg => ?_) (fun cg => ?_)
 ·skip
  refine wp_skip ?_
  refine zA (zB ?_)
  refine zU ?_
  refine zB (zC ?_)
  refine qM (.pointer (some ⟨c, 0, none⟩)) ?_
  refine qM lv ?_
  refine qI rfl (zM (vs := [(.pointer (some ⟨c, 0, none⟩)), lv, (vJ 2)]) Try.func52 nm52 rfl rfl rfl ?_)
  refine Calls.mono (someO_spec m.pins r (hc.mono (Pin.le_trans d.le q)) (by omega) (by omega) ah b.symm (by omega) (by omega)) ?_
  rintro _ ch ⟨ai, ci, er, es, rfl, aj, cj, et, az, eu, ev, ak⟩
  refine ⟨_, rfl, ?_⟩
  have a0 := m.trans ak (fun i hi => xI i hi)
  have a2 := ah.extS ak (notO b)
  have bo := ay.extS ak (notOb l)
  have ck := hfl.turned ak (fun k hk o u => by cases hk; exact r.free o u)
  have cl := zQ aj.lt ah.lt
  have bp := zP aj.lt r.lt
  have cm := zP aj.lt ay.lt
  have bq : Own eVal 26 GL ch w.heap.size ai ci := aj.weaken m.size
  refine qM ai ?_
  refine qe (zA (zC ?_))
  refine qM lv ?_
  refine qM ai ?_
  refine qM (.pointer (some ⟨c, 0, none⟩)) ?_
  refine qM lv ?_
  refine qI rfl (zM (vs := [(.pointer (some ⟨c, 0, none⟩)), lv, (vJ 2)]) Try.func52 nm52 rfl rfl rfl ?_)
  refine Calls.mono (someO_spec a0.pins az (hc.mono (Pin.le_trans d.le q)) (by omega) (by omega) a2 b.symm (by omega) (by omega)) ?_
  rintro _ cn ⟨br, co, cp, cq, rfl, t, cr, ew, ct, ex, ey, x⟩
  refine ⟨_, rfl, ?_⟩
  have cu := a0.trans x (fun i hi => xI i hi)
  have cw := a2.extS x (notO b)
  have cx := bq.extS x (notO bp)
  have cy := bo.extS x (notOb l)
  have cz := ck.turned x (fun k hk o u => by cases hk; exact az.free o u)
  have c0 := zQ t.lt a2.lt
  have c1 := zQ t.lt bq.lt
  have c2 := zP t.lt az.lt
  have c3 := zP t.lt bo.lt
  have c4 : Own eVal 26 GL cn w.heap.size br co := t.weaken a0.size
  obtain ⟨ez, al, c5, c6, am⟩ := cx.sealed cu
  have c7 := cw.moreO al am cl.symm
  have c8 := c4.moreO al am c1
  have c9 := ct.moreO am bp.symm
  have da := cy.moreO am cm.symm
  have db := cz.le al
  obtain ⟨e0, an, a3, dc, a4⟩ := c8.sealed c5
  have dd := c7.moreO an a4 c0.symm
  have de := c9.moreO a4 c2.symm
  have df := da.moreO a4 c3.symm
  have dg := db.le an
  refine qI rfl (zM (vs := [ai, br]) Try.func53 nm53 rfl rfl rfl ?_)
  refine Calls.mono (xH a3.pins dg hkl (by first | omega | (simp; done) | (simp; omega)) a3.size (c6.mono an) dc cj cr (by first | omega | simp) (by first | omega | simp)) ?_
  rintro _ e1 ⟨y, dh, bs, rfl, di, bt, aa⟩
  refine ⟨_, rfl, ?_⟩
  have a5 := a3.tr aa
  have dj := dd.ext aa
  have dk := de.ext aa
  have dl := df.ext aa
  have dm := bt.one List.mem_cons_self
  refine qI rfl (yY (E := eVal) (e := 26) [y] y Try.underlying35 sz26 zr26 ⟨rfl, dm⟩ rfl (by decide) a5.pins (fun bu dn dp dq ab e2 => ?_))
  have a6 := a5.step dq ab
  have a7 := dj.below ab
  have bv := dk.below ab
  have bw := dl.below ab
  have dr := bt.below ab
  have ds : Own eVal 26 bs dn w.heap.size bu ([y]) := dp.weaken a5.size
  refine qI rfl (oA (E := eVal) (v := lv) (u := bu) 24 Try.underlying35 ap26 (by decide) rfl rfl a6.pins a7 ds.src (a6.size) (fun ao e3 dt du ap bx => ?_))
  have dv := a6.write du ap ((zX a7))
  have dw := bv.keptA ap b.symm
  have dx := bw.keptA ap bn.symm
  have dy := dr.kept ap a7.free
  have dz : Apart (some c) ao.ownBlock := zH b.symm bx bv.lt
  have d0 : Apart (some h) ao.ownBlock := zH bn.symm bx bw.lt
  have e4 : (ls ++ ([y])).length = ls.length + 1 := List.length_append
  refine qM ao ?_
  refine qe ?_
  refine zW ?_
  refine zA (zC ?_)
  refine qM (vJ (i : Int)) ?_
  refine qD rfl (yE rfl rfl (by omega)) ?_
  refine qM (vJ ((i : Int) + 1)) ?_
  refine qe ?_
  refine zY ?_
  refine ⟨_, ?_, _, rfl, _, i + 1, ao, ls ++ ([y]), (dh :: Q), cp, cq, bs, (pS 6 (pS 5 (pS 4 (pS 1 (pU 0))))), rfl, dv, (Pin.le_trans (Pin.le_trans (Pin.le_trans q al) an) aa.le), (by omega), (dy.mem snoc_mem), di, (by simp; omega), (by simp; omega), (by omega), (by omega), dt, dw, dx, dz.symm, d0.symm⟩
  omega
 refine wp_exit ?_
 refine zV ?_
 refine yD ?_
 refine yB ?_
 refine zA (zB (zB (zC ?_)))
 refine qM (.pointer (some ⟨c, 0, none⟩)) ?_
 refine qI rfl (zM (vs := [(.pointer (some ⟨c, 0, none⟩)), (vJ 3)]) Try.func26 nm26 rfl rfl rfl ?_)
 refine Calls.mono (one_spec m.pins r (hc.mono (Pin.le_trans d.le q)) (by omega) (by omega) (n := 3) (by omega)) ?_
 rintro _ e5 ⟨e6, e7, e8, rfl, a8, e9, fa, aq⟩
 refine ⟨_, rfl, ?_⟩
 have ac := m.trans aq (fun i hi => xI i hi)
 have ad := ah.extS aq (notO b)
 have a9 := ay.extS aq (notOb l)
 have bz := hfl.turned aq (fun k hk o u => by cases hk; exact r.free o u)
 refine qe (zA ?_)
 refine c_if rfl rfl (fun d1 => ?_) (fun d1 => ?_)
 ·skip
  refine zB (zC ?_)
  refine qM lv ?_
  refine qM (.pointer (some ⟨c, 0, none⟩)) ?_
  refine qM lv ?_
  refine qD rfl (zK Try.underlying35 (v := lv) rfl ad.read) ?_
  refine qI rfl (zM (vs := [(.pointer (some ⟨c, 0, none⟩)), (vJ (ls.length : Int))]) Try.func48 nm48 rfl rfl rfl ?_)
  refine Calls.mono (pick_spec ac.pins a8 (hc.mono (Pin.le_trans d.le q)) (by omega) (by omega) (n := (ls.length : Int)) (by omega)) ?_
  rintro _ fb ⟨f, fc, fd, rfl, fe, d2, ff, fg, ar⟩
  refine ⟨_, rfl, ?_⟩
  have ba := ac.trans ar (fun i hi => xI i hi)
  have b0 := ad.extS ar (notO b)
  have b2 := a9.extS ar (notOb l)
  have d3 := bz.turned ar (fun k hk o u => by cases hk; exact a8.free o u)
  refine qD rfl (zG Try.underlying35 sz26 (v := lv) rfl rfl b0.read (by omega) (by omega)) ?_
  obtain ⟨fh, d4, d5, fi⟩ := nm_el (j := (f).toNat) default (b0.at (z := f) (by omega) (by omega)) rfl
  obtain ⟨rfl, d6⟩ := d4
  refine qD rfl (d5 ag26 sz26 rfl (Gadd.pins ba.pins lv)) ?_
  refine q0 rfl rfl rfl (yW (cs' := [(ls.getD (f).toNat default)]) (us := [(ls.getD (f).toNat default)]) (v := (.agg [(ls.getD (f).toNat default)].toArray)) sz26 rfl rfl rfl (yR d6) ba.pins b2 (Nat.le_of_ble_eq_true rfl) rfl (fun fj d7 d8 bb fk => ?_))
  have d9 := ba.write d8 bb ((yI bk))
  have ea := d2.keptA bb l.symm
  have eb := d3.kept bb (fun k hk o u => by cases hk; exact b2.free o u)
  refine qe (zA ?_)
  refine wp_ret ?_
  refine zS ?_
  refine c_retc (cs := [(ls.getD (f).toNat default)]) rfl rfl rfl ag26 sz26 (fun j u hj => by rw [Nat.zero_add]; exact d7.cell hj) ?_
  obtain ⟨g, hgq, htk⟩ := eb (ls.getD (f).toNat default) (yT (by omega))
  obtain ⟨G2, bd, be, bf⟩ := htk.give hP d9
  have hw := hkl.w (by omega) hgq
  exact ⟨_, g, _, _, G2, rfl, bd, hkl.is g hgq, (by omega), ea.anti bf, (by omega), (by omega), be⟩
 refine wp_skip ?_
 refine zA (zB (zC ?_))
 refine qM lv ?_
 refine qM lv ?_
 refine qD rfl (zK Try.underlying35 (v := lv) rfl ad.read) ?_
 refine qD rfl (r_sub rfl rfl (by omega)) ?_
 refine qD rfl (zG Try.underlying35 sz26 (v := lv) rfl rfl ad.read (by omega) (by omega)) ?_
 obtain ⟨fl, ec, ed, fm⟩ := nm_el (j := ((ls.length : Int) - 1).toNat) default (ad.at (z := ((ls.length : Int) - 1)) (by omega) (by omega)) rfl
 obtain ⟨rfl, ee⟩ := ec
 refine qD rfl (ed ag26 sz26 rfl (Gadd.pins ac.pins lv)) ?_
 refine q0 rfl rfl rfl (yW (cs' := [(ls.getD ((ls.length : Int) - 1).toNat default)]) (us := [(ls.getD ((ls.length : Int) - 1).toNat default)]) (v := (.agg [(ls.getD ((ls.length : Int) - 1).toNat default)].toArray)) sz26 rfl rfl rfl (yR ee) ac.pins a9 (Nat.le_of_ble_eq_true rfl) rfl (fun fn ef eg bg fo => ?_))
 have eh := ac.write eg bg ((yI bk))
 have ei := a8.keptA bg l.symm
 have ej := bz.kept bg (fun k hk o u => by cases hk; exact a9.free o u)
 refine qe (zA ?_)
 refine wp_ret ?_
 refine zS ?_
 refine c_retc (cs := [(ls.getD ((ls.length : Int) - 1).toNat default)]) rfl rfl rfl ag26 sz26 (fun j u hj => by rw [Nat.zero_add]; exact ef.cell hj) ?_
 obtain ⟨g, hgq, htk⟩ := ej (ls.getD ((ls.length : Int) - 1).toNat default) (yT (by omega))
 obtain ⟨G2, bd, be, bf⟩ := htk.give hP eh
 have hw := hkl.w (by omega) hgq
 exact ⟨_, g, _, _, G2, rfl, bd, hkl.is g hgq, (by omega), ei.anti bf, (by omega), (by omega), be⟩

end DR2
end Go.Proofs.Ytkfgdhanaijddaa

set_option maxRecDepth 20000
set_option maxHeartbeats 2000000
namespace Go.Proofs.Ytkfgdhanaijddaa
namespace DV1
open Go.RowKit Go.GL Go.Proofs
open Go.Proofs.Ytkfgdhanaijddaa.B1
open Go.Proofs.Ytkfgdhanaijddaa.C1
open Go.Proofs.Ytkfgdhanaijddaa.D1
open Go.Proofs.Ytkfgdhanaijddaa.E1
open Go.Proofs.Ytkfgdhanaijddaa.MK1
open Go.Proofs.Ytkfgdhanaijddaa.DR1
open Go.Proofs.Ytkfgdhanaijddaa.DR2












theorem pl53 : (Try.prog.underlying 53).bind (placesD Try.prog) = some [(0, 1), (1, 1)] := by kernel_rfl








theorem l1Own_spec {w : World} {G : Pin} {v : Value} {xs : List Int} (hP : Pins G w) (hv : RSl eInt G v xs) (hs : xs.length ≤ 1048576) :
  Calls Try.prog 49 [v].toArray w fun e w' => ∃ (u : Value) (G' : Pin), e = .returned u ∧ Own eInt 3 G' w' w.heap.size u xs ∧ Ext noS G w G' w' := by
 refine yA (n := 6) Try.func49 Try.ntmps49 rfl rfl ?_
 have b : Ext noS G w G w := Ext.refl hP
 refine zB (zC ?_)
 refine qM (.slice none 0 0) ?_
 refine qe (zA (zB (zC ?_)))
 refine qI rfl (yM (E := eInt) (e := 3) Try.underlying29 sz3 b.pins (fun c g h i j p => ?_))
 have a := b.step i j
 have d : Own eInt 3 G g w.heap.size c ([]) := h.weaken b.size
 refine qM v ?_
 refine qI rfl (o_append (E := eInt) (v := c) (u := v) 8 Try.underlying29 ap3 (by decide) rfl rfl a.pins d ((hv.mono (Pin.le_refl _)).src a.pins (by decide)) (by first | omega | (rw [List.nil_append]; omega) | (rw [List.length_nil]; omega) | (rw [List.length_append]; omega) | (simp; done) | (simp; omega) | (simp only [List.length_cons, List.length_nil]; omega) | (simp only [List.length_append, List.length_cons, List.length_nil]; omega)) (by first | omega | (rw [List.nil_append]; omega) | (rw [List.length_nil]; omega) | (rw [List.length_append]; omega) | (simp; done) | (simp; omega) | (simp only [List.length_cons, List.length_nil]; omega) | (simp only [List.length_append, List.length_cons, List.length_nil]; omega)) (a.size) (fun f q k l m r => ?_))
 have o := a.write l m ((zX d))
 have s : (([]) ++ xs).length = ([]).length + xs.length := List.length_append
 refine qM f ?_
 refine qe (zA ?_)
 refine wp_ret ?_
 refine zS ?_
 refine zR (v := f) rfl rfl rfl ?_
 exact ⟨_, _, rfl, (by simpa using k), o⟩

theorem anyForm_spec {w : World} {G : Pin} {c : Nat} {cv : Value} {code : List UInt8} {a s : Int} {n : Int} (hP : Pins G w) (hB : Bx G w c [cv, .int .i64 a, .int .u64 s]) (hc : RSl eByte G cv code) (ha : 0 ≤ a ∧ a + (12 * n + 10) ≤ 1000000) (hs : 0 ≤ s ∧ s < 18446744073709551616) (hn : 0 ≤ n ∧ n ≤ 6) :
  Calls Try.prog 27 [(.pointer (some ⟨c, 0, none⟩)), (vJ n)].toArray w fun e w' => ∃ (u : Value) (ns : List Nd) (a' s' : Int) (G' : Pin), e = .returned (.agg [u].toArray) ∧ RSl eNode G' u ns ∧ Bx G' w' c [cv, .int .i64 a', .int .u64 s'] ∧ (a ≤ a' ∧ a' ≤ a + (12 * n + 10)) ∧ (0 ≤ s' ∧ s' < 18446744073709551616) ∧ Ext (inO (some c)) G w G' w' := by
 refine yA (n := 77) Try.func27 Try.ntmps27 rfl rfl ?_
 have cm : Ext (inO (some c)) G w G w := Ext.refl hP
 have hm := hc.max
 refine zB (zC ?_)
 refine qI rfl (yN [(.slice none 0 0)] zr26 rfl cm.pins (fun b1 w2 gd dw ge dx => ?_))
 have cn := cm.step ge dx
 have dy := hB.below dx
 have ab : Apart (some b1) (some c) := zI (congrArg some gd) hB.lt
 have ay : w.heap.size ≤ b1 := by have := cm.size; omega
 refine qe (zA (zB (zC ?_)))
 refine qM (.pointer (some ⟨c, 0, none⟩)) ?_
 refine qM (vJ n) ?_
 refine qI rfl (zM (vs := [(.pointer (some ⟨c, 0, none⟩)), (vJ n)]) Try.func28 nm28 rfl rfl rfl ?_)
 refine Calls.mono (dform_spec (n := n) cn.pins dy hc (by omega) (by omega) (by omega)) ?_
 rintro _ gf ⟨b, f, np, nq, bo, rfl, co, dz, nr, d0, nt, nu, az⟩
 refine ⟨_, rfl, ?_⟩
 have cp := cn.trans az (fun i hi => xI i hi)
 have d1 := dw.extS az (notOb ab)
 have g := zP co.lt dy.lt
 have ac := zP co.lt dw.lt
 have d2 : Own eNode 53 bo gf w.heap.size b (formG f) := co.weaken cn.size
 have nv := dz.1.lo
 refine qI rfl (yN [(.slice none 0 0)] zr26 rfl cp.pins (fun q nw cq gg gh bp => ?_))
 have d3 := cp.step gh bp
 have d4 := d2.below bp
 have gi := d0.below bp
 have gj := d1.below bp
 have ak : Apart (some q) b.ownBlock := zE (congrArg some cq) d2.lt
 have an : Apart (some q) (some c) := zI (congrArg some cq) d0.lt
 have cr : Apart (some q) (some b1) := zI (congrArg some cq) d1.lt
 have ct : w.heap.size ≤ q := by have := cp.size; omega
 refine q0 rfl rfl rfl (yW (cs' := [b]) (us := [b]) (v := (.agg [b].toArray)) sz26 rfl rfl rfl (yR d4.one) d3.pins gg (Nat.le_of_ble_eq_true rfl) rfl (fun nx d5 gk bq ny => ?_))
 have d6 := d3.write gk bq ((yI ct))
 have d7 := d4.keptA bq ak.symm
 have gl := gi.keptA bq an.symm
 have gm := gj.keptA bq cr.symm
 refine qe (zA (zB (zC ?_)))
 refine qM (.pointer (some ⟨c, 0, none⟩)) ?_
 refine qD rfl (zL (k := 0) rfl Try.underlying26 rfl nz24 rfl) ?_
 refine qD rfl (zN (u := b) ag24 rfl (d5.cell (o := 0) rfl)) ?_
 refine qD rfl (zK Try.underlying24 (v := b) rfl d7.read) ?_
 refine qI rfl (zM (vs := [(.pointer (some ⟨c, 0, none⟩)), (vJ ((formG f).length : Int))]) Try.func48 nm48 rfl rfl rfl ?_)
 refine Calls.mono (pick_spec d6.pins gl (hc.mono az.le) (by omega) (by omega) (n := ((formG f).length : Int)) (by omega)) ?_
 rintro _ nz ⟨d, n0, n1, rfl, n2, gn, n3, n4, br⟩
 refine ⟨_, rfl, ?_⟩
 have d8 := d6.trans br (fun i hi => xI i hi)
 have gp := d7.extS br (notO g)
 have gq := gm.extS br (notOb ab)
 have gr := d5.extS br (notOb an)
 refine qM (vJ d) ?_
 refine qe (zA (zB (zB (zC ?_))))
 refine qM (.pointer (some ⟨c, 0, none⟩)) ?_
 refine qI rfl (zM (vs := [(.pointer (some ⟨c, 0, none⟩)), (vJ 24)]) Try.func48 nm48 rfl rfl rfl ?_)
 refine Calls.mono (pick_spec d8.pins gn (hc.mono az.le) (by omega) (by omega) (n := 24) (by omega)) ?_
 rintro _ bs ⟨al, n5, n6, rfl, n7, ao, n8, n9, bt⟩
 refine ⟨_, rfl, ?_⟩
 have t := d8.trans bt (fun i hi => xI i hi)
 have x := gp.extS bt (notO g)
 have ap := gq.extS bt (notOb ab)
 have ad := gr.extS bt (notOb an)
 refine qe (zA ?_)
 refine zU ?_
 refine zB (zC ?_)
 refine qD rfl (r_eql rfl rfl) ?_
 refine qM (.bool (decide ((al : Int) = 0))) ?_
 refine qe (zA ?_)
 refine zZ (p := (al : Int) = 0) rfl rfl (fun gs => ?_) (fun gs => ?_)
 ·skip
  have hlk := (isform_ok dz (by omega)).lens (d).toNat (by omega)
  have gt := Gadd.pins t.pins b
  have a0 := x.read
  refine xC (S := fun wz => BxR wz q [b] ∧ Pins (Gadd bo bs b) wz) (last := 18) (by kernel_rfl) rfl ?_
  have aq : Below bs.heap.size bs bs.drew := (Below.refl _ _).drew
  have gu := t.pins.below aq
  have a1 := t.step gu aq
  have bu := x.below aq
  have bv := ao.below aq
  have bw := ap.below aq
  have m := ad.below aq
  have y := gt.below aq
  refine dT (i := 0) rfl rfl (by kernel_rfl) (fun _ _ => zL (k := 0) rfl Try.underlying26 rfl nz24 rfl) ⟨m.reads, y⟩ ?_
  refine dT (i := 1) rfl rfl (by kernel_rfl) (fun _ hS => zN (u := b) ag24 rfl (hS.1 0 _ rfl)) ⟨m.reads, y⟩ ?_
  refine dT (i := 2) rfl rfl (by kernel_rfl) (fun _ _ => zT (v := (vJ d)) rfl) ⟨m.reads, y⟩ ?_
  refine dT (i := 3) rfl rfl (by kernel_rfl) (fun _ _ => zL (k := 0) rfl Try.underlying26 rfl nz24 rfl) ⟨m.reads, y⟩ ?_
  refine dT (i := 4) rfl rfl (by kernel_rfl) (fun _ hS => zN (u := b) ag24 rfl (hS.1 0 _ rfl)) ⟨m.reads, y⟩ ?_
  refine dT (i := 5) rfl rfl (by kernel_rfl) (fun _ _ => zT (v := (vJ d)) rfl) ⟨m.reads, y⟩ ?_
  refine dT (i := 6) rfl rfl (by kernel_rfl) (fun _ _ => zG Try.underlying24 sz53 (v := b) rfl rfl a0 (by omega) (by omega)) ⟨m.reads, y⟩ ?_
  refine dT (i := 7) rfl rfl (by kernel_rfl) (fun _ _ => yX (off := 0) Try.underlying53 rfl rfl nz29 (z := d) (k := 0) rfl a0 (by omega) (by omega)) ⟨m.reads, y⟩ ?_
  obtain ⟨d9, cu, gv⟩ := nm_nl (x.at (z := d) (by omega) (by omega)) (j := (d).toNat) rfl
  have oa := cu.max
  refine dT (i := 8) rfl rfl (by kernel_rfl) (fun _ hS => gv ag29 rfl hS.2) ⟨m.reads, y⟩ ?_
  refine dT (i := 10) rfl rfl (by kernel_rfl) (fun _ _ => zT (v := (.pointer (some ⟨c, 0, none⟩))) rfl) ⟨m.reads, y⟩ ?_
  refine dT (i := 11) rfl rfl (by kernel_rfl) (fun _ _ => zT (v := (vJ d)) rfl) ⟨m.reads, y⟩ ?_
  refine qC (i := 9) (j := 12) (by kernel_rfl) ?_ ?_
  ·skip
   refine (zO (i := 9) rfl rfl rfl (zD rfl _) (zM (vs := [d9]) Try.func49 nm49 rfl rfl rfl ?_))
   refine Calls.mono (l1Own_spec a1.pins cu (by omega)) ?_
   rintro _ gw ⟨cw, ea, rfl, a9, ah⟩
   refine ⟨_, rfl, ?_⟩
   have cx := a1.tr ah
   have eb := bu.ext ah
   have ec := bv.ext ah
   have ed := bw.ext ah
   have cy := m.ext ah
   have cz := zQ a9.lt bu.lt
   have c0 := zP a9.lt bv.lt
   have ee := zP a9.lt bw.lt
   have ef := zP a9.lt m.lt
   have eg : Own eInt 3 ea gw w.heap.size cw (((formG f).getD (d).toNat default).l) := a9.weaken a1.size
   have eh := y.below ah.below
   refine ⟨fun _ => ⟨cy.reads, eh⟩, ?_⟩
   refine dO (i := 12) (zO (i := 12) rfl rfl rfl (zD rfl _) (yV (E := eInt) (e := 3) [(vJ 0), (vJ d), (vJ (-1)), (vJ 1)] [0, d, (-1), 1] Try.underlying29 sz3 zr3 (by exact reps4 (by rfl) (by rfl) (by rfl) (by rfl)) (ones4 (by rfl) (by rfl) (by rfl) (by rfl)) rfl rfl rfl rfl (by decide) cx.pins (fun ar gx gy gz au ba => ?_)))
   have g0 := cx.step gz au
   have g1 := eb.below au
   have g2 := eg.below au
   have g3 := ec.below au
   have g4 := ed.below au
   have ei := cy.below au
   have g5 : Apart ar.ownBlock b.ownBlock := zE ba eb.lt
   have g6 : Apart ar.ownBlock cw.ownBlock := zE ba eg.lt
   have g7 : Apart ar.ownBlock (some c) := zI ba ec.lt
   have g8 : Apart ar.ownBlock (some b1) := zI ba ed.lt
   have g9 : Apart ar.ownBlock (some q) := zI ba cy.lt
   have hb : Own eInt 3 ea gx w.heap.size ar ([0, d, (-1), 1]) := gy.weaken cx.size
   have ej := eh.below au
   refine ⟨fun _ => ⟨ei.reads, ej⟩, ?_⟩
   obtain ⟨hd, bb, ek, he, bc⟩ := hb.sealed g0
   have hf := g1.moreO bb bc g5.symm
   have hg := g2.moreO bb bc g6.symm
   have hh := g3.moreO bc g7.symm
   have hk := g4.moreO bc g8.symm
   have hl := ei.moreO bc g9.symm
   refine dO (i := 13) (zO (i := 13) rfl rfl rfl (zD rfl _) (zM (vs := [(.pointer (some ⟨c, 0, none⟩)), ar]) Try.func50 nm50 rfl rfl rfl ?_))
   refine Calls.mono (among_spec ek.pins hh (hc.mono (Pin.le_trans (Pin.le_trans az.le ah.le) bb)) (by omega) (by omega) he (by simp)) ?_
   rintro _ ob ⟨bx, oc, od, rfl, oe, ho, og, oh, a2⟩
   refine ⟨_, rfl, ?_⟩
   have bz := ek.trans a2 (fun i hi => xI i hi)
   have hp := hf.extS a2 (notO g)
   have hq := hg.extS a2 (notO c0)
   have hr := hk.extS a2 (notOb ab)
   have el := hl.extS a2 (notOb an)
   have em := Gadd.turn ej (Pins.of_le bz.pins (Pin.le_trans ah.le bb)) a2 (notO g)
   refine ⟨fun _ => ⟨el.reads, em⟩, ?_⟩
   refine dO (i := 14) (zO (i := 14) rfl rfl rfl (zD rfl _) (yV (E := eInt) (e := 3) [(vJ bx)] [bx] Try.underlying29 sz3 zr3 (by exact xT (by rfl)) (yR (by rfl)) rfl rfl rfl rfl (by decide) bz.pins (fun en ht hu hv av oi => ?_)))
   have c1 := bz.step hv av
   have eo := hp.below av
   have ep := hq.below av
   have eq := ho.below av
   have er := hr.below av
   have c2 := el.below av
   have hw : Own eInt 3 hd ht w.heap.size en ([bx]) := hu.weaken bz.size
   have es := em.below av
   refine ⟨fun _ => ⟨c2.reads, es⟩, ?_⟩
   refine dO (i := 15) (zO (i := 15) rfl rfl rfl (zD rfl _) (o_append (E := eInt) (v := cw) (u := en) 8 Try.underlying29 ap3 (by decide) rfl rfl c1.pins ep hw.src (by first | omega | (rw [List.nil_append]; omega) | (rw [List.length_nil]; omega) | (rw [List.length_append]; omega) | (simp; done) | (simp; omega) | (simp only [List.length_cons, List.length_nil]; omega) | (simp only [List.length_append, List.length_cons, List.length_nil]; omega)) (by first | omega | (rw [List.nil_append]; omega) | (rw [List.length_nil]; omega) | (rw [List.length_append]; omega) | (simp; done) | (simp; omega) | (simp only [List.length_cons, List.length_nil]; omega) | (simp only [List.length_append, List.length_cons, List.length_nil]; omega)) (c1.size) (fun bd oj hx et a3 b0 => ?_)))
   have eu := c1.write et a3 ((zX ep))
   have hy := eo.keptA a3 cz.symm
   have hz := eq.keptA a3 c0.symm
   have h0 := er.keptA a3 ee.symm
   have b2 := c2.keptA a3 ef.symm
   have h1 : Apart b.ownBlock bd.ownBlock := zF cz.symm b0 eo.lt
   have h2 : Apart (some c) bd.ownBlock := zH c0.symm b0 eq.lt
   have h3 : Apart (some b1) bd.ownBlock := zH ee.symm b0 er.lt
   have h4 : Apart (some q) bd.ownBlock := zH ef.symm b0 c2.lt
   have ok : ((((formG f).getD (d).toNat default).l) ++ ([bx])).length = (((formG f).getD (d).toNat default).l).length + 1 := List.length_append
   have c3 := Gadd.turn es (Pins.of_le eu.pins (Pin.le_trans ah.le bb)) (Ext.one et a3) (notO cz.symm)
   refine ⟨fun _ => ⟨b2.reads, c3⟩, ?_⟩
   refine dO (i := 16) (zO (i := 16) rfl rfl rfl (zD rfl _) (EO.run (zG Try.underlying24 sz53 (v := b) rfl rfl a0 (by omega) (by omega)) ⟨fun _ => ⟨b2.reads, c3⟩, ?_⟩))
   refine dT (i := 17) rfl rfl (by kernel_rfl) (fun _ _ => yX (off := 0) Try.underlying53 rfl rfl nz29 (z := d) (k := 0) rfl a0 (by omega) (by omega)) ⟨b2.reads, c3⟩ ?_
   obtain ⟨ol, h5, ev, h6, b3⟩ := hx.sealed eu
   have ew := hy.moreO h5 b3 h1
   have h7 := hz.moreO b3 h2
   have h8 := h0.moreO b3 h3
   have h9 := b2.moreO b3 h4
   refine dO (i := 18) (drOp0 (i := 18) rfl rfl rfl (zD rfl _) (o_setNL (v := b) (z := d) (u := bd) sz29 rfl rfl h6 ev.pins ew (by omega) (by omega) (fun om ex ia b4 oo => ?_)))
   have ey := ev.write ia b4 ((zX ew))
   have ib := h7.keptA b4 g.symm
   have ic := h8.keptA b4 ac.symm
   have ie := h9.keptA b4 ak
   refine ⟨fun h => absurd rfl h, ?_⟩
   refine yJ (by kernel_rfl) ?_
   refine zW ?_
   refine zA (zB (zC ?_))
   refine qD rfl (yC (cs := [b]) ag26 sz26 rfl (fun j u hj => ie.cell (by simpa using hj))) ?_
   refine q0 rfl rfl rfl (yW (cs' := [b]) (us := [b]) (v := (.agg [b].toArray)) sz26 rfl rfl rfl (yR ex.one) ey.pins ic (Nat.le_of_ble_eq_true rfl) rfl (fun op ig ih c4 oq => ?_))
   have ii := ey.write ih c4 ((yI ay))
   have ij := ex.keptA c4 ac
   have ik := ib.keptA c4 ab.symm
   refine qe (zA ?_)
   refine wp_ret ?_
   refine zS ?_
   refine c_retc (cs := [b]) rfl rfl rfl ag26 sz26 (fun j u hj => by rw [Nat.zero_add]; exact ig.cell hj) ?_
   obtain ⟨os, ot, il, im, io⟩ := ij.sealed ii
   have ip := ik.moreO io g.symm
   exact ⟨_, _, _, _, _, rfl, im, ip, (by omega), (by omega), il⟩
  ·skip
   refine (zO (i := 12) rfl rfl rfl (zD rfl _) (yV (E := eInt) (e := 3) [(vJ 0), (vJ d), (vJ (-1)), (vJ 1)] [0, d, (-1), 1] Try.underlying29 sz3 zr3 (by exact reps4 (by rfl) (by rfl) (by rfl) (by rfl)) (ones4 (by rfl) (by rfl) (by rfl) (by rfl)) rfl rfl rfl rfl (by decide) a1.pins (fun a4 iq ir it a5 b5 => ?_)))
   have c5 := a1.step it a5
   have ez := bu.below a5
   have e0 := bv.below a5
   have e1 := bw.below a5
   have c6 := m.below a5
   have iu : Apart a4.ownBlock b.ownBlock := zE b5 bu.lt
   have iv : Apart a4.ownBlock (some c) := zI b5 bv.lt
   have iw : Apart a4.ownBlock (some b1) := zI b5 bw.lt
   have ix : Apart a4.ownBlock (some q) := zI b5 m.lt
   have e2 : Own eInt 3 bo iq w.heap.size a4 ([0, d, (-1), 1]) := ir.weaken a1.size
   have e3 := y.below a5
   refine ⟨fun _ => ⟨c6.reads, e3⟩, ?_⟩
   refine dO (i := 9) (zO (i := 9) rfl rfl rfl (zD rfl _) (zM (vs := [d9]) Try.func49 nm49 rfl rfl rfl ?_))
   refine Calls.mono (l1Own_spec c5.pins cu (by omega)) ?_
   rintro _ iy ⟨e4, iz, rfl, a6, ag⟩
   refine ⟨_, rfl, ?_⟩
   have i0 := c5.tr ag
   have i1 := ez.ext ag
   have i2 := e2.ext ag
   have i3 := e0.ext ag
   have i4 := e1.ext ag
   have e5 := c6.ext ag
   have c7 := zQ a6.lt ez.lt
   have i5 := zQ a6.lt e2.lt
   have c8 := zP a6.lt e0.lt
   have e6 := zP a6.lt e1.lt
   have e7 := zP a6.lt c6.lt
   have i6 : Own eInt 3 iz iy w.heap.size e4 (((formG f).getD (d).toNat default).l) := a6.weaken c5.size
   have e8 := e3.below ag.below
   refine ⟨fun _ => ⟨e5.reads, e8⟩, ?_⟩
   obtain ⟨i7, be, e9, i8, bf⟩ := i2.sealed i0
   have i9 := i1.moreO be bf iu.symm
   have ja := i6.moreO be bf i5
   have jb := i3.moreO bf iv.symm
   have jc := i4.moreO bf iw.symm
   have jd := e5.moreO bf ix.symm
   refine dO (i := 13) (zO (i := 13) rfl rfl rfl (zD rfl _) (zM (vs := [(.pointer (some ⟨c, 0, none⟩)), a4]) Try.func50 nm50 rfl rfl rfl ?_))
   refine Calls.mono (among_spec e9.pins jb (hc.mono (Pin.le_trans (Pin.le_trans az.le ag.le) be)) (by omega) (by omega) i8 (by simp)) ?_
   rintro _ ou ⟨b6, ov, ow, rfl, ox, je, oy, oz, a7⟩
   refine ⟨_, rfl, ?_⟩
   have b7 := e9.trans a7 (fun i hi => xI i hi)
   have jf := i9.extS a7 (notO g)
   have jg := ja.extS a7 (notO c8)
   have jh := jc.extS a7 (notOb ab)
   have fa := jd.extS a7 (notOb an)
   have fb := Gadd.turn e8 (Pins.of_le b7.pins (Pin.le_trans ag.le be)) a7 (notO g)
   refine ⟨fun _ => ⟨fa.reads, fb⟩, ?_⟩
   refine dO (i := 14) (zO (i := 14) rfl rfl rfl (zD rfl _) (yV (E := eInt) (e := 3) [(vJ b6)] [b6] Try.underlying29 sz3 zr3 (by exact xT (by rfl)) (yR (by rfl)) rfl rfl rfl rfl (by decide) b7.pins (fun fc ji jj jk aw o0 => ?_)))
   have c9 := b7.step jk aw
   have fd := jf.below aw
   have fe := jg.below aw
   have ff := je.below aw
   have fg := jh.below aw
   have da := fa.below aw
   have jl : Own eInt 3 i7 ji w.heap.size fc ([b6]) := jj.weaken b7.size
   have fh := fb.below aw
   refine ⟨fun _ => ⟨da.reads, fh⟩, ?_⟩
   refine dO (i := 15) (zO (i := 15) rfl rfl rfl (zD rfl _) (o_append (E := eInt) (v := e4) (u := fc) 8 Try.underlying29 ap3 (by decide) rfl rfl c9.pins fe jl.src (by first | omega | (rw [List.nil_append]; omega) | (rw [List.length_nil]; omega) | (rw [List.length_append]; omega) | (simp; done) | (simp; omega) | (simp only [List.length_cons, List.length_nil]; omega) | (simp only [List.length_append, List.length_cons, List.length_nil]; omega)) (by first | omega | (rw [List.nil_append]; omega) | (rw [List.length_nil]; omega) | (rw [List.length_append]; omega) | (simp; done) | (simp; omega) | (simp only [List.length_cons, List.length_nil]; omega) | (simp only [List.length_append, List.length_cons, List.length_nil]; omega)) (c9.size) (fun bg o1 jm fi a8 b8 => ?_)))
   have fj := c9.write fi a8 ((zX fe))
   have jn := fd.keptA a8 c7.symm
   have jo := ff.keptA a8 c8.symm
   have jp := fg.keptA a8 e6.symm
   have b9 := da.keptA a8 e7.symm
   have jq : Apart b.ownBlock bg.ownBlock := zF c7.symm b8 fd.lt
   have jr : Apart (some c) bg.ownBlock := zH c8.symm b8 ff.lt
   have js : Apart (some b1) bg.ownBlock := zH e6.symm b8 fg.lt
   have jt : Apart (some q) bg.ownBlock := zH e7.symm b8 da.lt
   have o2 : ((((formG f).getD (d).toNat default).l) ++ ([b6])).length = (((formG f).getD (d).toNat default).l).length + 1 := List.length_append
   have db := Gadd.turn fh (Pins.of_le fj.pins (Pin.le_trans ag.le be)) (Ext.one fi a8) (notO c7.symm)
   refine ⟨fun _ => ⟨b9.reads, db⟩, ?_⟩
   refine dO (i := 16) (zO (i := 16) rfl rfl rfl (zD rfl _) (EO.run (zG Try.underlying24 sz53 (v := b) rfl rfl a0 (by omega) (by omega)) ⟨fun _ => ⟨b9.reads, db⟩, ?_⟩))
   refine dT (i := 17) rfl rfl (by kernel_rfl) (fun _ _ => yX (off := 0) Try.underlying53 rfl rfl nz29 (z := d) (k := 0) rfl a0 (by omega) (by omega)) ⟨b9.reads, db⟩ ?_
   obtain ⟨o3, ju, fk, jv, ca⟩ := jm.sealed fj
   have fl := jn.moreO ju ca jq
   have jw := jo.moreO ca jr
   have jx := jp.moreO ca js
   have jy := b9.moreO ca jt
   refine dO (i := 18) (drOp0 (i := 18) rfl rfl rfl (zD rfl _) (o_setNL (v := b) (z := d) (u := bg) sz29 rfl rfl jv fk.pins fl (by omega) (by omega) (fun o4 fm jz cb o5 => ?_)))
   have fn := fk.write jz cb ((zX fl))
   have j0 := jw.keptA cb g.symm
   have j1 := jx.keptA cb ac.symm
   have j2 := jy.keptA cb ak
   refine ⟨fun h => absurd rfl h, ?_⟩
   refine yJ (by kernel_rfl) ?_
   refine zW ?_
   refine zA (zB (zC ?_))
   refine qD rfl (yC (cs := [b]) ag26 sz26 rfl (fun j u hj => j2.cell (by simpa using hj))) ?_
   refine q0 rfl rfl rfl (yW (cs' := [b]) (us := [b]) (v := (.agg [b].toArray)) sz26 rfl rfl rfl (yR fm.one) fn.pins j1 (Nat.le_of_ble_eq_true rfl) rfl (fun o6 j3 j4 dc o7 => ?_))
   have j5 := fn.write j4 dc ((yI ay))
   have j6 := fm.keptA dc ac
   have j7 := j0.keptA dc ab.symm
   refine qe (zA ?_)
   refine wp_ret ?_
   refine zS ?_
   refine c_retc (cs := [b]) rfl rfl rfl ag26 sz26 (fun j u hj => by rw [Nat.zero_add]; exact j3.cell hj) ?_
   obtain ⟨o8, o9, j8, j9, ka⟩ := j6.sealed j5
   have kb := j7.moreO ka g.symm
   exact ⟨_, _, _, _, _, rfl, j9, kb, (by omega), (by omega), j8⟩
 refine zB (zC ?_)
 refine qD rfl (r_eql rfl rfl) ?_
 refine qM (.bool (decide ((al : Int) = 1))) ?_
 refine qe (zA ?_)
 refine zZ (p := (al : Int) = 1) rfl rfl (fun kc => ?_) (fun kc => ?_)
 ·skip
  refine zC ?_
  refine qD rfl (zL (k := 0) rfl Try.underlying26 rfl nz24 rfl) ?_
  refine qD rfl (zN (u := b) ag24 rfl (ad.cell (o := 0) rfl)) ?_
  refine qI rfl (yV (E := eInt) (e := 3) [(vJ 0)] [0] Try.underlying29 sz3 zr3 (by exact xT (by rfl)) (yR (by rfl)) rfl rfl rfl rfl (by decide) t.pins (fun ai kd ke kf bh cc => ?_))
  have kg := t.step kf bh
  have kh := x.below bh
  have ki := ao.below bh
  have kj := ap.below bh
  have kk := ad.below bh
  have kl : Apart ai.ownBlock b.ownBlock := zE cc x.lt
  have km : Apart ai.ownBlock (some c) := zI cc ao.lt
  have kn : Apart ai.ownBlock (some b1) := zI cc ap.lt
  have ko : Apart ai.ownBlock (some q) := zI cc ad.lt
  have fo : Own eInt 3 bo kd w.heap.size ai ([0]) := ke.weaken t.size
  refine qD rfl (qA [(.slice none 0 0), (.slice none 0 0)] [(.slice none 0 0), ai] [(1, ai, [ai])] Try.underlying53 zr53 rfl pl53 rfl (List.forall_mem_cons.2 ⟨(xA fo.one), (fun _ h => by cases h)⟩) rfl) ?_
  obtain ⟨kp, kq, dd, kr, cd⟩ := fo.sealed kg
  have ks := kh.moreO kq cd kl.symm
  have kt := ki.moreO cd km.symm
  have ku := kj.moreO cd kn.symm
  have kv := kk.moreO cd ko.symm
  refine qI rfl (yY (E := eNode) (e := 53) [(.slice none 0 0), ai] (⟨[], [0]⟩ : Nd) Try.underlying24 sz53 zr53 ⟨_, _, rfl, (nil_reads _ _), kr⟩ rfl (by decide) dd.pins (fun fp kw kx ky bi pa => ?_))
  have de := dd.step ky bi
  have fq := ks.below bi
  have fr := kt.below bi
  have fs := ku.below bi
  have ft := kv.below bi
  have kz : Own eNode 53 kp kw w.heap.size fp ([(⟨[], [0]⟩ : Nd)]) := kx.weaken dd.size
  refine qI rfl (o_append (E := eNode) (v := b) (u := fp) 48 Try.underlying24 ap53 (by decide) rfl rfl de.pins fq kz.src (by first | omega | (rw [List.nil_append]; omega) | (rw [List.length_nil]; omega) | (rw [List.length_append]; omega) | (simp; done) | (simp; omega) | (simp only [List.length_cons, List.length_nil]; omega) | (simp only [List.length_append, List.length_cons, List.length_nil]; omega)) (by first | omega | (rw [List.nil_append]; omega) | (rw [List.length_nil]; omega) | (rw [List.length_append]; omega) | (simp; done) | (simp; omega) | (simp only [List.length_cons, List.length_nil]; omega) | (simp only [List.length_append, List.length_cons, List.length_nil]; omega)) (de.size) (fun ae pb df k0 ce dg => ?_))
  have fu := de.write k0 ce ((zX fq))
  have k1 := fr.keptA ce g.symm
  have k2 := fs.keptA ce ac.symm
  have k3 := ft.keptA ce ak
  have k4 : Apart (some c) ae.ownBlock := zH g.symm dg fr.lt
  have k5 : Apart (some b1) ae.ownBlock := zH ac.symm dg fs.lt
  have k6 : Apart (some q) ae.ownBlock := zH ak dg ft.lt
  have pc : ((formG f) ++ ([(⟨[], [0]⟩ : Nd)])).length = (formG f).length + 1 := List.length_append
  refine qD rfl (zL (k := 0) rfl Try.underlying26 rfl nz24 rfl) ?_
  refine q0 rfl rfl rfl (yW (cs' := [ae]) (us := [ae]) (v := ae) sz24 rfl rfl (cells1 df.one) (yR df.one) fu.pins k3 (Nat.le_of_ble_eq_true rfl) rfl (fun pd k7 k8 cf pe => ?_))
  have fv := fu.write k8 cf ((yI ct))
  have fw := df.keptA cf k6.symm
  have k9 := k1.keptA cf an.symm
  have la := k2.keptA cf cr.symm
  refine qe ?_
  refine zW ?_
  refine zA (zB (zC ?_))
  refine qD rfl (yC (cs := [ae]) ag26 sz26 rfl (fun j u hj => k7.cell (by simpa using hj))) ?_
  refine q0 rfl rfl rfl (yW (cs' := [ae]) (us := [ae]) (v := (.agg [ae].toArray)) sz26 rfl rfl rfl (yR fw.one) fv.pins la (Nat.le_of_ble_eq_true rfl) rfl (fun pf lb lc dh pg => ?_))
  have ld := fv.write lc dh ((yI ay))
  have lf := fw.keptA dh k5.symm
  have lg := k9.keptA dh ab.symm
  refine qe (zA ?_)
  refine wp_ret ?_
  refine zS ?_
  refine c_retc (cs := [ae]) rfl rfl rfl ag26 sz26 (fun j u hj => by rw [Nat.zero_add]; exact lb.cell hj) ?_
  obtain ⟨ph, pi, lh, li, lj⟩ := lf.sealed ld
  have lk := lg.moreO lj k4
  exact ⟨_, _, _, _, _, rfl, li, lk, (by omega), (by omega), lh⟩
 refine zB (zC ?_)
 refine qD rfl (r_eql rfl rfl) ?_
 refine qM (.bool (decide ((al : Int) = 2))) ?_
 refine qe (zA ?_)
 refine zZ (p := (al : Int) = 2) rfl rfl (fun ll => ?_) (fun ll => ?_)
 ·skip
  refine zC ?_
  refine qD rfl (zL (k := 0) rfl Try.underlying26 rfl nz24 rfl) ?_
  refine qD rfl (zN (u := b) ag24 rfl (ad.cell (o := 0) rfl)) ?_
  refine qD rfl (zL (k := 0) rfl Try.underlying26 rfl nz24 rfl) ?_
  refine qD rfl (zN (u := b) ag24 rfl (ad.cell (o := 0) rfl)) ?_
  refine qD rfl (zK Try.underlying24 (v := b) rfl x.read) ?_
  refine qD rfl (r_sub rfl rfl (by omega)) ?_
  obtain ⟨af, di, dj, lm⟩ := own_cut x ((((formG f).length : Int) - 1).toNat) (((formG f).length : Int) - 1) (by omega) rfl (by omega) (by omega)
  have ln : Apart af.ownBlock (some c) := by rw [dj]; exact g
  have lp : Apart af.ownBlock (some b1) := by rw [dj]; exact ac
  have lq : Apart (some q) af.ownBlock := by rw [dj]; exact ak
  refine qD rfl (lm Try.underlying24 sz53 rfl rfl rfl) ?_
  refine qD rfl (zL (k := 0) rfl Try.underlying26 rfl nz24 rfl) ?_
  refine q0 rfl rfl rfl (yW (cs' := [af]) (us := [af]) (v := af) sz24 rfl rfl (cells1 di.one) (yR di.one) t.pins ad (Nat.le_of_ble_eq_true rfl) rfl (fun pj lr ls cg pk => ?_))
  have fx := t.write ls cg ((yI ct))
  have fy := di.keptA cg lq.symm
  have lu := ao.keptA cg an.symm
  have lv := ap.keptA cg cr.symm
  refine qe ?_
  refine zW ?_
  refine zA (zB (zC ?_))
  refine qD rfl (yC (cs := [af]) ag26 sz26 rfl (fun j u hj => lr.cell (by simpa using hj))) ?_
  refine q0 rfl rfl rfl (yW (cs' := [af]) (us := [af]) (v := (.agg [af].toArray)) sz26 rfl rfl rfl (yR fy.one) fx.pins lv (Nat.le_of_ble_eq_true rfl) rfl (fun pl lw lx dk pm => ?_))
  have ly := fx.write lx dk ((yI ay))
  have lz := fy.keptA dk lp
  have l0 := lu.keptA dk ab.symm
  refine qe (zA ?_)
  refine wp_ret ?_
  refine zS ?_
  refine c_retc (cs := [af]) rfl rfl rfl ag26 sz26 (fun j u hj => by rw [Nat.zero_add]; exact lw.cell hj) ?_
  obtain ⟨pn, po, l1, l2, l3⟩ := lz.sealed ly
  have l4 := l0.moreO l3 ln.symm
  exact ⟨_, _, _, _, _, rfl, l2, l4, (by omega), (by omega), l1⟩
 refine zB (zC ?_)
 refine qD rfl (r_eql rfl rfl) ?_
 refine qM (.bool (decide ((al : Int) = 3))) ?_
 refine qe (zA ?_)
 refine zZ (p := (al : Int) = 3) rfl rfl (fun l5 => ?_) (fun l5 => ?_)
 ·skip
  refine zB (zC ?_)
  refine qD rfl (zL (k := 0) rfl Try.underlying26 rfl nz24 rfl) ?_
  refine qD rfl (zN (u := b) ag24 rfl (ad.cell (o := 0) rfl)) ?_
  refine qD rfl (zG Try.underlying24 sz53 (v := b) rfl rfl x.read (by omega) (by omega)) ?_
  obtain ⟨bj, bk, dl, dm, l6⟩ := qB (x.at (z := 0) (by omega) (by omega)) (j := 0) rfl
  have pp := dl.max
  have pq := dm.max
  refine qD rfl (l6 ag53 sz53 rfl (Gadd.pins t.pins b)) ?_
  refine qI rfl (yN [(.slice none 0 0), (.slice none 0 0)] zr53 rfl t.pins (fun bl pr ch l7 l8 bm => ?_))
  have fz := t.step l8 bm
  have l9 := x.below bm
  have ma := ao.below bm
  have mb := ap.below bm
  have mc := ad.below bm
  have f0 : Apart (some bl) b.ownBlock := zE (congrArg some ch) x.lt
  have f1 : Apart (some bl) (some c) := zI (congrArg some ch) ao.lt
  have f2 : Apart (some bl) (some b1) := zI (congrArg some ch) ap.lt
  have f3 : Apart (some bl) (some q) := zI (congrArg some ch) ad.lt
  have f4 : w.heap.size ≤ bl := by have := t.size; omega
  refine q0 rfl rfl rfl (yW (cs' := [bj, bk]) (us := [bj, bk]) (v := (.agg [bj, bk].toArray)) sz53 rfl rfl rfl (ones2 dl.one dm.one) fz.pins l7 (Nat.le_of_ble_eq_true rfl) rfl (fun ci md me bn ps => ?_))
  have mf := fz.write me bn ((yI f4))
  have mg := l9.keptA bn f0.symm
  have mh := ma.keptA bn f1.symm
  have mi := mb.keptA bn f2.symm
  have mj := mc.keptA bn f3.symm
  obtain ⟨dn, dp, dq, mk, cj⟩ := md.shut mf f4
  have dr := mg.moreA dp cj f0.symm
  have ml := mh.moreA cj f1.symm
  have mm := mi.moreA cj f2.symm
  have mn := mj.moreA cj f3.symm
  refine qe (zA (zB ?_))
  have mo := Gadd.pins dq.pins b
  have f5 := dr.read
  refine xC (S := fun wz => BxR wz q [b] ∧ Pins (Gadd dn ci b) wz) (last := 8) (by kernel_rfl) rfl ?_
  have ax : Below ci.heap.size ci ci.drew := (Below.refl _ _).drew
  have mp := dq.pins.below ax
  have f6 := dq.step mp ax
  have f7 := dr.below ax
  have mq := ml.below ax
  have mr := mm.below ax
  have aj := mn.below ax
  have am := mo.below ax
  refine dT (i := 0) rfl rfl (by kernel_rfl) (fun _ _ => zL (k := 0) rfl Try.underlying26 rfl nz24 rfl) ⟨aj.reads, am⟩ ?_
  refine dT (i := 1) rfl rfl (by kernel_rfl) (fun _ hS => zN (u := b) ag24 rfl (hS.1 0 _ rfl)) ⟨aj.reads, am⟩ ?_
  refine dT (i := 2) rfl rfl (by kernel_rfl) (fun _ _ => zL (k := 0) rfl Try.underlying26 rfl nz24 rfl) ⟨aj.reads, am⟩ ?_
  refine dT (i := 3) rfl rfl (by kernel_rfl) (fun _ hS => zN (u := b) ag24 rfl (hS.1 0 _ rfl)) ⟨aj.reads, am⟩ ?_
  refine dT (i := 4) rfl rfl (by kernel_rfl) (fun _ _ => zT (v := (vJ d)) rfl) ⟨aj.reads, am⟩ ?_
  refine dT (i := 5) rfl rfl (by kernel_rfl) (fun _ _ => zG Try.underlying24 sz53 (v := b) rfl rfl f5 (by omega) (by omega)) ⟨aj.reads, am⟩ ?_
  obtain ⟨ms, mt, f8, f9, mu⟩ := qB (dr.at (z := d) (by omega) (by omega)) (j := (d).toNat) rfl
  have pt := f8.max
  have pu := f9.max
  refine dT (i := 6) rfl rfl (by kernel_rfl) (fun _ hS => mu ag53 sz53 rfl hS.2) ⟨aj.reads, am⟩ ?_
  refine dT (i := 7) rfl rfl (by kernel_rfl) (fun _ _ => zG Try.underlying24 sz53 (v := b) rfl rfl f5 (by omega) (by omega)) ⟨aj.reads, am⟩ ?_
  refine dO (i := 8) (drOp0 (i := 8) rfl rfl rfl (zD rfl _) (o_set (E := eNode) (v := b) (u := (.agg [ms, mt].toArray)) (z := 0) ((⟨((formG f).getD (d).toNat default).l, ((formG f).getD (d).toNat default).r⟩ : Nd)) sz53 rfl rfl rfl ⟨_, _, rfl, f8, f9⟩ f6.pins f7 (by omega) (by omega) (fun mv mw mx ck pv => ?_)))
  have ds := f6.write mx ck ((zX f7))
  have my := mq.keptA ck g.symm
  have mz := mr.keptA ck ac.symm
  have ga := aj.keptA ck ak
  have dt : Own eNode 53 dn mv w.heap.size b ((formG f).set 0 (⟨((formG f).getD (d).toNat default).l, ((formG f).getD (d).toNat default).r⟩ : Nd)) := mw
  have pw : ((formG f).set 0 (⟨((formG f).getD (d).toNat default).l, ((formG f).getD (d).toNat default).r⟩ : Nd)).length = (formG f).length := List.length_set ..
  refine ⟨fun h => absurd rfl h, ?_⟩
  refine yJ (by kernel_rfl) ?_
  refine zA (zC ?_)
  refine qD rfl (zL (k := 0) rfl Try.underlying26 rfl nz24 rfl) ?_
  refine qD rfl (zN (u := b) ag24 rfl (ga.cell (o := 0) rfl)) ?_
  refine qM (vJ d) ?_
  refine qD rfl (yC (cs := [bj, bk]) ag53 sz53 rfl (fun j u hj => ds.pins _ _ _ (mk _ _ (by simpa using hj)))) ?_
  refine qD rfl (zG Try.underlying24 sz53 (v := b) rfl rfl dt.read (by omega) (by omega)) ?_
  refine q0 rfl rfl rfl (o_set (E := eNode) (v := b) (u := (.agg [bj, bk].toArray)) (z := d) ((⟨((formG f).getD 0 default).l, ((formG f).getD 0 default).r⟩ : Nd)) sz53 rfl rfl rfl ⟨_, _, rfl, (dl.mono dp), (dm.mono dp)⟩ ds.pins dt (by omega) (by omega) (fun m0 m1 m2 cl px => ?_))
  have gb := ds.write m2 cl ((zX dt))
  have m3 := my.keptA cl g.symm
  have m4 := mz.keptA cl ac.symm
  have m5 := ga.keptA cl ak
  have gc : Own eNode 53 dn m0 w.heap.size b (((formG f).set 0 (⟨((formG f).getD (d).toNat default).l, ((formG f).getD (d).toNat default).r⟩ : Nd)).set (d).toNat (⟨((formG f).getD 0 default).l, ((formG f).getD 0 default).r⟩ : Nd)) := m1
  have py : (((formG f).set 0 (⟨((formG f).getD (d).toNat default).l, ((formG f).getD (d).toNat default).r⟩ : Nd)).set (d).toNat (⟨((formG f).getD 0 default).l, ((formG f).getD 0 default).r⟩ : Nd)).length = ((formG f).set 0 (⟨((formG f).getD (d).toNat default).l, ((formG f).getD (d).toNat default).r⟩ : Nd)).length := List.length_set ..
  refine qe ?_
  refine zW ?_
  refine zA (zB (zC ?_))
  refine qD rfl (yC (cs := [b]) ag26 sz26 rfl (fun j u hj => m5.cell (by simpa using hj))) ?_
  refine q0 rfl rfl rfl (yW (cs' := [b]) (us := [b]) (v := (.agg [b].toArray)) sz26 rfl rfl rfl (yR gc.one) gb.pins m4 (Nat.le_of_ble_eq_true rfl) rfl (fun pz m6 m7 du p0 => ?_))
  have m8 := gb.write m7 du ((yI ay))
  have m9 := gc.keptA du ac
  have na := m3.keptA du ab.symm
  refine qe (zA ?_)
  refine wp_ret ?_
  refine zS ?_
  refine c_retc (cs := [b]) rfl rfl rfl ag26 sz26 (fun j u hj => by rw [Nat.zero_add]; exact m6.cell hj) ?_
  obtain ⟨p1, p2, nb, nc, nd⟩ := m9.sealed m8
  have ne := na.moreO nd g.symm
  exact ⟨_, _, _, _, _, rfl, nc, ne, (by omega), (by omega), nb⟩
 refine wp_skip ?_
 refine zW ?_
 refine zA (zB (zC ?_))
 refine qD rfl (yC (cs := [b]) ag26 sz26 rfl (fun j u hj => ad.cell (by simpa using hj))) ?_
 refine q0 rfl rfl rfl (yW (cs' := [b]) (us := [b]) (v := (.agg [b].toArray)) sz26 rfl rfl rfl (yR x.one) t.pins ap (Nat.le_of_ble_eq_true rfl) rfl (fun p3 nf ng dv p4 => ?_))
 have nh := t.write ng dv ((yI ay))
 have ni := x.keptA dv ac
 have nj := ao.keptA dv ab.symm
 refine qe (zA ?_)
 refine wp_ret ?_
 refine zS ?_
 refine c_retc (cs := [b]) rfl rfl rfl ag26 sz26 (fun j u hj => by rw [Nat.zero_add]; exact nf.cell hj) ?_
 obtain ⟨p5, p6, nk, nl, nm⟩ := ni.sealed nh
 have nn := nj.moreO nm g.symm
 exact ⟨_, _, _, _, _, rfl, nl, nn, (by omega), (by omega), nk⟩

end DV1
end Go.Proofs.Ytkfgdhanaijddaa

set_option maxRecDepth 20000
set_option maxHeartbeats 2000000
namespace Go.Proofs.Ytkfgdhanaijddaa
namespace DV2
open Go.RowKit Go.GL Go.Proofs
open Go.Proofs.Ytkfgdhanaijddaa.B1
open Go.Proofs.Ytkfgdhanaijddaa.C1
open Go.Proofs.Ytkfgdhanaijddaa.D1
open Go.Proofs.Ytkfgdhanaijddaa.E1
open Go.Proofs.Ytkfgdhanaijddaa.MK1
open Go.Proofs.Ytkfgdhanaijddaa.DR1
open Go.Proofs.Ytkfgdhanaijddaa.DR2
open Go.Proofs.Ytkfgdhanaijddaa.DV1




theorem pl61 : (Try.prog.underlying 61).bind (placesD Try.prog) = some [(0, 1), (1, 1), (2, 1)] := by kernel_rfl



theorem drWinsMoving_spec {w : World} {G : Pin} {v : Value} {code : List UInt8} (hP : Pins G w) (hc : RSl eByte G v code) :
  Calls Try.prog 19 [v].toArray w fun e w' => ∃ (x : Value) (aq : List Nd) (c : Bool) (G' : Pin), e = .returned (.tuple #[(.agg [x].toArray), (.bool c)]) ∧ RSl eNode G' x aq ∧ Ext noS G w G' w' := by
 refine yA (n := 14) Try.func19 Try.ntmps19 rfl rfl ?_
 have k : Ext noS G w G w := Ext.refl hP
 have hm := hc.max
 refine zB (zC ?_)
 refine qI rfl (yN [(.slice none 0 0)] zr26 rfl k.pins (fun c w2 bh y ar au => ?_))
 have l := k.step ar au
 have av : w.heap.size ≤ c := by have := k.size; omega
 refine qM (.bool false) ?_
 refine qe (zA (zB (zC ?_)))
 refine qM v ?_
 refine qD rfl (qA [(.slice none 0 0), (vJ 0), (.int .u64 0)] [v, (vJ 0), (.int .u64 0)] [(0, v, [v])] Try.underlying61 zr61 rfl pl61 rfl (List.forall_mem_cons.2 ⟨(xA hc.one), (fun _ h => by cases h)⟩) rfl) ?_
 refine qI rfl (xZ [v, (vJ 0), (.int .u64 0)] (v := (.agg [v, (vJ 0), (.int .u64 0)].toArray)) rfl rfl l.pins (fun b bi aw ax ay z => ?_))
 have aa := l.step ay z
 have az := y.below z
 have ab : Apart (some b) (some c) := zI (congrArg some aw) y.lt
 have ac : w.heap.size ≤ b := by have := l.size; omega
 refine qM (.pointer (some ⟨b, 0, none⟩)) ?_
 refine qe (zA (zB (zC ?_)))
 refine qM (.pointer (some ⟨b, 0, none⟩)) ?_
 refine qI rfl (zM (vs := [(.pointer (some ⟨b, 0, none⟩)), (vJ 4)]) Try.func27 nm27 rfl rfl rfl ?_)
 refine Calls.mono (anyForm_spec (n := 4) aa.pins ax hc (by omega) (by omega) (by omega)) ?_
 rintro _ bj ⟨a, bk, bl, bm, bn, rfl, f, ad, bo, bp, m⟩
 refine ⟨_, rfl, ?_⟩
 have o := aa.trans m (fun i hi => (yI ac) i hi)
 have ae := az.extS m (notOb ab.symm)
 have bq := f.max
 refine qI rfl (yN [(.slice none 0 0)] zr26 rfl o.pins (fun g br af a0 a1 p => ?_))
 have ag := o.step a1 p
 have a2 := ae.below p
 have a3 := ad.below p
 have ah : Apart (some g) (some c) := zI (congrArg some af) ae.lt
 have ai : Apart (some g) (some b) := zI (congrArg some af) ad.lt
 have a4 : w.heap.size ≤ g := by have := o.size; omega
 refine q0 rfl rfl rfl (yW (cs' := [a]) (us := [a]) (v := (.agg [a].toArray)) sz26 rfl rfl rfl (yR f.one) ag.pins a0 (Nat.le_of_ble_eq_true rfl) rfl (fun q a5 a6 r bs => ?_))
 have aj := ag.write a6 r ((yI a4))
 have a7 := a2.keptA r ah.symm
 have a8 := a3.keptA r ai.symm
 refine qe (zA (zB ?_))
 refine xC (S := fun wz => BxR wz g [a]) (last := 5) (by kernel_rfl) rfl ?_
 have d : Below q.heap.size q q.drew := (Below.refl _ _).drew
 have a9 := aj.pins.below d
 have ak := aj.step a9 d
 have ba := a7.below d
 have bb := a8.below d
 have s := a5.below d
 refine dT (i := 0) rfl rfl (by kernel_rfl) (fun _ hS => yC (cs := [a]) ag26 sz26 rfl (fun j u hj => hS _ _ (by simpa using hj))) s.reads ?_
 refine dM 1 (.pointer (some ⟨b, 0, none⟩)) s.reads ?_
 refine dO (i := 2) (zO (i := 2) rfl rfl rfl (zD rfl _) (zM (vs := [(.pointer (some ⟨b, 0, none⟩)), (vJ 2)]) Try.func26 nm26 rfl rfl rfl ?_))
 refine Calls.mono (one_spec ak.pins bb (hc.mono m.le) (by omega) (by omega) (n := 2) (by omega)) ?_
 rintro _ bt ⟨al, bu, bv, rfl, bw, bx, bz, t⟩
 refine ⟨_, rfl, ?_⟩
 have am := ak.trans t (fun i hi => (yI ac) i hi)
 have bc := ba.extS t (notOb ab.symm)
 have an := s.extS t (notOb ai)
 refine ⟨fun _ => an.reads, ?_⟩
 refine dO (i := 3) (drOp0 (i := 3) rfl rfl rfl (zD rfl _) (yW (cs' := [a]) (us := [a]) (v := (.agg [a].toArray)) sz26 rfl rfl rfl (yR f.one) am.pins bc (Nat.le_of_ble_eq_true rfl) rfl (fun b0 bd be ao b2 => ?_)))
 have bf := am.write be ao ((yI av))
 have ap := an.keptA ao ah
 refine ⟨fun _ => ap.reads, ?_⟩
 refine dM 4 (.bool al) ap.reads ?_
 refine yJ (by kernel_rfl) ?_
 refine zA ?_
 refine wp_ret ?_
 refine zS ?_
 refine c_retct (cs := [a]) (v := (.bool al)) rfl rfl rfl rfl rfl ag26 sz26 (fun j u hj => by rw [Nat.zero_add]; exact bd.cell hj) ?_
 exact ⟨_, _, _, _, rfl, f, bf⟩

theorem drWinningMoves_spec {w : World} {G : Pin} {v : Value} {code : List UInt8} (hP : Pins G w) (hc : RSl eByte G v code) :
  Calls Try.prog 6 [v].toArray w fun e w' => ∃ (g : Value) (l : List Nd) (b : Bool) (G' : Pin), e = .returned (.tuple #[(.agg [g].toArray), (.bool b)]) ∧ RSl eNode G' g l ∧ Ext noS G w G' w' := by
 refine yA (n := 8) Try.func6 Try.ntmps6 rfl rfl ?_
 have c : Ext noS G w G w := Ext.refl hP
 have hm := hc.max
 refine zB (zC ?_)
 refine qI rfl (yN [(.slice none 0 0)] zr26 rfl c.pins (fun b z aa m o p => ?_))
 have h := c.step o p
 have q : w.heap.size ≤ b := by have := c.size; omega
 refine qM (.bool false) ?_
 refine qe (zA (zB (zC ?_)))
 refine qM v ?_
 refine qI rfl (zM (vs := [v]) Try.func19 nm19 rfl rfl rfl ?_)
 refine Calls.mono (drWinsMoving_spec h.pins hc) ?_
 rintro _ ab ⟨a, ac, d, G9, rfl, f, i⟩
 refine ⟨_, rfl, ?_⟩
 have k := h.tr i
 have r := m.ext i
 have ae := f.max
 refine qD rfl (yO (v := (.agg [a].toArray)) rfl rfl) ?_
 refine qD rfl (yO (v := (.bool d)) rfl rfl) ?_
 refine q0 rfl rfl rfl (yW (cs' := [a]) (us := [a]) (v := (.agg [a].toArray)) sz26 rfl rfl rfl (yR f.one) k.pins r (Nat.le_of_ble_eq_true rfl) rfl (fun af s t x ag => ?_))
 have y := k.write t x ((yI q))
 refine qM (.bool d) ?_
 refine qe (zA ?_)
 refine wp_ret ?_
 refine zS ?_
 refine c_retct (cs := [a]) (v := (.bool d)) rfl rfl rfl rfl rfl ag26 sz26 (fun j u hj => by rw [Nat.zero_add]; exact s.cell hj) ?_
 exact ⟨_, _, _, _, rfl, f, y⟩

theorem vBig_spec {w : World} {G : Pin} {v : Value} {code : List UInt8} (hP : Pins G w) (hc : RSl eByte G v code) :
  Calls Try.prog 5 [v].toArray w fun e w' => e = .returned (.bool (decide ((65536 : Int) < (code.length : Int)))) ∧ Ext noS G w G w' := by
 refine yA (n := 6) Try.func5 Try.ntmps5 rfl rfl ?_
 have hX0 : Ext noS G w G w := Ext.refl hP
 have hm := hc.max
 refine zB (zC ?_)
 refine qM (.bool false) ?_
 refine qe (zA (zB (zC ?_)))
 refine qM v ?_
 refine qD rfl (zK Try.underlying22 (v := v) rfl hc) ?_
 refine qD rfl (r_gtr rfl rfl) ?_
 refine qM (.bool (decide ((65536 : Int) < (code.length : Int)))) ?_
 refine qe (zA ?_)
 refine wp_ret ?_
 refine zS ?_
 refine zR (v := (.bool (decide ((65536 : Int) < (code.length : Int))))) rfl rfl rfl ?_
 exact ⟨rfl, hX0⟩

end DV2
end Go.Proofs.Ytkfgdhanaijddaa

set_option maxRecDepth 20000
set_option maxHeartbeats 2000000
namespace Go.Proofs.Ytkfgdhanaijddaa
namespace WN1
open Go.RowKit Go.GL Go.Proofs
open Go.Proofs.Ytkfgdhanaijddaa.B1
open Go.Proofs.Ytkfgdhanaijddaa.C1
open Go.Proofs.Ytkfgdhanaijddaa.D1
open Go.Proofs.Ytkfgdhanaijddaa.E1




theorem mk4 : (Try.prog.info? 4).map (fun i => (i.size, i.bytes, i.zero)) = some (1, 1, some (.bool false)) := by kernel_rfl





theorem wins_spec {w : World} {G : Pin} {v : Value} {ns : List Nd} (hP : Pins G w) (hv : RSl eNode G v ns) (hg : GoodP ns) :
  Calls Try.prog 21 [v].toArray w fun e w' => ∃ (u x : Value) (ls rs : List Bool) (G' : Pin), e = .returned (.tuple #[u, x]) ∧ RSl eBool G' u ls ∧ RSl eBool G' x rs ∧ FwOk winL ns ns.length ls ∧ FwOk winR ns ns.length rs ∧ Ext noS G w G' w' := by
 refine yA (n := 72) Try.func21 Try.ntmps21 rfl rfl ?_
 have a7 : Ext noS G w G w := Ext.refl hP
 have hm := hv.max
 have hlo := hg.lo
 have hhi := hg.hi
 have hoo := (good_form hg).opts
 refine zB (zC ?_)
 refine qM (.slice none 0 0) ?_
 refine qM (.slice none 0 0) ?_
 refine qe (zA (zB ?_))
 refine c_cut (fun (en : Nat → Value) (W : World) => ∃ (f : Nat → Value) (a : Value) (b : Value) (G3 : Pin), en = (upd (upd (upd (upd (upd f 0 v) 2 (.slice none 0 0)) 3 (.slice none 0 0)) 4 a) 5 b) ∧ Ext noS G w G3 W ∧ Pin.le G G3 ∧ (Own eBool 4 G3 W w.heap.size a (List.replicate ns.length false)) ∧ (Own eBool 4 G3 W w.heap.size b (List.replicate ns.length false)) ∧ (Apart a.ownBlock b.ownBlock)) ?_ ?_
 ·rintro _ w4 ⟨f, a, b, G3, rfl, bp, az, bq, br, ae⟩
  refine zA (zB (zB (zC ?_)))
  refine qM v ?_
  refine qD rfl (zK Try.underlying24 (v := v) rfl hv) ?_
  refine qM (vJ 0) ?_
  refine qe (zA ?_)
  refine zU ?_
  refine yH (fun (k : Nat) (en : Nat → Value) (W : World) => ∃ (f : Nat → Value) (i : Nat) (ls : List Bool) (rs : List Bool) (af : Pin), en = (upd (upd (upd (upd (upd (upd (upd f 2 (.slice none 0 0)) 3 (.slice none 0 0)) 4 a) 5 b) 18 v) 19 (vJ (ns.length : Int))) 20 (vJ (i : Int))) ∧ k = ns.length - i ∧ Ext noS G w af W ∧ Pin.le G3 af ∧ (i ≤ ns.length) ∧ (FwOk winL ns i ls) ∧ (FwOk winR ns i rs) ∧ (Own eBool 4 af W w.heap.size a (ls)) ∧ (Own eBool 4 af W w.heap.size b (rs))) _ ⟨_, 0, List.replicate ns.length false, List.replicate ns.length false, G3, (pS 20 (pS 19 (pS 18 (pS 5 (pS 4 (pS 3 (pU 2))))))), rfl, bp, Pin.le_refl _, Nat.zero_le _, (FwOk.start (by omega)), (FwOk.start (by omega)), bq, br⟩ ?_
  rintro dp _ dq ⟨f, i, ls, rs, af, rfl, dr, ag, ao, hi, hla, hlb, a0, a1⟩
  have hll := hla.len
  have hlr := hlb.len
  refine zB (zC ?_)
  refine qD rfl (yK rfl rfl) ?_
  refine qe (zA (zB ?_))
  refine zZ (p := ((i : Int) : Int) < (ns.length : Int)) rfl rfl (fun bs => ?_) (fun bs => ?_)
  ·skip
   have hopt := xB hoo (show i < ns.length by omega)
   refine wp_skip ?_
   refine zA (zB ?_)
   refine zU ?_
   refine zB (zC ?_)
   refine qM (vJ (i : Int)) ?_
   refine qD rfl (zG Try.underlying24 sz53 (v := v) rfl rfl hv (by omega) (by omega)) ?_
   obtain ⟨ab, ac, ah, ai, bt⟩ := qB (hv.at (z := (i : Int)) (by omega) (by omega)) (j := i) rfl
   have ds := ah.max
   have dt := ai.max
   refine qD rfl (bt ag53 sz53 rfl (Pins.of_le ag.pins (Pin.le_trans az ao))) ?_
   refine qI rfl (yN [(.slice none 0 0), (.slice none 0 0)] zr53 rfl ag.pins (fun ap du a8 bu bv a2 => ?_))
   have a9 := ag.step bv a2
   have bw := a0.below a2
   have bx := a1.below a2
   have ba : Apart (some ap) a.ownBlock := zE (congrArg some a8) a0.lt
   have bb : Apart (some ap) b.ownBlock := zE (congrArg some a8) a1.lt
   have bc : w.heap.size ≤ ap := by have := ag.size; omega
   refine qM (vJ (i : Int)) ?_
   refine q0 rfl rfl rfl (yW (cs' := [ab, ac]) (us := [ab, ac]) (v := (.agg [ab, ac].toArray)) sz53 rfl rfl rfl (ones2 ah.one ai.one) a9.pins bu (Nat.le_of_ble_eq_true rfl) rfl (fun dv bz b0 a3 dw => ?_))
   have b1 := a9.write b0 a3 ((yI bc))
   have b2 := bw.keptA a3 ba.symm
   have b3 := bx.keptA a3 bb.symm
   obtain ⟨ad, aj, bd, be, bf⟩ := bz.shut b1 bc
   have b4 := b2.moreA aj bf ba.symm
   have b5 := b3.moreA aj bf bb.symm
   refine qe (zA (zB (zB (zC ?_))))
   refine qD rfl (zL (k := 0) rfl Try.underlying53 rfl nz29 rfl) ?_
   refine qD rfl (zN (u := ab) ag29 rfl (bd.pins _ _ _ (be 0 _ rfl))) ?_
   refine qD rfl (zK Try.underlying29 (v := ab) rfl ah) ?_
   refine qM (vJ 0) ?_
   refine qe (zA ?_)
   refine zU ?_
   have b6 : ∀ q, q < (ns.getD i default).l.length → 0 ≤ (ns.getD i default).l.getD q 0 ∧ (ns.getD i default).l.getD q 0 < i := fun q hq => hopt.1 _ (yT hq)
   refine yH (fun (k : Nat) (en : Nat → Value) (W : World) => ∃ (f : Nat → Value) (j : Nat) (d : List Bool), en = (upd (upd (upd (upd (upd (upd (upd (upd (upd (upd (upd (upd f 2 (.slice none 0 0)) 3 (.slice none 0 0)) 4 a) 5 b) 6 (vJ (i : Int))) 7 (.pointer (some ⟨ap, 0, none⟩))) 18 v) 19 (vJ (ns.length : Int))) 20 (vJ (i : Int))) 26 ab) 27 (vJ (((ns.getD i default).l).length : Int))) 28 (vJ (j : Int))) ∧ k = (ns.getD i default).l.length - j ∧ Ext noS G w ad W ∧ (j ≤ (ns.getD i default).l.length) ∧ (d = ls.set i (anyN rs ((ns.getD i default).l.take j))) ∧ (Own eBool 4 ad W w.heap.size a (d)) ∧ (Own eBool 4 ad W w.heap.size b (rs))) _ ⟨_, 0, ls, (pS 28 (pS 27 (pS 26 (pS 20 (pS 19 (pS 18 (pS 7 (pS 6 (pS 5 (pS 4 (pS 3 (pU 2)))))))))))), rfl, bd, Nat.zero_le _, (fw_set hla (by omega)), b4, b5⟩ ?_
   rintro dx _ dy ⟨f, j, d, rfl, dz, h, d0, ak, m, al⟩
   have d1 : d.length = ns.length := by rw [ak, List.length_set]; omega
   refine zB (zC ?_)
   refine qD rfl (yK rfl rfl) ?_
   refine qe (zA (zB ?_))
   refine zZ (p := ((j : Int) : Int) < (((ns.getD i default).l).length : Int)) rfl rfl (fun b7 => ?_) (fun b7 => ?_)
   ·skip
    have hoq := b6 j (by omega)
    refine wp_skip ?_
    refine zA (zB ?_)
    refine zU ?_
    refine zB (zC ?_)
    refine qD rfl (zG Try.underlying29 sz3 (v := ab) rfl rfl ah (by omega) (by omega)) ?_
    refine qD rfl (zJ (r := ((ns.getD i default).l).getD j 0) rfl ag3 (z := (j : Int)) rfl ah (Pins.of_le h.pins (Pin.le_trans (Pin.le_trans az ao) aj)) (by omega) (by omega)) ?_
    refine qM (vJ (((ns.getD i default).l).getD j 0)) ?_
    refine qe (zA (zC ?_))
    refine qM a ?_
    refine qM (vJ (i : Int)) ?_
    refine qM a ?_
    refine qM (vJ (i : Int)) ?_
    refine qD rfl (zG Try.underlying49 sz4 (v := a) rfl rfl m.read (by omega) (by omega)) ?_
    refine qD rfl (yL (r := d.getD i false) rfl ag4 (z := (i : Int)) rfl m.read (Gadd.pins h.pins a) (by omega) (by omega)) ?_
    refine qM (.bool (d.getD i false)) ?_
    refine qb (t := 38) rfl (fun a4 => ?_) (fun a4 => ?_)
    ·skip
     refine qW ?_
     refine qW ?_
     refine qW ?_
     refine qW ?_
     refine qW ?_
     refine qD rfl (xF (v := (.bool true)) rfl rfl) ?_
     refine qD rfl (zG Try.underlying49 sz4 (v := a) rfl rfl m.read (by omega) (by omega)) ?_
     refine q0 rfl rfl rfl (o_set (E := eBool) (v := a) (u := (.bool true)) (z := (i : Int)) (true) sz4 rfl rfl rfl rfl h.pins m (by omega) (by omega) (fun d2 b8 b9 bg d3 => ?_))
     have ca := h.write b9 bg ((zX m))
     have cb := al.keptA bg ae.symm
     refine qe ?_
     refine zW ?_
     refine zA (zC ?_)
     refine qD rfl (yE rfl rfl (by omega)) ?_
     refine qM (vJ ((j : Int) + 1)) ?_
     refine qe ?_
     refine zY ?_
     refine ⟨_, ?_, _, rfl, _, j + 1, (d).set i true, (pS 28 (pS 27 (pS 26 (pS 20 (pS 19 (pS 18 (pS 7 (pS 6 (pS 5 (pS 4 (pS 3 (pU 2)))))))))))), rfl, ca, (by omega), (fw_next ak (by omega) (by omega) (by rw [a4]; rfl)), b8, cb⟩
     omega
    refine qN (zT (v := b) rfl) ?_
    refine qN (zT (v := (vJ (((ns.getD i default).l).getD j 0))) rfl) ?_
    refine qN (zG Try.underlying49 sz4 (v := b) rfl rfl al.read (by omega) (by omega)) ?_
    refine qN (yL (r := rs.getD (((ns.getD i default).l).getD j 0).toNat false) rfl ag4 (z := (((ns.getD i default).l).getD j 0)) rfl al.read (Gadd.pins h.pins b) (by omega) (by omega)) ?_
    refine qN (xN rfl) ?_
    refine qD rfl (yZ (v := (.bool (!(rs.getD (((ns.getD i default).l).getD j 0).toNat false)))) rfl rfl) ?_
    refine qD rfl (zG Try.underlying49 sz4 (v := a) rfl rfl m.read (by omega) (by omega)) ?_
    refine q0 rfl rfl rfl (o_set (E := eBool) (v := a) (u := (.bool (!(rs.getD (((ns.getD i default).l).getD j 0).toNat false)))) (z := (i : Int)) (!(rs.getD (((ns.getD i default).l).getD j 0).toNat false)) sz4 rfl rfl rfl rfl h.pins m (by omega) (by omega) (fun d4 cc cd bh d5 => ?_))
    have ce := h.write cd bh ((zX m))
    have cf := al.keptA bh ae.symm
    refine qe ?_
    refine zW ?_
    refine zA (zC ?_)
    refine qD rfl (yE rfl rfl (by omega)) ?_
    refine qM (vJ ((j : Int) + 1)) ?_
    refine qe ?_
    refine zY ?_
    refine ⟨_, ?_, _, rfl, _, j + 1, (d).set i (!(rs.getD (((ns.getD i default).l).getD j 0).toNat false)), (pS 28 (pS 27 (pS 26 (pS 20 (pS 19 (pS 18 (pS 7 (pS 6 (pS 5 (pS 4 (pS 3 (pU 2)))))))))))), rfl, ce, (by omega), (fw_next ak (by omega) (by omega) (by rw [a4]; rfl)), cc, cf⟩
    omega
   refine wp_exit ?_
   refine zV ?_
   refine yD ?_
   refine yB ?_
   refine zA (zB (zC ?_))
   refine qD rfl (zL (k := 1) rfl Try.underlying53 rfl nz29 rfl) ?_
   refine qD rfl (zN (u := ac) ag29 rfl (h.pins _ _ _ (be 1 _ rfl))) ?_
   refine qD rfl (zK Try.underlying29 (v := ac) rfl ai) ?_
   refine qM (vJ 0) ?_
   refine qe (zA ?_)
   refine zU ?_
   have cg : ∀ q, q < (ns.getD i default).r.length → 0 ≤ (ns.getD i default).r.getD q 0 ∧ (ns.getD i default).r.getD q 0 < i := fun q hq => hopt.2 _ (yT hq)
   refine yH (fun (k : Nat) (en : Nat → Value) (W : World) => ∃ (f : Nat → Value) (c : Nat) (o : List Bool), en = (upd (upd (upd (upd (upd (upd (upd (upd (upd (upd (upd f 2 (.slice none 0 0)) 3 (.slice none 0 0)) 4 a) 5 b) 6 (vJ (i : Int))) 18 v) 19 (vJ (ns.length : Int))) 20 (vJ (i : Int))) 48 ac) 49 (vJ (((ns.getD i default).r).length : Int))) 50 (vJ (c : Int))) ∧ k = (ns.getD i default).r.length - c ∧ Ext noS G w ad W ∧ (c ≤ (ns.getD i default).r.length) ∧ (o = rs.set i (anyN d ((ns.getD i default).r.take c))) ∧ (Own eBool 4 ad W w.heap.size b (o)) ∧ (Own eBool 4 ad W w.heap.size a (d))) _ ⟨_, 0, rs, (pS 50 (pS 49 (pS 48 (pS 20 (pS 19 (pS 18 (pS 6 (pS 5 (pS 4 (pS 3 (pU 2))))))))))), rfl, h, Nat.zero_le _, (fw_set hlb (by omega)), al, m⟩ ?_
   rintro d6 _ d7 ⟨f, c, o, rfl, d8, y, d9, aq, s, am⟩
   have ea : o.length = ns.length := by rw [aq, List.length_set]; omega
   refine zB (zC ?_)
   refine qD rfl (yK rfl rfl) ?_
   refine qe (zA (zB ?_))
   refine zZ (p := ((c : Int) : Int) < (((ns.getD i default).r).length : Int)) rfl rfl (fun ch => ?_) (fun ch => ?_)
   ·skip
    have hoq := cg c (by omega)
    refine wp_skip ?_
    refine zA (zB ?_)
    refine zU ?_
    refine zB (zC ?_)
    refine qD rfl (zG Try.underlying29 sz3 (v := ac) rfl rfl ai (by omega) (by omega)) ?_
    refine qD rfl (zJ (r := ((ns.getD i default).r).getD c 0) rfl ag3 (z := (c : Int)) rfl ai (Pins.of_le y.pins (Pin.le_trans (Pin.le_trans az ao) aj)) (by omega) (by omega)) ?_
    refine qM (vJ (((ns.getD i default).r).getD c 0)) ?_
    refine qe (zA (zC ?_))
    refine qM b ?_
    refine qM (vJ (i : Int)) ?_
    refine qM b ?_
    refine qM (vJ (i : Int)) ?_
    refine qD rfl (zG Try.underlying49 sz4 (v := b) rfl rfl s.read (by omega) (by omega)) ?_
    refine qD rfl (yL (r := o.getD i false) rfl ag4 (z := (i : Int)) rfl s.read (Gadd.pins y.pins b) (by omega) (by omega)) ?_
    refine qM (.bool (o.getD i false)) ?_
    refine qb (t := 60) rfl (fun a5 => ?_) (fun a5 => ?_)
    ·skip
     refine qW ?_
     refine qW ?_
     refine qW ?_
     refine qW ?_
     refine qW ?_
     refine qD rfl (xF (v := (.bool true)) rfl rfl) ?_
     refine qD rfl (zG Try.underlying49 sz4 (v := b) rfl rfl s.read (by omega) (by omega)) ?_
     refine q0 rfl rfl rfl (o_set (E := eBool) (v := b) (u := (.bool true)) (z := (i : Int)) (true) sz4 rfl rfl rfl rfl y.pins s (by omega) (by omega) (fun eb ci cj bi ec => ?_))
     have ck := y.write cj bi ((zX s))
     have cl := am.keptA bi ae
     refine qe ?_
     refine zW ?_
     refine zA (zC ?_)
     refine qD rfl (yE rfl rfl (by omega)) ?_
     refine qM (vJ ((c : Int) + 1)) ?_
     refine qe ?_
     refine zY ?_
     refine ⟨_, ?_, _, rfl, _, c + 1, (o).set i true, (pS 50 (pS 49 (pS 48 (pS 20 (pS 19 (pS 18 (pS 6 (pS 5 (pS 4 (pS 3 (pU 2))))))))))), rfl, ck, (by omega), (fw_next aq (by omega) (by omega) (by rw [a5]; rfl)), ci, cl⟩
     omega
    refine qN (zT (v := a) rfl) ?_
    refine qN (zT (v := (vJ (((ns.getD i default).r).getD c 0))) rfl) ?_
    refine qN (zG Try.underlying49 sz4 (v := a) rfl rfl am.read (by omega) (by omega)) ?_
    refine qN (yL (r := d.getD (((ns.getD i default).r).getD c 0).toNat false) rfl ag4 (z := (((ns.getD i default).r).getD c 0)) rfl am.read (Gadd.pins y.pins a) (by omega) (by omega)) ?_
    refine qN (xN rfl) ?_
    refine qD rfl (yZ (v := (.bool (!(d.getD (((ns.getD i default).r).getD c 0).toNat false)))) rfl rfl) ?_
    refine qD rfl (zG Try.underlying49 sz4 (v := b) rfl rfl s.read (by omega) (by omega)) ?_
    refine q0 rfl rfl rfl (o_set (E := eBool) (v := b) (u := (.bool (!(d.getD (((ns.getD i default).r).getD c 0).toNat false)))) (z := (i : Int)) (!(d.getD (((ns.getD i default).r).getD c 0).toNat false)) sz4 rfl rfl rfl rfl y.pins s (by omega) (by omega) (fun ed cm cn bj ee => ?_))
    have co := y.write cn bj ((zX s))
    have cp := am.keptA bj ae
    refine qe ?_
    refine zW ?_
    refine zA (zC ?_)
    refine qD rfl (yE rfl rfl (by omega)) ?_
    refine qM (vJ ((c : Int) + 1)) ?_
    refine qe ?_
    refine zY ?_
    refine ⟨_, ?_, _, rfl, _, c + 1, (o).set i (!(d.getD (((ns.getD i default).r).getD c 0).toNat false)), (pS 50 (pS 49 (pS 48 (pS 20 (pS 19 (pS 18 (pS 6 (pS 5 (pS 4 (pS 3 (pU 2))))))))))), rfl, co, (by omega), (fw_next aq (by omega) (by omega) (by rw [a5]; rfl)), cm, cp⟩
    omega
   refine wp_exit ?_
   refine zV ?_
   refine yD ?_
   refine yB ?_
   refine zW ?_
   refine zA (zC ?_)
   refine qD rfl (yE rfl rfl (by omega)) ?_
   refine qM (vJ ((i : Int) + 1)) ?_
   refine qe ?_
   refine zY ?_
   have hja := List.take_of_length_le (show (ns.getD i default).l.length ≤ j by omega)
   have hjb := List.take_of_length_le (show (ns.getD i default).r.length ≤ c by omega)
   refine ⟨_, ?_, _, rfl, _, i + 1, d, o, ad, (pS 20 (pS 19 (pS 18 (pS 5 (pS 4 (pS 3 (pU 2))))))), rfl, y, (Pin.le_trans ao aj), (by omega), (by rw [ak, hja]; exact hla.put (by omega) (anyN_L hoo (by omega) (fun k hk => hlb.old k hk))), (by rw [aq, hjb]; exact hlb.put (by omega) (anyN_R hoo (by omega) (fun k hk => by rw [ak]; exact hla.keep hk))), am, s⟩
   omega
  refine wp_exit ?_
  refine zV ?_
  refine yD ?_
  refine yB ?_
  refine zA (zB (zC ?_))
  refine qM a ?_
  refine qM b ?_
  refine qM a ?_
  refine qM b ?_
  refine qe (zA ?_)
  refine wp_ret ?_
  refine zS ?_
  refine c_ret2 (v := a) (u := b) rfl rfl rfl rfl rfl ?_
  obtain ⟨ef, cq, cr, cs, ct⟩ := a0.sealed ag
  have cu := a1.moreO cq ct ae.symm
  obtain ⟨eg, cv, cw, cx, eh⟩ := cu.sealed cr
  have hin : i = ns.length := by omega
  rw [hin] at hla hlb
  exact ⟨_, _, _, _, _, rfl, (cs.mono cv), cx, hla, hlb, cw⟩
 ·skip
  refine xC (S := fun wz => Pins G wz) (last := 8) (by kernel_rfl) rfl ?_
  have bk : Below w.heap.size w w.drew := (Below.refl _ _).drew
  have cy := a7.pins.below bk
  have g := a7.step cy bk
  refine dM 0 v g.pins ?_
  refine dT (i := 1) rfl rfl (by kernel_rfl) (fun _ _ => zK Try.underlying24 (v := v) rfl hv) g.pins ?_
  refine dM 3 v g.pins ?_
  refine dT (i := 4) rfl rfl (by kernel_rfl) (fun _ _ => zK Try.underlying24 (v := v) rfl hv) g.pins ?_
  refine qC (i := 2) (j := 5) (by kernel_rfl) ?_ ?_
  ·skip
   refine (zO (i := 2) rfl rfl rfl (zD rfl _) (o_make (E := eBool) false 1 (.bool false) Try.underlying49 mk4 (fun _ => rfl) rfl rfl g.pins (by omega) (by omega) (by omega) (fun ar cz c0 c3 c4 ei => ?_)))
   have an := g.step c3 c4
   have bl : Own eBool 4 G cz w.heap.size ar (List.replicate ns.length false) := c0.weaken g.size
   have ej : (List.replicate ns.length false).length = ns.length := List.length_replicate ..
   refine ⟨fun _ => an.pins, ?_⟩
   refine dM 6 ar an.pins ?_
   refine dO (i := 5) (zO (i := 5) rfl rfl rfl (zD rfl _) (o_make (E := eBool) false 1 (.bool false) Try.underlying49 mk4 (fun _ => rfl) rfl rfl an.pins (by omega) (by omega) (by omega) (fun au c5 c6 c7 bm c8 => ?_)))
   have a6 := an.step c7 bm
   have c9 := bl.below bm
   have da : Apart au.ownBlock ar.ownBlock := zE c8 bl.lt
   have db : Own eBool 4 G c5 w.heap.size au (List.replicate ns.length false) := c6.weaken an.size
   have ek : (List.replicate ns.length false).length = ns.length := List.length_replicate ..
   refine ⟨fun _ => a6.pins, ?_⟩
   refine dM 7 au a6.pins ?_
   refine yJ (by kernel_rfl) ?_
   exact xP ⟨_, ar, au, G, (pS 5 (pS 4 (pS 3 (pS 2 (pU 0))))), a6, (Pin.le_refl _), c9, db, da.symm⟩
  ·skip
   refine (zO (i := 5) rfl rfl rfl (zD rfl _) (o_make (E := eBool) false 1 (.bool false) Try.underlying49 mk4 (fun _ => rfl) rfl rfl g.pins (by omega) (by omega) (by omega) (fun av dc dd de df el => ?_)))
   have aw := g.step de df
   have bn : Own eBool 4 G dc w.heap.size av (List.replicate ns.length false) := dd.weaken g.size
   have em : (List.replicate ns.length false).length = ns.length := List.length_replicate ..
   refine ⟨fun _ => aw.pins, ?_⟩
   refine dO (i := 2) (zO (i := 2) rfl rfl rfl (zD rfl _) (o_make (E := eBool) false 1 (.bool false) Try.underlying49 mk4 (fun _ => rfl) rfl rfl aw.pins (by omega) (by omega) (by omega) (fun ax dg dh di bo dj => ?_)))
   have ay := aw.step di bo
   have dk := bn.below bo
   have dl : Apart ax.ownBlock av.ownBlock := zE dj bn.lt
   have dm : Own eBool 4 G dg w.heap.size ax (List.replicate ns.length false) := dh.weaken aw.size
   have eo : (List.replicate ns.length false).length = ns.length := List.length_replicate ..
   refine ⟨fun _ => ay.pins, ?_⟩
   refine dM 6 ax ay.pins ?_
   refine dM 7 av ay.pins ?_
   refine yJ (by kernel_rfl) ?_
   exact xP ⟨_, ax, av, G, (pS 5 (pS 4 (pS 3 (pS 2 (pU 0))))), ay, (Pin.le_refl _), dm, dk, dl⟩

end WN1
end Go.Proofs.Ytkfgdhanaijddaa

set_option maxRecDepth 20000
set_option maxHeartbeats 2000000
namespace Go.Proofs.Ytkfgdhanaijddaa
namespace WN2
open Go.RowKit Go.GL Go.Proofs
open Go.Proofs.Ytkfgdhanaijddaa.B1
open Go.Proofs.Ytkfgdhanaijddaa.C1
open Go.Proofs.Ytkfgdhanaijddaa.D1
open Go.Proofs.Ytkfgdhanaijddaa.E1











theorem l4Wins_spec {w : World} {G : Pin} {v : Value} {ns : List Nd} (hP : Pins G w) (hv : RSl eNode G v ns) (hg : GoodP ns) :
  Calls Try.prog 24 [(.agg [v].toArray)].toArray w fun e w' => ∃ (u x : Value) (G' : Pin), e = .returned (.tuple #[u, x]) ∧ RSl eBool G' u (wnL ns ns.length) ∧ RSl eBool G' x (wnR ns ns.length) ∧ Ext noS G w G' w' := by
 refine yA (n := 84) Try.func24 Try.ntmps24 rfl rfl ?_
 have ae : Ext noS G w G w := Ext.refl hP
 have hm := hv.max
 have hlo := hg.lo
 have hhi := hg.hi
 have hoo := (good_form hg).opts
 refine zB (zC ?_)
 refine qI rfl (xZ [v] (v := (.agg [v].toArray)) rfl rfl ae.pins (fun y w2 c1 be bf bg => ?_))
 have bh := ae.step bf bg
 have bi : w.heap.size ≤ y := by have := ae.size; omega
 obtain ⟨G9, h, af, m, c2⟩ := be.shut bh bi
 refine qM (.slice none 0 0) ?_
 refine qM (.slice none 0 0) ?_
 refine qe (zA (zB (zC ?_)))
 refine qI rfl (yM (E := eBool) (e := 4) Try.underlying49 sz4 af.pins (fun ab bj bk bm bn c3 => ?_))
 have ag := af.step bm bn
 have ax : Own eBool 4 G9 bj w.heap.size ab ([]) := bk.weaken af.size
 refine qI rfl (yM (E := eBool) (e := 4) Try.underlying49 sz4 ag.pins (fun ac bo bp bq ay bs => ?_))
 have bt := ag.step bq ay
 have bu := ax.below ay
 have bv : Apart ac.ownBlock ab.ownBlock := zE bs ax.lt
 have bw : Own eBool 4 G9 bo w.heap.size ac ([]) := bp.weaken ag.size
 refine qM ab ?_
 refine qM ac ?_
 refine qe (zA (zB (zB (zC ?_))))
 refine qM (vJ 0) ?_
 refine qe (zA ?_)
 refine zU ?_
 refine yH (fun (k : Nat) (en : Nat → Value) (W : World) => ∃ (g : Nat → Value) (i : Nat) (la : Value) (lb : Value) (b : Pin), en = (upd (upd (upd (upd (upd (upd g 1 (.pointer (some ⟨y, 0, none⟩))) 2 (.slice none 0 0)) 3 (.slice none 0 0)) 4 la) 5 lb) 6 (vJ (i : Int))) ∧ k = ns.length - i ∧ Ext noS G w b W ∧ Pin.le G9 b ∧ (i ≤ ns.length) ∧ (Own eBool 4 b W w.heap.size la (wnL ns i)) ∧ (Own eBool 4 b W w.heap.size lb (wnR ns i)) ∧ (Apart la.ownBlock lb.ownBlock)) _ ⟨_, 0, ab, ac, G9, (pS 6 (pS 5 (pS 4 (pS 3 (pS 2 (pU 1)))))), rfl, bt, Pin.le_refl _, Nat.zero_le _, bu, bw, bv.symm⟩ ?_
 rintro c4 _ c5 ⟨g, i, la, lb, b, rfl, c6, ah, c, hi, az, a0, ai⟩
 have hll := wnL_len ns i
 have hlr := wnR_len ns i
 refine zB (zB (zC ?_))
 refine qM (vJ (i : Int)) ?_
 refine qD rfl (zL (k := 0) rfl Try.underlying26 rfl nz24 rfl) ?_
 refine qD rfl (zN (u := v) ag24 rfl ((Pins.of_le ah.pins c) _ _ _ (m 0 _ rfl))) ?_
 refine qD rfl (zK Try.underlying24 (v := v) rfl hv) ?_
 refine qD rfl (yK rfl rfl) ?_
 refine qe (zA ?_)
 refine zZ (p := ((i : Int) : Int) < (ns.length : Int)) rfl rfl (fun bx => ?_) (fun bx => ?_)
 ·skip
  have hopt := xB hoo (show i < ns.length by omega)
  refine wp_skip ?_
  refine zA (zB ?_)
  refine zU ?_
  refine zB (zC ?_)
  refine qM (.bool false) ?_
  refine qM (.bool false) ?_
  refine qe (zA (zB (zB (zC ?_))))
  refine qM (vJ 0) ?_
  refine qe (zA ?_)
  refine zU ?_
  have bz : ∀ q, q < (ns.getD i default).l.length → 0 ≤ (ns.getD i default).l.getD q 0 ∧ (ns.getD i default).l.getD q 0 < i := fun q hq => hopt.1 _ (yT hq)
  refine yH (fun (k : Nat) (en : Nat → Value) (W : World) => ∃ (g : Nat → Value) (j : Nat) (bl : Bool), en = (upd (upd (upd (upd (upd (upd (upd (upd (upd g 1 (.pointer (some ⟨y, 0, none⟩))) 2 (.slice none 0 0)) 3 (.slice none 0 0)) 4 la) 5 lb) 6 (vJ (i : Int))) 7 (.bool bl)) 8 (.bool false)) 9 (vJ (j : Int))) ∧ k = (ns.getD i default).l.length - j ∧ Ext noS G w b W ∧ (j ≤ (ns.getD i default).l.length) ∧ (bl = anyN (wnR ns i) ((ns.getD i default).l.take j)) ∧ (Own eBool 4 b W w.heap.size la (wnL ns i)) ∧ (Own eBool 4 b W w.heap.size lb (wnR ns i))) _ ⟨_, 0, false, (pS 9 (pS 8 (pS 7 (pS 6 (pS 5 (pS 4 (pS 3 (pS 2 (pU 1))))))))), rfl, ah, Nat.zero_le _, rfl, az, a0⟩ ?_
  rintro c7 _ c8 ⟨g, j, bl, rfl, c9, f, da, hbl, aj, o⟩
  refine zB (zB (zC ?_))
  refine qM (vJ (j : Int)) ?_
  refine qD rfl (zL (k := 0) rfl Try.underlying26 rfl nz24 rfl) ?_
  refine qD rfl (zN (u := v) ag24 rfl ((Pins.of_le f.pins c) _ _ _ (m 0 _ rfl))) ?_
  refine qM (vJ (i : Int)) ?_
  refine qD rfl (zG Try.underlying24 sz53 (v := v) rfl rfl hv (by omega) (by omega)) ?_
  refine qD rfl (yX (off := 0) Try.underlying53 rfl rfl nz29 (z := (i : Int)) (k := 0) rfl hv (by omega) (by omega)) ?_
  obtain ⟨b0, a1, b2⟩ := nm_nl (hv.at (z := (i : Int)) (by omega) (by omega)) (j := i) rfl
  have db := a1.max
  refine qD rfl (b2 ag29 rfl (Pins.of_le f.pins (Pin.le_trans h c))) ?_
  refine qD rfl (zK Try.underlying29 (v := b0) rfl a1) ?_
  refine qD rfl (yK rfl rfl) ?_
  refine qe (zA ?_)
  refine zZ (p := ((j : Int) : Int) < (((ns.getD i default).l).length : Int)) rfl rfl (fun b3 => ?_) (fun b3 => ?_)
  ·skip
   have hoq := bz j (by omega)
   refine wp_skip ?_
   refine zA (zB ?_)
   refine zU ?_
   refine zC ?_
   refine qM (.bool bl) ?_
   refine qM (.bool bl) ?_
   refine qb (t := 32) rfl (fun ak => ?_) (fun ak => ?_)
   ·skip
    refine qW ?_
    refine qW ?_
    refine qW ?_
    refine qW ?_
    refine qW ?_
    refine qW ?_
    refine qW ?_
    refine qW ?_
    refine qW ?_
    refine qW ?_
    refine qW ?_
    refine qW ?_
    refine qW ?_
    refine qD rfl (xF (v := (.bool true)) rfl rfl) ?_
    refine qM (.bool true) ?_
    refine qe ?_
    refine zW ?_
    refine zA (zC ?_)
    refine qM (vJ (j : Int)) ?_
    refine qD rfl (yE rfl rfl (by omega)) ?_
    refine qM (vJ ((j : Int) + 1)) ?_
    refine qe ?_
    refine zY ?_
    refine ⟨_, ?_, _, rfl, _, j + 1, true, (pS 9 (pS 8 (pS 7 (pS 6 (pS 5 (pS 4 (pS 3 (pS 2 (pU 1))))))))), rfl, f, (by omega), (by rw [anyN_next (by omega), ← hbl, ak]; rfl), aj, o⟩
    omega
   refine qN (zT (v := lb) rfl) ?_
   refine qN (zL (k := 0) rfl Try.underlying26 rfl nz24 rfl) ?_
   refine qN (zN (u := v) ag24 rfl ((Pins.of_le f.pins c) _ _ _ (m 0 _ rfl))) ?_
   refine qN (zT (v := (vJ (i : Int))) rfl) ?_
   refine qN (zG Try.underlying24 sz53 (v := v) rfl rfl hv (by omega) (by omega)) ?_
   refine qN (yX (off := 0) Try.underlying53 rfl rfl nz29 (z := (i : Int)) (k := 0) rfl hv (by omega) (by omega)) ?_
   obtain ⟨b4, al, b5⟩ := nm_nl (hv.at (z := (i : Int)) (by omega) (by omega)) (j := i) rfl
   have dc := al.max
   refine qN (b5 ag29 rfl (Pins.of_le f.pins (Pin.le_trans h c))) ?_
   refine qN (zT (v := (vJ (j : Int))) rfl) ?_
   refine qN (zG Try.underlying29 sz3 (v := b4) rfl rfl al (by omega) (by omega)) ?_
   refine qN (zJ (r := ((ns.getD i default).l).getD j 0) rfl ag3 (z := (j : Int)) rfl al (Pins.of_le f.pins (Pin.le_trans h c)) (by omega) (by omega)) ?_
   refine qN (zG Try.underlying49 sz4 (v := lb) rfl rfl o.read (by omega) (by omega)) ?_
   refine qN (yL (r := (wnR ns i).getD (((ns.getD i default).l).getD j 0).toNat false) rfl ag4 (z := (((ns.getD i default).l).getD j 0)) rfl o.read (Gadd.pins f.pins lb) (by omega) (by omega)) ?_
   refine qN (xN rfl) ?_
   refine qD rfl (yZ (v := (.bool (!((wnR ns i).getD (((ns.getD i default).l).getD j 0).toNat false)))) rfl rfl) ?_
   refine qM (.bool (!((wnR ns i).getD (((ns.getD i default).l).getD j 0).toNat false))) ?_
   refine qe ?_
   refine zW ?_
   refine zA (zC ?_)
   refine qM (vJ (j : Int)) ?_
   refine qD rfl (yE rfl rfl (by omega)) ?_
   refine qM (vJ ((j : Int) + 1)) ?_
   refine qe ?_
   refine zY ?_
   refine ⟨_, ?_, _, rfl, _, j + 1, !((wnR ns i).getD (((ns.getD i default).l).getD j 0).toNat false), (pS 9 (pS 8 (pS 7 (pS 6 (pS 5 (pS 4 (pS 3 (pS 2 (pU 1))))))))), rfl, f, (by omega), (by rw [anyN_next (by omega), ← hbl, ak]; rfl), aj, o⟩
   omega
  refine wp_exit ?_
  refine zV ?_
  refine yD ?_
  refine yB ?_
  refine zA (zB (zB (zC ?_)))
  refine qM (vJ 0) ?_
  refine qe (zA ?_)
  refine zU ?_
  have b6 : ∀ q, q < (ns.getD i default).r.length → 0 ≤ (ns.getD i default).r.getD q 0 ∧ (ns.getD i default).r.getD q 0 < i := fun q hq => hopt.2 _ (yT hq)
  refine yH (fun (k : Nat) (en : Nat → Value) (W : World) => ∃ (g : Nat → Value) (a : Nat) (br : Bool), en = (upd (upd (upd (upd (upd (upd (upd (upd (upd g 1 (.pointer (some ⟨y, 0, none⟩))) 2 (.slice none 0 0)) 3 (.slice none 0 0)) 4 la) 5 lb) 6 (vJ (i : Int))) 7 (.bool bl)) 8 (.bool br)) 10 (vJ (a : Int))) ∧ k = (ns.getD i default).r.length - a ∧ Ext noS G w b W ∧ (a ≤ (ns.getD i default).r.length) ∧ (br = anyN (wnL ns i) ((ns.getD i default).r.take a)) ∧ (Own eBool 4 b W w.heap.size la (wnL ns i)) ∧ (Own eBool 4 b W w.heap.size lb (wnR ns i))) _ ⟨_, 0, false, (pS 10 (pS 8 (pS 7 (pS 6 (pS 5 (pS 4 (pS 3 (pS 2 (pU 1))))))))), rfl, f, Nat.zero_le _, rfl, aj, o⟩ ?_
  rintro dd _ de ⟨g, a, br, rfl, df, d, dg, hbr, s, am⟩
  refine zB (zB (zC ?_))
  refine qM (vJ (a : Int)) ?_
  refine qD rfl (zL (k := 0) rfl Try.underlying26 rfl nz24 rfl) ?_
  refine qD rfl (zN (u := v) ag24 rfl ((Pins.of_le d.pins c) _ _ _ (m 0 _ rfl))) ?_
  refine qM (vJ (i : Int)) ?_
  refine qD rfl (zG Try.underlying24 sz53 (v := v) rfl rfl hv (by omega) (by omega)) ?_
  refine qD rfl (yX (off := 1) Try.underlying53 rfl rfl nz29 (z := (i : Int)) (k := 0) rfl hv (by omega) (by omega)) ?_
  obtain ⟨b7, a2, b8⟩ := nm_nr (hv.at (z := (i : Int)) (by omega) (by omega)) (j := i) rfl
  have dh := a2.max
  refine qD rfl (b8 ag29 rfl (Pins.of_le d.pins (Pin.le_trans h c))) ?_
  refine qD rfl (zK Try.underlying29 (v := b7) rfl a2) ?_
  refine qD rfl (yK rfl rfl) ?_
  refine qe (zA ?_)
  refine zZ (p := ((a : Int) : Int) < (((ns.getD i default).r).length : Int)) rfl rfl (fun b9 => ?_) (fun b9 => ?_)
  ·skip
   have hoq := b6 a (by omega)
   refine wp_skip ?_
   refine zA (zB ?_)
   refine zU ?_
   refine zC ?_
   refine qM (.bool br) ?_
   refine qM (.bool br) ?_
   refine qb (t := 59) rfl (fun an => ?_) (fun an => ?_)
   ·skip
    refine qW ?_
    refine qW ?_
    refine qW ?_
    refine qW ?_
    refine qW ?_
    refine qW ?_
    refine qW ?_
    refine qW ?_
    refine qW ?_
    refine qW ?_
    refine qW ?_
    refine qW ?_
    refine qW ?_
    refine qD rfl (xF (v := (.bool true)) rfl rfl) ?_
    refine qM (.bool true) ?_
    refine qe ?_
    refine zW ?_
    refine zA (zC ?_)
    refine qM (vJ (a : Int)) ?_
    refine qD rfl (yE rfl rfl (by omega)) ?_
    refine qM (vJ ((a : Int) + 1)) ?_
    refine qe ?_
    refine zY ?_
    refine ⟨_, ?_, _, rfl, _, a + 1, true, (pS 10 (pS 8 (pS 7 (pS 6 (pS 5 (pS 4 (pS 3 (pS 2 (pU 1))))))))), rfl, d, (by omega), (by rw [anyN_next (by omega), ← hbr, an]; rfl), s, am⟩
    omega
   refine qN (zT (v := la) rfl) ?_
   refine qN (zL (k := 0) rfl Try.underlying26 rfl nz24 rfl) ?_
   refine qN (zN (u := v) ag24 rfl ((Pins.of_le d.pins c) _ _ _ (m 0 _ rfl))) ?_
   refine qN (zT (v := (vJ (i : Int))) rfl) ?_
   refine qN (zG Try.underlying24 sz53 (v := v) rfl rfl hv (by omega) (by omega)) ?_
   refine qN (yX (off := 1) Try.underlying53 rfl rfl nz29 (z := (i : Int)) (k := 0) rfl hv (by omega) (by omega)) ?_
   obtain ⟨ca, ao, cb⟩ := nm_nr (hv.at (z := (i : Int)) (by omega) (by omega)) (j := i) rfl
   have di := ao.max
   refine qN (cb ag29 rfl (Pins.of_le d.pins (Pin.le_trans h c))) ?_
   refine qN (zT (v := (vJ (a : Int))) rfl) ?_
   refine qN (zG Try.underlying29 sz3 (v := ca) rfl rfl ao (by omega) (by omega)) ?_
   refine qN (zJ (r := ((ns.getD i default).r).getD a 0) rfl ag3 (z := (a : Int)) rfl ao (Pins.of_le d.pins (Pin.le_trans h c)) (by omega) (by omega)) ?_
   refine qN (zG Try.underlying49 sz4 (v := la) rfl rfl s.read (by omega) (by omega)) ?_
   refine qN (yL (r := (wnL ns i).getD (((ns.getD i default).r).getD a 0).toNat false) rfl ag4 (z := (((ns.getD i default).r).getD a 0)) rfl s.read (Gadd.pins d.pins la) (by omega) (by omega)) ?_
   refine qN (xN rfl) ?_
   refine qD rfl (yZ (v := (.bool (!((wnL ns i).getD (((ns.getD i default).r).getD a 0).toNat false)))) rfl rfl) ?_
   refine qM (.bool (!((wnL ns i).getD (((ns.getD i default).r).getD a 0).toNat false))) ?_
   refine qe ?_
   refine zW ?_
   refine zA (zC ?_)
   refine qM (vJ (a : Int)) ?_
   refine qD rfl (yE rfl rfl (by omega)) ?_
   refine qM (vJ ((a : Int) + 1)) ?_
   refine qe ?_
   refine zY ?_
   refine ⟨_, ?_, _, rfl, _, a + 1, !((wnL ns i).getD (((ns.getD i default).r).getD a 0).toNat false), (pS 10 (pS 8 (pS 7 (pS 6 (pS 5 (pS 4 (pS 3 (pS 2 (pU 1))))))))), rfl, d, (by omega), (by rw [anyN_next (by omega), ← hbr, an]; rfl), s, am⟩
   omega
  refine wp_exit ?_
  refine zV ?_
  refine yD ?_
  refine yB ?_
  refine zA (zB (zC ?_))
  refine qM la ?_
  refine qM (.bool bl) ?_
  refine qI rfl (yV (E := eBool) (e := 4) [(.bool bl)] [bl] Try.underlying49 sz4 zr4 (by exact xT (by rfl)) (yR (by rfl)) rfl rfl rfl rfl (by decide) d.pins (fun a3 cc cd ce ap dj => ?_))
  have aq := d.step ce ap
  have a4 := s.below ap
  have a5 := am.below ap
  have cf : Own eBool 4 b cc w.heap.size a3 ([bl]) := cd.weaken d.size
  refine qI rfl (oA (E := eBool) (v := la) (u := a3) 1 Try.underlying49 ap4 (by decide) rfl rfl aq.pins a4 cf.src (aq.size) (fun ad dk cg ch a6 ci => ?_))
  have ar := aq.write ch a6 ((zX a4))
  have cj := a5.keptA a6 ai.symm
  have a7 : Apart lb.ownBlock ad.ownBlock := zF ai.symm ci a5.lt
  have dl : ((wnL ns i) ++ ([bl])).length = (wnL ns i).length + 1 := List.length_append
  refine qM ad ?_
  refine qe (zA (zC ?_))
  refine qM lb ?_
  refine qM (.bool br) ?_
  refine qI rfl (yV (E := eBool) (e := 4) [(.bool br)] [br] Try.underlying49 sz4 zr4 (by exact xT (by rfl)) (yR (by rfl)) rfl rfl rfl rfl (by decide) ar.pins (fun a8 ck cl cm au dm => ?_))
  have av := ar.step cm au
  have a9 := cj.below au
  have ba := cg.below au
  have cn : Own eBool 4 b ck w.heap.size a8 ([br]) := cl.weaken ar.size
  refine qI rfl (oA (E := eBool) (v := lb) (u := a8) 1 Try.underlying49 ap4 (by decide) rfl rfl av.pins a9 cn.src (av.size) (fun aw dn bb co bc cp => ?_))
  have cq := av.write co bc ((zX a9))
  have bd := ba.keptA bc a7.symm
  have cr : Apart ad.ownBlock aw.ownBlock := zF a7.symm cp ba.lt
  have dp : ((wnR ns i) ++ ([br])).length = (wnR ns i).length + 1 := List.length_append
  refine qM aw ?_
  refine qe ?_
  refine zW ?_
  refine zA (zC ?_)
  refine qM (vJ (i : Int)) ?_
  refine qD rfl (yE rfl rfl (by omega)) ?_
  refine qM (vJ ((i : Int) + 1)) ?_
  refine qe ?_
  refine zY ?_
  have hja := List.take_of_length_le (show (ns.getD i default).l.length ≤ j by omega)
  have hjb := List.take_of_length_le (show (ns.getD i default).r.length ≤ a by omega)
  rw [hja, anyN_L hoo (by omega) (fun k hk => wnR_at hk)] at hbl
  rw [hjb, anyN_R hoo (by omega) (fun k hk => wnL_at hk)] at hbr
  have hea : wnL ns i ++ [bl] = wnL ns (i + 1) := by rw [wnL_next, hbl]
  have heb : wnR ns i ++ [br] = wnR ns (i + 1) := by rw [wnR_next, hbr]
  rw [hea] at bd
  rw [heb] at bb
  refine ⟨_, ?_, _, rfl, _, i + 1, ad, aw, b, (pS 6 (pS 5 (pS 4 (pS 3 (pS 2 (pU 1)))))), rfl, cq, c, (by omega), bd, bb, cr⟩
  omega
 refine wp_exit ?_
 refine zV ?_
 refine yD ?_
 refine yB ?_
 refine zA (zB (zC ?_))
 refine qM la ?_
 refine qM lb ?_
 refine qM la ?_
 refine qM lb ?_
 refine qe (zA ?_)
 refine wp_ret ?_
 refine zS ?_
 refine c_ret2 (v := la) (u := lb) rfl rfl rfl rfl rfl ?_
 obtain ⟨dq, cs, ct, cu, cv⟩ := az.sealed ah
 have cw := a0.moreO cs cv ai.symm
 obtain ⟨dr, cx, cy, cz, ds⟩ := cw.sealed ct
 have hin : i = ns.length := by omega
 subst hin
 exact ⟨_, _, _, rfl, (cu.mono cx), cz, cy⟩

end WN2
end Go.Proofs.Ytkfgdhanaijddaa

set_option maxRecDepth 20000
set_option maxHeartbeats 2000000
namespace Go.Proofs.Ytkfgdhanaijddaa
namespace WN3
open Go.RowKit Go.GL Go.Proofs
open Go.Proofs.Ytkfgdhanaijddaa.B1
open Go.Proofs.Ytkfgdhanaijddaa.C1
open Go.Proofs.Ytkfgdhanaijddaa.D1
open Go.Proofs.Ytkfgdhanaijddaa.E1
open Go.Proofs.Ytkfgdhanaijddaa.WN1
open Go.Proofs.Ytkfgdhanaijddaa.WN2








theorem iWinsMoving_spec {w : World} {G : Pin} {v : Value} {ns : List Nd} {lf : Bool} (hP : Pins G w) (hv : RSl eNode G v ns) :
  Calls Try.prog 10 [(.agg [v].toArray), (.bool lf)].toArray w fun e w' => ∃ G', e = .returned (.tuple #[.bool (wmB ns lf), .bool (goodB ns)]) ∧ Ext noS G w G' w' := by
 refine yA (n := 30) Try.func10 Try.ntmps10 rfl rfl ?_
 have i : Ext noS G w G w := Ext.refl hP
 refine zB (zC ?_)
 refine qI rfl (xZ [v] (v := (.agg [v].toArray)) rfl rfl i.pins (fun b1 w2 ai ab ac ad => ?_))
 have ae := i.step ac ad
 have af : w.heap.size ≤ b1 := by have := i.size; omega
 obtain ⟨G9, x, l, y, ak⟩ := ab.shut ae af
 refine qM (.bool false) ?_
 refine qM (.bool false) ?_
 refine qe (zA (zB (zB (zC ?_))))
 refine qD rfl (yC (cs := [v]) ag26 sz26 rfl (fun j u hj => l.pins _ _ _ (y _ _ (by simpa using hj)))) ?_
 refine qI rfl (zM (vs := [(.agg [v].toArray)]) Try.func20 nm20 rfl rfl rfl ?_)
 refine Calls.mono (goodForm_spec l.pins (hv.mono x)) ?_
 rintro _ al ⟨am, rfl, m⟩
 refine ⟨_, rfl, ?_⟩
 have f := l.tr m
 refine qD rfl (xN rfl) ?_
 refine qe (zA ?_)
 refine c_ifn rfl rfl (fun g => ?_) (fun g => ?_)
 ·skip
  refine wp_skip ?_
  refine zA (zB (zC ?_))
  have hgb : goodB ns = true := g
  have hg := goodB_true.1 hgb
  have hlo := hg.lo
  have hhi := hg.hi
  refine qD rfl (zL (k := 0) rfl Try.underlying26 rfl nz24 rfl) ?_
  refine qD rfl (zN (u := v) ag24 rfl ((Pins.of_le f.pins m.le) _ _ _ (y 0 _ rfl))) ?_
  refine qI rfl (zM (vs := [v]) Try.func21 nm21 rfl rfl rfl ?_)
  refine Calls.mono (wins_spec f.pins (hv.mono (Pin.le_trans x m.le)) hg) ?_
  rintro _ an ⟨a, b, c, d, ao, rfl, o, p, q, s, ag⟩
  refine ⟨_, rfl, ?_⟩
  have h := f.tr ag
  have ap := q.len
  have aq := s.len
  refine qM (.tuple #[a, b]) ?_
  refine qD rfl (yO (v := a) rfl rfl) ?_
  refine qD rfl (yO (v := b) rfl rfl) ?_
  refine qM a ?_
  refine qM b ?_
  refine qe (zA (zB (zB (zC ?_))))
  refine qM (.bool lf) ?_
  refine qe (zA ?_)
  refine c_if rfl rfl (fun t => ?_) (fun t => ?_)
  ·skip
   refine zB (zC ?_)
   refine qM a ?_
   refine qM a ?_
   refine qD rfl (zK Try.underlying49 (v := a) rfl o) ?_
   refine qD rfl (r_sub rfl rfl (by omega)) ?_
   refine qD rfl (zG Try.underlying49 sz4 (v := a) rfl rfl o (by omega) (by omega)) ?_
   refine qD rfl (yL (r := c.getD ((c.length : Int) - 1).toNat false) rfl ag4 (z := ((c.length : Int) - 1)) rfl o h.pins (by omega) (by omega)) ?_
   refine qM (.bool (c.getD ((c.length : Int) - 1).toNat false)) ?_
   refine qM (.bool true) ?_
   refine qe (zA ?_)
   refine wp_ret ?_
   refine zS ?_
   refine c_ret2 (v := (.bool (c.getD ((c.length : Int) - 1).toNat false))) (u := (.bool true)) rfl rfl rfl rfl rfl ?_
   rw [t, wm_l hgb, hgb, ← q.last hlo (z := (ns.length : Int) - 1) rfl]
   exact ⟨_, by rw [q.len], h⟩
  refine wp_skip ?_
  refine zA (zB (zC ?_))
  refine qM b ?_
  refine qM b ?_
  refine qD rfl (zK Try.underlying49 (v := b) rfl p) ?_
  refine qD rfl (r_sub rfl rfl (by omega)) ?_
  refine qD rfl (zG Try.underlying49 sz4 (v := b) rfl rfl p (by omega) (by omega)) ?_
  refine qD rfl (yL (r := d.getD ((d.length : Int) - 1).toNat false) rfl ag4 (z := ((d.length : Int) - 1)) rfl p h.pins (by omega) (by omega)) ?_
  refine qM (.bool (d.getD ((d.length : Int) - 1).toNat false)) ?_
  refine qM (.bool true) ?_
  refine qe (zA ?_)
  refine wp_ret ?_
  refine zS ?_
  refine c_ret2 (v := (.bool (d.getD ((d.length : Int) - 1).toNat false))) (u := (.bool true)) rfl rfl rfl rfl rfl ?_
  rw [t, wm_r hgb, hgb, ← s.last hlo (z := (ns.length : Int) - 1) rfl]
  exact ⟨_, by rw [s.len], h⟩
 refine zB (zC ?_)
 refine qM (.bool false) ?_
 refine qM (.bool false) ?_
 refine qe (zA ?_)
 refine wp_ret ?_
 refine zS ?_
 refine c_ret2 (v := (.bool false)) (u := (.bool false)) rfl rfl rfl rfl rfl ?_
 rw [wm_no g, g]
 exact ⟨_, rfl, f⟩

end WN3
end Go.Proofs.Ytkfgdhanaijddaa

set_option maxRecDepth 20000
set_option maxHeartbeats 2000000
namespace Go.Proofs.Ytkfgdhanaijddaa
namespace N1
open Go.RowKit Go.GL Go.Proofs
open Go.Proofs.Ytkfgdhanaijddaa.B1
open Go.Proofs.Ytkfgdhanaijddaa.C1
open Go.Proofs.Ytkfgdhanaijddaa.D1
open Go.Proofs.Ytkfgdhanaijddaa.E1











theorem pl83 : (Try.prog.underlying 83).bind (placesD Try.prog) = some [(0, 1), (1, 1)] := by kernel_rfl






theorem l3Part_spec {w : World} {G : Pin} {v : Value} {ns : List Nd} {z : Int} (hP : Pins G w) (hv : RSl eNode G v ns) (hf : FormOk ns) (hz : 0 ≤ z ∧ z < ns.length) :
  Calls Try.prog 47 [(.agg [v].toArray), (vJ z)].toArray w fun e w' => ∃ (u : Value) (G' : Pin), e = .returned (.agg [u].toArray) ∧ RSl eNode G' u (partS ns z) ∧ Ext noS G w G' w' := by
 refine yA (n := 18) Try.func47 Try.ntmps47 rfl rfl ?_
 have f : Ext noS G w G w := Ext.refl hP
 have hfl := hf.len
 have hao := addM_all xW hf (by simp; omega)
 have hal := hao.len
 refine zB (zC ?_)
 refine qI rfl (xZ [v] (v := (.agg [v].toArray)) rfl rfl f.pins (fun b1 w2 bb ad ae af => ?_))
 have ag := f.step ae af
 have ah : w.heap.size ≤ b1 := by have := f.size; omega
 obtain ⟨G9, ai, g, aj, bd⟩ := ad.shut ag ah
 refine qI rfl (yN [(.slice none 0 0)] zr26 rfl g.pins (fun p be bf q ak al => ?_))
 have k := g.step ak al
 have am : w.heap.size ≤ p := by have := g.size; omega
 refine qe (zA (zB (zC ?_)))
 refine qD rfl (qA [(.slice none 0 0), (.slice none 0 0)] [(.slice none 0 0), (.slice none 0 0)] [] Try.underlying83 zr83 rfl pl83 rfl (fun _ h => by cases h) rfl) ?_
 refine qI rfl (xZ [(.slice none 0 0), (.slice none 0 0)] (v := (.agg [(.slice none 0 0), (.slice none 0 0)].toArray)) rfl rfl k.pins (fun a bg an ao ap s => ?_))
 have c := k.step ap s
 have aq := q.below s
 have ar : Apart (some a) (some p) := zI (congrArg some an) q.lt
 have au : w.heap.size ≤ a := by have := k.size; omega
 refine qM (.pointer (some ⟨a, 0, none⟩)) ?_
 refine qe (zA (zB (zC ?_)))
 refine qM (.pointer (some ⟨a, 0, none⟩)) ?_
 refine qD rfl (yC (cs := [v]) ag26 sz26 rfl (fun j u hj => c.pins _ _ _ (aj _ _ (by simpa using hj)))) ?_
 refine qI rfl (zM (vs := [(.pointer (some ⟨a, 0, none⟩)), (.agg [v].toArray)]) Try.func66 nm66 rfl rfl rfl ?_)
 refine Calls.mono (add_spec c.pins ⟨ao, (Own.nil _ _ _ _ _), (Own.nil _ _ _ _ _), apart_none.symm, apart_none.symm, apart_none⟩ xW (hv.mono ai) hf (by first | omega | (simp; omega))) ?_
 rintro _ bh ⟨l, bi, bj, bk, rfl, t, b, x, av, aw⟩
 refine ⟨_, rfl, ?_⟩
 have m : ∀ i, inS a (.slice none 0 0) (.slice none 0 0) i → w.heap.size ≤ i ∨ noS i := inS_lo (yI au) (lo_none _ _) (lo_none _ _)
 have o := c.trans x m
 have ax := notS (u := (.slice none 0 0)) (v := (.slice none 0 0)) ar.symm apart_none.symm apart_none.symm
 have ay := aq.extS x (notSb ax)
 have az := b.bx
 have a0 := b.ou
 have a1 := b.ov
 have a2 := b.abu
 have a3 := b.abv
 have a4 := b.auv
 have bl := xQ av m c.size
 have bm := xQ aw m c.size
 refine qM l ?_
 refine qe (zA (zB (zC ?_)))
 refine qM (.pointer (some ⟨a, 0, none⟩)) ?_
 refine qM l ?_
 refine qM (vJ z) ?_
 refine qD rfl (zG Try.underlying29 sz3 (v := l) rfl rfl t (by omega) (by omega)) ?_
 refine qD rfl (zJ (r := ((addM ([]) ([]) ns).1).getD (z).toNat 0) rfl ag3 (z := z) rfl t o.pins (by omega) (by omega)) ?_
 refine qI rfl (zM (vs := [(.pointer (some ⟨a, 0, none⟩)), (vJ (((addM ([]) ([]) ns).1).getD (z).toNat 0))]) Try.func45 nm45 rfl rfl rfl ?_)
 refine Calls.mono (form_spec o.pins ⟨az, a0, a1, a2, a3, a4⟩ hao.book (hao.places _ (by omega))) ?_
 rintro _ bn ⟨d, bo, rfl, y, aa⟩
 refine ⟨_, rfl, ?_⟩
 have ab := o.tr aa
 have a5 := ay.ext aa
 refine q0 rfl rfl rfl (yW (cs' := [d]) (us := [d]) (v := (.agg [d].toArray)) sz26 rfl rfl rfl (yR y.one) ab.pins a5 (Nat.le_of_ble_eq_true rfl) rfl (fun bp a6 a7 a8 bq => ?_))
 have a9 := ab.write a7 a8 ((yI am))
 refine qe (zA ?_)
 refine wp_ret ?_
 refine zS ?_
 refine c_retc (cs := [d]) rfl rfl rfl ag26 sz26 (fun j u hj => by rw [Nat.zero_add]; exact a6.cell hj) ?_
 exact ⟨_, _, rfl, y, a9⟩

theorem l3OptsF_spec {w : World} {G : Pin} {v : Value} {ns : List Nd} (hP : Pins G w) (hv : RSl eNode G v ns) (hf : FormOk ns) (hlo : 1 ≤ ns.length) :
  Calls Try.prog 25 [(.agg [v].toArray)].toArray w fun e w' => ∃ (u v : Value) (G' : Pin), e = .returned (.tuple #[u, v]) ∧ RSl (eSl eNode) G' u (optsS ns (lastN ns).l) ∧ RSl (eSl eNode) G' v (optsS ns (lastN ns).r) ∧ Ext noS G w G' w' := by
 refine yA (n := 55) Try.func25 Try.ntmps25 rfl rfl ?_
 have ap : Ext noS G w G w := Ext.refl hP
 have hhi := hf.len
 have hlast : ((ns.length : Int) - 1).toNat = ns.length - 1 := by omega
 have hoo := xB hf.opts (show ns.length - 1 < ns.length by omega)
 have hll := hf.lens (ns.length - 1) (by omega)
 have hL : ∀ i, i < (lastN ns).l.length → 0 ≤ (lastN ns).l.getD i 0 ∧ (lastN ns).l.getD i 0 < ns.length := fun i hi => by have h := hoo.1 _ (yT (d := (0 : Int)) hi); show 0 ≤ (lastN ns).l.getD i 0 ∧ (lastN ns).l.getD i 0 < ns.length; unfold lastN; omega
 have hR : ∀ i, i < (lastN ns).r.length → 0 ≤ (lastN ns).r.getD i 0 ∧ (lastN ns).r.getD i 0 < ns.length := fun i hi => by have h := hoo.2 _ (yT (d := (0 : Int)) hi); show 0 ≤ (lastN ns).r.getD i 0 ∧ (lastN ns).r.getD i 0 < ns.length; unfold lastN; omega
 have hLl : (lastN ns).l.length ≤ 1048576 := hll.1
 have hRl : (lastN ns).r.length ≤ 1048576 := hll.2
 have elast : lastN ns = ns.getD ((ns.length : Int) - 1).toNat default := by unfold lastN; rw [hlast]
 rw [elast] at hL hR hLl hRl
 refine zB (zC ?_)
 refine qI rfl (xZ [v] (v := (.agg [v].toArray)) rfl rfl ap.pins (fun b1 w2 dz bx bz b0 => ?_))
 have b2 := ap.step bz b0
 have b3 : w.heap.size ≤ b1 := by have := ap.size; omega
 obtain ⟨G9, y, ar, af, d0⟩ := bx.shut b2 b3
 refine qM (.slice none 0 0) ?_
 refine qM (.slice none 0 0) ?_
 refine qe (zA (zB (zC ?_)))
 refine qI rfl (yM (E := (eSl eNode)) (e := 26) Try.underlying35 sz26 ar.pins (fun aa b4 b5 b6 b7 d1 => ?_))
 have au := ar.step b6 b7
 have a8 : Own (eSl eNode) 26 G9 b4 w.heap.size aa ([]) := b5.weaken ar.size
 refine qI rfl (yM (E := (eSl eNode)) (e := 26) Try.underlying35 sz26 au.pins (fun b b8 b9 ca a9 cb => ?_))
 have t := au.step ca a9
 have ba := a8.below a9
 have cc : Apart b.ownBlock aa.ownBlock := zE cb a8.lt
 have bb : Own (eSl eNode) 26 G9 b8 w.heap.size b ([]) := b9.weaken au.size
 refine qM aa ?_
 refine qM b ?_
 refine qe (zA (zB (zC ?_)))
 refine qD rfl (zL (k := 0) rfl Try.underlying26 rfl nz24 rfl) ?_
 refine qD rfl (zN (u := v) ag24 rfl (t.pins _ _ _ (af 0 _ rfl))) ?_
 refine qD rfl (zL (k := 0) rfl Try.underlying26 rfl nz24 rfl) ?_
 refine qD rfl (zN (u := v) ag24 rfl (t.pins _ _ _ (af 0 _ rfl))) ?_
 refine qD rfl (zK Try.underlying24 (v := v) rfl hv) ?_
 refine qD rfl (r_sub rfl rfl (by omega)) ?_
 refine qD rfl (zG Try.underlying24 sz53 (v := v) rfl rfl hv (by omega) (by omega)) ?_
 obtain ⟨q, s, ab, ac, cd⟩ := qB (hv.at (z := ((ns.length : Int) - 1)) (by omega) (by omega)) (j := ((ns.length : Int) - 1).toNat) rfl
 have d2 := ab.max
 have d3 := ac.max
 refine qD rfl (cd ag53 sz53 rfl (Pins.of_le t.pins y)) ?_
 refine qI rfl (yN [(.slice none 0 0), (.slice none 0 0)] zr53 rfl t.pins (fun ad d4 bc ce cf av => ?_))
 have bd := t.step cf av
 have cg := ba.below av
 have ch := bb.below av
 have be : Apart (some ad) aa.ownBlock := zE (congrArg some bc) ba.lt
 have bf : Apart (some ad) b.ownBlock := zE (congrArg some bc) bb.lt
 have bg : w.heap.size ≤ ad := by have := t.size; omega
 refine q0 rfl rfl rfl (yW (cs' := [q, s]) (us := [q, s]) (v := (.agg [q, s].toArray)) sz53 rfl rfl rfl (ones2 ab.one ac.one) bd.pins ce (Nat.le_of_ble_eq_true rfl) rfl (fun d5 ci cj aw d6 => ?_))
 have ck := bd.write cj aw ((yI bg))
 have cl := cg.keptA aw be.symm
 have cm := ch.keptA aw bf.symm
 obtain ⟨bh, g, cn, ag, bi⟩ := ci.shut ck bg
 have co := cl.moreA g bi be.symm
 have cp := cm.moreA g bi bf.symm
 refine qe (zA (zB (zB (zC ?_))))
 refine qM (vJ 0) ?_
 refine qe (zA ?_)
 refine zU ?_
 refine yH (fun (k : Nat) (en : Nat → Value) (W : World) => ∃ (ae : Nat → Value) (j : Nat) (ovA : Value) (osA : List (List Nd)) (GA : Pin), en = (upd (upd (upd (upd (upd (upd (upd ae 1 (.pointer (some ⟨b1, 0, none⟩))) 2 (.slice none 0 0)) 3 (.slice none 0 0)) 4 ovA) 5 b) 6 (.pointer (some ⟨ad, 0, none⟩))) 7 (vJ (j : Int))) ∧ k = (ns.getD ((ns.length : Int) - 1).toNat default).l.length - j ∧ Ext noS G w GA W ∧ Pin.le bh GA ∧ (j ≤ (ns.getD ((ns.length : Int) - 1).toNat default).l.length) ∧ (osA = optsS ns ((ns.getD ((ns.length : Int) - 1).toNat default).l.take j)) ∧ (osA.length = j) ∧ (Own (eSl eNode) 26 GA W w.heap.size ovA (osA)) ∧ (Own (eSl eNode) 26 GA W w.heap.size b ([])) ∧ (Apart ovA.ownBlock b.ownBlock)) _ ⟨_, 0, aa, [], bh, (pS 7 (pS 6 (pS 5 (pS 4 (pS 3 (pS 2 (pU 1))))))), rfl, cn, Pin.le_refl _, Nat.zero_le _, rfl, rfl, co, cp, cc.symm⟩ ?_
 rintro d7 _ ax ⟨ae, j, ovA, osA, GA, rfl, d8, ah, a, hjA, hosA, holA, bj, bk, ay⟩
 refine zB (zB (zC ?_))
 refine qM (vJ (j : Int)) ?_
 refine qD rfl (zL (k := 0) rfl Try.underlying53 rfl nz29 rfl) ?_
 refine qD rfl (zN (u := q) ag29 rfl ((Pins.of_le ah.pins a) _ _ _ (ag 0 _ rfl))) ?_
 refine qD rfl (zK Try.underlying29 (v := q) rfl ab) ?_
 refine qD rfl (yK rfl rfl) ?_
 refine qe (zA ?_)
 refine zZ (p := ((j : Int) : Int) < (((ns.getD ((ns.length : Int) - 1).toNat default).l).length : Int)) rfl rfl (fun cq => ?_) (fun cq => ?_)
 ·skip
  refine wp_skip ?_
  refine zA (zB ?_)
  refine zU ?_
  refine xC (S := fun wz => Pins GA wz) (last := 11) (by kernel_rfl) rfl ?_
  have ai : Below ax.heap.size ax ax.drew := (Below.refl _ _).drew
  have cr := ah.pins.below ai
  have c := ah.step cr ai
  have ct := bj.below ai
  have cu := bk.below ai
  refine dM 0 ovA c.pins ?_
  refine dT (i := 1) rfl rfl (by kernel_rfl) (fun _ hS => yC (cs := [v]) ag26 sz26 rfl (fun j u hj => (Pins.of_le hS (Pin.le_trans g a)) _ _ _ (af _ _ (by simpa using hj)))) c.pins ?_
  refine dT (i := 2) rfl rfl (by kernel_rfl) (fun _ _ => zL (k := 0) rfl Try.underlying53 rfl nz29 rfl) c.pins ?_
  refine dT (i := 3) rfl rfl (by kernel_rfl) (fun _ hS => zN (u := q) ag29 rfl ((Pins.of_le hS a) _ _ _ (ag 0 _ rfl))) c.pins ?_
  refine dM 4 (vJ (j : Int)) c.pins ?_
  refine dT (i := 5) rfl rfl (by kernel_rfl) (fun _ _ => zG Try.underlying29 sz3 (v := q) rfl rfl ab (by omega) (by omega)) c.pins ?_
  refine dT (i := 6) rfl rfl (by kernel_rfl) (fun _ hS => zJ (r := ((ns.getD ((ns.length : Int) - 1).toNat default).l).getD j 0) rfl ag3 (z := (j : Int)) rfl ab (Pins.of_le hS (Pin.le_trans (Pin.le_trans y g) a)) (by omega) (by omega)) c.pins ?_
  refine dO (i := 7) (zO (i := 7) rfl rfl rfl (zD rfl _) (zM (vs := [(.agg [v].toArray), (vJ (((ns.getD ((ns.length : Int) - 1).toNat default).l).getD j 0))]) Try.func47 nm47 rfl rfl rfl ?_))
  refine Calls.mono (l3Part_spec c.pins (hv.mono (Pin.le_trans (Pin.le_trans y g) a)) hf (hL _ (by omega))) ?_
  rintro _ d9 ⟨cv, bl, rfl, cw, m⟩
  refine ⟨_, rfl, ?_⟩
  have aj := c.tr m
  have cx := ct.ext m
  have cy := cu.ext m
  refine ⟨fun _ => (Pins.of_le aj.pins m.le), ?_⟩
  refine dO (i := 8) (zO (i := 8) rfl rfl rfl (zD rfl _) (yY (E := (eSl eNode)) (e := 26) [cv] (partS ns (((ns.getD ((ns.length : Int) - 1).toNat default).l).getD j 0)) Try.underlying35 sz26 zr26 ⟨_, rfl, cw⟩ rfl (by decide) aj.pins (fun bm cz c0 c1 az ea => ?_)))
  have ak := aj.step c1 az
  have bn := cx.below az
  have bo := cy.below az
  have c2 : Own (eSl eNode) 26 bl cz w.heap.size bm ([partS ns (((ns.getD ((ns.length : Int) - 1).toNat default).l).getD j 0)]) := c0.weaken aj.size
  refine ⟨fun _ => (Pins.of_le ak.pins m.le), ?_⟩
  refine dO (i := 9) (zO (i := 9) rfl rfl rfl (zD rfl _) (oA (E := (eSl eNode)) (v := ovA) (u := bm) 24 Try.underlying35 ap26 (by decide) rfl rfl ak.pins bn c2.src (ak.size) (fun a0 eb c3 c4 bp c5 => ?_)))
  have a1 := ak.write c4 bp ((zX bn))
  have c6 := bo.keptA bp ay.symm
  have c7 : Apart b.ownBlock a0.ownBlock := zF ay.symm c5 bo.lt
  have ec : (osA ++ ([partS ns (((ns.getD ((ns.length : Int) - 1).toNat default).l).getD j 0)])).length = osA.length + 1 := List.length_append
  refine ⟨fun _ => (Pins.of_le a1.pins m.le), ?_⟩
  refine dM 10 a0 (Pins.of_le a1.pins m.le) ?_
  refine yJ (by kernel_rfl) ?_
  refine zW ?_
  refine zA (zC ?_)
  refine qM (vJ (j : Int)) ?_
  refine qD rfl (yE rfl rfl (by omega)) ?_
  refine qM (vJ ((j : Int) + 1)) ?_
  refine qe ?_
  refine zY ?_
  refine ⟨_, ?_, _, rfl, _, j + 1, a0, osA ++ [partS ns ((ns.getD ((ns.length : Int) - 1).toNat default).l.getD j 0)], bl, (pS 7 (pS 6 (pS 5 (pS 4 (pS 3 (pS 2 (pU 1))))))), rfl, a1, (Pin.le_trans a m.le), (by omega), (by rw [hosA]; exact optsS_next (by omega)), (by simp; omega), c3, c6, c7.symm⟩
  omega
 refine wp_exit ?_
 refine zV ?_
 refine yD ?_
 refine yB ?_
 refine zA (zB (zB (zC ?_)))
 refine qM (vJ 0) ?_
 refine qe (zA ?_)
 refine zU ?_
 refine yH (fun (k : Nat) (en : Nat → Value) (W : World) => ∃ (ae : Nat → Value) (i : Nat) (ovB : Value) (osB : List (List Nd)) (GB : Pin), en = (upd (upd (upd (upd (upd (upd (upd ae 1 (.pointer (some ⟨b1, 0, none⟩))) 2 (.slice none 0 0)) 3 (.slice none 0 0)) 4 ovA) 5 ovB) 6 (.pointer (some ⟨ad, 0, none⟩))) 8 (vJ (i : Int))) ∧ k = (ns.getD ((ns.length : Int) - 1).toNat default).r.length - i ∧ Ext noS G w GB W ∧ Pin.le GA GB ∧ (i ≤ (ns.getD ((ns.length : Int) - 1).toNat default).r.length) ∧ (osB = optsS ns ((ns.getD ((ns.length : Int) - 1).toNat default).r.take i)) ∧ (osB.length = i) ∧ (Own (eSl eNode) 26 GB W w.heap.size ovB (osB)) ∧ (Own (eSl eNode) 26 GB W w.heap.size ovA (osA)) ∧ (Apart ovB.ownBlock ovA.ownBlock)) _ ⟨_, 0, b, [], GA, (pS 8 (pS 6 (pS 5 (pS 4 (pS 3 (pS 2 (pU 1))))))), rfl, ah, Pin.le_refl _, Nat.zero_le _, rfl, rfl, bk, bj, ay.symm⟩ ?_
 rintro ed _ a2 ⟨ae, i, ovB, osB, GB, rfl, ee, al, x, hjB, hosB, holB, bq, br, a3⟩
 refine zB (zB (zC ?_))
 refine qM (vJ (i : Int)) ?_
 refine qD rfl (zL (k := 1) rfl Try.underlying53 rfl nz29 rfl) ?_
 refine qD rfl (zN (u := s) ag29 rfl ((Pins.of_le al.pins (Pin.le_trans a x)) _ _ _ (ag 1 _ rfl))) ?_
 refine qD rfl (zK Try.underlying29 (v := s) rfl ac) ?_
 refine qD rfl (yK rfl rfl) ?_
 refine qe (zA ?_)
 refine zZ (p := ((i : Int) : Int) < (((ns.getD ((ns.length : Int) - 1).toNat default).r).length : Int)) rfl rfl (fun c8 => ?_) (fun c8 => ?_)
 ·skip
  refine wp_skip ?_
  refine zA (zB ?_)
  refine zU ?_
  refine xC (S := fun wz => Pins GB wz) (last := 11) (by kernel_rfl) rfl ?_
  have am : Below a2.heap.size a2 a2.drew := (Below.refl _ _).drew
  have c9 := al.pins.below am
  have f := al.step c9 am
  have da := bq.below am
  have db := br.below am
  refine dM 0 ovB f.pins ?_
  refine dT (i := 1) rfl rfl (by kernel_rfl) (fun _ hS => yC (cs := [v]) ag26 sz26 rfl (fun j u hj => (Pins.of_le hS (Pin.le_trans (Pin.le_trans g a) x)) _ _ _ (af _ _ (by simpa using hj)))) f.pins ?_
  refine dT (i := 2) rfl rfl (by kernel_rfl) (fun _ _ => zL (k := 1) rfl Try.underlying53 rfl nz29 rfl) f.pins ?_
  refine dT (i := 3) rfl rfl (by kernel_rfl) (fun _ hS => zN (u := s) ag29 rfl ((Pins.of_le hS (Pin.le_trans a x)) _ _ _ (ag 1 _ rfl))) f.pins ?_
  refine dM 4 (vJ (i : Int)) f.pins ?_
  refine dT (i := 5) rfl rfl (by kernel_rfl) (fun _ _ => zG Try.underlying29 sz3 (v := s) rfl rfl ac (by omega) (by omega)) f.pins ?_
  refine dT (i := 6) rfl rfl (by kernel_rfl) (fun _ hS => zJ (r := ((ns.getD ((ns.length : Int) - 1).toNat default).r).getD i 0) rfl ag3 (z := (i : Int)) rfl ac (Pins.of_le hS (Pin.le_trans (Pin.le_trans (Pin.le_trans y g) a) x)) (by omega) (by omega)) f.pins ?_
  refine dO (i := 7) (zO (i := 7) rfl rfl rfl (zD rfl _) (zM (vs := [(.agg [v].toArray), (vJ (((ns.getD ((ns.length : Int) - 1).toNat default).r).getD i 0))]) Try.func47 nm47 rfl rfl rfl ?_))
  refine Calls.mono (l3Part_spec f.pins (hv.mono (Pin.le_trans (Pin.le_trans (Pin.le_trans y g) a) x)) hf (hR _ (by omega))) ?_
  rintro _ ef ⟨dc, bs, rfl, dd, o⟩
  refine ⟨_, rfl, ?_⟩
  have an := f.tr o
  have de := da.ext o
  have df := db.ext o
  refine ⟨fun _ => (Pins.of_le an.pins o.le), ?_⟩
  refine dO (i := 8) (zO (i := 8) rfl rfl rfl (zD rfl _) (yY (E := (eSl eNode)) (e := 26) [dc] (partS ns (((ns.getD ((ns.length : Int) - 1).toNat default).r).getD i 0)) Try.underlying35 sz26 zr26 ⟨_, rfl, dd⟩ rfl (by decide) an.pins (fun bt dg dh di a4 eg => ?_)))
  have ao := an.step di a4
  have bu := de.below a4
  have bv := df.below a4
  have dj : Own (eSl eNode) 26 bs dg w.heap.size bt ([partS ns (((ns.getD ((ns.length : Int) - 1).toNat default).r).getD i 0)]) := dh.weaken an.size
  refine ⟨fun _ => (Pins.of_le ao.pins o.le), ?_⟩
  refine dO (i := 9) (zO (i := 9) rfl rfl rfl (zD rfl _) (oA (E := (eSl eNode)) (v := ovB) (u := bt) 24 Try.underlying35 ap26 (by decide) rfl rfl ao.pins bu dj.src (ao.size) (fun a5 eh dk dl bw dm => ?_)))
  have a6 := ao.write dl bw ((zX bu))
  have dn := bv.keptA bw a3.symm
  have dp : Apart ovA.ownBlock a5.ownBlock := zF a3.symm dm bv.lt
  have ei : (osB ++ ([partS ns (((ns.getD ((ns.length : Int) - 1).toNat default).r).getD i 0)])).length = osB.length + 1 := List.length_append
  refine ⟨fun _ => (Pins.of_le a6.pins o.le), ?_⟩
  refine dM 10 a5 (Pins.of_le a6.pins o.le) ?_
  refine yJ (by kernel_rfl) ?_
  refine zW ?_
  refine zA (zC ?_)
  refine qM (vJ (i : Int)) ?_
  refine qD rfl (yE rfl rfl (by omega)) ?_
  refine qM (vJ ((i : Int) + 1)) ?_
  refine qe ?_
  refine zY ?_
  refine ⟨_, ?_, _, rfl, _, i + 1, a5, osB ++ [partS ns ((ns.getD ((ns.length : Int) - 1).toNat default).r.getD i 0)], bs, (pS 8 (pS 6 (pS 5 (pS 4 (pS 3 (pS 2 (pU 1))))))), rfl, a6, (Pin.le_trans x o.le), (by omega), (by rw [hosB]; exact optsS_next (by omega)), (by simp; omega), dk, dn, dp.symm⟩
  omega
 refine wp_exit ?_
 refine zV ?_
 refine yD ?_
 refine yB ?_
 refine zA (zB (zC ?_))
 refine qM ovA ?_
 refine qM ovB ?_
 refine qM ovA ?_
 refine qM ovB ?_
 refine qe (zA ?_)
 refine wp_ret ?_
 refine zS ?_
 refine c_ret2 (v := ovA) (u := ovB) rfl rfl rfl rfl rfl ?_
 obtain ⟨ej, dq, dr, ds, dt⟩ := br.sealed al
 have du := bq.moreO dq dt a3
 obtain ⟨ek, dv, dw, dx, el⟩ := du.sealed dr
 rw [take_all (by omega)] at hosA hosB
 rw [elast, ← hosA, ← hosB]
 exact ⟨_, _, _, rfl, (ds.mono dv), dx, dw⟩

theorem l3Opts_spec {w : World} {G : Pin} {v : Value} {ns : List Nd} (hP : Pins G w) (hv : RSl eNode G v ns) (hg : GoodP ns) :
  Calls Try.prog 25 [(.agg [v].toArray)].toArray w fun e w' => ∃ (u v : Value) (G' : Pin), e = .returned (.tuple #[u, v]) ∧ RSl (eSl eNode) G' u (optsS ns (lastN ns).l) ∧ RSl (eSl eNode) G' v (optsS ns (lastN ns).r) ∧ Ext noS G w G' w' :=
 l3OptsF_spec hP hv (good_form hg) hg.lo

end N1
end Go.Proofs.Ytkfgdhanaijddaa

set_option maxRecDepth 20000
set_option maxHeartbeats 2000000
namespace Go.Proofs.Ytkfgdhanaijddaa
namespace WM1
open Go.RowKit Go.GL Go.Proofs
open Go.Proofs.Ytkfgdhanaijddaa.B1
open Go.Proofs.Ytkfgdhanaijddaa.C1
open Go.Proofs.Ytkfgdhanaijddaa.D1
open Go.Proofs.Ytkfgdhanaijddaa.E1
open Go.Proofs.Ytkfgdhanaijddaa.WN1
open Go.Proofs.Ytkfgdhanaijddaa.WN2

















theorem top_spec {w : World} {G : Pin} {v : Value} {ns : List Nd} (hP : Pins G w) (hv : RSl eNode G v ns) (hn : 1 ≤ ns.length) :
  Calls Try.prog 22 [(.agg [v].toArray)].toArray w fun e w' => ∃ (u v : Value) (G' : Pin), e = .returned (.agg [u, v].toArray) ∧ RSl eInt G' u (lastN ns).l ∧ RSl eInt G' v (lastN ns).r ∧ Ext noS G w G' w' := by
 refine yA (n := 11) Try.func22 Try.ntmps22 rfl rfl ?_
 have d : Ext noS G w G w := Ext.refl hP
 have hm := hv.max
 have hlast : ((ns.length : Int) - 1).toNat = ns.length - 1 := by omega
 refine zB (zC ?_)
 refine qI rfl (xZ [v] (v := (.agg [v].toArray)) rfl rfl d.pins (fun o w2 ak p q s => ?_))
 have t := d.step q s
 have x : w.heap.size ≤ o := by have := d.size; omega
 obtain ⟨G9, f, g, m, am⟩ := p.shut t x
 refine qI rfl (yN [(.slice none 0 0), (.slice none 0 0)] zr53 rfl g.pins (fun y an ao aa ab ac => ?_))
 have a := g.step ab ac
 have ad : w.heap.size ≤ y := by have := g.size; omega
 refine qe (zA (zB (zC ?_)))
 refine qD rfl (zL (k := 0) rfl Try.underlying26 rfl nz24 rfl) ?_
 refine qD rfl (zN (u := v) ag24 rfl (a.pins _ _ _ (m 0 _ rfl))) ?_
 refine qD rfl (zL (k := 0) rfl Try.underlying26 rfl nz24 rfl) ?_
 refine qD rfl (zN (u := v) ag24 rfl (a.pins _ _ _ (m 0 _ rfl))) ?_
 refine qD rfl (zK Try.underlying24 (v := v) rfl hv) ?_
 refine qD rfl (r_sub rfl rfl (by omega)) ?_
 refine qD rfl (zG Try.underlying24 sz53 (v := v) rfl rfl hv (by omega) (by omega)) ?_
 obtain ⟨b, c, h, i, ae⟩ := qB (hv.at (z := ((ns.length : Int) - 1)) (by omega) (by omega)) (j := ((ns.length : Int) - 1).toNat) rfl
 have ap := h.max
 have aq := i.max
 refine qD rfl (ae ag53 sz53 rfl (Pins.of_le a.pins f)) ?_
 refine q0 rfl rfl rfl (yW (cs' := [b, c]) (us := [b, c]) (v := (.agg [b, c].toArray)) sz53 rfl rfl rfl (ones2 h.one i.one) a.pins aa (Nat.le_of_ble_eq_true rfl) rfl (fun ar af ag ah au => ?_))
 have ai := a.write ag ah ((yI ad))
 refine qe (zA ?_)
 refine wp_ret ?_
 refine zS ?_
 refine c_retc (cs := [b, c]) rfl rfl rfl ag53 sz53 (fun j u hj => by rw [Nat.zero_add]; exact af.cell hj) ?_
 unfold lastN
 rw [← hlast]
 exact ⟨_, _, _, rfl, (h.mono f), (i.mono f), ai⟩

theorem vInts_spec {w : World} {G : Pin} {u v : Value} {xs ys : List Int} (hP : Pins G w) (hu : RSl eInt G u xs) (hv : RSl eInt G v ys) :
  Calls Try.prog 9 [u, v].toArray w fun e w' => e = .returned (.bool (decide (xs = ys))) ∧ Ext noS G w G w' := by
 refine yA (n := 26) Try.func9 Try.ntmps9 rfl rfl ?_
 have f : Ext noS G w G w := Ext.refl hP
 have hm := hu.max
 refine zB (zC ?_)
 refine qM (.bool false) ?_
 refine qe (zA (zB (zB (zC ?_))))
 refine qM u ?_
 refine qD rfl (zK Try.underlying29 (v := u) rfl hu) ?_
 refine qM v ?_
 refine qD rfl (zK Try.underlying29 (v := v) rfl hv) ?_
 refine qD rfl (r_neq rfl rfl) ?_
 refine qe (zA ?_)
 refine zZ (p := ((xs.length : Int) : Int) ≠ (ys.length : Int)) rfl rfl (fun g => ?_) (fun g => ?_)
 ·skip
  refine zB (zC ?_)
  refine qM (.bool false) ?_
  refine qe (zA ?_)
  refine wp_ret ?_
  refine zS ?_
  refine zR (v := (.bool false)) rfl rfl rfl ?_
  exact ⟨congrArg (fun z => Ending.returned (Value.bool z)) (decide_eq_false (fun e => g (by rw [e]))).symm, f⟩
 refine wp_skip ?_
 refine zA (zB (zB (zC ?_)))
 refine qM (vJ 0) ?_
 refine qe (zA ?_)
 refine zU ?_
 refine yH (fun (k : Nat) (en : Nat → Value) (W : World) => ∃ (h : Nat → Value) (j : Nat), en = (upd (upd (upd h 0 u) 1 v) 5 (vJ (j : Int))) ∧ k = xs.length - j ∧ Ext noS G w G W ∧ (j ≤ xs.length) ∧ (xs.length = ys.length) ∧ (∀ i, i < j → xs.getD i 0 = ys.getD i 0)) _ ⟨_, 0, (pS 5 (pS 1 (pU 0))), rfl, f, Nat.zero_le _, (by omega), (fun i hi => absurd hi (Nat.not_lt_zero i))⟩ ?_
 rintro q _ b ⟨h, j, rfl, s, c, hj, heq, hp⟩
 refine zB (zB (zC ?_))
 refine qM (vJ (j : Int)) ?_
 refine qM u ?_
 refine qD rfl (zK Try.underlying29 (v := u) rfl hu) ?_
 refine qD rfl (yK rfl rfl) ?_
 refine qe (zA ?_)
 refine zZ (p := ((j : Int) : Int) < (xs.length : Int)) rfl rfl (fun m => ?_) (fun m => ?_)
 ·skip
  refine wp_skip ?_
  refine zA (zB ?_)
  refine zU ?_
  refine zB ?_
  refine xC (S := fun wz => Pins G wz) (last := 9) (by kernel_rfl) rfl ?_
  have l : Below b.heap.size b b.drew := (Below.refl _ _).drew
  have o := c.pins.below l
  have a := c.step o l
  refine dM 0 u a.pins ?_
  refine dM 1 (vJ (j : Int)) a.pins ?_
  refine dT (i := 2) rfl rfl (by kernel_rfl) (fun _ _ => zG Try.underlying29 sz3 (v := u) rfl rfl hu (by omega) (by omega)) a.pins ?_
  refine dT (i := 3) rfl rfl (by kernel_rfl) (fun _ hS => zJ (r := xs.getD j 0) rfl ag3 (z := (j : Int)) rfl hu hS (by omega) (by omega)) a.pins ?_
  refine dM 4 v a.pins ?_
  refine dM 5 (vJ (j : Int)) a.pins ?_
  refine dT (i := 6) rfl rfl (by kernel_rfl) (fun _ _ => zG Try.underlying29 sz3 (v := v) rfl rfl hv (by omega) (by omega)) a.pins ?_
  refine dT (i := 7) rfl rfl (by kernel_rfl) (fun _ hS => zJ (r := ys.getD j 0) rfl ag3 (z := (j : Int)) rfl hv hS (by omega) (by omega)) a.pins ?_
  refine dT (i := 8) rfl rfl (by kernel_rfl) (fun _ _ => r_neq rfl rfl) a.pins ?_
  refine yJ (by kernel_rfl) ?_
  refine zA ?_
  refine zZ (p := (xs.getD j 0 : Int) ≠ (ys.getD j 0)) rfl rfl (fun d => ?_) (fun d => ?_)
  ·skip
   refine zB (zC ?_)
   refine qM (.bool false) ?_
   refine qe (zA ?_)
   refine wp_ret ?_
   refine zS ?_
   refine zR (v := (.bool false)) rfl rfl rfl ?_
   exact ⟨congrArg (fun z => Ending.returned (Value.bool z)) (decide_eq_false (fun e => d (by rw [e]))).symm, a⟩
  refine wp_skip ?_
  refine zW ?_
  refine zA (zC ?_)
  refine qM (vJ (j : Int)) ?_
  refine qD rfl (yE rfl rfl (by omega)) ?_
  refine qM (vJ ((j : Int) + 1)) ?_
  refine qe ?_
  refine zY ?_
  refine ⟨_, ?_, _, rfl, _, j + 1, (pS 5 (pS 1 (pU 0))), rfl, a, (by omega), heq, (eqstep hp d)⟩
  omega
 refine wp_exit ?_
 refine zV ?_
 refine yD ?_
 refine yB ?_
 refine zA (zB (zC ?_))
 refine qM (.bool true) ?_
 refine qe (zA ?_)
 refine wp_ret ?_
 refine zS ?_
 refine zR (v := (.bool true)) rfl rfl rfl ?_
 exact ⟨congrArg (fun z => Ending.returned (Value.bool z)) (decide_eq_true (eqdone heq (by omega) hp)).symm, c⟩

theorem iWinningMoves_spec {w : World} {G : Pin} {v : Value} {ns : List Nd} {lf : Bool} (hP : Pins G w) (hv : RSl eNode G v ns) :
  Calls Try.prog 7 [(.agg [v].toArray), (.bool lf)].toArray w fun e w' => ∃ (u : Value) (G' : Pin), e = .returned (.tuple #[u, .bool (goodB ns)]) ∧ RSl eInt G' u (wmF ns lf) ∧ Ext noS G w G' w' := by
 refine yA (n := 51) Try.func7 Try.ntmps7 rfl rfl ?_
 have ac : Ext noS G w G w := Ext.refl hP
 refine zB (zC ?_)
 refine qI rfl (xZ [v] (v := (.agg [v].toArray)) rfl rfl ac.pins (fun b1 w2 cr bc bd be => ?_))
 have bf := ac.step bd be
 have bg : w.heap.size ≤ b1 := by have := ac.size; omega
 obtain ⟨G9, x, ad, y, cu⟩ := bc.shut bf bg
 refine qM (.slice none 0 0) ?_
 refine qM (.bool false) ?_
 refine qe (zA (zB (zB (zC ?_))))
 refine qD rfl (yC (cs := [v]) ag26 sz26 rfl (fun j u hj => ad.pins _ _ _ (y _ _ (by simpa using hj)))) ?_
 refine qI rfl (zM (vs := [(.agg [v].toArray)]) Try.func20 nm20 rfl rfl rfl ?_)
 refine Calls.mono (goodForm_spec ad.pins (hv.mono x)) ?_
 rintro _ cv ⟨bh, rfl, c⟩
 refine ⟨_, rfl, ?_⟩
 have g := ad.tr c
 refine qD rfl (xN rfl) ?_
 refine qe (zA ?_)
 refine c_ifn rfl rfl (fun ae => ?_) (fun ae => ?_)
 ·skip
  refine wp_skip ?_
  refine zA (zB (zC ?_))
  have hgb : goodB ns = true := ae
  have hg := goodB_true.1 hgb
  have hlo := hg.lo
  have hhi := hg.hi
  have hL := optL_at hg lf
  have hLl := optL_len (left := lf) hg
  refine qD rfl (zL (k := 0) rfl Try.underlying26 rfl nz24 rfl) ?_
  refine qD rfl (zN (u := v) ag24 rfl ((Pins.of_le g.pins c.le) _ _ _ (y 0 _ rfl))) ?_
  refine qI rfl (zM (vs := [v]) Try.func21 nm21 rfl rfl rfl ?_)
  refine Calls.mono (wins_spec g.pins (hv.mono (Pin.le_trans x c.le)) hg) ?_
  rintro _ cw ⟨a, b, aw, ax, cx, rfl, ay, az, a0, a1, o⟩
  refine ⟨_, rfl, ?_⟩
  have af := g.tr o
  have cy := a0.len
  have cz := a1.len
  refine qM (.tuple #[a, b]) ?_
  refine qD rfl (yO (v := a) rfl rfl) ?_
  refine qD rfl (yO (v := b) rfl rfl) ?_
  refine qM a ?_
  refine qM b ?_
  refine qe (zA (zB (zC ?_)))
  refine qD rfl (yC (cs := [v]) ag26 sz26 rfl (fun j u hj => (Pins.of_le af.pins (Pin.le_trans c.le o.le)) _ _ _ (y _ _ (by simpa using hj)))) ?_
  refine qI rfl (zM (vs := [(.agg [v].toArray)]) Try.func22 nm22 rfl rfl rfl ?_)
  refine Calls.mono (top_spec af.pins (hv.mono (Pin.le_trans (Pin.le_trans x c.le) o.le)) (by omega)) ?_
  rintro _ c0 ⟨c1, h, ag, rfl, c2, ah, q⟩
  refine ⟨_, rfl, ?_⟩
  have i := af.tr q
  refine qD rfl (r_field1 (v := h) Try.underlying53 rfl ag29 rfl rfl) ?_
  refine qM a ?_
  refine qM h ?_
  refine qM a ?_
  refine qe (zA (zB (zB (zC ?_))))
  refine qM (.bool lf) ?_
  refine qe (zA ?_)
  refine c_if rfl rfl (fun s => ?_) (fun s => ?_)
  ·skip
   refine zC ?_
   refine qD rfl (yC (cs := [v]) ag26 sz26 rfl (fun j u hj => (Pins.of_le i.pins (Pin.le_trans (Pin.le_trans c.le o.le) q.le)) _ _ _ (y _ _ (by simpa using hj)))) ?_
   refine qI rfl (zM (vs := [(.agg [v].toArray)]) Try.func22 nm22 rfl rfl rfl ?_)
   refine Calls.mono (top_spec i.pins (hv.mono (Pin.le_trans (Pin.le_trans (Pin.le_trans x c.le) o.le) q.le)) (by omega)) ?_
   rintro _ c3 ⟨m, c4, ai, rfl, aj, c5, a2⟩
   refine ⟨_, rfl, ?_⟩
   have ak := i.tr a2
   refine qD rfl (r_field1 (v := m) Try.underlying53 rfl ag29 rfl rfl) ?_
   refine qM b ?_
   refine qM m ?_
   refine qM b ?_
   refine qe (zA (zB (zC ?_)))
   refine qI rfl (yM (E := eInt) (e := 3) Try.underlying29 sz3 ak.pins (fun al bi bj bk bl c6 => ?_))
   have bm := ak.step bk bl
   have bn : Own eInt 3 ai bi w.heap.size al ([]) := bj.weaken ak.size
   refine qM al ?_
   refine qe (zA (zB (zB (zC ?_))))
   refine qM m ?_
   refine qD rfl (zK Try.underlying29 (v := m) rfl aj) ?_
   refine qM (vJ 0) ?_
   refine qe (zA ?_)
   refine zU ?_
   have hLe : optL lf ns = (lastN ns).l := by rw [s]; rfl
   rw [hLe] at hL hLl
   have hot : ∀ z : Int, 0 ≤ z ∧ z < ns.length → ax.getD z.toNat false = otB ns lf z := fun z hz => by rw [a1.old z.toNat (by omega), s]; rfl
   refine yH (fun (k : Nat) (en : Nat → Value) (W : World) => ∃ (t : Nat → Value) (j : Nat) (ov : Value) (os : List Int) (GL : Pin), en = (upd (upd (upd (upd (upd (upd (upd t 4 (.slice none 0 0)) 5 (.bool false)) 9 b) 10 ov) 33 m) 34 (vJ (((lastN ns).l).length : Int))) 35 (vJ (j : Int))) ∧ k = (lastN ns).l.length - j ∧ Ext noS G w GL W ∧ Pin.le ai GL ∧ (j ≤ (lastN ns).l.length) ∧ (os = wmI (otB ns lf) (lastN ns).l j) ∧ (os.length ≤ j) ∧ (Own eInt 3 GL W w.heap.size ov (os))) _ ⟨_, 0, al, [], ai, (pS 35 (pS 34 (pS 33 (pS 10 (pS 9 (pS 5 (pU 4))))))), rfl, bm, Pin.le_refl _, Nat.zero_le _, rfl, Nat.le_refl 0, bn⟩ ?_
   rintro c7 _ c8 ⟨t, j, ov, os, GL, rfl, c9, d, aa, hj, hos, hol, am⟩
   refine zB (zC ?_)
   refine qD rfl (yK rfl rfl) ?_
   refine qe (zA (zB ?_))
   refine zZ (p := ((j : Int) : Int) < (((lastN ns).l).length : Int)) rfl rfl (fun bo => ?_) (fun bo => ?_)
   ·skip
    have hki := hL j (by omega)
    refine wp_skip ?_
    refine zA (zB ?_)
    refine zU ?_
    refine zB (zC ?_)
    refine qM (vJ (j : Int)) ?_
    refine qD rfl (zG Try.underlying29 sz3 (v := m) rfl rfl aj (by omega) (by omega)) ?_
    refine qD rfl (zJ (r := ((lastN ns).l).getD j 0) rfl ag3 (z := (j : Int)) rfl aj (Pins.of_le d.pins aa) (by omega) (by omega)) ?_
    refine qM (vJ (j : Int)) ?_
    refine qM (vJ (((lastN ns).l).getD j 0)) ?_
    refine qe (zA (zB (zC ?_)))
    refine qM b ?_
    refine qM (vJ (((lastN ns).l).getD j 0)) ?_
    refine qD rfl (zG Try.underlying49 sz4 (v := b) rfl rfl az (by omega) (by omega)) ?_
    refine qD rfl (yL (r := ax.getD (((lastN ns).l).getD j 0).toNat false) rfl ag4 (z := (((lastN ns).l).getD j 0)) rfl az (Pins.of_le d.pins (Pin.le_trans (Pin.le_trans q.le a2.le) aa)) (by omega) (by omega)) ?_
    refine qD rfl (xN rfl) ?_
    refine qe (zA ?_)
    refine c_ifn rfl rfl (fun an => ?_) (fun an => ?_)
    ·skip
     refine wp_skip ?_
     refine zW ?_
     refine zA (zC ?_)
     refine qD rfl (yE rfl rfl (by omega)) ?_
     refine qM (vJ ((j : Int) + 1)) ?_
     refine qe ?_
     refine zY ?_
     refine ⟨_, ?_, _, rfl, _, j + 1, ov, os, GL, (pS 35 (pS 34 (pS 33 (pS 10 (pS 9 (pS 5 (pU 4))))))), rfl, d, aa, (by omega), (by rw [wmI_no (by rw [← hot _ hki]; exact an), hos]), (by first | omega | (simp; omega)), am⟩
     omega
    refine zC ?_
    refine qM ov ?_
    refine qM (vJ (j : Int)) ?_
    refine qI rfl (yV (E := eInt) (e := 3) [(vJ (j : Int))] [(j : Int)] Try.underlying29 sz3 zr3 (by exact xT (by rfl)) (yR (by rfl)) rfl rfl rfl rfl (by decide) d.pins (fun a3 bp bq br a4 da => ?_))
    have ao := d.step br a4
    have a5 := am.below a4
    have bs : Own eInt 3 GL bp w.heap.size a3 ([(j : Int)]) := bq.weaken d.size
    refine qI rfl (o_append (E := eInt) (v := ov) (u := a3) 8 Try.underlying29 ap3 (by decide) rfl rfl ao.pins a5 bs.src (by first | omega | (rw [List.nil_append]; omega) | (rw [List.length_nil]; omega) | (rw [List.length_append]; omega) | (simp; done) | (simp; omega) | (simp only [List.length_cons, List.length_nil]; omega) | (simp only [List.length_append, List.length_cons, List.length_nil]; omega)) (by first | omega | (rw [List.nil_append]; omega) | (rw [List.length_nil]; omega) | (rw [List.length_append]; omega) | (simp; done) | (simp; omega) | (simp only [List.length_cons, List.length_nil]; omega) | (simp only [List.length_append, List.length_cons, List.length_nil]; omega)) (ao.size) (fun a6 db bt bu bv dc => ?_))
    have bw := ao.write bu bv ((zX a5))
    have dd : (os ++ ([(j : Int)])).length = os.length + 1 := List.length_append
    refine qM a6 ?_
    refine qe ?_
    refine zW ?_
    refine zA (zC ?_)
    refine qD rfl (yE rfl rfl (by omega)) ?_
    refine qM (vJ ((j : Int) + 1)) ?_
    refine qe ?_
    refine zY ?_
    refine ⟨_, ?_, _, rfl, _, j + 1, a6, os ++ ([(j : Int)]), GL, (pS 35 (pS 34 (pS 33 (pS 10 (pS 9 (pS 5 (pU 4))))))), rfl, bw, aa, (by omega), (by rw [wmI_yes (by rw [← hot _ hki]; exact an), hos]), (by first | omega | (simp; omega)), bt⟩
    omega
   refine wp_exit ?_
   refine zV ?_
   refine yD ?_
   refine yB ?_
   refine zA (zB (zC ?_))
   refine qM ov ?_
   refine qM ov ?_
   refine qM (.bool true) ?_
   refine qe (zA ?_)
   refine wp_ret ?_
   refine zS ?_
   refine c_ret2 (v := ov) (u := (.bool true)) rfl rfl rfl rfl rfl ?_
   obtain ⟨de, df, bx, bz, dg⟩ := am.sealed d
   have hjl : j = (lastN ns).l.length := by omega
   rw [wmF_yes hgb, hgb, hLe, ← hjl, ← hos]
   exact ⟨_, _, rfl, bz, bx⟩
  refine wp_skip ?_
  refine zA (zB (zC ?_))
  refine qI rfl (yM (E := eInt) (e := 3) Try.underlying29 sz3 i.pins (fun ap b0 b2 b3 b4 dh => ?_))
  have b5 := i.step b3 b4
  have b6 : Own eInt 3 ag b0 w.heap.size ap ([]) := b2.weaken i.size
  refine qM ap ?_
  refine qe (zA (zB (zB (zC ?_))))
  refine qM h ?_
  refine qD rfl (zK Try.underlying29 (v := h) rfl ah) ?_
  refine qM (vJ 0) ?_
  refine qe (zA ?_)
  refine zU ?_
  have hLe : optL lf ns = (lastN ns).r := by rw [s]; rfl
  rw [hLe] at hL hLl
  have hot : ∀ z : Int, 0 ≤ z ∧ z < ns.length → aw.getD z.toNat false = otB ns lf z := fun z hz => by rw [a0.old z.toNat (by omega), s]; rfl
  refine yH (fun (k : Nat) (en : Nat → Value) (W : World) => ∃ (t : Nat → Value) (j : Nat) (ov : Value) (os : List Int) (GL : Pin), en = (upd (upd (upd (upd (upd (upd (upd t 4 (.slice none 0 0)) 5 (.bool false)) 9 a) 10 ov) 33 h) 34 (vJ (((lastN ns).r).length : Int))) 35 (vJ (j : Int))) ∧ k = (lastN ns).r.length - j ∧ Ext noS G w GL W ∧ Pin.le ag GL ∧ (j ≤ (lastN ns).r.length) ∧ (os = wmI (otB ns lf) (lastN ns).r j) ∧ (os.length ≤ j) ∧ (Own eInt 3 GL W w.heap.size ov (os))) _ ⟨_, 0, ap, [], ag, (pS 35 (pS 34 (pS 33 (pS 10 (pS 9 (pS 5 (pU 4))))))), rfl, b5, Pin.le_refl _, Nat.zero_le _, rfl, Nat.le_refl 0, b6⟩ ?_
  rintro di _ dj ⟨t, j, ov, os, GL, rfl, dk, f, ab, hj, hos, hol, aq⟩
  refine zB (zC ?_)
  refine qD rfl (yK rfl rfl) ?_
  refine qe (zA (zB ?_))
  refine zZ (p := ((j : Int) : Int) < (((lastN ns).r).length : Int)) rfl rfl (fun b7 => ?_) (fun b7 => ?_)
  ·skip
   have hki := hL j (by omega)
   refine wp_skip ?_
   refine zA (zB ?_)
   refine zU ?_
   refine zB (zC ?_)
   refine qM (vJ (j : Int)) ?_
   refine qD rfl (zG Try.underlying29 sz3 (v := h) rfl rfl ah (by omega) (by omega)) ?_
   refine qD rfl (zJ (r := ((lastN ns).r).getD j 0) rfl ag3 (z := (j : Int)) rfl ah (Pins.of_le f.pins ab) (by omega) (by omega)) ?_
   refine qM (vJ (j : Int)) ?_
   refine qM (vJ (((lastN ns).r).getD j 0)) ?_
   refine qe (zA (zB (zC ?_)))
   refine qM a ?_
   refine qM (vJ (((lastN ns).r).getD j 0)) ?_
   refine qD rfl (zG Try.underlying49 sz4 (v := a) rfl rfl ay (by omega) (by omega)) ?_
   refine qD rfl (yL (r := aw.getD (((lastN ns).r).getD j 0).toNat false) rfl ag4 (z := (((lastN ns).r).getD j 0)) rfl ay (Pins.of_le f.pins (Pin.le_trans q.le ab)) (by omega) (by omega)) ?_
   refine qD rfl (xN rfl) ?_
   refine qe (zA ?_)
   refine c_ifn rfl rfl (fun ar => ?_) (fun ar => ?_)
   ·skip
    refine wp_skip ?_
    refine zW ?_
    refine zA (zC ?_)
    refine qD rfl (yE rfl rfl (by omega)) ?_
    refine qM (vJ ((j : Int) + 1)) ?_
    refine qe ?_
    refine zY ?_
    refine ⟨_, ?_, _, rfl, _, j + 1, ov, os, GL, (pS 35 (pS 34 (pS 33 (pS 10 (pS 9 (pS 5 (pU 4))))))), rfl, f, ab, (by omega), (by rw [wmI_no (by rw [← hot _ hki]; exact ar), hos]), (by first | omega | (simp; omega)), aq⟩
    omega
   refine zC ?_
   refine qM ov ?_
   refine qM (vJ (j : Int)) ?_
   refine qI rfl (yV (E := eInt) (e := 3) [(vJ (j : Int))] [(j : Int)] Try.underlying29 sz3 zr3 (by exact xT (by rfl)) (yR (by rfl)) rfl rfl rfl rfl (by decide) f.pins (fun a7 b8 b9 ca a8 dl => ?_))
   have au := f.step ca a8
   have a9 := aq.below a8
   have cb : Own eInt 3 GL b8 w.heap.size a7 ([(j : Int)]) := b9.weaken f.size
   refine qI rfl (o_append (E := eInt) (v := ov) (u := a7) 8 Try.underlying29 ap3 (by decide) rfl rfl au.pins a9 cb.src (by first | omega | (rw [List.nil_append]; omega) | (rw [List.length_nil]; omega) | (rw [List.length_append]; omega) | (simp; done) | (simp; omega) | (simp only [List.length_cons, List.length_nil]; omega) | (simp only [List.length_append, List.length_cons, List.length_nil]; omega)) (by first | omega | (rw [List.nil_append]; omega) | (rw [List.length_nil]; omega) | (rw [List.length_append]; omega) | (simp; done) | (simp; omega) | (simp only [List.length_cons, List.length_nil]; omega) | (simp only [List.length_append, List.length_cons, List.length_nil]; omega)) (au.size) (fun ba dm cc cd ce dn => ?_))
   have cf := au.write cd ce ((zX a9))
   have dp : (os ++ ([(j : Int)])).length = os.length + 1 := List.length_append
   refine qM ba ?_
   refine qe ?_
   refine zW ?_
   refine zA (zC ?_)
   refine qD rfl (yE rfl rfl (by omega)) ?_
   refine qM (vJ ((j : Int) + 1)) ?_
   refine qe ?_
   refine zY ?_
   refine ⟨_, ?_, _, rfl, _, j + 1, ba, os ++ ([(j : Int)]), GL, (pS 35 (pS 34 (pS 33 (pS 10 (pS 9 (pS 5 (pU 4))))))), rfl, cf, ab, (by omega), (by rw [wmI_yes (by rw [← hot _ hki]; exact ar), hos]), (by first | omega | (simp; omega)), cc⟩
   omega
  refine wp_exit ?_
  refine zV ?_
  refine yD ?_
  refine yB ?_
  refine zA (zB (zC ?_))
  refine qM ov ?_
  refine qM ov ?_
  refine qM (.bool true) ?_
  refine qe (zA ?_)
  refine wp_ret ?_
  refine zS ?_
  refine c_ret2 (v := ov) (u := (.bool true)) rfl rfl rfl rfl rfl ?_
  obtain ⟨dq, dr, cg, ch, ds⟩ := aq.sealed f
  have hjl : j = (lastN ns).r.length := by omega
  rw [wmF_yes hgb, hgb, hLe, ← hjl, ← hos]
  exact ⟨_, _, rfl, ch, cg⟩
 refine zB (zC ?_)
 refine qI rfl (yM (E := eInt) (e := 3) Try.underlying29 sz3 g.pins (fun av ci cj ck cl dt => ?_))
 have cm := g.step ck cl
 have cn : Own eInt 3 bh ci w.heap.size av ([]) := cj.weaken g.size
 refine qM av ?_
 refine qM (.bool false) ?_
 refine qe (zA ?_)
 refine wp_ret ?_
 refine zS ?_
 refine c_ret2 (v := av) (u := (.bool false)) rfl rfl rfl rfl rfl ?_
 obtain ⟨du, dv, co, cp, dw⟩ := cn.sealed cm
 have hgb : goodB ns = false := ae
 rw [wmF_no hgb, hgb]
 exact ⟨_, _, rfl, cp, co⟩

end WM1
end Go.Proofs.Ytkfgdhanaijddaa

set_option maxRecDepth 20000
set_option maxHeartbeats 2000000
namespace Go.Proofs.Ytkfgdhanaijddaa
namespace WM2
open Go.RowKit Go.GL Go.Proofs
open Go.Proofs.Ytkfgdhanaijddaa.B1
open Go.Proofs.Ytkfgdhanaijddaa.C1
open Go.Proofs.Ytkfgdhanaijddaa.D1
open Go.Proofs.Ytkfgdhanaijddaa.E1
open Go.Proofs.Ytkfgdhanaijddaa.WN1
open Go.Proofs.Ytkfgdhanaijddaa.WN2
open Go.Proofs.Ytkfgdhanaijddaa.N1


















theorem sWinningMoves_spec {w : World} {G : Pin} {v : Value} {ns : List Nd} {lf : Bool} (hP : Pins G w) (hv : RSl eNode G v ns) :
  Calls Try.prog 8 [(.agg [v].toArray), (.bool lf)].toArray w fun e w' => ∃ (u : Value) (G' : Pin), e = .returned (.tuple #[u, .bool (goodB ns)]) ∧ RSl eInt G' u (wmF ns lf) ∧ Ext noS G w G' w' := by
 refine yA (n := 73) Try.func8 Try.ntmps8 rfl rfl ?_
 have ai : Ext noS G w G w := Ext.refl hP
 refine zB (zC ?_)
 refine qI rfl (xZ [v] (v := (.agg [v].toArray)) rfl rfl ai.pins (fun b1 w2 cq be bf bg => ?_))
 have bh := ai.step bf bg
 have bi : w.heap.size ≤ b1 := by have := ai.size; omega
 obtain ⟨G9, t, aj, ad, cr⟩ := be.shut bh bi
 refine qM (.slice none 0 0) ?_
 refine qM (.bool false) ?_
 refine qe (zA (zB (zC ?_)))
 refine qI rfl (yM (E := eInt) (e := 3) Try.underlying29 sz3 aj.pins (fun d bk bl bm bn ct => ?_))
 have ak := aj.step bm bn
 have bo : Own eInt 3 G9 bk w.heap.size d ([]) := bl.weaken aj.size
 refine qM d ?_
 refine qe (zA (zB (zB (zC ?_))))
 refine qD rfl (yC (cs := [v]) ag26 sz26 rfl (fun j u hj => ak.pins _ _ _ (ad _ _ (by simpa using hj)))) ?_
 refine qI rfl (zM (vs := [(.agg [v].toArray)]) Try.func23 nm23 rfl rfl rfl ?_)
 refine Calls.mono (l3Good_spec ak.pins (hv.mono t)) ?_
 rintro _ cu ⟨cv, rfl, a⟩
 refine ⟨_, rfl, ?_⟩
 have ae := ak.tr a
 have au := bo.ext a
 refine qD rfl (xN rfl) ?_
 refine qe (zA ?_)
 refine c_ifn rfl rfl (fun al => ?_) (fun al => ?_)
 ·skip
  refine wp_skip ?_
  refine zA (zB (zC ?_))
  have hgb : goodB ns = true := (good_eq ns).symm.trans al
  have hg := goodB_true.1 hgb
  have hlo := hg.lo
  have hhi := hg.hi
  have hL := optL_at hg lf
  have hLl := optL_len (left := lf) hg
  refine qD rfl (yC (cs := [v]) ag26 sz26 rfl (fun j u hj => (Pins.of_le ae.pins a.le) _ _ _ (ad _ _ (by simpa using hj)))) ?_
  refine qI rfl (zM (vs := [(.agg [v].toArray)]) Try.func24 nm24 rfl rfl rfl ?_)
  refine Calls.mono (l4Wins_spec ae.pins (hv.mono (Pin.le_trans t a.le)) hg) ?_
  rintro _ cw ⟨f, m, cx, rfl, av, aw, g⟩
  refine ⟨_, rfl, ?_⟩
  have o := ae.tr g
  have ax := au.ext g
  have cy := wnL_len ns ns.length
  have cz := wnR_len ns ns.length
  refine qM (.tuple #[f, m]) ?_
  refine qD rfl (yO (v := f) rfl rfl) ?_
  refine qD rfl (yO (v := m) rfl rfl) ?_
  refine qM f ?_
  refine qM m ?_
  refine qe (zA (zB (zC ?_)))
  refine qD rfl (zL (k := 0) rfl Try.underlying26 rfl nz24 rfl) ?_
  refine qD rfl (zN (u := v) ag24 rfl ((Pins.of_le o.pins (Pin.le_trans a.le g.le)) _ _ _ (ad 0 _ rfl))) ?_
  refine qD rfl (zL (k := 0) rfl Try.underlying26 rfl nz24 rfl) ?_
  refine qD rfl (zN (u := v) ag24 rfl ((Pins.of_le o.pins (Pin.le_trans a.le g.le)) _ _ _ (ad 0 _ rfl))) ?_
  refine qD rfl (zK Try.underlying24 (v := v) rfl hv) ?_
  refine qD rfl (r_sub rfl rfl (by omega)) ?_
  refine qD rfl (zG Try.underlying24 sz53 (v := v) rfl rfl hv (by omega) (by omega)) ?_
  obtain ⟨h, i, x, y, bp⟩ := qB (hv.at (z := ((ns.length : Int) - 1)) (by omega) (by omega)) (j := ((ns.length : Int) - 1).toNat) rfl
  have c0 := x.max
  have c1 := y.max
  refine qD rfl (bp ag53 sz53 rfl (Pins.of_le o.pins (Pin.le_trans (Pin.le_trans t a.le) g.le))) ?_
  refine qI rfl (yN [(.slice none 0 0), (.slice none 0 0)] zr53 rfl o.pins (fun af c2 bq br bs ay => ?_))
  have az := o.step bs ay
  have bt := ax.below ay
  have a0 : Apart (some af) d.ownBlock := zE (congrArg some bq) ax.lt
  have a1 : w.heap.size ≤ af := by have := o.size; omega
  refine q0 rfl rfl rfl (yW (cs' := [h, i]) (us := [h, i]) (v := (.agg [h, i].toArray)) sz53 rfl rfl rfl (ones2 x.one y.one) az.pins br (Nat.le_of_ble_eq_true rfl) rfl (fun c3 bu bv a2 c4 => ?_))
  have bw := az.write bv a2 ((yI a1))
  have bx := bt.keptA a2 a0.symm
  obtain ⟨ag, aa, a3, ah, bz⟩ := bu.shut bw a1
  have a4 := bx.moreA aa bz a0.symm
  refine qe (zA (zB (zB (zC ?_))))
  refine qM (.bool lf) ?_
  refine qe (zA ?_)
  refine c_if rfl rfl (fun ab => ?_) (fun ab => ?_)
  ·skip
   refine zB (zB (zC ?_))
   refine qM (vJ 0) ?_
   refine qe (zA ?_)
   refine zU ?_
   have hLe : optL lf ns = (lastN ns).l := by rw [ab]; rfl
   rw [hLe] at hL hLl
   have hot : ∀ z : Int, 0 ≤ z ∧ z < ns.length → (wnR ns ns.length).getD z.toNat false = otB ns lf z := fun z hz => by rw [wnR_at (by omega), ab]; rfl
   have elast : lastN ns = ns.getD ((ns.length : Int) - 1).toNat default := by unfold lastN; rw [show ((ns.length : Int) - 1).toNat = ns.length - 1 by omega]
   rw [elast] at hL hLl hLe
   refine yH (fun (k : Nat) (en : Nat → Value) (W : World) => ∃ (ac : Nat → Value) (j : Nat) (ov : Value) (os : List Int) (GL : Pin), en = (upd (upd (upd (upd (upd (upd (upd ac 4 (.slice none 0 0)) 5 (.bool false)) 6 ov) 7 f) 8 m) 9 (.pointer (some ⟨af, 0, none⟩))) 10 (vJ (j : Int))) ∧ k = (ns.getD ((ns.length : Int) - 1).toNat default).l.length - j ∧ Ext noS G w GL W ∧ Pin.le ag GL ∧ (j ≤ (ns.getD ((ns.length : Int) - 1).toNat default).l.length) ∧ (os = wmI (otB ns lf) (ns.getD ((ns.length : Int) - 1).toNat default).l j) ∧ (os.length ≤ j) ∧ (Own eInt 3 GL W w.heap.size ov (os))) _ ⟨_, 0, d, [], ag, (pS 10 (pS 9 (pS 8 (pS 7 (pS 6 (pS 5 (pU 4))))))), rfl, a3, Pin.le_refl _, Nat.zero_le _, rfl, Nat.le_refl 0, a4⟩ ?_
   rintro c5 _ c6 ⟨ac, j, ov, os, GL, rfl, c7, b, q, hj, hos, hol, am⟩
   refine zB (zB (zC ?_))
   refine qM (vJ (j : Int)) ?_
   refine qD rfl (zL (k := 0) rfl Try.underlying53 rfl nz29 rfl) ?_
   refine qD rfl (zN (u := h) ag29 rfl ((Pins.of_le b.pins q) _ _ _ (ah 0 _ rfl))) ?_
   refine qD rfl (zK Try.underlying29 (v := h) rfl x) ?_
   refine qD rfl (yK rfl rfl) ?_
   refine qe (zA ?_)
   refine zZ (p := ((j : Int) : Int) < (((ns.getD ((ns.length : Int) - 1).toNat default).l).length : Int)) rfl rfl (fun b0 => ?_) (fun b0 => ?_)
   ·skip
    have hki := hL j (by omega)
    refine wp_skip ?_
    refine zA (zB ?_)
    refine zU ?_
    refine zB (zC ?_)
    refine qM m ?_
    refine qD rfl (zL (k := 0) rfl Try.underlying53 rfl nz29 rfl) ?_
    refine qD rfl (zN (u := h) ag29 rfl ((Pins.of_le b.pins q) _ _ _ (ah 0 _ rfl))) ?_
    refine qM (vJ (j : Int)) ?_
    refine qD rfl (zG Try.underlying29 sz3 (v := h) rfl rfl x (by omega) (by omega)) ?_
    refine qD rfl (zJ (r := ((ns.getD ((ns.length : Int) - 1).toNat default).l).getD j 0) rfl ag3 (z := (j : Int)) rfl x (Pins.of_le b.pins (Pin.le_trans (Pin.le_trans (Pin.le_trans (Pin.le_trans t a.le) g.le) aa) q)) (by omega) (by omega)) ?_
    refine qD rfl (zG Try.underlying49 sz4 (v := m) rfl rfl aw (by omega) (by omega)) ?_
    refine qD rfl (yL (r := (wnR ns ns.length).getD (((ns.getD ((ns.length : Int) - 1).toNat default).l).getD j 0).toNat false) rfl ag4 (z := (((ns.getD ((ns.length : Int) - 1).toNat default).l).getD j 0)) rfl aw (Pins.of_le b.pins (Pin.le_trans aa q)) (by omega) (by omega)) ?_
    refine qD rfl (xN rfl) ?_
    refine qe (zA ?_)
    refine c_ifn rfl rfl (fun an => ?_) (fun an => ?_)
    ·skip
     refine wp_skip ?_
     refine zW ?_
     refine zA (zC ?_)
     refine qM (vJ (j : Int)) ?_
     refine qD rfl (yE rfl rfl (by omega)) ?_
     refine qM (vJ ((j : Int) + 1)) ?_
     refine qe ?_
     refine zY ?_
     refine ⟨_, ?_, _, rfl, _, j + 1, ov, os, GL, (pS 10 (pS 9 (pS 8 (pS 7 (pS 6 (pS 5 (pU 4))))))), rfl, b, q, (by omega), (by rw [wmI_no (by rw [← hot _ hki]; exact an), hos]), (by first | omega | (simp; omega)), am⟩
     omega
    refine zC ?_
    refine qM ov ?_
    refine qM (vJ (j : Int)) ?_
    refine qI rfl (yV (E := eInt) (e := 3) [(vJ (j : Int))] [(j : Int)] Try.underlying29 sz3 zr3 (by exact xT (by rfl)) (yR (by rfl)) rfl rfl rfl rfl (by decide) b.pins (fun a5 b2 b3 b4 a6 c8 => ?_))
    have ao := b.step b4 a6
    have a7 := am.below a6
    have b5 : Own eInt 3 GL b2 w.heap.size a5 ([(j : Int)]) := b3.weaken b.size
    refine qI rfl (o_append (E := eInt) (v := ov) (u := a5) 8 Try.underlying29 ap3 (by decide) rfl rfl ao.pins a7 b5.src (by first | omega | (rw [List.nil_append]; omega) | (rw [List.length_nil]; omega) | (rw [List.length_append]; omega) | (simp; done) | (simp; omega) | (simp only [List.length_cons, List.length_nil]; omega) | (simp only [List.length_append, List.length_cons, List.length_nil]; omega)) (by first | omega | (rw [List.nil_append]; omega) | (rw [List.length_nil]; omega) | (rw [List.length_append]; omega) | (simp; done) | (simp; omega) | (simp only [List.length_cons, List.length_nil]; omega) | (simp only [List.length_append, List.length_cons, List.length_nil]; omega)) (ao.size) (fun a8 c9 b6 b7 b8 da => ?_))
    have b9 := ao.write b7 b8 ((zX a7))
    have db : (os ++ ([(j : Int)])).length = os.length + 1 := List.length_append
    refine qM a8 ?_
    refine qe ?_
    refine zW ?_
    refine zA (zC ?_)
    refine qM (vJ (j : Int)) ?_
    refine qD rfl (yE rfl rfl (by omega)) ?_
    refine qM (vJ ((j : Int) + 1)) ?_
    refine qe ?_
    refine zY ?_
    refine ⟨_, ?_, _, rfl, _, j + 1, a8, os ++ ([(j : Int)]), GL, (pS 10 (pS 9 (pS 8 (pS 7 (pS 6 (pS 5 (pU 4))))))), rfl, b9, q, (by omega), (by rw [wmI_yes (by rw [← hot _ hki]; exact an), hos]), (by first | omega | (simp; omega)), b6⟩
    omega
   refine wp_exit ?_
   refine zV ?_
   refine yD ?_
   refine yB ?_
   refine zA (zB (zC ?_))
   refine qM ov ?_
   refine qM ov ?_
   refine qM (.bool true) ?_
   refine qe (zA ?_)
   refine wp_ret ?_
   refine zS ?_
   refine c_ret2 (v := ov) (u := (.bool true)) rfl rfl rfl rfl rfl ?_
   obtain ⟨dc, dd, ca, cb, de⟩ := am.sealed b
   have hjl : j = (ns.getD ((ns.length : Int) - 1).toNat default).l.length := by omega
   rw [wmF_yes hgb, hgb, hLe, ← hjl, ← hos]
   exact ⟨_, _, rfl, cb, ca⟩
  refine wp_skip ?_
  refine zA (zB (zB (zC ?_)))
  refine qM (vJ 0) ?_
  refine qe (zA ?_)
  refine zU ?_
  have hLe : optL lf ns = (lastN ns).r := by rw [ab]; rfl
  rw [hLe] at hL hLl
  have hot : ∀ z : Int, 0 ≤ z ∧ z < ns.length → (wnL ns ns.length).getD z.toNat false = otB ns lf z := fun z hz => by rw [wnL_at (by omega), ab]; rfl
  have elast : lastN ns = ns.getD ((ns.length : Int) - 1).toNat default := by unfold lastN; rw [show ((ns.length : Int) - 1).toNat = ns.length - 1 by omega]
  rw [elast] at hL hLl hLe
  refine yH (fun (k : Nat) (en : Nat → Value) (W : World) => ∃ (ac : Nat → Value) (j : Nat) (ov : Value) (os : List Int) (GL : Pin), en = (upd (upd (upd (upd (upd (upd ac 4 (.slice none 0 0)) 5 (.bool false)) 6 ov) 7 f) 9 (.pointer (some ⟨af, 0, none⟩))) 11 (vJ (j : Int))) ∧ k = (ns.getD ((ns.length : Int) - 1).toNat default).r.length - j ∧ Ext noS G w GL W ∧ Pin.le ag GL ∧ (j ≤ (ns.getD ((ns.length : Int) - 1).toNat default).r.length) ∧ (os = wmI (otB ns lf) (ns.getD ((ns.length : Int) - 1).toNat default).r j) ∧ (os.length ≤ j) ∧ (Own eInt 3 GL W w.heap.size ov (os))) _ ⟨_, 0, d, [], ag, (pS 11 (pS 9 (pS 7 (pS 6 (pS 5 (pU 4)))))), rfl, a3, Pin.le_refl _, Nat.zero_le _, rfl, Nat.le_refl 0, a4⟩ ?_
  rintro df _ dg ⟨ac, j, ov, os, GL, rfl, dh, c, s, hj, hos, hol, ap⟩
  refine zB (zB (zC ?_))
  refine qM (vJ (j : Int)) ?_
  refine qD rfl (zL (k := 1) rfl Try.underlying53 rfl nz29 rfl) ?_
  refine qD rfl (zN (u := i) ag29 rfl ((Pins.of_le c.pins s) _ _ _ (ah 1 _ rfl))) ?_
  refine qD rfl (zK Try.underlying29 (v := i) rfl y) ?_
  refine qD rfl (yK rfl rfl) ?_
  refine qe (zA ?_)
  refine zZ (p := ((j : Int) : Int) < (((ns.getD ((ns.length : Int) - 1).toNat default).r).length : Int)) rfl rfl (fun cc => ?_) (fun cc => ?_)
  ·skip
   have hki := hL j (by omega)
   refine wp_skip ?_
   refine zA (zB ?_)
   refine zU ?_
   refine zB (zC ?_)
   refine qM f ?_
   refine qD rfl (zL (k := 1) rfl Try.underlying53 rfl nz29 rfl) ?_
   refine qD rfl (zN (u := i) ag29 rfl ((Pins.of_le c.pins s) _ _ _ (ah 1 _ rfl))) ?_
   refine qM (vJ (j : Int)) ?_
   refine qD rfl (zG Try.underlying29 sz3 (v := i) rfl rfl y (by omega) (by omega)) ?_
   refine qD rfl (zJ (r := ((ns.getD ((ns.length : Int) - 1).toNat default).r).getD j 0) rfl ag3 (z := (j : Int)) rfl y (Pins.of_le c.pins (Pin.le_trans (Pin.le_trans (Pin.le_trans (Pin.le_trans t a.le) g.le) aa) s)) (by omega) (by omega)) ?_
   refine qD rfl (zG Try.underlying49 sz4 (v := f) rfl rfl av (by omega) (by omega)) ?_
   refine qD rfl (yL (r := (wnL ns ns.length).getD (((ns.getD ((ns.length : Int) - 1).toNat default).r).getD j 0).toNat false) rfl ag4 (z := (((ns.getD ((ns.length : Int) - 1).toNat default).r).getD j 0)) rfl av (Pins.of_le c.pins (Pin.le_trans aa s)) (by omega) (by omega)) ?_
   refine qD rfl (xN rfl) ?_
   refine qe (zA ?_)
   refine c_ifn rfl rfl (fun aq => ?_) (fun aq => ?_)
   ·skip
    refine wp_skip ?_
    refine zW ?_
    refine zA (zC ?_)
    refine qM (vJ (j : Int)) ?_
    refine qD rfl (yE rfl rfl (by omega)) ?_
    refine qM (vJ ((j : Int) + 1)) ?_
    refine qe ?_
    refine zY ?_
    refine ⟨_, ?_, _, rfl, _, j + 1, ov, os, GL, (pS 11 (pS 9 (pS 7 (pS 6 (pS 5 (pU 4)))))), rfl, c, s, (by omega), (by rw [wmI_no (by rw [← hot _ hki]; exact aq), hos]), (by first | omega | (simp; omega)), ap⟩
    omega
   refine zC ?_
   refine qM ov ?_
   refine qM (vJ (j : Int)) ?_
   refine qI rfl (yV (E := eInt) (e := 3) [(vJ (j : Int))] [(j : Int)] Try.underlying29 sz3 zr3 (by exact xT (by rfl)) (yR (by rfl)) rfl rfl rfl rfl (by decide) c.pins (fun a9 cd ce cf ba di => ?_))
   have ar := c.step cf ba
   have bb := ap.below ba
   have cg : Own eInt 3 GL cd w.heap.size a9 ([(j : Int)]) := ce.weaken c.size
   refine qI rfl (o_append (E := eInt) (v := ov) (u := a9) 8 Try.underlying29 ap3 (by decide) rfl rfl ar.pins bb cg.src (by first | omega | (rw [List.nil_append]; omega) | (rw [List.length_nil]; omega) | (rw [List.length_append]; omega) | (simp; done) | (simp; omega) | (simp only [List.length_cons, List.length_nil]; omega) | (simp only [List.length_append, List.length_cons, List.length_nil]; omega)) (by first | omega | (rw [List.nil_append]; omega) | (rw [List.length_nil]; omega) | (rw [List.length_append]; omega) | (simp; done) | (simp; omega) | (simp only [List.length_cons, List.length_nil]; omega) | (simp only [List.length_append, List.length_cons, List.length_nil]; omega)) (ar.size) (fun bc dj ch ci cj dk => ?_))
   have ck := ar.write ci cj ((zX bb))
   have dl : (os ++ ([(j : Int)])).length = os.length + 1 := List.length_append
   refine qM bc ?_
   refine qe ?_
   refine zW ?_
   refine zA (zC ?_)
   refine qM (vJ (j : Int)) ?_
   refine qD rfl (yE rfl rfl (by omega)) ?_
   refine qM (vJ ((j : Int) + 1)) ?_
   refine qe ?_
   refine zY ?_
   refine ⟨_, ?_, _, rfl, _, j + 1, bc, os ++ ([(j : Int)]), GL, (pS 11 (pS 9 (pS 7 (pS 6 (pS 5 (pU 4)))))), rfl, ck, s, (by omega), (by rw [wmI_yes (by rw [← hot _ hki]; exact aq), hos]), (by first | omega | (simp; omega)), ch⟩
   omega
  refine wp_exit ?_
  refine zV ?_
  refine yD ?_
  refine yB ?_
  refine zA (zB (zC ?_))
  refine qM ov ?_
  refine qM ov ?_
  refine qM (.bool true) ?_
  refine qe (zA ?_)
  refine wp_ret ?_
  refine zS ?_
  refine c_ret2 (v := ov) (u := (.bool true)) rfl rfl rfl rfl rfl ?_
  obtain ⟨dm, dn, cl, cm, dp⟩ := ap.sealed c
  have hjl : j = (ns.getD ((ns.length : Int) - 1).toNat default).r.length := by omega
  rw [wmF_yes hgb, hgb, hLe, ← hjl, ← hos]
  exact ⟨_, _, rfl, cm, cl⟩
 refine zB (zC ?_)
 refine qM d ?_
 refine qM d ?_
 refine qM (.bool false) ?_
 refine qe (zA ?_)
 refine wp_ret ?_
 refine zS ?_
 refine c_ret2 (v := d) (u := (.bool false)) rfl rfl rfl rfl rfl ?_
 obtain ⟨dq, dr, cn, co, ds⟩ := au.sealed ae
 have hgb : goodB ns = false := (good_eq ns).symm.trans al
 rw [wmF_no hgb, hgb]
 exact ⟨_, _, rfl, co, cn⟩

theorem sOptionsOf_spec {w : World} {G : Pin} {v : Value} {ns : List Nd} (hP : Pins G w) (hv : RSl eNode G v ns) :
  Calls Try.prog 11 [(.agg [v].toArray)].toArray w fun e w' => ∃ (u x : Value) (ls rs : List (List Nd)) (G' : Pin), e = .returned (.tuple #[u, x, .bool (goodB ns)]) ∧ RSl (eSl eNode) G' u ls ∧ RSl (eSl eNode) G' x rs ∧ (goodB ns = true → ls = optsS ns (lastN ns).l ∧ rs = optsS ns (lastN ns).r) ∧ Ext noS G w G' w' := by
 refine yA (n := 19) Try.func11 Try.ntmps11 rfl rfl ?_
 have g : Ext noS G w G w := Ext.refl hP
 refine zB (zC ?_)
 refine qI rfl (xZ [v] (v := (.agg [v].toArray)) rfl rfl g.pins (fun z w2 a6 aa ab ac => ?_))
 have ad := g.step ab ac
 have ae : w.heap.size ≤ z := by have := g.size; omega
 obtain ⟨G9, p, i, q, a8⟩ := aa.shut ad ae
 refine qM (.slice none 0 0) ?_
 refine qM (.slice none 0 0) ?_
 refine qM (.bool false) ?_
 refine qe (zA (zB (zB (zC ?_))))
 refine qD rfl (yC (cs := [v]) ag26 sz26 rfl (fun j u hj => i.pins _ _ _ (q _ _ (by simpa using hj)))) ?_
 refine qI rfl (zM (vs := [(.agg [v].toArray)]) Try.func23 nm23 rfl rfl rfl ?_)
 refine Calls.mono (l3Good_spec i.pins (hv.mono p)) ?_
 rintro _ a9 ⟨s, rfl, k⟩
 refine ⟨_, rfl, ?_⟩
 have a := i.tr k
 refine qD rfl (xN rfl) ?_
 refine qe (zA ?_)
 refine c_ifn rfl rfl (fun m => ?_) (fun m => ?_)
 ·skip
  refine wp_skip ?_
  refine zA (zB (zC ?_))
  have hgb : goodB ns = true := (good_eq ns).symm.trans m
  have hg := goodB_true.1 hgb
  have hlo := hg.lo
  have hhi := hg.hi
  refine qD rfl (yC (cs := [v]) ag26 sz26 rfl (fun j u hj => (Pins.of_le a.pins k.le) _ _ _ (q _ _ (by simpa using hj)))) ?_
  refine qI rfl (zM (vs := [(.agg [v].toArray)]) Try.func25 nm25 rfl rfl rfl ?_)
  refine Calls.mono (l3Opts_spec a.pins (hv.mono (Pin.le_trans p k.le)) hg) ?_
  rintro _ ba ⟨b, c, bb, rfl, af, ag, ah⟩
  refine ⟨_, rfl, ?_⟩
  have ai := a.tr ah
  refine qM (.tuple #[b, c]) ?_
  refine qD rfl (yO (v := b) rfl rfl) ?_
  refine qD rfl (yO (v := c) rfl rfl) ?_
  refine qM b ?_
  refine qM c ?_
  refine qe (zA (zB (zC ?_)))
  refine qM b ?_
  refine qM c ?_
  refine qM b ?_
  refine qM c ?_
  refine qM (.bool true) ?_
  refine qe (zA ?_)
  refine wp_ret ?_
  refine zS ?_
  refine c_ret3 (v := b) (u := c) (x := (.bool true)) rfl rfl rfl rfl rfl rfl rfl ?_
  rw [hgb]
  exact ⟨_, _, _, _, _, rfl, af, ag, (fun _ => ⟨rfl, rfl⟩), ai⟩
 refine zB (zC ?_)
 refine qI rfl (yM (E := (eSl eNode)) (e := 26) Try.underlying35 sz26 a.pins (fun d aj ak al am bc => ?_))
 have o := a.step al am
 have t : Own (eSl eNode) 26 s aj w.heap.size d ([]) := ak.weaken a.size
 refine qI rfl (yM (E := (eSl eNode)) (e := 26) Try.underlying35 sz26 o.pins (fun f an ao ap y aq => ?_))
 have ar := o.step ap y
 have au := t.below y
 have av : Apart f.ownBlock d.ownBlock := zE aq t.lt
 have aw : Own (eSl eNode) 26 s an w.heap.size f ([]) := ao.weaken o.size
 refine qM d ?_
 refine qM f ?_
 refine qM (.bool false) ?_
 refine qe (zA ?_)
 refine wp_ret ?_
 refine zS ?_
 refine c_ret3 (v := d) (u := f) (x := (.bool false)) rfl rfl rfl rfl rfl rfl rfl ?_
 obtain ⟨bd, ax, ay, az, a0⟩ := au.sealed ar
 have a1 := aw.moreO ax a0 av
 obtain ⟨be, a2, a3, a4, bf⟩ := a1.sealed ay
 have hgb : goodB ns = false := (good_eq ns).symm.trans m
 rw [hgb]
 exact ⟨_, _, _, _, _, rfl, (az.mono a2), a4, (fun h => by cases h), a3⟩

end WM2
end Go.Proofs.Ytkfgdhanaijddaa

set_option maxRecDepth 20000
set_option maxHeartbeats 2000000
namespace Go.Proofs.Ytkfgdhanaijddaa
namespace LWW
open Go.RowKit Go.GL Go.Proofs
open Go.Proofs.Ytkfgdhanaijddaa.B1
open Go.Proofs.Ytkfgdhanaijddaa.C1
open Go.Proofs.Ytkfgdhanaijddaa.D1
open Go.Proofs.Ytkfgdhanaijddaa.E1
open Go.Proofs.Ytkfgdhanaijddaa.MK1
open Go.Proofs.Ytkfgdhanaijddaa.DR1
open Go.Proofs.Ytkfgdhanaijddaa.DR2
open Go.Proofs.Ytkfgdhanaijddaa.DV1
open Go.Proofs.Ytkfgdhanaijddaa.DV2
open Go.Proofs.Ytkfgdhanaijddaa.WN1
open Go.Proofs.Ytkfgdhanaijddaa.WN2
open Go.Proofs.Ytkfgdhanaijddaa.WN3
open Go.Proofs.Ytkfgdhanaijddaa.N1
open Go.Proofs.Ytkfgdhanaijddaa.WM1
open Go.Proofs.Ytkfgdhanaijddaa.WM2












theorem law {w : World} {G : Pin} {v : Value} {code : List UInt8} (hP : Pins G w) (hc : RSl eByte G v code) :
  Calls Try.prog 3 [v].toArray w fun e w' => ∃ G', e = .returned (.bool true) ∧ Ext noS G w G' w' := by
 refine yA (n := 106) Try.func3 Try.ntmps3 rfl rfl ?_
 have a6 : Ext noS G w G w := Ext.refl hP
 have hm := hc.max
 refine zB (zC ?_)
 refine qM (.bool false) ?_
 refine qe (zA (zB (zB (zC ?_))))
 refine qM v ?_
 refine qI rfl (zM (vs := [v]) Try.func5 nm5 rfl rfl rfl ?_)
 refine Calls.mono (vBig_spec a6.pins hc) ?_
 rintro _ w1 ⟨rfl, a7⟩
 refine ⟨_, rfl, ?_⟩
 have ar := a6.step a7.pins a7.below
 refine qe (zA ?_)
 refine zZ (p := ((65536 : Int) < (code.length : Int))) rfl rfl (fun h4 => ?_) (fun h4 => ?_)
 ·skip
  refine zB (zC ?_)
  refine qM (.bool true) ?_
  refine qe (zA ?_)
  refine wp_ret ?_
  refine zS ?_
  refine zR (v := (.bool true)) rfl rfl rfl ?_
  exact ⟨_, rfl, ar⟩
 refine wp_skip ?_
 refine zA (zB (zC ?_))
 refine qM v ?_
 refine qI rfl (zM (vs := [v]) Try.func6 nm6 rfl rfl rfl ?_)
 refine Calls.mono (drWinningMoves_spec ar.pins hc) ?_
 rintro _ w6 ⟨g, b, a, G5, rfl, aa, bj⟩
 refine ⟨_, rfl, ?_⟩
 have au := ar.tr bj
 have b7 := aa.max
 refine qM (.tuple #[(.agg [g].toArray), (.bool a)]) ?_
 refine qD rfl (yO (v := (.agg [g].toArray)) rfl rfl) ?_
 refine qD rfl (yO (v := (.bool a)) rfl rfl) ?_
 refine qI rfl (yN [(.slice none 0 0)] zr26 rfl au.pins (fun bk b8 b9 bl bm bn => ?_))
 have a8 := au.step bm bn
 have a9 : w.heap.size ≤ bk := by have := au.size; omega
 refine q0 rfl rfl rfl (yW (cs' := [g]) (us := [g]) (v := (.agg [g].toArray)) sz26 rfl rfl rfl (yR aa.one) a8.pins bl (Nat.le_of_ble_eq_true rfl) rfl (fun ca bo bp bq cb => ?_))
 have br := a8.write bp bq ((yI a9))
 obtain ⟨cc, af, av, ag, cd⟩ := bo.shut br a9
 refine qM (.bool a) ?_
 refine qe (zA (zB (zC ?_)))
 refine qD rfl (yC (cs := [g]) ag26 sz26 rfl (fun j u hj => av.pins _ _ _ (ag _ _ (by simpa using hj)))) ?_
 refine qM (.bool a) ?_
 refine qI rfl (zM (vs := [(.agg [g].toArray), (.bool a)]) Try.func7 nm7 rfl rfl rfl ?_)
 refine Calls.mono (iWinningMoves_spec (lf := a) av.pins (aa.mono af)) ?_
 rintro _ ce ⟨c, cf, rfl, o, x⟩
 refine ⟨_, rfl, ?_⟩
 have aw := av.tr x
 refine qM (.tuple #[c, (.bool (goodB b))]) ?_
 refine qD rfl (yO (v := c) rfl rfl) ?_
 refine qD rfl (yO (v := (.bool (goodB b))) rfl rfl) ?_
 refine qM c ?_
 refine qM (.bool (goodB b)) ?_
 refine qe (zA (zB (zC ?_)))
 refine qD rfl (yC (cs := [g]) ag26 sz26 rfl (fun j u hj => (Pins.of_le aw.pins x.le) _ _ _ (ag _ _ (by simpa using hj)))) ?_
 refine qM (.bool a) ?_
 refine qI rfl (zM (vs := [(.agg [g].toArray), (.bool a)]) Try.func8 nm8 rfl rfl rfl ?_)
 refine Calls.mono (sWinningMoves_spec (lf := a) aw.pins (aa.mono (Pin.le_trans af x.le))) ?_
 rintro _ cg ⟨ac, ch, rfl, bs, s⟩
 refine ⟨_, rfl, ?_⟩
 have ba := aw.tr s
 refine qM (.tuple #[ac, (.bool (goodB b))]) ?_
 refine qD rfl (yO (v := ac) rfl rfl) ?_
 refine qD rfl (yO (v := (.bool (goodB b))) rfl rfl) ?_
 refine qM ac ?_
 refine qM (.bool (goodB b)) ?_
 refine qe (zA (zB (zB (zC ?_))))
 refine qM (.bool (goodB b)) ?_
 refine qM (.bool (goodB b)) ?_
 refine qD rfl (r_neqB_same Try.underlying4 rfl rfl) ?_
 refine qM (.bool false) ?_
 refine qN (zT (v := c) rfl) ?_
 refine qN (zT (v := ac) rfl) ?_
 refine q1g rfl rfl rfl rfl rfl rfl (zM (vs := [c, ac]) Try.func9 nm9 rfl rfl rfl ?_)
 refine Calls.mono (vInts_spec ba.pins (o.mono s.le) bs) ?_
 rintro _ ci ⟨rfl, bb⟩
 refine ⟨_, rfl, ?_⟩
 have ah := ba.step bb.pins bb.below
 refine qN (xN rfl) ?_
 refine qD rfl (yZ (v := (.bool (!(decide ((wmF b a) = (wmF b a)))))) rfl rfl) ?_
 refine qe (zA ?_)
 refine c_ifn rfl rfl (fun _ => ?_) (fun h => absurd rfl (of_decide_eq_false h))
 refine wp_skip ?_
 refine zA (zB (zB (zC ?_)))
 refine qM (.bool (goodB b)) ?_
 refine qD rfl (xN rfl) ?_
 refine qe (zA ?_)
 refine c_ifn rfl rfl (fun ab => ?_) (fun ab => ?_)
 ·skip
  refine wp_skip ?_
  refine zA (zB (zC ?_))
  refine qD rfl (yC (cs := [g]) ag26 sz26 rfl (fun j u hj => (Pins.of_le ah.pins (Pin.le_trans x.le s.le)) _ _ _ (ag _ _ (by simpa using hj)))) ?_
  refine qM (.bool a) ?_
  refine qI rfl (zM (vs := [(.agg [g].toArray), (.bool a)]) Try.func10 nm10 rfl rfl rfl ?_)
  refine Calls.mono (iWinsMoving_spec ah.pins (aa.mono (Pin.le_trans (Pin.le_trans af x.le) s.le))) ?_
  rintro _ cj ⟨ck, rfl, ad⟩
  refine ⟨_, rfl, ?_⟩
  have ax := ah.tr ad
  refine qM (.tuple #[(.bool (wmB b a)), (.bool (goodB b))]) ?_
  refine qD rfl (yO (v := (.bool (wmB b a))) rfl rfl) ?_
  refine qD rfl (yO (v := (.bool (goodB b))) rfl rfl) ?_
  refine qM (.bool (wmB b a)) ?_
  refine qM (.bool (goodB b)) ?_
  refine qe (zA (zB (zC ?_)))
  refine qD rfl (yC (cs := [g]) ag26 sz26 rfl (fun j u hj => (Pins.of_le ax.pins (Pin.le_trans (Pin.le_trans x.le s.le) ad.le)) _ _ _ (ag _ _ (by simpa using hj)))) ?_
  refine qI rfl (zM (vs := [(.agg [g].toArray)]) Try.func11 nm11 rfl rfl rfl ?_)
  refine Calls.mono (sOptionsOf_spec ax.pins (aa.mono (Pin.le_trans (Pin.le_trans (Pin.le_trans af x.le) s.le) ad.le))) ?_
  rintro _ cl ⟨q, l, d, f, ai, rfl, aj, ak, bc, ay⟩
  refine ⟨_, rfl, ?_⟩
  have bd := ax.tr ay
  have cm := aj.max
  have cn := ak.max
  refine qM (.tuple #[q, l, (.bool (goodB b))]) ?_
  refine qD rfl (yO (v := q) rfl rfl) ?_
  refine qD rfl (yO (v := l) rfl rfl) ?_
  refine qD rfl (yO (v := (.bool (goodB b))) rfl rfl) ?_
  refine qM q ?_
  refine qM l ?_
  refine qM (.bool (goodB b)) ?_
  refine qe (zA (zB (zB (zC ?_))))
  refine qM (.bool a) ?_
  refine qD rfl (xN rfl) ?_
  refine qe (zA ?_)
  refine c_ifn rfl rfl (fun az => ?_) (fun az => ?_)
  ·skip
   refine wp_skip ?_
   refine zA (zB (zB (zC ?_)))
   refine qM (vJ 0) ?_
   refine qe (zA ?_)
   refine zU ?_
   have hgg := goodB_true.1 ab
   obtain ⟨hel, her⟩ := bc ab
   have hlf : a = true := by simpa using az
   have ae : d = optsS b (optL true b) := hel
   have hll : d.length = (optL true b).length := by rw [ae, opts_len]
   have hwl := wmF_len (fs := b) (left := a)
   refine yH (fun (k : Nat) (en : Nat → Value) (W : World) => ∃ (m : Nat → Value) (i : Nat) (y : Pin), en = (upd (upd (upd (upd (upd m 4 (.bool a)) 5 c) 9 (.bool (wmB b a))) 11 q) 14 (vJ (i : Int))) ∧ k = d.length - i ∧ Ext noS G w y W ∧ Pin.le ai y ∧ (i ≤ d.length)) _ ⟨_, 0, ai, (pS 14 (pS 11 (pS 9 (pS 5 (pU 4))))), rfl, bd, Pin.le_refl _, Nat.zero_le _⟩ ?_
   rintro co _ cp ⟨m, i, y, rfl, cq, al, am, hi⟩
   refine zB (zB (zC ?_))
   refine qM (vJ (i : Int)) ?_
   refine qM q ?_
   refine qD rfl (zK Try.underlying35 (v := q) rfl aj) ?_
   refine qD rfl (yK rfl rfl) ?_
   refine qe (zA ?_)
   refine zZ (p := ((i : Int) : Int) < (d.length : Int)) rfl rfl (fun bt => ?_) (fun bt => ?_)
   ·skip
    refine wp_skip ?_
    refine zA (zB ?_)
    refine zU ?_
    refine zB (zC ?_)
    refine qM q ?_
    refine qM (vJ (i : Int)) ?_
    refine qD rfl (zG Try.underlying35 sz26 (v := q) rfl rfl aj (by omega) (by omega)) ?_
    obtain ⟨bu, be, bv⟩ := nm_form (aj.at (z := (i : Int)) (by omega) (by omega)) (j := i) rfl
    have cr := be.max
    refine qD rfl (bv ag26 sz26 rfl (Pins.of_le al.pins am)) ?_
    refine qM (.bool a) ?_
    refine qD rfl (xN rfl) ?_
    refine qI rfl (zM (vs := [(.agg [bu].toArray), (.bool (!a))]) Try.func10 nm10 rfl rfl rfl ?_)
    refine Calls.mono (iWinsMoving_spec al.pins (be.mono am)) ?_
    rintro _ ct ⟨bf, rfl, a0⟩
    refine ⟨_, rfl, ?_⟩
    have bw := al.tr a0
    refine qM (.tuple #[(.bool (wmB (d.getD i []) (!a))), (.bool (goodB (d.getD i [])))]) ?_
    refine qD rfl (yO (v := (.bool (wmB (d.getD i []) (!a)))) rfl rfl) ?_
    refine qD rfl (yO (v := (.bool (goodB (d.getD i [])))) rfl rfl) ?_
    refine qM (.bool (wmB (d.getD i []) (!a))) ?_
    refine qM (.bool (goodB (d.getD i []))) ?_
    refine qe (zA (zB (zC ?_)))
    refine qM (.bool false) ?_
    refine qe (zA (zB (zB (zC ?_))))
    refine qM (vJ 0) ?_
    refine qe (zA ?_)
    refine zU ?_
    refine yH (fun (k : Nat) (en : Nat → Value) (W : World) => ∃ (m : Nat → Value) (kb : Nat) (cv : Bool), en = (upd (upd (upd (upd (upd (upd (upd (upd m 4 (.bool a)) 5 c) 9 (.bool (wmB b a))) 11 q) 14 (vJ (i : Int))) 15 (.bool (wmB (d.getD i []) (!a)))) 17 (.bool cv)) 18 (vJ (kb : Int))) ∧ k = (wmF b a).length - kb ∧ Ext noS G w bf W ∧ (kb ≤ (wmF b a).length) ∧ (cv = inB ((wmF b a).take kb) i)) _ ⟨_, 0, false, (pS 18 (pS 17 (pS 15 (pS 14 (pS 11 (pS 9 (pS 5 (pU 4)))))))), rfl, bw, Nat.zero_le _, rfl⟩ ?_
    rintro cu _ cw ⟨m, kb, cv, rfl, cx, an, hk, hcv⟩
    refine zB (zB (zC ?_))
    refine qM (vJ (kb : Int)) ?_
    refine qM c ?_
    refine qD rfl (zK Try.underlying29 (v := c) rfl o) ?_
    refine qD rfl (yK rfl rfl) ?_
    refine qe (zA ?_)
    refine zZ (p := ((kb : Int) : Int) < ((wmF b a).length : Int)) rfl rfl (fun bx => ?_) (fun bx => ?_)
    ·skip
     refine wp_skip ?_
     refine zA (zB ?_)
     refine zU ?_
     refine zC ?_
     refine qM (.bool cv) ?_
     refine qM (.bool cv) ?_
     refine qb (t := 90) rfl (fun a1 => ?_) (fun a1 => ?_)
     ·skip
      refine qW ?_
      refine qW ?_
      refine qW ?_
      refine qW ?_
      refine qW ?_
      refine qW ?_
      refine qD rfl (xF (v := (.bool true)) rfl rfl) ?_
      refine qM (.bool true) ?_
      refine qe ?_
      refine zW ?_
      refine zA (zC ?_)
      refine qM (vJ (kb : Int)) ?_
      refine qD rfl (yE rfl rfl (by omega)) ?_
      refine qM (vJ ((kb : Int) + 1)) ?_
      refine qe ?_
      refine zY ?_
      refine ⟨_, ?_, _, rfl, _, kb + 1, true, (pS 18 (pS 17 (pS 15 (pS 14 (pS 11 (pS 9 (pS 5 (pU 4)))))))), rfl, an, (by omega), (by rw [inB_next (by omega), ← hcv, a1]; rfl)⟩
      omega
     refine qN (zT (v := c) rfl) ?_
     refine qN (zT (v := (vJ (kb : Int))) rfl) ?_
     refine qN (zG Try.underlying29 sz3 (v := c) rfl rfl o (by omega) (by omega)) ?_
     refine qN (zJ (r := (wmF b a).getD kb 0) rfl ag3 (z := (kb : Int)) rfl o (Pins.of_le an.pins (Pin.le_trans (Pin.le_trans (Pin.le_trans (Pin.le_trans s.le ad.le) ay.le) am) a0.le)) (by omega) (by omega)) ?_
     refine qN (zT (v := (vJ (i : Int))) rfl) ?_
     refine qN (r_eql rfl rfl) ?_
     refine qD rfl (yZ (v := (.bool (decide (((wmF b a).getD kb 0 : Int) = (i : Int))))) rfl rfl) ?_
     refine qM (.bool (decide (((wmF b a).getD kb 0 : Int) = (i : Int)))) ?_
     refine qe ?_
     refine zW ?_
     refine zA (zC ?_)
     refine qM (vJ (kb : Int)) ?_
     refine qD rfl (yE rfl rfl (by omega)) ?_
     refine qM (vJ ((kb : Int) + 1)) ?_
     refine qe ?_
     refine zY ?_
     refine ⟨_, ?_, _, rfl, _, kb + 1, decide (((wmF b a).getD kb 0 : Int) = (i : Int)), (pS 18 (pS 17 (pS 15 (pS 14 (pS 11 (pS 9 (pS 5 (pU 4)))))))), rfl, an, (by omega), (by rw [inB_next (by omega), ← hcv, a1]; rfl)⟩
     omega
    refine wp_exit ?_
    refine zV ?_
    refine yD ?_
    refine yB ?_
    refine zA (zB (zC ?_))
    refine qM (.bool cv) ?_
    refine qM (.bool (wmB (d.getD i []) (!a))) ?_
    refine qD rfl (r_eqlB Try.underlying4 rfl rfl) ?_
    refine qe (zA ?_)
    refine c_if rfl rfl (fun a2 => ?_) (fun a2 => ?_)
    ·skip
     refine zB (zC ?_)
     refine qM (.bool false) ?_
     refine qe (zA ?_)
     refine wp_ret ?_
     refine zS ?_
     refine zR (v := (.bool false)) rfl rfl rfl ?_
     have hcl := in_law hgg (left := true) (i := i) (by omega)
     rw [List.take_of_length_le (by omega), hlf, hcl, ← ae] at hcv
     rw [hcv, hlf] at a2
     exfalso
     revert a2
     cases wmB (d.getD i []) (!true) <;> decide
    refine wp_skip ?_
    refine zW ?_
    refine zA (zC ?_)
    refine qM (vJ (i : Int)) ?_
    refine qD rfl (yE rfl rfl (by omega)) ?_
    refine qM (vJ ((i : Int) + 1)) ?_
    refine qe ?_
    refine zY ?_
    refine ⟨_, ?_, _, rfl, _, i + 1, bf, (pS 14 (pS 11 (pS 9 (pS 5 (pU 4))))), rfl, an, (Pin.le_trans am a0.le), (by omega)⟩
    omega
   refine wp_exit ?_
   refine zV ?_
   refine yD ?_
   refine yB ?_
   refine zA (zB (zC ?_))
   refine qM (.bool (wmB b a)) ?_
   refine qM c ?_
   refine qD rfl (zK Try.underlying29 (v := c) rfl o) ?_
   refine qD rfl (r_gtr rfl rfl) ?_
   refine qD rfl (r_eqlB Try.underlying4 rfl rfl) ?_
   refine qM (.bool ((wmB b a) == (decide ((0 : Int) < ((wmF b a).length : Int))))) ?_
   refine qe (zA ?_)
   refine wp_ret ?_
   refine zS ?_
   refine zR (v := (.bool ((wmB b a) == (decide ((0 : Int) < ((wmF b a).length : Int)))))) rfl rfl rfl ?_
   have hwn := wins_law hgg (left := a)
   exact ⟨_, congrArg (fun z => Ending.returned (Value.bool z)) (by rw [hwn]; exact beq_self_eq_true _), al⟩
  refine zC ?_
  refine qM l ?_
  refine qM l ?_
  refine qe (zA (zB (zB (zC ?_))))
  refine qM (vJ 0) ?_
  refine qe (zA ?_)
  refine zU ?_
  have hgg := goodB_true.1 ab
  obtain ⟨hel, her⟩ := bc ab
  have hlf : a = false := by simpa using az
  have ae : f = optsS b (optL false b) := her
  have hll : f.length = (optL false b).length := by rw [ae, opts_len]
  have hwl := wmF_len (fs := b) (left := a)
  refine yH (fun (k : Nat) (en : Nat → Value) (W : World) => ∃ (m : Nat → Value) (i : Nat) (y : Pin), en = (upd (upd (upd (upd (upd m 4 (.bool a)) 5 c) 9 (.bool (wmB b a))) 11 l) 14 (vJ (i : Int))) ∧ k = f.length - i ∧ Ext noS G w y W ∧ Pin.le ai y ∧ (i ≤ f.length)) _ ⟨_, 0, ai, (pS 14 (pS 11 (pS 9 (pS 5 (pU 4))))), rfl, bd, Pin.le_refl _, Nat.zero_le _⟩ ?_
  rintro cy _ cz ⟨m, i, y, rfl, c0, ao, ap, hi⟩
  refine zB (zB (zC ?_))
  refine qM (vJ (i : Int)) ?_
  refine qM l ?_
  refine qD rfl (zK Try.underlying35 (v := l) rfl ak) ?_
  refine qD rfl (yK rfl rfl) ?_
  refine qe (zA ?_)
  refine zZ (p := ((i : Int) : Int) < (f.length : Int)) rfl rfl (fun bz => ?_) (fun bz => ?_)
  ·skip
   refine wp_skip ?_
   refine zA (zB ?_)
   refine zU ?_
   refine zB (zC ?_)
   refine qM l ?_
   refine qM (vJ (i : Int)) ?_
   refine qD rfl (zG Try.underlying35 sz26 (v := l) rfl rfl ak (by omega) (by omega)) ?_
   obtain ⟨b0, bg, b1⟩ := nm_form (ak.at (z := (i : Int)) (by omega) (by omega)) (j := i) rfl
   have c1 := bg.max
   refine qD rfl (b1 ag26 sz26 rfl (Pins.of_le ao.pins ap)) ?_
   refine qM (.bool a) ?_
   refine qD rfl (xN rfl) ?_
   refine qI rfl (zM (vs := [(.agg [b0].toArray), (.bool (!a))]) Try.func10 nm10 rfl rfl rfl ?_)
   refine Calls.mono (iWinsMoving_spec ao.pins (bg.mono ap)) ?_
   rintro _ c2 ⟨bh, rfl, a3⟩
   refine ⟨_, rfl, ?_⟩
   have b2 := ao.tr a3
   refine qM (.tuple #[(.bool (wmB (f.getD i []) (!a))), (.bool (goodB (f.getD i [])))]) ?_
   refine qD rfl (yO (v := (.bool (wmB (f.getD i []) (!a)))) rfl rfl) ?_
   refine qD rfl (yO (v := (.bool (goodB (f.getD i [])))) rfl rfl) ?_
   refine qM (.bool (wmB (f.getD i []) (!a))) ?_
   refine qM (.bool (goodB (f.getD i []))) ?_
   refine qe (zA (zB (zC ?_)))
   refine qM (.bool false) ?_
   refine qe (zA (zB (zB (zC ?_))))
   refine qM (vJ 0) ?_
   refine qe (zA ?_)
   refine zU ?_
   refine yH (fun (k : Nat) (en : Nat → Value) (W : World) => ∃ (m : Nat → Value) (kb : Nat) (cv : Bool), en = (upd (upd (upd (upd (upd (upd (upd (upd m 4 (.bool a)) 5 c) 9 (.bool (wmB b a))) 11 l) 14 (vJ (i : Int))) 15 (.bool (wmB (f.getD i []) (!a)))) 17 (.bool cv)) 18 (vJ (kb : Int))) ∧ k = (wmF b a).length - kb ∧ Ext noS G w bh W ∧ (kb ≤ (wmF b a).length) ∧ (cv = inB ((wmF b a).take kb) i)) _ ⟨_, 0, false, (pS 18 (pS 17 (pS 15 (pS 14 (pS 11 (pS 9 (pS 5 (pU 4)))))))), rfl, b2, Nat.zero_le _, rfl⟩ ?_
   rintro c3 _ c4 ⟨m, kb, cv, rfl, c5, aq, hk, hcv⟩
   refine zB (zB (zC ?_))
   refine qM (vJ (kb : Int)) ?_
   refine qM c ?_
   refine qD rfl (zK Try.underlying29 (v := c) rfl o) ?_
   refine qD rfl (yK rfl rfl) ?_
   refine qe (zA ?_)
   refine zZ (p := ((kb : Int) : Int) < ((wmF b a).length : Int)) rfl rfl (fun b3 => ?_) (fun b3 => ?_)
   ·skip
    refine wp_skip ?_
    refine zA (zB ?_)
    refine zU ?_
    refine zC ?_
    refine qM (.bool cv) ?_
    refine qM (.bool cv) ?_
    refine qb (t := 90) rfl (fun a4 => ?_) (fun a4 => ?_)
    ·skip
     refine qW ?_
     refine qW ?_
     refine qW ?_
     refine qW ?_
     refine qW ?_
     refine qW ?_
     refine qD rfl (xF (v := (.bool true)) rfl rfl) ?_
     refine qM (.bool true) ?_
     refine qe ?_
     refine zW ?_
     refine zA (zC ?_)
     refine qM (vJ (kb : Int)) ?_
     refine qD rfl (yE rfl rfl (by omega)) ?_
     refine qM (vJ ((kb : Int) + 1)) ?_
     refine qe ?_
     refine zY ?_
     refine ⟨_, ?_, _, rfl, _, kb + 1, true, (pS 18 (pS 17 (pS 15 (pS 14 (pS 11 (pS 9 (pS 5 (pU 4)))))))), rfl, aq, (by omega), (by rw [inB_next (by omega), ← hcv, a4]; rfl)⟩
     omega
    refine qN (zT (v := c) rfl) ?_
    refine qN (zT (v := (vJ (kb : Int))) rfl) ?_
    refine qN (zG Try.underlying29 sz3 (v := c) rfl rfl o (by omega) (by omega)) ?_
    refine qN (zJ (r := (wmF b a).getD kb 0) rfl ag3 (z := (kb : Int)) rfl o (Pins.of_le aq.pins (Pin.le_trans (Pin.le_trans (Pin.le_trans (Pin.le_trans s.le ad.le) ay.le) ap) a3.le)) (by omega) (by omega)) ?_
    refine qN (zT (v := (vJ (i : Int))) rfl) ?_
    refine qN (r_eql rfl rfl) ?_
    refine qD rfl (yZ (v := (.bool (decide (((wmF b a).getD kb 0 : Int) = (i : Int))))) rfl rfl) ?_
    refine qM (.bool (decide (((wmF b a).getD kb 0 : Int) = (i : Int)))) ?_
    refine qe ?_
    refine zW ?_
    refine zA (zC ?_)
    refine qM (vJ (kb : Int)) ?_
    refine qD rfl (yE rfl rfl (by omega)) ?_
    refine qM (vJ ((kb : Int) + 1)) ?_
    refine qe ?_
    refine zY ?_
    refine ⟨_, ?_, _, rfl, _, kb + 1, decide (((wmF b a).getD kb 0 : Int) = (i : Int)), (pS 18 (pS 17 (pS 15 (pS 14 (pS 11 (pS 9 (pS 5 (pU 4)))))))), rfl, aq, (by omega), (by rw [inB_next (by omega), ← hcv, a4]; rfl)⟩
    omega
   refine wp_exit ?_
   refine zV ?_
   refine yD ?_
   refine yB ?_
   refine zA (zB (zC ?_))
   refine qM (.bool cv) ?_
   refine qM (.bool (wmB (f.getD i []) (!a))) ?_
   refine qD rfl (r_eqlB Try.underlying4 rfl rfl) ?_
   refine qe (zA ?_)
   refine c_if rfl rfl (fun a5 => ?_) (fun a5 => ?_)
   ·skip
    refine zB (zC ?_)
    refine qM (.bool false) ?_
    refine qe (zA ?_)
    refine wp_ret ?_
    refine zS ?_
    refine zR (v := (.bool false)) rfl rfl rfl ?_
    have hcl := in_law hgg (left := false) (i := i) (by omega)
    rw [List.take_of_length_le (by omega), hlf, hcl, ← ae] at hcv
    rw [hcv, hlf] at a5
    exfalso
    revert a5
    cases wmB (f.getD i []) (!false) <;> decide
   refine wp_skip ?_
   refine zW ?_
   refine zA (zC ?_)
   refine qM (vJ (i : Int)) ?_
   refine qD rfl (yE rfl rfl (by omega)) ?_
   refine qM (vJ ((i : Int) + 1)) ?_
   refine qe ?_
   refine zY ?_
   refine ⟨_, ?_, _, rfl, _, i + 1, bh, (pS 14 (pS 11 (pS 9 (pS 5 (pU 4))))), rfl, aq, (Pin.le_trans ap a3.le), (by omega)⟩
   omega
  refine wp_exit ?_
  refine zV ?_
  refine yD ?_
  refine yB ?_
  refine zA (zB (zC ?_))
  refine qM (.bool (wmB b a)) ?_
  refine qM c ?_
  refine qD rfl (zK Try.underlying29 (v := c) rfl o) ?_
  refine qD rfl (r_gtr rfl rfl) ?_
  refine qD rfl (r_eqlB Try.underlying4 rfl rfl) ?_
  refine qM (.bool ((wmB b a) == (decide ((0 : Int) < ((wmF b a).length : Int))))) ?_
  refine qe (zA ?_)
  refine wp_ret ?_
  refine zS ?_
  refine zR (v := (.bool ((wmB b a) == (decide ((0 : Int) < ((wmF b a).length : Int)))))) rfl rfl rfl ?_
  have hwn := wins_law hgg (left := a)
  exact ⟨_, congrArg (fun z => Ending.returned (Value.bool z)) (by rw [hwn]; exact beq_self_eq_true _), ao⟩
 refine zB (zC ?_)
 refine qM c ?_
 refine qD rfl (zK Try.underlying29 (v := c) rfl o) ?_
 refine qD rfl (r_eql rfl rfl) ?_
 refine qM (.bool (decide ((((wmF b a).length : Int) : Int) = 0))) ?_
 refine qe (zA ?_)
 refine wp_ret ?_
 refine zS ?_
 refine zR (v := (.bool (decide ((((wmF b a).length : Int) : Int) = 0)))) rfl rfl rfl ?_
 exact ⟨_, congrArg (fun z => Ending.returned (Value.bool z)) (decide_eq_true (by rw [wmF_no ab]; rfl)), ah⟩

end LWW
end Go.Proofs.Ytkfgdhanaijddaa
