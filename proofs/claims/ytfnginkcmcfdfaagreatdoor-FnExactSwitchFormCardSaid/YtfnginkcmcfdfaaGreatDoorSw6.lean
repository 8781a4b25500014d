/- Texts of this claim in one file: NB1, NB2, VA2, SW1, SW3, LSW. -/
import Derived.Test.YtfnginkcmcfdfaaGreatDoorSw5
import Derived.Test.YtfnginkcmcfdfaaGreatDoorChecked
set_option maxRecDepth 20000
set_option maxHeartbeats 2000000
namespace Go.Proofs.YtfnginkcmcfdfaaGreatDoor
namespace NB1
open Go.RowKit Go.GL Go.Proofs
open Go.Proofs.YtfnginkcmcfdfaaGreatDoor.B1
open Go.Proofs.YtfnginkcmcfdfaaGreatDoor.K1
open Go.Proofs.YtfnginkcmcfdfaaGreatDoor.PO1
open Go.Proofs.YtfnginkcmcfdfaaGreatDoor.PL1
open Go.Proofs.YtfnginkcmcfdfaaGreatDoor.NU1
open Go.Proofs.YtfnginkcmcfdfaaGreatDoor.NU2










theorem lowest_ok {w : World} {G : Pin} {t : Int} {p : Nat} (hP : Pins G w) (hb : -1000000000 ≤ t ∧ t ≤ 1000000000) (hp : p ≤ 64) (hg : GoodD (lowD p t).1 (((lowD p t).2 : Nat) : Int)) :
  Calls Tryz.prog 122 [(.int .i64 t), (.int .i64 (p : Int))].toArray w fun e w' => ∃ G', e = .returned (.tuple #[(.agg [.int .i64 (lowD p t).1, .int .i64 (((lowD p t).2 : Nat) : Int)].toArray), .bool true]) ∧ Ext noS G w G' w' := by
 refine (lowest_spec hP (by omega) hp).mono ?_
 rintro e w' ⟨G', rfl, hx⟩
 exact ⟨G', by rw [decP_true.2 hg]; rfl, hx⟩

def NumP (m p : Nat) (mm : PM) : Prop := ∀ {w : World} {G : Pin} {L R B : Value} {q : PSt} {t : Int} {dp : Nat} (_ : Pins G w) (_ : Pk 65 3 G w p L R B mm q) (_ : PoolOk q) (_ : NumOk dp t) (_ : q.ns.length + numT dp ≤ 1048575), dp < m →
  Calls Tryz.prog 102 [(.pointer (some ⟨p, 0, none⟩)), (.agg [.int .i64 t, .int .i64 (dp : Int)].toArray)].toArray w fun e w' => ∃ (z : Int) (L' R' B' : Value) (q' : PSt) (G' : Pin), e = .returned (.int .i64 z) ∧ Pk 65 3 G' w' p L' R' B' mm q' ∧ PoolOk q' ∧ PX q q' ∧ PLo w p L R B mm L' R' B' ∧ Ext (inP p L R B mm) G w G' w' ∧ PlaceOk q' z ∧ pd q' z = dyG dp t ∧ q'.ns.length ≤ q.ns.length + numT dp

theorem number_step {w : World} {G : Pin} {L R B : Value} {q : PSt} {t : Int} {dp p : Nat} {mm : PM} {m : Nat} (hP : Pins G w) (hpk : Pk 65 3 G w p L R B mm q) (hok : PoolOk q) (hn : NumOk dp t) (hl : q.ns.length + numT dp ≤ 1048575) (ih : NumP m p mm) (hm : dp < m + 1) :
  Calls Tryz.prog 102 [(.pointer (some ⟨p, 0, none⟩)), (.agg [(vJ t), (vJ (dp : Int))].toArray)].toArray w fun e w' => ∃ (z : Int) (L' R' B' : Value) (q' : PSt) (G' : Pin), e = .returned (vJ z) ∧ Pk 65 3 G' w' p L' R' B' mm q' ∧ PoolOk q' ∧ PX q q' ∧ PLo w p L R B mm L' R' B' ∧ Ext (inP p L R B mm) G w G' w' ∧ PlaceOk q' z ∧ pd q' z = dyG dp t ∧ q'.ns.length ≤ q.ns.length + numT dp := by
 refine zV (n := 88) Tryz.func102 Tryz.ntmps102 rfl rfl ?_
 have b7 : Ext (inP p L R B mm) G w G w := Ext.refl hP
 have hpin : PIn w (inP p L R B mm) p L R B mm := PIn.self
 have ma : (q.ns.map Nd.l).length = q.ns.length ∧ (q.ns.map Nd.r).length = q.ns.length := ⟨List.length_map .., List.length_map ..⟩
 have mb : q.bs.length = q.ns.length ∧ q.ns.length ≤ 1048576 := ⟨hok.ar.ok.len, hok.ar.ok.lim⟩
 have dg := qJ dp
 have mc := hn.top
 refine zB (zC ?_)
 refine qI rfl (xI [(vJ t), (vJ (dp : Int))] (v := (.agg [(vJ t), (vJ (dp : Int))].toArray)) rfl rfl b7.pins (fun b3 w4 fy fz dh di => ?_))
 have f0 := b7.step dh di
 have f1 := hpk.below di dh
 have f2 := hpk.new (x := (some b3)) (fun k hk => by rw [(congrArg some fy)] at hk; cases hk; exact Nat.le_refl _)
 have f3 : w.heap.size ≤ b3 := by have := b7.size; omega
 obtain ⟨me, f4, a, f, f5⟩ := fz.shut f0 f3
 have a2 := f1.more f4 f5 f2
 refine qM (vJ 0) ?_
 refine qe (zA (zB ?_))
 refine zZ ?_
 refine zB (zC ?_)
 refine qD rfl (zL (k := 1) rfl Tryz.underlying34 rfl nz3 rfl) ?_
 refine qD rfl (zM (u := (vJ (dp : Int))) ag3 rfl (a.pins _ _ _ (f 1 _ rfl))) ?_
 refine qD rfl (r_eql rfl rfl) ?_
 refine qM (.bool (decide (((dp : Int) : Int) = 0))) ?_
 refine qbd (p := ((dp : Int) : Int) = 0) (t := 15) rfl (fun ay => ?_) (fun ay => ?_)
 ·skip
  refine qN (zL (k := 0) rfl Tryz.underlying34 rfl nz3 rfl) ?_
  refine qN (zM (u := (vJ t)) ag3 rfl (a.pins _ _ _ (f 0 _ rfl))) ?_
  refine qN (r_eql rfl rfl) ?_
  refine qD rfl (yW (v := (.bool (decide ((t : Int) = 0)))) rfl rfl) ?_
  refine qM (.bool (decide ((t : Int) = 0))) ?_
  refine qe (zA ?_)
  refine zY (p := (t : Int) = 0) rfl rfl (fun f6 => ?_) (fun f6 => ?_)
  ·skip
   refine zB (zC ?_)
   refine qM (.pointer (some ⟨p, 0, none⟩)) ?_
   refine qI rfl (zH (vs := [(.pointer (some ⟨p, 0, none⟩)), (.slice none 0 0), (.slice none 0 0)]) Tryz.func79 nm79 rfl rfl rfl ?_)
   refine Calls.mono (qB a.pins a2 hok (xG _ _) (xG _ _) (by omega) ⟨by simp, by simp⟩ nil_at nil_at) ?_
   rintro _ mf ⟨dj, f7, f8, f9, ad, ga, rfl, gb, b8, dk, gc, gd, ge, gf, gg, mg⟩
   refine ⟨_, rfl, ?_⟩
   have gh := a.trans gd hpin
   have gi := PIn.call hpin gc a.size
   have mh := dk.len
   have mi : (ad.ns.map Nd.l).length = ad.ns.length ∧ (ad.ns.map Nd.r).length = ad.ns.length := ⟨List.length_map .., List.length_map ..⟩
   have mj : ad.bs.length = ad.ns.length ∧ ad.ns.length ≤ 1048576 := ⟨b8.ar.ok.len, b8.ar.ok.lim⟩
   have gj := gf.trans (show _ = mkG [] [] from rfl)
   have mk := gg
   refine qM (vJ dj) ?_
   refine qe (zA ?_)
   refine wp_ret ?_
   refine zO ?_
   refine zP (v := (vJ dj)) rfl rfl rfl ?_
   have hzz := gj
   have hntm := qJ dp
   exact ⟨_, f7, f8, f9, ad, ga, rfl, gb, b8, dk, PIn.lo gi rfl, gh, ge, (hzz.trans (by rw [show dp = 0 by omega, show t = 0 by omega]; rfl)), (by omega)⟩
  refine zB (zC ?_)
  refine qD rfl (zL (k := 1) rfl Tryz.underlying34 rfl nz3 rfl) ?_
  refine qD rfl (zM (u := (vJ (dp : Int))) ag3 rfl (a.pins _ _ _ (f 1 _ rfl))) ?_
  refine qD rfl (r_eql rfl rfl) ?_
  refine qM (.bool (decide (((dp : Int) : Int) = 0))) ?_
  refine qbd (p := ((dp : Int) : Int) = 0) (t := 26) rfl (fun _ => ?_) (fun h => absurd ay h)
  refine qN (zL (k := 0) rfl Tryz.underlying34 rfl nz3 rfl) ?_
  refine qN (zM (u := (vJ t)) ag3 rfl (a.pins _ _ _ (f 0 _ rfl))) ?_
  refine qN (r_gtr rfl rfl) ?_
  refine qD rfl (yW (v := (.bool (decide ((0 : Int) < t)))) rfl rfl) ?_
  refine qM (.bool (decide ((0 : Int) < t))) ?_
  refine qe (zA ?_)
  refine zY (p := (0 : Int) < t) rfl rfl (fun gk => ?_) (fun gk => ?_)
  ·skip
   refine zB (zC ?_)
   refine qM (.pointer (some ⟨p, 0, none⟩)) ?_
   refine qI rfl (zH (vs := [(.pointer (some ⟨p, 0, none⟩)), (.slice none 0 0), (.slice none 0 0)]) Tryz.func79 nm79 rfl rfl rfl ?_)
   refine Calls.mono (qB a.pins a2 hok (xG _ _) (xG _ _) (by omega) ⟨by simp, by simp⟩ nil_at nil_at) ?_
   rintro _ ml ⟨dl, gl, gm, gn, y, dm, rfl, gp, b9, dn, gq, dq, gr, gs, gt, mn⟩
   refine ⟨_, rfl, ?_⟩
   have dr := a.trans dq hpin
   have gu := PIn.call hpin gq a.size
   have mo := dn.len
   have mp : (y.ns.map Nd.l).length = y.ns.length ∧ (y.ns.map Nd.r).length = y.ns.length := ⟨List.length_map .., List.length_map ..⟩
   have mq : y.bs.length = y.ns.length ∧ y.ns.length ≤ 1048576 := ⟨b9.ar.ok.len, b9.ar.ok.lim⟩
   have gv := gs.trans (show _ = mkG [] [] from rfl)
   have mr := gt
   refine qM (vJ dl) ?_
   refine qe (zA (zB (zB (zC ?_))))
   refine qD rfl (zL (k := 0) rfl Tryz.underlying34 rfl nz3 rfl) ?_
   refine qD rfl (zM (u := (vJ t)) ag3 rfl ((Pins.of_le dr.pins dq.le) _ _ _ (f 0 _ rfl))) ?_
   refine qM (vJ 0) ?_
   refine qe (zA ?_)
   refine zZ ?_
   have gw := gv
   have hz077p := gr
   have az : dp = 0 := by omega
   have hq0l : y.ns.length ≤ q.ns.length + 1 := by omega
   have ca := hn.lim
   rw [az] at ca
   have dg := qJ dp
   refine yT (fun (k : Nat) (en : Nat → Value) (W : World) => ∃ (a0 : Nat → Value) (ka : Nat) (za : Int) (a3 : Value) (a4 : Value) (a5 : Value) (b : PSt) (aq : Pin), en = (upd (upd (upd (upd (upd (upd a0 0 (.pointer (some ⟨p, 0, none⟩))) 3 (.pointer (some ⟨b3, 0, none⟩))) 4 (vJ 0)) 5 (vJ za)) 34 (vJ t)) 35 (vJ (ka : Int))) ∧ k = t.toNat - ka ∧ Ext (inP p L R B mm) G w aq W ∧ Pin.le dm aq ∧ (ka ≤ t.toNat) ∧ (PlaceOk b za) ∧ (pd b za = intG (ka : Int)) ∧ (b.ns.length ≤ q.ns.length + 1 + ka) ∧ (Pk 65 3 aq W p a3 a4 a5 mm b) ∧ (PIn w ((inP p L R B mm)) p a3 a4 a5 mm) ∧ (PoolOk b) ∧ (PX y b)) _ ⟨_, 0, dl, gl, gm, gn, y, dm, (pS 35 (pS 34 (pS 5 (pS 4 (pS 3 (pU 0)))))), rfl, dr, Pin.le_refl _, Nat.zero_le _, hz077p, (gw.trans rfl), (by omega), gp, gu, b9, (PX.refl _)⟩ ?_
   rintro ms _ mt ⟨a0, ka, za, a3, a4, a5, b, aq, rfl, mu, a6, gx, hkv, hzpl, hzpd, hnq, cb, cc, a7, cd⟩
   have mv := cd.len
   have mw : (b.ns.map Nd.l).length = b.ns.length ∧ (b.ns.map Nd.r).length = b.ns.length := ⟨List.length_map .., List.length_map ..⟩
   have mx : b.bs.length = b.ns.length ∧ b.ns.length ≤ 1048576 := ⟨a7.ar.ok.len, a7.ar.ok.lim⟩
   refine zB (zC ?_)
   refine qD rfl (yR rfl rfl) ?_
   refine qe (zA (zB ?_))
   refine zY (p := ((ka : Int) : Int) < t) rfl rfl (fun gy => ?_) (fun gy => ?_)
   ·skip
    refine wp_skip ?_
    refine zA (zB ?_)
    refine zZ ?_
    refine zC ?_
    refine qM (.pointer (some ⟨p, 0, none⟩)) ?_
    refine qM (vJ za) ?_
    refine qI rfl (yG (E := eInt) (e := 3) [(vJ za)] [za] Tryz.underlying65 sz3 zr3 (by exact xK (by rfl)) (yE (by rfl)) rfl rfl rfl rfl (by decide) a6.pins (fun ce gz g0 ds dt g1 => ?_))
    have g2 := a6.step ds dt
    have g3 := cb.below dt ds
    have g4 := cb.new (x := ce.ownBlock) (fun k hk => by rw [g1] at hk; cases hk; exact Nat.le_refl _)
    have g5 : Own eInt 3 aq gz w.heap.size ce ([za]) := g0.weaken a6.size
    obtain ⟨my, du, cf, g6, g7⟩ := g5.sealed g2
    have g8 := g3.moreO du g7 g4
    have g9 := hzpd
    refine qI rfl (zH (vs := [(.pointer (some ⟨p, 0, none⟩)), ce, (.slice none 0 0)]) Tryz.func79 nm79 rfl rfl rfl ?_)
    refine Calls.mono (qB cf.pins g8 a7 g6 (xG _ _) (by omega) ⟨by simp, by simp⟩ (one_at hzpl) nil_at) ?_
    rintro _ mz ⟨dv, ha, hb, hc, ae, hd, rfl, he, cg, dw, hf, dx, hg, hh, hi, m0⟩
    refine ⟨_, rfl, ?_⟩
    have ho := cf.trans dx cc
    have hp := PIn.call cc hf cf.size
    have m1 := dw.len
    have m2 : (ae.ns.map Nd.l).length = ae.ns.length ∧ (ae.ns.map Nd.r).length = ae.ns.length := ⟨List.length_map .., List.length_map ..⟩
    have m3 : ae.bs.length = ae.ns.length ∧ ae.ns.length ≤ 1048576 := ⟨cg.ar.ok.len, cg.ar.ok.lim⟩
    have dy := hh.trans (show _ = mkG [pd b za] [] from rfl)
    rw [g9] at dy
    have m4 := hi
    refine qM (vJ dv) ?_
    refine qe ?_
    refine yL ?_
    refine zA (zC ?_)
    refine qD rfl (yQ rfl rfl (by omega)) ?_
    refine qM (vJ ((ka : Int) + 1)) ?_
    refine qe ?_
    refine yN ?_
    refine ⟨_, ?_, _, rfl, _, ka + 1, dv, ha, hb, hc, ae, hd, (pS 35 (pS 34 (pS 5 (pS 4 (pS 3 (pU 0)))))), rfl, ho, (Pin.le_trans (Pin.le_trans gx du) dx.le), (by omega), hg, (dy.trans (int_next ka).symm), (by omega), he, hp, cg, (PX.trans cd dw)⟩
    omega
   refine wp_exit ?_
   refine yB ?_
   refine yO ?_
   refine yM ?_
   refine zA (zB (zC ?_))
   refine qM (vJ za) ?_
   refine qM (vJ za) ?_
   refine qe (zA ?_)
   refine wp_ret ?_
   refine zO ?_
   refine zP (v := (vJ za)) rfl rfl rfl ?_
   have hzz := hzpd
   have hntm := qJ dp
   exact ⟨_, a3, a4, a5, b, aq, rfl, cb, a7, (PX.trans dn cd), PIn.lo cc rfl, a6, hzpl, (hzz.trans (by rw [az, show (ka : Int) = t by omega]; rfl)), (by omega)⟩
  refine zB (zC ?_)
  refine qD rfl (zL (k := 1) rfl Tryz.underlying34 rfl nz3 rfl) ?_
  refine qD rfl (zM (u := (vJ (dp : Int))) ag3 rfl (a.pins _ _ _ (f 1 _ rfl))) ?_
  refine qD rfl (r_eql rfl rfl) ?_
  refine qM (.bool (decide (((dp : Int) : Int) = 0))) ?_
  refine qe (zA ?_)
  refine zY (p := ((dp : Int) : Int) = 0) rfl rfl (fun _ => ?_) (fun h => absurd ay h)
  refine zB (zC ?_)
  refine qM (.pointer (some ⟨p, 0, none⟩)) ?_
  refine qI rfl (zH (vs := [(.pointer (some ⟨p, 0, none⟩)), (.slice none 0 0), (.slice none 0 0)]) Tryz.func79 nm79 rfl rfl rfl ?_)
  refine Calls.mono (qB a.pins a2 hok (xG _ _) (xG _ _) (by omega) ⟨by simp, by simp⟩ nil_at nil_at) ?_
  rintro _ m5 ⟨dz, hq, hr, hs, aa, d0, rfl, ht, ch, d1, hu, d2, hv, hw, hx, m6⟩
  refine ⟨_, rfl, ?_⟩
  have d3 := a.trans d2 hpin
  have hy := PIn.call hpin hu a.size
  have m7 := d1.len
  have m8 : (aa.ns.map Nd.l).length = aa.ns.length ∧ (aa.ns.map Nd.r).length = aa.ns.length := ⟨List.length_map .., List.length_map ..⟩
  have m9 : aa.bs.length = aa.ns.length ∧ aa.ns.length ≤ 1048576 := ⟨ch.ar.ok.len, ch.ar.ok.lim⟩
  have hz := hw.trans (show _ = mkG [] [] from rfl)
  have na := hx
  refine qM (vJ dz) ?_
  refine qe (zA (zB (zB (zC ?_))))
  refine qD rfl (zL (k := 0) rfl Tryz.underlying34 rfl nz3 rfl) ?_
  refine qD rfl (zM (u := (vJ t)) ag3 rfl ((Pins.of_le d3.pins d2.le) _ _ _ (f 0 _ rfl))) ?_
  refine qD rfl (r_neg rfl (by omega)) ?_
  refine qM (vJ 0) ?_
  refine qe (zA ?_)
  refine zZ ?_
  have h0 := hz
  have hz0162p := hv
  have az : dp = 0 := by omega
  have hq0l : aa.ns.length ≤ q.ns.length + 1 := by omega
  have ca := hn.lim
  rw [az] at ca
  have dg := qJ dp
  refine yT (fun (k : Nat) (en : Nat → Value) (W : World) => ∃ (a0 : Nat → Value) (kb : Nat) (zb : Int) (a8 : Value) (a9 : Value) (ba : Value) (c : PSt) (au : Pin), en = (upd (upd (upd (upd (upd (upd a0 0 (.pointer (some ⟨p, 0, none⟩))) 3 (.pointer (some ⟨b3, 0, none⟩))) 4 (vJ 0)) 6 (vJ zb)) 51 (vJ (-t))) 52 (vJ (kb : Int))) ∧ k = (-t).toNat - kb ∧ Ext (inP p L R B mm) G w au W ∧ Pin.le d0 au ∧ (kb ≤ (-t).toNat) ∧ (PlaceOk c zb) ∧ (pd c zb = intG (-(kb : Int))) ∧ (c.ns.length ≤ q.ns.length + 1 + kb) ∧ (Pk 65 3 au W p a8 a9 ba mm c) ∧ (PIn w ((inP p L R B mm)) p a8 a9 ba mm) ∧ (PoolOk c) ∧ (PX aa c)) _ ⟨_, 0, dz, hq, hr, hs, aa, d0, (pS 52 (pS 51 (pS 6 (pS 4 (pS 3 (pU 0)))))), rfl, d3, Pin.le_refl _, Nat.zero_le _, hz0162p, (h0.trans rfl), (by omega), ht, hy, ch, (PX.refl _)⟩ ?_
  rintro nb _ nc ⟨a0, kb, zb, a8, a9, ba, c, au, rfl, nd, bb, h1, hkv, hzpl, hzpd, hnq, ci, cj, bc, ck⟩
  have ne := ck.len
  have nf : (c.ns.map Nd.l).length = c.ns.length ∧ (c.ns.map Nd.r).length = c.ns.length := ⟨List.length_map .., List.length_map ..⟩
  have ng : c.bs.length = c.ns.length ∧ c.ns.length ≤ 1048576 := ⟨bc.ar.ok.len, bc.ar.ok.lim⟩
  refine zB (zC ?_)
  refine qD rfl (yR rfl rfl) ?_
  refine qe (zA (zB ?_))
  refine zY (p := ((kb : Int) : Int) < (-t)) rfl rfl (fun h2 => ?_) (fun h2 => ?_)
  ·skip
   refine wp_skip ?_
   refine zA (zB ?_)
   refine zZ ?_
   refine zC ?_
   refine qM (.pointer (some ⟨p, 0, none⟩)) ?_
   refine qM (vJ zb) ?_
   refine qI rfl (yG (E := eInt) (e := 3) [(vJ zb)] [zb] Tryz.underlying65 sz3 zr3 (by exact xK (by rfl)) (yE (by rfl)) rfl rfl rfl rfl (by decide) bb.pins (fun cl h3 h4 d4 d5 h5 => ?_))
   have h6 := bb.step d4 d5
   have h7 := ci.below d5 d4
   have h8 := ci.new (x := cl.ownBlock) (fun k hk => by rw [h5] at hk; cases hk; exact Nat.le_refl _)
   have h9 : Own eInt 3 au h3 w.heap.size cl ([zb]) := h4.weaken bb.size
   obtain ⟨nh, d6, cm, ia, ib⟩ := h9.sealed h6
   have ic := h7.moreO d6 ib h8
   have ie := hzpd
   refine qI rfl (zH (vs := [(.pointer (some ⟨p, 0, none⟩)), (.slice none 0 0), cl]) Tryz.func79 nm79 rfl rfl rfl ?_)
   refine Calls.mono (qB cm.pins ic bc (xG _ _) ia (by omega) ⟨by simp, by simp⟩ nil_at (one_at hzpl)) ?_
   rintro _ ni ⟨d7, ig, ii, ij, af, ik, rfl, il, cn, d8, im, d9, io, ip, iq, nj⟩
   refine ⟨_, rfl, ?_⟩
   have ir := cm.trans d9 cj
   have it := PIn.call cj im cm.size
   have nk := d8.len
   have nl : (af.ns.map Nd.l).length = af.ns.length ∧ (af.ns.map Nd.r).length = af.ns.length := ⟨List.length_map .., List.length_map ..⟩
   have nm : af.bs.length = af.ns.length ∧ af.ns.length ≤ 1048576 := ⟨cn.ar.ok.len, cn.ar.ok.lim⟩
   have ea := ip.trans (show _ = mkG [] [pd c zb] from rfl)
   rw [ie] at ea
   have nn := iq
   refine qM (vJ d7) ?_
   refine qe ?_
   refine yL ?_
   refine zA (zC ?_)
   refine qD rfl (yQ rfl rfl (by omega)) ?_
   refine qM (vJ ((kb : Int) + 1)) ?_
   refine qe ?_
   refine yN ?_
   refine ⟨_, ?_, _, rfl, _, kb + 1, d7, ig, ii, ij, af, ik, (pS 52 (pS 51 (pS 6 (pS 4 (pS 3 (pU 0)))))), rfl, ir, (Pin.le_trans (Pin.le_trans h1 d6) d9.le), (by omega), io, (ea.trans (int_prev kb).symm), (by omega), il, it, cn, (PX.trans ck d8)⟩
   omega
  refine wp_exit ?_
  refine yB ?_
  refine yO ?_
  refine yM ?_
  refine zA (zB (zC ?_))
  refine qM (vJ zb) ?_
  refine qM (vJ zb) ?_
  refine qe (zA ?_)
  refine wp_ret ?_
  refine zO ?_
  refine zP (v := (vJ zb)) rfl rfl rfl ?_
  have hzz := hzpd
  have hntm := qJ dp
  exact ⟨_, a8, a9, ba, c, au, rfl, ci, bc, (PX.trans d1 ck), PIn.lo cj rfl, bb, hzpl, (hzz.trans (by rw [az, show (-(kb : Int)) = t by omega]; rfl)), (by omega)⟩
 refine qW ?_
 refine qW ?_
 refine qW ?_
 refine qD rfl (yI (v := (.bool false)) rfl rfl) ?_
 refine qM (.bool false) ?_
 refine qe (zA ?_)
 refine qO rfl rfl ?_
 refine zB (zC ?_)
 refine qD rfl (zL (k := 1) rfl Tryz.underlying34 rfl nz3 rfl) ?_
 refine qD rfl (zM (u := (vJ (dp : Int))) ag3 rfl (a.pins _ _ _ (f 1 _ rfl))) ?_
 refine qD rfl (r_eql rfl rfl) ?_
 refine qM (.bool (decide (((dp : Int) : Int) = 0))) ?_
 refine qbd (p := ((dp : Int) : Int) = 0) (t := 26) rfl (fun h => absurd h ay) (fun _ => ?_)
 refine qW ?_
 refine qW ?_
 refine qW ?_
 refine qD rfl (yI (v := (.bool false)) rfl rfl) ?_
 refine qM (.bool false) ?_
 refine qe (zA ?_)
 refine qO rfl rfl ?_
 refine zB (zC ?_)
 refine qD rfl (zL (k := 1) rfl Tryz.underlying34 rfl nz3 rfl) ?_
 refine qD rfl (zM (u := (vJ (dp : Int))) ag3 rfl (a.pins _ _ _ (f 1 _ rfl))) ?_
 refine qD rfl (r_eql rfl rfl) ?_
 refine qM (.bool (decide (((dp : Int) : Int) = 0))) ?_
 refine qe (zA ?_)
 refine zY (p := ((dp : Int) : Int) = 0) rfl rfl (fun h => absurd h ay) (fun _ => ?_)
 refine wp_skip ?_
 refine yL ?_
 refine zA (zB (zC ?_))
 have bd : 1 ≤ dp := by omega
 have hpw := hn.pow
 have htp := hn.top
 have eb := hn.kid bd (s := t - 1) (Or.inl rfl)
 have co := hn.kid bd (s := t + 1) (Or.inr rfl)
 have iu := eb.1.good
 have iv := co.1.good
 have hnt := numT_two bd (hn.odd.resolve_left (by omega))
 have hdk := dy_kids bd (hn.odd.resolve_left (by omega))
 refine qD rfl (zL (k := 0) rfl Tryz.underlying34 rfl nz3 rfl) ?_
 refine qD rfl (zM (u := (vJ t)) ag3 rfl (a.pins _ _ _ (f 0 _ rfl))) ?_
 refine qD rfl (r_sub rfl rfl (by omega)) ?_
 refine qD rfl (zL (k := 1) rfl Tryz.underlying34 rfl nz3 rfl) ?_
 refine qD rfl (zM (u := (vJ (dp : Int))) ag3 rfl (a.pins _ _ _ (f 1 _ rfl))) ?_
 refine qI rfl (zH (vs := [(vJ (t - 1)), (vJ (dp : Int))]) Tryz.func122 nm122 rfl rfl rfl ?_)
 refine Calls.mono (lowest_ok a.pins (by omega) (by omega) iu) ?_
 rintro _ no ⟨np, rfl, be⟩
 refine ⟨_, rfl, ?_⟩
 have cp := a.tr be
 have ec := a2.ext be
 refine qM (.tuple #[(.agg [(vJ ((lowD dp (t - 1)).1)), (vJ (((lowD dp (t - 1)).2 : Nat) : Int))].toArray), (.bool true)]) ?_
 refine qD rfl (zT (v := (.agg [(vJ ((lowD dp (t - 1)).1)), (vJ (((lowD dp (t - 1)).2 : Nat) : Int))].toArray)) rfl rfl) ?_
 refine qD rfl (zT (v := (.bool true)) rfl rfl) ?_
 refine qI rfl (yJ [(vJ 0), (vJ 0)] zr34 rfl cp.pins (fun ed nq iw ix ee ef => ?_))
 have eg := cp.step ee ef
 have iy := ec.below ef ee
 have eh := ec.new (x := (some ed)) (fun k hk => by rw [(congrArg some iw)] at hk; cases hk; exact Nat.le_refl _)
 have ei : w.heap.size ≤ ed := by have := cp.size; omega
 refine q0 rfl rfl rfl (yP (cs' := [(vJ ((lowD dp (t - 1)).1)), (vJ (((lowD dp (t - 1)).2 : Nat) : Int))]) (us := [(vJ ((lowD dp (t - 1)).1)), (vJ (((lowD dp (t - 1)).2 : Nat) : Int))]) (v := (.agg [(vJ ((lowD dp (t - 1)).1)), (vJ (((lowD dp (t - 1)).2 : Nat) : Int))].toArray)) sz34 rfl rfl rfl (qH (by rfl) (by rfl)) eg.pins ix (Nat.le_of_ble_eq_true rfl) rfl (fun nr iz ej ek nt => ?_))
 have i0 := eg.write ej ek ((zX ei))
 have i1 := iy.kept ek ej eh
 obtain ⟨nu, cq, bf, i2, i3⟩ := iz.shut i0 ei
 have i4 := i1.more cq i3 eh
 refine qM (.bool true) ?_
 refine qe (zA (zB (zC ?_)))
 refine qD rfl (zL (k := 0) rfl Tryz.underlying34 rfl nz3 rfl) ?_
 refine qD rfl (zM (u := (vJ t)) ag3 rfl ((Pins.of_le bf.pins (Pin.le_trans be.le cq)) _ _ _ (f 0 _ rfl))) ?_
 refine qD rfl (yQ rfl rfl (by omega)) ?_
 refine qD rfl (zL (k := 1) rfl Tryz.underlying34 rfl nz3 rfl) ?_
 refine qD rfl (zM (u := (vJ (dp : Int))) ag3 rfl ((Pins.of_le bf.pins (Pin.le_trans be.le cq)) _ _ _ (f 1 _ rfl))) ?_
 refine qI rfl (zH (vs := [(vJ (t + 1)), (vJ (dp : Int))]) Tryz.func122 nm122 rfl rfl rfl ?_)
 refine Calls.mono (lowest_ok bf.pins (by omega) (by omega) iv) ?_
 rintro _ nv ⟨nw, rfl, cr⟩
 refine ⟨_, rfl, ?_⟩
 have ct := bf.tr cr
 have el := i4.ext cr
 refine qM (.tuple #[(.agg [(vJ ((lowD dp (t + 1)).1)), (vJ (((lowD dp (t + 1)).2 : Nat) : Int))].toArray), (.bool true)]) ?_
 refine qD rfl (zT (v := (.agg [(vJ ((lowD dp (t + 1)).1)), (vJ (((lowD dp (t + 1)).2 : Nat) : Int))].toArray)) rfl rfl) ?_
 refine qD rfl (zT (v := (.bool true)) rfl rfl) ?_
 refine qI rfl (yJ [(vJ 0), (vJ 0)] zr34 rfl ct.pins (fun em nx i5 i6 eo ep => ?_))
 have eq := ct.step eo ep
 have i7 := el.below ep eo
 have er := el.new (x := (some em)) (fun k hk => by rw [(congrArg some i5)] at hk; cases hk; exact Nat.le_refl _)
 have es : w.heap.size ≤ em := by have := ct.size; omega
 refine q0 rfl rfl rfl (yP (cs' := [(vJ ((lowD dp (t + 1)).1)), (vJ (((lowD dp (t + 1)).2 : Nat) : Int))]) (us := [(vJ ((lowD dp (t + 1)).1)), (vJ (((lowD dp (t + 1)).2 : Nat) : Int))]) (v := (.agg [(vJ ((lowD dp (t + 1)).1)), (vJ (((lowD dp (t + 1)).2 : Nat) : Int))].toArray)) sz34 rfl rfl rfl (qH (by rfl) (by rfl)) eq.pins i6 (Nat.le_of_ble_eq_true rfl) rfl (fun cu i8 et eu ny => ?_))
 have i9 := eq.write et eu ((zX es))
 have ja := i7.kept eu et er
 obtain ⟨jb, ev, ew, jc, jd⟩ := i8.shut i9 es
 have je := ja.more ev jd er
 refine qM (.bool true) ?_
 refine qe (zA (zB ?_))
 refine xF (S := fun wz => Pins jb wz) (last := 11) (by kernel_rfl) rfl ?_
 have cv : Below cu.heap.size cu cu.drew := (Below.refl _ _).drew
 have ex := ew.pins.below cv
 have ag := ew.step ex cv
 have jf := je.below cv ex
 refine dM 0 (.pointer (some ⟨p, 0, none⟩)) ag.pins ?_
 refine dM 1 (.pointer (some ⟨p, 0, none⟩)) ag.pins ?_
 refine dT (i := 2) rfl rfl (by kernel_rfl) (fun _ hS => yC (cs := [(vJ ((lowD dp (t - 1)).1)), (vJ (((lowD dp (t - 1)).2 : Nat) : Int))]) ag34 sz34 rfl (fun j u hj => (Pins.of_le hS (Pin.le_trans cr.le ev)) _ _ _ (i2 _ _ (by simpa using hj)))) ag.pins ?_
 refine dM 5 (.pointer (some ⟨p, 0, none⟩)) ag.pins ?_
 refine dT (i := 6) rfl rfl (by kernel_rfl) (fun _ hS => yC (cs := [(vJ ((lowD dp (t + 1)).1)), (vJ (((lowD dp (t + 1)).2 : Nat) : Int))]) ag34 sz34 rfl (fun j u hj => hS _ _ _ (jc _ _ (by simpa using hj)))) ag.pins ?_
 refine dO (i := 3) (zK (i := 3) rfl rfl rfl (zD rfl _) (zH (vs := [(.pointer (some ⟨p, 0, none⟩)), (.agg [(vJ ((lowD dp (t - 1)).1)), (vJ (((lowD dp (t - 1)).2 : Nat) : Int))].toArray)]) Tryz.func102 nm102 rfl rfl rfl ?_))
 refine Calls.mono (ih ag.pins jf hok eb.1 (by omega) (by omega)) ?_
 rintro _ nz ⟨g, n0, n1, n2, al, jg, rfl, cw, am, bg, jh, d, av, cx, n3⟩
 refine ⟨_, rfl, ?_⟩
 have an := ag.trans d hpin
 have bh := PIn.call hpin jh ag.size
 have n4 := bg.len
 have n5 : (al.ns.map Nd.l).length = al.ns.length ∧ (al.ns.map Nd.r).length = al.ns.length := ⟨List.length_map .., List.length_map ..⟩
 have n6 : al.bs.length = al.ns.length ∧ al.ns.length ≤ 1048576 := ⟨am.ar.ok.len, am.ar.ok.lim⟩
 refine ⟨fun _ => (Pins.of_le an.pins d.le), ?_⟩
 refine xS (i := 4) (j := 7) (by kernel_rfl) ?_ ?_
 ·skip
  refine (zK (i := 4) rfl rfl rfl (zD rfl _) (yG (E := eInt) (e := 3) [(vJ g)] [g] Tryz.underlying65 sz3 zr3 (by exact xK (by rfl)) (yE (by rfl)) rfl rfl rfl rfl (by decide) an.pins (fun bi ji jj ey ez jk => ?_)))
  have bj := an.step ey ez
  have jl := cw.below ez ey
  have e0 := cw.new (x := bi.ownBlock) (fun k hk => by rw [jk] at hk; cases hk; exact Nat.le_refl _)
  have e1 : Own eInt 3 jg ji w.heap.size bi ([g]) := jj.weaken an.size
  refine ⟨fun _ => (Pins.of_le bj.pins d.le), ?_⟩
  refine dO (i := 7) (zK (i := 7) rfl rfl rfl (zD rfl _) (zH (vs := [(.pointer (some ⟨p, 0, none⟩)), (.agg [(vJ ((lowD dp (t + 1)).1)), (vJ (((lowD dp (t + 1)).2 : Nat) : Int))].toArray)]) Tryz.func102 nm102 rfl rfl rfl ?_))
  refine Calls.mono (ih bj.pins jl am co.1 (by omega) (by omega)) ?_
  rintro _ n7 ⟨bk, n8, n9, oa, ac, jm, rfl, e2, bl, bm, e3, aw, jn, jo, ob⟩
  refine ⟨_, rfl, ?_⟩
  have bn := bj.trans aw bh
  have e4 := e1.extS aw e0
  have jp := NP.call e0 e3 (qQ e1)
  have e5 := PIn.call bh e3 bj.size
  have oc := bm.len
  have od : (ac.ns.map Nd.l).length = ac.ns.length ∧ (ac.ns.map Nd.r).length = ac.ns.length := ⟨List.length_map .., List.length_map ..⟩
  have oe : ac.bs.length = ac.ns.length ∧ ac.ns.length ≤ 1048576 := ⟨bl.ar.ok.len, bl.ar.ok.lim⟩
  refine ⟨fun _ => (Pins.of_le bn.pins (Pin.le_trans d.le aw.le)), ?_⟩
  refine dO (i := 8) (zK (i := 8) rfl rfl rfl (zD rfl _) (yG (E := eInt) (e := 3) [(vJ bk)] [bk] Tryz.underlying65 sz3 zr3 (by exact xK (by rfl)) (yE (by rfl)) rfl rfl rfl rfl (by decide) bn.pins (fun bo jq jr e6 cy e7 => ?_)))
  have e8 := bn.step e6 cy
  have js := e4.below cy
  have jt := e2.below cy e6
  have ju : Apart bo.ownBlock bi.ownBlock := zG e7 e4.lt
  have jv := e2.new (x := bo.ownBlock) (fun k hk => by rw [e7] at hk; cases hk; exact Nat.le_refl _)
  have jw : Own eInt 3 jm jq w.heap.size bo ([bk]) := jr.weaken bn.size
  refine ⟨fun _ => (Pins.of_le e8.pins (Pin.le_trans d.le aw.le)), ?_⟩
  obtain ⟨og, bp, jx, jy, e9⟩ := js.sealed e8
  have jz := jw.moreO bp e9 ju
  have j0 := jt.moreO bp e9 jp
  obtain ⟨oh, bq, cz, j1, j2⟩ := jz.sealed jx
  have j3 := j0.moreO bq j2 jv
  have j4 := ((bm.pd am bl av).trans cx)
  have j5 := jo
  refine dO (i := 9) (zK (i := 9) rfl rfl rfl (zD rfl _) (zH (vs := [(.pointer (some ⟨p, 0, none⟩)), bi, bo]) Tryz.func79 nm79 rfl rfl rfl ?_))
  refine Calls.mono (qB cz.pins j3 bl (jy.mono bq) j1 (by omega) ⟨by simp, by simp⟩ (one_at (bm.place av)) (one_at jn)) ?_
  rintro _ oi ⟨fa, j6, j7, j8, ah, j9, rfl, kc, c0, fb, kd, c1, ke, kf, kg, oj⟩
  refine ⟨_, rfl, ?_⟩
  have c2 := cz.trans c1 e5
  have kh := PIn.call e5 kd cz.size
  have ol := fb.len
  have om : (ah.ns.map Nd.l).length = ah.ns.length ∧ (ah.ns.map Nd.r).length = ah.ns.length := ⟨List.length_map .., List.length_map ..⟩
  have oo : ah.bs.length = ah.ns.length ∧ ah.ns.length ≤ 1048576 := ⟨c0.ar.ok.len, c0.ar.ok.lim⟩
  have c3 := kf.trans (show _ = mkG [pd ac g] [pd ac bk] from rfl)
  rw [j4] at c3
  rw [j5] at c3
  have op := kg
  refine ⟨fun _ => (Pins.of_le c2.pins (Pin.le_trans (Pin.le_trans (Pin.le_trans (Pin.le_trans d.le aw.le) bp) bq) c1.le)), ?_⟩
  refine dM 10 (vJ fa) (Pins.of_le c2.pins (Pin.le_trans (Pin.le_trans (Pin.le_trans (Pin.le_trans d.le aw.le) bp) bq) c1.le)) ?_
  refine yH (by kernel_rfl) ?_
  refine zA ?_
  refine wp_ret ?_
  refine zO ?_
  refine zP (v := (vJ fa)) rfl rfl rfl ?_
  have hzz := c3
  have hntm := qJ dp
  exact ⟨_, j6, j7, j8, ah, j9, rfl, kc, c0, (PX.trans (PX.trans bg bm) fb), PIn.lo kh rfl, c2, ke, (hzz.trans hdk.symm), (by omega)⟩
 ·skip
  refine (zK (i := 7) rfl rfl rfl (zD rfl _) (zH (vs := [(.pointer (some ⟨p, 0, none⟩)), (.agg [(vJ ((lowD dp (t + 1)).1)), (vJ (((lowD dp (t + 1)).2 : Nat) : Int))].toArray)]) Tryz.func102 nm102 rfl rfl rfl ?_))
  refine Calls.mono (ih an.pins cw am co.1 (by omega) (by omega)) ?_
  rintro _ oq ⟨ai, os, ot, ou, o, br, rfl, bt, ax, ao, ki, ab, fc, fd, ov⟩
  refine ⟨_, rfl, ?_⟩
  have ap := an.trans ab bh
  have bu := PIn.call bh ki an.size
  have ow := ao.len
  have ox : (o.ns.map Nd.l).length = o.ns.length ∧ (o.ns.map Nd.r).length = o.ns.length := ⟨List.length_map .., List.length_map ..⟩
  have oy : o.bs.length = o.ns.length ∧ o.ns.length ≤ 1048576 := ⟨ax.ar.ok.len, ax.ar.ok.lim⟩
  refine ⟨fun _ => (Pins.of_le ap.pins (Pin.le_trans d.le ab.le)), ?_⟩
  refine xS (i := 4) (j := 8) (by kernel_rfl) ?_ ?_
  ·skip
   refine (zK (i := 4) rfl rfl rfl (zD rfl _) (yG (E := eInt) (e := 3) [(vJ g)] [g] Tryz.underlying65 sz3 zr3 (by exact xK (by rfl)) (yE (by rfl)) rfl rfl rfl rfl (by decide) ap.pins (fun bv kj kk fe ff kl => ?_)))
   have bw := ap.step fe ff
   have fg := bt.below ff fe
   have km := bt.new (x := bv.ownBlock) (fun k hk => by rw [kl] at hk; cases hk; exact Nat.le_refl _)
   have fh : Own eInt 3 br kj w.heap.size bv ([g]) := kk.weaken ap.size
   refine ⟨fun _ => (Pins.of_le bw.pins (Pin.le_trans d.le ab.le)), ?_⟩
   refine dO (i := 8) (zK (i := 8) rfl rfl rfl (zD rfl _) (yG (E := eInt) (e := 3) [(vJ ai)] [ai] Tryz.underlying65 sz3 zr3 (by exact xK (by rfl)) (yE (by rfl)) rfl rfl rfl rfl (by decide) bw.pins (fun bx kn ko fi c4 fj => ?_)))
   have fk := bw.step fi c4
   have kp := fh.below c4
   have kq := fg.below c4 fi
   have kr : Apart bx.ownBlock bv.ownBlock := zG fj fh.lt
   have ks := fg.new (x := bx.ownBlock) (fun k hk => by rw [fj] at hk; cases hk; exact Nat.le_refl _)
   have kt : Own eInt 3 br kn w.heap.size bx ([ai]) := ko.weaken bw.size
   refine ⟨fun _ => (Pins.of_le fk.pins (Pin.le_trans d.le ab.le)), ?_⟩
   obtain ⟨oz, bz, ku, kv, fl⟩ := kp.sealed fk
   have kw := kt.moreO bz fl kr
   have kx := kq.moreO bz fl km
   obtain ⟨o0, b0, c5, ky, kz⟩ := kw.sealed ku
   have k0 := kx.moreO b0 kz ks
   have k1 := ((ao.pd am ax av).trans cx)
   have k2 := fd
   refine dO (i := 9) (zK (i := 9) rfl rfl rfl (zD rfl _) (zH (vs := [(.pointer (some ⟨p, 0, none⟩)), bv, bx]) Tryz.func79 nm79 rfl rfl rfl ?_))
   refine Calls.mono (qB c5.pins k0 ax (kv.mono b0) ky (by omega) ⟨by simp, by simp⟩ (one_at (ao.place av)) (one_at fc)) ?_
   rintro _ o1 ⟨fm, k3, k4, k5, aj, k6, rfl, k7, c6, fn, k8, c7, k9, la, lb, o2⟩
   refine ⟨_, rfl, ?_⟩
   have c8 := c5.trans c7 bu
   have lc := PIn.call bu k8 c5.size
   have o3 := fn.len
   have o4 : (aj.ns.map Nd.l).length = aj.ns.length ∧ (aj.ns.map Nd.r).length = aj.ns.length := ⟨List.length_map .., List.length_map ..⟩
   have o5 : aj.bs.length = aj.ns.length ∧ aj.ns.length ≤ 1048576 := ⟨c6.ar.ok.len, c6.ar.ok.lim⟩
   have c9 := la.trans (show _ = mkG [pd o g] [pd o ai] from rfl)
   rw [k1] at c9
   rw [k2] at c9
   have o6 := lb
   refine ⟨fun _ => (Pins.of_le c8.pins (Pin.le_trans (Pin.le_trans (Pin.le_trans (Pin.le_trans d.le ab.le) bz) b0) c7.le)), ?_⟩
   refine dM 10 (vJ fm) (Pins.of_le c8.pins (Pin.le_trans (Pin.le_trans (Pin.le_trans (Pin.le_trans d.le ab.le) bz) b0) c7.le)) ?_
   refine yH (by kernel_rfl) ?_
   refine zA ?_
   refine wp_ret ?_
   refine zO ?_
   refine zP (v := (vJ fm)) rfl rfl rfl ?_
   have hzz := c9
   have hntm := qJ dp
   exact ⟨_, k3, k4, k5, aj, k6, rfl, k7, c6, (PX.trans (PX.trans bg ao) fn), PIn.lo lc rfl, c8, k9, (hzz.trans hdk.symm), (by omega)⟩
  ·skip
   refine (zK (i := 8) rfl rfl rfl (zD rfl _) (yG (E := eInt) (e := 3) [(vJ ai)] [ai] Tryz.underlying65 sz3 zr3 (by exact xK (by rfl)) (yE (by rfl)) rfl rfl rfl rfl (by decide) ap.pins (fun b1 ld lf fo fp lg => ?_)))
   have b2 := ap.step fo fp
   have fq := bt.below fp fo
   have lh := bt.new (x := b1.ownBlock) (fun k hk => by rw [lg] at hk; cases hk; exact Nat.le_refl _)
   have fr : Own eInt 3 br ld w.heap.size b1 ([ai]) := lf.weaken ap.size
   refine ⟨fun _ => (Pins.of_le b2.pins (Pin.le_trans d.le ab.le)), ?_⟩
   refine dO (i := 4) (zK (i := 4) rfl rfl rfl (zD rfl _) (yG (E := eInt) (e := 3) [(vJ g)] [g] Tryz.underlying65 sz3 zr3 (by exact xK (by rfl)) (yE (by rfl)) rfl rfl rfl rfl (by decide) b2.pins (fun b4 li lj fs da ft => ?_)))
   have fu := b2.step fs da
   have lk := fr.below da
   have ll := fq.below da fs
   have lm : Apart b4.ownBlock b1.ownBlock := zG ft fr.lt
   have ln := fq.new (x := b4.ownBlock) (fun k hk => by rw [ft] at hk; cases hk; exact Nat.le_refl _)
   have lp : Own eInt 3 br li w.heap.size b4 ([g]) := lj.weaken b2.size
   refine ⟨fun _ => (Pins.of_le fu.pins (Pin.le_trans d.le ab.le)), ?_⟩
   obtain ⟨o7, b5, lq, lr, fv⟩ := lp.sealed fu
   have ls := lk.moreO b5 fv lm.symm
   have lu := ll.moreO b5 fv ln
   obtain ⟨o8, b6, db, lv, lw⟩ := ls.sealed lq
   have lx := lu.moreO b6 lw lh
   have ly := ((ao.pd am ax av).trans cx)
   have lz := fd
   refine dO (i := 9) (zK (i := 9) rfl rfl rfl (zD rfl _) (zH (vs := [(.pointer (some ⟨p, 0, none⟩)), b4, b1]) Tryz.func79 nm79 rfl rfl rfl ?_))
   refine Calls.mono (qB db.pins lx ax (lr.mono b6) lv (by omega) ⟨by simp, by simp⟩ (one_at (ao.place av)) (one_at fc)) ?_
   rintro _ o9 ⟨fw, l0, l1, l2, ak, l3, rfl, l4, dc, fx, l5, dd, l6, l7, l8, pa⟩
   refine ⟨_, rfl, ?_⟩
   have de := db.trans dd bu
   have l9 := PIn.call bu l5 db.size
   have pb := fx.len
   have pc : (ak.ns.map Nd.l).length = ak.ns.length ∧ (ak.ns.map Nd.r).length = ak.ns.length := ⟨List.length_map .., List.length_map ..⟩
   have pe : ak.bs.length = ak.ns.length ∧ ak.ns.length ≤ 1048576 := ⟨dc.ar.ok.len, dc.ar.ok.lim⟩
   have df := l7.trans (show _ = mkG [pd o g] [pd o ai] from rfl)
   rw [ly] at df
   rw [lz] at df
   have pf := l8
   refine ⟨fun _ => (Pins.of_le de.pins (Pin.le_trans (Pin.le_trans (Pin.le_trans (Pin.le_trans d.le ab.le) b5) b6) dd.le)), ?_⟩
   refine dM 10 (vJ fw) (Pins.of_le de.pins (Pin.le_trans (Pin.le_trans (Pin.le_trans (Pin.le_trans d.le ab.le) b5) b6) dd.le)) ?_
   refine yH (by kernel_rfl) ?_
   refine zA ?_
   refine wp_ret ?_
   refine zO ?_
   refine zP (v := (vJ fw)) rfl rfl rfl ?_
   have hzz := df
   have hntm := qJ dp
   exact ⟨_, l0, l1, l2, ak, l3, rfl, l4, dc, (PX.trans (PX.trans bg ao) fx), PIn.lo l9 rfl, de, l6, (hzz.trans hdk.symm), (by omega)⟩

theorem num_all {p : Nat} {mm : PM} : ∀ m, NumP m p mm
 | 0 => fun _ _ _ _ _ h => absurd h (Nat.not_lt_zero _)
 | m + 1 => fun hP hpk hok hn hl hm => number_step hP hpk hok hn hl (num_all m) hm
theorem number_spec {w : World} {G : Pin} {L R B : Value} {q : PSt} {t : Int} {dp p : Nat} {mm : PM} (hP : Pins G w) (hpk : Pk 65 3 G w p L R B mm q) (hok : PoolOk q) (hn : NumOk dp t) (hl : q.ns.length + numT dp ≤ 1048575) :
  Calls Tryz.prog 102 [(.pointer (some ⟨p, 0, none⟩)), (.agg [.int .i64 t, .int .i64 (dp : Int)].toArray)].toArray w fun e w' => ∃ (z : Int) (L' R' B' : Value) (q' : PSt) (G' : Pin), e = .returned (.int .i64 z) ∧ Pk 65 3 G' w' p L' R' B' mm q' ∧ PoolOk q' ∧ PX q q' ∧ PLo w p L R B mm L' R' B' ∧ Ext (inP p L R B mm) G w G' w' ∧ PlaceOk q' z ∧ pd q' z = dyG dp t ∧ q'.ns.length ≤ q.ns.length + numT dp :=
 num_all _ hP hpk hok hn hl (Nat.lt_succ_self _)

end NB1
end Go.Proofs.YtfnginkcmcfdfaaGreatDoor

set_option maxRecDepth 20000
set_option maxHeartbeats 2000000
namespace Go.Proofs.YtfnginkcmcfdfaaGreatDoor
namespace NB2
open Go.RowKit Go.GL Go.Proofs
open Go.Proofs.YtfnginkcmcfdfaaGreatDoor.B1
open Go.Proofs.YtfnginkcmcfdfaaGreatDoor.K1
open Go.Proofs.YtfnginkcmcfdfaaGreatDoor.PO1
open Go.Proofs.YtfnginkcmcfdfaaGreatDoor.PL1
open Go.Proofs.YtfnginkcmcfdfaaGreatDoor.PA1
open Go.Proofs.YtfnginkcmcfdfaaGreatDoor.NU1
open Go.Proofs.YtfnginkcmcfdfaaGreatDoor.NU2
open Go.Proofs.YtfnginkcmcfdfaaGreatDoor.NB1









theorem number_zspec {w : World} {G : Pin} {L R B : Value} {q : PSt} {t z : Int} {p : Nat} {mm : PM} (hP : Pins G w) (hpk : Pk 65 3 G w p L R B mm q) (hok : PoolOk q) (hz : 0 ≤ z) (hn : NumOk z.toNat t) (hl : q.ns.length + numT z.toNat ≤ 1048575) :
  Calls Tryz.prog 102 [(.pointer (some ⟨p, 0, none⟩)), (.agg [.int .i64 t, .int .i64 z].toArray)].toArray w fun e w' => ∃ (y : Int) (L' R' B' : Value) (q' : PSt) (G' : Pin), e = .returned (.int .i64 y) ∧ Pk 65 3 G' w' p L' R' B' mm q' ∧ PoolOk q' ∧ PX q q' ∧ PLo w p L R B mm L' R' B' ∧ Ext (inP p L R B mm) G w G' w' ∧ PlaceOk q' y ∧ pd q' y = dyG z.toNat t ∧ q'.ns.length ≤ q.ns.length + numT z.toNat := by
 obtain ⟨dp, rfl⟩ : ∃ dp : Nat, z = (dp : Int) := ⟨z.toNat, by omega⟩
 simp only [Int.toNat_natCast] at hn hl ⊢
 exact number_spec hP hpk hok hn hl

theorem numbered_spec {w : World} {G : Pin} {L R B : Value} {q : PSt} {t z : Int} {p : Nat} {mm : PM} (hP : Pins G w) (hpk : Pk 65 3 G w p L R B mm q) (hok : PoolOk q) (hl : q.ns.length ≤ 700000) :
  Calls Tryz.prog 52 [(.pointer (some ⟨p, 0, none⟩)), (.agg [(vJ t), (vJ z)].toArray)].toArray w fun e w' => ∃ (y : Int) (L' R' B' : Value) (q' : PSt) (G' : Pin), e = .returned (.tuple #[.int .i64 y, .bool (nmB t z)]) ∧ Pk 65 3 G' w' p L' R' B' mm q' ∧ PoolOk q' ∧ PX q q' ∧ PLo w p L R B mm L' R' B' ∧ Ext (inP p L R B mm) G w G' w' ∧ (nmB t z = true → PlaceOk q' y ∧ pd q' y = dyG z.toNat t) ∧ q'.ns.length ≤ q.ns.length + 315247 := by
 refine zV (n := 32) Tryz.func52 Tryz.ntmps52 rfl rfl ?_
 have m : Ext (inP p L R B mm) G w G w := Ext.refl hP
 have hpin : PIn w (inP p L R B mm) p L R B mm := PIn.self
 have bw : (q.ns.map Nd.l).length = q.ns.length ∧ (q.ns.map Nd.r).length = q.ns.length := ⟨List.length_map .., List.length_map ..⟩
 have bx : q.bs.length = q.ns.length ∧ q.ns.length ≤ 1048576 := ⟨hok.ar.ok.len, hok.ar.ok.lim⟩
 refine zB (zC ?_)
 refine qI rfl (xI [(vJ t), (vJ z)] (v := (.agg [(vJ t), (vJ z)].toArray)) rfl rfl m.pins (fun b3 w4 az a0 aj ak => ?_))
 have a1 := m.step aj ak
 have a2 := hpk.below ak aj
 have a3 := hpk.new (x := (some b3)) (fun k hk => by rw [(congrArg some az)] at hk; cases hk; exact Nat.le_refl _)
 have a4 : w.heap.size ≤ b3 := by have := m.size; omega
 obtain ⟨b0, a5, o, f, a6⟩ := a0.shut a1 a4
 have a7 := a2.more a5 a6 a3
 refine qM (vJ 0) ?_
 refine qM (.bool false) ?_
 refine qe (zA (zB (zB (zC ?_))))
 refine qD rfl (yC (cs := [(vJ t), (vJ z)]) ag34 sz34 rfl (fun j u hj => o.pins _ _ _ (f _ _ (by simpa using hj)))) ?_
 refine qI rfl (zH (vs := [(.agg [(vJ t), (vJ z)].toArray)]) Tryz.func101 nm101 rfl rfl rfl ?_)
 refine Calls.mono (xW (t := t) (z := z) o.pins) ?_
 rintro _ b1 ⟨al, rfl, d⟩
 refine ⟨_, rfl, ?_⟩
 have a := o.tr d
 have s := a7.ext d
 refine qD rfl (qF rfl) ?_
 refine qM (.bool (!(decP (GoodD t z)))) ?_
 refine qbn (t := 10) rfl (fun aa => ?_) (fun aa => ?_)
 ·skip
  have hgd : GoodD t z := decP_true.1 aa
  have hgt := hgd.top
  have hgp := hgd.pow
  have hms := max_shrz (t := t) hgp
  refine qN (zL (k := 0) rfl Tryz.underlying34 rfl nz3 rfl) ?_
  refine qN (zM (u := (vJ t)) ag3 rfl ((Pins.of_le a.pins d.le) _ _ _ (f 0 _ rfl))) ?_
  refine qN (zL (k := 0) rfl Tryz.underlying34 rfl nz3 rfl) ?_
  refine qN (zM (u := (vJ t)) ag3 rfl ((Pins.of_le a.pins d.le) _ _ _ (f 0 _ rfl))) ?_
  refine qN (r_neg rfl (by omega)) ?_
  refine qN (r_max rfl rfl) ?_
  refine qN (zL (k := 1) rfl Tryz.underlying34 rfl nz3 rfl) ?_
  refine qN (zM (u := (vJ z)) ag3 rfl ((Pins.of_le a.pins d.le) _ _ _ (f 1 _ rfl))) ?_
  refine qN (r_shrI rfl rfl (by omega)) ?_
  refine qN (r_geq rfl rfl) ?_
  refine qD rfl (yI (v := (.bool (decide ((120 : Int) ≤ (Int.fdiv (max t (-t)) (2 ^ (min (z : Int).toNat 64))))))) rfl rfl) ?_
  refine qe (zA ?_)
  refine zY (p := (120 : Int) ≤ (Int.fdiv (max t (-t)) (2 ^ (min (z : Int).toNat 64)))) rfl rfl (fun ab => ?_) (fun ab => ?_)
  ·skip
   refine zB (zC ?_)
   refine qM (vJ 0) ?_
   refine qM (.bool false) ?_
   refine qe (zA ?_)
   refine wp_ret ?_
   refine zO ?_
   refine c_ret2 (v := (vJ 0)) (u := (.bool false)) rfl rfl rfl rfl rfl ?_
   have hbl : ¬ t.natAbs / 2 ^ z.toNat < 120 := by have h9 := ab; rw [hms] at h9; omega
   obtain ⟨g, e2⟩ := nmz_no (t := t) (z := z) (num_late (born_late hbl)).2
   exact ⟨_, L, R, B, q, al, by rw [g], s, hok, (PX.refl _), PIn.lo hpin rfl, a, (fun h => by rw [g] at h; cases h), (by omega)⟩
  refine wp_skip ?_
  refine zA (zB (zC ?_))
  have hbl : t.natAbs / 2 ^ z.toNat < 120 := by have h9 := ab; rw [hms] at h9; omega
  have hno := good_num hgd.nat hbl
  have hnmx := numT_max hno.pow
  refine qM (.pointer (some ⟨p, 0, none⟩)) ?_
  refine qD rfl (yC (cs := [(vJ t), (vJ z)]) ag34 sz34 rfl (fun j u hj => (Pins.of_le a.pins d.le) _ _ _ (f _ _ (by simpa using hj)))) ?_
  refine qI rfl (zH (vs := [(.pointer (some ⟨p, 0, none⟩)), (.agg [(vJ t), (vJ z)].toArray)]) Tryz.func102 nm102 rfl rfl rfl ?_)
  refine Calls.mono (number_zspec a.pins s hok hgp.1 hno (by omega)) ?_
  rintro _ b2 ⟨b, a9, ba, bb, c, bc, rfl, am, i, an, bd, be, ad, ao, b4⟩
  refine ⟨_, rfl, ?_⟩
  have ae := a.trans be hpin
  have bf := PIn.call hpin bd a.size
  have b5 := an.len
  have b6 : (c.ns.map Nd.l).length = c.ns.length ∧ (c.ns.map Nd.r).length = c.ns.length := ⟨List.length_map .., List.length_map ..⟩
  have b7 : c.bs.length = c.ns.length ∧ c.ns.length ≤ 1048576 := ⟨i.ar.ok.len, i.ar.ok.lim⟩
  refine qM (vJ b) ?_
  refine qe (zA (zB (zC ?_)))
  refine qM (vJ b) ?_
  refine qM (.pointer (some ⟨p, 0, none⟩)) ?_
  refine qM (vJ b) ?_
  refine qI rfl (yG (E := eInt) (e := 3) [(vJ b)] [b] Tryz.underlying65 sz3 zr3 (by exact xK (by rfl)) (yE (by rfl)) rfl rfl rfl rfl (by decide) ae.pins (fun af bg bh ap aq bi => ?_))
  have bj := ae.step ap aq
  have bk := am.below aq ap
  have bl := am.new (x := af.ownBlock) (fun k hk => by rw [bi] at hk; cases hk; exact Nat.le_refl _)
  have bm : Own eInt 3 bc bg w.heap.size af ([b]) := bh.weaken ae.size
  obtain ⟨b8, bn, ag, bo, bp⟩ := bm.sealed bj
  have au := bk.moreO bn bp bl
  refine qI rfl (zH (vs := [(.pointer (some ⟨p, 0, none⟩)), af]) Tryz.func103 nm103 rfl rfl rfl ?_)
  refine Calls.mono (parts_spec ag.pins au i bo (place_one ad) (by simp)) ?_
  rintro _ bq ⟨av, ah, aw, rfl, br, ax, ay⟩
  refine ⟨_, rfl, ?_⟩
  have bt := ag.tr ay
  have bu := au.ext ay
  have bv : Own eInt 3 aw bq w.heap.size av ah := br.weaken ag.size
  have b9 := ax.len
  refine qD rfl (zS Tryz.underlying65 (v := av) rfl bv.read) ?_
  refine qD rfl (r_leq rfl rfl) ?_
  refine qM (vJ b) ?_
  refine qM (.bool (decide (((ah.length : Int) : Int) ≤ 120))) ?_
  refine qe (zA ?_)
  refine wp_ret ?_
  refine zO ?_
  refine c_ret2 (v := (vJ b)) (u := (.bool (decide (((ah.length : Int) : Int) ≤ 120)))) rfl rfl rfl rfl rfl ?_
  have hnm := nm_parts i ad ax ao hgd
  exact ⟨_, a9, ba, bb, c, aw, by rw [hnm], bu, i, an, PIn.lo bf rfl, bt, (fun _ => ⟨ad, ao⟩), (by omega)⟩
 refine qW ?_
 refine qW ?_
 refine qW ?_
 refine qW ?_
 refine qW ?_
 refine qW ?_
 refine qW ?_
 refine qW ?_
 refine qW ?_
 refine qW ?_
 refine qD rfl (yW (v := (.bool true)) rfl rfl) ?_
 refine qe (zA ?_)
 refine c_ifT rfl rfl ?_
 refine zB (zC ?_)
 refine qM (vJ 0) ?_
 refine qM (.bool false) ?_
 refine qe (zA ?_)
 refine wp_ret ?_
 refine zO ?_
 refine c_ret2 (v := (vJ 0)) (u := (.bool false)) rfl rfl rfl rfl rfl ?_
 obtain ⟨g, e2⟩ := nm_bad (t := t) (z := z) (decP_false.1 aa)
 exact ⟨_, L, R, B, q, al, by rw [g], s, hok, (PX.refl _), PIn.lo hpin rfl, a, (fun h => by rw [g] at h; cases h), (by omega)⟩

end NB2
end Go.Proofs.YtfnginkcmcfdfaaGreatDoor

set_option maxRecDepth 20000
set_option maxHeartbeats 2000000
namespace Go.Proofs.YtfnginkcmcfdfaaGreatDoor
namespace VA2
open Go.RowKit Go.GL Go.Proofs
open Go.Proofs.YtfnginkcmcfdfaaGreatDoor.B1
open Go.Proofs.YtfnginkcmcfdfaaGreatDoor.NU1
open Go.Proofs.YtfnginkcmcfdfaaGreatDoor.NU2


theorem scaled_spec {w : World} {G : Pin} {t z : Int} (hP : Pins G w) (ht : -10000000 ≤ t ∧ t ≤ 10000000) (hz : 0 ≤ z ∧ z ≤ 16) :
  Calls Tryz.prog 123 [(.agg [(.int .i64 t), (.int .i64 z)].toArray)].toArray w fun e w' => ∃ G', e = .returned (.int .i64 (scI 16 t z)) ∧ Ext noS G w G' w' := by
 refine zV (n := 9) Tryz.func123 Tryz.ntmps123 rfl rfl ?_
 have a : Ext noS G w G w := Ext.refl hP
 have hsl := shl_lim (t := t) (k := (16 - z).toNat) ht (by omega)
 refine zB (zC ?_)
 refine qI rfl (xI [(.int .i64 t), (.int .i64 z)] (v := (.agg [(.int .i64 t), (.int .i64 z)].toArray)) rfl rfl a.pins (fun d l m f g h => ?_))
 have i := a.step g h
 have j : w.heap.size ≤ d := by have := a.size; omega
 obtain ⟨o, p, b, c, q⟩ := f.shut i j
 refine qM (.int .i64 0) ?_
 refine qe (zA (zB (zC ?_)))
 refine qD rfl (zL (k := 0) rfl Tryz.underlying34 rfl nz3 rfl) ?_
 refine qD rfl (zM (u := (.int .i64 t)) ag3 rfl (b.pins _ _ _ (c 0 _ rfl))) ?_
 refine qD rfl (zL (k := 1) rfl Tryz.underlying34 rfl nz3 rfl) ?_
 refine qD rfl (zM (u := (.int .i64 z)) ag3 rfl (b.pins _ _ _ (c 1 _ rfl))) ?_
 refine qD rfl (r_sub rfl rfl (by omega)) ?_
 refine qD rfl (r_shlI rfl rfl (by omega) (by omega)) ?_
 refine qM (.int .i64 (t * 2 ^ (16 - z : Int).toNat)) ?_
 refine qe (zA ?_)
 refine wp_ret ?_
 refine zO ?_
 refine zP (v := (.int .i64 (t * 2 ^ (16 - z : Int).toNat))) rfl rfl rfl ?_
 exact ⟨_, rfl, b⟩

end VA2
end Go.Proofs.YtfnginkcmcfdfaaGreatDoor

set_option maxRecDepth 20000
set_option maxHeartbeats 2000000
namespace Go.Proofs.YtfnginkcmcfdfaaGreatDoor
namespace SW1
open Go.RowKit Go.GL Go.Proofs
open Go.Proofs.YtfnginkcmcfdfaaGreatDoor.B1
open Go.Proofs.YtfnginkcmcfdfaaGreatDoor.NU1
open Go.Proofs.YtfnginkcmcfdfaaGreatDoor.VA2





theorem compareDyadic_spec {w : World} {G : Pin} {t z s y : Int} (hP : Pins G w) :
  Calls Tryz.prog 78 [(.agg [(vJ t), (vJ z)].toArray), (.agg [(vJ s), (vJ y)].toArray)].toArray w fun e w' => ∃ G', e = .returned (.tuple #[.int .i64 (cdI t z s y), .bool (cdB t z s y)]) ∧ Ext noS G w G' w' := by
 refine zV (n := 19) Tryz.func78 Tryz.ntmps78 rfl rfl ?_
 have m : Ext noS G w G w := Ext.refl hP
 refine zB (zC ?_)
 refine qI rfl (xI [(vJ t), (vJ z)] (v := (.agg [(vJ t), (vJ z)].toArray)) rfl rfl m.pins (fun b1 w2 a0 ak al am => ?_))
 have an := m.step al am
 have ao : w.heap.size ≤ b1 := by have := m.size; omega
 obtain ⟨G9, a2, o, af, a3⟩ := ak.shut an ao
 refine qI rfl (xI [(vJ s), (vJ y)] (v := (.agg [(vJ s), (vJ y)].toArray)) rfl rfl o.pins (fun ap a4 a5 aq ar au => ?_))
 have av := o.step ar au
 have aw : w.heap.size ≤ ap := by have := o.size; omega
 obtain ⟨a6, ag, p, ah, a7⟩ := aq.shut av aw
 refine qM (vJ 0) ?_
 refine qM (.bool false) ?_
 refine qe (zA (zB (zB (zC ?_))))
 refine qD rfl (yC (cs := [(vJ t), (vJ z)]) ag34 sz34 rfl (fun j u hj => (Pins.of_le p.pins ag) _ _ _ (af _ _ (by simpa using hj)))) ?_
 refine qI rfl (zH (vs := [(.agg [(vJ t), (vJ z)].toArray)]) Tryz.func101 nm101 rfl rfl rfl ?_)
 refine Calls.mono (xW (t := t) (z := z) p.pins) ?_
 rintro _ a8 ⟨a9, rfl, h⟩
 refine ⟨_, rfl, ?_⟩
 have k := p.tr h
 refine qD rfl (qF rfl) ?_
 refine qM (.bool (!(decP (GoodD t z)))) ?_
 refine qbn (t := 9) rfl (fun q => ?_) (fun q => ?_)
 ·skip
  refine qN (yC (cs := [(vJ s), (vJ y)]) ag34 sz34 rfl (fun j u hj => (Pins.of_le k.pins h.le) _ _ _ (ah _ _ (by simpa using hj)))) ?_
  refine q1g rfl rfl rfl rfl rfl rfl (zH (vs := [(.agg [(vJ s), (vJ y)].toArray)]) Tryz.func101 nm101 rfl rfl rfl ?_)
  refine Calls.mono (xW (t := s) (z := y) k.pins) ?_
  rintro _ r ⟨ax, rfl, x⟩
  refine ⟨_, rfl, ?_⟩
  have aa := k.tr x
  refine qN (qF rfl) ?_
  refine qD rfl (yI (v := (.bool (!(decP (GoodD s y))))) rfl rfl) ?_
  refine qe (zA ?_)
  refine c_ifn rfl rfl (fun ab => ?_) (fun ab => ?_)
  ·skip
   refine wp_skip ?_
   refine zA (zB ?_)
   have ac : GoodD t z := decP_true.1 q
   have ad : GoodD s y := decP_true.1 ab
   have h1t := ac.top
   have h1p := ac.pow
   have h2t := ad.top
   have h2p := ad.pow
   refine xF (S := fun wz => Pins ax wz) (last := 7) (by kernel_rfl) rfl ?_
   have ai : Below r.heap.size r r.drew := (Below.refl _ _).drew
   have ay := aa.pins.below ai
   have l := aa.step ay ai
   refine dT (i := 0) rfl rfl (by kernel_rfl) (fun _ hS => yC (cs := [(vJ t), (vJ z)]) ag34 sz34 rfl (fun j u hj => (Pins.of_le hS (Pin.le_trans (Pin.le_trans ag h.le) x.le)) _ _ _ (af _ _ (by simpa using hj)))) l.pins ?_
   refine dT (i := 2) rfl rfl (by kernel_rfl) (fun _ hS => yC (cs := [(vJ s), (vJ y)]) ag34 sz34 rfl (fun j u hj => (Pins.of_le hS (Pin.le_trans h.le x.le)) _ _ _ (ah _ _ (by simpa using hj)))) l.pins ?_
   refine dO (i := 1) (zK (i := 1) rfl rfl rfl (zD rfl _) (zH (vs := [(.agg [(vJ t), (vJ z)].toArray)]) Tryz.func123 nm123 rfl rfl rfl ?_))
   refine Calls.mono (scaled_spec (t := t) (z := z) l.pins (by omega) (by omega)) ?_
   rintro _ ba ⟨bb, rfl, a⟩
   refine ⟨_, rfl, ?_⟩
   have ae := l.tr a
   refine ⟨fun _ => (Pins.of_le ae.pins a.le), ?_⟩
   refine dO (i := 3) (zK (i := 3) rfl rfl rfl (zD rfl _) (zH (vs := [(.agg [(vJ s), (vJ y)].toArray)]) Tryz.func123 nm123 rfl rfl rfl ?_))
   refine Calls.mono (scaled_spec (t := s) (z := y) ae.pins (by omega) (by omega)) ?_
   rintro _ bc ⟨bd, rfl, c⟩
   refine ⟨_, rfl, ?_⟩
   have b := ae.tr c
   refine ⟨fun _ => (Pins.of_le b.pins (Pin.le_trans a.le c.le)), ?_⟩
   refine dO (i := 4) (zK (i := 4) rfl rfl rfl (zD rfl _) (zH (vs := [(vJ (scI 16 t z)), (vJ (scI 16 s y))]) Tryz.func97 nm97 rfl rfl rfl ?_))
   refine Calls.mono (cmpCompare_spec b.pins) ?_
   rintro _ _ ⟨rfl, rfl⟩
   refine ⟨_, rfl, ?_⟩
   refine ⟨fun _ => (Pins.of_le b.pins (Pin.le_trans a.le c.le)), ?_⟩
   refine dM 5 (vJ (cmpI (scI 16 t z) (scI 16 s y))) (Pins.of_le b.pins (Pin.le_trans a.le c.le)) ?_
   refine dM 6 (.bool true) (Pins.of_le b.pins (Pin.le_trans a.le c.le)) ?_
   refine yH (by kernel_rfl) ?_
   refine zA ?_
   refine wp_ret ?_
   refine zO ?_
   refine c_ret2 (v := (vJ (cmpI (scI 16 t z) (scI 16 s y)))) (u := (.bool true)) rfl rfl rfl rfl rfl ?_
   obtain ⟨d, f⟩ := cd_yes ac ad
   rw [d, f]
   exact ⟨_, rfl, b⟩
  refine zB (zC ?_)
  refine qM (vJ 0) ?_
  refine qM (.bool false) ?_
  refine qe (zA ?_)
  refine wp_ret ?_
  refine zO ?_
  refine c_ret2 (v := (vJ 0)) (u := (.bool false)) rfl rfl rfl rfl rfl ?_
  obtain ⟨d, f⟩ := cd_no (t := t) (z := z) (s := s) (y := y) (fun g => decP_false.1 ab g.2)
  rw [d, f]
  exact ⟨_, rfl, aa⟩
 refine qW ?_
 refine qW ?_
 refine qW ?_
 refine qD rfl (yW (v := (.bool true)) rfl rfl) ?_
 refine qe (zA ?_)
 refine c_ifT rfl rfl ?_
 refine zB (zC ?_)
 refine qM (vJ 0) ?_
 refine qM (.bool false) ?_
 refine qe (zA ?_)
 refine wp_ret ?_
 refine zO ?_
 refine c_ret2 (v := (vJ 0)) (u := (.bool false)) rfl rfl rfl rfl rfl ?_
 obtain ⟨d, f⟩ := cd_no (t := t) (z := z) (s := s) (y := y) (fun g => decP_false.1 q g.1)
 rw [d, f]
 exact ⟨_, rfl, k⟩

end SW1
end Go.Proofs.YtfnginkcmcfdfaaGreatDoor

set_option maxRecDepth 20000
set_option maxHeartbeats 2000000
namespace Go.Proofs.YtfnginkcmcfdfaaGreatDoor
namespace SW3
open Go.RowKit Go.GL Go.Proofs
open Go.Proofs.YtfnginkcmcfdfaaGreatDoor.B1
open Go.Proofs.YtfnginkcmcfdfaaGreatDoor.K1
open Go.Proofs.YtfnginkcmcfdfaaGreatDoor.PO1
open Go.Proofs.YtfnginkcmcfdfaaGreatDoor.PL1
open Go.Proofs.YtfnginkcmcfdfaaGreatDoor.PA1
open Go.Proofs.YtfnginkcmcfdfaaGreatDoor.SO1
open Go.Proofs.YtfnginkcmcfdfaaGreatDoor.OD1
open Go.Proofs.YtfnginkcmcfdfaaGreatDoor.FO1
open Go.Proofs.YtfnginkcmcfdfaaGreatDoor.NU1
open Go.Proofs.YtfnginkcmcfdfaaGreatDoor.NU2
open Go.Proofs.YtfnginkcmcfdfaaGreatDoor.NB1
open Go.Proofs.YtfnginkcmcfdfaaGreatDoor.NB2
open Go.Proofs.YtfnginkcmcfdfaaGreatDoor.SW1







theorem pl32 : (Tryz.prog.underlying 32).bind (placesD Tryz.prog) = some [(0, 1)] := by kernel_rfl





theorem xU {w : World} {G : Pin} {t z s y : Int} (hP : Pins G w) :
  Calls Tryz.prog 39 [(.agg [(vJ t), (vJ z)].toArray), (.agg [(vJ s), (vJ y)].toArray)].toArray w fun e w' => ∃ (u : Value) (G' : Pin), e = .returned (.tuple #[(.agg [u].toArray), .bool (swB t z s y)]) ∧ DForm 99 3 G' w' w.heap.size w'.heap.size u (swF t z s y) ∧ Ext noS G w G' w' := by
 refine zV (n := 56) Tryz.func39 Tryz.ntmps39 rfl rfl ?_
 have a2 : Ext noS G w G w := Ext.refl hP
 refine zB (zC ?_)
 refine qI rfl (xI [(vJ t), (vJ z)] (v := (.agg [(vJ t), (vJ z)].toArray)) rfl rfl a2.pins (fun b1 w2 ez cp cq cr => ?_))
 have ct := a2.step cq cr
 have cu : w.heap.size ≤ b1 := by have := a2.size; omega
 obtain ⟨G9, e3, a3, bq, e4⟩ := cp.shut ct cu
 refine qI rfl (xI [(vJ s), (vJ y)] (v := (.agg [(vJ s), (vJ y)].toArray)) rfl rfl a3.pins (fun cv e5 e6 cw cx cy => ?_))
 have cz := a3.step cx cy
 have c0 : w.heap.size ≤ cv := by have := a3.size; omega
 obtain ⟨e7, br, a4, bt, e8⟩ := cw.shut cz c0
 refine qI rfl (yJ [(.slice none 0 0)] zr32 rfl a4.pins (fun ae e9 fa c1 c2 c3 => ?_))
 have an := a4.step c2 c3
 have af : w.heap.size ≤ ae := by have := a4.size; omega
 refine qM (.bool false) ?_
 refine qe (zA (zB (zC ?_)))
 refine qD rfl (yC (cs := [(vJ t), (vJ z)]) ag34 sz34 rfl (fun j u hj => (Pins.of_le an.pins br) _ _ _ (bq _ _ (by simpa using hj)))) ?_
 refine qD rfl (yC (cs := [(vJ s), (vJ y)]) ag34 sz34 rfl (fun j u hj => an.pins _ _ _ (bt _ _ (by simpa using hj)))) ?_
 refine qI rfl (zH (vs := [(.agg [(vJ t), (vJ z)].toArray), (.agg [(vJ s), (vJ y)].toArray)]) Tryz.func78 nm78 rfl rfl rfl ?_)
 refine Calls.mono (compareDyadic_spec (t := t) (z := z) (s := s) (y := y) an.pins) ?_
 rintro _ fb ⟨fc, rfl, ao⟩
 refine ⟨_, rfl, ?_⟩
 have ab := an.tr ao
 have ap := c1.ext ao
 refine qM (.tuple #[(vJ (cdI t z s y)), (.bool (cdB t z s y))]) ?_
 refine qD rfl (zT (v := (vJ (cdI t z s y))) rfl rfl) ?_
 refine qD rfl (zT (v := (.bool (cdB t z s y))) rfl rfl) ?_
 refine qM (vJ (cdI t z s y)) ?_
 refine qM (.bool (cdB t z s y)) ?_
 refine qe (zA (zB (zB (zC ?_))))
 refine qM (.bool (cdB t z s y)) ?_
 refine qD rfl (qF rfl) ?_
 refine qM (.bool (!(cdB t z s y))) ?_
 refine qbn (t := 21) rfl (fun aq => ?_) (fun aq => ?_)
 ·skip
  refine qN (zU (v := (vJ (cdI t z s y))) rfl) ?_
  refine qN (yR rfl rfl) ?_
  refine qD rfl (yI (v := (.bool (decide ((cdI t z s y : Int) < 0)))) rfl rfl) ?_
  refine qe (zA ?_)
  refine zY (p := (cdI t z s y : Int) < 0) rfl rfl (fun a5 => ?_) (fun a5 => ?_)
  ·skip
   refine zB (zC ?_)
   refine qD rfl (yU [(.slice none 0 0)] [(.slice none 0 0)] [] Tryz.underlying32 zr32 rfl pl32 rfl (fun _ h => by cases h) rfl) ?_
   refine q0 rfl rfl rfl (yP (cs' := [(.slice none 0 0)]) (us := [(.slice none 0 0)]) (v := (.agg [(.slice none 0 0)].toArray)) sz32 rfl rfl rfl (yE (by rfl)) ab.pins ap (Nat.le_of_ble_eq_true rfl) rfl (fun fd c4 c5 c6 fe => ?_))
   have c7 := ab.write c5 c6 ((zX af))
   refine qM (.bool false) ?_
   refine qe (zA ?_)
   refine wp_ret ?_
   refine zO ?_
   refine xO (cs := [(.slice none 0 0)]) (v := (.bool false)) rfl rfl rfl rfl rfl ag32 sz32 (fun j u hj => by rw [Nat.zero_add]; exact c4.cell hj) ?_
   obtain ⟨f, i⟩ := sw_no (t := t) (z := z) (s := s) (y := y) (fun g => g.2.2 ((cd_less aq).1 a5))
   rw [f, i]
   exact ⟨_, _, rfl, DForm.nil, c7⟩
  refine wp_skip ?_
  refine zA (zB (zC ?_))
  refine qI rfl (zH (vs := []) Tryz.func51 nm51 rfl rfl rfl ?_)
  refine Calls.mono (newPool_spec ab.pins) ?_
  rintro _ c8 ⟨a, au, c9, rfl, bu, bv, av⟩
  refine ⟨_, rfl, ?_⟩
  have aw := ab.tr av
  have bw := ap.ext av
  have da := np_fresh bv (x := (some ae)) (box_lt ap)
  have db : PIn w (noS) a (.slice none 0 0) (.slice none 0 0) (.slice none 0 0) au := PIn.fresh bv ab.size
  obtain ⟨d, a6⟩ : ∃ q, q = (⟨[], [], [], [], [], [], []⟩ : PSt) := ⟨_, rfl⟩
  rw [← a6] at bu
  have a7 : PoolOk d := by rw [a6]; exact PoolOk.empty
  have hq56l : d.ns.length = 0 := by rw [a6]; rfl
  obtain ⟨a8, a9, ba, bb, bc, bd⟩ : ∃ (l r b : Value), l = .slice none 0 0 ∧ r = .slice none 0 0 ∧ b = .slice none 0 0 := ⟨_, _, _, rfl, rfl, rfl⟩
  have dc : Pk 65 3 c9 c8 a a8 a9 ba au d := by rw [bb, bc, bd]; exact bu
  have bx : PIn w (noS) a a8 a9 ba au := by rw [bb, bc, bd]; exact db
  have ff : (d.ns.map Nd.l).length = d.ns.length ∧ (d.ns.map Nd.r).length = d.ns.length := ⟨List.length_map .., List.length_map ..⟩
  have fg : d.bs.length = d.ns.length ∧ d.ns.length ≤ 1048576 := ⟨a7.ar.ok.len, a7.ar.ok.lim⟩
  have hnp60x : NP a a8 a9 ba au (some ae) := by rw [bb, bc, bd]; exact da
  refine qM (.pointer (some ⟨a, 0, none⟩)) ?_
  refine qe (zA (zB (zC ?_)))
  refine qM (.pointer (some ⟨a, 0, none⟩)) ?_
  refine qD rfl (yC (cs := [(vJ t), (vJ z)]) ag34 sz34 rfl (fun j u hj => (Pins.of_le aw.pins (Pin.le_trans (Pin.le_trans br ao.le) av.le)) _ _ _ (bq _ _ (by simpa using hj)))) ?_
  refine qI rfl (zH (vs := [(.pointer (some ⟨a, 0, none⟩)), (.agg [(vJ t), (vJ z)].toArray)]) Tryz.func52 nm52 rfl rfl rfl ?_)
  refine Calls.mono (numbered_spec aw.pins dc a7 (by omega)) ?_
  rintro _ fh ⟨o, fi, fj, fk, ac, fl, rfl, dd, ax, de, bz, be, df, dg⟩
  refine ⟨_, rfl, ?_⟩
  have ay := aw.trans be bx
  have b0 := bw.extS be (NP.notb hnp60x)
  have b2 := NP.call hnp60x bz (box_lt bw)
  have b3 := PIn.call bx bz aw.size
  have fm := de.len
  have fn : (ac.ns.map Nd.l).length = ac.ns.length ∧ (ac.ns.map Nd.r).length = ac.ns.length := ⟨List.length_map .., List.length_map ..⟩
  have fo : ac.bs.length = ac.ns.length ∧ ac.ns.length ≤ 1048576 := ⟨ax.ar.ok.len, ax.ar.ok.lim⟩
  have fp := dg
  refine qM (.tuple #[(vJ o), (.bool (nmB t z))]) ?_
  refine qD rfl (zT (v := (vJ o)) rfl rfl) ?_
  refine qD rfl (zT (v := (.bool (nmB t z))) rfl rfl) ?_
  refine qM (vJ o) ?_
  refine qM (.bool (nmB t z)) ?_
  refine qe (zA (zB (zC ?_)))
  refine qM (.pointer (some ⟨a, 0, none⟩)) ?_
  refine qD rfl (yC (cs := [(vJ s), (vJ y)]) ag34 sz34 rfl (fun j u hj => (Pins.of_le ay.pins (Pin.le_trans (Pin.le_trans ao.le av.le) be.le)) _ _ _ (bt _ _ (by simpa using hj)))) ?_
  refine qI rfl (zH (vs := [(.pointer (some ⟨a, 0, none⟩)), (.agg [(vJ s), (vJ y)].toArray)]) Tryz.func52 nm52 rfl rfl rfl ?_)
  refine Calls.mono (numbered_spec ay.pins dd ax (by omega)) ?_
  rintro _ fq ⟨aa, fr, fs, ft, m, b4, rfl, b5, az, bf, b6, b7, dh, di⟩
  refine ⟨_, rfl, ?_⟩
  have ad := ay.trans b7 b3
  have a0 := b0.extS b7 (NP.notb b2)
  have dj := NP.call b2 b6 (box_lt b0)
  have b8 := PIn.call b3 b6 ay.size
  have fu := bf.len
  have fv : (m.ns.map Nd.l).length = m.ns.length ∧ (m.ns.map Nd.r).length = m.ns.length := ⟨List.length_map .., List.length_map ..⟩
  have fw : m.bs.length = m.ns.length ∧ m.ns.length ≤ 1048576 := ⟨az.ar.ok.len, az.ar.ok.lim⟩
  have fx := di
  refine qM (.tuple #[(vJ aa), (.bool (nmB s y))]) ?_
  refine qD rfl (zT (v := (vJ aa)) rfl rfl) ?_
  refine qD rfl (zT (v := (.bool (nmB s y))) rfl rfl) ?_
  refine qM (vJ aa) ?_
  refine qM (.bool (nmB s y)) ?_
  refine qe (zA (zB (zB (zC ?_))))
  refine qM (.bool (nmB t z)) ?_
  refine qD rfl (qF rfl) ?_
  refine qM (.bool (!(nmB t z))) ?_
  refine qbn (t := 41) rfl (fun ag => ?_) (fun ag => ?_)
  ·skip
   refine qN (zU (v := (.bool (nmB s y))) rfl) ?_
   refine qN (qF rfl) ?_
   refine qD rfl (yI (v := (.bool (!(nmB s y)))) rfl rfl) ?_
   refine qe (zA ?_)
   refine c_ifn rfl rfl (fun ah => ?_) (fun ah => ?_)
   ·skip
    refine wp_skip ?_
    refine zA (zB (zC ?_))
    refine qM (.pointer (some ⟨a, 0, none⟩)) ?_
    refine qM (.pointer (some ⟨a, 0, none⟩)) ?_
    have bg := df ag
    have b9 := dh ah
    refine qM (vJ o) ?_
    refine qI rfl (yG (E := eInt) (e := 3) [(vJ o)] [o] Tryz.underlying65 sz3 zr3 (by exact xK (by rfl)) (yE (by rfl)) rfl rfl rfl rfl (by decide) ad.pins (fun ai dk dl ca bh cb => ?_))
    have bi := ad.step ca bh
    have cc := a0.below bh
    have cd := b5.below bh ca
    have dm : Apart ai.ownBlock (some ae) := zI cb a0.lt
    have dn := b5.new (x := ai.ownBlock) (fun k hk => by rw [cb] at hk; cases hk; exact Nat.le_refl _)
    have ce : Own eInt 3 b4 dk w.heap.size ai ([o]) := dl.weaken ad.size
    refine qM (vJ aa) ?_
    refine qI rfl (yG (E := eInt) (e := 3) [(vJ aa)] [aa] Tryz.underlying65 sz3 zr3 (by exact xK (by rfl)) (yE (by rfl)) rfl rfl rfl rfl (by decide) bi.pins (fun aj dp dq cf a1 bj => ?_))
    have dr := bi.step cf a1
    have ds := ce.below a1
    have dt := cc.below a1
    have du := cd.below a1 cf
    have dv : Apart aj.ownBlock ai.ownBlock := zG bj ce.lt
    have dw : Apart aj.ownBlock (some ae) := zI bj cc.lt
    have dx := cd.new (x := aj.ownBlock) (fun k hk => by rw [bj] at hk; cases hk; exact Nat.le_refl _)
    have dy : Own eInt 3 b4 dp w.heap.size aj ([aa]) := dq.weaken bi.size
    obtain ⟨fy, cg, dz, d0, bk⟩ := ds.sealed dr
    have d1 := dy.moreO cg bk dv
    have d2 := dt.moreO bk dm.symm
    have d3 := du.moreO cg bk dn
    obtain ⟨fz, ch, bl, d4, ci⟩ := d1.sealed dz
    have d5 := d2.moreO ci dw.symm
    have d6 := d3.moreO ch ci dx
    have d7 := ((bf.pd ax az bg.1).trans bg.2)
    have d8 := b9.2
    refine qI rfl (zH (vs := [(.pointer (some ⟨a, 0, none⟩)), ai, aj]) Tryz.func79 nm79 rfl rfl rfl ?_)
    refine Calls.mono (qB bl.pins d6 az (d0.mono ch) d4 (by omega) ⟨by simp, by simp⟩ (one_at (bf.place bg.1)) (one_at b9.1)) ?_
    rintro _ f0 ⟨ak, f1, f2, f3, c, f4, rfl, d9, bm, ea, eb, cj, ec, ed, f5, f6⟩
    refine ⟨_, rfl, ?_⟩
    have bn := bl.trans cj b8
    have ck := d5.extS cj (NP.notb dj)
    have f7 := PIn.call b8 eb bl.size
    have f8 := ea.len
    have f9 : (c.ns.map Nd.l).length = c.ns.length ∧ (c.ns.map Nd.r).length = c.ns.length := ⟨List.length_map .., List.length_map ..⟩
    have ga : c.bs.length = c.ns.length ∧ c.ns.length ≤ 1048576 := ⟨bm.ar.ok.len, bm.ar.ok.lim⟩
    have bo := ed.trans (show _ = mkG [pd m o] [pd m aa] from rfl)
    rw [d7] at bo
    rw [d8] at bo
    refine qI rfl (zH (vs := [(.pointer (some ⟨a, 0, none⟩)), (vJ ak)]) Tryz.func59 nm59 rfl rfl rfl ?_)
    refine Calls.mono (form_spec bn.pins d9 bm ec) ?_
    rintro _ ee ⟨al, gb, rfl, cl, cm⟩
    refine ⟨_, rfl, ?_⟩
    have cn := bn.tr cm
    have ef := ck.ext cm
    have eg := cl.one
    refine qD rfl (zT (v := (.agg [al].toArray)) rfl rfl) ?_
    refine qD rfl (zT (v := (.bool (fitB (pd c ak)))) rfl rfl) ?_
    refine q0 rfl rfl rfl (yP (cs' := [al]) (us := [al]) (v := (.agg [al].toArray)) sz32 rfl rfl rfl (yE eg) cn.pins ef (Nat.le_of_ble_eq_true rfl) rfl (fun gc eh ei bp gd => ?_))
    have ej := cn.write ei bp ((zX af))
    have ek := cl.kept bp (Or.inr ck.lt)
    have el := Nat.le_trans (Nat.le_refl ee.heap.size) bp.size
    refine qM (.bool (fitB (pd c ak))) ?_
    refine qe (zA ?_)
    refine wp_ret ?_
    refine zO ?_
    refine xO (cs := [al]) (v := (.bool (fitB (pd c ak)))) rfl rfl rfl rfl rfl ag32 sz32 (fun j u hj => by rw [Nat.zero_add]; exact eh.cell hj) ?_
    have hgz : pd c ak = swG t z s y := bo.trans (sw_g ag ah).symm
    obtain ⟨f, i⟩ := sw_yes (t := t) (z := z) (s := s) (y := y) ⟨ag, ah, fun g => a5 ((cd_less aq).2 g)⟩
    rw [f, i, ← hgz]
    exact ⟨_, _, rfl, (ek.wide bn.size el), ej⟩
   refine zB (zC ?_)
   refine qD rfl (yU [(.slice none 0 0)] [(.slice none 0 0)] [] Tryz.underlying32 zr32 rfl pl32 rfl (fun _ h => by cases h) rfl) ?_
   refine q0 rfl rfl rfl (yP (cs' := [(.slice none 0 0)]) (us := [(.slice none 0 0)]) (v := (.agg [(.slice none 0 0)].toArray)) sz32 rfl rfl rfl (yE (by rfl)) ad.pins a0 (Nat.le_of_ble_eq_true rfl) rfl (fun ge em en eo gf => ?_))
   have ep := ad.write en eo ((zX af))
   refine qM (.bool false) ?_
   refine qe (zA ?_)
   refine wp_ret ?_
   refine zO ?_
   refine xO (cs := [(.slice none 0 0)]) (v := (.bool false)) rfl rfl rfl rfl rfl ag32 sz32 (fun j u hj => by rw [Nat.zero_add]; exact em.cell hj) ?_
   obtain ⟨f, i⟩ := sw_no (t := t) (z := z) (s := s) (y := y) (fun g => by have h5 := g.2.1; rw [ah] at h5; cases h5)
   rw [f, i]
   exact ⟨_, _, rfl, DForm.nil, ep⟩
  refine qW ?_
  refine qW ?_
  refine qD rfl (yW (v := (.bool true)) rfl rfl) ?_
  refine qe (zA ?_)
  refine c_ifT rfl rfl ?_
  refine zB (zC ?_)
  refine qD rfl (yU [(.slice none 0 0)] [(.slice none 0 0)] [] Tryz.underlying32 zr32 rfl pl32 rfl (fun _ h => by cases h) rfl) ?_
  refine q0 rfl rfl rfl (yP (cs' := [(.slice none 0 0)]) (us := [(.slice none 0 0)]) (v := (.agg [(.slice none 0 0)].toArray)) sz32 rfl rfl rfl (yE (by rfl)) ad.pins a0 (Nat.le_of_ble_eq_true rfl) rfl (fun gg eq er es gh => ?_))
  have et := ad.write er es ((zX af))
  refine qM (.bool false) ?_
  refine qe (zA ?_)
  refine wp_ret ?_
  refine zO ?_
  refine xO (cs := [(.slice none 0 0)]) (v := (.bool false)) rfl rfl rfl rfl rfl ag32 sz32 (fun j u hj => by rw [Nat.zero_add]; exact eq.cell hj) ?_
  obtain ⟨f, i⟩ := sw_no (t := t) (z := z) (s := s) (y := y) (fun g => by have h5 := g.1; rw [ag] at h5; cases h5)
  rw [f, i]
  exact ⟨_, _, rfl, DForm.nil, et⟩
 refine qW ?_
 refine qW ?_
 refine qD rfl (yW (v := (.bool true)) rfl rfl) ?_
 refine qe (zA ?_)
 refine c_ifT rfl rfl ?_
 refine zB (zC ?_)
 refine qD rfl (yU [(.slice none 0 0)] [(.slice none 0 0)] [] Tryz.underlying32 zr32 rfl pl32 rfl (fun _ h => by cases h) rfl) ?_
 refine q0 rfl rfl rfl (yP (cs' := [(.slice none 0 0)]) (us := [(.slice none 0 0)]) (v := (.agg [(.slice none 0 0)].toArray)) sz32 rfl rfl rfl (yE (by rfl)) ab.pins ap (Nat.le_of_ble_eq_true rfl) rfl (fun gi eu ev ew gj => ?_))
 have ex := ab.write ev ew ((zX af))
 refine qM (.bool false) ?_
 refine qe (zA ?_)
 refine wp_ret ?_
 refine zO ?_
 refine xO (cs := [(.slice none 0 0)]) (v := (.bool false)) rfl rfl rfl rfl rfl ag32 sz32 (fun j u hj => by rw [Nat.zero_add]; exact eu.cell hj) ?_
 obtain ⟨f, i⟩ := sw_no (t := t) (z := z) (s := s) (y := y) (sw_bad aq)
 rw [f, i]
 exact ⟨_, _, rfl, DForm.nil, ex⟩

end SW3
end Go.Proofs.YtfnginkcmcfdfaaGreatDoor

set_option maxRecDepth 20000
set_option maxHeartbeats 2000000
namespace Go.Proofs.YtfnginkcmcfdfaaGreatDoor
namespace LSW
open Go.RowKit Go.GL Go.Proofs
open Go.Proofs.YtfnginkcmcfdfaaGreatDoor.B1
open Go.Proofs.YtfnginkcmcfdfaaGreatDoor.C1
open Go.Proofs.YtfnginkcmcfdfaaGreatDoor.D1
open Go.Proofs.YtfnginkcmcfdfaaGreatDoor.E1
open Go.Proofs.YtfnginkcmcfdfaaGreatDoor.G1
open Go.Proofs.YtfnginkcmcfdfaaGreatDoor.L1
open Go.Proofs.YtfnginkcmcfdfaaGreatDoor.NF1
open Go.Proofs.YtfnginkcmcfdfaaGreatDoor.SM1
open Go.Proofs.YtfnginkcmcfdfaaGreatDoor.SW2
open Go.Proofs.YtfnginkcmcfdfaaGreatDoor.SW3


























theorem markNodeX_spec {w : World} {G : Pin} {v : Value} {ps : List (Value × Value)} {ns : List Nd} {kz : Int} {lo hi : Nat} (hP : Pins G w) (ho : Own eVal2 99 G w 0 v ps) (hpl : ps.length = ns.length) (hav : ∀ u ∈ leafV ps, Apart u.ownBlock v.ownBlock) (hF : Lvs 3 G w lo hi (lvN ps ns)) (hsm : Small ns) (hk : 0 ≤ kz ∧ kz ≤ 1099511627776) :
  Calls Tryz.prog 60 [v, (vJ kz)].toArray w fun e w' => e = .returned (vJ (kz + totN ns)) ∧ Lvs 3 G w' lo hi (lvN ps (markN kz ns)) ∧ Ext (inV (leafV ps)) G w G w' := by
 refine zV (n := 27) Tryz.func60 Tryz.ntmps60 rfl rfl ?_
 have ae : Ext (inV (leafV ps)) G w G w := Ext.refl hP
 have hln := hsm.len
 refine zB (zC ?_)
 refine qM (vJ 0) ?_
 refine qe (zA (zB (zB (zC ?_))))
 refine qM (vJ 0) ?_
 refine qe (zA ?_)
 refine zZ ?_
 refine yT (fun (k : Nat) (en : Nat → Value) (W : World) => ∃ (y : Nat → Value) (j : Nat) (q : Int) (A : List Leaf), en = (upd (upd (upd (upd y 0 v) 1 (vJ q)) 4 (vJ 0)) 5 (vJ (j : Int))) ∧ k = ps.length - j ∧ Ext (inV (leafV ps)) G w G W ∧ (j ≤ ps.length) ∧ (0 ≤ q ∧ q ≤ kz + 2097152 * (j : Int)) ∧ (kz + totN ns = q + totN (ns.drop j)) ∧ (lvN ps (markN kz ns) = A ++ lvN (ps.drop j) (markN q (ns.drop j))) ∧ (Lvs 3 G W lo hi (A ++ lvN (ps.drop j) (ns.drop j))) ∧ (Own eVal2 99 G W 0 v (ps))) _ ⟨_, 0, kz, [], (pS 5 (pS 4 (pS 1 (pU 0)))), rfl, ae, Nat.zero_le _, (by omega), rfl, rfl, hF, ho⟩ ?_
 rintro k1 _ w2 ⟨y, j, q, A, rfl, av, d, hj, hq, hqt, hA, i, b⟩
 refine zB (zB (zC ?_))
 refine qM (vJ (j : Int)) ?_
 refine qM v ?_
 refine qD rfl (zS Tryz.underlying30 (v := v) rfl b.read) ?_
 refine qD rfl (yR rfl rfl) ?_
 refine qe (zA ?_)
 refine zY (p := ((j : Int) : Int) < (ps.length : Int)) rfl rfl (fun h6 => ?_) (fun h6 => ?_)
 ·skip
  have hso := hsm.opts j (by omega)
  refine wp_skip ?_
  refine zA (zB ?_)
  refine zZ ?_
  refine zB (zC ?_)
  refine qM v ?_
  refine qM (vJ (j : Int)) ?_
  refine qD rfl (zQ Tryz.underlying30 sz99 (v := v) rfl rfl b.read (by omega) (by omega)) ?_
  refine qD rfl (xV (off := 0) Tryz.underlying99 rfl rfl nz65 (z := (j : Int)) (k := 0) rfl b.read (by omega) (by omega)) ?_
  obtain ⟨aw, ah, ax, ai⟩ := nm_el (j := j) default (b.at (z := (j : Int)) (by omega) (by omega)) rfl
  obtain ⟨rfl, ay⟩ := ah
  obtain ⟨a, f⟩ : ∃ u, u = (ps.getD j default).1 := ⟨_, rfl⟩
  refine qD rfl (ai 0 a (by rw [f]; rfl) ag65 rfl (Gadd.pins d.pins v)) ?_
  refine qM (vJ q) ?_
  have aa : a ∈ leafV ps := by rw [f]; exact (leafV_mem (by omega)).1
  have m : Lvs 3 G w2 lo hi (A ++ (a, (ns.getD j default).l) :: (((ps.getD j default).2, (ns.getD j default).r) :: lvN (ps.drop (j + 1)) (ns.drop (j + 1)))) := by rw [f, ← lvN_next (by omega) (by omega)]; exact i
  refine qI rfl (zH (vs := [a, (vJ q)]) Tryz.func108 nm108 rfl rfl rfl ?_)
  refine Calls.mono (markIntS_spec d.pins ((m.own _ (List.mem_append_right _ List.mem_cons_self)).weaken (Nat.zero_le _)) (by omega) (hso.1)) ?_
  rintro _ aj ⟨rfl, ak, ab⟩
  refine ⟨_, rfl, ?_⟩
  have o := mark_grown ab
  have s := d.write ab.pins o (fun k hk => Or.inr ⟨_, aa, hk⟩)
  have g := b.keptA o (hav _ aa).symm
  have al := Lvs.step m (ak.up (fun k hk => ((m.own _ (List.mem_append_right _ List.mem_cons_self)).lt k hk).1)) o
  refine qM (vJ (q + ((ns.getD j default).l.length : Int))) ?_
  refine qe (zA (zC ?_))
  refine qM v ?_
  refine qM (vJ (j : Int)) ?_
  refine qD rfl (zQ Tryz.underlying30 sz99 (v := v) rfl rfl g.read (by omega) (by omega)) ?_
  refine qD rfl (xV (off := 1) Tryz.underlying99 rfl rfl nz65 (z := (j : Int)) (k := 0) rfl g.read (by omega) (by omega)) ?_
  obtain ⟨az, am, a0, an⟩ := nm_el (j := j) default (g.at (z := (j : Int)) (by omega) (by omega)) rfl
  obtain ⟨rfl, a1⟩ := am
  obtain ⟨c, h⟩ : ∃ u, u = (ps.getD j default).2 := ⟨_, rfl⟩
  refine qD rfl (an 1 c (by rw [h]; rfl) ag65 rfl (Gadd.pins s.pins v)) ?_
  refine qM (vJ (q + ((ns.getD j default).l.length : Int))) ?_
  have ac : c ∈ leafV ps := by rw [h]; exact (leafV_mem (by omega)).2
  have t : Lvs 3 G aj lo hi ((A ++ [(a, upL (q) (ns.getD j default).l.length)]) ++ (c, (ns.getD j default).r) :: lvN (ps.drop (j + 1)) (ns.drop (j + 1))) := by rw [h, List.append_assoc]; exact al
  refine qI rfl (zH (vs := [c, (vJ (q + ((ns.getD j default).l.length : Int)))]) Tryz.func108 nm108 rfl rfl rfl ?_)
  refine Calls.mono (markIntS_spec s.pins ((t.own _ (List.mem_append_right _ List.mem_cons_self)).weaken (Nat.zero_le _)) (by omega) (hso.2)) ?_
  rintro _ a2 ⟨rfl, ao, ad⟩
  refine ⟨_, rfl, ?_⟩
  have x := mark_grown ad
  have ap := s.write ad.pins x (fun k hk => Or.inr ⟨_, ac, hk⟩)
  have aq := g.keptA x (hav _ ac).symm
  have ar := Lvs.step t (ao.up (fun k hk => ((t.own _ (List.mem_append_right _ List.mem_cons_self)).lt k hk).1)) x
  refine qM (vJ ((q + ((ns.getD j default).l.length : Int)) + ((ns.getD j default).r.length : Int))) ?_
  refine qe ?_
  refine yL ?_
  refine zA (zC ?_)
  refine qM (vJ (j : Int)) ?_
  refine qD rfl (yQ rfl rfl (by omega)) ?_
  refine qM (vJ ((j : Int) + 1)) ?_
  refine qe ?_
  refine yN ?_
  refine ⟨_, ?_, _, rfl, _, j + 1, (q + ((ns.getD j default).l.length : Int)) + ((ns.getD j default).r.length : Int), A ++ [(a, upL (q) (ns.getD j default).l.length)] ++ [(c, upL (q + ((ns.getD j default).l.length : Int)) (ns.getD j default).r.length)], (pS 5 (pS 4 (pS 1 (pU 0)))), rfl, ap, (by omega), (by omega), (hqt.trans (by rw [totN_next (by omega)]; omega)), (hA.trans (by rw [lvN_markN (by omega) (by omega), List.append_assoc, List.append_assoc, ← f, ← h]; rfl)), (by rw [List.append_assoc]; exact ar), aq⟩
  omega
 refine wp_exit ?_
 refine yB ?_
 refine yO ?_
 refine yM ?_
 refine zA (zB (zC ?_))
 refine qM (vJ q) ?_
 refine qM (vJ q) ?_
 refine qe (zA ?_)
 refine wp_ret ?_
 refine zO ?_
 refine zP (v := (vJ q)) rfl rfl rfl ?_
 rw [lvN_end (by omega), List.append_nil] at hA
 rw [lvN_end (by omega), List.append_nil] at i
 exact ⟨congrArg (fun z => Ending.returned (Value.int .i64 z)) (by rw [hqt, totN_end (by omega)]; omega), (by rw [hA]; exact i), d⟩

theorem markFormX_spec {w : World} {G : Pin} {v : Value} {ns : List Nd} {kz : Int} {lo hi : Nat} (hP : Pins G w) (hd : DForm 99 3 G w lo hi v ns) (hsz : hi ≤ w.heap.size) (hsm : Small ns) (hk : 0 ≤ kz ∧ kz ≤ 1099511627776) :
  Calls Tryz.prog 23 [(.agg [v].toArray), (.int .i64 kz)].toArray w fun e w' => e = .returned (.int .i64 (kz + totN ns)) ∧ DForm 99 3 G w' lo hi v (markN kz ns) ∧ Ext (inR lo hi) G w G w' := by
 refine zV (n := 10) Tryz.func23 Tryz.ntmps23 rfl rfl ?_
 have a : Ext (inR lo hi) G w G w := Ext.refl hP
 refine zB (zC ?_)
 refine qI rfl (xI [v] (v := (.agg [v].toArray)) rfl rfl a.pins (fun b w2 h j l c => ?_))
 have m := a.step l c
 have o := hd.below c
 have ah := Nat.le_trans hsz c.size
 have p : hi ≤ b ∨ b < lo := Or.inl (by have e := Option.some.inj (congrArg some h); have := hsz; omega)
 have q : w.heap.size ≤ b := by have := a.size; omega
 obtain ⟨ai, f, d, r, s⟩ := j.shut m q
 have t := o.more f s p
 refine qM (.int .i64 0) ?_
 refine qe (zA (zB (zC ?_)))
 refine qD rfl (zL (k := 0) rfl Tryz.underlying32 rfl nz30 rfl) ?_
 refine qD rfl (zM (u := v) ag30 rfl (d.pins _ _ _ (r 0 _ rfl))) ?_
 refine qM (.int .i64 kz) ?_
 obtain ⟨aj, x, y, z, aa, ab, ac⟩ := t.mark
 refine qI rfl (zH (vs := [v, (.int .i64 kz)]) Tryz.func60 nm60 rfl rfl rfl ?_)
 refine Calls.mono (markNodeX_spec d.pins x y z aa hsm hk) ?_
 rintro _ ak ⟨rfl, ad, g⟩
 refine ⟨_, rfl, ?_⟩
 have ae := d.trans g (fun i hi => Or.inr (ab i hi))
 have af := ac (markN_length _ _) ad g
 refine qM (.int .i64 (kz + totN ns)) ?_
 refine qe (zA (zB (zC ?_)))
 refine qM (.int .i64 (kz + totN ns)) ?_
 refine qM (.int .i64 (kz + totN ns)) ?_
 refine qe (zA ?_)
 refine wp_ret ?_
 refine zO ?_
 refine zP (v := (.int .i64 (kz + totN ns))) rfl rfl rfl ?_
 exact ⟨rfl, af.anti f, ae.shrink⟩

theorem heldNodeS_spec {w : World} {G : Pin} {v : Value} {ns : List Nd} {kz : Int} (hP : Pins G w) (hv : RSl eNode G v (markN kz ns)) (hsm : Small ns) (hk : 0 ≤ kz ∧ kz ≤ 1099511627776) :
  Calls Tryz.prog 61 [v, (vJ kz)].toArray w fun e w' => e = .returned (vJ (kz + totN ns)) ∧ w' = w := by
 refine zV (n := 31) Tryz.func61 Tryz.ntmps61 rfl rfl ?_
 have h : Ext noS G w G w := Ext.refl hP
 have hul := markN_length kz ns
 have hln := hsm.len
 refine zB (zC ?_)
 refine qM (vJ 0) ?_
 refine qe (zA (zB (zB (zC ?_))))
 refine qM (vJ 0) ?_
 refine qe (zA ?_)
 refine zZ ?_
 refine yT (fun (k : Nat) (en : Nat → Value) (W : World) => ∃ (b : Nat → Value) (j : Nat) (q : Int), en = (upd (upd (upd b 0 v) 1 (vJ q)) 5 (vJ (j : Int))) ∧ k = ns.length - j ∧ Ext noS G w G W ∧ (j ≤ ns.length) ∧ (W = w) ∧ (0 ≤ q ∧ q ≤ kz + 2097152 * (j : Int)) ∧ (kz + totN ns = q + totN (ns.drop j)) ∧ (markN kz ns).drop j = markN q (ns.drop j)) _ ⟨_, 0, kz, (pS 5 (pS 1 (pU 0))), rfl, h, Nat.zero_le _, rfl, (by omega), rfl, rfl⟩ ?_
 rintro u _ x ⟨b, j, q, rfl, y, a, hj, hw, hq, hqt, hA⟩
 subst hw
 refine zB (zB (zC ?_))
 refine qM (vJ (j : Int)) ?_
 refine qM v ?_
 refine qD rfl (zS Tryz.underlying30 (v := v) rfl hv) ?_
 refine qD rfl (yR rfl rfl) ?_
 refine qe (zA ?_)
 refine zY (p := ((j : Int) : Int) < ((markN kz ns).length : Int)) rfl rfl (fun i => ?_) (fun i => ?_)
 ·skip
  have hso := hsm.opts j (by omega)
  have hAj := markN_at (show j < ns.length by omega) hA
  refine wp_skip ?_
  refine zA (zB ?_)
  refine zZ ?_
  refine zB (zC ?_)
  refine qM v ?_
  refine qM (vJ (j : Int)) ?_
  refine qD rfl (zQ Tryz.underlying30 sz99 (v := v) rfl rfl hv (by omega) (by omega)) ?_
  refine qD rfl (xV (off := 0) Tryz.underlying99 rfl rfl nz65 (z := (j : Int)) (k := 0) rfl hv (by omega) (by omega)) ?_
  obtain ⟨m, c, o⟩ := nm_nl (hv.at (z := (j : Int)) (by omega) (by omega)) (j := j) rfl
  have aa := c.max
  refine qD rfl (o ag65 rfl a.pins) ?_
  refine qM (vJ q) ?_
  refine qI rfl (zH (vs := [m, (vJ q)]) Tryz.func109 nm109 rfl rfl rfl ?_)
  refine Calls.mono (heldIntS_spec (n := (ns.getD j default).l.length) a.pins (by rw [← hAj.1]; exact c) (by omega) (hso.1)) ?_
  rintro _ _ ⟨rfl, rfl⟩
  refine ⟨_, rfl, ?_⟩
  refine qM (vJ (q + (((ns.getD j default).l.length : Int) : Int))) ?_
  refine qe (zA (zB (zB (zC ?_))))
  refine qM (vJ (q + (((ns.getD j default).l.length : Int) : Int))) ?_
  refine qD rfl (yR rfl rfl) ?_
  refine qe (zA ?_)
  refine zY (p := (q + (((ns.getD j default).l.length : Int) : Int) : Int) < 0) rfl rfl (fun d => ?_) (fun d => ?_)
  ·skip
   refine zB (zC ?_)
   refine qM (vJ (-1)) ?_
   refine qe (zA ?_)
   refine wp_ret ?_
   refine zO ?_
   refine zP (v := (vJ (-1))) rfl rfl rfl ?_
   exact absurd d (by omega)
  refine wp_skip ?_
  refine zA (zB (zC ?_))
  refine qM v ?_
  refine qM (vJ (j : Int)) ?_
  refine qD rfl (zQ Tryz.underlying30 sz99 (v := v) rfl rfl hv (by omega) (by omega)) ?_
  refine qD rfl (xV (off := 1) Tryz.underlying99 rfl rfl nz65 (z := (j : Int)) (k := 0) rfl hv (by omega) (by omega)) ?_
  obtain ⟨s, f, t⟩ := nm_nr (hv.at (z := (j : Int)) (by omega) (by omega)) (j := j) rfl
  have ab := f.max
  refine qD rfl (t ag65 rfl a.pins) ?_
  refine qM (vJ (q + (((ns.getD j default).l.length : Int) : Int))) ?_
  refine qI rfl (zH (vs := [s, (vJ (q + (((ns.getD j default).l.length : Int) : Int)))]) Tryz.func109 nm109 rfl rfl rfl ?_)
  refine Calls.mono (heldIntS_spec (n := (ns.getD j default).r.length) a.pins (by rw [← hAj.2.1]; exact f) (by omega) (hso.2)) ?_
  rintro _ _ ⟨rfl, rfl⟩
  refine ⟨_, rfl, ?_⟩
  refine qM (vJ ((q + (((ns.getD j default).l.length : Int) : Int)) + (((ns.getD j default).r.length : Int) : Int))) ?_
  refine qe (zA (zB (zC ?_)))
  refine qM (vJ ((q + (((ns.getD j default).l.length : Int) : Int)) + (((ns.getD j default).r.length : Int) : Int))) ?_
  refine qD rfl (yR rfl rfl) ?_
  refine qe (zA ?_)
  refine zY (p := ((q + (((ns.getD j default).l.length : Int) : Int)) + (((ns.getD j default).r.length : Int) : Int) : Int) < 0) rfl rfl (fun g => ?_) (fun g => ?_)
  ·skip
   refine zB (zC ?_)
   refine qM (vJ (-1)) ?_
   refine qe (zA ?_)
   refine wp_ret ?_
   refine zO ?_
   refine zP (v := (vJ (-1))) rfl rfl rfl ?_
   exact absurd g (by omega)
  refine wp_skip ?_
  refine yL ?_
  refine zA (zC ?_)
  refine qM (vJ (j : Int)) ?_
  refine qD rfl (yQ rfl rfl (by omega)) ?_
  refine qM (vJ ((j : Int) + 1)) ?_
  refine qe ?_
  refine yN ?_
  refine ⟨_, ?_, _, rfl, _, j + 1, (q + (((ns.getD j default).l.length : Int) : Int)) + (((ns.getD j default).r.length : Int) : Int), (pS 5 (pS 1 (pU 0))), rfl, a, (by omega), rfl, (by omega), (hqt.trans (by rw [totN_next (by omega)]; omega)), hAj.2.2⟩
  omega
 refine wp_exit ?_
 refine yB ?_
 refine yO ?_
 refine yM ?_
 refine zA (zB (zC ?_))
 refine qM (vJ q) ?_
 refine qM (vJ q) ?_
 refine qe (zA ?_)
 refine wp_ret ?_
 refine zO ?_
 refine zP (v := (vJ q)) rfl rfl rfl ?_
 exact ⟨congrArg (fun z => Ending.returned (Value.int .i64 z)) (by rw [hqt, totN_end (by omega)]; omega), rfl⟩

theorem heldFormX_spec {w : World} {G : Pin} {v : Value} {ns : List Nd} {kz : Int} (hP : Pins G w) (hv : RSl eNode G v (markN kz ns)) (hsm : Small ns) (hk : 0 ≤ kz ∧ kz ≤ 1099511627776) :
  Calls Tryz.prog 24 [(.agg [v].toArray), (.int .i64 kz)].toArray w fun e w' => ∃ G', e = .returned (.int .i64 (kz + totN ns)) ∧ Ext noS G w G' w' := by
 refine zV (n := 12) Tryz.func24 Tryz.ntmps24 rfl rfl ?_
 have a : Ext noS G w G w := Ext.refl hP
 have htn := totN_nonneg ns
 refine zB (zC ?_)
 refine qI rfl (xI [v] (v := (.agg [v].toArray)) rfl rfl a.pins (fun d o q f g h => ?_))
 have i := a.step g h
 have j : w.heap.size ≤ d := by have := a.size; omega
 obtain ⟨r, l, b, m, s⟩ := f.shut i j
 refine qM (.int .i64 0) ?_
 refine qe (zA (zB (zC ?_)))
 refine qD rfl (zL (k := 0) rfl Tryz.underlying32 rfl nz30 rfl) ?_
 refine qD rfl (zM (u := v) ag30 rfl (b.pins _ _ _ (m 0 _ rfl))) ?_
 refine qM (.int .i64 kz) ?_
 refine qI rfl (zH (vs := [v, (.int .i64 kz)]) Tryz.func61 nm61 rfl rfl rfl ?_)
 refine Calls.mono (heldNodeS_spec b.pins (hv.mono l) hsm hk) ?_
 rintro _ _ ⟨rfl, rfl⟩
 refine ⟨_, rfl, ?_⟩
 refine qM (.int .i64 (kz + totN ns)) ?_
 refine qe (zA (zB (zB (zC ?_))))
 refine qM (.int .i64 (kz + totN ns)) ?_
 refine qD rfl (yR rfl rfl) ?_
 refine qe (zA ?_)
 refine zY (p := (kz + totN ns : Int) < 0) rfl rfl (fun c => ?_) (fun c => ?_)
 ·skip
  refine zB (zC ?_)
  refine qM (.int .i64 (-1)) ?_
  refine qe (zA ?_)
  refine wp_ret ?_
  refine zO ?_
  refine zP (v := (.int .i64 (-1))) rfl rfl rfl ?_
  exact absurd c (by omega)
 refine wp_skip ?_
 refine zA (zB (zC ?_))
 refine qM (.int .i64 (kz + totN ns)) ?_
 refine qM (.int .i64 (kz + totN ns)) ?_
 refine qe (zA ?_)
 refine wp_ret ?_
 refine zO ?_
 refine zP (v := (.int .i64 (kz + totN ns))) rfl rfl rfl ?_
 exact ⟨_, rfl, b⟩

theorem eqForm_same {w : World} {G : Pin} {u v : Value} {xs : List Nd} (hP : Pins G w) (hu : RSl eNode G u xs) (hv : RSl eNode G v xs) :
  Calls Tryz.prog 20 [(.agg [u].toArray), (.agg [v].toArray)].toArray w fun e w' => ∃ G', e = .returned (.bool true) ∧ Ext noS G w G' w' := by
 refine (eqForm_spec hP hu hv).mono ?_
 rintro e w' ⟨G', rfl, hx⟩
 exact ⟨G', by simp, hx⟩

theorem yS {w : World} {G : Pin} {t z : Int} (hP : Pins G w) :
  Calls Tryz.prog 18 [(.agg [(vJ t), (vJ z)].toArray)].toArray w fun e w' => ∃ G', e = .returned (.agg [.int .i64 t, .int .i64 z].toArray) ∧ Ext noS G w G' w' := by
 refine zV (n := 11) Tryz.func18 Tryz.ntmps18 rfl rfl ?_
 have a : Ext noS G w G w := Ext.refl hP
 refine zB (zC ?_)
 refine qI rfl (xI [(vJ t), (vJ z)] (v := (.agg [(vJ t), (vJ z)].toArray)) rfl rfl a.pins (fun x w2 ay y aa ab => ?_))
 have ac := a.step aa ab
 have ad : w.heap.size ≤ x := by have := a.size; omega
 obtain ⟨G9, a0, b, g, a1⟩ := y.shut ac ad
 refine qI rfl (yJ [(vJ 0), (vJ 0)] zr34 rfl b.pins (fun h a2 a3 i ae af => ?_))
 have c := b.step ae af
 have ag : w.heap.size ≤ h := by have := b.size; omega
 refine qe (zA (zB (zC ?_)))
 refine qI rfl (yJ [(vJ 0), (vJ 0)] zr34 rfl c.pins (fun l a4 ah ai aj m => ?_))
 have d := c.step aj m
 have ak := i.below m
 have o : Apart (some l) (some h) := zI (congrArg some ah) i.lt
 have p : w.heap.size ≤ l := by have := c.size; omega
 refine qe (zA (zB (zC ?_)))
 refine qD rfl (zL (k := 0) rfl Tryz.underlying26 rfl nz3 rfl) ?_
 refine qD rfl (zM (u := (vJ t)) ag3 rfl (d.pins _ _ _ (g 0 _ rfl))) ?_
 refine qD rfl (zL (k := 0) rfl Tryz.underlying34 rfl nz3 rfl) ?_
 refine q0 rfl rfl rfl (yP (cs' := [(vJ t), (vJ 0)]) (us := [(vJ t)]) (v := (vJ t)) sz3 rfl rfl rfl (yE (by rfl)) d.pins ai (Nat.le_of_ble_eq_true rfl) rfl (fun a5 al am q a6 => ?_))
 have f := d.write am q ((zX p))
 have an := ak.keptA q o.symm
 refine qe (zA (zB (zC ?_)))
 refine qD rfl (zL (k := 1) rfl Tryz.underlying26 rfl nz3 rfl) ?_
 refine qD rfl (zM (u := (vJ z)) ag3 rfl (f.pins _ _ _ (g 1 _ rfl))) ?_
 refine qD rfl (zL (k := 1) rfl Tryz.underlying34 rfl nz3 rfl) ?_
 refine q0 rfl rfl rfl (yP (cs' := [(vJ t), (vJ z)]) (us := [(vJ z)]) (v := (vJ z)) sz3 rfl rfl rfl (yE (by rfl)) f.pins al (Nat.le_of_ble_eq_true rfl) rfl (fun a7 ao ap r a8 => ?_))
 have s := f.write ap r ((zX p))
 have aq := an.keptA r o.symm
 refine qe (zA (zB (zC ?_)))
 refine qD rfl (yC (cs := [(vJ t), (vJ z)]) ag34 sz34 rfl (fun j u hj => ao.cell (by simpa using hj))) ?_
 refine q0 rfl rfl rfl (yP (cs' := [(vJ t), (vJ z)]) (us := [(vJ t), (vJ z)]) (v := (.agg [(vJ t), (vJ z)].toArray)) sz34 rfl rfl rfl (qH (by rfl) (by rfl)) s.pins aq (Nat.le_of_ble_eq_true rfl) rfl (fun a9 ar au av ba => ?_))
 have aw := s.write au av ((zX ag))
 refine qe (zA ?_)
 refine wp_ret ?_
 refine zO ?_
 refine c_retc (cs := [(vJ t), (vJ z)]) rfl rfl rfl ag34 sz34 (fun j u hj => by rw [Nat.zero_add]; exact ar.cell hj) ?_
 exact ⟨_, rfl, aw⟩

theorem qC {w : World} {G : Pin} {t z s y : Int} (hP : Pins G w) :
  Calls Tryz.prog 39 [.agg [.int .i64 t, .int .i64 z].toArray, .agg [.int .i64 s, .int .i64 y].toArray].toArray w fun e w' => ∃ (u : Value) (G' : Pin), e = .returned (.tuple #[.agg [u].toArray, .bool (swB t z s y)]) ∧ RSl eNode G' u (swF t z s y) ∧ Ext noS G w G' w' := by
 refine (xU (t := t) (z := z) (s := s) (y := y) hP).mono ?_
 rintro e w' ⟨u, G', rfl, hd, hx⟩
 obtain ⟨G'', h1, h2⟩ := hd.give hx
 exact ⟨u, G'', rfl, h1, h2⟩

theorem law {w : World} {G : Pin} {t z s y : Int} (hP : Pins G w) :
  Calls Tryz.prog 11 [(.agg [(vJ t), (vJ z)].toArray), (.agg [(vJ s), (vJ y)].toArray)].toArray w fun e w' => ∃ G', e = .returned (.bool true) ∧ Ext noS G w G' w' := by
 refine zV (n := 74) Tryz.func11 Tryz.ntmps11 rfl rfl ?_
 have co : Ext noS G w G w := Ext.refl hP
 have htf := totN_nonneg (swF t z s y)
 refine zB (zC ?_)
 refine qI rfl (xI [(vJ t), (vJ z)] (v := (.agg [(vJ t), (vJ z)].toArray)) rfl rfl co.pins (fun b1 w2 ku fy fz f0 => ?_))
 have f1 := co.step fz f0
 have f2 : w.heap.size ≤ b1 := by have := co.size; omega
 obtain ⟨G9, kw, cq, cr, kx⟩ := fy.shut f1 f2
 refine qI rfl (xI [(vJ s), (vJ y)] (v := (.agg [(vJ s), (vJ y)].toArray)) rfl rfl cq.pins (fun ct cu ky f3 f4 f5 => ?_))
 have f6 := cq.step f4 f5
 have f7 : w.heap.size ≤ ct := by have := cq.size; omega
 obtain ⟨d9, cv, ea, cw, k0⟩ := f3.shut f6 f7
 refine qM (.bool false) ?_
 refine qe (zA (zB ?_))
 refine c_cut (fun (en : Nat → Value) (W : World) => ∃ (ap : Nat → Value) (bu : Nat) (aq : Value) (ar : Pin), en = (upd (upd (upd (upd (upd ap 2 (.pointer (some ⟨b1, 0, none⟩))) 3 (.pointer (some ⟨ct, 0, none⟩))) 4 (.bool false)) 5 (.pointer (some ⟨bu, 0, none⟩))) 6 (.bool (swB t z s y))) ∧ Ext noS G w ar W ∧ Pin.le d9 ar ∧ (RSl eNode ar aq (swF t z s y)) ∧ (BxP ar bu [aq])) ?_ ?_
 ·rintro _ cx ⟨ap, bu, aq, ar, rfl, eb, b0, ec, ed⟩
  refine zA (zB ?_)
  refine c_cut (fun (en : Nat → Value) (W : World) => ∃ (ap : Nat → Value) (b2 : Nat) (k : Value) (cy : Nat) (cz : Nat) (bv : Pin), en = (upd (upd (upd (upd (upd (upd (upd ap 2 (.pointer (some ⟨b1, 0, none⟩))) 3 (.pointer (some ⟨ct, 0, none⟩))) 4 (.bool false)) 5 (.pointer (some ⟨bu, 0, none⟩))) 6 (.bool (swB t z s y))) 7 (.pointer (some ⟨b2, 0, none⟩))) 8 (.bool (swB t z s y))) ∧ Ext noS G w bv W ∧ Pin.le ar bv ∧ (BxP bv b2 [k]) ∧ (DForm 99 3 bv W cy cz k (swF t z s y)) ∧ (cz ≤ W.heap.size) ∧ (SzOk w.heap.size cy) ∧ (k.oneCell' = true)) ?_ ?_
  ·rintro _ k1 ⟨ap, b2, k, cy, cz, bv, rfl, bw, a3, b3, ee, f8, ef, k2⟩
   refine zA (zB (zB (zC ?_)))
   refine qD rfl (yC (cs := [k]) ag32 sz32 rfl (fun j u hj => bw.pins _ _ _ (b3 _ _ (by simpa using hj)))) ?_
   refine qD rfl (yC (cs := [aq]) ag32 sz32 rfl (fun j u hj => (Pins.of_le bw.pins a3) _ _ _ (ed _ _ (by simpa using hj)))) ?_
   obtain ⟨k3, f9, ga, gb, _⟩ := ee.read bw.pins
   refine qI rfl (zH (vs := [(.agg [k].toArray), (.agg [aq].toArray)]) Tryz.func20 nm20 rfl rfl rfl ?_)
   refine Calls.mono (eqForm_same ga gb ((ec.mono a3).mono f9)) ?_
   rintro _ k4 ⟨k5, rfl, gc⟩
   refine ⟨_, rfl, ?_⟩
   have b4 := deep_back bw.pins gc
   have c0 := bw.step b4.pins b4.below
   have gd := ee.below b4.below
   have ge := Nat.le_trans f8 b4.below.size
   refine qD rfl (qF rfl) ?_
   refine qM (.bool false) ?_
   refine qN (zU (v := (.bool (swB t z s y))) rfl) ?_
   refine qN (zU (v := (.bool (swB t z s y))) rfl) ?_
   refine qN (r_neqB_same Tryz.underlying4 rfl rfl) ?_
   refine qD rfl (yI (v := (.bool false)) rfl rfl) ?_
   refine qe (zA ?_)
   refine qO rfl rfl ?_
   refine wp_skip ?_
   refine zA (zB (zC ?_))
   refine qM (vJ 1) ?_
   refine qe (zA (zB (zC ?_)))
   refine qD rfl (yC (cs := [k]) ag32 sz32 rfl (fun j u hj => c0.pins _ _ _ (b3 _ _ (by simpa using hj)))) ?_
   refine qM (vJ 1) ?_
   refine qI rfl (zH (vs := [(.agg [k].toArray), (vJ 1)]) Tryz.func23 nm23 rfl rfl rfl ?_)
   refine Calls.mono (markFormX_spec (kz := 1) c0.pins gd ge (sw_small _ _ _ _) (by omega)) ?_
   rintro _ k6 ⟨rfl, gf, gg⟩
   refine ⟨_, rfl, ?_⟩
   have eg := c0.trans gg (fun i hi => Or.inl (Nat.le_trans ef.size hi.1))
   obtain ⟨k7, au, gh, eh, gi⟩ := gf.read eg.pins
   have c1 := eg.promise au gh gi ef.size
   refine qM (vJ (1 + totN (swF t z s y))) ?_
   refine qe (zA (zB (zC ?_)))
   refine qM (vJ 1) ?_
   refine qe (zA (zB (zC ?_)))
   refine qD rfl (yC (cs := [k]) ag32 sz32 rfl (fun j u hj => (Pins.of_le c1.pins au) _ _ _ (b3 _ _ (by simpa using hj)))) ?_
   refine qM (vJ 1) ?_
   refine qI rfl (zH (vs := [(.agg [k].toArray), (vJ 1)]) Tryz.func24 nm24 rfl rfl rfl ?_)
   refine Calls.mono (heldFormX_spec (kz := 1) (ns := swF t z s y) c1.pins eh (sw_small _ _ _ _) (by omega)) ?_
   rintro _ c2 ⟨ei, rfl, av⟩
   refine ⟨_, rfl, ?_⟩
   have ej := c1.tr av
   refine qM (vJ (1 + totN (swF t z s y))) ?_
   refine qe (zA (zB (zB (zC ?_))))
   refine qM (vJ (1 + totN (swF t z s y))) ?_
   refine qD rfl (yR rfl rfl) ?_
   refine qe (zA ?_)
   refine zY (p := (1 + totN (swF t z s y) : Int) < 0) rfl rfl (fun ek => ?_) (fun ek => ?_)
   ·skip
    refine zB (zC ?_)
    refine qM (.bool false) ?_
    refine qe (zA ?_)
    refine wp_ret ?_
    refine zO ?_
    refine zP (v := (.bool false)) rfl rfl rfl ?_
    exfalso; omega
   refine wp_skip ?_
   refine zA (zB (zB (zC ?_)))
   refine qM (vJ (1 + totN (swF t z s y))) ?_
   refine qM (vJ (1 + totN (swF t z s y))) ?_
   refine qD rfl (r_neq rfl rfl) ?_
   refine qe (zA ?_)
   refine zY (p := (1 + totN (swF t z s y) : Int) ≠ (1 + totN (swF t z s y))) rfl rfl (fun el => ?_) (fun el => ?_)
   ·skip
    refine zB (zC ?_)
    refine qM (.bool false) ?_
    refine qe (zA ?_)
    refine wp_ret ?_
    refine zO ?_
    refine zP (v := (.bool false)) rfl rfl rfl ?_
    exfalso; omega
   refine wp_skip ?_
   refine zA (zB ?_)
   refine c_cut (fun (en : Nat → Value) (W : World) => ∃ (ap : Nat → Value) (c3 : Nat) (bx : Value) (bz : Pin), en = (upd (upd (upd (upd (upd (upd (upd ap 4 (.bool false)) 5 (.pointer (some ⟨bu, 0, none⟩))) 6 (.bool (swB t z s y))) 7 (.pointer (some ⟨b2, 0, none⟩))) 9 (vJ (1 + totN (swF t z s y)))) 11 (.pointer (some ⟨c3, 0, none⟩))) 12 (.bool (swB t z s y))) ∧ Ext noS G w bz W ∧ Pin.le ei bz ∧ (RSl eNode bz bx (swF t z s y)) ∧ (BxP bz c3 [bx])) ?_ ?_
   ·rintro _ k8 ⟨ap, c3, bx, bz, rfl, b5, b6, gj, gk⟩
    refine zA (zB (zB (zC ?_)))
    refine qD rfl (yC (cs := [bx]) ag32 sz32 rfl (fun j u hj => b5.pins _ _ _ (gk _ _ (by simpa using hj)))) ?_
    refine qD rfl (yC (cs := [aq]) ag32 sz32 rfl (fun j u hj => (Pins.of_le b5.pins (Pin.le_trans (Pin.le_trans (Pin.le_trans a3 au) av.le) b6)) _ _ _ (ed _ _ (by simpa using hj)))) ?_
    refine qI rfl (zH (vs := [(.agg [bx].toArray), (.agg [aq].toArray)]) Tryz.func20 nm20 rfl rfl rfl ?_)
    refine Calls.mono (eqForm_same b5.pins gj (ec.mono (Pin.le_trans (Pin.le_trans (Pin.le_trans a3 au) av.le) b6))) ?_
    rintro _ k9 ⟨la, rfl, c4⟩
    refine ⟨_, rfl, ?_⟩
    have c5 := b5.tr c4
    refine qD rfl (qF rfl) ?_
    refine qM (.bool false) ?_
    refine qN (zU (v := (.bool (swB t z s y))) rfl) ?_
    refine qN (zU (v := (.bool (swB t z s y))) rfl) ?_
    refine qN (r_neqB_same Tryz.underlying4 rfl rfl) ?_
    refine qD rfl (yI (v := (.bool false)) rfl rfl) ?_
    refine qe (zA ?_)
    refine qO rfl rfl ?_
    refine wp_skip ?_
    refine zA (zB (zC ?_))
    refine qM (vJ 1) ?_
    refine qe (zA (zB (zC ?_)))
    refine qD rfl (yC (cs := [k]) ag32 sz32 rfl (fun j u hj => (Pins.of_le c5.pins (Pin.le_trans (Pin.le_trans (Pin.le_trans au av.le) b6) c4.le)) _ _ _ (b3 _ _ (by simpa using hj)))) ?_
    refine qM (vJ 1) ?_
    refine qI rfl (zH (vs := [(.agg [k].toArray), (vJ 1)]) Tryz.func24 nm24 rfl rfl rfl ?_)
    refine Calls.mono (heldFormX_spec (kz := 1) (ns := swF t z s y) c5.pins (eh.mono (Pin.le_trans (Pin.le_trans av.le b6) c4.le)) (sw_small _ _ _ _) (by omega)) ?_
    rintro _ lb ⟨lc, rfl, gl⟩
    refine ⟨_, rfl, ?_⟩
    have gm := c5.tr gl
    refine qM (vJ (1 + totN (swF t z s y))) ?_
    refine qe (zA (zB (zB (zC ?_))))
    refine qM (vJ (1 + totN (swF t z s y))) ?_
    refine qD rfl (yR rfl rfl) ?_
    refine qe (zA ?_)
    refine zY (p := (1 + totN (swF t z s y) : Int) < 0) rfl rfl (fun h => absurd h ek) (fun _ => ?_)
    refine wp_skip ?_
    refine zA (zB (zB (zC ?_)))
    refine qM (vJ (1 + totN (swF t z s y))) ?_
    refine qM (vJ (1 + totN (swF t z s y))) ?_
    refine qD rfl (r_neq rfl rfl) ?_
    refine qe (zA ?_)
    refine zY (p := (1 + totN (swF t z s y) : Int) ≠ (1 + totN (swF t z s y))) rfl rfl (fun h => absurd h el) (fun _ => ?_)
    refine wp_skip ?_
    refine zA (zB (zC ?_))
    refine qM (.bool true) ?_
    refine qe (zA ?_)
    refine wp_ret ?_
    refine zO ?_
    refine zP (v := (.bool true)) rfl rfl rfl ?_
    exact ⟨_, rfl, gm⟩
   ·skip
    refine xF (S := fun wz => Pins ei wz) (last := 11) (by kernel_rfl) rfl ?_
    have em : Below c2.heap.size c2 c2.drew := (Below.refl _ _).drew
    have gn := ej.pins.below em
    have aw := ej.step gn em
    refine dT (i := 0) rfl rfl (by kernel_rfl) (fun _ hS => yC (cs := [(vJ t), (vJ z)]) ag26 sz26 rfl (fun j u hj => (Pins.of_le hS (Pin.le_trans (Pin.le_trans (Pin.le_trans (Pin.le_trans cv b0) a3) au) av.le)) _ _ _ (cr _ _ (by simpa using hj)))) aw.pins ?_
    refine dT (i := 2) rfl rfl (by kernel_rfl) (fun _ hS => yC (cs := [(vJ s), (vJ y)]) ag26 sz26 rfl (fun j u hj => (Pins.of_le hS (Pin.le_trans (Pin.le_trans (Pin.le_trans b0 a3) au) av.le)) _ _ _ (cw _ _ (by simpa using hj)))) aw.pins ?_
    refine xS (i := 1) (j := 8) (by kernel_rfl) ?_ ?_
    ·skip
     refine (zK (i := 1) rfl rfl rfl (zD rfl _) (zH (vs := [(.agg [(vJ t), (vJ z)].toArray)]) Tryz.func18 nm18 rfl rfl rfl ?_))
     refine Calls.mono (yS (t := t) (z := z) aw.pins) ?_
     rintro _ ld ⟨lf, rfl, a⟩
     refine ⟨_, rfl, ?_⟩
     have a4 := aw.tr a
     refine ⟨fun _ => (Pins.of_le a4.pins a.le), ?_⟩
     refine xS (i := 3) (j := 8) (by kernel_rfl) ?_ ?_
     ·skip
      refine (zK (i := 3) rfl rfl rfl (zD rfl _) (zH (vs := [(.agg [(vJ s), (vJ y)].toArray)]) Tryz.func18 nm18 rfl rfl rfl ?_))
      refine Calls.mono (yS (t := s) (z := y) a4.pins) ?_
      rintro _ lg ⟨lh, rfl, d⟩
      refine ⟨_, rfl, ?_⟩
      have a5 := a4.tr d
      refine ⟨fun _ => (Pins.of_le a5.pins (Pin.le_trans a.le d.le)), ?_⟩
      refine xS (i := 4) (j := 8) (by kernel_rfl) ?_ ?_
      ·skip
       refine (zK (i := 4) rfl rfl rfl (zD rfl _) (zH (vs := [(.agg [(vJ t), (vJ z)].toArray), (.agg [(vJ s), (vJ y)].toArray)]) Tryz.func39 nm39 rfl rfl rfl ?_))
       refine Calls.mono (qC (t := t) (z := z) (s := s) (y := y) a5.pins) ?_
       rintro _ li ⟨a6, lj, rfl, eo, ad⟩
       refine ⟨_, rfl, ?_⟩
       have ax := a5.tr ad
       refine ⟨fun _ => (Pins.of_le ax.pins (Pin.le_trans (Pin.le_trans a.le d.le) ad.le)), ?_⟩
       refine dM 5 (.tuple #[(.agg [a6].toArray), (.bool (swB t z s y))]) (Pins.of_le ax.pins (Pin.le_trans (Pin.le_trans a.le d.le) ad.le)) ?_
       refine dT (i := 6) rfl rfl (by kernel_rfl) (fun _ _ => zT (v := (.agg [a6].toArray)) rfl rfl) (Pins.of_le ax.pins (Pin.le_trans (Pin.le_trans a.le d.le) ad.le)) ?_
       refine dT (i := 7) rfl rfl (by kernel_rfl) (fun _ _ => zT (v := (.bool (swB t z s y))) rfl rfl) (Pins.of_le ax.pins (Pin.le_trans (Pin.le_trans a.le d.le) ad.le)) ?_
       refine dO (i := 8) (zK (i := 8) rfl rfl rfl (zD rfl _) (yJ [(.slice none 0 0)] zr32 rfl ax.pins (fun ep lk ll gp gq gr => ?_)))
       have c6 := ax.step gq gr
       have eq : w.heap.size ≤ ep := by have := ax.size; omega
       refine ⟨fun _ => (Pins.of_le c6.pins (Pin.le_trans (Pin.le_trans a.le d.le) ad.le)), ?_⟩
       refine dO (i := 9) (qL (i := 9) rfl rfl rfl (zD rfl _) (yP (cs' := [a6]) (us := [a6]) (v := (.agg [a6].toArray)) sz32 rfl rfl rfl (yE eo.one) c6.pins gp (Nat.le_of_ble_eq_true rfl) rfl (fun lm gs gt gu ln => ?_)))
       have gv := c6.write gt gu ((zX eq))
       obtain ⟨gw, b7, c7, gx, lo⟩ := gs.shut gv eq
       refine ⟨fun _ => (Pins.of_le c7.pins (Pin.le_trans (Pin.le_trans (Pin.le_trans a.le d.le) ad.le) b7)), ?_⟩
       refine dM 10 (.bool (swB t z s y)) (Pins.of_le c7.pins (Pin.le_trans (Pin.le_trans (Pin.le_trans a.le d.le) ad.le) b7)) ?_
       refine yH (by kernel_rfl) ?_
       exact xL ⟨_, ep, a6, gw, (pS 12 (pS 11 (pS 9 (pS 7 (pS 6 (pS 5 (pU 4))))))), c7, (Pin.le_trans (Pin.le_trans (Pin.le_trans a.le d.le) ad.le) b7), (eo.mono b7), (gx.mono (Pin.le_refl _))⟩
      ·skip
       refine (zK (i := 8) rfl rfl rfl (zD rfl _) (yJ [(.slice none 0 0)] zr32 rfl a5.pins (fun er lp lq gy gz g0 => ?_)))
       have c8 := a5.step gz g0
       have es : w.heap.size ≤ er := by have := a5.size; omega
       refine ⟨fun _ => (Pins.of_le c8.pins (Pin.le_trans a.le d.le)), ?_⟩
       refine dO (i := 4) (zK (i := 4) rfl rfl rfl (zD rfl _) (zH (vs := [(.agg [(vJ t), (vJ z)].toArray), (.agg [(vJ s), (vJ y)].toArray)]) Tryz.func39 nm39 rfl rfl rfl ?_))
       refine Calls.mono (qC (t := t) (z := z) (s := s) (y := y) c8.pins) ?_
       rintro _ lr ⟨a7, ls, rfl, et, ae⟩
       refine ⟨_, rfl, ?_⟩
       have a8 := c8.tr ae
       have g1 := gy.ext ae
       refine ⟨fun _ => (Pins.of_le a8.pins (Pin.le_trans (Pin.le_trans a.le d.le) ae.le)), ?_⟩
       refine dM 5 (.tuple #[(.agg [a7].toArray), (.bool (swB t z s y))]) (Pins.of_le a8.pins (Pin.le_trans (Pin.le_trans a.le d.le) ae.le)) ?_
       refine dT (i := 6) rfl rfl (by kernel_rfl) (fun _ _ => zT (v := (.agg [a7].toArray)) rfl rfl) (Pins.of_le a8.pins (Pin.le_trans (Pin.le_trans a.le d.le) ae.le)) ?_
       refine dT (i := 7) rfl rfl (by kernel_rfl) (fun _ _ => zT (v := (.bool (swB t z s y))) rfl rfl) (Pins.of_le a8.pins (Pin.le_trans (Pin.le_trans a.le d.le) ae.le)) ?_
       refine dO (i := 9) (qL (i := 9) rfl rfl rfl (zD rfl _) (yP (cs' := [a7]) (us := [a7]) (v := (.agg [a7].toArray)) sz32 rfl rfl rfl (yE et.one) a8.pins g1 (Nat.le_of_ble_eq_true rfl) rfl (fun lu g2 g3 g4 lv => ?_)))
       have g5 := a8.write g3 g4 ((zX es))
       obtain ⟨g6, b8, c9, g7, lw⟩ := g2.shut g5 es
       refine ⟨fun _ => (Pins.of_le c9.pins (Pin.le_trans (Pin.le_trans (Pin.le_trans a.le d.le) ae.le) b8)), ?_⟩
       refine dM 10 (.bool (swB t z s y)) (Pins.of_le c9.pins (Pin.le_trans (Pin.le_trans (Pin.le_trans a.le d.le) ae.le) b8)) ?_
       refine yH (by kernel_rfl) ?_
       exact xL ⟨_, er, a7, g6, (pS 12 (pS 11 (pS 9 (pS 7 (pS 6 (pS 5 (pU 4))))))), c9, (Pin.le_trans (Pin.le_trans (Pin.le_trans a.le d.le) ae.le) b8), (et.mono b8), (g7.mono (Pin.le_refl _))⟩
     ·skip
      refine (zK (i := 8) rfl rfl rfl (zD rfl _) (yJ [(.slice none 0 0)] zr32 rfl a4.pins (fun eu lx ly g8 g9 ha => ?_)))
      have da := a4.step g9 ha
      have ev : w.heap.size ≤ eu := by have := a4.size; omega
      refine ⟨fun _ => (Pins.of_le da.pins a.le), ?_⟩
      refine dO (i := 3) (zK (i := 3) rfl rfl rfl (zD rfl _) (zH (vs := [(.agg [(vJ s), (vJ y)].toArray)]) Tryz.func18 nm18 rfl rfl rfl ?_))
      refine Calls.mono (yS (t := s) (z := y) da.pins) ?_
      rintro _ lz ⟨l0, rfl, q⟩
      refine ⟨_, rfl, ?_⟩
      have db := da.tr q
      have hb := g8.ext q
      refine ⟨fun _ => (Pins.of_le db.pins (Pin.le_trans a.le q.le)), ?_⟩
      refine dO (i := 4) (zK (i := 4) rfl rfl rfl (zD rfl _) (zH (vs := [(.agg [(vJ t), (vJ z)].toArray), (.agg [(vJ s), (vJ y)].toArray)]) Tryz.func39 nm39 rfl rfl rfl ?_))
      refine Calls.mono (qC (t := t) (z := z) (s := s) (y := y) db.pins) ?_
      rintro _ l1 ⟨a9, l2, rfl, ew, af⟩
      refine ⟨_, rfl, ?_⟩
      have ba := db.tr af
      have hc := hb.ext af
      refine ⟨fun _ => (Pins.of_le ba.pins (Pin.le_trans (Pin.le_trans a.le q.le) af.le)), ?_⟩
      refine dM 5 (.tuple #[(.agg [a9].toArray), (.bool (swB t z s y))]) (Pins.of_le ba.pins (Pin.le_trans (Pin.le_trans a.le q.le) af.le)) ?_
      refine dT (i := 6) rfl rfl (by kernel_rfl) (fun _ _ => zT (v := (.agg [a9].toArray)) rfl rfl) (Pins.of_le ba.pins (Pin.le_trans (Pin.le_trans a.le q.le) af.le)) ?_
      refine dT (i := 7) rfl rfl (by kernel_rfl) (fun _ _ => zT (v := (.bool (swB t z s y))) rfl rfl) (Pins.of_le ba.pins (Pin.le_trans (Pin.le_trans a.le q.le) af.le)) ?_
      refine dO (i := 9) (qL (i := 9) rfl rfl rfl (zD rfl _) (yP (cs' := [a9]) (us := [a9]) (v := (.agg [a9].toArray)) sz32 rfl rfl rfl (yE ew.one) ba.pins hc (Nat.le_of_ble_eq_true rfl) rfl (fun l3 hd he hf l4 => ?_)))
      have hg := ba.write he hf ((zX ev))
      obtain ⟨hh, b9, dc, hk, l5⟩ := hd.shut hg ev
      refine ⟨fun _ => (Pins.of_le dc.pins (Pin.le_trans (Pin.le_trans (Pin.le_trans a.le q.le) af.le) b9)), ?_⟩
      refine dM 10 (.bool (swB t z s y)) (Pins.of_le dc.pins (Pin.le_trans (Pin.le_trans (Pin.le_trans a.le q.le) af.le) b9)) ?_
      refine yH (by kernel_rfl) ?_
      exact xL ⟨_, eu, a9, hh, (pS 12 (pS 11 (pS 9 (pS 7 (pS 6 (pS 5 (pU 4))))))), dc, (Pin.le_trans (Pin.le_trans (Pin.le_trans a.le q.le) af.le) b9), (ew.mono b9), (hk.mono (Pin.le_refl _))⟩
    ·skip
     refine (zK (i := 8) rfl rfl rfl (zD rfl _) (yJ [(.slice none 0 0)] zr32 rfl aw.pins (fun ex l6 l7 hl hm hn => ?_)))
     have dd := aw.step hm hn
     have ey : w.heap.size ≤ ex := by have := aw.size; omega
     refine ⟨fun _ => dd.pins, ?_⟩
     refine dO (i := 1) (zK (i := 1) rfl rfl rfl (zD rfl _) (zH (vs := [(.agg [(vJ t), (vJ z)].toArray)]) Tryz.func18 nm18 rfl rfl rfl ?_))
     refine Calls.mono (yS (t := t) (z := z) dd.pins) ?_
     rintro _ l8 ⟨l9, rfl, l⟩
     refine ⟨_, rfl, ?_⟩
     have de := dd.tr l
     have ho := hl.ext l
     refine ⟨fun _ => (Pins.of_le de.pins l.le), ?_⟩
     refine dO (i := 3) (zK (i := 3) rfl rfl rfl (zD rfl _) (zH (vs := [(.agg [(vJ s), (vJ y)].toArray)]) Tryz.func18 nm18 rfl rfl rfl ?_))
     refine Calls.mono (yS (t := s) (z := y) de.pins) ?_
     rintro _ ma ⟨mb, rfl, r⟩
     refine ⟨_, rfl, ?_⟩
     have df := de.tr r
     have hp := ho.ext r
     refine ⟨fun _ => (Pins.of_le df.pins (Pin.le_trans l.le r.le)), ?_⟩
     refine dO (i := 4) (zK (i := 4) rfl rfl rfl (zD rfl _) (zH (vs := [(.agg [(vJ t), (vJ z)].toArray), (.agg [(vJ s), (vJ y)].toArray)]) Tryz.func39 nm39 rfl rfl rfl ?_))
     refine Calls.mono (qC (t := t) (z := z) (s := s) (y := y) df.pins) ?_
     rintro _ mc ⟨bb, md, rfl, ez, ag⟩
     refine ⟨_, rfl, ?_⟩
     have bc := df.tr ag
     have hq := hp.ext ag
     refine ⟨fun _ => (Pins.of_le bc.pins (Pin.le_trans (Pin.le_trans l.le r.le) ag.le)), ?_⟩
     refine dM 5 (.tuple #[(.agg [bb].toArray), (.bool (swB t z s y))]) (Pins.of_le bc.pins (Pin.le_trans (Pin.le_trans l.le r.le) ag.le)) ?_
     refine dT (i := 6) rfl rfl (by kernel_rfl) (fun _ _ => zT (v := (.agg [bb].toArray)) rfl rfl) (Pins.of_le bc.pins (Pin.le_trans (Pin.le_trans l.le r.le) ag.le)) ?_
     refine dT (i := 7) rfl rfl (by kernel_rfl) (fun _ _ => zT (v := (.bool (swB t z s y))) rfl rfl) (Pins.of_le bc.pins (Pin.le_trans (Pin.le_trans l.le r.le) ag.le)) ?_
     refine dO (i := 9) (qL (i := 9) rfl rfl rfl (zD rfl _) (yP (cs' := [bb]) (us := [bb]) (v := (.agg [bb].toArray)) sz32 rfl rfl rfl (yE ez.one) bc.pins hq (Nat.le_of_ble_eq_true rfl) rfl (fun me hr hs ht mf => ?_)))
     have hu := bc.write hs ht ((zX ey))
     obtain ⟨hv, ca, dg, hw, mg⟩ := hr.shut hu ey
     refine ⟨fun _ => (Pins.of_le dg.pins (Pin.le_trans (Pin.le_trans (Pin.le_trans l.le r.le) ag.le) ca)), ?_⟩
     refine dM 10 (.bool (swB t z s y)) (Pins.of_le dg.pins (Pin.le_trans (Pin.le_trans (Pin.le_trans l.le r.le) ag.le) ca)) ?_
     refine yH (by kernel_rfl) ?_
     exact xL ⟨_, ex, bb, hv, (pS 12 (pS 11 (pS 9 (pS 7 (pS 6 (pS 5 (pU 4))))))), dg, (Pin.le_trans (Pin.le_trans (Pin.le_trans l.le r.le) ag.le) ca), (ez.mono ca), (hw.mono (Pin.le_refl _))⟩
  ·skip
   refine xF (S := fun wz => Pins ar wz) (last := 11) (by kernel_rfl) rfl ?_
   have e0 : Below cx.heap.size cx cx.drew := (Below.refl _ _).drew
   have hx := eb.pins.below e0
   have ay := eb.step hx e0
   refine dT (i := 0) rfl rfl (by kernel_rfl) (fun _ hS => yC (cs := [(vJ t), (vJ z)]) ag26 sz26 rfl (fun j u hj => (Pins.of_le hS (Pin.le_trans cv b0)) _ _ _ (cr _ _ (by simpa using hj)))) ay.pins ?_
   refine dT (i := 2) rfl rfl (by kernel_rfl) (fun _ hS => yC (cs := [(vJ s), (vJ y)]) ag26 sz26 rfl (fun j u hj => (Pins.of_le hS b0) _ _ _ (cw _ _ (by simpa using hj)))) ay.pins ?_
   refine xS (i := 1) (j := 8) (by kernel_rfl) ?_ ?_
   ·skip
    refine (zK (i := 1) rfl rfl rfl (zD rfl _) (zH (vs := [(.agg [(vJ t), (vJ z)].toArray)]) Tryz.func18 nm18 rfl rfl rfl ?_))
    refine Calls.mono (yS (t := t) (z := z) ay.pins) ?_
    rintro _ mh ⟨mi, rfl, b⟩
    refine ⟨_, rfl, ?_⟩
    have bd := ay.tr b
    refine ⟨fun _ => (Pins.of_le bd.pins b.le), ?_⟩
    refine xS (i := 3) (j := 8) (by kernel_rfl) ?_ ?_
    ·skip
     refine (zK (i := 3) rfl rfl rfl (zD rfl _) (zH (vs := [(.agg [(vJ s), (vJ y)].toArray)]) Tryz.func18 nm18 rfl rfl rfl ?_))
     refine Calls.mono (yS (t := s) (z := y) bd.pins) ?_
     rintro _ e1 ⟨mj, rfl, f⟩
     refine ⟨_, rfl, ?_⟩
     have az := bd.tr f
     refine ⟨fun _ => (Pins.of_le az.pins (Pin.le_trans b.le f.le)), ?_⟩
     refine xS (i := 4) (j := 8) (by kernel_rfl) ?_ ?_
     ·skip
      refine (zK (i := 4) rfl rfl rfl (zD rfl _) (zH (vs := [(.agg [(vJ t), (vJ z)].toArray), (.agg [(vJ s), (vJ y)].toArray)]) Tryz.func39 nm39 rfl rfl rfl ?_))
      refine Calls.mono (xU (t := t) (z := z) (s := s) (y := y) az.pins) ?_
      rintro _ cb ⟨be, mk, rfl, e2, ah⟩
      refine ⟨_, rfl, ?_⟩
      have a0 := az.tr ah
      have e3 := e2.one
      refine ⟨fun _ => (Pins.of_le a0.pins (Pin.le_trans (Pin.le_trans b.le f.le) ah.le)), ?_⟩
      refine dM 5 (.tuple #[(.agg [be].toArray), (.bool (swB t z s y))]) (Pins.of_le a0.pins (Pin.le_trans (Pin.le_trans b.le f.le) ah.le)) ?_
      refine dT (i := 6) rfl rfl (by kernel_rfl) (fun _ _ => zT (v := (.agg [be].toArray)) rfl rfl) (Pins.of_le a0.pins (Pin.le_trans (Pin.le_trans b.le f.le) ah.le)) ?_
      refine dT (i := 7) rfl rfl (by kernel_rfl) (fun _ _ => zT (v := (.bool (swB t z s y))) rfl rfl) (Pins.of_le a0.pins (Pin.le_trans (Pin.le_trans b.le f.le) ah.le)) ?_
      refine dO (i := 8) (zK (i := 8) rfl rfl rfl (zD rfl _) (yJ [(.slice none 0 0)] zr32 rfl a0.pins (fun cc ml hy hz h0 dh => ?_)))
      have di := a0.step h0 dh
      have h1 := e2.below dh
      have h2 := Nat.le_trans (Nat.le_refl cb.heap.size) dh.size
      have e4 : cb.heap.size ≤ cc ∨ cc < e1.heap.size := Or.inl (by have e := Option.some.inj (congrArg some hy); have := (Nat.le_refl cb.heap.size); omega)
      have e5 : w.heap.size ≤ cc := by have := a0.size; omega
      refine ⟨fun _ => (Pins.of_le di.pins (Pin.le_trans (Pin.le_trans b.le f.le) ah.le)), ?_⟩
      refine dO (i := 9) (qL (i := 9) rfl rfl rfl (zD rfl _) (yP (cs' := [be]) (us := [be]) (v := (.agg [be].toArray)) sz32 rfl rfl rfl (yE e3) di.pins hz (Nat.le_of_ble_eq_true rfl) rfl (fun mm h3 h4 dj mn => ?_)))
      have h5 := di.write h4 dj ((zX e5))
      have h6 := h1.kept dj e4
      have h7 := Nat.le_trans h2 dj.size
      obtain ⟨h8, cd, dk, h9, ia⟩ := h3.shut h5 e5
      have ib := h6.more cd ia e4
      refine ⟨fun _ => (Pins.of_le dk.pins (Pin.le_trans (Pin.le_trans (Pin.le_trans b.le f.le) ah.le) cd)), ?_⟩
      refine dM 10 (.bool (swB t z s y)) (Pins.of_le dk.pins (Pin.le_trans (Pin.le_trans (Pin.le_trans b.le f.le) ah.le) cd)) ?_
      refine yH (by kernel_rfl) ?_
      exact xL ⟨_, cc, be, e1.heap.size, cb.heap.size, h8, (pS 8 (pS 7 (pS 6 (pS 5 (pS 4 (pS 3 (pU 2))))))), dk, (Pin.le_trans (Pin.le_trans (Pin.le_trans b.le f.le) ah.le) cd), (h9.mono (Pin.le_refl _)), ib, h7, ⟨az.size⟩, e3⟩
     ·skip
      refine (zK (i := 8) rfl rfl rfl (zD rfl _) (yJ [(.slice none 0 0)] zr32 rfl az.pins (fun e6 ic mo dl ie ig => ?_)))
      have ce := az.step ie ig
      have e7 : w.heap.size ≤ e6 := by have := az.size; omega
      refine ⟨fun _ => (Pins.of_le ce.pins (Pin.le_trans b.le f.le)), ?_⟩
      refine dO (i := 4) (zK (i := 4) rfl rfl rfl (zD rfl _) (zH (vs := [(.agg [(vJ t), (vJ z)].toArray), (.agg [(vJ s), (vJ y)].toArray)]) Tryz.func39 nm39 rfl rfl rfl ?_))
      refine Calls.mono (xU (t := t) (z := z) (s := s) (y := y) ce.pins) ?_
      rintro _ e8 ⟨bf, mp, rfl, e9, ai⟩
      refine ⟨_, rfl, ?_⟩
      have bg := ce.tr ai
      have ih := dl.ext ai
      have fa := e9.one
      refine ⟨fun _ => (Pins.of_le bg.pins (Pin.le_trans (Pin.le_trans b.le f.le) ai.le)), ?_⟩
      refine dM 5 (.tuple #[(.agg [bf].toArray), (.bool (swB t z s y))]) (Pins.of_le bg.pins (Pin.le_trans (Pin.le_trans b.le f.le) ai.le)) ?_
      refine dT (i := 6) rfl rfl (by kernel_rfl) (fun _ _ => zT (v := (.agg [bf].toArray)) rfl rfl) (Pins.of_le bg.pins (Pin.le_trans (Pin.le_trans b.le f.le) ai.le)) ?_
      refine dT (i := 7) rfl rfl (by kernel_rfl) (fun _ _ => zT (v := (.bool (swB t z s y))) rfl rfl) (Pins.of_le bg.pins (Pin.le_trans (Pin.le_trans b.le f.le) ai.le)) ?_
      refine dO (i := 9) (qL (i := 9) rfl rfl rfl (zD rfl _) (yP (cs' := [bf]) (us := [bf]) (v := (.agg [bf].toArray)) sz32 rfl rfl rfl (yE fa) bg.pins ih (Nat.le_of_ble_eq_true rfl) rfl (fun mq ii ij dm mr => ?_)))
      have ik := bg.write ij dm ((zX e7))
      have il := e9.kept dm (Or.inr dl.lt)
      have im := Nat.le_trans (Nat.le_refl e8.heap.size) dm.size
      obtain ⟨io, cf, dn, ip, iq⟩ := ii.shut ik e7
      have ir := il.more cf iq (Or.inr dl.lt)
      refine ⟨fun _ => (Pins.of_le dn.pins (Pin.le_trans (Pin.le_trans (Pin.le_trans b.le f.le) ai.le) cf)), ?_⟩
      refine dM 10 (.bool (swB t z s y)) (Pins.of_le dn.pins (Pin.le_trans (Pin.le_trans (Pin.le_trans b.le f.le) ai.le) cf)) ?_
      refine yH (by kernel_rfl) ?_
      exact xL ⟨_, e6, bf, ic.heap.size, e8.heap.size, io, (pS 8 (pS 7 (pS 6 (pS 5 (pS 4 (pS 3 (pU 2))))))), dn, (Pin.le_trans (Pin.le_trans (Pin.le_trans b.le f.le) ai.le) cf), (ip.mono (Pin.le_refl _)), ir, im, ⟨ce.size⟩, fa⟩
    ·skip
     refine (zK (i := 8) rfl rfl rfl (zD rfl _) (yJ [(.slice none 0 0)] zr32 rfl bd.pins (fun fb ms mt it iu iv => ?_)))
     have dp := bd.step iu iv
     have fc : w.heap.size ≤ fb := by have := bd.size; omega
     refine ⟨fun _ => (Pins.of_le dp.pins b.le), ?_⟩
     refine dO (i := 3) (zK (i := 3) rfl rfl rfl (zD rfl _) (zH (vs := [(.agg [(vJ s), (vJ y)].toArray)]) Tryz.func18 nm18 rfl rfl rfl ?_))
     refine Calls.mono (yS (t := s) (z := y) dp.pins) ?_
     rintro _ iw ⟨mu, rfl, x⟩
     refine ⟨_, rfl, ?_⟩
     have cg := dp.tr x
     have dq := it.ext x
     refine ⟨fun _ => (Pins.of_le cg.pins (Pin.le_trans b.le x.le)), ?_⟩
     refine dO (i := 4) (zK (i := 4) rfl rfl rfl (zD rfl _) (zH (vs := [(.agg [(vJ t), (vJ z)].toArray), (.agg [(vJ s), (vJ y)].toArray)]) Tryz.func39 nm39 rfl rfl rfl ?_))
     refine Calls.mono (xU (t := t) (z := z) (s := s) (y := y) cg.pins) ?_
     rintro _ fd ⟨bh, mv, rfl, fe, aj⟩
     refine ⟨_, rfl, ?_⟩
     have bi := cg.tr aj
     have ix := dq.ext aj
     have ff := fe.one
     refine ⟨fun _ => (Pins.of_le bi.pins (Pin.le_trans (Pin.le_trans b.le x.le) aj.le)), ?_⟩
     refine dM 5 (.tuple #[(.agg [bh].toArray), (.bool (swB t z s y))]) (Pins.of_le bi.pins (Pin.le_trans (Pin.le_trans b.le x.le) aj.le)) ?_
     refine dT (i := 6) rfl rfl (by kernel_rfl) (fun _ _ => zT (v := (.agg [bh].toArray)) rfl rfl) (Pins.of_le bi.pins (Pin.le_trans (Pin.le_trans b.le x.le) aj.le)) ?_
     refine dT (i := 7) rfl rfl (by kernel_rfl) (fun _ _ => zT (v := (.bool (swB t z s y))) rfl rfl) (Pins.of_le bi.pins (Pin.le_trans (Pin.le_trans b.le x.le) aj.le)) ?_
     refine dO (i := 9) (qL (i := 9) rfl rfl rfl (zD rfl _) (yP (cs' := [bh]) (us := [bh]) (v := (.agg [bh].toArray)) sz32 rfl rfl rfl (yE ff) bi.pins ix (Nat.le_of_ble_eq_true rfl) rfl (fun mw iy iz dr mx => ?_)))
     have i0 := bi.write iz dr ((zX fc))
     have i1 := fe.kept dr (Or.inr dq.lt)
     have i2 := Nat.le_trans (Nat.le_refl fd.heap.size) dr.size
     obtain ⟨i3, ch, ds, i4, i5⟩ := iy.shut i0 fc
     have i6 := i1.more ch i5 (Or.inr dq.lt)
     refine ⟨fun _ => (Pins.of_le ds.pins (Pin.le_trans (Pin.le_trans (Pin.le_trans b.le x.le) aj.le) ch)), ?_⟩
     refine dM 10 (.bool (swB t z s y)) (Pins.of_le ds.pins (Pin.le_trans (Pin.le_trans (Pin.le_trans b.le x.le) aj.le) ch)) ?_
     refine yH (by kernel_rfl) ?_
     exact xL ⟨_, fb, bh, iw.heap.size, fd.heap.size, i3, (pS 8 (pS 7 (pS 6 (pS 5 (pS 4 (pS 3 (pU 2))))))), ds, (Pin.le_trans (Pin.le_trans (Pin.le_trans b.le x.le) aj.le) ch), (i4.mono (Pin.le_refl _)), i6, i2, ⟨cg.size⟩, ff⟩
   ·skip
    refine (zK (i := 8) rfl rfl rfl (zD rfl _) (yJ [(.slice none 0 0)] zr32 rfl ay.pins (fun fg my mz i7 i8 i9 => ?_)))
    have dt := ay.step i8 i9
    have fh : w.heap.size ≤ fg := by have := ay.size; omega
    refine ⟨fun _ => dt.pins, ?_⟩
    refine dO (i := 1) (zK (i := 1) rfl rfl rfl (zD rfl _) (zH (vs := [(.agg [(vJ t), (vJ z)].toArray)]) Tryz.func18 nm18 rfl rfl rfl ?_))
    refine Calls.mono (yS (t := t) (z := z) dt.pins) ?_
    rintro _ m0 ⟨m1, rfl, m⟩
    refine ⟨_, rfl, ?_⟩
    have du := dt.tr m
    have ja := i7.ext m
    refine ⟨fun _ => (Pins.of_le du.pins m.le), ?_⟩
    refine dO (i := 3) (zK (i := 3) rfl rfl rfl (zD rfl _) (zH (vs := [(.agg [(vJ s), (vJ y)].toArray)]) Tryz.func18 nm18 rfl rfl rfl ?_))
    refine Calls.mono (yS (t := s) (z := y) du.pins) ?_
    rintro _ jb ⟨m2, rfl, aa⟩
    refine ⟨_, rfl, ?_⟩
    have ci := du.tr aa
    have dv := ja.ext aa
    refine ⟨fun _ => (Pins.of_le ci.pins (Pin.le_trans m.le aa.le)), ?_⟩
    refine dO (i := 4) (zK (i := 4) rfl rfl rfl (zD rfl _) (zH (vs := [(.agg [(vJ t), (vJ z)].toArray), (.agg [(vJ s), (vJ y)].toArray)]) Tryz.func39 nm39 rfl rfl rfl ?_))
    refine Calls.mono (xU (t := t) (z := z) (s := s) (y := y) ci.pins) ?_
    rintro _ fi ⟨bj, m3, rfl, fj, ak⟩
    refine ⟨_, rfl, ?_⟩
    have bk := ci.tr ak
    have jc := dv.ext ak
    have fk := fj.one
    refine ⟨fun _ => (Pins.of_le bk.pins (Pin.le_trans (Pin.le_trans m.le aa.le) ak.le)), ?_⟩
    refine dM 5 (.tuple #[(.agg [bj].toArray), (.bool (swB t z s y))]) (Pins.of_le bk.pins (Pin.le_trans (Pin.le_trans m.le aa.le) ak.le)) ?_
    refine dT (i := 6) rfl rfl (by kernel_rfl) (fun _ _ => zT (v := (.agg [bj].toArray)) rfl rfl) (Pins.of_le bk.pins (Pin.le_trans (Pin.le_trans m.le aa.le) ak.le)) ?_
    refine dT (i := 7) rfl rfl (by kernel_rfl) (fun _ _ => zT (v := (.bool (swB t z s y))) rfl rfl) (Pins.of_le bk.pins (Pin.le_trans (Pin.le_trans m.le aa.le) ak.le)) ?_
    refine dO (i := 9) (qL (i := 9) rfl rfl rfl (zD rfl _) (yP (cs' := [bj]) (us := [bj]) (v := (.agg [bj].toArray)) sz32 rfl rfl rfl (yE fk) bk.pins jc (Nat.le_of_ble_eq_true rfl) rfl (fun m4 jd je dw m5 => ?_)))
    have jf := bk.write je dw ((zX fh))
    have jg := fj.kept dw (Or.inr dv.lt)
    have jh := Nat.le_trans (Nat.le_refl fi.heap.size) dw.size
    obtain ⟨ji, cj, dx, jj, jk⟩ := jd.shut jf fh
    have jl := jg.more cj jk (Or.inr dv.lt)
    refine ⟨fun _ => (Pins.of_le dx.pins (Pin.le_trans (Pin.le_trans (Pin.le_trans m.le aa.le) ak.le) cj)), ?_⟩
    refine dM 10 (.bool (swB t z s y)) (Pins.of_le dx.pins (Pin.le_trans (Pin.le_trans (Pin.le_trans m.le aa.le) ak.le) cj)) ?_
    refine yH (by kernel_rfl) ?_
    exact xL ⟨_, fg, bj, jb.heap.size, fi.heap.size, ji, (pS 8 (pS 7 (pS 6 (pS 5 (pS 4 (pS 3 (pU 2))))))), dx, (Pin.le_trans (Pin.le_trans (Pin.le_trans m.le aa.le) ak.le) cj), (jj.mono (Pin.le_refl _)), jl, jh, ⟨ci.size⟩, fk⟩
 ·skip
  refine xF (S := fun wz => Pins d9 wz) (last := 11) (by kernel_rfl) rfl ?_
  have fl : Below cu.heap.size cu cu.drew := (Below.refl _ _).drew
  have jm := ea.pins.below fl
  have a1 := ea.step jm fl
  refine dT (i := 0) rfl rfl (by kernel_rfl) (fun _ hS => yC (cs := [(vJ t), (vJ z)]) ag26 sz26 rfl (fun j u hj => (Pins.of_le hS cv) _ _ _ (cr _ _ (by simpa using hj)))) a1.pins ?_
  refine dT (i := 2) rfl rfl (by kernel_rfl) (fun _ hS => yC (cs := [(vJ s), (vJ y)]) ag26 sz26 rfl (fun j u hj => hS _ _ _ (cw _ _ (by simpa using hj)))) a1.pins ?_
  refine xS (i := 1) (j := 8) (by kernel_rfl) ?_ ?_
  ·skip
   refine (zK (i := 1) rfl rfl rfl (zD rfl _) (zH (vs := [(.agg [(vJ t), (vJ z)].toArray)]) Tryz.func18 nm18 rfl rfl rfl ?_))
   refine Calls.mono (yS (t := t) (z := z) a1.pins) ?_
   rintro _ m6 ⟨m7, rfl, c⟩
   refine ⟨_, rfl, ?_⟩
   have bl := a1.tr c
   refine ⟨fun _ => (Pins.of_le bl.pins c.le), ?_⟩
   refine xS (i := 3) (j := 8) (by kernel_rfl) ?_ ?_
   ·skip
    refine (zK (i := 3) rfl rfl rfl (zD rfl _) (zH (vs := [(.agg [(vJ s), (vJ y)].toArray)]) Tryz.func18 nm18 rfl rfl rfl ?_))
    refine Calls.mono (yS (t := s) (z := y) bl.pins) ?_
    rintro _ m8 ⟨m9, rfl, g⟩
    refine ⟨_, rfl, ?_⟩
    have bm := bl.tr g
    refine ⟨fun _ => (Pins.of_le bm.pins (Pin.le_trans c.le g.le)), ?_⟩
    refine xS (i := 4) (j := 8) (by kernel_rfl) ?_ ?_
    ·skip
     refine (zK (i := 4) rfl rfl rfl (zD rfl _) (zH (vs := [(.agg [(vJ t), (vJ z)].toArray), (.agg [(vJ s), (vJ y)].toArray)]) Tryz.func38 nm38 rfl rfl rfl ?_))
     refine Calls.mono (qA (t := t) (z := z) (s := s) (y := y) bm.pins) ?_
     rintro _ na ⟨bn, nb, rfl, fm, al⟩
     refine ⟨_, rfl, ?_⟩
     have a2 := bm.tr al
     refine ⟨fun _ => (Pins.of_le a2.pins (Pin.le_trans (Pin.le_trans c.le g.le) al.le)), ?_⟩
     refine dM 5 (.tuple #[(.agg [bn].toArray), (.bool (swB t z s y))]) (Pins.of_le a2.pins (Pin.le_trans (Pin.le_trans c.le g.le) al.le)) ?_
     refine dT (i := 6) rfl rfl (by kernel_rfl) (fun _ _ => zT (v := (.agg [bn].toArray)) rfl rfl) (Pins.of_le a2.pins (Pin.le_trans (Pin.le_trans c.le g.le) al.le)) ?_
     refine dT (i := 7) rfl rfl (by kernel_rfl) (fun _ _ => zT (v := (.bool (swB t z s y))) rfl rfl) (Pins.of_le a2.pins (Pin.le_trans (Pin.le_trans c.le g.le) al.le)) ?_
     refine dO (i := 8) (zK (i := 8) rfl rfl rfl (zD rfl _) (yJ [(.slice none 0 0)] zr32 rfl a2.pins (fun fn nc nd jn jo jp => ?_)))
     have dy := a2.step jo jp
     have fo : w.heap.size ≤ fn := by have := a2.size; omega
     refine ⟨fun _ => (Pins.of_le dy.pins (Pin.le_trans (Pin.le_trans c.le g.le) al.le)), ?_⟩
     refine dO (i := 9) (qL (i := 9) rfl rfl rfl (zD rfl _) (yP (cs' := [bn]) (us := [bn]) (v := (.agg [bn].toArray)) sz32 rfl rfl rfl (yE fm.one) dy.pins jn (Nat.le_of_ble_eq_true rfl) rfl (fun ne jq jr js nf => ?_)))
     have jt := dy.write jr js ((zX fo))
     obtain ⟨ju, ck, dz, jv, ng⟩ := jq.shut jt fo
     refine ⟨fun _ => (Pins.of_le dz.pins (Pin.le_trans (Pin.le_trans (Pin.le_trans c.le g.le) al.le) ck)), ?_⟩
     refine dM 10 (.bool (swB t z s y)) (Pins.of_le dz.pins (Pin.le_trans (Pin.le_trans (Pin.le_trans c.le g.le) al.le) ck)) ?_
     refine yH (by kernel_rfl) ?_
     exact xL ⟨_, fn, bn, ju, (pS 6 (pS 5 (pS 4 (pS 3 (pU 2))))), dz, (Pin.le_trans (Pin.le_trans (Pin.le_trans c.le g.le) al.le) ck), (fm.mono ck), (jv.mono (Pin.le_refl _))⟩
    ·skip
     refine (zK (i := 8) rfl rfl rfl (zD rfl _) (yJ [(.slice none 0 0)] zr32 rfl bm.pins (fun fp nh ni jw jx jy => ?_)))
     have d0 := bm.step jx jy
     have fq : w.heap.size ≤ fp := by have := bm.size; omega
     refine ⟨fun _ => (Pins.of_le d0.pins (Pin.le_trans c.le g.le)), ?_⟩
     refine dO (i := 4) (zK (i := 4) rfl rfl rfl (zD rfl _) (zH (vs := [(.agg [(vJ t), (vJ z)].toArray), (.agg [(vJ s), (vJ y)].toArray)]) Tryz.func38 nm38 rfl rfl rfl ?_))
     refine Calls.mono (qA (t := t) (z := z) (s := s) (y := y) d0.pins) ?_
     rintro _ nj ⟨bo, nk, rfl, fr, am⟩
     refine ⟨_, rfl, ?_⟩
     have bp := d0.tr am
     have jz := jw.ext am
     refine ⟨fun _ => (Pins.of_le bp.pins (Pin.le_trans (Pin.le_trans c.le g.le) am.le)), ?_⟩
     refine dM 5 (.tuple #[(.agg [bo].toArray), (.bool (swB t z s y))]) (Pins.of_le bp.pins (Pin.le_trans (Pin.le_trans c.le g.le) am.le)) ?_
     refine dT (i := 6) rfl rfl (by kernel_rfl) (fun _ _ => zT (v := (.agg [bo].toArray)) rfl rfl) (Pins.of_le bp.pins (Pin.le_trans (Pin.le_trans c.le g.le) am.le)) ?_
     refine dT (i := 7) rfl rfl (by kernel_rfl) (fun _ _ => zT (v := (.bool (swB t z s y))) rfl rfl) (Pins.of_le bp.pins (Pin.le_trans (Pin.le_trans c.le g.le) am.le)) ?_
     refine dO (i := 9) (qL (i := 9) rfl rfl rfl (zD rfl _) (yP (cs' := [bo]) (us := [bo]) (v := (.agg [bo].toArray)) sz32 rfl rfl rfl (yE fr.one) bp.pins jz (Nat.le_of_ble_eq_true rfl) rfl (fun nl j0 j1 j2 nm => ?_)))
     have j3 := bp.write j1 j2 ((zX fq))
     obtain ⟨j4, cl, d1, j5, nn⟩ := j0.shut j3 fq
     refine ⟨fun _ => (Pins.of_le d1.pins (Pin.le_trans (Pin.le_trans (Pin.le_trans c.le g.le) am.le) cl)), ?_⟩
     refine dM 10 (.bool (swB t z s y)) (Pins.of_le d1.pins (Pin.le_trans (Pin.le_trans (Pin.le_trans c.le g.le) am.le) cl)) ?_
     refine yH (by kernel_rfl) ?_
     exact xL ⟨_, fp, bo, j4, (pS 6 (pS 5 (pS 4 (pS 3 (pU 2))))), d1, (Pin.le_trans (Pin.le_trans (Pin.le_trans c.le g.le) am.le) cl), (fr.mono cl), (j5.mono (Pin.le_refl _))⟩
   ·skip
    refine (zK (i := 8) rfl rfl rfl (zD rfl _) (yJ [(.slice none 0 0)] zr32 rfl bl.pins (fun fs no np j6 j7 j8 => ?_)))
    have d2 := bl.step j7 j8
    have ft : w.heap.size ≤ fs := by have := bl.size; omega
    refine ⟨fun _ => (Pins.of_le d2.pins c.le), ?_⟩
    refine dO (i := 3) (zK (i := 3) rfl rfl rfl (zD rfl _) (zH (vs := [(.agg [(vJ s), (vJ y)].toArray)]) Tryz.func18 nm18 rfl rfl rfl ?_))
    refine Calls.mono (yS (t := s) (z := y) d2.pins) ?_
    rintro _ nq ⟨nr, rfl, ab⟩
    refine ⟨_, rfl, ?_⟩
    have d3 := d2.tr ab
    have j9 := j6.ext ab
    refine ⟨fun _ => (Pins.of_le d3.pins (Pin.le_trans c.le ab.le)), ?_⟩
    refine dO (i := 4) (zK (i := 4) rfl rfl rfl (zD rfl _) (zH (vs := [(.agg [(vJ t), (vJ z)].toArray), (.agg [(vJ s), (vJ y)].toArray)]) Tryz.func38 nm38 rfl rfl rfl ?_))
    refine Calls.mono (qA (t := t) (z := z) (s := s) (y := y) d3.pins) ?_
    rintro _ nt ⟨bq, nu, rfl, fu, an⟩
    refine ⟨_, rfl, ?_⟩
    have br := d3.tr an
    have ka := j9.ext an
    refine ⟨fun _ => (Pins.of_le br.pins (Pin.le_trans (Pin.le_trans c.le ab.le) an.le)), ?_⟩
    refine dM 5 (.tuple #[(.agg [bq].toArray), (.bool (swB t z s y))]) (Pins.of_le br.pins (Pin.le_trans (Pin.le_trans c.le ab.le) an.le)) ?_
    refine dT (i := 6) rfl rfl (by kernel_rfl) (fun _ _ => zT (v := (.agg [bq].toArray)) rfl rfl) (Pins.of_le br.pins (Pin.le_trans (Pin.le_trans c.le ab.le) an.le)) ?_
    refine dT (i := 7) rfl rfl (by kernel_rfl) (fun _ _ => zT (v := (.bool (swB t z s y))) rfl rfl) (Pins.of_le br.pins (Pin.le_trans (Pin.le_trans c.le ab.le) an.le)) ?_
    refine dO (i := 9) (qL (i := 9) rfl rfl rfl (zD rfl _) (yP (cs' := [bq]) (us := [bq]) (v := (.agg [bq].toArray)) sz32 rfl rfl rfl (yE fu.one) br.pins ka (Nat.le_of_ble_eq_true rfl) rfl (fun nv kb kc kd nw => ?_)))
    have ke := br.write kc kd ((zX ft))
    obtain ⟨kf, cm, d4, kg, nx⟩ := kb.shut ke ft
    refine ⟨fun _ => (Pins.of_le d4.pins (Pin.le_trans (Pin.le_trans (Pin.le_trans c.le ab.le) an.le) cm)), ?_⟩
    refine dM 10 (.bool (swB t z s y)) (Pins.of_le d4.pins (Pin.le_trans (Pin.le_trans (Pin.le_trans c.le ab.le) an.le) cm)) ?_
    refine yH (by kernel_rfl) ?_
    exact xL ⟨_, fs, bq, kf, (pS 6 (pS 5 (pS 4 (pS 3 (pU 2))))), d4, (Pin.le_trans (Pin.le_trans (Pin.le_trans c.le ab.le) an.le) cm), (fu.mono cm), (kg.mono (Pin.le_refl _))⟩
  ·skip
   refine (zK (i := 8) rfl rfl rfl (zD rfl _) (yJ [(.slice none 0 0)] zr32 rfl a1.pins (fun fv ny nz kh ki kj => ?_)))
   have d5 := a1.step ki kj
   have fw : w.heap.size ≤ fv := by have := a1.size; omega
   refine ⟨fun _ => d5.pins, ?_⟩
   refine dO (i := 1) (zK (i := 1) rfl rfl rfl (zD rfl _) (zH (vs := [(.agg [(vJ t), (vJ z)].toArray)]) Tryz.func18 nm18 rfl rfl rfl ?_))
   refine Calls.mono (yS (t := t) (z := z) d5.pins) ?_
   rintro _ n0 ⟨n1, rfl, o⟩
   refine ⟨_, rfl, ?_⟩
   have d6 := d5.tr o
   have kk := kh.ext o
   refine ⟨fun _ => (Pins.of_le d6.pins o.le), ?_⟩
   refine dO (i := 3) (zK (i := 3) rfl rfl rfl (zD rfl _) (zH (vs := [(.agg [(vJ s), (vJ y)].toArray)]) Tryz.func18 nm18 rfl rfl rfl ?_))
   refine Calls.mono (yS (t := s) (z := y) d6.pins) ?_
   rintro _ n2 ⟨n3, rfl, ac⟩
   refine ⟨_, rfl, ?_⟩
   have d7 := d6.tr ac
   have kl := kk.ext ac
   refine ⟨fun _ => (Pins.of_le d7.pins (Pin.le_trans o.le ac.le)), ?_⟩
   refine dO (i := 4) (zK (i := 4) rfl rfl rfl (zD rfl _) (zH (vs := [(.agg [(vJ t), (vJ z)].toArray), (.agg [(vJ s), (vJ y)].toArray)]) Tryz.func38 nm38 rfl rfl rfl ?_))
   refine Calls.mono (qA (t := t) (z := z) (s := s) (y := y) d7.pins) ?_
   rintro _ n4 ⟨bs, n5, rfl, fx, ao⟩
   refine ⟨_, rfl, ?_⟩
   have bt := d7.tr ao
   have km := kl.ext ao
   refine ⟨fun _ => (Pins.of_le bt.pins (Pin.le_trans (Pin.le_trans o.le ac.le) ao.le)), ?_⟩
   refine dM 5 (.tuple #[(.agg [bs].toArray), (.bool (swB t z s y))]) (Pins.of_le bt.pins (Pin.le_trans (Pin.le_trans o.le ac.le) ao.le)) ?_
   refine dT (i := 6) rfl rfl (by kernel_rfl) (fun _ _ => zT (v := (.agg [bs].toArray)) rfl rfl) (Pins.of_le bt.pins (Pin.le_trans (Pin.le_trans o.le ac.le) ao.le)) ?_
   refine dT (i := 7) rfl rfl (by kernel_rfl) (fun _ _ => zT (v := (.bool (swB t z s y))) rfl rfl) (Pins.of_le bt.pins (Pin.le_trans (Pin.le_trans o.le ac.le) ao.le)) ?_
   refine dO (i := 9) (qL (i := 9) rfl rfl rfl (zD rfl _) (yP (cs' := [bs]) (us := [bs]) (v := (.agg [bs].toArray)) sz32 rfl rfl rfl (yE fx.one) bt.pins km (Nat.le_of_ble_eq_true rfl) rfl (fun n6 kn ko kp n7 => ?_)))
   have kq := bt.write ko kp ((zX fw))
   obtain ⟨kr, cn, d8, ks, n8⟩ := kn.shut kq fw
   refine ⟨fun _ => (Pins.of_le d8.pins (Pin.le_trans (Pin.le_trans (Pin.le_trans o.le ac.le) ao.le) cn)), ?_⟩
   refine dM 10 (.bool (swB t z s y)) (Pins.of_le d8.pins (Pin.le_trans (Pin.le_trans (Pin.le_trans o.le ac.le) ao.le) cn)) ?_
   refine yH (by kernel_rfl) ?_
   exact xL ⟨_, fv, bs, kr, (pS 6 (pS 5 (pS 4 (pS 3 (pU 2))))), d8, (Pin.le_trans (Pin.le_trans (Pin.le_trans o.le ac.le) ao.le) cn), (fx.mono cn), (ks.mono (Pin.le_refl _))⟩

end LSW
end Go.Proofs.YtfnginkcmcfdfaaGreatDoor
