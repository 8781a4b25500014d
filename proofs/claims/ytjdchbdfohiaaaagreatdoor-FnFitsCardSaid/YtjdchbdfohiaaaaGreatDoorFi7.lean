/- Texts of this claim in one file: DI1, FT2, RI1, CN1, CN2, CN3, CN4, AS2, VA1, VA2, VA3, VA4, FI1, FI2, LFI. -/
import Derived.Test.YtjdchbdfohiaaaaGreatDoorFi6
import Derived.Test.YtjdchbdfohiaaaaGreatDoorChecked
set_option maxRecDepth 20000
set_option maxHeartbeats 2000000
namespace Go.Proofs.YtjdchbdfohiaaaaGreatDoor
namespace DI1
open Go.RowKit Go.GL Go.Proofs
open B1 K1 PO1 PL1
theorem gK {p : Nat} {L R B : Value} {mm : PM} {w : World} {G : Pin} {q : PSt} {x : Value} {xs : List Int} {lf : Bool} (hP : Pins G w) (hpk : Pk 48 3 G w p L R B mm q) (hok : PoolOk q) (hx : RSl eInt G x xs) (hxl : xs.length ≤ 1048576) (hpl : ∀ i, i < xs.length → PlaceOk q (xs.getD i 0)) :
  Calls Tryz.prog 92 [(vP p), x, (.bool lf)].toArray w fun e w' => ∃ (u : Value) (q' : PSt) (G' : Pin), e = .returned u ∧ Own eInt 3 G' w' w.heap.size u (domL (gX q xs) lf xs.length xs.length) ∧ Pk 48 3 G' w' p L R B mm q' ∧ PoolOk q' ∧ PX q q' ∧ (q'.ns = q.ns ∧ q'.bs = q.bs) ∧ Ext (inO (some mm.o)) G w G' w' := by
 refine zU (n := 61) Tryz.func92 Tryz.ntmps92 rfl rfl ?_
 have a3 := exr (inO (some mm.o)) hP
 have hpin : PIn w (inP p L R B mm) p L R B mm := PIn.self
 have dr := pkl q
 have ds := pkb hok
 refine zB (zC ?_)
 refine qM vN ?_
 refine qe (zA (zB (zC ?_)))
 refine qI rfl (xC (E := eInt) (e := 3) dB sz3 a3.pins (fun u3 w4 ck bk bl cl => ?_))
 have cm := a3.step bk bl
 have cn := hpk.below bl bk
 have co := hpk.new (x := u3.ownBlock) (fun k hk => by rw [cl] at hk; cases hk; exact Nat.le_refl _)
 have cp := ck.weaken a3.size
 refine qM u3 ?_
 refine qe (zA (zB (zB (zC ?_))))
 refine qM x ?_
 refine qD rfl (zP dB (v := x) rfl hx) (qM (vJ 0) ?_)
 refine qe (zA ?_)
 refine zW (yS (fun k en W => ∃ (av : Nat → Value) (i : Nat) (ov : Value) (out : List Int) (d : PSt) (an : Pin), en = (upd (upd (upd (upd (upd (upd (upd (upd av 0 (vP p)) 1 x) 2 (.bool lf)) 6 vN) 7 ov) 15 x) 16 (vJ (xs.length : Int))) 17 (vJ (i : Int))) ∧ k = xs.length - i ∧ Ext (inO (some mm.o)) G w an W ∧ Pin.le G an ∧ (i ≤ xs.length) ∧ (out = domL (gX q xs) lf xs.length i) ∧ (Own eInt 3 an W w.heap.size ov (out)) ∧ (Pk 48 3 an W p L R B mm d) ∧ (PoolOk d) ∧ (PX q d) ∧ (d.ns = q.ns ∧ d.bs = q.bs) ∧ (NP p L R B mm ov.ownBlock)) _ ⟨_, 0, u3, [], q, G, (pS 17 (pS 16 (pS 15 (pS 7 (pS 6 (pS 2 (pS 1 (pU 0)))))))), rfl, cm, Pin.le_refl _, Nat.zero_le _, rfl, cp, cn, hok, (PX.refl _), ⟨rfl, rfl⟩, co⟩ ?_)
 rintro dt _ du ⟨av, i, ov, out, d, an, rfl, dv, a4, ao, hi, hout, bm, bn, az, ap, c, ab⟩
 have dw := ap.len
 have dx := pkl d
 have dy := pkb az
 have hol : out.length ≤ i := by rw [hout]; exact (dom_len i).1
 refine zB (zC ?_)
 refine qD rfl (yX rfl rfl) (qe (zA (zB ?_)))
 refine yC (p := ((i : Int) : Int) < (xs.length : Int)) rfl rfl (fun cq => ?_) (fun cq => ?_)
 refine wp_skip (zA (zB ?_))
 refine zW (zB (zC ?_))
 refine qM (vJ (i : Int)) ?_
 refine qD rfl (zJ dB sz3 (v := x) rfl rfl hx (by omega) (by omega)) (qD rfl (zI (r := xs.getD i 0) rfl ag3 (z := (i : Int)) rfl hx (dX a4.pins ao) (by omega) (by omega)) (qM (vJ (i : Int)) ?_))
 refine qM (vJ (xs.getD i 0)) ?_
 refine qe (zA (zB (zC ?_)))
 refine qM x ?_
 refine qD rfl (zP dB (v := x) rfl hx) (qM (vJ 0) ?_)
 refine qe (zA ?_)
 refine zW (yS (fun k en W => ∃ (av : Nat → Value) (j : Nat) (b : PSt) (aq : Pin), en = (upd (upd (upd (upd (upd (upd (upd (upd (upd (upd (upd (upd (upd av 0 (vP p)) 1 x) 2 (.bool lf)) 6 vN) 7 ov) 8 (vJ (i : Int))) 9 (vJ (xs.getD i 0))) 15 x) 16 (vJ (xs.length : Int))) 17 (vJ (i : Int))) 22 x) 23 (vJ (xs.length : Int))) 24 (vJ (j : Int))) ∧ k = xs.length - j ∧ Ext (inO (some mm.o)) G w aq W ∧ Pin.le an aq ∧ (j ≤ xs.length) ∧ (∀ x, x < j → ¬ domP (gX q xs) lf i x) ∧ (Own eInt 3 aq W w.heap.size ov (out)) ∧ (Pk 48 3 aq W p L R B mm b) ∧ (PoolOk b) ∧ (PX d b) ∧ (b.ns = d.ns ∧ b.bs = d.bs)) _ ⟨_, 0, d, an, (pS 24 (pS 23 (pS 22 (pS 17 (pS 16 (pS 15 (pS 9 (pS 8 (pS 7 (pS 6 (pS 2 (pS 1 (pU 0))))))))))))), rfl, a4, Pin.le_refl _, Nat.zero_le _, (fun x h => absurd h (Nat.not_lt_zero x)), bm, bn, az, (PX.refl _), ⟨rfl, rfl⟩⟩ ?_)
 rintro dz _ d0 ⟨av, j, b, aq, rfl, d1, aw, ac, hj, hnd, a5, a6, ax, ad, a⟩
 have d2 := ad.len
 have d3 := pkl b
 have d4 := pkb ax
 refine zB (zC ?_)
 refine qD rfl (yX rfl rfl) (qe (zA (zB ?_)))
 refine yC (p := ((j : Int) : Int) < (xs.length : Int)) rfl rfl (fun cr => ?_) (fun cr => ?_)
 refine wp_skip (zA (zB ?_))
 refine zW (zB (zC ?_))
 refine qM (vJ (j : Int)) ?_
 refine qD rfl (zJ dB sz3 (v := x) rfl rfl hx (by omega) (by omega)) (qD rfl (zI (r := xs.getD j 0) rfl ag3 (z := (j : Int)) rfl hx (dX aw.pins (dW ao ac)) (by omega) (by omega)) (qM (vJ (j : Int)) ?_))
 refine qM (vJ (xs.getD j 0)) ?_
 refine qe (zA (zB (zB (zC ?_))))
 refine qM (vJ (j : Int)) ?_
 refine qM (vJ (i : Int)) ?_
 refine qD rfl (xU rfl rfl) (qe (zA ?_))
 refine yC (p := ((j : Int) : Int) = (i : Int)) rfl rfl (fun au => ?_) (fun au => ?_)
 refine wp_exit (zV (yE (zA (zC ?_))))
 refine qD rfl (yJ rfl rfl (by omega)) (qM (vJ ((j : Int) + 1)) ?_)
 refine qe (yD (⟨_, ?_, _, rfl, _, j + 1, b, aq, (pS 24 (pS 23 (pS 22 (pS 17 (pS 16 (pS 15 (pS 9 (pS 8 (pS 7 (pS 6 (pS 2 (pS 1 (pU 0))))))))))))), rfl, aw, ac, (by omega), (fun x h2 => if h3 : x = j then h3 ▸ (fun p => p.1 au) else hnd x (by omega)), a5, a6, ax, ad, a⟩))
 omega
 refine wp_skip (zA (zB (zC ?_)))
 refine qM (vP p) ?_
 refine qM (vJ (xs.getD j 0)) ?_
 refine qM (vJ (xs.getD i 0)) ?_
 refine qI rfl (zF (vs := [(vP p), (vJ (xs.getD j 0)), (vJ (xs.getD i 0))]) Tryz.func19 nm19 rfl rfl rfl ?_)
 refine dY (fH aw.pins a6 ax ((hpl j (by omega)).same (zM c a)) ((hpl i (by omega)).same (zM c a))) ?_
 rintro _ d5 ⟨y, d6, rfl, cs, a7, ai, f, af⟩
 refine ⟨_, rfl, ?_⟩
 have bo := aw.trans af (fun i hi => yV i hi)
 have ct := a5.extS af (notO (NP.ho ab))
 have d7 := ai.len
 have d8 := pkl y
 have d9 := pkb a7
 have ea := congrArg List.length f.1
 refine qM (vP p) ?_
 refine qM (vJ (xs.getD i 0)) ?_
 refine qM (vJ (xs.getD j 0)) ?_
 refine qI rfl (zF (vs := [(vP p), (vJ (xs.getD i 0)), (vJ (xs.getD j 0))]) Tryz.func19 nm19 rfl rfl rfl ?_)
 refine dY (fH bo.pins cs a7 ((hpl i (by omega)).same (zM (zM c a) f)) ((hpl j (by omega)).same (zM (zM c a) f))) ?_
 rintro _ eb ⟨s, aa, rfl, al, ag, aj, ak, ah⟩
 refine ⟨_, rfl, ?_⟩
 have m := bo.trans ah (fun i hi => yV i hi)
 have am := ct.extS ah (notO (NP.ho ab))
 have ec := aj.len
 have ed := pkl s
 have ee := pkb ag
 have ef := congrArg List.length ak.1
 refine qM (.bool (geB b.ns (xs.getD j 0) (xs.getD i 0))) ?_
 refine qM (.bool (geB y.ns (xs.getD i 0) (xs.getD j 0))) ?_
 refine qe (zA (zB (zB (zC ?_))))
 refine qM (.bool lf) ?_
 refine qD rfl (xR rfl) (qe (zA ?_))
 refine qY rfl rfl (fun ae => ?_) (fun ae => ?_)
 refine wp_skip (zA (zB (zC ?_)))
 refine qM (.bool (geB b.ns (xs.getD j 0) (xs.getD i 0))) ?_
 refine qM (.bool (geB b.ns (xs.getD j 0) (xs.getD i 0))) ?_
 refine qb (t := 45) rfl (fun a1 => ?_) (fun a1 => ?_)
 refine qN (zR (v := (.bool (geB y.ns (xs.getD i 0) (xs.getD j 0)))) rfl) ?_
 refine qN (xR rfl) ?_
 refine qN (zR (v := (.bool (!(geB y.ns (xs.getD i 0) (xs.getD j 0))))) rfl) ?_
 refine qbn (t := 48) rfl (fun a8 => ?_) (fun a8 => ?_)
 refine qN (zR (v := (vJ (j : Int))) rfl) ?_
 refine qN (zR (v := (vJ (i : Int))) rfl) ?_
 refine qN (yX rfl rfl) ?_
 refine qN (yI (v := (.bool (decide (((j : Int) : Int) < (i : Int))))) rfl rfl) ?_
 refine qD rfl (yR (v := (.bool (decide (((j : Int) : Int) < (i : Int))))) rfl rfl) (qe (zA ?_))
 refine yC (p := ((j : Int) : Int) < (i : Int)) rfl rfl (fun a9 => ?_) (fun a9 => ?_)
 refine zB (zC ?_)
 refine qM ov ?_
 refine qM (vJ (i : Int)) ?_
 refine qI rfl (yG (E := eInt) (e := 3) [(vJ (i : Int))] [(i : Int)] dB sz3 zr3 (by exact xK (by rfl)) (yO (by rfl)) rfl rfl rfl rfl (by decide) m.pins (fun bp cu cv bq ba eg => ?_))
 have bb := m.step bq ba
 have br := am.below ba
 have bt := al.below ba bq
 have cw := cv.weaken m.size
 refine qI rfl (oA (E := eInt) (v := ov) (u := bp) 8 dB ap3 (by decide) rfl rfl bb.pins br cw.src (bb.size) (fun bu eh cx bv bw cy => ?_))
 have cz := bb.write bv bw ((yH br))
 have c0 := bt.kept bw bv ab
 have c1 := jP ab bt cy
 have ei := la1 out (i : Int)
 refine qM bu ?_
 refine qe (zA ?_)
 refine wp_exit (mY rfl (zV (yK (yE (yA (zA (zC ?_)))))))
 refine qD rfl (yJ rfl rfl (by omega)) (qM (vJ ((i : Int) + 1)) ?_)
 refine qe (yD (⟨_, ?_, _, rfl, _, i + 1, bu, out ++ ([(i : Int)]), s, aa, (pS 17 (pS 16 (pS 15 (pS 7 (pS 6 (pS 2 (pS 1 (pU 0)))))))), rfl, cz, (dW (dW (dW ao ac) af.le) ah.le), (by omega), (by rw [pV (g := gX q xs) (lf := lf) (show j < xs.length by omega) ⟨au, (geD_t ae).2 (decP_true.1 ((xQ (zM c a)).symm.trans a1)), Or.inr a9⟩, hout]), cx, c0, ag, (PX.trans (PX.trans (PX.trans ap ad) ai) aj), (zM (zM (zM c a) f) ak), c1⟩))
 omega
 refine wp_skip (yA (zA (zC ?_)))
 refine qD rfl (yJ rfl rfl (by omega)) (qM (vJ ((j : Int) + 1)) ?_)
 refine qe (yD (⟨_, ?_, _, rfl, _, j + 1, s, aa, (pS 24 (pS 23 (pS 22 (pS 17 (pS 16 (pS 15 (pS 9 (pS 8 (pS 7 (pS 6 (pS 2 (pS 1 (pU 0))))))))))))), rfl, m, (dW (dW ac af.le) ah.le), (by omega), (fun x h2 => if h3 : x = j then h3 ▸ (fun p => p.2.2.elim (fun h => h ((geD_t ae).2 (decP_true.1 ((xQ (zM (zM c a) f)).symm.trans a8)))) a9) else hnd x (by omega)), am, al, ag, (PX.trans (PX.trans ad ai) aj), (zM (zM a f) ak)⟩))
 omega
 refine qW ?_
 refine qW ?_
 refine qW ?_
 refine qN (yR (v := (.bool true)) rfl rfl) ?_
 refine qD rfl (yR (v := (.bool true)) rfl rfl) (qe (zA ?_))
 refine jS rfl rfl (zB (zC ?_))
 refine qM ov ?_
 refine qM (vJ (i : Int)) ?_
 refine qI rfl (yG (E := eInt) (e := 3) [(vJ (i : Int))] [(i : Int)] dB sz3 zr3 (by exact xK (by rfl)) (yO (by rfl)) rfl rfl rfl rfl (by decide) m.pins (fun bx c2 c3 bz bc ej => ?_))
 have bd := m.step bz bc
 have b0 := am.below bc
 have b1 := al.below bc bz
 have c4 := c3.weaken m.size
 refine qI rfl (oA (E := eInt) (v := ov) (u := bx) 8 dB ap3 (by decide) rfl rfl bd.pins b0 c4.src (bd.size) (fun b2 ek c5 b3 b4 c6 => ?_))
 have c7 := bd.write b3 b4 ((yH b0))
 have c8 := b1.kept b4 b3 ab
 have c9 := jP ab b1 c6
 have el := la1 out (i : Int)
 refine qM b2 ?_
 refine qe (zA ?_)
 refine wp_exit (mY rfl (zV (yK (yE (yA (zA (zC ?_)))))))
 refine qD rfl (yJ rfl rfl (by omega)) (qM (vJ ((i : Int) + 1)) ?_)
 refine qe (yD (⟨_, ?_, _, rfl, _, i + 1, b2, out ++ ([(i : Int)]), s, aa, (pS 17 (pS 16 (pS 15 (pS 7 (pS 6 (pS 2 (pS 1 (pU 0)))))))), rfl, c7, (dW (dW (dW ao ac) af.le) ah.le), (by omega), (by rw [pV (g := gX q xs) (lf := lf) (show j < xs.length by omega) ⟨au, (geD_t ae).2 (decP_true.1 ((xQ (zM c a)).symm.trans a1)), Or.inl (fun h => (decP_false.1 ((xQ (zM (zM c a) f)).symm.trans a8)) ((geD_t ae).1 h))⟩, hout]), c5, c8, ag, (PX.trans (PX.trans (PX.trans ap ad) ai) aj), (zM (zM (zM c a) f) ak), c9⟩))
 omega
 refine qW ?_
 refine qW ?_
 refine qW ?_
 refine qX ?_
 refine qX ?_
 refine qX ?_
 refine qW ?_
 refine qD rfl (yI (v := (.bool false)) rfl rfl) (qe (zA ?_))
 refine qP rfl rfl (wp_skip (yA (zA (zC ?_))))
 refine qD rfl (yJ rfl rfl (by omega)) (qM (vJ ((j : Int) + 1)) ?_)
 refine qe (yD (⟨_, ?_, _, rfl, _, j + 1, s, aa, (pS 24 (pS 23 (pS 22 (pS 17 (pS 16 (pS 15 (pS 9 (pS 8 (pS 7 (pS 6 (pS 2 (pS 1 (pU 0))))))))))))), rfl, m, (dW (dW ac af.le) ah.le), (by omega), (fun x h2 => if h3 : x = j then h3 ▸ (fun p => (decP_false.1 ((xQ (zM c a)).symm.trans a1)) ((geD_t ae).1 p.2.1)) else hnd x (by omega)), am, al, ag, (PX.trans (PX.trans ad ai) aj), (zM (zM a f) ak)⟩))
 omega
 refine zC (qM (.bool (geB y.ns (xs.getD i 0) (xs.getD j 0))) ?_)
 refine qM (.bool (geB b.ns (xs.getD j 0) (xs.getD i 0))) ?_
 refine qM (.bool (geB y.ns (xs.getD i 0) (xs.getD j 0))) ?_
 refine qM (.bool (geB b.ns (xs.getD j 0) (xs.getD i 0))) ?_
 refine qe (zA (zB (zC ?_)))
 refine qM (.bool (geB y.ns (xs.getD i 0) (xs.getD j 0))) ?_
 refine qM (.bool (geB y.ns (xs.getD i 0) (xs.getD j 0))) ?_
 refine qb (t := 45) rfl (fun a2 => ?_) (fun a2 => ?_)
 refine qN (zR (v := (.bool (geB b.ns (xs.getD j 0) (xs.getD i 0)))) rfl) ?_
 refine qN (xR rfl) ?_
 refine qN (zR (v := (.bool (!(geB b.ns (xs.getD j 0) (xs.getD i 0))))) rfl) ?_
 refine qbn (t := 48) rfl (fun be => ?_) (fun be => ?_)
 refine qN (zR (v := (vJ (j : Int))) rfl) ?_
 refine qN (zR (v := (vJ (i : Int))) rfl) ?_
 refine qN (yX rfl rfl) ?_
 refine qN (yI (v := (.bool (decide (((j : Int) : Int) < (i : Int))))) rfl rfl) ?_
 refine qD rfl (yR (v := (.bool (decide (((j : Int) : Int) < (i : Int))))) rfl rfl) (qe (zA ?_))
 refine yC (p := ((j : Int) : Int) < (i : Int)) rfl rfl (fun bf => ?_) (fun bf => ?_)
 refine zB (zC ?_)
 refine qM ov ?_
 refine qM (vJ (i : Int)) ?_
 refine qI rfl (yG (E := eInt) (e := 3) [(vJ (i : Int))] [(i : Int)] dB sz3 zr3 (by exact xK (by rfl)) (yO (by rfl)) rfl rfl rfl rfl (by decide) m.pins (fun b5 da db b6 bg em => ?_))
 have bh := m.step b6 bg
 have b7 := am.below bg
 have b8 := al.below bg b6
 have dc := db.weaken m.size
 refine qI rfl (oA (E := eInt) (v := ov) (u := b5) 8 dB ap3 (by decide) rfl rfl bh.pins b7 dc.src (bh.size) (fun b9 eo dd ca cb de => ?_))
 have df := bh.write ca cb ((yH b7))
 have dg := b8.kept cb ca ab
 have dh := jP ab b8 de
 have ep := la1 out (i : Int)
 refine qM b9 ?_
 refine qe (zA ?_)
 refine wp_exit (mY rfl (zV (yK (yE (yA (zA (zC ?_)))))))
 refine qD rfl (yJ rfl rfl (by omega)) (qM (vJ ((i : Int) + 1)) ?_)
 refine qe (yD (⟨_, ?_, _, rfl, _, i + 1, b9, out ++ ([(i : Int)]), s, aa, (pS 17 (pS 16 (pS 15 (pS 7 (pS 6 (pS 2 (pS 1 (pU 0)))))))), rfl, df, (dW (dW (dW ao ac) af.le) ah.le), (by omega), (by rw [pV (g := gX q xs) (lf := lf) (show j < xs.length by omega) ⟨au, (geD_f ae).2 (decP_true.1 ((xQ (zM (zM c a) f)).symm.trans a2)), Or.inr bf⟩, hout]), dd, dg, ag, (PX.trans (PX.trans (PX.trans ap ad) ai) aj), (zM (zM (zM c a) f) ak), dh⟩))
 omega
 refine wp_skip (yA (zA (zC ?_)))
 refine qD rfl (yJ rfl rfl (by omega)) (qM (vJ ((j : Int) + 1)) ?_)
 refine qe (yD (⟨_, ?_, _, rfl, _, j + 1, s, aa, (pS 24 (pS 23 (pS 22 (pS 17 (pS 16 (pS 15 (pS 9 (pS 8 (pS 7 (pS 6 (pS 2 (pS 1 (pU 0))))))))))))), rfl, m, (dW (dW ac af.le) ah.le), (by omega), (fun x h2 => if h3 : x = j then h3 ▸ (fun p => p.2.2.elim (fun h => h ((geD_f ae).2 (decP_true.1 ((xQ (zM c a)).symm.trans be)))) bf) else hnd x (by omega)), am, al, ag, (PX.trans (PX.trans ad ai) aj), (zM (zM a f) ak)⟩))
 omega
 refine qW ?_
 refine qW ?_
 refine qW ?_
 refine qN (yR (v := (.bool true)) rfl rfl) ?_
 refine qD rfl (yR (v := (.bool true)) rfl rfl) (qe (zA ?_))
 refine jS rfl rfl (zB (zC ?_))
 refine qM ov ?_
 refine qM (vJ (i : Int)) ?_
 refine qI rfl (yG (E := eInt) (e := 3) [(vJ (i : Int))] [(i : Int)] dB sz3 zr3 (by exact xK (by rfl)) (yO (by rfl)) rfl rfl rfl rfl (by decide) m.pins (fun cc di dj cd bi eq => ?_))
 have bj := m.step cd bi
 have ce := am.below bi
 have cf := al.below bi cd
 have dk := dj.weaken m.size
 refine qI rfl (oA (E := eInt) (v := ov) (u := cc) 8 dB ap3 (by decide) rfl rfl bj.pins ce dk.src (bj.size) (fun cg er dl ch ci dm => ?_))
 have dn := bj.write ch ci ((yH ce))
 have dp := cf.kept ci ch ab
 have dq := jP ab cf dm
 have es := la1 out (i : Int)
 refine qM cg ?_
 refine qe (zA ?_)
 refine wp_exit (mY rfl (zV (yK (yE (yA (zA (zC ?_)))))))
 refine qD rfl (yJ rfl rfl (by omega)) (qM (vJ ((i : Int) + 1)) ?_)
 refine qe (yD (⟨_, ?_, _, rfl, _, i + 1, cg, out ++ ([(i : Int)]), s, aa, (pS 17 (pS 16 (pS 15 (pS 7 (pS 6 (pS 2 (pS 1 (pU 0)))))))), rfl, dn, (dW (dW (dW ao ac) af.le) ah.le), (by omega), (by rw [pV (g := gX q xs) (lf := lf) (show j < xs.length by omega) ⟨au, (geD_f ae).2 (decP_true.1 ((xQ (zM (zM c a) f)).symm.trans a2)), Or.inl (fun h => (decP_false.1 ((xQ (zM c a)).symm.trans be)) ((geD_f ae).1 h))⟩, hout]), dl, dp, ag, (PX.trans (PX.trans (PX.trans ap ad) ai) aj), (zM (zM (zM c a) f) ak), dq⟩))
 omega
 refine qW ?_
 refine qW ?_
 refine qW ?_
 refine qX ?_
 refine qX ?_
 refine qX ?_
 refine qW ?_
 refine qD rfl (yI (v := (.bool false)) rfl rfl) (qe (zA ?_))
 refine qP rfl rfl (wp_skip (yA (zA (zC ?_))))
 refine qD rfl (yJ rfl rfl (by omega)) (qM (vJ ((j : Int) + 1)) ?_)
 refine qe (yD (⟨_, ?_, _, rfl, _, j + 1, s, aa, (pS 24 (pS 23 (pS 22 (pS 17 (pS 16 (pS 15 (pS 9 (pS 8 (pS 7 (pS 6 (pS 2 (pS 1 (pU 0))))))))))))), rfl, m, (dW (dW ac af.le) ah.le), (by omega), (fun x h2 => if h3 : x = j then h3 ▸ (fun p => (decP_false.1 ((xQ (zM (zM c a) f)).symm.trans a2)) ((geD_f ae).1 p.2.1)) else hnd x (by omega)), am, al, ag, (PX.trans (PX.trans ad ai) aj), (zM (zM a f) ak)⟩))
 omega
 refine wp_exit (zV (yK (yE (yA (zA (zC ?_))))))
 refine qD rfl (yJ rfl rfl (by omega)) (qM (vJ ((i : Int) + 1)) ?_)
 refine qe (yD (⟨_, ?_, _, rfl, _, i + 1, ov, out, b, aq, (pS 17 (pS 16 (pS 15 (pS 7 (pS 6 (pS 2 (pS 1 (pU 0)))))))), rfl, aw, (dW ao ac), (by omega), (by rw [dom_miss (fun x h => hnd x (by omega)), hout]), a5, a6, ax, (PX.trans ap ad), (zM c a), ab⟩))
 omega
 refine wp_exit (zV (yK (yE (zA (zB (zC ?_))))))
 refine qM ov ?_
 refine qM ov ?_
 refine qe (zA ?_)
 refine wp_ret (zO (zQ (v := ov) rfl rfl rfl ?_))
 have hin : i = xs.length := by omega
 rw [hin] at hout
 exact ⟨_, d, _, rfl, (by rw [← hout]; exact bm), bn, az, ap, c, a4⟩
end DI1
end Go.Proofs.YtjdchbdfohiaaaaGreatDoor
namespace Go.Proofs.YtjdchbdfohiaaaaGreatDoor
namespace FT2
open Go.RowKit Go.GL Go.Proofs
open B1 C1 D1 E1 K1 PO1 PL1 PA1 SO1 OD1 FO1 NG1 NF1 NU1 NU2 NB1 NB2 DI1
theorem vR {w : World} {G : Pin} {v : Value} {fs : List Nd} {t z : Int} (hP : Pins G w) (hv : RSl eNode G v fs) :
  Calls Tryz.prog 6 [(.agg [v].toArray), (.agg [(vJ t), (vJ z)].toArray)].toArray w fun e w' => ∃ G', e = .returned (.tuple #[.bool (ftV fs t z), .bool (ftB fs t z)]) ∧ Ext noS G w G' w' := by
 refine zU (n := 63) Tryz.func6 Tryz.ntmps6 rfl rfl ?_
 have a7 := exr noS hP
 refine zB (zC ?_)
 refine qI rfl (xH [v] (v := (.agg [v].toArray)) rfl rfl a7.pins (fun b1 w2 dj ci cj ck => ?_))
 have cl := a7.step cj ck
 have cm : w.heap.size ≤ b1 := by have := a7.size; omega
 obtain ⟨G9, bm, a8, bn, dl⟩ := ci.shut cl cm
 refine qI rfl (xH [(vJ t), (vJ z)] (v := (.agg [(vJ t), (vJ z)].toArray)) rfl rfl a8.pins (fun cn dm dn co cp cq => ?_))
 have cr := a8.step cp cq
 have ct : w.heap.size ≤ cn := by have := a8.size; omega
 obtain ⟨dp, aw, a9, cu, dq⟩ := co.shut cr ct
 refine qM (.bool false) ?_
 refine qM (.bool false) ?_
 refine qe (zA (zB (zB (zC ?_))))
 refine qD rfl (zT (cs := [v]) ag26 sz26 rfl (fun j u hj => (dX a9.pins aw) _ _ _ (bn _ _ (by simpa using hj)))) (qI rfl (zF (vs := [(.agg [v].toArray)]) Tryz.func15 nm15 rfl rfl rfl ?_))
 refine dY (vX a9.pins (hv.mono (dW bm aw))) ?_
 rintro _ dr ⟨ds, rfl, ax⟩
 refine ⟨_, rfl, ?_⟩
 have ay := a9.tr ax
 refine qD rfl (xR rfl) (qe (zA ?_))
 refine qY rfl rfl (fun af => ?_) (fun af => ?_)
 refine wp_skip (zA (zB (zC ?_)))
 have hgb : goodB fs = true := af
 have hga : GoodP fs := goodB_true.1 hgb
 have hla := hga.lo
 have hha := hga.hi
 have hlb := nX hga
 refine qI rfl (zF (vs := []) Tryz.func16 nm16 rfl rfl rfl ?_)
 refine dY (rZ ay.pins) ?_
 rintro _ cv ⟨h, ai, cw, rfl, bo, cx, az⟩
 refine ⟨_, rfl, ?_⟩
 have a0 := ay.tr az
 have cy : PIn w (noS) h vN vN vN ai := PIn.fresh cx ay.size
 obtain ⟨y, ba⟩ : ∃ q, q = (⟨[], [], [], [], [], [], []⟩ : PSt) := ⟨_, rfl⟩
 rw [← ba] at bo
 have bb : PoolOk y := by rw [ba]; exact PoolOk.empty
 have hq40l : y.ns.length = 0 := by rw [ba]; rfl
 obtain ⟨bp, bq, br, bt, bu, bv⟩ : ∃ (l r b : Value), l = .slice none 0 0 ∧ r = .slice none 0 0 ∧ b = .slice none 0 0 := ⟨_, _, _, rfl, rfl, rfl⟩
 have cz : Pk 48 3 cw cv h bp bq br ai y := by rw [bt, bu, bv]; exact bo
 have bw : PIn w (noS) h bp bq br ai := by rw [bt, bu, bv]; exact cy
 have dt := pkl y
 have du := pkb bb
 refine qM (vP h) ?_
 refine qe (zA (zB (zC ?_)))
 refine qM (vP h) ?_
 refine qD rfl (zT (cs := [(vJ t), (vJ z)]) ag28 sz28 rfl (fun j u hj => (dX a0.pins (dW ax.le az.le)) _ _ _ (cu _ _ (by simpa using hj)))) (qI rfl (zF (vs := [(vP h), (.agg [(vJ t), (vJ z)].toArray)]) Tryz.func17 nm17 rfl rfl rfl ?_))
 refine dY (eW a0.pins cz bb (by omega)) ?_
 rintro _ dv ⟨m, dw, dx, dy, ae, dz, rfl, c0, a1, c1, c2, bc, c3, d0⟩
 refine ⟨_, rfl, ?_⟩
 have aj := a0.trans bc bw
 have bz := PIn.call bw c2 a0.size
 have d1 := c1.len
 have d2 := pkl ae
 have d3 := pkb a1
 refine qM (.tuple #[(vJ m), (.bool (nmB t z))]) ?_
 refine qD rfl (zX (v := (vJ m)) rfl rfl) (qD rfl (zX (v := (.bool (nmB t z))) rfl rfl) (qM (vJ m) ?_))
 refine qM (.bool (nmB t z)) ?_
 refine qe (zA (zB (zB (zC ?_))))
 refine qM (.bool (nmB t z)) ?_
 refine qD rfl (xR rfl) (qe (zA ?_))
 refine qY rfl rfl (fun ag => ?_) (fun ag => ?_)
 refine wp_skip (zA (zB (zC ?_)))
 refine qM (vP h) ?_
 refine qD rfl (zT (cs := [v]) ag26 sz26 rfl (fun j u hj => (dX aj.pins (dW (dW (dW aw ax.le) az.le) bc.le)) _ _ _ (bn _ _ (by simpa using hj)))) (qI rfl (zF (vs := [(vP h), (.agg [v].toArray)]) Tryz.func18 nm18 rfl rfl rfl ?_))
 refine dY (jX aj.pins c0 a1 (hv.mono (dW (dW (dW (dW bm aw) ax.le) az.le) bc.le)) (vF hga) (by omega) hla) ?_
 rintro _ d4 ⟨a, ak, al, b0, c, b2, rfl, a2, am, bd, c4, c5, c6, c7, d5⟩
 refine ⟨_, rfl, ?_⟩
 have b3 := aj.trans c5 bz
 have b4 := PIn.call bz c4 aj.size
 have d6 := bd.len
 have d7 := pkl c
 have d8 := pkb am
 refine qM (vJ a) ?_
 refine qe (zA (zB (zB (zC ?_))))
 have hrp := c6
 have hrg := c7
 have hpp := c3 ag
 have hxp := bd.place hpp.1
 have hxg := (bd.pd a1 am hpp.1).trans hpp.2
 have hokq := am
 have d9 := hrp.1
 have ea := hrp.2
 have eb := hxp.1
 have ec := hxp.2
 have holl := hokq.ar.ok.lens (a).toNat (by omega)
 refine qM (vP h) ?_
 refine qD rfl (yU rfl) (qD rfl (zK (k := 0) rfl dH rfl nz49 rfl) (qD rfl (zL (u := ak) ag49 rfl (a2.bx.cell (o := 0) rfl)) (qM (vJ a) ?_)))
 refine qD rfl (zJ dK sz48 (v := ak) rfl rfl a2.ol.read (by omega) (by omega)) ?_
 obtain ⟨be, an, c8⟩ := vM (a2.ol.at (z := a) (by omega) (by omega)) (j := (a).toNat) rfl
 rw [jM] at an
 have ed := an.max
 refine qD rfl (c8 ag48 rfl (Gadd.pins b3.pins ak)) (qD rfl (zP dB (v := be) rfl an) (qM (vJ 0) ?_))
 refine qe (zA ?_)
 refine zW ?_
 have a3 : (c.ns.getD (a).toNat default).l = (c.ns.getD (a).toNat default).l := rfl
 refine yS (fun k en W => ∃ (ao : Nat → Value) (j : Nat) (f : PSt) (GLl : Pin), en = (upd (upd (upd (upd (upd (upd ao 6 (vP h)) 7 (vJ m)) 9 (vJ a)) 35 be) 36 (vJ (((c.ns.getD (a).toNat default).l).length : Int))) 37 (vJ (j : Int))) ∧ k = (c.ns.getD (a).toNat default).l.length - j ∧ Ext noS G w GLl W ∧ Pin.le b2 GLl ∧ (j ≤ (c.ns.getD (a).toNat default).l.length) ∧ (∀ x, x < j → geB c.ns ((c.ns.getD (a).toNat default).l.getD x 0) m = false) ∧ (Pk 48 3 GLl W h ak al b0 ai f) ∧ (PoolOk f) ∧ (PX c f) ∧ (f.ns = c.ns ∧ f.bs = c.bs)) _ ⟨_, 0, c, b2, (pS 37 (pS 36 (pS 35 (pS 9 (pS 7 (pU 6)))))), rfl, b3, Pin.le_refl _, Nat.zero_le _, (fun q hq => absurd hq (Nat.not_lt_zero q)), a2, am, (PX.refl _), ⟨rfl, rfl⟩⟩ ?_
 rintro ee _ ef ⟨ao, j, f, GLl, rfl, eg, ap, b5, hjj, hpl, aq, a4, b6, ah⟩
 have eh := b6.len
 have ei := pkl f
 have ej := pkb a4
 have hlnl := congrArg List.length a3
 refine zB (zC ?_)
 refine qD rfl (yX rfl rfl) (qe (zA (zB ?_)))
 refine yC (p := ((j : Int) : Int) < (((c.ns.getD (a).toNat default).l).length : Int)) rfl rfl (fun c9 => ?_) (fun c9 => ?_)
 have hki := (xA hokq.ar.opts (show (a).toNat < c.ns.length by omega)).1 _ (zZ (d := (0 : Int)) (show j < (c.ns.getD (a).toNat default).l.length by omega))
 rw [← a3] at hki
 refine wp_skip (zA (zB ?_))
 refine zW (zB (zC ?_))
 refine qD rfl (zJ dB sz3 (v := be) rfl rfl an (by omega) (by omega)) (qD rfl (zI (r := ((c.ns.getD (a).toNat default).l).getD j 0) rfl ag3 (z := (j : Int)) rfl an (dX ap.pins b5) (by omega) (by omega)) (qM (vJ (((c.ns.getD (a).toNat default).l).getD j 0)) ?_))
 refine qe (zA (zB (zC ?_)))
 refine qM (vP h) ?_
 refine qM (vJ (((c.ns.getD (a).toNat default).l).getD j 0)) ?_
 refine qM (vJ m) ?_
 refine qI rfl (zF (vs := [(vP h), (vJ (((c.ns.getD (a).toNat default).l).getD j 0)), (vJ m)]) Tryz.func19 nm19 rfl rfl rfl ?_)
 refine dY (fH ap.pins aq a4 ⟨by omega, by omega⟩ ⟨by omega, by omega⟩) ?_
 rintro _ ek ⟨ac, da, rfl, db, bf, b7, b8, b9⟩
 refine ⟨_, rfl, ?_⟩
 have ca := ap.trans b9 (fun i hi => (PIn.o b4) i hi)
 have el := b7.len
 have em := pkl ac
 have eo := pkb bf
 have ep := congrArg List.length b8.1
 refine qe (zA ?_)
 refine c_if rfl rfl (fun bg => ?_) (fun bg => ?_)
 refine zB (zC ?_)
 refine qM (.bool false) ?_
 refine qM (.bool true) ?_
 refine qe (zA ?_)
 refine wp_ret (zO (jH (v := (.bool false)) (u := (.bool true)) rfl rfl rfl rfl rfl ?_))
 have hfp := eJ (x := m) hokq hrp
 rw [hrg, hxg] at hfp
 obtain ⟨e1, e2⟩ := mM af ag
 rw [e1, e2, decP_false.2 (fun g => by have h5 := (hfp.1 g).1 j (by omega); rw [← a3, ← xQ ah, bg] at h5; cases h5)]
 exact ⟨_, rfl, ca⟩
 refine wp_skip (yA (zA (zC ?_)))
 refine qD rfl (yJ rfl rfl (by omega)) (qM (vJ ((j : Int) + 1)) ?_)
 refine qe (yD (⟨_, ?_, _, rfl, _, j + 1, ac, da, (pS 37 (pS 36 (pS 35 (pS 9 (pS 7 (pU 6)))))), rfl, ca, (dW b5 b9.le), (by omega), (fun x h2 => if h3 : x = j then h3 ▸ (by rw [← a3, ← xQ ah]; exact bg) else hpl x (by omega)), db, bf, (PX.trans b6 b7), (zM ah b8)⟩))
 omega
 refine wp_exit (zV (yK (yE (zA (zB (zB (zC ?_)))))))
 refine qM (vP h) ?_
 refine qD rfl (yU rfl) (qD rfl (zK (k := 1) rfl dH rfl nz49 rfl) (qD rfl (zL (u := al) ag49 rfl (aq.bx.cell (o := 1) rfl)) (qM (vJ a) ?_)))
 refine qD rfl (zJ dK sz48 (v := al) rfl rfl aq.rr.read (by omega) (by omega)) ?_
 obtain ⟨bh, av, dd⟩ := vM (aq.rr.at (z := a) (by omega) (by omega)) (j := (a).toNat) rfl
 rw [jL] at av
 have eq := av.max
 refine qD rfl (dd ag48 rfl (Gadd.pins ap.pins al)) (qD rfl (zP dB (v := bh) rfl av) (qM (vJ 0) ?_))
 refine qe (zA ?_)
 refine zW ?_
 have a5 : (f.ns.getD (a).toNat default).r = (c.ns.getD (a).toNat default).r := by rw [ah.1]
 refine yS (fun k en W => ∃ (ao : Nat → Value) (i : Nat) (s : PSt) (GLr : Pin), en = (upd (upd (upd (upd (upd ao 6 (vP h)) 7 (vJ m)) 52 bh) 53 (vJ (((f.ns.getD (a).toNat default).r).length : Int))) 54 (vJ (i : Int))) ∧ k = (c.ns.getD (a).toNat default).r.length - i ∧ Ext noS G w GLr W ∧ Pin.le GLl GLr ∧ (i ≤ (c.ns.getD (a).toNat default).r.length) ∧ (∀ x, x < i → geB c.ns m ((c.ns.getD (a).toNat default).r.getD x 0) = false) ∧ (Pk 48 3 GLr W h ak al b0 ai s) ∧ (PoolOk s) ∧ (PX f s) ∧ (s.ns = f.ns ∧ s.bs = f.bs)) _ ⟨_, 0, f, GLl, (pS 54 (pS 53 (pS 52 (pS 7 (pU 6))))), rfl, ap, Pin.le_refl _, Nat.zero_le _, (fun q hq => absurd hq (Nat.not_lt_zero q)), aq, a4, (PX.refl _), ⟨rfl, rfl⟩⟩ ?_
 rintro er _ es ⟨ao, i, s, GLr, rfl, et, a6, cb, hji, hpr, de, bi, cc, bj⟩
 have eu := cc.len
 have ev := pkl s
 have ew := pkb bi
 have hlnr := congrArg List.length a5
 refine zB (zC ?_)
 refine qD rfl (yX rfl rfl) (qe (zA (zB ?_)))
 refine yC (p := ((i : Int) : Int) < (((f.ns.getD (a).toNat default).r).length : Int)) rfl rfl (fun df => ?_) (fun df => ?_)
 have hki := (xA hokq.ar.opts (show (a).toNat < c.ns.length by omega)).2 _ (zZ (d := (0 : Int)) (show i < (c.ns.getD (a).toNat default).r.length by omega))
 rw [← a5] at hki
 refine wp_skip (zA (zB ?_))
 refine zW (zB (zC ?_))
 refine qD rfl (zJ dB sz3 (v := bh) rfl rfl av (by omega) (by omega)) (qD rfl (zI (r := ((f.ns.getD (a).toNat default).r).getD i 0) rfl ag3 (z := (i : Int)) rfl av (dX a6.pins cb) (by omega) (by omega)) (qM (vJ (((f.ns.getD (a).toNat default).r).getD i 0)) ?_))
 refine qe (zA (zB (zC ?_)))
 refine qM (vP h) ?_
 refine qM (vJ m) ?_
 refine qM (vJ (((f.ns.getD (a).toNat default).r).getD i 0)) ?_
 refine qI rfl (zF (vs := [(vP h), (vJ m), (vJ (((f.ns.getD (a).toNat default).r).getD i 0))]) Tryz.func19 nm19 rfl rfl rfl ?_)
 refine dY (fH a6.pins de bi ⟨by omega, by omega⟩ ⟨by omega, by omega⟩) ?_
 rintro _ ex ⟨ad, dg, rfl, dh, bk, cd, ce, cf⟩
 refine ⟨_, rfl, ?_⟩
 have cg := a6.trans cf (fun i hi => (PIn.o b4) i hi)
 have ey := cd.len
 have ez := pkl ad
 have e0 := pkb bk
 have e3 := congrArg List.length ce.1
 refine qe (zA ?_)
 refine c_if rfl rfl (fun bl => ?_) (fun bl => ?_)
 refine zB (zC ?_)
 refine qM (.bool false) ?_
 refine qM (.bool true) ?_
 refine qe (zA ?_)
 refine wp_ret (zO (jH (v := (.bool false)) (u := (.bool true)) rfl rfl rfl rfl rfl ?_))
 have hfp := eJ (x := m) hokq hrp
 rw [hrg, hxg] at hfp
 obtain ⟨e1, e2⟩ := mM af ag
 rw [e1, e2, decP_false.2 (fun g => by have h5 := (hfp.1 g).2 i (by omega); rw [← a5, ← xQ (zM ah bj), bl] at h5; cases h5)]
 exact ⟨_, rfl, cg⟩
 refine wp_skip (yA (zA (zC ?_)))
 refine qD rfl (yJ rfl rfl (by omega)) (qM (vJ ((i : Int) + 1)) ?_)
 refine qe (yD (⟨_, ?_, _, rfl, _, i + 1, ad, dg, (pS 54 (pS 53 (pS 52 (pS 7 (pU 6))))), rfl, cg, (dW cb cf.le), (by omega), (fun x h2 => if h3 : x = i then h3 ▸ (by rw [← a5, ← xQ (zM ah bj)]; exact bl) else hpr x (by omega)), dh, bk, (PX.trans cc cd), (zM bj ce)⟩))
 omega
 refine wp_exit (zV (yK (yE (zA (zB (zC ?_))))))
 refine qM (.bool true) ?_
 refine qM (.bool true) ?_
 refine qe (zA ?_)
 refine wp_ret (zO (jH (v := (.bool true)) (u := (.bool true)) rfl rfl rfl rfl rfl ?_))
 have hfp := eJ (x := m) hokq hrp
 rw [hrg, hxg] at hfp
 obtain ⟨e1, e2⟩ := mM af ag
 rw [e1, e2, decP_true.2 (hfp.2 ⟨fun x hx => hpl x (by omega), fun x hx => hpr x (by omega)⟩)]
 exact ⟨_, rfl, a6⟩
 refine zB (zC ?_)
 refine qM (.bool false) ?_
 refine qM (.bool false) ?_
 refine qe (zA ?_)
 refine wp_ret (zO (jH (v := (.bool false)) (u := (.bool false)) rfl rfl rfl rfl rfl ?_))
 obtain ⟨e1, e2⟩ := ftn_no (fs := fs) (t := t) (z := z) ag
 rw [e1, e2]
 exact ⟨_, rfl, aj⟩
 refine zB (zC ?_)
 refine qM (.bool false) ?_
 refine qM (.bool false) ?_
 refine qe (zA ?_)
 refine wp_ret (zO (jH (v := (.bool false)) (u := (.bool false)) rfl rfl rfl rfl rfl ?_))
 obtain ⟨e1, e2⟩ := ftn_bad (fs := fs) (t := t) (z := z) af
 rw [e1, e2]
 exact ⟨_, rfl, ay⟩
end FT2
end Go.Proofs.YtjdchbdfohiaaaaGreatDoor
namespace Go.Proofs.YtjdchbdfohiaaaaGreatDoor
namespace RI1
open Go.RowKit Go.GL Go.Proofs
open B1 K1 PO1 PL1
theorem rQ {p : Nat} {L R B : Value} {mm : PM} {w : World} {G : Pin} {q : PSt} {f c : Int} {x : Value} {xs : List Int} {lf : Bool} (hP : Pins G w) (hpk : Pk 48 3 G w p L R B mm q) (hok : PoolOk q) (hf : PlaceOk q f) (hc : PlaceOk q c) (hx : RSl eInt G x xs) (hxs : xs = (if lf = true then (q.ns.getD (c).toNat default).r else (q.ns.getD (c).toNat default).l)) (hxp : ∀ z ∈ xs, PlaceOk q z) :
  Calls Tryz.prog 90 [(vP p), (vJ f), (vJ c), (.bool lf), x].toArray w fun e w' => ∃ (t : Int) (q' : PSt) (G' : Pin), e = .returned (vJ t) ∧ thrP q.ns lf f c t ∧ Pk 48 3 G' w' p L R B mm q' ∧ PoolOk q' ∧ PX q q' ∧ (q'.ns = q.ns ∧ q'.bs = q.bs) ∧ Ext (inO (some mm.o)) G w G' w' := by
 refine zU (n := 38) Tryz.func90 Tryz.ntmps90 rfl rfl ?_
 have a2 := exr (inO (some mm.o)) hP
 have hpin : PIn w (inP p L R B mm) p L R B mm := PIn.self
 have bb := pkl q
 have bc := pkb hok
 have hm := hx.max
 refine zB (zC ?_)
 refine qM (vJ 0) ?_
 refine qe (zA (zB (zB (zC ?_))))
 refine qM x ?_
 refine qD rfl (zP dB (v := x) rfl hx) (qM (vJ 0) ?_)
 refine qe (zA ?_)
 refine zW (yS (fun k en W => ∃ (av : Nat → Value) (i : Nat) (a : PSt) (ac : Pin), en = (upd (upd (upd (upd (upd (upd av 0 (vP p)) 1 (vJ f)) 3 (.bool lf)) 13 x) 14 (vJ (xs.length : Int))) 15 (vJ (i : Int))) ∧ k = xs.length - i ∧ Ext (inO (some mm.o)) G w ac W ∧ Pin.le G ac ∧ (i ≤ xs.length) ∧ (lf = true → ∀ x, x < i → geB q.ns f (xs.getD x 0) = false) ∧ (lf = false → ∀ x, x < i → geB q.ns (xs.getD x 0) f = false) ∧ (Pk 48 3 ac W p L R B mm a) ∧ (PoolOk a) ∧ (PX q a) ∧ (a.ns = q.ns ∧ a.bs = q.bs)) _ ⟨_, 0, q, G, (pS 15 (pS 14 (pS 13 (pS 3 (pS 1 (pU 0)))))), rfl, a2, Pin.le_refl _, Nat.zero_le _, (fun _ x h => absurd h (Nat.not_lt_zero x)), (fun _ x h => absurd h (Nat.not_lt_zero x)), hpk, hok, (PX.refl _), ⟨rfl, rfl⟩⟩ ?_)
 rintro k7 _ w8 ⟨av, i, a, ac, rfl, bf, y, ad, hi, hpt, hpf, af, aa, s, b⟩
 have bg := s.len
 have bh := pkl a
 have bi := pkb aa
 refine zB (zC ?_)
 refine qD rfl (yX rfl rfl) (qe (zA (zB ?_)))
 refine yC (p := ((i : Int) : Int) < (xs.length : Int)) rfl rfl (fun a3 => ?_) (fun a3 => ?_)
 refine wp_skip (zA (zB ?_))
 refine zW (zB (zC ?_))
 refine qD rfl (zJ dB sz3 (v := x) rfl rfl hx (by omega) (by omega)) (qD rfl (zI (r := xs.getD i 0) rfl ag3 (z := (i : Int)) rfl hx (dX y.pins ad) (by omega) (by omega)) (qM (vJ (xs.getD i 0)) ?_))
 refine qe (zA (zB (zC ?_)))
 refine qM (.bool lf) ?_
 refine qM (.bool lf) ?_
 refine qb (t := 20) rfl (fun g => ?_) (fun g => ?_)
 refine qN (zR (v := (vP p)) rfl) ?_
 refine qN (zR (v := (vJ f)) rfl) ?_
 refine qN (zR (v := (vJ (xs.getD i 0))) rfl) ?_
 refine q1g rfl rfl rfl rfl rfl rfl (zF (vs := [(vP p), (vJ f), (vJ (xs.getD i 0))]) Tryz.func19 nm19 rfl rfl rfl ?_)
 refine dY (fH y.pins af aa (hf.same b) ((hxp _ (zZ (d := (0 : Int)) (show i < xs.length by omega))).same b)) ?_
 rintro _ bj ⟨j, a4, rfl, ak, ae, ag, ab, al⟩
 refine ⟨_, rfl, ?_⟩
 have ah := y.trans al (fun i hi => yV i hi)
 have bk := ag.len
 have bl := pkl j
 have bm := pkb ae
 have bn := congrArg List.length ab.1
 refine qD rfl (yR (v := (.bool (geB a.ns f (xs.getD i 0)))) rfl rfl) (qM (.bool (geB a.ns f (xs.getD i 0))) ?_)
 refine qb (t := 26) rfl (fun am => ?_) (fun am => ?_)
 refine qW ?_
 refine qW ?_
 refine qW ?_
 refine qX ?_
 refine qX ?_
 refine qX ?_
 refine qX ?_
 refine qW ?_
 refine qD rfl (yR (v := (.bool true)) rfl rfl) (qe (zA ?_))
 refine jS rfl rfl (zB (zC ?_))
 refine qM (vJ (xs.getD i 0)) ?_
 refine qM (vJ (xs.getD i 0)) ?_
 refine qe (zA ?_)
 refine wp_ret (zO (zQ (v := (vJ (xs.getD i 0))) rfl rfl rfl ?_))
 have hmem : xs.getD i 0 ∈ xs := zZ (show i < xs.length by omega)
 rw [g, if_pos rfl] at hxs
 exact ⟨_, j, _, rfl, thr_hit hok.ar.opts hc (Or.inl ⟨g, hxs ▸ hmem, ((xQ b).symm.trans am)⟩), ak, ae, (PX.trans s ag), (zM b ab), ah⟩
 refine qN (zR (v := (.bool lf)) rfl) ?_
 refine qN (xR rfl) ?_
 refine qN (zR (v := (.bool (!lf))) rfl) ?_
 refine qbn (t := 29) rfl (fun ai => ?_) (fun ai => ?_)
 refine qW ?_
 refine qW ?_
 refine qW ?_
 refine qW ?_
 refine qN (yI (v := (.bool false)) rfl rfl) ?_
 refine qD rfl (yI (v := (.bool false)) rfl rfl) (qe (zA ?_))
 refine qP rfl rfl (wp_skip (yA (zA (zC ?_))))
 refine qD rfl (yJ rfl rfl (by omega)) (qM (vJ ((i : Int) + 1)) ?_)
 refine qe (yD (⟨_, ?_, _, rfl, _, i + 1, j, a4, (pS 15 (pS 14 (pS 13 (pS 3 (pS 1 (pU 0)))))), rfl, ah, (dW ad al.le), (by omega), (fun hl x h2 => if h3 : x = i then h3 ▸ ((xQ b).symm.trans am) else hpt hl x (by omega)), (fun hl => absurd (g.symm.trans hl) (by decide)), ak, ae, (PX.trans s ag), (zM b ab)⟩))
 omega
 refine qN (zR (v := (vP p)) rfl) ?_
 refine qN (zR (v := (vJ (xs.getD i 0))) rfl) ?_
 refine qN (zR (v := (vJ f)) rfl) ?_
 refine q1g rfl rfl rfl rfl rfl rfl (zF (vs := [(vP p), (vJ (xs.getD i 0)), (vJ f)]) Tryz.func19 nm19 rfl rfl rfl ?_)
 refine dY (fH ah.pins ak ae ((hxp _ (zZ (d := (0 : Int)) (show i < xs.length by omega))).same (zM b ab)) (hf.same (zM b ab))) ?_
 rintro _ bo ⟨u, a6, rfl, a7, an, aw, ax, ay⟩
 refine ⟨_, rfl, ?_⟩
 have a8 := ah.trans ay (fun i hi => yV i hi)
 have bp := aw.len
 have bq := pkl u
 have br := pkb an
 have bt := congrArg List.length ax.1
 refine qN (yR (v := (.bool (geB j.ns (xs.getD i 0) f))) rfl rfl) ?_
 refine qD rfl (yI (v := (.bool (geB j.ns (xs.getD i 0) f))) rfl rfl) (qe (zA ?_))
 refine c_if rfl rfl (fun a9 => ?_) (fun a9 => ?_)
 refine zB (zC ?_)
 refine qM (vJ (xs.getD i 0)) ?_
 refine qM (vJ (xs.getD i 0)) ?_
 refine qe (zA ?_)
 exact wp_ret (zO (zQ (v := (vJ (xs.getD i 0))) rfl rfl rfl ((absurd (ai.symm.trans g) Bool.false_ne_true))))
 refine wp_skip (yA (zA (zC ?_)))
 refine qD rfl (yJ rfl rfl (by omega)) (qM (vJ ((i : Int) + 1)) ?_)
 refine qe (yD (⟨_, ?_, _, rfl, _, i + 1, u, a6, (pS 15 (pS 14 (pS 13 (pS 3 (pS 1 (pU 0)))))), rfl, a8, (dW (dW ad al.le) ay.le), (by omega), (absurd (ai.symm.trans g) Bool.false_ne_true), (absurd (ai.symm.trans g) Bool.false_ne_true), a7, an, (PX.trans (PX.trans s ag) aw), (zM (zM b ab) ax)⟩))
 omega
 refine qW ?_
 refine qW ?_
 refine qW ?_
 refine qW ?_
 refine qD rfl (yI (v := (.bool false)) rfl rfl) (qM (.bool false) ?_)
 refine qN (zR (v := (.bool lf)) rfl) ?_
 refine qN (xR rfl) ?_
 refine qN (zR (v := (.bool (!lf))) rfl) ?_
 refine qbn (t := 29) rfl (fun ao => ?_) (fun ao => ?_)
 refine qW ?_
 refine qW ?_
 refine qW ?_
 refine qW ?_
 refine qN (yI (v := (.bool false)) rfl rfl) ?_
 refine qD rfl (yI (v := (.bool false)) rfl rfl) (qe (zA ?_))
 refine qP rfl rfl (wp_skip (yA (zA (zC ?_))))
 refine qD rfl (yJ rfl rfl (by omega)) (qM (vJ ((i : Int) + 1)) ?_)
 refine qe (yD (⟨_, ?_, _, rfl, _, i + 1, a, ac, (pS 15 (pS 14 (pS 13 (pS 3 (pS 1 (pU 0)))))), rfl, y, ad, (by omega), (absurd (g.symm.trans ao) Bool.false_ne_true), (absurd (g.symm.trans ao) Bool.false_ne_true), af, aa, s, b⟩))
 omega
 refine qN (zR (v := (vP p)) rfl) ?_
 refine qN (zR (v := (vJ (xs.getD i 0))) rfl) ?_
 refine qN (zR (v := (vJ f)) rfl) ?_
 refine q1g rfl rfl rfl rfl rfl rfl (zF (vs := [(vP p), (vJ (xs.getD i 0)), (vJ f)]) Tryz.func19 nm19 rfl rfl rfl ?_)
 refine dY (fH y.pins af aa ((hxp _ (zZ (d := (0 : Int)) (show i < xs.length by omega))).same b) (hf.same b)) ?_
 rintro _ bu ⟨m, ba, rfl, az, aj, ap, aq, a0⟩
 refine ⟨_, rfl, ?_⟩
 have a1 := y.trans a0 (fun i hi => yV i hi)
 have bv := ap.len
 have bw := pkl m
 have bx := pkb aj
 have bz := congrArg List.length aq.1
 refine qN (yR (v := (.bool (geB a.ns (xs.getD i 0) f))) rfl rfl) ?_
 refine qD rfl (yI (v := (.bool (geB a.ns (xs.getD i 0) f))) rfl rfl) (qe (zA ?_))
 refine c_if rfl rfl (fun au => ?_) (fun au => ?_)
 refine zB (zC ?_)
 refine qM (vJ (xs.getD i 0)) ?_
 refine qM (vJ (xs.getD i 0)) ?_
 refine qe (zA ?_)
 refine wp_ret (zO (zQ (v := (vJ (xs.getD i 0))) rfl rfl rfl ?_))
 have hmem : xs.getD i 0 ∈ xs := zZ (show i < xs.length by omega)
 rw [g, if_neg Bool.false_ne_true] at hxs
 exact ⟨_, m, _, rfl, thr_hit hok.ar.opts hc (Or.inr ⟨g, hxs ▸ hmem, ((xQ b).symm.trans au)⟩), az, aj, (PX.trans s ap), (zM b aq), a1⟩
 refine wp_skip (yA (zA (zC ?_)))
 refine qD rfl (yJ rfl rfl (by omega)) (qM (vJ ((i : Int) + 1)) ?_)
 refine qe (yD (⟨_, ?_, _, rfl, _, i + 1, m, ba, (pS 15 (pS 14 (pS 13 (pS 3 (pS 1 (pU 0)))))), rfl, a1, (dW ad a0.le), (by omega), (fun hl => absurd (g.symm.trans hl) (by decide)), (fun hl x h2 => if h3 : x = i then h3 ▸ ((xQ b).symm.trans au) else hpf hl x (by omega)), az, aj, (PX.trans s ap), (zM b aq)⟩))
 omega
 refine wp_exit (zV (yK (yE (zA (zB (zC ?_))))))
 refine qM (vJ (-1)) ?_
 refine qe (zA ?_)
 refine wp_ret (zO (zQ (v := (vJ (-1))) rfl rfl rfl ?_))
 have hii : i = xs.length := by omega
 refine ⟨_, a, _, rfl, ?_, af, aa, s, b, y⟩
 cases hlf : lf
 ·rw [hlf, if_neg Bool.false_ne_true] at hxs
  exact thr_none_f hok.ar.opts hc (fun k hk => by rw [← hxs] at hk ⊢; exact hpf hlf k (by omega))
 ·rw [hlf, if_pos rfl] at hxs
  exact thr_none_t hok.ar.opts hc (fun k hk => by rw [← hxs] at hk ⊢; exact hpt hlf k (by omega))
end RI1
end Go.Proofs.YtjdchbdfohiaaaaGreatDoor
namespace Go.Proofs.YtjdchbdfohiaaaaGreatDoor
namespace CN1
open Go.RowKit Go.GL Go.Proofs
open B1 K1 PO1 PL1 DI1 RI1
theorem rN {w : World} {G : Pin} {x y : Value} {xs D : List Int} (hP : Pins G w) (hx : RSl eInt G x xs) (hy : RSl eInt G y D) (hxl : xs.length ≤ 1048576) (hpw : D.Pairwise (· < ·)) (hD0 : ∀ z ∈ D, 0 ≤ z) :
  Calls Tryz.prog 91 [x, y].toArray w fun e w' => ∃ (u : Value) (G' : Pin), e = .returned u ∧ Own eInt 3 G' w' w.heap.size u (woL xs D xs.length) ∧ Ext noS G w G' w' := by
 refine zU (n := 34) Tryz.func91 Tryz.ntmps91 rfl rfl ?_
 have h := exr noS hP
 have hm := hx.max
 have a9 := hy.max
 refine zB (zC ?_)
 refine qM vN ?_
 refine qe (zA (zB (zC ?_)))
 refine qI rfl (xC (E := eInt) (e := 3) dB sz3 h.pins (fun j w2 ai aj ak ba => ?_))
 have al := h.step aj ak
 have am := ai.weaken h.size
 refine qM j ?_
 refine qe (zA (zB (zB (zC ?_))))
 refine qM x ?_
 refine qD rfl (zP dB (v := x) rfl hx) (qM (vJ 0) ?_)
 refine qe (zA ?_)
 refine zW (yS (fun k en W => ∃ (o : Nat → Value) (i : Nat) (pv : Value) (ds : List Int) (ov : Value) (out : List Int) (a : Pin), en = (upd (upd (upd (upd (upd (upd o 1 pv) 4 vN) 5 ov) 9 x) 10 (vJ (xs.length : Int))) 11 (vJ (i : Int))) ∧ k = xs.length - i ∧ Ext noS G w a W ∧ Pin.le G a ∧ (i ≤ xs.length) ∧ (WoOk D ds i) ∧ (out = woL xs D i) ∧ (Own eInt 3 a W w.heap.size ov (out)) ∧ (RSl eInt a pv (ds))) _ ⟨_, 0, y, D, j, [], G, (pS 11 (pS 10 (pS 9 (pS 5 (pS 4 (pU 1)))))), rfl, al, Pin.le_refl _, Nat.zero_le _, (WoOk.start hpw hD0), rfl, am, hy⟩ ?_)
 rintro k9 _ bc ⟨o, i, pv, ds, ov, out, a, rfl, bd, b, f, hi, hwo, hout, g, c⟩
 have hol : out.length ≤ i := by rw [hout]; exact wo_len i
 refine zB (zC ?_)
 refine qD rfl (yX rfl rfl) (qe (zA (zB ?_)))
 refine yC (p := ((i : Int) : Int) < (xs.length : Int)) rfl rfl (fun an => ?_) (fun an => ?_)
 refine wp_skip (zA (zB ?_))
 refine zW (zB (zC ?_))
 refine qM (vJ (i : Int)) ?_
 refine qD rfl (zJ dB sz3 (v := x) rfl rfl hx (by omega) (by omega)) (qD rfl (zI (r := xs.getD i 0) rfl ag3 (z := (i : Int)) rfl hx (dX b.pins f) (by omega) (by omega)) (qM (vJ (i : Int)) ?_))
 refine qM (vJ (xs.getD i 0)) ?_
 refine qe (zA (zB (zB (zC ?_))))
 refine qM pv ?_
 refine qD rfl (zP dB (v := pv) rfl c) (qD rfl (jO rfl rfl) (qM (.bool (decide ((0 : Int) < (ds.length : Int)))) ?_))
 refine qbd (p := (0 : Int) < (ds.length : Int)) (t := 19) rfl (fun ao => ?_) (fun ao => ?_)
 refine qN (zR (v := pv) rfl) ?_
 refine qN (zJ dB sz3 (v := pv) rfl rfl c (by omega) (by omega)) ?_
 refine qN (zI (r := ds.getD 0 0) rfl ag3 (z := 0) rfl c b.pins (by omega) (by omega)) ?_
 refine qN (zR (v := (vJ (i : Int))) rfl) ?_
 refine qN (xU rfl rfl) ?_
 refine qD rfl (yR (v := (.bool (decide ((ds.getD 0 0 : Int) = (i : Int))))) rfl rfl) (qe (zA ?_))
 refine yC (p := (ds.getD 0 0 : Int) = (i : Int)) rfl rfl (fun d => ?_) (fun d => ?_)
 refine zB (zC ?_)
 refine qM pv ?_
 obtain ⟨q, ap, aq⟩ := jC c (lo := (some (1))) (hi := none) (1) (ds.length) (Or.inr ⟨_, rfl, (by omega), rfl⟩) (Or.inl ⟨rfl, rfl⟩) (by omega) (by omega)
 refine qD rfl (aq dB sz3 rfl rfl rfl) (qM q ?_)
 refine qe (zA ?_)
 refine wp_exit (zV (yE (zA (zC ?_))))
 refine qD rfl (yJ rfl rfl (by omega)) (qM (vJ ((i : Int) + 1)) ?_)
 refine qe (yD (⟨_, ?_, _, rfl, _, i + 1, q, (ds.take ds.length).drop 1, ov, out, a, (pS 11 (pS 10 (pS 9 (pS 5 (pS 4 (pU 1)))))), rfl, b, f, (by omega), (by rw [List.take_length]; exact (hwo.hit (by omega) d).1), (by rw [show woL xs D (i + 1) = woL xs D i from if_pos (hwo.hit (by omega) d).2, hout]), g, ap⟩))
 omega
 refine wp_skip (zA (zC ?_))
 refine qM ov ?_
 refine qM (vJ (xs.getD i 0)) ?_
 refine qI rfl (yG (E := eInt) (e := 3) [(vJ (xs.getD i 0))] [xs.getD i 0] dB sz3 zr3 (by exact xK (by rfl)) (yO (by rfl)) rfl rfl rfl rfl (by decide) b.pins (fun s ar au av aa be => ?_))
 have l := b.step av aa
 have ab := g.below aa
 have aw := au.weaken b.size
 refine qI rfl (oA (E := eInt) (v := ov) (u := s) 8 dB ap3 (by decide) rfl rfl l.pins ab aw.src (l.size) (fun ac bf ax ay az bg => ?_))
 have a0 := l.write ay az ((yH ab))
 have bh := la1 out (xs.getD i 0)
 refine qM ac ?_
 refine qe (yA (zA (zC ?_)))
 refine qD rfl (yJ rfl rfl (by omega)) (qM (vJ ((i : Int) + 1)) ?_)
 refine qe (yD (⟨_, ?_, _, rfl, _, i + 1, pv, ds, ac, out ++ ([xs.getD i 0]), a, (pS 11 (pS 10 (pS 9 (pS 5 (pS 4 (pU 1)))))), rfl, a0, f, (by omega), (hwo.miss (Or.inr d)).1, (by rw [show woL xs D (i + 1) = woL xs D i ++ [xs.getD i 0] from if_neg (hwo.miss (Or.inr d)).2, hout]), ax, c⟩))
 omega
 refine qW ?_
 refine qW ?_
 refine qW ?_
 refine qW ?_
 refine qW ?_
 refine qD rfl (yI (v := (.bool false)) rfl rfl) (qe (zA ?_))
 refine qP rfl rfl (wp_skip (zA (zC ?_)))
 refine qM ov ?_
 refine qM (vJ (xs.getD i 0)) ?_
 refine qI rfl (yG (E := eInt) (e := 3) [(vJ (xs.getD i 0))] [xs.getD i 0] dB sz3 zr3 (by exact xK (by rfl)) (yO (by rfl)) rfl rfl rfl rfl (by decide) b.pins (fun ad a1 a2 a3 ae bi => ?_))
 have m := b.step a3 ae
 have af := g.below ae
 have a4 := a2.weaken b.size
 refine qI rfl (oA (E := eInt) (v := ov) (u := ad) 8 dB ap3 (by decide) rfl rfl m.pins af a4.src (m.size) (fun ag bj a5 a6 a7 bk => ?_))
 have a8 := m.write a6 a7 ((yH af))
 have bl := la1 out (xs.getD i 0)
 refine qM ag ?_
 refine qe (yA (zA (zC ?_)))
 refine qD rfl (yJ rfl rfl (by omega)) (qM (vJ ((i : Int) + 1)) ?_)
 refine qe (yD (⟨_, ?_, _, rfl, _, i + 1, pv, ds, ag, out ++ ([xs.getD i 0]), a, (pS 11 (pS 10 (pS 9 (pS 5 (pS 4 (pU 1)))))), rfl, a8, f, (by omega), (hwo.miss (Or.inl (by omega))).1, (by rw [show woL xs D (i + 1) = woL xs D i ++ [xs.getD i 0] from if_neg (hwo.miss (Or.inl (by omega))).2, hout]), a5, c⟩))
 omega
 refine wp_exit (zV (yK (yE (zA (zB (zC ?_))))))
 refine qM ov ?_
 refine qM ov ?_
 refine qe (zA ?_)
 refine wp_ret (zO (zQ (v := ov) rfl rfl rfl ?_))
 have hin : i = xs.length := by omega
 rw [hin] at hout
 exact ⟨_, _, rfl, (by rw [← hout]; exact g), b⟩
def CanP (N m p : Nat) (mm : PM) : Prop := ∀ {w : World} {G : Pin} {L R B : Value} {q : PSt} {f : Int} (_ : Pins G w) (_ : Pk 48 3 G w p L R B mm q) (_ : PoolOk q) (_ : PlaceOk q f) (_ : f < (N : Int)) (_ : q.ns.length + unc q N < 1048576), f.toNat < m →
  Calls Tryz.prog 56 [(.pointer (some ⟨p, 0, none⟩)), (.int .i64 f)].toArray w fun e w' => ∃ (z : Int) (L' R' B' : Value) (q' : PSt) (G' : Pin), e = .returned (.int .i64 z) ∧ Pk 48 3 G' w' p L' R' B' mm q' ∧ PoolOk q' ∧ PX q q' ∧ PLo w p L R B mm L' R' B' ∧ Ext (inP p L R B mm) G w G' w' ∧ PlaceOk q' z ∧ CanonG (pd q' z) ∧ eqG (pd q' z) (pd q' f) ∧ q'.ns.length + unc q' N ≤ q.ns.length + unc q N
end CN1
end Go.Proofs.YtjdchbdfohiaaaaGreatDoor
namespace Go.Proofs.YtjdchbdfohiaaaaGreatDoor
namespace CN2
open Go.RowKit Go.GL Go.Proofs
open B1 K1 PO1 PL1 DI1 RI1 CN1
theorem reduced_t {w : World} {G : Pin} {L R B : Value} {q : PSt} {f : Int} {p : Nat} {mm : PM} {N m : Nat} (hP : Pins G w) (hpk : Pk 48 3 G w p L R B mm q) (hok : PoolOk q) (hf : PlaceOk q f) (hfN : f < (N : Int)) (hbud : q.ns.length + unc q N < 1048576) (ih : CanP N m p mm) (hm : f.toNat < m + 1) :
  Calls Tryz.prog 77 [(vP p), (vJ f), (.bool true)].toArray w fun e w' => ∃ (u : Value) (zs : List Int) (L' R' B' : Value) (q' : PSt) (G' : Pin), e = .returned u ∧ Pk 48 3 G' w' p L' R' B' mm q' ∧ PoolOk q' ∧ PX q q' ∧ PLo w p L R B mm L' R' B' ∧ Ext (inP p L R B mm) G w G' w' ∧ Own eInt 3 G' w' w.heap.size u zs ∧ NP p L' R' B' mm u.ownBlock ∧ ReOk q' true f zs ∧ q'.ns.length + unc q' N ≤ q.ns.length + unc q N := by
 refine zU (n := 120) Tryz.func77 Tryz.ntmps77 rfl rfl ?_
 have bo := exr (inP p L R B mm) hP
 have hpin : PIn w (inP p L R B mm) p L R B mm := PIn.self
 have gh := pkl q
 have gi := pkb hok
 have gj := hf.1
 have gk := hf.2
 have dz := ol_len hok (lf := true) hf
 have gl : (q.ns.getD (f).toNat default).l.length ≤ 1048576 := dz
 refine zB (zC ?_)
 refine qM vN ?_
 refine qe (zA (zB (zC ?_)))
 refine qI rfl (xC (E := eInt) (e := 3) dB sz3 bo.pins (fun u3 w4 d1 cn co d2 => ?_))
 have bp := bo.step cn co
 have cp := hpk.below co cn
 have d3 := hpk.new (x := u3.ownBlock) (fun k hk => by rw [d2] at hk; cases hk; exact Nat.le_refl _)
 have d4 := d1.weaken bo.size
 refine qI rfl (jZ (fun k : Int => Value.int .i64 k) (fun v : Bool => Value.bool v) bp.pins (fun t gm gn d5 cq bq => ?_))
 have br := bp.step cq bq
 have cr := d4.below bq
 have cs := cp.below bq cq
 have d6 := cp.new (x := some t) (fun k hk => by cases hk; omega)
 have d7 : w.heap.size ≤ t := by have := bp.size; omega
 refine qI rfl (xC (E := eInt) (e := 3) dB sz3 br.pins (fun ab d8 d9 ct ba cu => ?_))
 have bt := br.step ct ba
 have ea := cr.below ba
 have eb := d5.below ba
 have ag := cs.below ba ct
 have ec := zG cu cr.lt
 have ed := cs.new (x := ab.ownBlock) (fun k hk => by rw [cu] at hk; cases hk; exact Nat.le_refl _)
 have ee := d9.weaken br.size
 refine qM u3 ?_
 refine qM (.map (some t)) ?_
 refine qM ab ?_
 refine qe (zA (zB (zC ?_)))
 refine qM (vP p) ?_
 refine qD rfl (yU rfl) (qD rfl (zK (k := 1) rfl dH rfl nz49 rfl) (qD rfl (zL (u := R) ag49 rfl (ag.bx.cell (o := 1) rfl)) (qM (vJ f) ?_)))
 refine qD rfl (zJ dK sz48 (v := R) rfl rfl ag.rr.read (by omega) (by omega)) ?_
 obtain ⟨ef, cv, eg⟩ := vM (ag.rr.at (z := f) (by omega) (by omega)) (j := (f).toNat) rfl
 rw [jL] at cv
 have gp := cv.max
 refine qD rfl (eg ag48 rfl (Gadd.pins bt.pins R)) (qM ef ?_)
 refine qe (zA (zB (zB (zC ?_))))
 refine qM (.bool true) ?_
 refine qe (zA ?_)
 refine jS rfl rfl (zC (qM (vP p) ?_))
 refine qD rfl (yU rfl) (qD rfl (zK (k := 0) rfl dH rfl nz49 rfl) (qD rfl (zL (u := L) ag49 rfl (ag.bx.cell (o := 0) rfl)) (qM (vJ f) ?_)))
 refine qD rfl (zJ dK sz48 (v := L) rfl rfl ag.ol.read (by omega) (by omega)) ?_
 obtain ⟨av, aw, eh⟩ := vM (ag.ol.at (z := f) (by omega) (by omega)) (j := (f).toNat) rfl
 rw [jM] at aw
 have gq := aw.max
 refine qD rfl (eh ag48 rfl (Gadd.pins bt.pins L)) (qM av ?_)
 refine qe (zA (zB (zB (zC ?_))))
 refine qM av ?_
 refine qD rfl (zP dB (v := av) rfl aw) (qM (vJ 0) ?_)
 refine qe (zA ?_)
 refine zW (yS (fun k en W => ∃ (ax : Nat → Value) (j : Nat) (qv : Value) (qs : List Int) (b : Value) (h : Value) (y : Value) (a : PSt) (ac : Pin), en = (upd (upd (upd (upd (upd (upd (upd (upd (upd (upd ax 0 (vP p)) 1 (vJ f)) 2 (.bool true)) 6 vN) 7 qv) 8 (.map (some t))) 9 ab) 34 av) 35 (vJ (((q.ns.getD (f).toNat default).l).length : Int))) 36 (vJ (j : Int))) ∧ k = (q.ns.getD (f).toNat default).l.length - j ∧ Ext (inP p L R B mm) G w ac W ∧ Pin.le G ac ∧ (j ≤ (q.ns.getD (f).toNat default).l.length) ∧ (QOk q a (q.ns.getD (f).toNat default).l qs j) ∧ (a.ns.length + unc a N ≤ q.ns.length + unc q N) ∧ (Own eInt 3 ac W w.heap.size qv (qs)) ∧ (Own eInt 3 ac W w.heap.size ab ([])) ∧ (Apart qv.ownBlock ab.ownBlock) ∧ (Mp (fun k : Int => Value.int .i64 k) (fun v : Bool => Value.bool v) W t ([])) ∧ (Pk 48 3 ac W p b h y mm a) ∧ (PIn w ((inP p L R B mm)) p b h y mm) ∧ (PoolOk a) ∧ (PX q a) ∧ (NP p b h y mm qv.ownBlock) ∧ (NP p b h y mm ab.ownBlock) ∧ (NP p b h y mm (some t))) _ ⟨_, 0, u3, [], L, R, B, q, G, (pS 36 (pS 35 (pS 34 (pS 9 (pS 8 (pS 7 (pS 6 (pS 2 (pS 1 (pU 0)))))))))), rfl, bt, Pin.le_refl _, Nat.zero_le _, QOk.start, Nat.le_refl _, ea, ee, ec.symm, eb, ag, hpin, hok, (PX.refl _), d3, ed, d6⟩ ?_)
 rintro gr _ gs ⟨ax, j, qv, qs, b, h, y, a, ac, rfl, gt, ay, cw, hj, hqo, hbu, bu, bv, bw, bz, cx, az, aa, ah, b0, b1, bb⟩
 have gu := ah.len
 have gv := pkl a
 have gw := pkb aa
 have gx := hqo.len
 refine zB (zC ?_)
 refine qD rfl (yX rfl rfl) (qe (zA (zB ?_)))
 refine yC (p := ((j : Int) : Int) < (((q.ns.getD (f).toNat default).l).length : Int)) rfl rfl (fun ei => ?_) (fun ei => ?_)
 have hmj : (q.ns.getD (f).toNat default).l.getD j 0 ∈ (q.ns.getD (f).toNat default).l := zZ (show j < (q.ns.getD (f).toNat default).l.length by omega)
 have hoj := (vO hok hf).1 _ hmj
 have gy := hoj.1
 have hoz := ((xA hok.ar.opts (show (f).toNat < q.ns.length by omega)).1 _ hmj).2
 refine wp_skip (zA (zB ?_))
 refine zW (zB (zC ?_))
 refine qD rfl (zJ dB sz3 (v := av) rfl rfl aw (by omega) (by omega)) (qD rfl (zI (r := ((q.ns.getD (f).toNat default).l).getD j 0) rfl ag3 (z := (j : Int)) rfl aw (dX ay.pins cw) (by omega) (by omega)) (qM (vJ (((q.ns.getD (f).toNat default).l).getD j 0)) ?_))
 refine qe (zA (zC ?_))
 refine qM qv ?_
 refine qM (vP p) ?_
 refine qM (vJ (((q.ns.getD (f).toNat default).l).getD j 0)) ?_
 refine qI rfl (zF (vs := [(vP p), (vJ (((q.ns.getD (f).toNat default).l).getD j 0))]) Tryz.func56 nm56 rfl rfl rfl ?_)
 refine dY (ih ay.pins cx aa (ah.place hoj) (by omega) (by omega) (by omega)) ?_
 rintro _ gz ⟨a0, ej, ek, el, ad, cy, rfl, em, bc, b2, bd, a1, eo, ep, eq, er⟩
 refine ⟨_, rfl, ?_⟩
 have b3 := ay.trans a1 az
 have es := bu.extS a1 b0
 have cz := NP.call b0 bd (qK bu)
 have et := bv.extS a1 b1
 have eu := NP.call b1 bd (qK bv)
 have ev := bz.extS a1 (NP.notb bb)
 have ew := NP.call bb bd (fun j hj => by cases hj; exact bz.lt)
 have ex := PIn.call az bd ay.size
 have g0 := b2.len
 have g1 := pkl ad
 have g2 := pkb bc
 refine qI rfl (yG (E := eInt) (e := 3) [(vJ a0)] [a0] dB sz3 zr3 (by exact xK (by rfl)) (yO (by rfl)) rfl rfl rfl rfl (by decide) b3.pins (fun c0 ey ez c1 a2 g3 => ?_))
 have b4 := b3.step c1 a2
 have b5 := es.below a2
 have c2 := et.below a2
 have c3 := ev.below a2
 have c4 := em.below a2 c1
 have e0 := ez.weaken b3.size
 refine qI rfl (oA (E := eInt) (v := qv) (u := c0) 8 dB ap3 (by decide) rfl rfl b4.pins b5 e0.src (b4.size) (fun c5 g4 e1 c6 be c7 => ?_))
 have e2 := b4.write c6 be ((yH b5))
 have e3 := c2.keptA be bw.symm
 have e4 := c3.kept be (yN c3 b5)
 have e5 := c4.kept be c6 cz
 have e6 := zE bw.symm c7 c2.lt
 have e7 := jP cz c4 c7
 have g5 := la1 qs a0
 refine qM c5 ?_
 refine qe (yA (zA (zC ?_)))
 refine qD rfl (yJ rfl rfl (by omega)) (qM (vJ ((j : Int) + 1)) ?_)
 refine qe (yD (⟨_, ?_, _, rfl, _, j + 1, c5, qs ++ ([a0]), ej, ek, el, ad, cy, (pS 36 (pS 35 (pS 34 (pS 9 (pS 8 (pS 7 (pS 6 (pS 2 (pS 1 (pU 0)))))))))), rfl, e2, (dW cw a1.le), (by omega), (hqo.step hok aa bc ah b2 hoj eo ep eq), (by have := er; omega), e1, e3, e6.symm, e4, e5, ex, bc, (PX.trans ah b2), e7, eu, ew⟩))
 omega
 refine wp_exit (zV (yK (yE (zA (zB ?_)))))
 refine zW ?_
 have hjn : j = (q.ns.getD (f).toNat default).l.length := by omega
 rw [hjn] at hqo
 have e8 : RdW a true (pd a f) qs [] [] := by rw [ah.pd hok aa hf]; exact hqo.rd (lf := true) hok hf (by unfold ol; rw [if_pos rfl])
 have hq2l := hqo.len
 have e9 := ah.place hf
 refine yS (fun k en W => ∃ (ax : Nat → Value) (wv : Value) (wl : List Int) (kv : Value) (kept : List Int) (sn : List (Int × Bool)) (ss : List Int) (d : PSt) (ai : Pin), en = (upd (upd (upd (upd (upd (upd (upd ax 0 (vP p)) 1 (vJ f)) 2 (.bool true)) 6 vN) 7 wv) 8 (.map (some t))) 9 kv) ∧ k = (a.ns.length - ss.length) * 1048577 + wl.length ∧ Ext (inP p L R B mm) G w ai W ∧ Pin.le ac ai ∧ (RdW a true (pd a f) wl ss kept) ∧ (SnOk sn ss) ∧ (wl.length ≤ 1048576 + 1048576 * ss.length) ∧ (Own eInt 3 ai W w.heap.size wv (wl)) ∧ (Own eInt 3 ai W w.heap.size kv (kept)) ∧ (Apart wv.ownBlock kv.ownBlock) ∧ (Mp (fun k : Int => Value.int .i64 k) (fun v : Bool => Value.bool v) W t (sn)) ∧ (Pk 48 3 ai W p b h y mm d) ∧ (PoolOk d) ∧ (PX a d) ∧ (d.ns = a.ns ∧ d.bs = a.bs) ∧ (NP p b h y mm wv.ownBlock) ∧ (NP p b h y mm kv.ownBlock)) _ ⟨_, qv, qs, ab, [], [], [], a, ac, (pS 9 (pS 8 (pS 7 (pS 6 (pS 2 (pS 1 (pU 0))))))), rfl, ay, Pin.le_refl _, e8, SnOk.start, (by simp; omega), bu, bv, bw, bz, cx, aa, (PX.refl _), ⟨rfl, rfl⟩, b0, b1⟩ ?_
 rintro g6 _ g7 ⟨ax, wv, wl, kv, kept, sn, ss, d, ai, rfl, g8, a3, b6, hrd, hsn, hwl, am, bf, fa, a4, b7, aj, an, s, fb, ao⟩
 have g9 := an.len
 have ha := pkl d
 have hb := pkb aj
 have hrl := hrd.len
 refine zB (zB (zC ?_))
 refine qM wv ?_
 refine qD rfl (zP dB (v := wv) rfl am.read) (qD rfl (jO rfl rfl) (qe (zA ?_)))
 refine yC (p := (0 : Int) < (wl.length : Int)) rfl rfl (fun fc => ?_) (fun fc => ?_)
 have hpm : ((wl.length : Int) - 1).toNat + 1 = wl.length := by omega
 have hpa := hrd.at_ hpm
 have hc := hpa.1
 have hd := hpa.2
 refine wp_skip (zA (zW (zB (zC ?_))))
 refine qM wv ?_
 refine qM wv ?_
 refine qD rfl (zP dB (v := wv) rfl am.read) (qD rfl (qC rfl rfl (by omega)) (qD rfl (zJ dB sz3 (v := wv) rfl rfl am.read (by omega) (by omega)) (qD rfl (zI (r := wl.getD ((wl.length : Int) - 1).toNat 0) rfl ag3 (z := ((wl.length : Int) - 1)) rfl am.read (Gadd.pins a3.pins wv) (by omega) (by omega)) (qM (vJ (wl.getD ((wl.length : Int) - 1).toNat 0)) ?_))))
 refine qe (zA (zB (zC ?_)))
 refine qM wv ?_
 refine qM wv ?_
 refine qD rfl (zP dB (v := wv) rfl am.read) (qD rfl (qC rfl rfl (by omega)) ?_)
 obtain ⟨ak, b8, c8, fd⟩ := own_cut am (((wl.length : Int) - 1).toNat) ((wl.length : Int) - 1) (by omega) rfl (by omega) (by omega)
 have a5 : Apart ak.ownBlock kv.ownBlock := by rw [c8]; exact fa
 have a6 := (show NP _ _ _ _ _ ak.ownBlock by rw [c8]; exact fb)
 refine qD rfl (fd dB sz3 rfl rfl rfl) (qM ak ?_)
 refine qe (zA (zB (zB (zC ?_))))
 refine qM (.map (some t)) ?_
 refine qM (vJ (wl.getD ((wl.length : Int) - 1).toNat 0)) ?_
 refine qD rfl (vH (k := (wl.getD ((wl.length : Int) - 1).toNat 0)) (vL dJ) dQ zr4 a4 rfl rfl) (qe (zA ?_))
 refine c_if rfl rfl (fun bg => ?_) (fun bg => ?_)
 refine wp_exit (zV (yE (yD ?_)))
 have htl : (wl.take ((wl.length : Int) - 1).toNat).length = ((wl.length : Int) - 1).toNat := by rw [List.length_take]; omega
 refine ⟨_, ?_, _, rfl, _, ak, wl.take ((wl.length : Int) - 1).toNat, kv, kept, sn, ss, d, ai, (pS 9 (pS 8 (pS 7 (pS 6 (pS 2 (pS 1 (pU 0))))))), rfl, a3, b6, ((hrd.pop hpm).seen (hsn.yes bg)), hsn, (by omega), b8, bf, a5, a4, b7, aj, an, s, a6, ao⟩
 omega
 refine wp_skip (zA (zB (zC ?_)))
 refine qM (.map (some t)) ?_
 refine qM (vJ (wl.getD ((wl.length : Int) - 1).toNat 0)) ?_
 refine q0 rfl rfl rfl (qG (val := (fun v : Bool => Value.bool v)) (k := (wl.getD ((wl.length : Int) - 1).toNat 0)) (v := true) (vL dJ) dQ rfl rfl rfl a3.pins a4 (fun he fe c9 bh hg => ?_))
 have bi := a3.write c9 bh ((zY d7))
 have ff := bf.keptA bh (yN a4 bf).symm
 have fg := b8.keptA bh (yN a4 b8).symm
 have al := b7.kept bh c9 bb
 refine qe (zA (zB (zC ?_)))
 refine qM (vP p) ?_
 refine qD rfl (yU rfl) (qD rfl (zK (k := 0) rfl dH rfl nz49 rfl) (qD rfl (zL (u := b) ag49 rfl (al.bx.cell (o := 0) rfl)) (qM (vJ (wl.getD ((wl.length : Int) - 1).toNat 0)) ?_)))
 refine qD rfl (zJ dK sz48 (v := b) rfl rfl al.ol.read (by omega) (by omega)) ?_
 obtain ⟨fh, da, fi⟩ := vM (al.ol.at (z := (wl.getD ((wl.length : Int) - 1).toNat 0)) (by omega) (by omega)) (j := (wl.getD ((wl.length : Int) - 1).toNat 0).toNat) rfl
 rw [jM] at da
 have hh := da.max
 refine qD rfl (fi ag48 rfl (Gadd.pins bi.pins b)) (qM fh ?_)
 refine qe (zA (zB (zB (zC ?_))))
 refine qM (.bool true) ?_
 refine qe (zA ?_)
 refine jS rfl rfl (zC (qM (vP p) ?_))
 refine qD rfl (yU rfl) (qD rfl (zK (k := 1) rfl dH rfl nz49 rfl) (qD rfl (zL (u := h) ag49 rfl (al.bx.cell (o := 1) rfl)) (qM (vJ (wl.getD ((wl.length : Int) - 1).toNat 0)) ?_)))
 refine qD rfl (zJ dK sz48 (v := h) rfl rfl al.rr.read (by omega) (by omega)) ?_
 obtain ⟨b9, ca, fj⟩ := vM (al.rr.at (z := (wl.getD ((wl.length : Int) - 1).toNat 0)) (by omega) (by omega)) (j := (wl.getD ((wl.length : Int) - 1).toNat 0).toNat) rfl
 rw [jL] at ca
 have hl := ca.max
 refine qD rfl (fj ag48 rfl (Gadd.pins bi.pins h)) (qM b9 ?_)
 refine qe (zA (zB (zC ?_)))
 refine qM (vP p) ?_
 refine qM (vJ f) ?_
 refine qM (vJ (wl.getD ((wl.length : Int) - 1).toNat 0)) ?_
 refine qM (.bool true) ?_
 refine qM b9 ?_
 refine qI rfl (zF (vs := [(vP p), (vJ f), (vJ (wl.getD ((wl.length : Int) - 1).toNat 0)), (.bool true), b9]) Tryz.func90 nm90 rfl rfl rfl ?_)
 refine dY (rQ bi.pins al aj (lf := true) (e9.same s) (hpa.same s) ca (by rw [if_pos rfl]) (vO aj (hpa.same s)).2) ?_
 rintro _ hn ⟨g, c, cb, rfl, fk, ap, bj, cc, bk, aq⟩
 refine ⟨_, rfl, ?_⟩
 have ae := bi.trans aq (fun i hi => (PIn.o az) i hi)
 have cd := ff.extS aq (notO (NP.ho ao))
 have bl := fg.extS aq (notO (NP.ho a6))
 have ce := fe.extS aq (xO (NP.ho bb))
 have hp := cc.len
 have hq := pkl c
 have hr := pkb bj
 have hs := congrArg List.length bk.1
 have db := thr_same s fk
 refine qM (vJ g) ?_
 refine qe (zA ?_)
 refine zW (zB (zC ?_))
 refine qM (vJ g) ?_
 refine qD rfl (yX rfl rfl) (qM (.bool (decide ((g : Int) < 0))) ?_)
 refine qe (zA ?_)
 refine yC (p := (g : Int) < 0) rfl rfl (fun dc => ?_) (fun dc => ?_)
 refine zC (qM kv ?_)
 refine qM (vJ (wl.getD ((wl.length : Int) - 1).toNat 0)) ?_
 refine qI rfl (yG (E := eInt) (e := 3) [(vJ (wl.getD ((wl.length : Int) - 1).toNat 0))] [wl.getD ((wl.length : Int) - 1).toNat 0] dB sz3 zr3 (by exact xK (by rfl)) (yO (by rfl)) rfl rfl rfl rfl (by decide) ae.pins (fun dd fl fm de a7 ht => ?_))
 have cf := ae.step de a7
 have cg := cd.below a7
 have df := bl.below a7
 have dg := ce.below a7
 have dh := ap.below a7 de
 have fn := fm.weaken ae.size
 refine qI rfl (oA (E := eInt) (v := kv) (u := dd) 8 dB ap3 (by decide) rfl rfl cf.pins cg fn.src (cf.size) (fun di hu fo dj bm dk => ?_))
 have fp := cf.write dj bm ((yH cg))
 have fq := df.keptA bm a5
 have fr := dg.kept bm (yN dg cg)
 have fs := dh.kept bm dj ao
 have ft := zE a5 dk df.lt
 have fu := jP ao dh dk
 have hv := la1 kept (wl.getD ((wl.length : Int) - 1).toNat 0)
 refine qM di ?_
 refine qe (yA (yA (yD ?_)))
 have htl : (wl.take ((wl.length : Int) - 1).toNat).length = ((wl.length : Int) - 1).toNat := by rw [List.length_take]; omega
 have au := (hrd.pop hpm).kept (hsn.no bg) (thr_no db dc)
 have hcl := au.len
 have hsl : (ss ++ [(wl.getD ((wl.length : Int) - 1).toNat 0)]).length = ss.length + 1 := by rw [List.length_append]; rfl
 refine ⟨_, ?_, _, rfl, _, ak, wl.take ((wl.length : Int) - 1).toNat, di, kept ++ [(wl.getD ((wl.length : Int) - 1).toNat 0)], putE sn (wl.getD ((wl.length : Int) - 1).toNat 0) true, ss ++ [(wl.getD ((wl.length : Int) - 1).toNat 0)], c, cb, (pS 9 (pS 8 (pS 7 (pS 6 (pS 2 (pS 1 (pU 0))))))), rfl, fp, (dW b6 aq.le), au, hsn.put, (by omega), fq, fo, ft, fr, fs, bj, (PX.trans an cc), (zM s bk), a6, fu⟩
 omega
 refine zB (zC ?_)
 refine qM (.bool true) ?_
 refine qM (.bool true) ?_
 refine qe (zA ?_)
 refine jS rfl rfl (zC ?_)
 have hti := thr_info aa hpa db (by omega)
 have hw := hti.1.1
 have hx := hti.1.2
 have hot := ol_len aa (lf := true) hti.1
 have hoe : (c.ns.getD (g).toNat default).l = ol a true g := by rw [(zM s bk).1]; unfold ol; rw [if_pos rfl]
 have hy : (c.ns.getD (g).toNat default).l.length ≤ 1048576 := by rw [hoe]; exact hot
 have h0 : (wl.take ((wl.length : Int) - 1).toNat).length = ((wl.length : Int) - 1).toNat := by rw [List.length_take]; omega
 refine qM ak ?_
 refine qM (vP p) ?_
 refine qD rfl (yU rfl) (qD rfl (zK (k := 0) rfl dH rfl nz49 rfl) (qD rfl (zL (u := b) ag49 rfl (ap.bx.cell (o := 0) rfl)) (qM (vJ g) ?_)))
 refine qD rfl (zJ dK sz48 (v := b) rfl rfl ap.ol.read (by omega) (by omega)) ?_
 obtain ⟨fv, ch, fw⟩ := vM (ap.ol.at (z := g) (by omega) (by omega)) (j := (g).toNat) rfl
 rw [jM] at ch
 have h1 := ch.max
 refine qD rfl (fw ag48 rfl (Gadd.pins ae.pins b)) (qI rfl (oA (E := eInt) (v := ak) (u := fv) 8 dB ap3 (by decide) rfl rfl ae.pins bl ((ch.mono (Pin.le_refl _)).src ae.pins (by decide)) (ae.size) (fun dl h2 fx dm bn dn => ?_)))
 have fy := ae.write dm bn ((yH bl))
 have fz := cd.keptA bn a5.symm
 have f0 := ce.kept bn (yN ce bl)
 have f1 := ap.kept bn dm a6
 have f2 := zE a5.symm dn cd.lt
 have f3 := jP a6 ap dn
 have h3 := la2 (wl.take (((wl.length : Int) - 1).toNat)) ((c.ns.getD (g).toNat default).l)
 refine qM dl ?_
 refine qe (yA (yA (yD ?_)))
 have htl : (wl.take ((wl.length : Int) - 1).toNat).length = ((wl.length : Int) - 1).toNat := by rw [List.length_take]; omega
 have au := (hrd.pop hpm).pass_on aa (hsn.no bg) hti.1 hti.2.1 hti.2.2
 have hcl := au.len
 have hsl : (ss ++ [(wl.getD ((wl.length : Int) - 1).toNat 0)]).length = ss.length + 1 := by rw [List.length_append]; rfl
 have hal : ((wl.take (((wl.length : Int) - 1).toNat)) ++ ((c.ns.getD (g).toNat default).l)).length = ((wl.length : Int) - 1).toNat + (c.ns.getD (g).toNat default).l.length := by rw [List.length_append, htl]
 rw [← hoe] at au
 refine ⟨_, ?_, _, rfl, _, dl, (wl.take (((wl.length : Int) - 1).toNat)) ++ ((c.ns.getD (g).toNat default).l), kv, kept, putE sn (wl.getD ((wl.length : Int) - 1).toNat 0) true, ss ++ [(wl.getD ((wl.length : Int) - 1).toNat 0)], c, cb, (pS 9 (pS 8 (pS 7 (pS 6 (pS 2 (pS 1 (pU 0))))))), rfl, fy, (dW b6 aq.le), au, hsn.put, (by omega), fx, fz, f2.symm, f0, f1, bj, (PX.trans an cc), (zM s bk), f3, ao⟩
 omega
 refine wp_exit (zV (yK (yE (zA (zB (zC ?_))))))
 refine qM kv ?_
 refine qM (vP p) ?_
 refine qM kv ?_
 refine qM (.bool true) ?_
 obtain ⟨h4, f4, ci, dp, f5⟩ := bf.sealed a3
 have dq := b7.moreO f4 f5 ao
 refine qI rfl (zF (vs := [(vP p), kv, (.bool true)]) Tryz.func92 nm92 rfl rfl rfl ?_)
 refine dY (gK ci.pins dq aj (lf := true) dp (by omega) (fun i hi => ((hrd.all _ (Or.inr ((hrd.keep _).1 (zZ hi)).1)).1).same s)) ?_
 rintro _ h5 ⟨dr, af, h6, rfl, ds, f6, cj, ck, cl, dt⟩
 refine ⟨_, rfl, ?_⟩
 have f7 := dq.new (x := dr.ownBlock) (fun k hk => (ds.lt k hk).1)
 have f8 := ci.trans dt (fun i hi => (PIn.o az) i hi)
 have h7 := ck.len
 have h8 := pkl af
 have h9 := pkb cj
 have ia := congrArg List.length cl.1
 have f9 := ds.weaken ci.size
 obtain ⟨ib, du, cm, ga, gb⟩ := f9.sealed f8
 have dv := f6.moreO du gb f7
 refine qI rfl (zF (vs := [kv, dr]) Tryz.func91 nm91 rfl rfl rfl ?_)
 refine dY (rN cm.pins (dp.mono (dW dt.le du)) ga (by omega) (dom_pw _) (fun z hz => by obtain ⟨k, _, e, _⟩ := (pT _).1 hz; omega)) ?_
 rintro _ gc ⟨a8, dw, rfl, dx, dy⟩
 refine ⟨_, rfl, ?_⟩
 have gd := cm.tr dy
 have ge := dv.ext dy
 have gf := dv.new (x := a8.ownBlock) (fun k hk => (dx.lt k hk).1)
 have gg := dx.weaken cm.size
 refine qM a8 ?_
 refine qe (zA ?_)
 refine wp_ret (zO (zQ (v := a8) rfl rfl rfl ?_))
 have hwz : wl = [] := List.eq_nil_of_length_eq_zero (by omega)
 rw [hwz] at hrd
 have hre := (re_done aj (hrd.same s) (xS s).symm).same cl
 have hul := tY (PX.trans an ck) N
 exact ⟨a8, _, b, h, y, af, dw, rfl, ge, cj, (PX.trans (PX.trans ah an) ck), PIn.lo az rfl, gd, gg, gf, hre, (by have := congrArg List.length ((zM s cl)).1; omega)⟩
end CN2
end Go.Proofs.YtjdchbdfohiaaaaGreatDoor
namespace Go.Proofs.YtjdchbdfohiaaaaGreatDoor
namespace CN3
open Go.RowKit Go.GL Go.Proofs
open B1 K1 PO1 PL1 DI1 RI1 CN1
theorem reduced_f {w : World} {G : Pin} {L R B : Value} {q : PSt} {f : Int} {p : Nat} {mm : PM} {N m : Nat} (hP : Pins G w) (hpk : Pk 48 3 G w p L R B mm q) (hok : PoolOk q) (hf : PlaceOk q f) (hfN : f < (N : Int)) (hbud : q.ns.length + unc q N < 1048576) (ih : CanP N m p mm) (hm : f.toNat < m + 1) :
  Calls Tryz.prog 77 [(vP p), (vJ f), (.bool false)].toArray w fun e w' => ∃ (u : Value) (zs : List Int) (L' R' B' : Value) (q' : PSt) (G' : Pin), e = .returned u ∧ Pk 48 3 G' w' p L' R' B' mm q' ∧ PoolOk q' ∧ PX q q' ∧ PLo w p L R B mm L' R' B' ∧ Ext (inP p L R B mm) G w G' w' ∧ Own eInt 3 G' w' w.heap.size u zs ∧ NP p L' R' B' mm u.ownBlock ∧ ReOk q' false f zs ∧ q'.ns.length + unc q' N ≤ q.ns.length + unc q N := by
 refine zU (n := 120) Tryz.func77 Tryz.ntmps77 rfl rfl ?_
 have bn := exr (inP p L R B mm) hP
 have hpin : PIn w (inP p L R B mm) p L R B mm := PIn.self
 have gb := pkl q
 have gc := pkb hok
 have gd := hf.1
 have ge := hf.2
 have dx := ol_len hok (lf := false) hf
 have gf : (q.ns.getD (f).toNat default).r.length ≤ 1048576 := dx
 refine zB (zC ?_)
 refine qM vN ?_
 refine qe (zA (zB (zC ?_)))
 refine qI rfl (xC (E := eInt) (e := 3) dB sz3 bn.pins (fun u3 w4 dz cm cn d0 => ?_))
 have bo := bn.step cm cn
 have co := hpk.below cn cm
 have d1 := hpk.new (x := u3.ownBlock) (fun k hk => by rw [d0] at hk; cases hk; exact Nat.le_refl _)
 have d2 := dz.weaken bn.size
 refine qI rfl (jZ (fun k : Int => Value.int .i64 k) (fun v : Bool => Value.bool v) bo.pins (fun t gg gh d3 cp bp => ?_))
 have bq := bo.step cp bp
 have cq := d2.below bp
 have cr := co.below bp cp
 have d4 := co.new (x := some t) (fun k hk => by cases hk; omega)
 have d5 : w.heap.size ≤ t := by have := bo.size; omega
 refine qI rfl (xC (E := eInt) (e := 3) dB sz3 bq.pins (fun ab d6 d7 cs a8 ct => ?_))
 have cu := bq.step cs a8
 have d8 := cq.below a8
 have d9 := d3.below a8
 have a9 := cr.below a8 cs
 have ea := zG ct cq.lt
 have eb := cr.new (x := ab.ownBlock) (fun k hk => by rw [ct] at hk; cases hk; exact Nat.le_refl _)
 have ec := d7.weaken bq.size
 refine qM u3 ?_
 refine qM (.map (some t)) ?_
 refine qM ab ?_
 refine qe (zA (zB (zC ?_)))
 refine qM (vP p) ?_
 refine qD rfl (yU rfl) (qD rfl (zK (k := 1) rfl dH rfl nz49 rfl) (qD rfl (zL (u := R) ag49 rfl (a9.bx.cell (o := 1) rfl)) (qM (vJ f) ?_)))
 refine qD rfl (zJ dK sz48 (v := R) rfl rfl a9.rr.read (by omega) (by omega)) ?_
 obtain ⟨aq, au, ed⟩ := vM (a9.rr.at (z := f) (by omega) (by omega)) (j := (f).toNat) rfl
 rw [jL] at au
 have gi := au.max
 refine qD rfl (ed ag48 rfl (Gadd.pins cu.pins R)) (qM aq ?_)
 refine qe (zA (zB (zB (zC ?_))))
 refine qM (.bool false) ?_
 refine qe (zA ?_)
 refine qP rfl rfl (wp_skip (zA (zB (zB (zC ?_)))))
 refine qM aq ?_
 refine qD rfl (zP dB (v := aq) rfl au) (qM (vJ 0) ?_)
 refine qe (zA ?_)
 refine zW (yS (fun k en W => ∃ (av : Nat → Value) (j : Nat) (qv : Value) (qs : List Int) (g : Value) (h : Value) (y : Value) (a : PSt) (ac : Pin), en = (upd (upd (upd (upd (upd (upd (upd (upd (upd (upd av 0 (vP p)) 1 (vJ f)) 2 (.bool false)) 6 vN) 7 qv) 8 (.map (some t))) 9 ab) 34 aq) 35 (vJ (((q.ns.getD (f).toNat default).r).length : Int))) 36 (vJ (j : Int))) ∧ k = (q.ns.getD (f).toNat default).r.length - j ∧ Ext (inP p L R B mm) G w ac W ∧ Pin.le G ac ∧ (j ≤ (q.ns.getD (f).toNat default).r.length) ∧ (QOk q a (q.ns.getD (f).toNat default).r qs j) ∧ (a.ns.length + unc a N ≤ q.ns.length + unc q N) ∧ (Own eInt 3 ac W w.heap.size qv (qs)) ∧ (Own eInt 3 ac W w.heap.size ab ([])) ∧ (Apart qv.ownBlock ab.ownBlock) ∧ (Mp (fun k : Int => Value.int .i64 k) (fun v : Bool => Value.bool v) W t ([])) ∧ (Pk 48 3 ac W p g h y mm a) ∧ (PIn w ((inP p L R B mm)) p g h y mm) ∧ (PoolOk a) ∧ (PX q a) ∧ (NP p g h y mm qv.ownBlock) ∧ (NP p g h y mm ab.ownBlock) ∧ (NP p g h y mm (some t))) _ ⟨_, 0, u3, [], L, R, B, q, G, (pS 36 (pS 35 (pS 34 (pS 9 (pS 8 (pS 7 (pS 6 (pS 2 (pS 1 (pU 0)))))))))), rfl, cu, Pin.le_refl _, Nat.zero_le _, QOk.start, Nat.le_refl _, d8, ec, ea.symm, d9, a9, hpin, hok, (PX.refl _), d1, eb, d4⟩ ?_)
 rintro gj _ gk ⟨av, j, qv, qs, g, h, y, a, ac, rfl, gl, aw, cv, hj, hqo, hbu, br, bt, bu, bv, cw, ax, aa, ag, bw, bz, ba⟩
 have gm := ag.len
 have gn := pkl a
 have gp := pkb aa
 have gq := hqo.len
 refine zB (zC ?_)
 refine qD rfl (yX rfl rfl) (qe (zA (zB ?_)))
 refine yC (p := ((j : Int) : Int) < (((q.ns.getD (f).toNat default).r).length : Int)) rfl rfl (fun ee => ?_) (fun ee => ?_)
 have hmj : (q.ns.getD (f).toNat default).r.getD j 0 ∈ (q.ns.getD (f).toNat default).r := zZ (show j < (q.ns.getD (f).toNat default).r.length by omega)
 have hoj := (vO hok hf).2 _ hmj
 have gr := hoj.1
 have hoz := ((xA hok.ar.opts (show (f).toNat < q.ns.length by omega)).2 _ hmj).2
 refine wp_skip (zA (zB ?_))
 refine zW (zB (zC ?_))
 refine qD rfl (zJ dB sz3 (v := aq) rfl rfl au (by omega) (by omega)) (qD rfl (zI (r := ((q.ns.getD (f).toNat default).r).getD j 0) rfl ag3 (z := (j : Int)) rfl au (dX aw.pins cv) (by omega) (by omega)) (qM (vJ (((q.ns.getD (f).toNat default).r).getD j 0)) ?_))
 refine qe (zA (zC ?_))
 refine qM qv ?_
 refine qM (vP p) ?_
 refine qM (vJ (((q.ns.getD (f).toNat default).r).getD j 0)) ?_
 refine qI rfl (zF (vs := [(vP p), (vJ (((q.ns.getD (f).toNat default).r).getD j 0))]) Tryz.func56 nm56 rfl rfl rfl ?_)
 refine dY (ih aw.pins cw aa (ag.place hoj) (by omega) (by omega) (by omega)) ?_
 rintro _ gs ⟨ay, ef, eg, eh, ad, cx, rfl, ei, bb, b0, bc, az, ej, ek, el, em⟩
 refine ⟨_, rfl, ?_⟩
 have b1 := aw.trans az ax
 have eo := br.extS az bw
 have cy := NP.call bw bc (qK br)
 have ep := bt.extS az bz
 have eq := NP.call bz bc (qK bt)
 have er := bv.extS az (NP.notb ba)
 have es := NP.call ba bc (fun j hj => by cases hj; exact bv.lt)
 have et := PIn.call ax bc aw.size
 have gt := b0.len
 have gu := pkl ad
 have gv := pkb bb
 refine qI rfl (yG (E := eInt) (e := 3) [(vJ ay)] [ay] dB sz3 zr3 (by exact xK (by rfl)) (yO (by rfl)) rfl rfl rfl rfl (by decide) b1.pins (fun cz eu ev c0 a0 gw => ?_))
 have b2 := b1.step c0 a0
 have b3 := eo.below a0
 have c1 := ep.below a0
 have c2 := er.below a0
 have c3 := ei.below a0 c0
 have ew := ev.weaken b1.size
 refine qI rfl (oA (E := eInt) (v := qv) (u := cz) 8 dB ap3 (by decide) rfl rfl b2.pins b3 ew.src (b2.size) (fun c4 gx ex c5 bd c6 => ?_))
 have ey := b2.write c5 bd ((yH b3))
 have ez := c1.keptA bd bu.symm
 have e0 := c2.kept bd (yN c2 b3)
 have e1 := c3.kept bd c5 cy
 have e2 := zE bu.symm c6 c1.lt
 have e3 := jP cy c3 c6
 have gy := la1 qs ay
 refine qM c4 ?_
 refine qe (yA (zA (zC ?_)))
 refine qD rfl (yJ rfl rfl (by omega)) (qM (vJ ((j : Int) + 1)) ?_)
 refine qe (yD (⟨_, ?_, _, rfl, _, j + 1, c4, qs ++ ([ay]), ef, eg, eh, ad, cx, (pS 36 (pS 35 (pS 34 (pS 9 (pS 8 (pS 7 (pS 6 (pS 2 (pS 1 (pU 0)))))))))), rfl, ey, (dW cv az.le), (by omega), (hqo.step hok aa bb ag b0 hoj ej ek el), (by have := em; omega), ex, ez, e2.symm, e0, e1, et, bb, (PX.trans ag b0), e3, eq, es⟩))
 omega
 refine wp_exit (zV (yK (yE (zA (zB ?_)))))
 refine zW ?_
 have hjn : j = (q.ns.getD (f).toNat default).r.length := by omega
 rw [hjn] at hqo
 have e4 : RdW a false (pd a f) qs [] [] := by rw [ag.pd hok aa hf]; exact hqo.rd (lf := false) hok hf (by unfold ol; rw [if_neg Bool.false_ne_true])
 have hq2l := hqo.len
 have e5 := ag.place hf
 refine yS (fun k en W => ∃ (av : Nat → Value) (wv : Value) (wl : List Int) (kv : Value) (kept : List Int) (sn : List (Int × Bool)) (ss : List Int) (c : PSt) (ah : Pin), en = (upd (upd (upd (upd (upd (upd (upd av 0 (vP p)) 1 (vJ f)) 2 (.bool false)) 6 vN) 7 wv) 8 (.map (some t))) 9 kv) ∧ k = (a.ns.length - ss.length) * 1048577 + wl.length ∧ Ext (inP p L R B mm) G w ah W ∧ Pin.le ac ah ∧ (RdW a false (pd a f) wl ss kept) ∧ (SnOk sn ss) ∧ (wl.length ≤ 1048576 + 1048576 * ss.length) ∧ (Own eInt 3 ah W w.heap.size wv (wl)) ∧ (Own eInt 3 ah W w.heap.size kv (kept)) ∧ (Apart wv.ownBlock kv.ownBlock) ∧ (Mp (fun k : Int => Value.int .i64 k) (fun v : Bool => Value.bool v) W t (sn)) ∧ (Pk 48 3 ah W p g h y mm c) ∧ (PoolOk c) ∧ (PX a c) ∧ (c.ns = a.ns ∧ c.bs = a.bs) ∧ (NP p g h y mm wv.ownBlock) ∧ (NP p g h y mm kv.ownBlock)) _ ⟨_, qv, qs, ab, [], [], [], a, ac, (pS 9 (pS 8 (pS 7 (pS 6 (pS 2 (pS 1 (pU 0))))))), rfl, aw, Pin.le_refl _, e4, SnOk.start, (by simp; omega), br, bt, bu, bv, cw, aa, (PX.refl _), ⟨rfl, rfl⟩, bw, bz⟩ ?_
 rintro gz _ g0 ⟨av, wv, wl, kv, kept, sn, ss, c, ah, rfl, g1, a1, b4, hrd, hsn, hwl, ak, be, e6, a2, b5, ai, al, s, e7, am⟩
 have g2 := al.len
 have g3 := pkl c
 have g4 := pkb ai
 have hrl := hrd.len
 refine zB (zB (zC ?_))
 refine qM wv ?_
 refine qD rfl (zP dB (v := wv) rfl ak.read) (qD rfl (jO rfl rfl) (qe (zA ?_)))
 refine yC (p := (0 : Int) < (wl.length : Int)) rfl rfl (fun e8 => ?_) (fun e8 => ?_)
 have hpm : ((wl.length : Int) - 1).toNat + 1 = wl.length := by omega
 have hpa := hrd.at_ hpm
 have g5 := hpa.1
 have g6 := hpa.2
 refine wp_skip (zA (zW (zB (zC ?_))))
 refine qM wv ?_
 refine qM wv ?_
 refine qD rfl (zP dB (v := wv) rfl ak.read) (qD rfl (qC rfl rfl (by omega)) (qD rfl (zJ dB sz3 (v := wv) rfl rfl ak.read (by omega) (by omega)) (qD rfl (zI (r := wl.getD ((wl.length : Int) - 1).toNat 0) rfl ag3 (z := ((wl.length : Int) - 1)) rfl ak.read (Gadd.pins a1.pins wv) (by omega) (by omega)) (qM (vJ (wl.getD ((wl.length : Int) - 1).toNat 0)) ?_))))
 refine qe (zA (zB (zC ?_)))
 refine qM wv ?_
 refine qM wv ?_
 refine qD rfl (zP dB (v := wv) rfl ak.read) (qD rfl (qC rfl rfl (by omega)) ?_)
 obtain ⟨aj, b6, c7, e9⟩ := own_cut ak (((wl.length : Int) - 1).toNat) ((wl.length : Int) - 1) (by omega) rfl (by omega) (by omega)
 have a3 : Apart aj.ownBlock kv.ownBlock := by rw [c7]; exact e6
 have a4 := (show NP _ _ _ _ _ aj.ownBlock by rw [c7]; exact e7)
 refine qD rfl (e9 dB sz3 rfl rfl rfl) (qM aj ?_)
 refine qe (zA (zB (zB (zC ?_))))
 refine qM (.map (some t)) ?_
 refine qM (vJ (wl.getD ((wl.length : Int) - 1).toNat 0)) ?_
 refine qD rfl (vH (k := (wl.getD ((wl.length : Int) - 1).toNat 0)) (vL dJ) dQ zr4 a2 rfl rfl) (qe (zA ?_))
 refine c_if rfl rfl (fun bf => ?_) (fun bf => ?_)
 refine wp_exit (zV (yE (yD ?_)))
 have htl : (wl.take ((wl.length : Int) - 1).toNat).length = ((wl.length : Int) - 1).toNat := by rw [List.length_take]; omega
 refine ⟨_, ?_, _, rfl, _, aj, wl.take ((wl.length : Int) - 1).toNat, kv, kept, sn, ss, c, ah, (pS 9 (pS 8 (pS 7 (pS 6 (pS 2 (pS 1 (pU 0))))))), rfl, a1, b4, ((hrd.pop hpm).seen (hsn.yes bf)), hsn, (by omega), b6, be, a3, a2, b5, ai, al, s, a4, am⟩
 omega
 refine wp_skip (zA (zB (zC ?_)))
 refine qM (.map (some t)) ?_
 refine qM (vJ (wl.getD ((wl.length : Int) - 1).toNat 0)) ?_
 refine q0 rfl rfl rfl (qG (val := (fun v : Bool => Value.bool v)) (k := (wl.getD ((wl.length : Int) - 1).toNat 0)) (v := true) (vL dJ) dQ rfl rfl rfl a1.pins a2 (fun g7 fa c8 bg g8 => ?_))
 have b7 := a1.write c8 bg ((zY d5))
 have fb := be.keptA bg (yN a2 be).symm
 have fc := b6.keptA bg (yN a2 b6).symm
 have bh := b5.kept bg c8 ba
 refine qe (zA (zB (zC ?_)))
 refine qM (vP p) ?_
 refine qD rfl (yU rfl) (qD rfl (zK (k := 0) rfl dH rfl nz49 rfl) (qD rfl (zL (u := g) ag49 rfl (bh.bx.cell (o := 0) rfl)) (qM (vJ (wl.getD ((wl.length : Int) - 1).toNat 0)) ?_)))
 refine qD rfl (zJ dK sz48 (v := g) rfl rfl bh.ol.read (by omega) (by omega)) ?_
 obtain ⟨b8, b9, fd⟩ := vM (bh.ol.at (z := (wl.getD ((wl.length : Int) - 1).toNat 0)) (by omega) (by omega)) (j := (wl.getD ((wl.length : Int) - 1).toNat 0).toNat) rfl
 rw [jM] at b9
 have g9 := b9.max
 refine qD rfl (fd ag48 rfl (Gadd.pins b7.pins g)) (qM b8 ?_)
 refine qe (zA (zB (zB (zC ?_))))
 refine qM (.bool false) ?_
 refine qe (zA ?_)
 refine qP rfl rfl (wp_skip (zA (zB (zC ?_))))
 refine qM (vP p) ?_
 refine qM (vJ f) ?_
 refine qM (vJ (wl.getD ((wl.length : Int) - 1).toNat 0)) ?_
 refine qM (.bool false) ?_
 refine qM b8 ?_
 refine qI rfl (zF (vs := [(vP p), (vJ f), (vJ (wl.getD ((wl.length : Int) - 1).toNat 0)), (.bool false), b8]) Tryz.func90 nm90 rfl rfl rfl ?_)
 refine dY (rQ b7.pins bh ai (lf := false) (e5.same s) (hpa.same s) b9 (by rw [if_neg Bool.false_ne_true]) (vO ai (hpa.same s)).1) ?_
 rintro _ ha ⟨d, b, ca, rfl, fe, an, bi, cb, bj, ao⟩
 refine ⟨_, rfl, ?_⟩
 have ae := b7.trans ao (fun i hi => (PIn.o ax) i hi)
 have cc := fb.extS ao (notO (NP.ho am))
 have bk := fc.extS ao (notO (NP.ho a4))
 have cd := fa.extS ao (xO (NP.ho ba))
 have hb := cb.len
 have hc := pkl b
 have hd := pkb bi
 have he := congrArg List.length bj.1
 have c9 := thr_same s fe
 refine qM (vJ d) ?_
 refine qe (zA ?_)
 refine zW (zB (zC ?_))
 refine qM (vJ d) ?_
 refine qD rfl (yX rfl rfl) (qM (.bool (decide ((d : Int) < 0))) ?_)
 refine qe (zA ?_)
 refine yC (p := (d : Int) < 0) rfl rfl (fun da => ?_) (fun da => ?_)
 refine zC (qM kv ?_)
 refine qM (vJ (wl.getD ((wl.length : Int) - 1).toNat 0)) ?_
 refine qI rfl (yG (E := eInt) (e := 3) [(vJ (wl.getD ((wl.length : Int) - 1).toNat 0))] [wl.getD ((wl.length : Int) - 1).toNat 0] dB sz3 zr3 (by exact xK (by rfl)) (yO (by rfl)) rfl rfl rfl rfl (by decide) ae.pins (fun db ff fg dc a5 hg => ?_))
 have ce := ae.step dc a5
 have cf := cc.below a5
 have dd := bk.below a5
 have de := cd.below a5
 have df := an.below a5 dc
 have fh := fg.weaken ae.size
 refine qI rfl (oA (E := eInt) (v := kv) (u := db) 8 dB ap3 (by decide) rfl rfl ce.pins cf fh.src (ce.size) (fun dg hh fi dh bl di => ?_))
 have fj := ce.write dh bl ((yH cf))
 have fk := dd.keptA bl a3
 have fl := de.kept bl (yN de cf)
 have fm := df.kept bl dh am
 have fn := zE a3 di dd.lt
 have fo := jP am df di
 have hl := la1 kept (wl.getD ((wl.length : Int) - 1).toNat 0)
 refine qM dg ?_
 refine qe (yA (yA (yD ?_)))
 have htl : (wl.take ((wl.length : Int) - 1).toNat).length = ((wl.length : Int) - 1).toNat := by rw [List.length_take]; omega
 have ap := (hrd.pop hpm).kept (hsn.no bf) (thr_no c9 da)
 have hcl := ap.len
 have hsl : (ss ++ [(wl.getD ((wl.length : Int) - 1).toNat 0)]).length = ss.length + 1 := by rw [List.length_append]; rfl
 refine ⟨_, ?_, _, rfl, _, aj, wl.take ((wl.length : Int) - 1).toNat, dg, kept ++ [(wl.getD ((wl.length : Int) - 1).toNat 0)], putE sn (wl.getD ((wl.length : Int) - 1).toNat 0) true, ss ++ [(wl.getD ((wl.length : Int) - 1).toNat 0)], b, ca, (pS 9 (pS 8 (pS 7 (pS 6 (pS 2 (pS 1 (pU 0))))))), rfl, fj, (dW b4 ao.le), ap, hsn.put, (by omega), fk, fi, fn, fl, fm, bi, (PX.trans al cb), (zM s bj), a4, fo⟩
 omega
 refine zB (zC ?_)
 refine qM (.bool false) ?_
 refine qM (.bool false) ?_
 refine qe (zA ?_)
 refine qP rfl rfl (zC ?_)
 have hti := thr_info aa hpa c9 (by omega)
 have hn := hti.1.1
 have hp := hti.1.2
 have hot := ol_len aa (lf := false) hti.1
 have hoe : (b.ns.getD (d).toNat default).r = ol a false d := by rw [(zM s bj).1]; unfold ol; rw [if_neg Bool.false_ne_true]
 have hq : (b.ns.getD (d).toNat default).r.length ≤ 1048576 := by rw [hoe]; exact hot
 have hr : (wl.take ((wl.length : Int) - 1).toNat).length = ((wl.length : Int) - 1).toNat := by rw [List.length_take]; omega
 refine qM aj ?_
 refine qM (vP p) ?_
 refine qD rfl (yU rfl) (qD rfl (zK (k := 1) rfl dH rfl nz49 rfl) (qD rfl (zL (u := h) ag49 rfl (an.bx.cell (o := 1) rfl)) (qM (vJ d) ?_)))
 refine qD rfl (zJ dK sz48 (v := h) rfl rfl an.rr.read (by omega) (by omega)) ?_
 obtain ⟨fp, cg, fq⟩ := vM (an.rr.at (z := d) (by omega) (by omega)) (j := (d).toNat) rfl
 rw [jL] at cg
 have hs := cg.max
 refine qD rfl (fq ag48 rfl (Gadd.pins ae.pins h)) (qI rfl (oA (E := eInt) (v := aj) (u := fp) 8 dB ap3 (by decide) rfl rfl ae.pins bk ((cg.mono (Pin.le_refl _)).src ae.pins (by decide)) (ae.size) (fun dj ht fr dk bm dl => ?_)))
 have fs := ae.write dk bm ((yH bk))
 have ft := cc.keptA bm a3.symm
 have fu := cd.kept bm (yN cd bk)
 have fv := an.kept bm dk a4
 have fw := zE a3.symm dl cc.lt
 have fx := jP a4 an dl
 have hu := la2 (wl.take (((wl.length : Int) - 1).toNat)) ((b.ns.getD (d).toNat default).r)
 refine qM dj ?_
 refine qe (yA (yA (yD ?_)))
 have htl : (wl.take ((wl.length : Int) - 1).toNat).length = ((wl.length : Int) - 1).toNat := by rw [List.length_take]; omega
 have ap := (hrd.pop hpm).pass_on aa (hsn.no bf) hti.1 hti.2.1 hti.2.2
 have hcl := ap.len
 have hsl : (ss ++ [(wl.getD ((wl.length : Int) - 1).toNat 0)]).length = ss.length + 1 := by rw [List.length_append]; rfl
 have hal : ((wl.take (((wl.length : Int) - 1).toNat)) ++ ((b.ns.getD (d).toNat default).r)).length = ((wl.length : Int) - 1).toNat + (b.ns.getD (d).toNat default).r.length := by rw [List.length_append, htl]
 rw [← hoe] at ap
 refine ⟨_, ?_, _, rfl, _, dj, (wl.take (((wl.length : Int) - 1).toNat)) ++ ((b.ns.getD (d).toNat default).r), kv, kept, putE sn (wl.getD ((wl.length : Int) - 1).toNat 0) true, ss ++ [(wl.getD ((wl.length : Int) - 1).toNat 0)], b, ca, (pS 9 (pS 8 (pS 7 (pS 6 (pS 2 (pS 1 (pU 0))))))), rfl, fs, (dW b4 ao.le), ap, hsn.put, (by omega), fr, ft, fw.symm, fu, fv, bi, (PX.trans al cb), (zM s bj), fx, am⟩
 omega
 refine wp_exit (zV (yK (yE (zA (zB (zC ?_))))))
 refine qM kv ?_
 refine qM (vP p) ?_
 refine qM kv ?_
 refine qM (.bool false) ?_
 obtain ⟨hv, fy, ch, dm, fz⟩ := be.sealed a1
 have dn := b5.moreO fy fz am
 refine qI rfl (zF (vs := [(vP p), kv, (.bool false)]) Tryz.func92 nm92 rfl rfl rfl ?_)
 refine dY (gK ch.pins dn ai (lf := false) dm (by omega) (fun i hi => ((hrd.all _ (Or.inr ((hrd.keep _).1 (zZ hi)).1)).1).same s)) ?_
 rintro _ hw ⟨dp, af, hx, rfl, dq, f0, ci, cj, ck, dr⟩
 refine ⟨_, rfl, ?_⟩
 have f1 := dn.new (x := dp.ownBlock) (fun k hk => (dq.lt k hk).1)
 have f2 := ch.trans dr (fun i hi => (PIn.o ax) i hi)
 have hy := cj.len
 have h0 := pkl af
 have h1 := pkb ci
 have h2 := congrArg List.length ck.1
 have f3 := dq.weaken ch.size
 obtain ⟨h3, ds, cl, f4, f5⟩ := f3.sealed f2
 have dt := f0.moreO ds f5 f1
 refine qI rfl (zF (vs := [kv, dp]) Tryz.func91 nm91 rfl rfl rfl ?_)
 refine dY (rN cl.pins (dm.mono (dW dr.le ds)) f4 (by omega) (dom_pw _) (fun z hz => by obtain ⟨k, _, e, _⟩ := (pT _).1 hz; omega)) ?_
 rintro _ f6 ⟨a6, du, rfl, dv, dw⟩
 refine ⟨_, rfl, ?_⟩
 have f7 := cl.tr dw
 have f8 := dt.ext dw
 have f9 := dt.new (x := a6.ownBlock) (fun k hk => (dv.lt k hk).1)
 have ga := dv.weaken cl.size
 refine qM a6 ?_
 refine qe (zA ?_)
 refine wp_ret (zO (zQ (v := a6) rfl rfl rfl ?_))
 have hwz : wl = [] := List.eq_nil_of_length_eq_zero (by omega)
 rw [hwz] at hrd
 have hre := (re_done ai (hrd.same s) (xS s).symm).same ck
 have hul := tY (PX.trans al cj) N
 exact ⟨a6, _, g, h, y, af, du, rfl, f8, ci, (PX.trans (PX.trans ag al) cj), PIn.lo ax rfl, f7, ga, f9, hre, (by have := congrArg List.length ((zM s ck)).1; omega)⟩
end CN3
end Go.Proofs.YtjdchbdfohiaaaaGreatDoor
namespace Go.Proofs.YtjdchbdfohiaaaaGreatDoor
namespace CN4
open Go.RowKit Go.GL Go.Proofs
open B1 K1 PO1 PL1 DI1 RI1 CN1 CN2 CN3
variable {G : Pin} {L R B : Value} {q : PSt} {p N : Nat} {mm : PM}
theorem canon_step {w : World} {f : Int} {m : Nat} (hP : Pins G w) (hpk : Pk 48 3 G w p L R B mm q) (hok : PoolOk q) (hf : PlaceOk q f) (hfN : f < (N : Int)) (hbud : q.ns.length + unc q N < 1048576) (ih : CanP N m p mm) (hm : f.toNat < m + 1) :
  Calls Tryz.prog 56 [(vP p), (vJ f)].toArray w fun e w' => ∃ (z : Int) (L' R' B' : Value) (q' : PSt) (G' : Pin), e = .returned (vJ z) ∧ Pk 48 3 G' w' p L' R' B' mm q' ∧ PoolOk q' ∧ PX q q' ∧ PLo w p L R B mm L' R' B' ∧ Ext (inP p L R B mm) G w G' w' ∧ PlaceOk q' z ∧ CanonG (pd q' z) ∧ eqG (pd q' z) (pd q' f) ∧ q'.ns.length + unc q' N ≤ q.ns.length + unc q N := by
 refine zU (n := 40) Tryz.func56 Tryz.ntmps56 rfl rfl ?_
 have ad := exr (inP p L R B mm) hP
 have hpin : PIn w (inP p L R B mm) p L R B mm := PIn.self
 have cq := pkl q
 have cr := pkb hok
 have cs := hf.1
 have ct := hf.2
 refine zB (zC ?_)
 refine qM (vJ 0) ?_
 refine qe (zA (zB (zB (zC ?_))))
 refine qM (vP p) ?_
 refine qD rfl (yU rfl) (qD rfl (zK (k := 5) rfl dH rfl nz52 rfl) (qD rfl (zL (u := (.map (some mm.c))) ag52 rfl (hpk.bx.cell (o := 5) rfl)) (qM (vJ f) ?_)))
 refine qD rfl (tU (k := f) (vL dJ) Tryz.underlying52 zr3 hpk.fc rfl rfl) (qM (.tuple #[(vJ ((Go.GL.look q.cm f).getD 0)), (.bool ((Go.GL.look q.cm f).isSome))]) ?_)
 refine qD rfl (zX (v := (vJ ((Go.GL.look q.cm f).getD 0))) rfl rfl) (qD rfl (zX (v := (.bool ((Go.GL.look q.cm f).isSome))) rfl rfl) (qM (vJ ((Go.GL.look q.cm f).getD 0)) ?_))
 refine qM (.bool ((Go.GL.look q.cm f).isSome)) ?_
 refine qe (zA (zB (zC ?_)))
 refine qM (.bool ((Go.GL.look q.cm f).isSome)) ?_
 refine qe (zA ?_)
 refine c_if rfl rfl (fun h3 => ?_) (fun h3 => ?_)
 refine zB (zC ?_)
 refine qM (vJ ((Go.GL.look q.cm f).getD 0)) ?_
 refine qM (vJ ((Go.GL.look q.cm f).getD 0)) ?_
 refine qe (zA ?_)
 refine wp_ret (zO (zQ (v := (vJ ((Go.GL.look q.cm f).getD 0))) rfl rfl rfl ?_))
 obtain ⟨z, hz⟩ := Option.isSome_iff_exists.1 h3
 obtain ⟨_, f1, f2, f3⟩ := hok.can f z hz
 rw [hz]
 exact ⟨z, L, R, B, q, G, rfl, hpk, hok, (PX.refl _), PIn.lo hpin rfl, ad, f1, f2, f3, Nat.le_refl _⟩
 refine wp_skip (zA (zB (zC ?_)))
 refine qM (vP p) ?_
 refine qM (vP p) ?_
 refine qM (vJ f) ?_
 refine qI rfl (zF (vs := [(vP p), (vJ f), (.bool true)]) Tryz.func77 nm77 rfl rfl rfl ?_)
 refine dY (reduced_t (N := N) (m := m) ad.pins hpk hok ((PX.refl _).place hf) hfN (by omega) ih hm) ?_
 rintro _ cu ⟨u4, cv, L6, R7, B8, x, cz, rfl, bo, ah, ae, bp, bq, br, ay, az, c0⟩
 refine ⟨_, rfl, ?_⟩
 have ai := ad.trans bq hpin
 have a0 := PIn.call hpin bp ad.size
 have c1 := ae.len
 have c2 := pkl x
 have c3 := pkb ah
 have ao := br.weaken ad.size
 have c4 := az.len
 refine qM (vP p) ?_
 refine qM (vJ f) ?_
 refine qI rfl (zF (vs := [(vP p), (vJ f), (.bool false)]) Tryz.func77 nm77 rfl rfl rfl ?_)
 refine dY (reduced_f (N := N) (m := m) ai.pins bo ah (ae.place hf) hfN (by omega) ih hm) ?_
 rintro _ c5 ⟨bt, c6, c7, c8, c9, s, da, rfl, bu, aa, aj, a1, a2, a3, bv, a4, db⟩
 refine ⟨_, rfl, ?_⟩
 have bw := ai.trans a2 a0
 have bz := ao.extS a2 ay
 have b0 := NP.call ay a1 (qK ao)
 have a5 := PIn.call a0 a1 ai.size
 have dc := aj.len
 have dd := pkl s
 have de := pkb aa
 have b1 := yB a3.lt ao.lt
 have b2 := a3.weaken ai.size
 have df := a4.len
 obtain ⟨dg, a6, b3, b4, a7⟩ := bz.sealed bw
 have b5 := b2.moreO a6 a7 b1
 have b6 := bu.moreO a6 a7 b0
 obtain ⟨dh, a8, ap, b7, b8⟩ := b5.sealed b3
 have b9 := b6.moreO a8 b8 bv
 have aq := az.px (ae.place hf) aj ah aa
 have au := a4
 refine qI rfl (zF (vs := [(vP p), u4, bt]) Tryz.func63 nm63 rfl rfl rfl ?_)
 refine dY (jG ap.pins b9 aa (b4.mono a8) b7 (by omega) ⟨aq.len, au.len⟩ (jY aq.pl) (jY au.pl)) ?_
 rintro _ di ⟨d, ca, cb, cc, b, cd, rfl, av, ab, t, ce, cf, ac, cg, ch, a9⟩
 refine ⟨_, rfl, ?_⟩
 have ba := ap.trans cf a5
 have aw := PIn.call a5 ce ap.size
 have dj := t.len
 have dk := pkl b
 have dl := pkb ab
 have hcd := canon_done aq au cg
 have bb := (PX.trans ae aj).place hf
 have ci := t.place bb
 have bc : eqG (pd b d) (pd b f) := by rw [t.pd aa ab bb]; exact hcd.2
 have hgrow : b.ns.length + unc { b with cm := putE b.cm f d } N ≤ s.ns.length + unc s N := by
  cases hlf : Go.GL.look s.cm f with
  | none =>
   have h1 := unc_put (q := b) (z := d) hf.1 (by rw [a9.1]; exact hlf) N hfN
   have h2 := tY t N
   have := ch
   omega
  | some y =>
   obtain ⟨_, h2, h3, h4⟩ := aa.can f y hlf
   have h5 : pd b y = pd b d := by
    rw [t.pd aa ab h2]
    exact kI h3 hcd.1 ⟨xL h4.1 hcd.2.2, xL hcd.2.1 h4.2⟩
   have h6 := t.place h2
   have h7 := h2.1; have h8 := h2.2; have h9 := h6.2; have dr := ac.1; have ds := ac.2
   have dt := ab.ar.inj (i := y.toNat) (j := d.toNat) (by omega) (by omega) h5
   have du := tY (PX.trans t (PX.put (q := b) (a := f) (z := d))) N
   rcases a9.2 with cl | cl <;> omega
 refine qM (vJ d) ?_
 refine qe (zA (zB (zC ?_)))
 refine qM (vP p) ?_
 refine qD rfl (yU rfl) (qD rfl (zK (k := 5) rfl dH rfl nz52 rfl) (qD rfl (zL (u := (.map (some mm.c))) ag52 rfl (av.bx.cell (o := 5) rfl)) (qM (vJ f) ?_)))
 refine qM (vJ d) ?_
 refine q0 rfl rfl rfl (qG (val := (fun v : Int => Value.int .i64 v)) (k := f) (v := d) (vL dJ) Tryz.underlying52 rfl rfl rfl ba.pins av.fc (fun dv cn be bf dw => ?_))
 have bg := ba.trans (Ext.one be bf) (fun i hi => (PIn.c aw) i hi)
 have ak := av.setC (Ext.one be bf) cn
 have al := PoolOk.setC ab (ci.same ⟨rfl, rfl⟩) (ac.same ⟨rfl, rfl⟩) (by rw [xS ⟨rfl, rfl⟩]; exact hcd.1) (by rw [xS ⟨rfl, rfl⟩, xS ⟨rfl, rfl⟩]; exact bc)
 obtain ⟨g, am⟩ : ∃ q, q = ({ b with cm := putE b.cm f d } : PSt) := ⟨_, rfl⟩
 rw [← am] at ak al
 have hq97n : g.ns = b.ns ∧ g.bs = b.bs := by rw [am]; exact ⟨rfl, rfl⟩
 have hq97x : PX b g := by rw [am]; exact PX.put
 have dx := pkl g
 have dy := pkb al
 have dz := hq97x.len
 refine qe (zA (zB (zC ?_)))
 refine qM (vP p) ?_
 refine qD rfl (yU rfl) (qD rfl (zK (k := 5) rfl dH rfl nz52 rfl) (qD rfl (zL (u := (.map (some mm.c))) ag52 rfl (ak.bx.cell (o := 5) rfl)) (qM (vJ d) ?_)))
 refine qM (vJ d) ?_
 refine q0 rfl rfl rfl (qG (val := (fun v : Int => Value.int .i64 v)) (k := d) (v := d) (vL dJ) Tryz.underlying52 rfl rfl rfl bg.pins ak.fc (fun d0 co bh bi d1 => ?_))
 have cp := bg.trans (Ext.one bh bi) (fun i hi => (PIn.c aw) i hi)
 have bj := ak.setC (Ext.one bh bi) co
 have an := PoolOk.setC al (ac.same hq97n) (ac.same hq97n) (by rw [xS hq97n]; exact hcd.1) ⟨jV _, jV _⟩
 obtain ⟨h, ax⟩ : ∃ q, q = ({ g with cm := putE g.cm d d } : PSt) := ⟨_, rfl⟩
 rw [← ax] at bj an
 have hq110n : h.ns = g.ns ∧ h.bs = g.bs := by rw [ax]; exact ⟨rfl, rfl⟩
 have hq110x : PX g h := by rw [ax]; exact PX.put
 have d2 := pkl h
 have d3 := pkb an
 have d4 := hq110x.len
 refine qe (zA (zB (zC ?_)))
 refine qM (vJ d) ?_
 refine qM (vJ d) ?_
 refine qe (zA ?_)
 refine wp_ret (zO (zQ (v := (vJ d)) rfl rfl rfl ?_))
 have hlast := tY hq110x N
 have hln := congrArg List.length ((zM hq97n hq110n)).1
 have hnew : h.ns.length + unc h N ≤ q.ns.length + unc q N := by rw [am] at hlast; omega
 exact ⟨_, ca, cb, cc, h, cd, rfl, bj, an, (PX.trans (PX.trans (PX.trans (PX.trans ae aj) t) hq97x) hq110x), PIn.lo aw rfl, cp, ac.same (zM hq97n hq110n), (by rw [xS (zM hq97n hq110n)]; exact hcd.1), (by rw [xS (zM hq97n hq110n), xS (zM hq97n hq110n)]; exact bc), hnew⟩
theorem canon_all {p N : Nat} {mm : PM} : ∀ m, CanP N m p mm
 | 0 => fun _ _ _ _ _ _ h => absurd h (Nat.not_lt_zero _)
 | m + 1 => fun hP hpk hok hf hfN hb hm => canon_step hP hpk hok hf hfN hb (canon_all m) hm
theorem canon_spec {w : World} {f : Int} (hP : Pins G w) (hpk : Pk 48 3 G w p L R B mm q) (hok : PoolOk q) (hf : PlaceOk q f) (hfN : f < (N : Int)) (hbud : q.ns.length + unc q N < 1048576) :
  Calls Tryz.prog 56 [(.pointer (some ⟨p, 0, none⟩)), (.int .i64 f)].toArray w fun e w' => ∃ (z : Int) (L' R' B' : Value) (q' : PSt) (G' : Pin), e = .returned (.int .i64 z) ∧ Pk 48 3 G' w' p L' R' B' mm q' ∧ PoolOk q' ∧ PX q q' ∧ PLo w p L R B mm L' R' B' ∧ Ext (inP p L R B mm) G w G' w' ∧ PlaceOk q' z ∧ CanonG (pd q' z) ∧ eqG (pd q' z) (pd q' f) ∧ q'.ns.length + unc q' N ≤ q.ns.length + unc q N :=
 canon_all _ hP hpk hok hf hfN hbud (Nat.lt_succ_self _)
end CN4
end Go.Proofs.YtjdchbdfohiaaaaGreatDoor
namespace Go.Proofs.YtjdchbdfohiaaaaGreatDoor
namespace AS2
open Go.RowKit Go.GL Go.Proofs
open B1 C1 D1 E1 K1 PO1 PL1 PA1 DI1 RI1 CN1 CN2 CN3 CN4
theorem canonOf_spec {w : World} {G : Pin} {p : Nat} {L R B : Value} {mm : PM} {q : PSt} (hP : Pins G w) (hpk : Pk 48 3 G w p L R B mm q) (hok : PoolOk q) {x : Value} {fs : List Nd} (hx : RSl eNode G x fs) (hf : FormOk fs) (hl : 2 * (q.ns.length + fs.length) < 1048576) (hf1 : 1 ≤ fs.length) :
  Calls Tryz.prog 24 [(vP p), (.agg [x].toArray)].toArray w fun e w' => ∃ (z : Int) (L' R' B' : Value) (q' : PSt) (G' : Pin), e = .returned (vJ z) ∧ Pk 48 3 G' w' p L' R' B' mm q' ∧ PoolOk q' ∧ PX q q' ∧ PLo w p L R B mm L' R' B' ∧ Ext (inP p L R B mm) G w G' w' ∧ PlaceOk q' z ∧ CanonG (pd q' z) ∧ eqG (pd q' z) (gOf fs) ∧ q'.ns.length ≤ 2 * (q.ns.length + fs.length) := by
 refine zU (n := 10) Tryz.func24 Tryz.ntmps24 rfl rfl ?_
 have g := exr (inP p L R B mm) hP
 have hpin : PIn w (inP p L R B mm) p L R B mm := PIn.self
 have a6 := pkl q
 have a7 := pkb hok
 have hfl := hf.len
 refine zB (zC ?_)
 refine qI rfl (xH [x] (v := (.agg [x].toArray)) rfl rfl g.pins (fun o w4 ad ae s t => ?_))
 have af := g.step s t
 have ag := hpk.below t s
 have ah := hpk.new (x := (some o)) (fun k hk => by rw [(congrArg some ad)] at hk; cases hk; exact Nat.le_refl _)
 have ai : w.heap.size ≤ o := by have := g.size; omega
 obtain ⟨a9, y, c, aj, ak⟩ := ae.shut af ai
 have al := ag.more y ak ah
 refine qM (vJ 0) ?_
 refine qe (zA (zB (zC ?_)))
 refine qM (vP p) ?_
 refine qM (vP p) ?_
 refine qD rfl (zT (cs := [x]) ag26 sz26 rfl (fun j u hj => c.pins _ _ _ (aj _ _ (by simpa using hj)))) (qI rfl (zF (vs := [(vP p), (.agg [x].toArray)]) Tryz.func18 nm18 rfl rfl rfl ?_))
 refine dY (jX c.pins al hok (hx.mono y) hf (by omega) hf1) ?_
 rintro _ ba ⟨am, bb, bc, bd, a, be, rfl, an, d, aa, ao, ap, h, aq, bf⟩
 refine ⟨_, rfl, ?_⟩
 have i := c.trans ap hpin
 have ab := PIn.call hpin ao c.size
 have bg := aa.len
 have bh := pkl a
 have bi := pkb d
 refine qI rfl (zF (vs := [(vP p), (vJ am)]) Tryz.func56 nm56 rfl rfl rfl ?_)
 refine dY (canon_spec i.pins an d (N := a.ns.length) h h.2 (by have := unc_le (q := a) a.ns.length; omega)) ?_
 rintro _ bj ⟨ac, au, av, aw, b, ax, rfl, ay, f, m, az, a0, a1, a2, a3, bk⟩
 refine ⟨_, rfl, ?_⟩
 have a4 := i.trans a0 ab
 have a5 := PIn.call ab az i.size
 have bl := m.len
 have bm := pkl b
 have bn := pkb f
 refine qM (vJ ac) ?_
 refine qe (zA ?_)
 refine wp_ret (zO (zQ (v := (vJ ac)) rfl rfl rfl ?_))
 have hce := a3
 rw [((m.pd d f h).trans aq)] at hce
 have hun := unc_le (q := a) a.ns.length
 exact ⟨_, au, av, aw, b, ax, rfl, ay, f, (PX.trans aa m), PIn.lo a5 rfl, a4, a1, a2, hce, (by omega)⟩
end AS2
end Go.Proofs.YtjdchbdfohiaaaaGreatDoor
namespace Go.Proofs.YtjdchbdfohiaaaaGreatDoor
namespace VA1
open Go.RowKit Go.GL Go.Proofs
open B1 C1 D1 E1 K1 PO1 PL1 NU1 NU2
def IsnP (m : Nat) (p : Nat) (L R B : Value) (mm : PM) : Prop := ∀ {w : World} {G : Pin} {q : PSt} {a : Int} (_ : Pins G w) (_ : Pk 48 3 G w p L R B mm q) (_ : PoolOk q) (_ : PlaceOk q a) (_ : CanonG (pd q a)), a.toNat < m →
  Calls Tryz.prog 52 [(.pointer (some ⟨p, 0, none⟩)), (.int .i64 a)].toArray w fun e w' => ∃ (q' : PSt) (G' : Pin), e = .returned (.bool (decP (NumD (pd q a)))) ∧ Pk 48 3 G' w' p L R B mm q' ∧ PoolOk q' ∧ PX q q' ∧ (q'.ns = q.ns ∧ q'.bs = q.bs) ∧ Ext (inO (some mm.o)) G w G' w'
variable {p : Nat} {L R B : Value} {mm : PM} {G : Pin} {q : PSt} {a : Int}
theorem eX {m : Nat} {w : World} (hP : Pins G w) (hpk : Pk 48 3 G w p L R B mm q) (hok : PoolOk q) (ha : PlaceOk q a) (hc : CanonG (pd q a)) (ih : IsnP m p L R B mm) (hm : a.toNat < m + 1) :
  Calls Tryz.prog 52 [(vP p), (vJ a)].toArray w fun e w' => ∃ (q' : PSt) (G' : Pin), e = .returned (.bool (decP (NumD (pd q a)))) ∧ Pk 48 3 G' w' p L R B mm q' ∧ PoolOk q' ∧ PX q q' ∧ (q'.ns = q.ns ∧ q'.bs = q.bs) ∧ Ext (inO (some mm.o)) G w G' w' := by
 refine zU (n := 74) Tryz.func52 Tryz.ntmps52 rfl rfl ?_
 have a1 := exr (inO (some mm.o)) hP
 have hpin : PIn w (inP p L R B mm) p L R B mm := PIn.self
 have cg := pkl q
 have ch := pkb hok
 have ci := ha.1
 have cj := ha.2
 have ck := hok.ar.ok.lens (a).toNat (by omega)
 have hopl := (xA hok.ar.opts (show (a).toNat < q.ns.length by omega)).1
 have hopr := (xA hok.ar.opts (show (a).toNat < q.ns.length by omega)).2
 have hnp := num_pool hok ha hc
 refine zB (zC ?_)
 refine qM (.bool false) ?_
 refine qe (zA (zB ?_))
 have b0 := Gadd.pins a1.pins L
 have b1 := Gadd.pins a1.pins R
 have b2 := hpk.ol.read
 have b3 := hpk.rr.read
 refine yZ (S := fun wz => BxR wz p [L, R, B, (.map (some mm.f)), (.map (some mm.o)), (.map (some mm.c)), (.map (some mm.s)), (.map (some mm.n))] ∧ Pins (Gadd G w L) wz ∧ Pins (Gadd G w R) wz) (last := 16) (by kernel_rfl) rfl ?_
 have au := bdr w
 have bj := a1.pins.below au
 have a7 := a1.step bj au
 have h := hpk.below au bj
 have ac := b0.below au
 have ad := b1.below au
 refine dT (i := 0) rfl rfl (by kernel_rfl) (fun _ _ => zR (v := (vP p)) rfl) ⟨h.bx.reads, ac, ad⟩ ?_
 refine dT (i := 1) rfl rfl (by kernel_rfl) (fun _ _ => yU rfl) ⟨h.bx.reads, ac, ad⟩ ?_
 refine dT (i := 2) rfl rfl (by kernel_rfl) (fun _ _ => zK (k := 0) rfl dH rfl nz49 rfl) ⟨h.bx.reads, ac, ad⟩ ?_
 refine dT (i := 3) rfl rfl (by kernel_rfl) (fun _ hS => zL (u := L) ag49 rfl (hS.1 0 _ rfl)) ⟨h.bx.reads, ac, ad⟩ ?_
 refine dT (i := 4) rfl rfl (by kernel_rfl) (fun _ _ => zR (v := (vJ a)) rfl) ⟨h.bx.reads, ac, ad⟩ ?_
 refine dT (i := 5) rfl rfl (by kernel_rfl) (fun _ _ => zJ dK sz48 (v := L) rfl rfl b2 (by omega) (by omega)) ⟨h.bx.reads, ac, ad⟩ ?_
 obtain ⟨af, ai, b4⟩ := vM (hpk.ol.at (z := a) (by omega) (by omega)) (j := (a).toNat) rfl
 rw [jM] at ai
 have cl := ai.max
 refine dT (i := 6) rfl rfl (by kernel_rfl) (fun _ hS => b4 ag48 rfl hS.2.1) ⟨h.bx.reads, ac, ad⟩ ?_
 refine dT (i := 7) rfl rfl (by kernel_rfl) (fun _ _ => zR (v := (vP p)) rfl) ⟨h.bx.reads, ac, ad⟩ ?_
 refine dT (i := 8) rfl rfl (by kernel_rfl) (fun _ _ => yU rfl) ⟨h.bx.reads, ac, ad⟩ ?_
 refine dT (i := 9) rfl rfl (by kernel_rfl) (fun _ _ => zK (k := 1) rfl dH rfl nz49 rfl) ⟨h.bx.reads, ac, ad⟩ ?_
 refine dT (i := 10) rfl rfl (by kernel_rfl) (fun _ hS => zL (u := R) ag49 rfl (hS.1 1 _ rfl)) ⟨h.bx.reads, ac, ad⟩ ?_
 refine dT (i := 11) rfl rfl (by kernel_rfl) (fun _ _ => zR (v := (vJ a)) rfl) ⟨h.bx.reads, ac, ad⟩ ?_
 refine dT (i := 12) rfl rfl (by kernel_rfl) (fun _ _ => zJ dK sz48 (v := R) rfl rfl b3 (by omega) (by omega)) ⟨h.bx.reads, ac, ad⟩ ?_
 obtain ⟨ag, aj, b5⟩ := vM (hpk.rr.at (z := a) (by omega) (by omega)) (j := (a).toNat) rfl
 rw [jL] at aj
 have cm := aj.max
 refine dT (i := 13) rfl rfl (by kernel_rfl) (fun _ hS => b5 ag48 rfl hS.2.2) ⟨h.bx.reads, ac, ad⟩ ?_
 refine dT (i := 14) rfl rfl (by kernel_rfl) (fun _ _ => qU (v := af) rfl) ⟨h.bx.reads, ac, ad⟩ ?_
 refine dT (i := 15) rfl rfl (by kernel_rfl) (fun _ _ => qU (v := ag) rfl) ⟨h.bx.reads, ac, ad⟩ ?_
 refine yP (by kernel_rfl) (zA (zB (zB (zC ?_))))
 refine qM af ?_
 refine qD rfl (zP dB (v := af) rfl ai) (qD rfl (jO rfl rfl) (qM (.bool (decide ((1 : Int) < (((q.ns.getD (a).toNat default).l).length : Int)))) ?_))
 refine qbd (p := (1 : Int) < (((q.ns.getD (a).toNat default).l).length : Int)) (t := 28) rfl (fun b6 => ?_) (fun b6 => ?_)
 refine qW ?_
 refine qW ?_
 refine qW ?_
 refine qD rfl (yR (v := (.bool true)) rfl rfl) (qe (zA ?_))
 refine jS rfl rfl (zB (zC ?_))
 refine qM (.bool false) ?_
 refine qe (zA ?_)
 exact wp_ret (zO (zQ (v := (.bool false)) rfl rfl rfl (⟨q, _, congrArg (fun z => Ending.returned (Value.bool z)) ((decP_false.2 (fun g => by have h5 := (hnp.1 g).1; omega)).symm), h, hok, (PX.refl _), ⟨rfl, rfl⟩, a7⟩)))
 refine qN (zR (v := ag) rfl) ?_
 refine qN (zP dB (v := ag) rfl aj) ?_
 refine qN (jO rfl rfl) ?_
 refine qD rfl (yI (v := (.bool (decide ((1 : Int) < (((q.ns.getD (a).toNat default).r).length : Int))))) rfl rfl) (qe (zA ?_))
 refine yC (p := (1 : Int) < (((q.ns.getD (a).toNat default).r).length : Int)) rfl rfl (fun b7 => ?_) (fun b7 => ?_)
 refine zB (zC ?_)
 refine qM (.bool false) ?_
 refine qe (zA ?_)
 exact wp_ret (zO (zQ (v := (.bool false)) rfl rfl rfl (⟨q, _, congrArg (fun z => Ending.returned (Value.bool z)) ((decP_false.2 (fun g => by have h5 := (hnp.1 g).1; omega)).symm), h, hok, (PX.refl _), ⟨rfl, rfl⟩, a7⟩)))
 refine wp_skip (zA (zB (zB (zC ?_))))
 refine qM af ?_
 refine qD rfl (zP dB (v := af) rfl ai) (qM (vJ 0) ?_)
 refine qe (zA ?_)
 refine zW (yS (fun k en W => ∃ (av : Nat → Value) (j : Nat) (aa : PSt) (ao : Pin), en = (upd (upd (upd (upd (upd (upd av 0 (vP p)) 5 af) 6 ag) 33 af) 34 (vJ (((q.ns.getD (a).toNat default).l).length : Int))) 35 (vJ (j : Int))) ∧ k = (q.ns.getD (a).toNat default).l.length - j ∧ Ext (inO (some mm.o)) G w ao W ∧ Pin.le G ao ∧ (j ≤ (q.ns.getD (a).toNat default).l.length) ∧ (∀ x, x < j → NumD (pd q ((q.ns.getD (a).toNat default).l.getD x 0))) ∧ (Pk 48 3 ao W p L R B mm aa) ∧ (PoolOk aa) ∧ (PX q aa) ∧ (aa.ns = q.ns ∧ aa.bs = q.bs)) _ ⟨_, 0, q, G, (pS 35 (pS 34 (pS 33 (pS 6 (pS 5 (pU 0)))))), rfl, a7, Pin.le_refl _, Nat.zero_le _, (fun x hx => absurd hx (Nat.not_lt_zero x)), h, hok, (PX.refl _), ⟨rfl, rfl⟩⟩ ?_)
 rintro cn _ co ⟨av, j, aa, ao, rfl, cp, a2, aw, hjj, hpj, bk, a3, an, ab⟩
 have cq := an.len
 have cr := pkl aa
 have cs := pkb a3
 refine zB (zC ?_)
 refine qD rfl (yX rfl rfl) (qe (zA (zB ?_)))
 refine yC (p := ((j : Int) : Int) < (((q.ns.getD (a).toNat default).l).length : Int)) rfl rfl (fun b8 => ?_) (fun b8 => ?_)
 refine wp_skip (zA (zB ?_))
 refine zW (zB (zC ?_))
 refine qD rfl (zJ dB sz3 (v := af) rfl rfl ai (by omega) (by omega)) (qD rfl (zI (r := ((q.ns.getD (a).toNat default).l).getD j 0) rfl ag3 (z := (j : Int)) rfl ai (dX a2.pins aw) (by omega) (by omega)) (qM (vJ (((q.ns.getD (a).toNat default).l).getD j 0)) ?_))
 refine qe (zA (zB (zC ?_)))
 refine qM (vP p) ?_
 refine qM (vJ (((q.ns.getD (a).toNat default).l).getD j 0)) ?_
 have bl : (q.ns.getD (a).toNat default).l.getD j 0 ∈ (q.ns.getD (a).toNat default).l := zZ (show j < (q.ns.getD (a).toNat default).l.length by omega)
 have ct := hopl _ bl
 refine qI rfl (zF (vs := [(vP p), (vJ (((q.ns.getD (a).toNat default).l).getD j 0))]) Tryz.func52 nm52 rfl rfl rfl ?_)
 refine dY (ih a2.pins bk a3 ⟨by omega, by rw [ab.1]; omega⟩ (by rw [xS ab]; exact hc.left ((kR hok ha).2 ⟨_, bl, rfl⟩)) (by omega)) ?_
 rintro _ cu ⟨ak, b9, rfl, bm, a4, a8, a9, bn⟩
 refine ⟨_, rfl, ?_⟩
 have bo := a2.trans bn (fun i hi => yV i hi)
 have cv := a8.len
 have cw := pkl ak
 have cx := pkb a4
 have cy := congrArg List.length a9.1
 refine qD rfl (xR rfl) (qe (zA ?_))
 refine qY rfl rfl (fun ba => ?_) (fun ba => ?_)
 refine wp_skip (yA (zA (zC ?_)))
 refine qD rfl (yJ rfl rfl (by omega)) (qM (vJ ((j : Int) + 1)) ?_)
 refine qe (yD (⟨_, ?_, _, rfl, _, j + 1, ak, b9, (pS 35 (pS 34 (pS 33 (pS 6 (pS 5 (pU 0)))))), rfl, bo, (dW aw bn.le), (by omega), (fun x h2 => if h3 : x = j then h3 ▸ (by have h5 := decP_true.1 ba; rwa [xS ab] at h5) else hpj x (by omega)), bm, a4, (PX.trans an a8), (zM ab a9)⟩))
 omega
 refine zB (zC ?_)
 refine qM (.bool false) ?_
 refine qe (zA ?_)
 exact wp_ret (zO (zQ (v := (.bool false)) rfl rfl rfl (⟨ak, _, congrArg (fun z => Ending.returned (Value.bool z)) ((decP_false.2 (fun g => by have h5 := decP_false.1 ba; rw [xS ab] at h5; exact h5 ((hnp.1 g).2.1 j (by omega)))).symm), bm, a4, (PX.trans an a8), (zM ab a9), bo⟩)))
 refine wp_exit (zV (yK (yE (zA (zB (zB (zC ?_)))))))
 refine qM ag ?_
 refine qD rfl (zP dB (v := ag) rfl aj) (qM (vJ 0) ?_)
 refine qe (zA ?_)
 refine zW (yS (fun k en W => ∃ (av : Nat → Value) (i : Nat) (y : PSt) (ax : Pin), en = (upd (upd (upd (upd (upd (upd av 0 (vP p)) 5 af) 6 ag) 44 ag) 45 (vJ (((q.ns.getD (a).toNat default).r).length : Int))) 46 (vJ (i : Int))) ∧ k = (q.ns.getD (a).toNat default).r.length - i ∧ Ext (inO (some mm.o)) G w ax W ∧ Pin.le ao ax ∧ (i ≤ (q.ns.getD (a).toNat default).r.length) ∧ (∀ x, x < i → NumD (pd q ((q.ns.getD (a).toNat default).r.getD x 0))) ∧ (Pk 48 3 ax W p L R B mm y) ∧ (PoolOk y) ∧ (PX aa y) ∧ (y.ns = aa.ns ∧ y.bs = aa.bs)) _ ⟨_, 0, aa, ao, (pS 46 (pS 45 (pS 44 (pS 6 (pS 5 (pU 0)))))), rfl, a2, Pin.le_refl _, Nat.zero_le _, (fun x hx => absurd hx (Nat.not_lt_zero x)), bk, a3, (PX.refl _), ⟨rfl, rfl⟩⟩ ?_)
 rintro cz _ bc ⟨av, i, y, ax, rfl, c0, ay, a5, hji, hpi, bp, ap, aq, ah⟩
 have c1 := aq.len
 have c2 := pkl y
 have c3 := pkb ap
 refine zB (zC ?_)
 refine qD rfl (yX rfl rfl) (qe (zA (zB ?_)))
 refine yC (p := ((i : Int) : Int) < (((q.ns.getD (a).toNat default).r).length : Int)) rfl rfl (fun ca => ?_) (fun ca => ?_)
 refine wp_skip (zA (zB ?_))
 refine zW (zB (zC ?_))
 refine qD rfl (zJ dB sz3 (v := ag) rfl rfl aj (by omega) (by omega)) (qD rfl (zI (r := ((q.ns.getD (a).toNat default).r).getD i 0) rfl ag3 (z := (i : Int)) rfl aj (dX ay.pins (dW aw a5)) (by omega) (by omega)) (qM (vJ (((q.ns.getD (a).toNat default).r).getD i 0)) ?_))
 refine qe (zA (zB (zC ?_)))
 refine qM (vP p) ?_
 refine qM (vJ (((q.ns.getD (a).toNat default).r).getD i 0)) ?_
 have bq : (q.ns.getD (a).toNat default).r.getD i 0 ∈ (q.ns.getD (a).toNat default).r := zZ (show i < (q.ns.getD (a).toNat default).r.length by omega)
 have c4 := hopr _ bq
 refine qI rfl (zF (vs := [(vP p), (vJ (((q.ns.getD (a).toNat default).r).getD i 0))]) Tryz.func52 nm52 rfl rfl rfl ?_)
 refine dY (ih ay.pins bp ap ⟨by omega, by rw [(zM ab ah).1]; omega⟩ (by rw [xS (zM ab ah)]; exact hc.right ((kN hok ha).2 ⟨_, bq, rfl⟩)) (by omega)) ?_
 rintro _ c5 ⟨al, cb, rfl, br, a6, bd, be, bt⟩
 refine ⟨_, rfl, ?_⟩
 have bu := ay.trans bt (fun i hi => yV i hi)
 have c6 := bd.len
 have c7 := pkl al
 have c8 := pkb a6
 have c9 := congrArg List.length be.1
 refine qD rfl (xR rfl) (qe (zA ?_))
 refine qY rfl rfl (fun bf => ?_) (fun bf => ?_)
 refine wp_skip (yA (zA (zC ?_)))
 refine qD rfl (yJ rfl rfl (by omega)) (qM (vJ ((i : Int) + 1)) ?_)
 refine qe (yD (⟨_, ?_, _, rfl, _, i + 1, al, cb, (pS 46 (pS 45 (pS 44 (pS 6 (pS 5 (pU 0)))))), rfl, bu, (dW a5 bt.le), (by omega), (fun x h2 => if h3 : x = i then h3 ▸ (by have h5 := decP_true.1 bf; rwa [xS (zM ab ah)] at h5) else hpi x (by omega)), br, a6, (PX.trans aq bd), (zM ah be)⟩))
 omega
 refine zB (zC ?_)
 refine qM (.bool false) ?_
 refine qe (zA ?_)
 exact wp_ret (zO (zQ (v := (.bool false)) rfl rfl rfl (⟨al, _, congrArg (fun z => Ending.returned (Value.bool z)) ((decP_false.2 (fun g => by have h5 := decP_false.1 bf; rw [xS (zM ab ah)] at h5; exact h5 ((hnp.1 g).2.2.1 i (by omega)))).symm), br, a6, (PX.trans (PX.trans an aq) bd), (zM (zM ab ah) be), bu⟩)))
 refine wp_exit (zV (yK (yE (zA (zB ?_)))))
 refine yZ (S := fun wz => Pins ax wz) (last := 20) (by kernel_rfl) rfl ?_
 have bg := bdr bc
 have bv := ay.pins.below bg
 have d := ay.step bv bg
 have bh := bp.below bg bv
 refine dM 0 af d.pins ?_
 refine dT (i := 1) rfl rfl (by kernel_rfl) (fun _ _ => zP dB (v := af) rfl ai) d.pins ?_
 refine dT (i := 2) rfl rfl (by kernel_rfl) (fun _ _ => xU rfl rfl) d.pins ?_
 refine dM 3 (.bool (decide (((((q.ns.getD (a).toNat default).l).length : Int) : Int) = 0))) d.pins ?_
 refine drbd (p := ((((q.ns.getD (a).toNat default).l).length : Int) : Int) = 0) (t := 58) rfl (fun cc => ?_) (fun cc => ?_)
 refine yL (i := 4) rfl rfl (yT rfl rfl rfl rfl rfl) (by kernel_rfl) d.pins (yL (i := 5) rfl rfl (yT rfl rfl rfl rfl rfl) (by kernel_rfl) d.pins (yL (i := 6) rfl rfl (yT rfl rfl rfl rfl rfl) (by kernel_rfl) d.pins (dT (i := 7) rfl rfl (by kernel_rfl) (fun _ _ => yR (v := (.bool true)) rfl rfl) d.pins ?_)))
 refine dM 8 (.bool true) d.pins ?_
 refine yL (i := 9) rfl rfl (yT rfl rfl rfl rfl rfl) (by kernel_rfl) d.pins (yL (i := 10) rfl rfl (yT rfl rfl rfl rfl rfl) (by kernel_rfl) d.pins (yL (i := 11) rfl rfl (yT rfl rfl rfl rfl rfl) (by kernel_rfl) d.pins (yL (i := 12) rfl rfl (yT rfl rfl rfl rfl rfl) (by kernel_rfl) d.pins (yL (i := 13) rfl rfl (yT rfl rfl rfl rfl rfl) (by kernel_rfl) d.pins (yL (i := 14) rfl rfl (yT rfl rfl rfl rfl rfl) (by kernel_rfl) d.pins (yL (i := 15) rfl rfl (yT rfl rfl rfl rfl rfl) (by kernel_rfl) d.pins (yL (i := 16) rfl rfl (yT rfl rfl rfl rfl rfl) (by kernel_rfl) d.pins (yL (i := 17) rfl rfl (yT rfl rfl rfl rfl rfl) (by kernel_rfl) d.pins (dT (i := 18) rfl rfl (by kernel_rfl) (fun _ _ => yR (v := (.bool true)) rfl rfl) d.pins ?_)))))))))
 refine dM 19 (.bool true) d.pins ?_
 exact yP (by kernel_rfl) (zA (wp_ret (zO (zQ (v := (.bool true)) rfl rfl rfl (⟨y, _, congrArg (fun z => Ending.returned (Value.bool z)) ((decP_true.2 (hnp.2 ⟨⟨by omega, by omega⟩, fun x hx => hpj x (by omega), fun x hx => hpi x (by omega), (fun h1 h2 => by omega)⟩)).symm), bh, ap, (PX.trans an aq), (zM ab ah), d⟩)))))
 refine yY (i := 4) rfl rfl rfl (yQ rfl rfl rfl rfl) (by kernel_rfl) (fun _ _ => zR (v := ag) rfl) d.pins (yY (i := 5) rfl rfl rfl (yQ rfl rfl rfl rfl) (by kernel_rfl) (fun _ _ => zP dB (v := ag) rfl aj) d.pins (yY (i := 6) rfl rfl rfl (yQ rfl rfl rfl rfl) (by kernel_rfl) (fun _ _ => xU rfl rfl) d.pins (dT (i := 7) rfl rfl (by kernel_rfl) (fun _ _ => yI (v := (.bool (decide (((((q.ns.getD (a).toNat default).r).length : Int) : Int) = 0)))) rfl rfl) d.pins ?_)))
 refine dM 8 (.bool (decide (((((q.ns.getD (a).toNat default).r).length : Int) : Int) = 0))) d.pins ?_
 refine drbd (p := ((((q.ns.getD (a).toNat default).r).length : Int) : Int) = 0) (t := 63) rfl (fun ce => ?_) (fun ce => ?_)
 refine yL (i := 9) rfl rfl (yT rfl rfl rfl rfl rfl) (by kernel_rfl) d.pins (yL (i := 10) rfl rfl (yT rfl rfl rfl rfl rfl) (by kernel_rfl) d.pins (yL (i := 11) rfl rfl (yT rfl rfl rfl rfl rfl) (by kernel_rfl) d.pins (yL (i := 12) rfl rfl (yT rfl rfl rfl rfl rfl) (by kernel_rfl) d.pins (yL (i := 13) rfl rfl (yT rfl rfl rfl rfl rfl) (by kernel_rfl) d.pins (yL (i := 14) rfl rfl (yT rfl rfl rfl rfl rfl) (by kernel_rfl) d.pins (yL (i := 15) rfl rfl (yT rfl rfl rfl rfl rfl) (by kernel_rfl) d.pins (yL (i := 16) rfl rfl (yT rfl rfl rfl rfl rfl) (by kernel_rfl) d.pins (yL (i := 17) rfl rfl (yT rfl rfl rfl rfl rfl) (by kernel_rfl) d.pins (dT (i := 18) rfl rfl (by kernel_rfl) (fun _ _ => yR (v := (.bool true)) rfl rfl) d.pins ?_)))))))))
 refine dM 19 (.bool true) d.pins ?_
 exact yP (by kernel_rfl) (zA (wp_ret (zO (zQ (v := (.bool true)) rfl rfl rfl (⟨y, _, congrArg (fun z => Ending.returned (Value.bool z)) ((decP_true.2 (hnp.2 ⟨⟨by omega, by omega⟩, fun x hx => hpj x (by omega), fun x hx => hpi x (by omega), (fun h1 h2 => by omega)⟩)).symm), bh, ap, (PX.trans an aq), (zM ab ah), d⟩)))))
 refine yY (i := 9) rfl rfl rfl (yQ rfl rfl rfl rfl) (by kernel_rfl) (fun _ _ => zR (v := (vP p)) rfl) d.pins (yY (i := 10) rfl rfl rfl (yQ rfl rfl rfl rfl) (by kernel_rfl) (fun _ _ => zR (v := af) rfl) d.pins (yY (i := 11) rfl rfl rfl (yQ rfl rfl rfl rfl) (by kernel_rfl) (fun _ _ => zJ dB sz3 (v := af) rfl rfl ai (by omega) (by omega)) d.pins (yY (i := 12) rfl rfl rfl (yQ rfl rfl rfl rfl) (by kernel_rfl) (fun _ hS => zI (r := ((q.ns.getD (a).toNat default).l).getD 0 0) rfl ag3 (z := 0) rfl ai (dX hS (dW aw a5)) (by omega) (by omega)) d.pins (yY (i := 13) rfl rfl rfl (yQ rfl rfl rfl rfl) (by kernel_rfl) (fun _ _ => zR (v := ag) rfl) d.pins (yY (i := 14) rfl rfl rfl (yQ rfl rfl rfl rfl) (by kernel_rfl) (fun _ _ => zJ dB sz3 (v := ag) rfl rfl aj (by omega) (by omega)) d.pins (yY (i := 15) rfl rfl rfl (yQ rfl rfl rfl rfl) (by kernel_rfl) (fun _ hS => zI (r := ((q.ns.getD (a).toNat default).r).getD 0 0) rfl ag3 (z := 0) rfl aj (dX hS (dW aw a5)) (by omega) (by omega)) d.pins ?_))))))
 have hm0l : (q.ns.getD (a).toNat default).l.getD 0 0 ∈ (q.ns.getD (a).toNat default).l := zZ (by omega)
 have hm0r : (q.ns.getD (a).toNat default).r.getD 0 0 ∈ (q.ns.getD (a).toNat default).r := zZ (by omega)
 have hb0l := hopl _ hm0l
 have hb0r := hopr _ hm0r
 refine dO (i := 16) (zS (i := 16) rfl rfl rfl (yQ rfl rfl rfl rfl) (zF (vs := [(vP p), (vJ (((q.ns.getD (a).toNat default).l).getD 0 0)), (vJ (((q.ns.getD (a).toNat default).r).getD 0 0))]) Tryz.func19 nm19 rfl rfl rfl ?_))
 refine dY (fH d.pins bh ap ⟨by omega, by rw [(zM ab ah).1]; omega⟩ ⟨by omega, by rw [(zM ab ah).1]; omega⟩) ?_
 rintro _ da ⟨am, db, rfl, cf, bi, bw, bz, az⟩
 refine ⟨_, rfl, ?_⟩
 have a0 := d.trans az (fun i hi => yV i hi)
 have dc := bw.len
 have dd := pkl am
 have de := pkb bi
 have df := congrArg List.length bz.1
 refine ⟨fun _ => (dX a0.pins az.le), ?_⟩
 refine yY (i := 17) rfl rfl rfl (yQ rfl rfl rfl rfl) (by kernel_rfl) (fun _ _ => xR rfl) (dX a0.pins az.le) (dT (i := 18) rfl rfl (by kernel_rfl) (fun _ _ => yI (v := (.bool (!(geB y.ns (((q.ns.getD (a).toNat default).l).getD 0 0) (((q.ns.getD (a).toNat default).r).getD 0 0))))) rfl rfl) (dX a0.pins az.le) ?_)
 refine dM 19 (.bool (!(geB y.ns (((q.ns.getD (a).toNat default).l).getD 0 0) (((q.ns.getD (a).toNat default).r).getD 0 0)))) (dX a0.pins az.le) ?_
 refine yP (by kernel_rfl) (zA (wp_ret (zO (zQ (v := (.bool (!(geB y.ns (((q.ns.getD (a).toNat default).l).getD 0 0) (((q.ns.getD (a).toNat default).r).getD 0 0))))) rfl rfl rfl ?_))))
 exact ⟨am, _, congrArg (fun z => Ending.returned (Value.bool z)) ((by
   have hgq := xQ (a := (q.ns.getD (a).toNat default).l.getD 0 0) (b := (q.ns.getD (a).toNat default).r.getD 0 0) (zM ab ah)
   rw [hgq]
   cases hgv : geB q.ns ((q.ns.getD (a).toNat default).l.getD 0 0) ((q.ns.getD (a).toNat default).r.getD 0 0) with
   | true => exact (decP_false.2 (fun g => by have h5 := (hnp.1 g).2.2.2 (by omega) (by omega); rw [hgv] at h5; cases h5)).symm
   | false => exact (decP_true.2 (hnp.2 ⟨⟨by omega, by omega⟩, fun x hx => hpj x (by omega), fun x hx => hpi x (by omega), (fun _ _ => hgv)⟩)).symm)), cf, bi, (PX.trans (PX.trans an aq) bw), (zM (zM ab ah) bz), a0⟩
theorem isn_all {p : Nat} {L R B : Value} {mm : PM} : ∀ m, IsnP m p L R B mm
 | 0 => fun _ _ _ _ _ h => absurd h (Nat.not_lt_zero _)
 | m + 1 => fun hP hpk hok ha hc hm => eX hP hpk hok ha hc (isn_all m) hm
theorem eY {w : World} (hP : Pins G w) (hpk : Pk 48 3 G w p L R B mm q) (hok : PoolOk q) (ha : PlaceOk q a) (hc : CanonG (pd q a)) :
  Calls Tryz.prog 52 [(.pointer (some ⟨p, 0, none⟩)), (.int .i64 a)].toArray w fun e w' => ∃ (q' : PSt) (G' : Pin), e = .returned (.bool (decP (NumD (pd q a)))) ∧ Pk 48 3 G' w' p L R B mm q' ∧ PoolOk q' ∧ PX q q' ∧ (q'.ns = q.ns ∧ q'.bs = q.bs) ∧ Ext (inO (some mm.o)) G w G' w' :=
 isn_all _ hP hpk hok ha hc (Nat.lt_succ_self _)
end VA1
end Go.Proofs.YtjdchbdfohiaaaaGreatDoor
namespace Go.Proofs.YtjdchbdfohiaaaaGreatDoor
namespace VA2
open Go.RowKit Go.GL Go.Proofs
open B1 C1 D1 E1 K1 PO1 PL1 NU1 NU2
theorem pl28 : (Tryz.prog.underlying 28).bind (placesD Tryz.prog) = some [(0, 1), (1, 1)] := by kernel_rfl
variable {G : Pin} {t z : Int}
theorem fB {w : World} (hP : Pins G w) (ht : -10000000 ≤ t ∧ t ≤ 10000000) (hz : 0 ≤ z ∧ z ≤ 16) :
  Calls Tryz.prog 55 [(.agg [(.int .i64 t), (.int .i64 z)].toArray)].toArray w fun e w' => ∃ G', e = .returned (.int .i64 (scI 16 t z)) ∧ Ext noS G w G' w' := by
 refine zU (n := 9) Tryz.func55 Tryz.ntmps55 rfl rfl ?_
 have a := exr noS hP
 have hsl := shl_lim (t := t) (k := (16 - z).toNat) ht (by omega)
 refine zB (zC ?_)
 refine qI rfl (xH [(.int .i64 t), (.int .i64 z)] (v := (.agg [(.int .i64 t), (.int .i64 z)].toArray)) rfl rfl a.pins (fun d l m f g h => ?_))
 have i := a.step g h
 have j : w.heap.size ≤ d := by have := a.size; omega
 obtain ⟨o, p, b, c, q⟩ := f.shut i j
 refine qM (.int .i64 0) ?_
 refine qe (zA (zB (zC ?_)))
 refine qD rfl (zK (k := 0) rfl dD rfl nz3 rfl) (qD rfl (zL (u := (.int .i64 t)) ag3 rfl (b.pins _ _ _ (c 0 _ rfl))) (qD rfl (zK (k := 1) rfl dD rfl nz3 rfl) (qD rfl (zL (u := (.int .i64 z)) ag3 rfl (b.pins _ _ _ (c 1 _ rfl))) (qD rfl (qC rfl rfl (by omega)) (qD rfl (r_shlI rfl rfl (by omega) (by omega)) (qM (.int .i64 (t * 2 ^ (16 - z : Int).toNat)) ?_))))))
 refine qe (zA ?_)
 exact wp_ret (zO (zQ (v := (.int .i64 (t * 2 ^ (16 - z : Int).toNat))) rfl rfl rfl (⟨_, rfl, b⟩)))
theorem tG {w : World} {s y : Int} (hP : Pins G w) (hg1 : GoodD t z) (hg2 : GoodD s y) :
  Calls Tryz.prog 53 [(.agg [(vJ t), (vJ z)].toArray), (.agg [(vJ s), (vJ y)].toArray)].toArray w fun e w' => ∃ G', e = .returned (.tuple #[.agg [.int .i64 (lowR (decP (GoodD (lowD 16 (scI 16 t z + scI 16 s y)).1 (((lowD 16 (scI 16 t z + scI 16 s y)).2 : Nat) : Int))) (lowD 16 (scI 16 t z + scI 16 s y)).1), .int .i64 (lowR (decP (GoodD (lowD 16 (scI 16 t z + scI 16 s y)).1 (((lowD 16 (scI 16 t z + scI 16 s y)).2 : Nat) : Int))) (((lowD 16 (scI 16 t z + scI 16 s y)).2 : Nat) : Int))].toArray, .bool (decP (GoodD (lowD 16 (scI 16 t z + scI 16 s y)).1 (((lowD 16 (scI 16 t z + scI 16 s y)).2 : Nat) : Int)))]) ∧ Ext noS G w G' w' := by
 refine zU (n := 23) Tryz.func53 Tryz.ntmps53 rfl rfl ?_
 have o := exr noS hP
 have h1t := hg1.top
 have h1p := hg1.pow
 have h2t := hg2.top
 have h2p := hg2.pow
 have bh := tI (D := 16) (t := t) (z := z) (by omega) (by omega)
 have bi := tI (D := 16) (t := s) (z := y) (by omega) (by omega)
 refine zB (zC ?_)
 refine qI rfl (xH [(vJ t), (vJ z)] (v := (.agg [(vJ t), (vJ z)].toArray)) rfl rfl o.pins (fun b1 w2 bk ao ap aq => ?_))
 have ar := o.step ap aq
 have au : w.heap.size ≤ b1 := by have := o.size; omega
 obtain ⟨G9, bm, q, ag, bn⟩ := ao.shut ar au
 refine qI rfl (xH [(vJ s), (vJ y)] (v := (.agg [(vJ s), (vJ y)].toArray)) rfl rfl q.pins (fun av bo bp aw ax ay => ?_))
 have az := q.step ax ay
 have a0 : w.heap.size ≤ av := by have := q.size; omega
 obtain ⟨bq, ah, r, ai, br⟩ := aw.shut az a0
 refine qI rfl (yM [(vJ 0), (vJ 0)] zr28 rfl r.pins (fun a1 bs bt a2 a3 a4 => ?_))
 have x := r.step a3 a4
 have a5 : w.heap.size ≤ a1 := by have := r.size; omega
 refine qM (.bool false) ?_
 refine qe (zA (zB (zB (zC ?_))))
 refine qD rfl (zT (cs := [(vJ t), (vJ z)]) ag28 sz28 rfl (fun j u hj => (dX x.pins ah) _ _ _ (ag _ _ (by simpa using hj)))) (qI rfl (zF (vs := [(.agg [(vJ t), (vJ z)].toArray)]) Tryz.func25 nm25 rfl rfl rfl ?_))
 refine dY (qQ (t := t) (z := z) x.pins) ?_
 rintro _ bu ⟨bv, rfl, d⟩
 refine ⟨_, rfl, ?_⟩
 have g := x.tr d
 have aj := a2.ext d
 refine qD rfl (xR rfl) (qM (.bool (!(decP (GoodD t z)))) ?_)
 refine qbn (t := 9) rfl (fun ak => ?_) (fun ak => ?_)
 refine qN (zT (cs := [(vJ s), (vJ y)]) ag28 sz28 rfl (fun j u hj => (dX g.pins d.le) _ _ _ (ai _ _ (by simpa using hj)))) ?_
 refine q1g rfl rfl rfl rfl rfl rfl (zF (vs := [(.agg [(vJ s), (vJ y)].toArray)]) Tryz.func25 nm25 rfl rfl rfl ?_)
 refine dY (qQ (t := s) (z := y) g.pins) ?_
 rintro _ aa ⟨a6, rfl, k⟩
 refine ⟨_, rfl, ?_⟩
 have ab := g.tr k
 have al := aj.ext k
 refine qN (xR rfl) ?_
 refine qD rfl (yI (v := (.bool (!(decP (GoodD s y))))) rfl rfl) (qe (zA ?_))
 refine qY rfl rfl (fun am => ?_) (fun am => ?_)
 refine wp_skip (zA (zB ?_))
 refine yZ (S := fun wz => Pins a6 wz) (last := 10) (by kernel_rfl) rfl ?_
 have ac := bdr aa
 have a7 := ab.pins.below ac
 have l := ab.step a7 ac
 have a8 := al.below ac
 refine dT (i := 0) rfl rfl (by kernel_rfl) (fun _ hS => zT (cs := [(vJ t), (vJ z)]) ag28 sz28 rfl (fun j u hj => (dX hS (dW (dW ah d.le) k.le)) _ _ _ (ag _ _ (by simpa using hj)))) l.pins ?_
 refine dT (i := 2) rfl rfl (by kernel_rfl) (fun _ hS => zT (cs := [(vJ s), (vJ y)]) ag28 sz28 rfl (fun j u hj => (dX hS (dW d.le k.le)) _ _ _ (ai _ _ (by simpa using hj)))) l.pins ?_
 refine dO (i := 1) (zS (i := 1) rfl rfl rfl (zD rfl _) (zF (vs := [(.agg [(vJ t), (vJ z)].toArray)]) Tryz.func55 nm55 rfl rfl rfl ?_))
 refine dY (fB (t := t) (z := z) l.pins (by omega) (by omega)) ?_
 rintro _ bw ⟨bx, rfl, a⟩
 refine ⟨_, rfl, ?_⟩
 have ad := l.tr a
 have a9 := a8.ext a
 refine ⟨fun _ => (dX ad.pins a.le), ?_⟩
 refine dO (i := 3) (zS (i := 3) rfl rfl rfl (zD rfl _) (zF (vs := [(.agg [(vJ s), (vJ y)].toArray)]) Tryz.func55 nm55 rfl rfl rfl ?_))
 refine dY (fB (t := s) (z := y) ad.pins (by omega) (by omega)) ?_
 rintro _ bz ⟨b0, rfl, b⟩
 refine ⟨_, rfl, ?_⟩
 have m := ad.tr b
 have ba := a9.ext b
 refine ⟨fun _ => (dX m.pins (dW a.le b.le)), ?_⟩
 refine dT (i := 4) rfl rfl (by kernel_rfl) (fun _ _ => yJ rfl rfl (by omega)) (dX m.pins (dW a.le b.le)) ?_
 refine dO (i := 5) (zS (i := 5) rfl rfl rfl (zD rfl _) (zF (vs := [(vJ ((scI 16 t z) + (scI 16 s y))), (vJ 16)]) Tryz.func54 nm54 rfl rfl rfl ?_))
 refine dY (gZ (t := (scI 16 t z) + (scI 16 s y)) (p := 16) m.pins (by omega) (by omega)) ?_
 rintro _ b2 ⟨b3, rfl, c⟩
 refine ⟨_, rfl, ?_⟩
 have f := m.tr c
 have bb := ba.ext c
 refine ⟨fun _ => (dX f.pins (dW (dW a.le b.le) c.le)), ?_⟩
 refine dT (i := 6) rfl rfl (by kernel_rfl) (fun _ _ => zX (v := (.agg [(vJ (lowR (decP (GoodD (lowD 16 ((scI 16 t z) + (scI 16 s y))).1 (((lowD 16 ((scI 16 t z) + (scI 16 s y))).2 : Nat) : Int))) (lowD 16 ((scI 16 t z) + (scI 16 s y))).1)), (vJ (lowR (decP (GoodD (lowD 16 ((scI 16 t z) + (scI 16 s y))).1 (((lowD 16 ((scI 16 t z) + (scI 16 s y))).2 : Nat) : Int))) (((lowD 16 ((scI 16 t z) + (scI 16 s y))).2 : Nat) : Int)))].toArray)) rfl rfl) (dX f.pins (dW (dW a.le b.le) c.le)) ?_
 refine dT (i := 7) rfl rfl (by kernel_rfl) (fun _ _ => zX (v := (.bool (decP (GoodD (lowD 16 ((scI 16 t z) + (scI 16 s y))).1 (((lowD 16 ((scI 16 t z) + (scI 16 s y))).2 : Nat) : Int))))) rfl rfl) (dX f.pins (dW (dW a.le b.le) c.le)) ?_
 refine dO (i := 8) (jB (i := 8) rfl rfl rfl (zD rfl _) (o_stp (cs' := [(vJ (lowR (decP (GoodD (lowD 16 ((scI 16 t z) + (scI 16 s y))).1 (((lowD 16 ((scI 16 t z) + (scI 16 s y))).2 : Nat) : Int))) (lowD 16 ((scI 16 t z) + (scI 16 s y))).1)), (vJ (lowR (decP (GoodD (lowD 16 ((scI 16 t z) + (scI 16 s y))).1 (((lowD 16 ((scI 16 t z) + (scI 16 s y))).2 : Nat) : Int))) (((lowD 16 ((scI 16 t z) + (scI 16 s y))).2 : Nat) : Int)))]) (us := [(vJ (lowR (decP (GoodD (lowD 16 ((scI 16 t z) + (scI 16 s y))).1 (((lowD 16 ((scI 16 t z) + (scI 16 s y))).2 : Nat) : Int))) (lowD 16 ((scI 16 t z) + (scI 16 s y))).1)), (vJ (lowR (decP (GoodD (lowD 16 ((scI 16 t z) + (scI 16 s y))).1 (((lowD 16 ((scI 16 t z) + (scI 16 s y))).2 : Nat) : Int))) (((lowD 16 ((scI 16 t z) + (scI 16 s y))).2 : Nat) : Int)))]) (v := (.agg [(vJ (lowR (decP (GoodD (lowD 16 ((scI 16 t z) + (scI 16 s y))).1 (((lowD 16 ((scI 16 t z) + (scI 16 s y))).2 : Nat) : Int))) (lowD 16 ((scI 16 t z) + (scI 16 s y))).1)), (vJ (lowR (decP (GoodD (lowD 16 ((scI 16 t z) + (scI 16 s y))).1 (((lowD 16 ((scI 16 t z) + (scI 16 s y))).2 : Nat) : Int))) (((lowD 16 ((scI 16 t z) + (scI 16 s y))).2 : Nat) : Int)))].toArray)) sz28 rfl rfl rfl (xG (by rfl) (by rfl)) f.pins bb (dZ rfl) rfl (fun b4 bc bd be b5 => ?_)))
 have ae := f.write bd be ((zY a5))
 refine ⟨fun _ => (dX ae.pins (dW (dW a.le b.le) c.le)), ?_⟩
 refine dM 9 (.bool (decP (GoodD (lowD 16 ((scI 16 t z) + (scI 16 s y))).1 (((lowD 16 ((scI 16 t z) + (scI 16 s y))).2 : Nat) : Int)))) (dX ae.pins (dW (dW a.le b.le) c.le)) ?_
 exact yP (by kernel_rfl) (zA (wp_ret (zO (xY (cs := [(vJ (lowR (decP (GoodD (lowD 16 ((scI 16 t z) + (scI 16 s y))).1 (((lowD 16 ((scI 16 t z) + (scI 16 s y))).2 : Nat) : Int))) (lowD 16 ((scI 16 t z) + (scI 16 s y))).1)), (vJ (lowR (decP (GoodD (lowD 16 ((scI 16 t z) + (scI 16 s y))).1 (((lowD 16 ((scI 16 t z) + (scI 16 s y))).2 : Nat) : Int))) (((lowD 16 ((scI 16 t z) + (scI 16 s y))).2 : Nat) : Int)))]) (v := (.bool (decP (GoodD (lowD 16 ((scI 16 t z) + (scI 16 s y))).1 (((lowD 16 ((scI 16 t z) + (scI 16 s y))).2 : Nat) : Int))))) rfl rfl rfl rfl rfl ag28 sz28 (fun j u hj => by rw [Nat.zero_add]; exact bc.cell hj) (⟨_, rfl, ae⟩)))))
 refine zB (zC ?_)
 refine qD rfl (xB [(vJ 0), (vJ 0)] [(vJ 0), (vJ 0)] [] dD zr28 rfl pl28 rfl (fun _ h => by cases h) rfl) (q0 rfl rfl rfl (o_stp (cs' := [(vJ 0), (vJ 0)]) (us := [(vJ 0), (vJ 0)]) (v := (.agg [(vJ 0), (vJ 0)].toArray)) sz28 rfl rfl rfl (xG (by rfl) (by rfl)) ab.pins al (dZ rfl) rfl (fun b6 bf b7 b8 b9 => ?_)))
 refine qM (.bool false) ?_
 refine qe (zA ?_)
 refine wp_ret (zO (xY (cs := [(vJ 0), (vJ 0)]) (v := (.bool false)) rfl rfl rfl rfl rfl ag28 sz28 (fun j u hj => by rw [Nat.zero_add]; exact bf.cell hj) ?_))
 exfalso
 have h5 := decP_false.1 am
 exact h5 hg2
 refine qW ?_
 refine qW ?_
 refine qW ?_
 refine qD rfl (yR (v := (.bool true)) rfl rfl) (qe (zA ?_))
 refine jS rfl rfl (zB (zC ?_))
 refine qD rfl (xB [(vJ 0), (vJ 0)] [(vJ 0), (vJ 0)] [] dD zr28 rfl pl28 rfl (fun _ h => by cases h) rfl) (q0 rfl rfl rfl (o_stp (cs' := [(vJ 0), (vJ 0)]) (us := [(vJ 0), (vJ 0)]) (v := (.agg [(vJ 0), (vJ 0)].toArray)) sz28 rfl rfl rfl (xG (by rfl) (by rfl)) g.pins aj (dZ rfl) rfl (fun ca bg cb cc cd => ?_)))
 refine qM (.bool false) ?_
 refine qe (zA ?_)
 refine wp_ret (zO (xY (cs := [(vJ 0), (vJ 0)]) (v := (.bool false)) rfl rfl rfl rfl rfl ag28 sz28 (fun j u hj => by rw [Nat.zero_add]; exact bg.cell hj) ?_))
 exfalso
 have h5 := decP_false.1 ak
 exact h5 hg1
end VA2
end Go.Proofs.YtjdchbdfohiaaaaGreatDoor
namespace Go.Proofs.YtjdchbdfohiaaaaGreatDoor
namespace VA3
open Go.RowKit Go.GL Go.Proofs
open B1 C1 D1 E1 K1 PO1 PL1 NU1 NU2 VA1 VA2
theorem pl28 : (Tryz.prog.underlying 28).bind (placesD Tryz.prog) = some [(0, 1), (1, 1)] := by kernel_rfl
def ValP (m : Nat) (p : Nat) (L R B : Value) (mm : PM) : Prop := ∀ {w : World} {G : Pin} {q : PSt} {a : Int} (_ : Pins G w) (_ : Pk 48 3 G w p L R B mm q) (_ : PoolOk q) (_ : PlaceOk q a) (_ : CanonG (pd q a)), a.toNat < m →
  Calls Tryz.prog 23 [(.pointer (some ⟨p, 0, none⟩)), (.int .i64 a)].toArray w fun e w' => ∃ (q' : PSt) (G' : Pin), e = .returned (.tuple #[.agg [.int .i64 (vgT (pd q a)), .int .i64 (vgP (pd q a))].toArray, .bool (vgB (pd q a))]) ∧ Pk 48 3 G' w' p L R B mm q' ∧ PoolOk q' ∧ PX q q' ∧ (q'.ns = q.ns ∧ q'.bs = q.bs) ∧ Ext (inO (some mm.o)) G w G' w'
variable {p : Nat} {L R B : Value} {mm : PM} {G : Pin} {q : PSt} {a : Int}
theorem valueOf_step {m : Nat} {w : World} (hP : Pins G w) (hpk : Pk 48 3 G w p L R B mm q) (hok : PoolOk q) (ha : PlaceOk q a) (hc : CanonG (pd q a)) (ih : ValP m p L R B mm) (hm : a.toNat < m + 1) :
  Calls Tryz.prog 23 [(vP p), (vJ a)].toArray w fun e w' => ∃ (q' : PSt) (G' : Pin), e = .returned (.tuple #[.agg [.int .i64 (vgT (pd q a)), .int .i64 (vgP (pd q a))].toArray, .bool (vgB (pd q a))]) ∧ Pk 48 3 G' w' p L R B mm q' ∧ PoolOk q' ∧ PX q q' ∧ (q'.ns = q.ns ∧ q'.bs = q.bs) ∧ Ext (inO (some mm.o)) G w G' w' := by
 refine zU (n := 116) Tryz.func23 Tryz.ntmps23 rfl rfl ?_
 have cq := exr (inO (some mm.o)) hP
 have hpin : PIn w (inP p L R B mm) p L R B mm := PIn.self
 have jj := pkl q
 have jk := pkb hok
 have jl := ha.1
 have jm := ha.2
 have dx := hok.ar.ok.lens (a).toNat (by omega)
 have hopl := (xA hok.ar.opts (show (a).toNat < q.ns.length by omega)).1
 have hopr := (xA hok.ar.opts (show (a).toNat < q.ns.length by omega)).2
 have hnp := num_pool hok ha hc
 have hsl := pd_l hok ha
 have hsr := pd_r hok ha
 have hslr := pd_lr hok ha
 have hsnn := pd_nn hok ha
 obtain ⟨xs, hxs⟩ : ∃ l, l = (q.ns.getD (a).toNat default).l := ⟨_, rfl⟩
 obtain ⟨ys, hys⟩ : ∃ l, l = (q.ns.getD (a).toNat default).r := ⟨_, rfl⟩
 rw [← hxs] at dx hopl hnp hsl hsr hslr hsnn
 rw [← hys] at dx hopr hnp hsl hsr hslr hsnn
 refine zB (zC ?_)
 refine qI rfl (yM [(vJ 0), (vJ 0)] zr28 rfl cq.pins (fun b3 w4 gp gq dz d0 => ?_))
 have d1 := cq.step dz d0
 have gr := hpk.below d0 dz
 have am := hpk.new (x := (some b3)) (fun k hk => by rw [(congrArg some gp)] at hk; cases hk; exact Nat.le_refl _)
 have a1 : w.heap.size ≤ b3 := by have := cq.size; omega
 refine qM (.bool false) ?_
 refine qe (zA (zB (zB (zC ?_))))
 refine qM (vP p) ?_
 refine qM (vJ a) ?_
 refine qI rfl (zF (vs := [(vP p), (vJ a)]) Tryz.func52 nm52 rfl rfl rfl ?_)
 refine dY (eY d1.pins gr hok ha hc) ?_
 rintro _ bf ⟨g, d2, rfl, a9, a7, ay, d, d3⟩
 refine ⟨_, rfl, ?_⟩
 have ba := d1.trans d3 (fun i hi => yV i hi)
 have d4 := gq.extS d3 (xO (NP.ho am))
 have jo := ay.len
 have jp := pkl g
 have jq := pkb a7
 have jr := congrArg List.length d.1
 refine qD rfl (xR rfl) (qe (zA ?_))
 refine qY rfl rfl (fun cr => ?_) (fun cr => ?_)
 refine wp_skip (zA (zB ?_))
 have hnd : NumD (pd q a) := decP_true.1 cr
 have hni := hnp.1 hnd
 have js := hni.1
 have hnll : (g.ns.getD (a).toNat default).l.length = xs.length := by rw [d.1, hxs]
 have hnlr : (g.ns.getD (a).toNat default).r.length = ys.length := by rw [d.1, hys]
 have gs := Gadd.pins ba.pins L
 have gt := Gadd.pins ba.pins R
 have gu := a9.ol.read
 have gv := a9.rr.read
 refine yZ (S := fun wz => BxR wz p [L, R, B, (.map (some mm.f)), (.map (some mm.o)), (.map (some mm.c)), (.map (some mm.s)), (.map (some mm.n))] ∧ Pins (Gadd d2 bf L) wz ∧ Pins (Gadd d2 bf R) wz) (last := 16) (by kernel_rfl) rfl ?_
 have bb := bdr bf
 have d5 := ba.pins.below bb
 have an := ba.step d5 bb
 have bz := d4.below bb
 have aa := a9.below bb d5
 have ak := gs.below bb
 have al := gt.below bb
 refine dT (i := 0) rfl rfl (by kernel_rfl) (fun _ _ => zR (v := (vP p)) rfl) ⟨aa.bx.reads, ak, al⟩ ?_
 refine dT (i := 1) rfl rfl (by kernel_rfl) (fun _ _ => yU rfl) ⟨aa.bx.reads, ak, al⟩ ?_
 refine dT (i := 2) rfl rfl (by kernel_rfl) (fun _ _ => zK (k := 0) rfl dH rfl nz49 rfl) ⟨aa.bx.reads, ak, al⟩ ?_
 refine dT (i := 3) rfl rfl (by kernel_rfl) (fun _ hS => zL (u := L) ag49 rfl (hS.1 0 _ rfl)) ⟨aa.bx.reads, ak, al⟩ ?_
 refine dT (i := 4) rfl rfl (by kernel_rfl) (fun _ _ => zR (v := (vJ a)) rfl) ⟨aa.bx.reads, ak, al⟩ ?_
 refine dT (i := 5) rfl rfl (by kernel_rfl) (fun _ _ => zJ dK sz48 (v := L) rfl rfl gu (by omega) (by omega)) ⟨aa.bx.reads, ak, al⟩ ?_
 obtain ⟨ao, ct, gw⟩ := vM (a9.ol.at (z := a) (by omega) (by omega)) (j := (a).toNat) rfl
 rw [jM] at ct
 have jt := ct.max
 refine dT (i := 6) rfl rfl (by kernel_rfl) (fun _ hS => gw ag48 rfl hS.2.1) ⟨aa.bx.reads, ak, al⟩ ?_
 refine dT (i := 7) rfl rfl (by kernel_rfl) (fun _ _ => zR (v := (vP p)) rfl) ⟨aa.bx.reads, ak, al⟩ ?_
 refine dT (i := 8) rfl rfl (by kernel_rfl) (fun _ _ => yU rfl) ⟨aa.bx.reads, ak, al⟩ ?_
 refine dT (i := 9) rfl rfl (by kernel_rfl) (fun _ _ => zK (k := 1) rfl dH rfl nz49 rfl) ⟨aa.bx.reads, ak, al⟩ ?_
 refine dT (i := 10) rfl rfl (by kernel_rfl) (fun _ hS => zL (u := R) ag49 rfl (hS.1 1 _ rfl)) ⟨aa.bx.reads, ak, al⟩ ?_
 refine dT (i := 11) rfl rfl (by kernel_rfl) (fun _ _ => zR (v := (vJ a)) rfl) ⟨aa.bx.reads, ak, al⟩ ?_
 refine dT (i := 12) rfl rfl (by kernel_rfl) (fun _ _ => zJ dK sz48 (v := R) rfl rfl gv (by omega) (by omega)) ⟨aa.bx.reads, ak, al⟩ ?_
 obtain ⟨ap, cu, gx⟩ := vM (a9.rr.at (z := a) (by omega) (by omega)) (j := (a).toNat) rfl
 rw [jL] at cu
 have ju := cu.max
 refine dT (i := 13) rfl rfl (by kernel_rfl) (fun _ hS => gx ag48 rfl hS.2.2) ⟨aa.bx.reads, ak, al⟩ ?_
 refine dT (i := 14) rfl rfl (by kernel_rfl) (fun _ _ => qU (v := ao) rfl) ⟨aa.bx.reads, ak, al⟩ ?_
 refine dT (i := 15) rfl rfl (by kernel_rfl) (fun _ _ => qU (v := ap) rfl) ⟨aa.bx.reads, ak, al⟩ ?_
 refine yP (by kernel_rfl) (zA (zB ?_))
 refine zW (zB (zC ?_))
 have a4 := ct
 rw [d.1, ← hxs] at a4
 have a5 := cu
 rw [d.1, ← hys] at a5
 refine qM ao ?_
 refine qD rfl (zP dB (v := ao) rfl a4) (qD rfl (xU rfl rfl) (qM (.bool (decide (((xs.length : Int) : Int) = 0))) ?_))
 refine qbd (p := ((xs.length : Int) : Int) = 0) (t := 39) rfl (fun cv => ?_) (fun cv => ?_)
 refine qN (zR (v := ap) rfl) ?_
 refine qN (zP dB (v := ap) rfl a5) ?_
 refine qN (xU rfl rfl) ?_
 refine qD rfl (yR (v := (.bool (decide (((ys.length : Int) : Int) = 0)))) rfl rfl) (qM (.bool (decide (((ys.length : Int) : Int) = 0))) ?_)
 refine qe (zA ?_)
 refine yC (p := ((ys.length : Int) : Int) = 0) rfl rfl (fun d6 => ?_) (fun d6 => ?_)
 refine zB (zC ?_)
 refine qD rfl (xB [(vJ 0), (vJ 0)] [(vJ 0), (vJ 0)] [] dD zr28 rfl pl28 rfl (fun _ h => by cases h) rfl) (q0 rfl rfl rfl (o_stp (cs' := [(vJ 0), (vJ 0)]) (us := [(vJ 0), (vJ 0)]) (v := (.agg [(vJ 0), (vJ 0)].toArray)) sz28 rfl rfl rfl (xG (by rfl) (by rfl)) an.pins bz (dZ rfl) rfl (fun jv gy d7 d8 jw => ?_)))
 have gz := an.write d7 d8 ((zY a1))
 have g0 := aa.kept d8 d7 am
 refine qM (.bool true) ?_
 refine qe (zA ?_)
 refine wp_ret (zO (xY (cs := [(vJ 0), (vJ 0)]) (v := (.bool true)) rfl rfl rfl rfl rfl ag28 sz28 (fun j u hj => by rw [Nat.zero_add]; exact gy.cell hj) ?_))
 obtain ⟨e3, e1, e2⟩ := v_nil
 rw [hsnn (by omega) (by omega), e1, e2, e3]
 exact ⟨g, _, rfl, g0, a7, ay, d, gz⟩
 refine zB (zC ?_)
 refine qM ap ?_
 refine qD rfl (zP dB (v := ap) rfl a5) (qD rfl (xU rfl rfl) (qM (.bool (decide (((ys.length : Int) : Int) = 0))) ?_))
 refine qe (zA ?_)
 refine yC (p := ((ys.length : Int) : Int) = 0) rfl rfl (fun h => absurd h d6) (fun _ => ?_)
 refine zB (zC ?_)
 refine qM ao ?_
 refine qD rfl (zP dB (v := ao) rfl a4) (qD rfl (xU rfl rfl) (qM (.bool (decide (((xs.length : Int) : Int) = 0))) ?_))
 refine qe (zA ?_)
 refine yC (p := ((xs.length : Int) : Int) = 0) rfl rfl (fun _ => ?_) (fun h => absurd cv h)
 refine zB (zC ?_)
 refine qM (vP p) ?_
 refine qM ap ?_
 refine qD rfl (zJ dB sz3 (v := ap) rfl rfl a5 (by omega) (by omega)) (qD rfl (zI (r := ys.getD 0 0) rfl ag3 (z := 0) rfl a5 an.pins (by omega) (by omega)) ?_)
 have d9 : ys.getD 0 0 ∈ ys := zZ (show 0 < ys.length by omega)
 have jx := hopr _ d9
 refine qI rfl (zF (vs := [(vP p), (vJ (ys.getD 0 0))]) Tryz.func23 nm23 rfl rfl rfl ?_)
 refine dY (ih an.pins aa a7 ⟨by omega, by rw [d.1]; omega⟩ (by rw [xS d]; exact hc.right ((kN hok ha).2 ⟨_, hys ▸ d9, rfl⟩)) (by omega)) ?_
 rintro _ jy ⟨a2, jz, b0, ea, b1, cw, cx, eb⟩
 obtain ⟨ag, b2⟩ : ∃ x : Int, x = vgT (pd g (ys.getD 0 0)) := ⟨_, rfl⟩
 rw [← b2] at b0
 obtain ⟨ah, b4⟩ : ∃ x : Int, x = vgP (pd g (ys.getD 0 0)) := ⟨_, rfl⟩
 rw [← b4] at b0
 obtain ⟨bg, bh⟩ : ∃ x : Bool, x = vgB (pd g (ys.getD 0 0)) := ⟨_, rfl⟩
 rw [← bh] at b0
 subst b0
 refine ⟨_, rfl, ?_⟩
 have cy := an.trans eb (fun i hi => yV i hi)
 have ec := bz.extS eb (xO (NP.ho am))
 have j0 := cw.len
 have j1 := pkl a2
 have j2 := pkb b1
 have j3 := congrArg List.length cx.1
 have cz : pd g (ys.getD 0 0) = pd q (ys.getD 0 0) := xS d
 rw [cz] at b2
 rw [cz] at b4
 rw [cz] at bh
 have g2 : bg = true → GoodD ag ah := fun h => by rw [b2, b4]; exact rO (by rw [← bh]; exact h)
 refine qM (.tuple #[(.agg [(vJ ag), (vJ ah)].toArray), (.bool bg)]) ?_
 refine qD rfl (zX (v := (.agg [(vJ ag), (vJ ah)].toArray)) rfl rfl) (qD rfl (zX (v := (.bool bg)) rfl rfl) (qI rfl (yM [(vJ 0), (vJ 0)] zr28 rfl cy.pins (fun ed j4 ee g3 ef c0 => ?_))))
 have eg := cy.step ef c0
 have g4 := ec.below c0
 have g5 := ea.below c0 ef
 have eh := zH (congrArg some ee) ec.lt
 have ei := ea.new (x := (some ed)) (fun k hk => by rw [(congrArg some ee)] at hk; cases hk; exact Nat.le_refl _)
 have ej : w.heap.size ≤ ed := by have := cy.size; omega
 refine q0 rfl rfl rfl (o_stp (cs' := [(vJ ag), (vJ ah)]) (us := [(vJ ag), (vJ ah)]) (v := (.agg [(vJ ag), (vJ ah)].toArray)) sz28 rfl rfl rfl (xG (by rfl) (by rfl)) eg.pins g3 (dZ rfl) rfl (fun j5 g6 ek c1 j6 => ?_))
 have g7 := eg.write ek c1 ((zY ej))
 have g8 := g4.keptA c1 eh.symm
 have g9 := g5.kept c1 ek ei
 obtain ⟨j7, hb, bi, hd, el⟩ := g6.shut g7 ej
 have em := g8.moreA el eh.symm
 have en := g9.more hb el ei
 refine qM (.bool bg) ?_
 refine qe (zA (zB (zB (zC ?_))))
 refine qM (.bool bg) ?_
 refine qD rfl (xR rfl) (qe (zA ?_))
 refine qY rfl rfl (fun b5 => ?_) (fun b5 => ?_)
 refine wp_skip (zA (zB (zC ?_)))
 refine qD rfl (zT (cs := [(vJ ag), (vJ ah)]) ag28 sz28 rfl (fun j u hj => bi.pins _ _ _ (hd _ _ (by simpa using hj)))) (qD rfl (xB [(vJ 0), (vJ 0)] [(vJ (-1)), (vJ 0)] [(0, (vJ (-1)), [(vJ (-1))]), (1, (vJ 0), [(vJ 0)])] dD zr28 rfl pl28 rfl (List.forall_mem_cons.2 ⟨rfl, (List.forall_mem_cons.2 ⟨rfl, (fun _ h => by cases h)⟩)⟩) rfl) (qI rfl (zF (vs := [(.agg [(vJ ag), (vJ ah)].toArray), (.agg [(vJ (-1)), (vJ 0)].toArray)]) Tryz.func53 nm53 rfl rfl rfl ?_)))
 refine dY (tG (t := ag) (z := ah) (s := (-1)) (y := 0) bi.pins (g2 b5) ⟨by decide, by decide, Or.inl rfl⟩) ?_
 rintro _ j8 ⟨j9, b6, c2⟩
 obtain ⟨bj, eo⟩ : ∃ x : Int, x = (lowR (decP (GoodD (lowD 16 (scI 16 ag ah + scI 16 (-1) 0)).1 (((lowD 16 (scI 16 ag ah + scI 16 (-1) 0)).2 : Nat) : Int))) (((lowD 16 (scI 16 ag ah + scI 16 (-1) 0)).2 : Nat) : Int)) := ⟨_, rfl⟩
 rw [← eo] at b6
 obtain ⟨bk, ep⟩ : ∃ x : Int, x = (lowR (decP (GoodD (lowD 16 (scI 16 ag ah + scI 16 (-1) 0)).1 (((lowD 16 (scI 16 ag ah + scI 16 (-1) 0)).2 : Nat) : Int))) (lowD 16 (scI 16 ag ah + scI 16 (-1) 0)).1) := ⟨_, rfl⟩
 rw [← ep] at b6
 obtain ⟨c3, eq⟩ : ∃ x : Bool, x = decP (GoodD (lowD 16 (scI 16 ag ah + scI 16 (-1) 0)).1 (((lowD 16 (scI 16 ag ah + scI 16 (-1) 0)).2 : Nat) : Int)) := ⟨_, rfl⟩
 rw [← eq] at b6
 subst b6
 refine ⟨_, rfl, ?_⟩
 have er := bi.tr c2
 have he := em.ext c2
 have hf := en.ext c2
 refine qD rfl (zX (v := (.agg [(vJ bk), (vJ bj)].toArray)) rfl rfl) (qD rfl (zX (v := (.bool c3)) rfl rfl) (q0 rfl rfl rfl (o_stp (cs' := [(vJ bk), (vJ bj)]) (us := [(vJ bk), (vJ bj)]) (v := (.agg [(vJ bk), (vJ bj)].toArray)) sz28 rfl rfl rfl (xG (by rfl) (by rfl)) er.pins he (dZ rfl) rfl (fun ka hg es et kb => ?_))))
 have hh := er.write es et ((zY a1))
 have hl := hf.kept et es am
 refine qM (.bool c3) ?_
 refine qe (zA ?_)
 refine wp_ret (zO (xY (cs := [(vJ bk), (vJ bj)]) (v := (.bool c3)) rfl rfl rfl rfl rfl ag28 sz28 (fun j u hj => by rw [Nat.zero_add]; exact hg.cell hj) ?_))
 have hsh := hsr (by omega) (by omega) (by omega)
 have ab := hnd
 rw [hsh] at ab
 have av := va_r (D := 16) ab (by rw [← bh]; exact b5)
 rw [hsh, av.t, av.p, av.b, ← b2, ← b4, ep, eo, eq]
 exact ⟨a2, _, rfl, hl, b1, (PX.trans ay cw), (zM d cx), hh⟩
 refine zB (zC ?_)
 refine qD rfl (xB [(vJ 0), (vJ 0)] [(vJ 0), (vJ 0)] [] dD zr28 rfl pl28 rfl (fun _ h => by cases h) rfl) (q0 rfl rfl rfl (o_stp (cs' := [(vJ 0), (vJ 0)]) (us := [(vJ 0), (vJ 0)]) (v := (.agg [(vJ 0), (vJ 0)].toArray)) sz28 rfl rfl rfl (xG (by rfl) (by rfl)) bi.pins em (dZ rfl) rfl (fun kc hn eu ev kd => ?_)))
 have hp := bi.write eu ev ((zY a1))
 have hq := en.kept ev eu am
 refine qM (.bool false) ?_
 refine qe (zA ?_)
 refine wp_ret (zO (xY (cs := [(vJ 0), (vJ 0)]) (v := (.bool false)) rfl rfl rfl rfl rfl ag28 sz28 (fun j u hj => by rw [Nat.zero_add]; exact hn.cell hj) ?_))
 have hsh := hsr (by omega) (by omega) (by omega)
 have ab := hnd
 rw [hsh] at ab
 have hvb : vgB (pd q a) = false := (by rw [hsh]; exact vr_no ab (by rw [← bh]; exact b5))
 obtain ⟨e1, e2⟩ := sA hvb
 rw [hvb, e1, e2]
 exact ⟨a2, _, rfl, hq, b1, (PX.trans ay cw), (zM d cx), hp⟩
 refine qW ?_
 refine qW ?_
 refine qW ?_
 refine qD rfl (yI (v := (.bool false)) rfl rfl) (qM (.bool false) ?_)
 refine qe (zA ?_)
 refine qP rfl rfl (zB (zC ?_))
 refine qM ap ?_
 refine qD rfl (zP dB (v := ap) rfl a5) (qD rfl (xU rfl rfl) (qM (.bool (decide (((ys.length : Int) : Int) = 0))) ?_))
 refine qe (zA ?_)
 refine yC (p := ((ys.length : Int) : Int) = 0) rfl rfl (fun hr => ?_) (fun hr => ?_)
 refine zB (zC ?_)
 refine qM (vP p) ?_
 refine qM ao ?_
 refine qD rfl (zJ dB sz3 (v := ao) rfl rfl a4 (by omega) (by omega)) (qD rfl (zI (r := xs.getD 0 0) rfl ag3 (z := 0) rfl a4 an.pins (by omega) (by omega)) ?_)
 have ew : xs.getD 0 0 ∈ xs := zZ (show 0 < xs.length by omega)
 have ke := hopl _ ew
 refine qI rfl (zF (vs := [(vP p), (vJ (xs.getD 0 0))]) Tryz.func23 nm23 rfl rfl rfl ?_)
 refine dY (ih an.pins aa a7 ⟨by omega, by rw [d.1]; omega⟩ (by rw [xS d]; exact hc.left ((kR hok ha).2 ⟨_, hxs ▸ ew, rfl⟩)) (by omega)) ?_
 rintro _ kf ⟨a3, kg, b7, ex, b8, c4, c5, ey⟩
 obtain ⟨ai, b9⟩ : ∃ x : Int, x = vgT (pd g (xs.getD 0 0)) := ⟨_, rfl⟩
 rw [← b9] at b7
 obtain ⟨aj, ca⟩ : ∃ x : Int, x = vgP (pd g (xs.getD 0 0)) := ⟨_, rfl⟩
 rw [← ca] at b7
 obtain ⟨bl, bm⟩ : ∃ x : Bool, x = vgB (pd g (xs.getD 0 0)) := ⟨_, rfl⟩
 rw [← bm] at b7
 subst b7
 refine ⟨_, rfl, ?_⟩
 have c6 := an.trans ey (fun i hi => yV i hi)
 have ez := bz.extS ey (xO (NP.ho am))
 have kh := c4.len
 have ki := pkl a3
 have kj := pkb b8
 have kk := congrArg List.length c5.1
 have c7 : pd g (xs.getD 0 0) = pd q (xs.getD 0 0) := xS d
 rw [c7] at b9
 rw [c7] at ca
 rw [c7] at bm
 have hs : bl = true → GoodD ai aj := fun h => by rw [b9, ca]; exact rO (by rw [← bm]; exact h)
 refine qM (.tuple #[(.agg [(vJ ai), (vJ aj)].toArray), (.bool bl)]) ?_
 refine qD rfl (zX (v := (.agg [(vJ ai), (vJ aj)].toArray)) rfl rfl) (qD rfl (zX (v := (.bool bl)) rfl rfl) (qI rfl (yM [(vJ 0), (vJ 0)] zr28 rfl c6.pins (fun e0 kl e4 ht e5 c8 => ?_))))
 have e6 := c6.step e5 c8
 have hu := ez.below c8
 have hv := ex.below c8 e5
 have e7 := zH (congrArg some e4) ez.lt
 have e8 := ex.new (x := (some e0)) (fun k hk => by rw [(congrArg some e4)] at hk; cases hk; exact Nat.le_refl _)
 have e9 : w.heap.size ≤ e0 := by have := c6.size; omega
 refine q0 rfl rfl rfl (o_stp (cs' := [(vJ ai), (vJ aj)]) (us := [(vJ ai), (vJ aj)]) (v := (.agg [(vJ ai), (vJ aj)].toArray)) sz28 rfl rfl rfl (xG (by rfl) (by rfl)) e6.pins ht (dZ rfl) rfl (fun km hw fa c9 kn => ?_))
 have hx := e6.write fa c9 ((zY e9))
 have hy := hu.keptA c9 e7.symm
 have hz := hv.kept c9 fa e8
 obtain ⟨ko, h0, bn, h1, fb⟩ := hw.shut hx e9
 have fc := hy.moreA fb e7.symm
 have fd := hz.more h0 fb e8
 refine qM (.bool bl) ?_
 refine qe (zA (zB (zB (zC ?_))))
 refine qM (.bool bl) ?_
 refine qD rfl (xR rfl) (qe (zA ?_))
 refine qY rfl rfl (fun cb => ?_) (fun cb => ?_)
 refine wp_skip (zA (zB (zC ?_)))
 refine qD rfl (zT (cs := [(vJ ai), (vJ aj)]) ag28 sz28 rfl (fun j u hj => bn.pins _ _ _ (h1 _ _ (by simpa using hj)))) (qD rfl (xB [(vJ 0), (vJ 0)] [(vJ 1), (vJ 0)] [(0, (vJ 1), [(vJ 1)]), (1, (vJ 0), [(vJ 0)])] dD zr28 rfl pl28 rfl (List.forall_mem_cons.2 ⟨rfl, (List.forall_mem_cons.2 ⟨rfl, (fun _ h => by cases h)⟩)⟩) rfl) (qI rfl (zF (vs := [(.agg [(vJ ai), (vJ aj)].toArray), (.agg [(vJ 1), (vJ 0)].toArray)]) Tryz.func53 nm53 rfl rfl rfl ?_)))
 refine dY (tG (t := ai) (z := aj) (s := 1) (y := 0) bn.pins (hs cb) ⟨by decide, by decide, Or.inl rfl⟩) ?_
 rintro _ kp ⟨kq, cc, da⟩
 obtain ⟨bo, fe⟩ : ∃ x : Int, x = (lowR (decP (GoodD (lowD 16 (scI 16 ai aj + scI 16 1 0)).1 (((lowD 16 (scI 16 ai aj + scI 16 1 0)).2 : Nat) : Int))) (((lowD 16 (scI 16 ai aj + scI 16 1 0)).2 : Nat) : Int)) := ⟨_, rfl⟩
 rw [← fe] at cc
 obtain ⟨bp, ff⟩ : ∃ x : Int, x = (lowR (decP (GoodD (lowD 16 (scI 16 ai aj + scI 16 1 0)).1 (((lowD 16 (scI 16 ai aj + scI 16 1 0)).2 : Nat) : Int))) (lowD 16 (scI 16 ai aj + scI 16 1 0)).1) := ⟨_, rfl⟩
 rw [← ff] at cc
 obtain ⟨db, fg⟩ : ∃ x : Bool, x = decP (GoodD (lowD 16 (scI 16 ai aj + scI 16 1 0)).1 (((lowD 16 (scI 16 ai aj + scI 16 1 0)).2 : Nat) : Int)) := ⟨_, rfl⟩
 rw [← fg] at cc
 subst cc
 refine ⟨_, rfl, ?_⟩
 have fh := bn.tr da
 have h2 := fc.ext da
 have h3 := fd.ext da
 refine qD rfl (zX (v := (.agg [(vJ bp), (vJ bo)].toArray)) rfl rfl) (qD rfl (zX (v := (.bool db)) rfl rfl) (q0 rfl rfl rfl (o_stp (cs' := [(vJ bp), (vJ bo)]) (us := [(vJ bp), (vJ bo)]) (v := (.agg [(vJ bp), (vJ bo)].toArray)) sz28 rfl rfl rfl (xG (by rfl) (by rfl)) fh.pins h2 (dZ rfl) rfl (fun kr h4 fi fj ks => ?_))))
 have h5 := fh.write fi fj ((zY a1))
 have h6 := h3.kept fj fi am
 refine qM (.bool db) ?_
 refine qe (zA ?_)
 refine wp_ret (zO (xY (cs := [(vJ bp), (vJ bo)]) (v := (.bool db)) rfl rfl rfl rfl rfl ag28 sz28 (fun j u hj => by rw [Nat.zero_add]; exact h4.cell hj) ?_))
 have hsh := hsl (by omega) (by omega) (by omega)
 have ab := hnd
 rw [hsh] at ab
 have av := va_l (D := 16) ab (by rw [← bm]; exact cb)
 rw [hsh, av.t, av.p, av.b, ← b9, ← ca, ff, fe, fg]
 exact ⟨a3, _, rfl, h6, b8, (PX.trans ay c4), (zM d c5), h5⟩
 refine zB (zC ?_)
 refine qD rfl (xB [(vJ 0), (vJ 0)] [(vJ 0), (vJ 0)] [] dD zr28 rfl pl28 rfl (fun _ h => by cases h) rfl) (q0 rfl rfl rfl (o_stp (cs' := [(vJ 0), (vJ 0)]) (us := [(vJ 0), (vJ 0)]) (v := (.agg [(vJ 0), (vJ 0)].toArray)) sz28 rfl rfl rfl (xG (by rfl) (by rfl)) bn.pins fc (dZ rfl) rfl (fun kt h7 fk fl ku => ?_)))
 have h8 := bn.write fk fl ((zY a1))
 have h9 := fd.kept fl fk am
 refine qM (.bool false) ?_
 refine qe (zA ?_)
 refine wp_ret (zO (xY (cs := [(vJ 0), (vJ 0)]) (v := (.bool false)) rfl rfl rfl rfl rfl ag28 sz28 (fun j u hj => by rw [Nat.zero_add]; exact h7.cell hj) ?_))
 have hsh := hsl (by omega) (by omega) (by omega)
 have ab := hnd
 rw [hsh] at ab
 have hvb : vgB (pd q a) = false := (by rw [hsh]; exact vl_no ab (by rw [← bm]; exact cb))
 obtain ⟨e1, e2⟩ := sA hvb
 rw [hvb, e1, e2]
 exact ⟨a3, _, rfl, h9, b8, (PX.trans ay c4), (zM d c5), h8⟩
 refine zB (zC ?_)
 refine qM ao ?_
 refine qD rfl (zP dB (v := ao) rfl a4) (qD rfl (xU rfl rfl) (qM (.bool (decide (((xs.length : Int) : Int) = 0))) ?_))
 refine qe (zA ?_)
 refine yC (p := ((xs.length : Int) : Int) = 0) rfl rfl (fun h => absurd h cv) (fun _ => ?_)
 refine wp_skip (yA (zA (zB (zC ?_))))
 refine qM (vP p) ?_
 refine qM ao ?_
 refine qD rfl (zJ dB sz3 (v := ao) rfl rfl a4 (by omega) (by omega)) (qD rfl (zI (r := xs.getD 0 0) rfl ag3 (z := 0) rfl a4 an.pins (by omega) (by omega)) ?_)
 have fm : xs.getD 0 0 ∈ xs := zZ (show 0 < xs.length by omega)
 have kv := hopl _ fm
 refine qI rfl (zF (vs := [(vP p), (vJ (xs.getD 0 0))]) Tryz.func23 nm23 rfl rfl rfl ?_)
 refine dY (ih an.pins aa a7 ⟨by omega, by rw [d.1]; omega⟩ (by rw [xS d]; exact hc.left ((kR hok ha).2 ⟨_, hxs ▸ fm, rfl⟩)) (by omega)) ?_
 rintro _ kw ⟨aw, kx, cd, fn, dc, ce, a8, dd⟩
 obtain ⟨ac, cf⟩ : ∃ x : Int, x = vgT (pd g (xs.getD 0 0)) := ⟨_, rfl⟩
 rw [← cf] at cd
 obtain ⟨ad, cg⟩ : ∃ x : Int, x = vgP (pd g (xs.getD 0 0)) := ⟨_, rfl⟩
 rw [← cg] at cd
 obtain ⟨bc, bq⟩ : ∃ x : Bool, x = vgB (pd g (xs.getD 0 0)) := ⟨_, rfl⟩
 rw [← bq] at cd
 subst cd
 refine ⟨_, rfl, ?_⟩
 have de := an.trans dd (fun i hi => yV i hi)
 have fo := bz.extS dd (xO (NP.ho am))
 have ky := ce.len
 have kz := pkl aw
 have k0 := pkb dc
 have k1 := congrArg List.length a8.1
 have df : pd g (xs.getD 0 0) = pd q (xs.getD 0 0) := xS d
 rw [df] at cf
 rw [df] at cg
 rw [df] at bq
 have ia : bc = true → GoodD ac ad := fun h => by rw [cf, cg]; exact rO (by rw [← bq]; exact h)
 refine qM (.tuple #[(.agg [(vJ ac), (vJ ad)].toArray), (.bool bc)]) ?_
 refine qD rfl (zX (v := (.agg [(vJ ac), (vJ ad)].toArray)) rfl rfl) (qD rfl (zX (v := (.bool bc)) rfl rfl) (qI rfl (yM [(vJ 0), (vJ 0)] zr28 rfl de.pins (fun fp k2 fq ib fr dg => ?_))))
 have fs := de.step fr dg
 have ic := fo.below dg
 have ie := fn.below dg fr
 have ft := zH (congrArg some fq) fo.lt
 have fu := fn.new (x := (some fp)) (fun k hk => by rw [(congrArg some fq)] at hk; cases hk; exact Nat.le_refl _)
 have fv : w.heap.size ≤ fp := by have := de.size; omega
 refine q0 rfl rfl rfl (o_stp (cs' := [(vJ ac), (vJ ad)]) (us := [(vJ ac), (vJ ad)]) (v := (.agg [(vJ ac), (vJ ad)].toArray)) sz28 rfl rfl rfl (xG (by rfl) (by rfl)) fs.pins ib (dZ rfl) rfl (fun k3 ig fw dh k4 => ?_))
 have ii := fs.write fw dh ((zY fv))
 have ij := ic.keptA dh ft.symm
 have ik := ie.kept dh fw fu
 obtain ⟨k5, fx, di, il, fy⟩ := ig.shut ii fv
 have im := ij.moreA fy ft.symm
 have io := ik.more fx fy fu
 refine qM (.bool bc) ?_
 refine qe (zA (zB (zC ?_)))
 refine qM (vP p) ?_
 refine qM ap ?_
 refine qD rfl (zJ dB sz3 (v := ap) rfl rfl a5 (by omega) (by omega)) (qD rfl (zI (r := ys.getD 0 0) rfl ag3 (z := 0) rfl a5 (dX di.pins (dW dd.le fx)) (by omega) (by omega)) ?_)
 have fz : ys.getD 0 0 ∈ ys := zZ (show 0 < ys.length by omega)
 have k6 := hopr _ fz
 refine qI rfl (zF (vs := [(vP p), (vJ (ys.getD 0 0))]) Tryz.func23 nm23 rfl rfl rfl ?_)
 refine dY (ih di.pins io dc ⟨by omega, by rw [(zM d a8).1]; omega⟩ (by rw [xS (zM d a8)]; exact hc.right ((kN hok ha).2 ⟨_, hys ▸ fz, rfl⟩)) (by omega)) ?_
 rintro _ k7 ⟨az, k8, ch, f0, br, ci, cj, dj⟩
 obtain ⟨ae, ck⟩ : ∃ x : Int, x = vgT (pd aw (ys.getD 0 0)) := ⟨_, rfl⟩
 rw [← ck] at ch
 obtain ⟨af, cl⟩ : ∃ x : Int, x = vgP (pd aw (ys.getD 0 0)) := ⟨_, rfl⟩
 rw [← cl] at ch
 obtain ⟨bd, bt⟩ : ∃ x : Bool, x = vgB (pd aw (ys.getD 0 0)) := ⟨_, rfl⟩
 rw [← bt] at ch
 subst ch
 refine ⟨_, rfl, ?_⟩
 have dk := di.trans dj (fun i hi => yV i hi)
 have f1 := im.extS dj (xO (NP.ho am))
 have k9 := ci.len
 have la := pkl az
 have lb := pkb br
 have lc := congrArg List.length cj.1
 have dl : pd aw (ys.getD 0 0) = pd q (ys.getD 0 0) := xS (zM d a8)
 rw [dl] at ck
 rw [dl] at cl
 rw [dl] at bt
 have ip : bd = true → GoodD ae af := fun h => by rw [ck, cl]; exact rO (by rw [← bt]; exact h)
 refine qM (.tuple #[(.agg [(vJ ae), (vJ af)].toArray), (.bool bd)]) ?_
 refine qD rfl (zX (v := (.agg [(vJ ae), (vJ af)].toArray)) rfl rfl) (qD rfl (zX (v := (.bool bd)) rfl rfl) (qI rfl (yM [(vJ 0), (vJ 0)] zr28 rfl dk.pins (fun f2 ld f3 iq f4 dm => ?_))))
 have f5 := dk.step f4 dm
 have ir := f1.below dm
 have it := f0.below dm f4
 have f6 := zH (congrArg some f3) f1.lt
 have f7 := f0.new (x := (some f2)) (fun k hk => by rw [(congrArg some f3)] at hk; cases hk; exact Nat.le_refl _)
 have f8 : w.heap.size ≤ f2 := by have := dk.size; omega
 refine q0 rfl rfl rfl (o_stp (cs' := [(vJ ae), (vJ af)]) (us := [(vJ ae), (vJ af)]) (v := (.agg [(vJ ae), (vJ af)].toArray)) sz28 rfl rfl rfl (xG (by rfl) (by rfl)) f5.pins iq (dZ rfl) rfl (fun dn iu f9 dp lf => ?_))
 have iv := f5.write f9 dp ((zY f8))
 have iw := ir.keptA dp f6.symm
 have ix := it.kept dp f9 f7
 obtain ⟨iy, ga, be, iz, gb⟩ := iu.shut iv f8
 have dq := iw.moreA gb f6.symm
 have dr := ix.more ga gb f7
 refine qM (.bool bd) ?_
 refine qe (zA (zB (zB (zC ?_))))
 refine qM (.bool bc) ?_
 refine qD rfl (xR rfl) (qM (.bool (!bc)) ?_)
 refine qbn (t := 103) rfl (fun ds => ?_) (fun ds => ?_)
 refine qN (zR (v := (.bool bd)) rfl) ?_
 refine qN (xR rfl) ?_
 refine qD rfl (yI (v := (.bool (!bd))) rfl rfl) (qe (zA ?_))
 refine qY rfl rfl (fun dt => ?_) (fun dt => ?_)
 refine wp_skip (zA (zB ?_))
 have hvl := ds
 have hvr := dt
 have hgl := ia hvl
 have hgr := ip hvr
 have hglt := hgl.top
 have hglp := hgl.pow
 have hgrt := hgr.top
 have hgrp := hgr.pow
 have hglm := tI (D := 16) (t := ac) (z := ad) (by omega) (by omega)
 have hgrm := tI (D := 16) (t := ae) (z := af) (by omega) (by omega)
 refine yZ (S := fun wz => Pins iy wz) (last := 10) (by kernel_rfl) rfl ?_
 have cm := bdr dn
 have gc := be.pins.below cm
 have cn := be.step gc cm
 have i0 := dq.below cm
 have i1 := dr.below cm gc
 refine dT (i := 0) rfl rfl (by kernel_rfl) (fun _ hS => zT (cs := [(vJ ac), (vJ ad)]) ag28 sz28 rfl (fun j u hj => (dX hS (dW dj.le ga)) _ _ _ (il _ _ (by simpa using hj)))) cn.pins ?_
 refine dT (i := 2) rfl rfl (by kernel_rfl) (fun _ hS => zT (cs := [(vJ ae), (vJ af)]) ag28 sz28 rfl (fun j u hj => hS _ _ _ (iz _ _ (by simpa using hj)))) cn.pins ?_
 refine dO (i := 1) (zS (i := 1) rfl rfl rfl (zD rfl _) (zF (vs := [(.agg [(vJ ac), (vJ ad)].toArray)]) Tryz.func55 nm55 rfl rfl rfl ?_))
 refine dY (fB (t := ac) (z := ad) cn.pins (by omega) (by omega)) ?_
 rintro _ lg ⟨lh, rfl, ax⟩
 refine ⟨_, rfl, ?_⟩
 have du := cn.tr ax
 have i2 := i0.ext ax
 have i3 := i1.ext ax
 refine ⟨fun _ => (dX du.pins ax.le), ?_⟩
 refine dO (i := 3) (zS (i := 3) rfl rfl rfl (zD rfl _) (zF (vs := [(.agg [(vJ ae), (vJ af)].toArray)]) Tryz.func55 nm55 rfl rfl rfl ?_))
 refine dY (fB (t := ae) (z := af) du.pins (by omega) (by omega)) ?_
 rintro _ li ⟨lj, rfl, a0⟩
 refine ⟨_, rfl, ?_⟩
 have co := du.tr a0
 have i4 := i2.ext a0
 have i5 := i3.ext a0
 refine ⟨fun _ => (dX co.pins (dW ax.le a0.le)), ?_⟩
 refine dT (i := 4) rfl rfl (by kernel_rfl) (fun _ _ => yJ rfl rfl (by omega)) (dX co.pins (dW ax.le a0.le)) ?_
 refine dO (i := 5) (zS (i := 5) rfl rfl rfl (zD rfl _) (zF (vs := [(vJ ((scI 16 ac ad) + (scI 16 ae af))), (vJ 17)]) Tryz.func54 nm54 rfl rfl rfl ?_))
 refine dY (gZ (t := (scI 16 ac ad) + (scI 16 ae af)) (p := 17) co.pins (by omega) (by omega)) ?_
 rintro _ lk ⟨ll, cp, a6⟩
 obtain ⟨bu, gd⟩ : ∃ x : Int, x = (lowR (decP (GoodD (lowD 17 ((scI 16 ac ad) + (scI 16 ae af))).1 (((lowD 17 ((scI 16 ac ad) + (scI 16 ae af))).2 : Nat) : Int))) (((lowD 17 ((scI 16 ac ad) + (scI 16 ae af))).2 : Nat) : Int)) := ⟨_, rfl⟩
 rw [← gd] at cp
 obtain ⟨bv, ge⟩ : ∃ x : Int, x = (lowR (decP (GoodD (lowD 17 ((scI 16 ac ad) + (scI 16 ae af))).1 (((lowD 17 ((scI 16 ac ad) + (scI 16 ae af))).2 : Nat) : Int))) (lowD 17 ((scI 16 ac ad) + (scI 16 ae af))).1) := ⟨_, rfl⟩
 rw [← ge] at cp
 obtain ⟨dv, gf⟩ : ∃ x : Bool, x = decP (GoodD (lowD 17 ((scI 16 ac ad) + (scI 16 ae af))).1 (((lowD 17 ((scI 16 ac ad) + (scI 16 ae af))).2 : Nat) : Int)) := ⟨_, rfl⟩
 rw [← gf] at cp
 subst cp
 refine ⟨_, rfl, ?_⟩
 have bw := co.tr a6
 have i6 := i4.ext a6
 have i7 := i5.ext a6
 refine ⟨fun _ => (dX bw.pins (dW (dW ax.le a0.le) a6.le)), ?_⟩
 refine dT (i := 6) rfl rfl (by kernel_rfl) (fun _ _ => zX (v := (.agg [(vJ bv), (vJ bu)].toArray)) rfl rfl) (dX bw.pins (dW (dW ax.le a0.le) a6.le)) ?_
 refine dT (i := 7) rfl rfl (by kernel_rfl) (fun _ _ => zX (v := (.bool dv)) rfl rfl) (dX bw.pins (dW (dW ax.le a0.le) a6.le)) ?_
 refine dO (i := 8) (jB (i := 8) rfl rfl rfl (zD rfl _) (o_stp (cs' := [(vJ bv), (vJ bu)]) (us := [(vJ bv), (vJ bu)]) (v := (.agg [(vJ bv), (vJ bu)].toArray)) sz28 rfl rfl rfl (xG (by rfl) (by rfl)) bw.pins i6 (dZ rfl) rfl (fun lm i8 gg gh ln => ?_)))
 have dw := bw.write gg gh ((zY a1))
 have i9 := i7.kept gh gg am
 refine ⟨fun _ => (dX dw.pins (dW (dW ax.le a0.le) a6.le)), ?_⟩
 refine dM 9 (.bool dv) (dX dw.pins (dW (dW ax.le a0.le) a6.le)) ?_
 refine yP (by kernel_rfl) (zA (wp_ret (zO (xY (cs := [(vJ bv), (vJ bu)]) (v := (.bool dv)) rfl rfl rfl rfl rfl ag28 sz28 (fun j u hj => by rw [Nat.zero_add]; exact i8.cell hj) ?_))))
 have hsh := hslr ⟨by omega, by omega⟩ (by omega) (by omega)
 have ab := hnd
 rw [hsh] at ab
 have av := va_lr ab (by rw [← bq]; exact hvl) (by rw [← bt]; exact hvr)
 rw [hsh, av.t, av.p, av.b, ← cf, ← cg, ← ck, ← cl, ge, gd, gf]
 exact ⟨az, _, rfl, i9, br, (PX.trans (PX.trans ay ce) ci), (zM (zM d a8) cj), dw⟩
 refine zB (zC ?_)
 refine qD rfl (xB [(vJ 0), (vJ 0)] [(vJ 0), (vJ 0)] [] dD zr28 rfl pl28 rfl (fun _ h => by cases h) rfl) (q0 rfl rfl rfl (o_stp (cs' := [(vJ 0), (vJ 0)]) (us := [(vJ 0), (vJ 0)]) (v := (.agg [(vJ 0), (vJ 0)].toArray)) sz28 rfl rfl rfl (xG (by rfl) (by rfl)) be.pins dq (dZ rfl) rfl (fun lo ja gi gj lp => ?_)))
 have jb := be.write gi gj ((zY a1))
 have jc := dr.kept gj gi am
 refine qM (.bool false) ?_
 refine qe (zA ?_)
 refine wp_ret (zO (xY (cs := [(vJ 0), (vJ 0)]) (v := (.bool false)) rfl rfl rfl rfl rfl ag28 sz28 (fun j u hj => by rw [Nat.zero_add]; exact ja.cell hj) ?_))
 have hsh := hslr ⟨by omega, by omega⟩ (by omega) (by omega)
 have ab := hnd
 rw [hsh] at ab
 have hvb : vgB (pd q a) = false := (by rw [hsh]; exact vb_no ab (Or.inr (by rw [← bt]; exact dt)))
 obtain ⟨e1, e2⟩ := sA hvb
 rw [hvb, e1, e2]
 exact ⟨az, _, rfl, jc, br, (PX.trans (PX.trans ay ce) ci), (zM (zM d a8) cj), jb⟩
 refine qW ?_
 refine qW ?_
 refine qD rfl (yR (v := (.bool true)) rfl rfl) (qe (zA ?_))
 refine jS rfl rfl (zB (zC ?_))
 refine qD rfl (xB [(vJ 0), (vJ 0)] [(vJ 0), (vJ 0)] [] dD zr28 rfl pl28 rfl (fun _ h => by cases h) rfl) (q0 rfl rfl rfl (o_stp (cs' := [(vJ 0), (vJ 0)]) (us := [(vJ 0), (vJ 0)]) (v := (.agg [(vJ 0), (vJ 0)].toArray)) sz28 rfl rfl rfl (xG (by rfl) (by rfl)) be.pins dq (dZ rfl) rfl (fun lq jd gk gl lr => ?_)))
 have je := be.write gk gl ((zY a1))
 have jf := dr.kept gl gk am
 refine qM (.bool false) ?_
 refine qe (zA ?_)
 refine wp_ret (zO (xY (cs := [(vJ 0), (vJ 0)]) (v := (.bool false)) rfl rfl rfl rfl rfl ag28 sz28 (fun j u hj => by rw [Nat.zero_add]; exact jd.cell hj) ?_))
 have hsh := hslr ⟨by omega, by omega⟩ (by omega) (by omega)
 have ab := hnd
 rw [hsh] at ab
 have hvb : vgB (pd q a) = false := (by rw [hsh]; exact vb_no ab (Or.inl (by rw [← bq]; exact ds)))
 obtain ⟨e1, e2⟩ := sA hvb
 rw [hvb, e1, e2]
 exact ⟨az, _, rfl, jf, br, (PX.trans (PX.trans ay ce) ci), (zM (zM d a8) cj), je⟩
 refine zB (zC ?_)
 refine qD rfl (xB [(vJ 0), (vJ 0)] [(vJ 0), (vJ 0)] [] dD zr28 rfl pl28 rfl (fun _ h => by cases h) rfl) (q0 rfl rfl rfl (o_stp (cs' := [(vJ 0), (vJ 0)]) (us := [(vJ 0), (vJ 0)]) (v := (.agg [(vJ 0), (vJ 0)].toArray)) sz28 rfl rfl rfl (xG (by rfl) (by rfl)) ba.pins d4 (dZ rfl) rfl (fun ls jg gm gn lu => ?_)))
 have jh := ba.write gm gn ((zY a1))
 have ji := a9.kept gn gm am
 refine qM (.bool false) ?_
 refine qe (zA ?_)
 refine wp_ret (zO (xY (cs := [(vJ 0), (vJ 0)]) (v := (.bool false)) rfl rfl rfl rfl rfl ag28 sz28 (fun j u hj => by rw [Nat.zero_add]; exact jg.cell hj) ?_))
 have hvb : vgB (pd q a) = false := vg_not (decP_false.1 cr)
 obtain ⟨e1, e2⟩ := sA hvb
 rw [hvb, e1, e2]
 exact ⟨g, _, rfl, ji, a7, ay, d, jh⟩
theorem val_all {p : Nat} {L R B : Value} {mm : PM} : ∀ m, ValP m p L R B mm
 | 0 => fun _ _ _ _ _ h => absurd h (Nat.not_lt_zero _)
 | m + 1 => fun hP hpk hok ha hc hm => valueOf_step hP hpk hok ha hc (val_all m) hm
theorem valueOf_spec {w : World} (hP : Pins G w) (hpk : Pk 48 3 G w p L R B mm q) (hok : PoolOk q) (ha : PlaceOk q a) (hc : CanonG (pd q a)) :
  Calls Tryz.prog 23 [(.pointer (some ⟨p, 0, none⟩)), (.int .i64 a)].toArray w fun e w' => ∃ (q' : PSt) (G' : Pin), e = .returned (.tuple #[.agg [.int .i64 (vgT (pd q a)), .int .i64 (vgP (pd q a))].toArray, .bool (vgB (pd q a))]) ∧ Pk 48 3 G' w' p L R B mm q' ∧ PoolOk q' ∧ PX q q' ∧ (q'.ns = q.ns ∧ q'.bs = q.bs) ∧ Ext (inO (some mm.o)) G w G' w' :=
 val_all _ hP hpk hok ha hc (Nat.lt_succ_self _)
end VA3
end Go.Proofs.YtjdchbdfohiaaaaGreatDoor
namespace Go.Proofs.YtjdchbdfohiaaaaGreatDoor
namespace VA4
open Go.RowKit Go.GL Go.Proofs
open B1 C1 D1 E1 K1 PO1 PL1 PA1 DI1 RI1 CN1 CN2 CN3 CN4 AS2 NU1 NU2 VA1 VA2 VA3
theorem pl28 : (Tryz.prog.underlying 28).bind (placesD Tryz.prog) = some [(0, 1), (1, 1)] := by kernel_rfl
variable {G : Pin} {v : Value} {fs : List Nd}
theorem kS {w : World} (hP : Pins G w) (hv : RSl eNode G v fs) :
  Calls Tryz.prog 9 [(.agg [v].toArray)].toArray w fun e w' => ∃ G', e = .returned (.tuple #[.agg [.int .i64 (nvT fs), .int .i64 (nvP fs)].toArray, .bool (nvB fs)]) ∧ Ext noS G w G' w' := by
 refine zU (n := 17) Tryz.func9 Tryz.ntmps9 rfl rfl ?_
 have z := exr noS hP
 refine zB (zC ?_)
 refine qI rfl (xH [v] (v := (.agg [v].toArray)) rfl rfl z.pins (fun b1 w2 b7 a8 a9 ba => ?_))
 have bb := z.step a9 ba
 have bc : w.heap.size ≤ b1 := by have := z.size; omega
 obtain ⟨G9, aq, aa, au, b9⟩ := a8.shut bb bc
 refine qI rfl (yM [(vJ 0), (vJ 0)] zr28 rfl aa.pins (fun ab ca cb bd be bf => ?_))
 have ac := aa.step be bf
 have av : w.heap.size ≤ ab := by have := aa.size; omega
 refine qM (.bool false) ?_
 refine qe (zA (zB (zB (zC ?_))))
 refine qD rfl (zT (cs := [v]) ag26 sz26 rfl (fun j u hj => ac.pins _ _ _ (au _ _ (by simpa using hj)))) (qI rfl (zF (vs := [(.agg [v].toArray)]) Tryz.func15 nm15 rfl rfl rfl ?_))
 refine dY (vX ac.pins (hv.mono aq)) ?_
 rintro _ cc ⟨cd, rfl, m⟩
 refine ⟨_, rfl, ?_⟩
 have k := ac.tr m
 have ad := bd.ext m
 refine qD rfl (xR rfl) (qe (zA ?_))
 refine qY rfl rfl (fun p => ?_) (fun p => ?_)
 refine wp_skip (zA (zB (zC ?_)))
 have hgb : goodB fs = true := p
 have hga : GoodP fs := goodB_true.1 hgb
 have hla := hga.lo
 have hha := hga.hi
 have hlb := nX hga
 refine qI rfl (zF (vs := []) Tryz.func16 nm16 rfl rfl rfl ?_)
 refine dY (rZ k.pins) ?_
 rintro _ bg ⟨f, s, bh, rfl, aw, ax, t⟩
 refine ⟨_, rfl, ?_⟩
 have y := k.tr t
 have ay := ad.ext t
 have bi := np_fresh ax (x := (some ab)) (tE ad)
 have bj : PIn w (noS) f vN vN vN s := PIn.fresh ax k.size
 obtain ⟨d, ae⟩ : ∃ q, q = (⟨[], [], [], [], [], [], []⟩ : PSt) := ⟨_, rfl⟩
 rw [← ae] at aw
 have af : PoolOk d := by rw [ae]; exact PoolOk.empty
 have hq36l : d.ns.length = 0 := by rw [ae]; rfl
 obtain ⟨ag, ah, ai, aj, ak, al⟩ : ∃ (l r b : Value), l = .slice none 0 0 ∧ r = .slice none 0 0 ∧ b = .slice none 0 0 := ⟨_, _, _, rfl, rfl, rfl⟩
 have bk : Pk 48 3 bh bg f ag ah ai s d := by rw [aj, ak, al]; exact aw
 have az : PIn w (noS) f ag ah ai s := by rw [aj, ak, al]; exact bj
 have ce := pkl d
 have cf := pkb af
 have hnp40x : NP f ag ah ai s (some ab) := by rw [aj, ak, al]; exact bi
 refine qM (vP f) ?_
 refine qe (zA (zB (zC ?_)))
 refine qM (vP f) ?_
 refine qM (vP f) ?_
 refine qD rfl (zT (cs := [v]) ag26 sz26 rfl (fun j u hj => (dX y.pins (dW m.le t.le)) _ _ _ (au _ _ (by simpa using hj)))) (qI rfl (zF (vs := [(vP f), (.agg [v].toArray)]) Tryz.func24 nm24 rfl rfl rfl ?_))
 refine dY (canonOf_spec y.pins bk af (hv.mono (dW (dW aq m.le) t.le)) (vF hga) (by omega) hla) ?_
 rintro _ cg ⟨c, ch, ci, cj, a, ck, rfl, bl, am, bm, a0, a1, bn, a2, bo, cl⟩
 refine ⟨_, rfl, ?_⟩
 have a3 := y.trans a1 az
 have bp := ay.extS a1 (NP.notb hnp40x)
 have bq := NP.call hnp40x a0 (tE ay)
 have br := PIn.call az a0 y.size
 have cm := bm.len
 have cn := pkl a
 have co := pkb am
 refine qI rfl (zF (vs := [(vP f), (vJ c)]) Tryz.func23 nm23 rfl rfl rfl ?_)
 refine dY (valueOf_spec a3.pins bl am bn a2) ?_
 rintro _ cp ⟨g, cq, rfl, cr, a4, bt, bu, a5⟩
 refine ⟨_, rfl, ?_⟩
 have a6 := a3.trans a5 (fun i hi => (PIn.o br) i hi)
 have bv := bp.extS a5 (xO (NP.ho bq))
 have ct := bt.len
 have cu := pkl g
 have cv := pkb a4
 have cw := congrArg List.length bu.1
 refine qD rfl (zX (v := (.agg [(vJ (vgT (pd a c))), (vJ (vgP (pd a c)))].toArray)) rfl rfl) (qD rfl (zX (v := (.bool (vgB (pd a c)))) rfl rfl) (q0 rfl rfl rfl (o_stp (cs' := [(vJ (vgT (pd a c))), (vJ (vgP (pd a c)))]) (us := [(vJ (vgT (pd a c))), (vJ (vgP (pd a c)))]) (v := (.agg [(vJ (vgT (pd a c))), (vJ (vgP (pd a c)))].toArray)) sz28 rfl rfl rfl (xG (by rfl) (by rfl)) a6.pins bv (dZ rfl) rfl (fun cx bw bx bz cy => ?_))))
 have b0 := a6.write bx bz ((zY av))
 refine qM (.bool (vgB (pd a c))) ?_
 refine qe (zA ?_)
 refine wp_ret (zO (xY (cs := [(vJ (vgT (pd a c))), (vJ (vgP (pd a c)))]) (v := (.bool (vgB (pd a c)))) rfl rfl rfl rfl rfl ag28 sz28 (fun j u hj => by rw [Nat.zero_add]; exact bw.cell hj) ?_))
 obtain ⟨e3, e1, e2⟩ := nv_good p a2 bo
 rw [e1, e2, e3]
 exact ⟨_, rfl, b0⟩
 refine zB (zC ?_)
 refine qD rfl (xB [(vJ 0), (vJ 0)] [(vJ 0), (vJ 0)] [] dD zr28 rfl pl28 rfl (fun _ h => by cases h) rfl) (q0 rfl rfl rfl (o_stp (cs' := [(vJ 0), (vJ 0)]) (us := [(vJ 0), (vJ 0)]) (v := (.agg [(vJ 0), (vJ 0)].toArray)) sz28 rfl rfl rfl (xG (by rfl) (by rfl)) k.pins ad (dZ rfl) rfl (fun cz b2 b3 b4 c0 => ?_)))
 have b5 := k.write b3 b4 ((zY av))
 refine qM (.bool false) ?_
 refine qe (zA ?_)
 refine wp_ret (zO (xY (cs := [(vJ 0), (vJ 0)]) (v := (.bool false)) rfl rfl rfl rfl rfl ag28 sz28 (fun j u hj => by rw [Nat.zero_add]; exact b2.cell hj) ?_))
 obtain ⟨e3, e1, e2⟩ := nv_bad p
 rw [e1, e2, e3]
 exact ⟨_, rfl, b5⟩
theorem mE {w : World} (hP : Pins G w) (hv : RSl eNode G v fs) :
  Calls Tryz.prog 8 [(.agg [v].toArray)].toArray w fun e w' => ∃ G', e = .returned (.tuple #[.agg [.int .i64 (nvT fs), .int .i64 (nvP fs)].toArray, .bool (nvB fs)]) ∧ Ext noS G w G' w' := by
 refine zU (n := 8) Tryz.func8 Tryz.ntmps8 rfl rfl ?_
 have a := exr noS hP
 refine zB (zC ?_)
 refine qI rfl (xH [v] (v := (.agg [v].toArray)) rfl rfl a.pins (fun g w2 ae h i k => ?_))
 have l := a.step i k
 have m : w.heap.size ≤ g := by have := a.size; omega
 obtain ⟨G9, o, b, p, ag⟩ := h.shut l m
 refine qI rfl (yM [(.int .i64 0), (.int .i64 0)] zr28 rfl b.pins (fun q ah ai r s t => ?_))
 have c := b.step s t
 have x : w.heap.size ≤ q := by have := b.size; omega
 refine qM (.bool false) ?_
 refine qe (zA (zB (zC ?_)))
 refine qD rfl (zT (cs := [v]) ag26 sz26 rfl (fun j u hj => c.pins _ _ _ (p _ _ (by simpa using hj)))) (qI rfl (zF (vs := [(.agg [v].toArray)]) Tryz.func9 nm9 rfl rfl rfl ?_))
 refine dY (kS c.pins (hv.mono o)) ?_
 rintro _ aj ⟨ak, rfl, d⟩
 refine ⟨_, rfl, ?_⟩
 have f := c.tr d
 have y := r.ext d
 refine qD rfl (zX (v := (.agg [(.int .i64 (nvT fs)), (.int .i64 (nvP fs))].toArray)) rfl rfl) (qD rfl (zX (v := (.bool (nvB fs))) rfl rfl) (q0 rfl rfl rfl (o_stp (cs' := [(.int .i64 (nvT fs)), (.int .i64 (nvP fs))]) (us := [(.int .i64 (nvT fs)), (.int .i64 (nvP fs))]) (v := (.agg [(.int .i64 (nvT fs)), (.int .i64 (nvP fs))].toArray)) sz28 rfl rfl rfl (xG (by rfl) (by rfl)) f.pins y (dZ rfl) rfl (fun al z aa ab am => ?_))))
 have ac := f.write aa ab ((zY x))
 refine qM (.bool (nvB fs)) ?_
 refine qe (zA ?_)
 exact wp_ret (zO (xY (cs := [(.int .i64 (nvT fs)), (.int .i64 (nvP fs))]) (v := (.bool (nvB fs))) rfl rfl rfl rfl rfl ag28 sz28 (fun j u hj => by rw [Nat.zero_add]; exact z.cell hj) (⟨_, rfl, ac⟩)))
theorem eZ {w : World} (hP : Pins G w) (hv : RSl eNode G v fs) :
  Calls Tryz.prog 10 [(.agg [v].toArray)].toArray w fun e w' => ∃ G', e = .returned (.tuple #[.bool (nvB fs && decide (nvP fs = 0)), .bool (goodB fs)]) ∧ Ext noS G w G' w' := by
 refine zU (n := 19) Tryz.func10 Tryz.ntmps10 rfl rfl ?_
 have l := exr noS hP
 refine zB (zC ?_)
 refine qI rfl (xH [v] (v := (.agg [v].toArray)) rfl rfl l.pins (fun b1 w2 av ac ad ae => ?_))
 have af := l.step ad ae
 have ag : w.heap.size ≤ b1 := by have := l.size; omega
 obtain ⟨G9, m, o, p, ax⟩ := ac.shut af ag
 refine qM (.bool false) ?_
 refine qM (.bool false) ?_
 refine qe (zA (zB (zC ?_)))
 refine qD rfl (zT (cs := [v]) ag26 sz26 rfl (fun j u hj => o.pins _ _ _ (p _ _ (by simpa using hj)))) (qI rfl (zF (vs := [(.agg [v].toArray)]) Tryz.func9 nm9 rfl rfl rfl ?_))
 refine dY (kS o.pins (hv.mono m)) ?_
 rintro _ ay ⟨az, rfl, b⟩
 refine ⟨_, rfl, ?_⟩
 have q := o.tr b
 refine qM (.tuple #[(.agg [(vJ (nvT fs)), (vJ (nvP fs))].toArray), (.bool (nvB fs))]) ?_
 refine qD rfl (zX (v := (.agg [(vJ (nvT fs)), (vJ (nvP fs))].toArray)) rfl rfl) (qD rfl (zX (v := (.bool (nvB fs))) rfl rfl) (qI rfl (yM [(vJ 0), (vJ 0)] zr28 rfl q.pins (fun ah a0 a1 ai aj ak => ?_))))
 have x := q.step aj ak
 have y : w.heap.size ≤ ah := by have := q.size; omega
 refine q0 rfl rfl rfl (o_stp (cs' := [(vJ (nvT fs)), (vJ (nvP fs))]) (us := [(vJ (nvT fs)), (vJ (nvP fs))]) (v := (.agg [(vJ (nvT fs)), (vJ (nvP fs))].toArray)) sz28 rfl rfl rfl (xG (by rfl) (by rfl)) x.pins ai (dZ rfl) rfl (fun r al am an a2 => ?_))
 have ao := x.write am an ((zY y))
 obtain ⟨ap, c, z, aq, a3⟩ := al.shut ao y
 refine qM (.bool (nvB fs)) ?_
 refine qe (zA (zB ?_))
 refine yZ (S := fun wz => Pins ap wz) (last := 10) (by kernel_rfl) rfl ?_
 have aa := bdr r
 have ar := z.pins.below aa
 have a := z.step ar aa
 refine dM 0 (.bool (nvB fs)) a.pins ?_
 refine dM 1 (.bool (nvB fs)) a.pins ?_
 refine drb (t := 12) rfl (fun s => ?_) (fun s => ?_)
 refine yY (i := 2) rfl rfl rfl (yQ rfl rfl rfl rfl) (by kernel_rfl) (fun _ _ => zK (k := 1) rfl dD rfl nz3 rfl) a.pins (yY (i := 3) rfl rfl rfl (yQ rfl rfl rfl rfl) (by kernel_rfl) (fun _ hS => zL (u := (vJ (nvP fs))) ag3 rfl (hS _ _ _ (aq 1 _ rfl))) a.pins (yY (i := 4) rfl rfl rfl (yQ rfl rfl rfl rfl) (by kernel_rfl) (fun _ _ => xU rfl rfl) a.pins (dT (i := 5) rfl rfl (by kernel_rfl) (fun _ _ => yR (v := (.bool (decide ((nvP fs : Int) = 0)))) rfl rfl) a.pins ?_)))
 refine dT (i := 6) rfl rfl (by kernel_rfl) (fun _ hS => zT (cs := [v]) ag26 sz26 rfl (fun j u hj => (dX hS (dW b.le c)) _ _ _ (p _ _ (by simpa using hj)))) a.pins ?_
 refine dO (i := 7) (zS (i := 7) rfl rfl rfl (zD rfl _) (zF (vs := [(.agg [v].toArray)]) Tryz.func15 nm15 rfl rfl rfl ?_))
 refine dY (vX a.pins (hv.mono (dW (dW m b.le) c))) ?_
 rintro _ a4 ⟨a5, rfl, d⟩
 refine ⟨_, rfl, ?_⟩
 have f := a.tr d
 refine ⟨fun _ => (dX f.pins d.le), ?_⟩
 refine dM 8 (.bool (decide ((nvP fs : Int) = 0))) (dX f.pins d.le) ?_
 refine dM 9 (.bool (goodB fs)) (dX f.pins d.le) ?_
 refine yP (by kernel_rfl) (zA (wp_ret (zO (jH (v := (.bool (decide ((nvP fs : Int) = 0)))) (u := (.bool (goodB fs))) rfl rfl rfl rfl rfl ?_))))
 have hwb : (nvB fs && decide (nvP fs = 0)) = (decide ((nvP fs : Int) = 0)) := by rw [s]; rfl
 rw [hwb]
 exact ⟨_, rfl, f⟩
 refine yL (i := 2) rfl rfl (yT rfl rfl rfl rfl rfl) (by kernel_rfl) a.pins (yL (i := 3) rfl rfl (yT rfl rfl rfl rfl rfl) (by kernel_rfl) a.pins (yL (i := 4) rfl rfl (yT rfl rfl rfl rfl rfl) (by kernel_rfl) a.pins (dT (i := 5) rfl rfl (by kernel_rfl) (fun _ _ => yI (v := (.bool false)) rfl rfl) a.pins ?_)))
 refine dT (i := 6) rfl rfl (by kernel_rfl) (fun _ hS => zT (cs := [v]) ag26 sz26 rfl (fun j u hj => (dX hS (dW b.le c)) _ _ _ (p _ _ (by simpa using hj)))) a.pins ?_
 refine dO (i := 7) (zS (i := 7) rfl rfl rfl (zD rfl _) (zF (vs := [(.agg [v].toArray)]) Tryz.func15 nm15 rfl rfl rfl ?_))
 refine dY (vX a.pins (hv.mono (dW (dW m b.le) c))) ?_
 rintro _ a6 ⟨a7, rfl, g⟩
 refine ⟨_, rfl, ?_⟩
 have h := a.tr g
 refine ⟨fun _ => (dX h.pins g.le), ?_⟩
 refine dM 8 (.bool false) (dX h.pins g.le) ?_
 refine dM 9 (.bool (goodB fs)) (dX h.pins g.le) ?_
 refine yP (by kernel_rfl) (zA (wp_ret (zO (jH (v := (.bool false)) (u := (.bool (goodB fs))) rfl rfl rfl rfl rfl ?_))))
 have hwb : (nvB fs && decide (nvP fs = 0)) = false := by rw [s]; rfl
 rw [hwb]
 exact ⟨_, rfl, h⟩
end VA4
end Go.Proofs.YtjdchbdfohiaaaaGreatDoor
namespace Go.Proofs.YtjdchbdfohiaaaaGreatDoor
namespace FI1
open Go.RowKit Go.GL Go.Proofs
open B1 C1 D1 E1 MK1 DR1 DR2 DV1 DV2 SM1 NU1 NU3 NB4 NB5 NB6
theorem pl42 : (Tryz.prog.underlying 42).bind (placesD Tryz.prog) = some [(0, 1), (1, 1), (2, 1)] := by kernel_rfl
variable {G : Pin} {cv v : Value} {code : List UInt8} {a : Int}
theorem dyadic_spec {w : World} {c : Nat} {s : Int} (hP : Pins G w) (hB : Bx G w c [cv, .int .i64 a, .int .u64 s]) (hc : RSl eByte G cv code) (ha : 0 ≤ a ∧ a + 6 ≤ 1000000) (hs : 0 ≤ s ∧ s < 18446744073709551616) :
  Calls Tryz.prog 14 [(vP c)].toArray w fun e w' => ∃ (t z : Int) (a' s' : Int) (G' : Pin), e = .returned (.agg [.int .i64 t, .int .i64 z].toArray) ∧ Bx G' w' c [cv, .int .i64 a', .int .u64 s'] ∧ (a ≤ a' ∧ a' ≤ a + 6) ∧ (0 ≤ s' ∧ s' < 18446744073709551616) ∧ Ext (inO (some c)) G w G' w' := by
 refine zU (n := 12) Tryz.func14 Tryz.ntmps14 rfl rfl ?_
 have f := exr (inO (some c)) hP
 have hm := hc.max
 refine zB (zC ?_)
 refine qI rfl (yM [(vJ 0), (vJ 0)] zr28 rfl f.pins (fun b1 w2 aj ak al o => ?_))
 have q := f.step al o
 have am := hB.below o
 have g := zH (congrArg some aj) hB.lt
 have an : w.heap.size ≤ b1 := by have := f.size; omega
 refine qe (zA (zB (zC ?_)))
 refine qM (vP c) ?_
 refine qI rfl (zF (vs := [(vP c), (vJ 41)]) Tryz.func29 nm29 rfl rfl rfl ?_)
 refine dY (jA q.pins am hc (by omega) (by omega) (n := 41) (by omega)) ?_
 rintro _ be ⟨b, bf, bg, rfl, bh, r, bi, bj, x⟩
 refine ⟨_, rfl, ?_⟩
 have h := q.trans x (fun i hi => yV i hi)
 have y := ak.extS x (xO g)
 refine qD rfl (qC rfl rfl (by omega)) (qM (vJ (b - 20)) ?_)
 refine qe (zA (zB (zC ?_)))
 refine qM (vJ (b - 20)) ?_
 refine qM (vP c) ?_
 refine qI rfl (yG (E := eInt) (e := 3) [(vJ 0), (vJ 0), (vJ 1), (vJ 2), (vJ 3), (vJ 5)] [0, 0, 1, 2, 3, 5] dB sz3 zr3 (kO (by rfl) (kO (by rfl) (kO (by rfl) (kO (by rfl) (kO (by rfl) (kO (by rfl) repsN)))))) (kQ (by rfl) (kQ (by rfl) (kQ (by rfl) (kQ (by rfl) (kQ (by rfl) (kQ (by rfl) onesN)))))) rfl rfl rfl rfl (by decide) h.pins (fun aa ao ap aq k ab => ?_))
 have ar := h.step aq k
 have au := r.below k
 have av := y.below k
 have aw := zH ab r.lt
 have ax := zH ab y.lt
 have ay := ap.weaken h.size
 obtain ⟨bk, az, ac, a0, ad⟩ := ay.sealed ar
 have a1 := au.moreO ad aw.symm
 have a2 := av.moreO ad ax.symm
 refine qI rfl (zF (vs := [(vP c), aa]) Tryz.func31 nm31 rfl rfl rfl ?_)
 refine dY (vT ac.pins a1 (hc.mono az) (by omega) (by omega) a0 (by simp)) ?_
 rintro _ bl ⟨l, bm, bn, rfl, a3, a4, bo, bp, ae⟩
 refine ⟨_, rfl, ?_⟩
 have af := ac.trans ae (fun i hi => yV i hi)
 have a5 := a2.extS ae (xO g)
 simp only [List.mem_cons, List.not_mem_nil, or_false] at a3
 obtain ⟨d, a6⟩ : ∃ n : Nat, (l) = (n : Int) := ⟨(l).toNat, by omega⟩
 have bq : d ≤ 64 := by omega
 refine qI rfl (zF (vs := [(vJ (b - 20)), (vJ l)]) Tryz.func30 nm30 rfl rfl rfl ?_)
 refine dY (by rw [a6]; exact kB (p := d) af.pins (by omega) (by omega)) ?_
 rintro _ br ⟨bs, rfl, m⟩
 refine ⟨_, rfl, ?_⟩
 have ag := af.tr m
 have a7 := a4.ext m
 have a8 := a5.ext m
 refine q0 rfl rfl rfl (o_stp (cs' := [(vJ ((lowD d (b - 20)).1)), (vJ (((lowD d (b - 20)).2 : Nat) : Int))]) (us := [(vJ ((lowD d (b - 20)).1)), (vJ (((lowD d (b - 20)).2 : Nat) : Int))]) (v := (.agg [(vJ ((lowD d (b - 20)).1)), (vJ (((lowD d (b - 20)).2 : Nat) : Int))].toArray)) sz28 rfl rfl rfl (xG (by rfl) (by rfl)) ag.pins a8 (dZ rfl) rfl (fun bt a9 ba ah bu => ?_))
 have bb := ag.write ba ah ((zY an))
 have bc := a7.keptA ah g.symm
 refine qe (zA ?_)
 exact wp_ret (zO (qE (cs := [(vJ ((lowD d (b - 20)).1)), (vJ (((lowD d (b - 20)).2 : Nat) : Int))]) rfl rfl rfl ag28 sz28 (fun j u hj => by rw [Nat.zero_add]; exact a9.cell hj) (⟨_, _, _, _, _, rfl, bc, (by omega), (by omega), bb⟩)))
theorem gU {w : World} {c : Nat} {s : Int} (hP : Pins G w) (hB : Bx G w c [cv, .int .i64 a, .int .u64 s]) (hc : RSl eByte G cv code) (ha : 0 ≤ a ∧ a + 10 ≤ 1000000) (hs : 0 ≤ s ∧ s < 18446744073709551616) :
  Calls Tryz.prog 27 [(vP c)].toArray w fun e w' => ∃ (u : Value) (ns : List Nd) (a' s' : Int) (G' : Pin), e = .returned (.agg [u].toArray) ∧ RSl eNode G' u ns ∧ Bx G' w' c [cv, .int .i64 a', .int .u64 s'] ∧ (a ≤ a' ∧ a' ≤ a + 10) ∧ (0 ≤ s' ∧ s' < 18446744073709551616) ∧ Ext (inO (some c)) G w G' w' := by
 refine zU (n := 25) Tryz.func27 Tryz.ntmps27 rfl rfl ?_
 have ax := exr (inO (some c)) hP
 have hm := hc.max
 refine zB (zC ?_)
 refine qI rfl (yM [vN] zr26 rfl ax.pins (fun b1 w2 c6 c7 c8 bk => ?_))
 have bl := ax.step c8 bk
 have c9 := hB.below bk
 have g := zH (congrArg some c6) hB.lt
 have ay : w.heap.size ≤ b1 := by have := ax.size; omega
 refine qe (zA (zB (zC ?_)))
 refine qM (vP c) ?_
 refine qI rfl (zF (vs := [(vP c), (vJ 17)]) Tryz.func29 nm29 rfl rfl rfl ?_)
 refine dY (jA bl.pins c9 hc (by omega) (by omega) (n := 17) (by omega)) ?_
 rintro _ f2 ⟨f, f3, f4, rfl, f5, bm, f6, f7, bn⟩
 refine ⟨_, rfl, ?_⟩
 have az := bl.trans bn (fun i hi => yV i hi)
 have bo := c7.extS bn (xO g)
 refine qD rfl (qC rfl rfl (by omega)) (qM (vP c) ?_)
 refine qI rfl (yG (E := eInt) (e := 3) [(vJ 0), (vJ 1), (vJ 2), (vJ 3)] [0, 1, 2, 3] dB sz3 zr3 (by exact reps4 (by rfl) (by rfl) (by rfl) (by rfl)) (ones4 (by rfl) (by rfl) (by rfl) (by rfl)) rfl rfl rfl rfl (by decide) az.pins (fun bp da db dc a0 bq => ?_))
 have dd := az.step dc a0
 have de := bm.below a0
 have df := bo.below a0
 have dg := zH bq bm.lt
 have dh := zH bq bo.lt
 have di := db.weaken az.size
 obtain ⟨f8, x, br, dj, bs⟩ := di.sealed dd
 have dk := de.moreO bs dg.symm
 have dl := df.moreO bs dh.symm
 refine qI rfl (zF (vs := [(vP c), bp]) Tryz.func31 nm31 rfl rfl rfl ?_)
 refine dY (vT br.pins dk (hc.mono x) (by omega) (by omega) dj (by simp)) ?_
 rintro _ f9 ⟨a1, ga, gb, rfl, dm, dn, gc, gd, bt⟩
 refine ⟨_, rfl, ?_⟩
 have bu := br.trans bt (fun i hi => yV i hi)
 have dp := dl.extS bt (xO g)
 simp only [List.mem_cons, List.not_mem_nil, or_false] at dm
 obtain ⟨b, dq⟩ : ∃ n : Nat, (a1) = (n : Int) := ⟨(a1).toNat, by omega⟩
 have ge : b ≤ 64 := by omega
 refine qI rfl (zF (vs := [(vJ (f - 8)), (vJ a1)]) Tryz.func30 nm30 rfl rfl rfl ?_)
 refine dY (by rw [dq]; exact kB (p := b) bu.pins (by omega) (by omega)) ?_
 rintro _ gf ⟨gg, rfl, m⟩
 refine ⟨_, rfl, ?_⟩
 have bv := bu.tr m
 have dr := dn.ext m
 have ds := dp.ext m
 refine qI rfl (zF (vs := [(.agg [(vJ ((lowD b (f - 8)).1)), (vJ (((lowD b (f - 8)).2 : Nat) : Int))].toArray)]) Tryz.func44 nm44 rfl rfl rfl ?_)
 refine dY (fE (t := (lowD b (f - 8)).1) (z := (((lowD b (f - 8)).2 : Nat) : Int)) bv.pins (tL (by omega) (by omega))) ?_
 rintro _ gh ⟨d, bw, rfl, ab, o⟩
 refine ⟨_, rfl, ?_⟩
 have a2 := bv.tr o
 have bx := dr.ext o
 have bz := ds.ext o
 refine qI rfl (yM [vN] zr26 rfl a2.pins (fun b0 gi b2 dt du a3 => ?_))
 have b3 := a2.step du a3
 have dv := bx.below a3
 have dw := bz.below a3
 have y := zH (congrArg some b2) bx.lt
 have dx := zH (congrArg some b2) bz.lt
 have dy : w.heap.size ≤ b0 := by have := a2.size; omega
 refine q0 rfl rfl rfl (o_stp (cs' := [d]) (us := [d]) (v := (.agg [d].toArray)) sz26 rfl rfl rfl (yO ab.one) b3.pins dt (dZ rfl) rfl (fun gj dz d0 a4 gk => ?_))
 have b4 := b3.write d0 a4 ((zY dy))
 have d1 := dv.keptA a4 y.symm
 have d2 := dw.keptA a4 dx.symm
 refine qe (zA (zB (zB (zC ?_))))
 refine qM (vP c) ?_
 refine qI rfl (zF (vs := [(vP c), (vJ 3)]) Tryz.func26 nm26 rfl rfl rfl ?_)
 refine dY (sM b4.pins d1 (hc.mono (dW (dW x m.le) o.le)) (by omega) (by omega) (n := 3) (by omega)) ?_
 rintro _ a5 ⟨gl, gm, gn, rfl, b5, gp, gq, a6⟩
 refine ⟨_, rfl, ?_⟩
 have ai := b4.trans a6 (fun i hi => yV i hi)
 have b6 := d2.extS a6 (xO g)
 have b7 := dz.extS a6 (xO y)
 refine qe (zA ?_)
 refine c_if rfl rfl (fun d3 => ?_) (fun d3 => ?_)
 refine zB (yZ (S := fun wz => BxR wz b0 [d]) (last := 10) (by kernel_rfl) rfl ?_)
 have ac := bdr a5
 have d4 := ai.pins.below ac
 have ad := ai.step d4 ac
 have a7 := b5.below ac
 have a8 := b6.below ac
 have aa := b7.below ac
 refine dT (i := 0) rfl rfl (by kernel_rfl) (fun _ hS => zT (cs := [d]) ag26 sz26 rfl (fun j u hj => hS _ _ (by simpa using hj))) aa.reads ?_
 refine dM 1 (vP c) aa.reads ?_
 refine dM 4 (vP c) aa.reads ?_
 refine jJ (i := 2) (j := 5) (by kernel_rfl) ?_ ?_
 refine (zS (i := 2) rfl rfl rfl (zD rfl _) (zF (vs := [(vP c), (vJ 5)]) Tryz.func29 nm29 rfl rfl rfl ?_))
 refine dY (jA ad.pins a7 (hc.mono (dW (dW x m.le) o.le)) (by omega) (by omega) (n := 5) (by omega)) ?_
 rintro _ gr ⟨q, gs, gt, rfl, gu, b8, gv, gw, a9⟩
 refine ⟨_, rfl, ?_⟩
 have ba := ad.trans a9 (fun i hi => yV i hi)
 have b9 := a8.extS a9 (xO g)
 have aj := aa.extS a9 (xO y)
 refine ⟨fun _ => aj.reads, ?_⟩
 refine dT (i := 3) rfl rfl (by kernel_rfl) (fun _ _ => qC rfl rfl (by omega)) aj.reads ?_
 refine dO (i := 5) (zS (i := 5) rfl rfl rfl (zD rfl _) (yG (E := eInt) (e := 3) [(vJ 0), (vJ 1)] [0, 1] dB sz3 zr3 (by exact reps2 (by rfl) (by rfl)) (xG (by rfl) (by rfl)) rfl rfl rfl rfl (by decide) ba.pins (fun ca d5 d6 d7 ak bb => ?_)))
 have d8 := ba.step d7 ak
 have d9 := b8.below ak
 have ea := b9.below ak
 have cb := aj.below ak
 have eb := zH bb b8.lt
 have ec := zH bb b9.lt
 have ed := zH bb aj.lt
 have ee := d6.weaken ba.size
 refine ⟨fun _ => cb.reads, ?_⟩
 obtain ⟨gx, cc, cd, ef, bc⟩ := ee.sealed d8
 have eg := d9.moreO bc eb.symm
 have eh := ea.moreO bc ec.symm
 have ei := cb.moreO bc ed.symm
 refine dO (i := 6) (zS (i := 6) rfl rfl rfl (zD rfl _) (zF (vs := [(vP c), ca]) Tryz.func31 nm31 rfl rfl rfl ?_))
 refine dY (vT cd.pins eg (hc.mono (dW (dW (dW x m.le) o.le) cc)) (by omega) (by omega) ef (by simp)) ?_
 rintro _ gy ⟨bd, gz, g0, rfl, ej, ek, g1, g2, be⟩
 refine ⟨_, rfl, ?_⟩
 have ce := cd.trans be (fun i hi => yV i hi)
 have el := eh.extS be (xO g)
 have cf := ei.extS be (xO y)
 simp only [List.mem_cons, List.not_mem_nil, or_false] at ej
 refine ⟨fun _ => cf.reads, ?_⟩
 obtain ⟨k, em⟩ : ∃ n : Nat, (bd) = (n : Int) := ⟨(bd).toNat, by omega⟩
 have g3 : k ≤ 64 := by omega
 refine dO (i := 7) (zS (i := 7) rfl rfl rfl (zD rfl _) (zF (vs := [(vJ (q - 2)), (vJ bd)]) Tryz.func30 nm30 rfl rfl rfl ?_))
 refine dY (by rw [em]; exact kB (p := k) ce.pins (by omega) (by omega)) ?_
 rintro _ g4 ⟨g5, rfl, ae⟩
 refine ⟨_, rfl, ?_⟩
 have cg := ce.tr ae
 have en := ek.ext ae
 have eo := el.ext ae
 have ch := cf.ext ae
 refine ⟨fun _ => ch.reads, ?_⟩
 refine dO (i := 8) (zS (i := 8) rfl rfl rfl (zD rfl _) (zF (vs := [(.agg [(vJ ((lowD k (q - 2)).1)), (vJ (((lowD k (q - 2)).2 : Nat) : Int))].toArray)]) Tryz.func44 nm44 rfl rfl rfl ?_))
 refine dY (fE (t := (lowD k (q - 2)).1) (z := (((lowD k (q - 2)).2 : Nat) : Int)) cg.pins (tL (by omega) (by omega))) ?_
 rintro _ g6 ⟨ep, g7, rfl, eq, af⟩
 refine ⟨_, rfl, ?_⟩
 have ci := cg.tr af
 have er := en.ext af
 have es := eo.ext af
 have cj := ch.ext af
 refine ⟨fun _ => cj.reads, ?_⟩
 have al := mC (n := b) (t := (f - 8)) (by omega) (by omega)
 have am := mC (n := k) (t := (q - 2)) (by omega) (by omega)
 have hprod : ((l7F ((((lowD b (f - 8)).2 : Nat) : Int)).toNat ((lowD b (f - 8)).1))).length * ((l7F ((((lowD k (q - 2)).2 : Nat) : Int)).toNat ((lowD k (q - 2)).1))).length ≤ 120 * 120 := Nat.mul_le_mul al.2.1 am.2.1
 refine dO (i := 9) (zS (i := 9) rfl rfl rfl (zD rfl _) (zF (vs := [(.agg [d].toArray), (.agg [ep].toArray)]) Tryz.func57 nm57 rfl rfl rfl ?_))
 refine dY (sW ci.pins (ab.mono (dW (dW cc ae.le) af.le)) eq al.1.1 am.1.1 ⟨al.1.2, am.1.2⟩ (by omega) al.2.2 am.2.2) ?_
 rintro _ g8 ⟨an, g9, rfl, ck, ao⟩
 refine ⟨_, rfl, ?_⟩
 have cl := ci.tr ao
 have et := er.ext ao
 have eu := es.ext ao
 have ev := cj.ext ao
 refine ⟨fun _ => ev.reads, ?_⟩
 refine dO (i := 10) (jB (i := 10) rfl rfl rfl (zD rfl _) (o_stp (cs' := [an]) (us := [an]) (v := (.agg [an].toArray)) sz26 rfl rfl rfl (yO ck.one) cl.pins eu (dZ rfl) rfl (fun hb ew ex cm hd => ?_)))
 have ey := cl.write ex cm ((zY ay))
 have ez := et.keptA cm g.symm
 refine ⟨fun h => absurd rfl h, ?_⟩
 exact yP (by kernel_rfl) (zA (wp_ret (zO (qE (cs := [an]) rfl rfl rfl ag26 sz26 (fun j u hj => by rw [Nat.zero_add]; exact ew.cell hj) (⟨_, _, _, _, _, rfl, ck, ez, (by omega), (by omega), ey⟩)))))
 refine (zS (i := 5) rfl rfl rfl (zD rfl _) (yG (E := eInt) (e := 3) [(vJ 0), (vJ 1)] [0, 1] dB sz3 zr3 (by exact reps2 (by rfl) (by rfl)) (xG (by rfl) (by rfl)) rfl rfl rfl rfl (by decide) ad.pins (fun cn e0 e1 e2 ap bf => ?_)))
 have co := ad.step e2 ap
 have e3 := a7.below ap
 have e4 := a8.below ap
 have cp := aa.below ap
 have cq := zH bf a7.lt
 have e5 := zH bf a8.lt
 have e6 := zH bf aa.lt
 have e7 := e1.weaken ad.size
 refine ⟨fun _ => cp.reads, ?_⟩
 refine dO (i := 2) (zS (i := 2) rfl rfl rfl (zD rfl _) (zF (vs := [(vP c), (vJ 5)]) Tryz.func29 nm29 rfl rfl rfl ?_))
 refine dY (jA co.pins e3 (hc.mono (dW (dW x m.le) o.le)) (by omega) (by omega) (n := 5) (by omega)) ?_
 rintro _ he ⟨r, hf, hg, rfl, hh, e8, hk, hl, aq⟩
 refine ⟨_, rfl, ?_⟩
 have e9 := co.trans aq (fun i hi => yV i hi)
 have fa := e7.extS aq (notO cq)
 have fb := e4.extS aq (xO g)
 have bg := cp.extS aq (xO y)
 refine ⟨fun _ => bg.reads, ?_⟩
 refine dT (i := 3) rfl rfl (by kernel_rfl) (fun _ _ => qC rfl rfl (by omega)) bg.reads ?_
 obtain ⟨hn, cr, ct, fc, bh⟩ := fa.sealed e9
 have fd := e8.moreO bh cq.symm
 have fe := fb.moreO bh e5.symm
 have ff := bg.moreO bh e6.symm
 refine dO (i := 6) (zS (i := 6) rfl rfl rfl (zD rfl _) (zF (vs := [(vP c), cn]) Tryz.func31 nm31 rfl rfl rfl ?_))
 refine dY (vT ct.pins fd (hc.mono (dW (dW (dW x m.le) o.le) cr)) (by omega) (by omega) fc (by simp)) ?_
 rintro _ ho ⟨bi, hp, hq, rfl, fg, fh, hr, ht, bj⟩
 refine ⟨_, rfl, ?_⟩
 have cu := ct.trans bj (fun i hi => yV i hi)
 have fi := fe.extS bj (xO g)
 have cw := ff.extS bj (xO y)
 simp only [List.mem_cons, List.not_mem_nil, or_false] at fg
 refine ⟨fun _ => cw.reads, ?_⟩
 obtain ⟨l, fj⟩ : ∃ n : Nat, (bi) = (n : Int) := ⟨(bi).toNat, by omega⟩
 have hu : l ≤ 64 := by omega
 refine dO (i := 7) (zS (i := 7) rfl rfl rfl (zD rfl _) (zF (vs := [(vJ (r - 2)), (vJ bi)]) Tryz.func30 nm30 rfl rfl rfl ?_))
 refine dY (by rw [fj]; exact kB (p := l) cu.pins (by omega) (by omega)) ?_
 rintro _ hv ⟨hw, rfl, ag⟩
 refine ⟨_, rfl, ?_⟩
 have cx := cu.tr ag
 have fk := fh.ext ag
 have fl := fi.ext ag
 have cy := cw.ext ag
 refine ⟨fun _ => cy.reads, ?_⟩
 refine dO (i := 8) (zS (i := 8) rfl rfl rfl (zD rfl _) (zF (vs := [(.agg [(vJ ((lowD l (r - 2)).1)), (vJ (((lowD l (r - 2)).2 : Nat) : Int))].toArray)]) Tryz.func44 nm44 rfl rfl rfl ?_))
 refine dY (fE (t := (lowD l (r - 2)).1) (z := (((lowD l (r - 2)).2 : Nat) : Int)) cx.pins (tL (by omega) (by omega))) ?_
 rintro _ hx ⟨fm, hy, rfl, fn, ah⟩
 refine ⟨_, rfl, ?_⟩
 have cz := cx.tr ah
 have fo := fk.ext ah
 have fp := fl.ext ah
 have c0 := cy.ext ah
 refine ⟨fun _ => c0.reads, ?_⟩
 have ar := mC (n := b) (t := (f - 8)) (by omega) (by omega)
 have au := mC (n := l) (t := (r - 2)) (by omega) (by omega)
 have hprod : ((l7F ((((lowD b (f - 8)).2 : Nat) : Int)).toNat ((lowD b (f - 8)).1))).length * ((l7F ((((lowD l (r - 2)).2 : Nat) : Int)).toNat ((lowD l (r - 2)).1))).length ≤ 120 * 120 := Nat.mul_le_mul ar.2.1 au.2.1
 refine dO (i := 9) (zS (i := 9) rfl rfl rfl (zD rfl _) (zF (vs := [(.agg [d].toArray), (.agg [fm].toArray)]) Tryz.func57 nm57 rfl rfl rfl ?_))
 refine dY (sW cz.pins (ab.mono (dW (dW cr ag.le) ah.le)) fn ar.1.1 au.1.1 ⟨ar.1.2, au.1.2⟩ (by omega) ar.2.2 au.2.2) ?_
 rintro _ hz ⟨av, h0, rfl, c1, aw⟩
 refine ⟨_, rfl, ?_⟩
 have c2 := cz.tr aw
 have fq := fo.ext aw
 have fr := fp.ext aw
 have fs := c0.ext aw
 refine ⟨fun _ => fs.reads, ?_⟩
 refine dO (i := 10) (jB (i := 10) rfl rfl rfl (zD rfl _) (o_stp (cs' := [av]) (us := [av]) (v := (.agg [av].toArray)) sz26 rfl rfl rfl (yO c1.one) c2.pins fr (dZ rfl) rfl (fun h1 ft fu c3 h2 => ?_)))
 have fv := c2.write fu c3 ((zY ay))
 have fw := fq.keptA c3 g.symm
 refine ⟨fun h => absurd rfl h, ?_⟩
 exact yP (by kernel_rfl) (zA (wp_ret (zO (qE (cs := [av]) rfl rfl rfl ag26 sz26 (fun j u hj => by rw [Nat.zero_add]; exact ft.cell hj) (⟨_, _, _, _, _, rfl, c1, fw, (by omega), (by omega), fv⟩)))))
 refine wp_skip (zA (zB (zC ?_)))
 refine qD rfl (zT (cs := [d]) ag26 sz26 rfl (fun j u hj => b7.cell (by simpa using hj))) (q0 rfl rfl rfl (o_stp (cs' := [d]) (us := [d]) (v := (.agg [d].toArray)) sz26 rfl rfl rfl (yO ab.one) ai.pins b6 (dZ rfl) rfl (fun h3 fx fy c4 h4 => ?_)))
 have fz := ai.write fy c4 ((zY ay))
 have f0 := b5.keptA c4 g.symm
 refine qe (zA ?_)
 exact wp_ret (zO (qE (cs := [d]) rfl rfl rfl ag26 sz26 (fun j u hj => by rw [Nat.zero_add]; exact fx.cell hj) (⟨_, _, _, _, _, rfl, ab, f0, (by omega), (by omega), fz⟩)))
theorem pK {w : World} (hP : Pins G w) (hc : RSl eByte G v code) :
  Calls Tryz.prog 13 [v].toArray w fun e w' => ∃ (p : Value) (ae : List Nd) (G' : Pin), e = .returned (.agg [p].toArray) ∧ RSl eNode G' p ae ∧ Ext noS G w G' w' := by
 refine zU (n := 13) Tryz.func13 Tryz.ntmps13 rfl rfl ?_
 have f := exr noS hP
 have hm := hc.max
 refine zB (zC ?_)
 refine qI rfl (yM [vN] zr26 rfl f.pins (fun b1 w2 a0 q ag ah => ?_))
 have g := f.step ag ah
 have r : w.heap.size ≤ b1 := by have := f.size; omega
 refine qe (zA (zB (zC ?_)))
 refine qM v ?_
 refine qD rfl (xB [vN, (vJ 0), (.int .u64 0)] [v, (vJ 0), (.int .u64 0)] [(0, v, [v])] dL zr42 rfl pl42 rfl (List.forall_mem_cons.2 ⟨(xM hc.one), (fun _ h => by cases h)⟩) rfl) (qI rfl (xH [v, (vJ 0), (.int .u64 0)] (v := (.agg [v, (vJ 0), (.int .u64 0)].toArray)) rfl rfl g.pins (fun a a1 ai aj ak s => ?_)))
 have t := g.step ak s
 have al := q.below s
 have k := zH (congrArg some ai) q.lt
 have l : w.heap.size ≤ a := by have := g.size; omega
 refine qM (vP a) ?_
 refine qe (zA (zB (zB (zC ?_))))
 refine qM (vP a) ?_
 refine qI rfl (zF (vs := [(vP a), (vJ 2)]) Tryz.func26 nm26 rfl rfl rfl ?_)
 refine dY (sM t.pins aj hc (by omega) (by omega) (n := 2) (by omega)) ?_
 rintro _ a2 ⟨a3, a4, a5, rfl, x, a6, a7, y⟩
 refine ⟨_, rfl, ?_⟩
 have b := t.trans y (fun i hi => (zY l) i hi)
 have z := al.extS y (xO k.symm)
 refine qe (zA ?_)
 refine c_if rfl rfl (fun am => ?_) (fun am => ?_)
 refine zB (zC ?_)
 refine qM (vP a) ?_
 refine qI rfl (zF (vs := [(vP a)]) Tryz.func27 nm27 rfl rfl rfl ?_)
 refine dY (gU b.pins x hc (by omega) (by omega)) ?_
 rintro _ a8 ⟨c, a9, ba, bb, bc, rfl, m, bd, be, bf, aa⟩
 refine ⟨_, rfl, ?_⟩
 have ab := b.trans aa (fun i hi => (zY l) i hi)
 have an := z.extS aa (xO k.symm)
 have bg := m.max
 refine q0 rfl rfl rfl (o_stp (cs' := [c]) (us := [c]) (v := (.agg [c].toArray)) sz26 rfl rfl rfl (yO m.one) ab.pins an (dZ rfl) rfl (fun bh ao ap aq bi => ?_))
 have ar := ab.write ap aq ((zY r))
 refine qe (zA ?_)
 exact wp_ret (zO (qE (cs := [c]) rfl rfl rfl ag26 sz26 (fun j u hj => by rw [Nat.zero_add]; exact ao.cell hj) (⟨_, _, _, rfl, m, ar⟩)))
 refine wp_skip (zA (zB (zC ?_)))
 refine qM (vP a) ?_
 refine qI rfl (zF (vs := [(vP a), (vJ 3)]) Tryz.func28 nm28 rfl rfl rfl ?_)
 refine dY (anyForm_spec (n := 3) b.pins x hc (by omega) (by omega) (by omega)) ?_
 rintro _ bj ⟨d, bk, bl, bm, bn, rfl, o, bo, bp, bq, ac⟩
 refine ⟨_, rfl, ?_⟩
 have ad := b.trans ac (fun i hi => (zY l) i hi)
 have au := z.extS ac (xO k.symm)
 have br := o.max
 refine q0 rfl rfl rfl (o_stp (cs' := [d]) (us := [d]) (v := (.agg [d].toArray)) sz26 rfl rfl rfl (yO o.one) ad.pins au (dZ rfl) rfl (fun bs av aw ax bt => ?_))
 have ay := ad.write aw ax ((zY r))
 refine qe (zA ?_)
 exact wp_ret (zO (qE (cs := [d]) rfl rfl rfl ag26 sz26 (fun j u hj => by rw [Nat.zero_add]; exact av.cell hj) (⟨_, _, _, rfl, o, ay⟩)))
theorem mR {w : World} (hP : Pins G w) (hc : RSl eByte G v code) :
  Calls Tryz.prog 5 [v].toArray w fun e w' => ∃ (u : Value) (ns : List Nd) (t z : Int) (G' : Pin), e = .returned (.tuple #[(.agg [u].toArray), (.agg [.int .i64 t, .int .i64 z].toArray)]) ∧ RSl eNode G' u ns ∧ Ext noS G w G' w' := by
 refine zU (n := 14) Tryz.func5 Tryz.ntmps5 rfl rfl ?_
 have p := exr noS hP
 have hm := hc.max
 refine zB (zC ?_)
 refine qI rfl (yM [vN] zr26 rfl p.pins (fun b1 w2 b7 ad a0 a1 => ?_))
 have q := p.step a0 a1
 have a2 : w.heap.size ≤ b1 := by have := p.size; omega
 refine qI rfl (yM [(vJ 0), (vJ 0)] zr28 rfl q.pins (fun b9 b8 a4 ae a5 af => ?_))
 have r := q.step a5 af
 have ag := ad.below af
 have ah := zH (congrArg some a4) ad.lt
 have a6 : w.heap.size ≤ b9 := by have := q.size; omega
 refine qe (zA (zB (zC ?_)))
 refine qM v ?_
 refine qD rfl (xB [vN, (vJ 0), (.int .u64 0)] [v, (vJ 0), (.int .u64 0)] [(0, v, [v])] dL zr42 rfl pl42 rfl (List.forall_mem_cons.2 ⟨(xM hc.one), (fun _ h => by cases h)⟩) rfl) (qI rfl (xH [v, (vJ 0), (.int .u64 0)] (v := (.agg [v, (vJ 0), (.int .u64 0)].toArray)) rfl rfl r.pins (fun f ca ai a7 a8 s => ?_)))
 have aj := r.step a8 s
 have a9 := ag.below s
 have ba := ae.below s
 have bb := zH (congrArg some ai) ag.lt
 have bc := zH (congrArg some ai) ae.lt
 have bd : w.heap.size ≤ f := by have := r.size; omega
 refine qM (vP f) ?_
 refine qe (zA (zB (zC ?_)))
 refine qM v ?_
 refine qI rfl (zF (vs := [v]) Tryz.func13 nm13 rfl rfl rfl ?_)
 refine dY (pK aj.pins hc) ?_
 rintro _ cb ⟨a, cc, cd, rfl, g, c⟩
 refine ⟨_, rfl, ?_⟩
 have x := aj.tr c
 have ak := a9.ext c
 have al := ba.ext c
 have am := a7.ext c
 have ce := g.max
 refine qI rfl (yM [vN] zr26 rfl x.pins (fun an cf y be bf k => ?_))
 have ao := x.step bf k
 have bg := ak.below k
 have bh := al.below k
 have bi := am.below k
 have ap := zH (congrArg some y) ak.lt
 have bj := zH (congrArg some y) al.lt
 have aq := zH (congrArg some y) am.lt
 have bk : w.heap.size ≤ an := by have := x.size; omega
 refine q0 rfl rfl rfl (o_stp (cs' := [a]) (us := [a]) (v := (.agg [a].toArray)) sz26 rfl rfl rfl (yO g.one) ao.pins be (dZ rfl) rfl (fun aa bl bm l cg => ?_))
 have ar := ao.write bm l ((zY bk))
 have bn := bg.keptA l ap.symm
 have bo := bh.keptA l bj.symm
 have bp := bi.keptA l aq.symm
 refine qe (zA (zB ?_))
 refine yZ (S := fun wz => BxR wz an [a]) (last := 4) (by kernel_rfl) rfl ?_
 have b := bdr aa
 have bq := ar.pins.below b
 have au := ar.step bq b
 have br := bn.below b
 have bs := bo.below b
 have bt := bp.below b
 have ab := bl.below b
 refine dT (i := 0) rfl rfl (by kernel_rfl) (fun _ hS => zT (cs := [a]) ag26 sz26 rfl (fun j u hj => hS _ _ (by simpa using hj))) ab.reads ?_
 refine dM 1 (vP f) ab.reads ?_
 refine dO (i := 2) (zS (i := 2) rfl rfl rfl (zD rfl _) (zF (vs := [(vP f)]) Tryz.func14 nm14 rfl rfl rfl ?_))
 refine dY (dyadic_spec au.pins bt (hc.mono c.le) (by omega) (by omega)) ?_
 rintro _ ch ⟨m, o, ci, cj, ck, rfl, cl, cm, cn, d⟩
 refine ⟨_, rfl, ?_⟩
 have av := au.trans d (fun i hi => (zY bd) i hi)
 have bu := br.extS d (xO bb.symm)
 have bv := bs.extS d (xO bc.symm)
 have aw := ab.extS d (xO aq)
 refine ⟨fun _ => aw.reads, ?_⟩
 refine dO (i := 3) (jB (i := 3) rfl rfl rfl (zD rfl _) (o_stp (cs' := [a]) (us := [a]) (v := (.agg [a].toArray)) sz26 rfl rfl rfl (yO g.one) av.pins bu (dZ rfl) rfl (fun co bw bx ac cp => ?_)))
 have ax := av.write bx ac ((zY a2))
 have bz := bv.keptA ac ah
 have b0 := aw.keptA ac ap
 refine ⟨fun _ => b0.reads, ?_⟩
 refine dO (i := 4) (jB (i := 4) rfl rfl rfl (zD rfl _) (o_stp (cs' := [(vJ m), (vJ o)]) (us := [(vJ m), (vJ o)]) (v := (.agg [(vJ m), (vJ o)].toArray)) sz28 rfl rfl rfl (xG (by rfl) (by rfl)) ax.pins bz (dZ rfl) rfl (fun cq b2 b3 ay cr => ?_)))
 have b4 := ax.write b3 ay ((zY a6))
 have b5 := bw.keptA ay ah.symm
 refine ⟨fun h => absurd rfl h, ?_⟩
 exact yP (by kernel_rfl) (zA (wp_ret (zO (c_retcd (cs := [a]) (ds := [(vJ m), (vJ o)]) rfl rfl rfl rfl rfl ag26 sz26 ag28 sz28 (fun j u hj => by rw [Nat.zero_add]; exact b5.cell hj) (fun j u hj => by rw [Nat.zero_add]; exact b2.cell hj) (⟨_, _, _, _, _, rfl, (g.mono d.le), b4⟩)))))
end FI1
end Go.Proofs.YtjdchbdfohiaaaaGreatDoor
namespace Go.Proofs.YtjdchbdfohiaaaaGreatDoor
namespace FI2
open Go.RowKit Go.GL Go.Proofs
open NU1
theorem jI {w : World} {G : Pin} {t z : Int} (hP : Pins G w) :
  Calls Tryz.prog 12 [(.agg [(vJ t), (vJ z)].toArray)].toArray w fun e w' => ∃ G', e = .returned (.tuple #[.int .i64 (bdI t z), .bool (decP (GoodD t z))]) ∧ Ext noS G w G' w' := by
 refine zU (n := 26) Tryz.func12 Tryz.ntmps12 rfl rfl ?_
 have g := exr noS hP
 refine zB (zC ?_)
 refine qI rfl (xH [(vJ t), (vJ z)] (v := (.agg [(vJ t), (vJ z)].toArray)) rfl rfl g.pins (fun q w2 ae r s x => ?_))
 have y := g.step s x
 have aa : w.heap.size ≤ q := by have := g.size; omega
 obtain ⟨G9, ag, h, d, ah⟩ := r.shut y aa
 refine qM (vJ 0) ?_
 refine qM (.bool false) ?_
 refine qe (zA (zB (zB (zC ?_))))
 refine qD rfl (zT (cs := [(vJ t), (vJ z)]) ag28 sz28 rfl (fun j u hj => h.pins _ _ _ (d _ _ (by simpa using hj)))) (qI rfl (zF (vs := [(.agg [(vJ t), (vJ z)].toArray)]) Tryz.func25 nm25 rfl rfl rfl ?_))
 refine dY (qQ (t := t) (z := z) h.pins) ?_
 rintro _ l ⟨ab, rfl, f⟩
 refine ⟨_, rfl, ?_⟩
 have c := h.tr f
 refine qD rfl (xR rfl) (qe (zA ?_))
 refine qY rfl rfl (fun b => ?_) (fun b => ?_)
 refine wp_skip (zA (zB (zC ?_)))
 have hgd : GoodD t z := decP_true.1 b
 have hgt := hgd.top
 have hgp := hgd.pow
 have hms := max_shrz (t := t) hgp
 have hmn : (0 : Int) ≤ ((t.natAbs / 2 ^ z.toNat : Nat) : Int) := Int.natCast_nonneg _
 have hmd : t.natAbs / 2 ^ z.toNat ≤ t.natAbs := Nat.div_le_self _ _
 refine qD rfl (zK (k := 0) rfl dD rfl nz3 rfl) (qD rfl (zL (u := (vJ t)) ag3 rfl ((dX c.pins f.le) _ _ _ (d 0 _ rfl))) (qD rfl (zK (k := 0) rfl dD rfl nz3 rfl) (qD rfl (zL (u := (vJ t)) ag3 rfl ((dX c.pins f.le) _ _ _ (d 0 _ rfl))) (qD rfl (r_neg rfl (by omega)) (qD rfl (r_max rfl rfl) (qM (vJ (max t (-t))) ?_))))))
 refine qe (zA (zB (zB (zC ?_))))
 refine qD rfl (zK (k := 1) rfl dD rfl nz3 rfl) (qD rfl (zL (u := (vJ z)) ag3 rfl ((dX c.pins f.le) _ _ _ (d 1 _ rfl))) (qD rfl (xU rfl rfl) (qe (zA ?_))))
 refine yC (p := (z : Int) = 0) rfl rfl (fun m => ?_) (fun m => ?_)
 refine zB (zC ?_)
 refine qM (vJ (max t (-t))) ?_
 refine qM (vJ (max t (-t))) ?_
 refine qM (.bool true) ?_
 refine qe (zA ?_)
 refine wp_ret (zO (jH (v := (vJ (max t (-t)))) (u := (.bool true)) rfl rfl rfl rfl rfl ?_))
 rw [bd_yes b, bd_int m, b]
 exact ⟨_, rfl, c⟩
 refine wp_skip (zA (zB ?_))
 refine yZ (S := fun wz => Pins ab wz) (last := 10) (by kernel_rfl) rfl ?_
 have o := bdr l
 have ac := c.pins.below o
 have a := c.step ac o
 refine dM 0 (vJ (max t (-t))) a.pins ?_
 refine dT (i := 1) rfl rfl (by kernel_rfl) (fun _ _ => zK (k := 1) rfl dD rfl nz3 rfl) a.pins ?_
 refine dT (i := 2) rfl rfl (by kernel_rfl) (fun _ hS => zL (u := (vJ z)) ag3 rfl ((dX hS f.le) _ _ _ (d 1 _ rfl))) a.pins ?_
 refine dT (i := 3) rfl rfl (by kernel_rfl) (fun _ _ => r_shrI rfl rfl (by omega)) a.pins ?_
 refine dT (i := 4) rfl rfl (by kernel_rfl) (fun _ _ => zK (k := 1) rfl dD rfl nz3 rfl) a.pins ?_
 refine dT (i := 5) rfl rfl (by kernel_rfl) (fun _ hS => zL (u := (vJ z)) ag3 rfl ((dX hS f.le) _ _ _ (d 1 _ rfl))) a.pins ?_
 refine dT (i := 6) rfl rfl (by kernel_rfl) (fun _ _ => yJ rfl rfl (by omega)) a.pins ?_
 refine dT (i := 7) rfl rfl (by kernel_rfl) (fun _ _ => yJ rfl rfl (by omega)) a.pins ?_
 refine dM 8 (vJ (((Int.fdiv (max t (-t)) (2 ^ (min (z : Int).toNat 64))) + z) + 1)) a.pins ?_
 refine dM 9 (.bool true) a.pins ?_
 refine yP (by kernel_rfl) (zA (wp_ret (zO (jH (v := (vJ (((Int.fdiv (max t (-t)) (2 ^ (min (z : Int).toNat 64))) + z) + 1))) (u := (.bool true)) rfl rfl rfl rfl rfl ?_))))
 rw [bd_yes b, bd_dy m hgp.1, ← hms, b]
 exact ⟨_, rfl, a⟩
 refine zB (zC ?_)
 refine qM (vJ 0) ?_
 refine qM (.bool false) ?_
 refine qe (zA ?_)
 refine wp_ret (zO (jH (v := (vJ 0)) (u := (.bool false)) rfl rfl rfl rfl rfl ?_))
 rw [bd_no b, b]
 exact ⟨_, rfl, c⟩
end FI2
end Go.Proofs.YtjdchbdfohiaaaaGreatDoor
namespace Go.Proofs.YtjdchbdfohiaaaaGreatDoor
namespace LFI
open Go.RowKit Go.GL Go.Proofs
open B1 C1 D1 E1 DR1 DR2 DV1 DV2 FT1 FT2 VA4 FI1 FI2
theorem eg28 : (Tryz.prog.eqGuardType Tryz.prog.depth 28) = false := by kernel_rfl
theorem pl28 : (Tryz.prog.underlying 28).bind (placesD Tryz.prog) = some [(0, 1), (1, 1)] := by kernel_rfl
theorem sh28 : (Tryz.prog.stoodInHeld 28) = false := by kernel_rfl
theorem law {w : World} {G : Pin} {v : Value} {code : List UInt8} (hP : Pins G w) (hc : RSl eByte G v code) :
  Calls Tryz.prog 3 [v].toArray w fun e w' => ∃ G', e = .returned (.bool true) ∧ Ext noS G w G' w' := by
 refine zU (n := 130) Tryz.func3 Tryz.ntmps3 rfl rfl ?_
 have a9 := exr noS hP
 have hm := hc.max
 refine zB (zC ?_)
 refine qM (.bool false) ?_
 refine qe (zA (zB (zB (zC ?_))))
 refine qM v ?_
 refine qI rfl (zF (vs := [v]) Tryz.func4 nm4 rfl rfl rfl ?_)
 refine dY (vBig_spec a9.pins hc) ?_
 rintro _ w1 ⟨rfl, ba⟩
 refine ⟨_, rfl, ?_⟩
 have ap := a9.step ba.pins ba.below
 refine qe (zA ?_)
 refine yC (p := ((65536 : Int) < (code.length : Int))) rfl rfl (fun h4 => ?_) (fun h4 => ?_)
 refine zB (zC ?_)
 refine qM (.bool true) ?_
 refine qe (zA ?_)
 exact wp_ret (zO (zQ (v := (.bool true)) rfl rfl rfl (⟨_, rfl, ap⟩)))
 refine wp_skip (zA (zB (zC ?_)))
 refine qM v ?_
 refine qI rfl (zF (vs := [v]) Tryz.func5 nm5 rfl rfl rfl ?_)
 refine dY (mR ap.pins hc) ?_
 rintro _ c1 ⟨d, a, b, c, G9, rfl, aa, bw⟩
 refine ⟨_, rfl, ?_⟩
 have aq := ap.tr bw
 have c3 := aa.max
 refine qM (.tuple #[(.agg [d].toArray), (.agg [(vJ b), (vJ c)].toArray)]) ?_
 refine qD rfl (zX (v := (.agg [d].toArray)) rfl rfl) (qD rfl (zX (v := (.agg [(vJ b), (vJ c)].toArray)) rfl rfl) (qI rfl (yM [vN] zr26 rfl aq.pins (fun bx c4 c5 bb bz b0 => ?_))))
 have ar := aq.step bz b0
 have bc : w.heap.size ≤ bx := by have := aq.size; omega
 refine qI rfl (yM [(vJ 0), (vJ 0)] zr28 rfl ar.pins (fun b1 c6 b2 b3 b4 bd => ?_))
 have be := ar.step b4 bd
 have b5 := bb.below bd
 have bf := zH (congrArg some b2) bb.lt
 have bg : w.heap.size ≤ b1 := by have := ar.size; omega
 refine q0 rfl rfl rfl (o_stp (cs' := [d]) (us := [d]) (v := (.agg [d].toArray)) sz26 rfl rfl rfl (yO aa.one) be.pins b5 (dZ rfl) rfl (fun c7 b6 b7 bh c8 => ?_))
 have b8 := be.write b7 bh ((zY bc))
 have b9 := b3.keptA bh bf
 obtain ⟨c9, ac, bi, ad, ca⟩ := b6.shut b8 bc
 have cb := b9.moreA ca bf
 refine q0 rfl rfl rfl (o_stp (cs' := [(vJ b), (vJ c)]) (us := [(vJ b), (vJ c)]) (v := (.agg [(vJ b), (vJ c)].toArray)) sz28 rfl rfl rfl (xG (by rfl) (by rfl)) bi.pins cb (dZ rfl) rfl (fun da cc cd ce db => ?_))
 have cf := bi.write cd ce ((zY bg))
 obtain ⟨dc, o, ai, ae, dd⟩ := cc.shut cf bg
 refine qe (zA (zB (zC ?_)))
 refine qD rfl (zT (cs := [d]) ag26 sz26 rfl (fun j u hj => (dX ai.pins o) _ _ _ (ad _ _ (by simpa using hj)))) (qD rfl (zT (cs := [(vJ b), (vJ c)]) ag28 sz28 rfl (fun j u hj => ai.pins _ _ _ (ae _ _ (by simpa using hj)))) (qI rfl (zF (vs := [(.agg [d].toArray), (.agg [(vJ b), (vJ c)].toArray)]) Tryz.func6 nm6 rfl rfl rfl ?_)))
 refine dY (vR (t := b) (z := c) ai.pins (aa.mono (dW ac o))) ?_
 rintro _ de ⟨df, rfl, m⟩
 refine ⟨_, rfl, ?_⟩
 have aj := ai.tr m
 refine qM (.tuple #[(.bool (ftV a b c)), (.bool (ftB a b c))]) ?_
 refine qD rfl (zX (v := (.bool (ftV a b c))) rfl rfl) (qD rfl (zX (v := (.bool (ftB a b c))) rfl rfl) (qM (.bool (ftV a b c)) ?_))
 refine qM (.bool (ftB a b c)) ?_
 refine qe (zA (zB (zB (zC ?_))))
 refine qD rfl (zT (cs := [d]) ag26 sz26 rfl (fun j u hj => (dX aj.pins (dW o m.le)) _ _ _ (ad _ _ (by simpa using hj)))) (qD rfl (zT (cs := [(vJ b), (vJ c)]) ag28 sz28 rfl (fun j u hj => (dX aj.pins m.le) _ _ _ (ae _ _ (by simpa using hj)))) (qI rfl (zF (vs := [(.agg [d].toArray), (.agg [(vJ b), (vJ c)].toArray)]) Tryz.func7 nm7 rfl rfl rfl ?_)))
 refine dY (nA (t := b) (z := c) aj.pins (aa.mono (dW (dW ac o) m.le))) ?_
 rintro _ dg ⟨dh, rfl, q⟩
 refine ⟨_, rfl, ?_⟩
 have au := aj.tr q
 refine qM (.tuple #[(.bool (ftV a b c)), (.bool (ftB a b c))]) ?_
 refine qD rfl (zX (v := (.bool (ftV a b c))) rfl rfl) (qD rfl (zX (v := (.bool (ftB a b c))) rfl rfl) (qM (.bool (ftV a b c)) ?_))
 refine qM (.bool (ftB a b c)) ?_
 refine qe (zA (zB (zC ?_)))
 refine qM (.bool (ftV a b c)) ?_
 refine qM (.bool (ftV a b c)) ?_
 refine qD rfl (fC dR rfl rfl) (qM (.bool false) ?_)
 refine qN (zR (v := (.bool (ftB a b c))) rfl) ?_
 refine qN (zR (v := (.bool (ftB a b c))) rfl) ?_
 refine qN (fC dR rfl rfl) ?_
 refine qD rfl (yI (v := (.bool false)) rfl rfl) (qe (zA ?_))
 refine qP rfl rfl (wp_skip (zA (zB (zC ?_))))
 refine qD rfl (zT (cs := [d]) ag26 sz26 rfl (fun j u hj => (dX au.pins (dW (dW o m.le) q.le)) _ _ _ (ad _ _ (by simpa using hj)))) (qI rfl (zF (vs := [(.agg [d].toArray)]) Tryz.func8 nm8 rfl rfl rfl ?_))
 refine dY (mE au.pins (aa.mono (dW (dW (dW ac o) m.le) q.le))) ?_
 rintro _ di ⟨dj, rfl, s⟩
 refine ⟨_, rfl, ?_⟩
 have av := au.tr s
 refine qM (.tuple #[(.agg [(vJ (nvT a)), (vJ (nvP a))].toArray), (.bool (nvB a))]) ?_
 refine qD rfl (zX (v := (.agg [(vJ (nvT a)), (vJ (nvP a))].toArray)) rfl rfl) (qD rfl (zX (v := (.bool (nvB a))) rfl rfl) (qI rfl (yM [(vJ 0), (vJ 0)] zr28 rfl av.pins (fun cg dk dl ch ci cj => ?_))))
 have bj := av.step ci cj
 have bk : w.heap.size ≤ cg := by have := av.size; omega
 refine q0 rfl rfl rfl (o_stp (cs' := [(vJ (nvT a)), (vJ (nvP a))]) (us := [(vJ (nvT a)), (vJ (nvP a))]) (v := (.agg [(vJ (nvT a)), (vJ (nvP a))].toArray)) sz28 rfl rfl rfl (xG (by rfl) (by rfl)) bj.pins ch (dZ rfl) rfl (fun dm ck cl cm dn => ?_))
 have cn := bj.write cl cm ((zY bk))
 obtain ⟨dp, x, aw, ab, dq⟩ := ck.shut cn bk
 refine qM (.bool (nvB a)) ?_
 refine qe (zA (zB (zC ?_)))
 refine qD rfl (zT (cs := [d]) ag26 sz26 rfl (fun j u hj => (dX aw.pins (dW (dW (dW (dW o m.le) q.le) s.le) x)) _ _ _ (ad _ _ (by simpa using hj)))) (qI rfl (zF (vs := [(.agg [d].toArray)]) Tryz.func9 nm9 rfl rfl rfl ?_))
 refine dY (kS aw.pins (aa.mono (dW (dW (dW (dW (dW ac o) m.le) q.le) s.le) x))) ?_
 rintro _ dr ⟨ds, rfl, f⟩
 refine ⟨_, rfl, ?_⟩
 have ax := aw.tr f
 refine qM (.tuple #[(.agg [(vJ (nvT a)), (vJ (nvP a))].toArray), (.bool (nvB a))]) ?_
 refine qD rfl (zX (v := (.agg [(vJ (nvT a)), (vJ (nvP a))].toArray)) rfl rfl) (qD rfl (zX (v := (.bool (nvB a))) rfl rfl) (qI rfl (yM [(vJ 0), (vJ 0)] zr28 rfl ax.pins (fun co dt du cp cq cr => ?_))))
 have bl := ax.step cq cr
 have bm : w.heap.size ≤ co := by have := ax.size; omega
 refine q0 rfl rfl rfl (o_stp (cs' := [(vJ (nvT a)), (vJ (nvP a))]) (us := [(vJ (nvT a)), (vJ (nvP a))]) (v := (.agg [(vJ (nvT a)), (vJ (nvP a))].toArray)) sz28 rfl rfl rfl (xG (by rfl) (by rfl)) bl.pins cp (dZ rfl) rfl (fun dv ct cu cv dw => ?_))
 have cw := bl.write cu cv ((zY bm))
 obtain ⟨dx, i, ay, cx, dy⟩ := ct.shut cw bm
 refine qM (.bool (nvB a)) ?_
 refine qe (zA (zB (zC ?_)))
 refine qD rfl (zT (cs := [d]) ag26 sz26 rfl (fun j u hj => (dX ay.pins (dW (dW (dW (dW (dW (dW o m.le) q.le) s.le) x) f.le) i)) _ _ _ (ad _ _ (by simpa using hj)))) (qI rfl (zF (vs := [(.agg [d].toArray)]) Tryz.func10 nm10 rfl rfl rfl ?_))
 refine dY (eZ ay.pins (aa.mono (dW (dW (dW (dW (dW (dW (dW ac o) m.le) q.le) s.le) x) f.le) i))) ?_
 rintro _ dz ⟨d0, rfl, l⟩
 refine ⟨_, rfl, ?_⟩
 have af := ay.tr l
 refine qM (.tuple #[(.bool (nvB a && decide (nvP a = 0))), (.bool (goodB a))]) ?_
 refine qD rfl (zX (v := (.bool (nvB a && decide (nvP a = 0)))) rfl rfl) (qD rfl (zX (v := (.bool (goodB a))) rfl rfl) (qM (.bool (nvB a && decide (nvP a = 0))) ?_))
 refine qM (.bool (goodB a)) ?_
 refine qe (zA (zB (zB (zC ?_))))
 refine qD rfl (zT (cs := [(vJ (nvT a)), (vJ (nvP a))]) ag28 sz28 rfl (fun j u hj => (dX af.pins (dW (dW f.le i) l.le)) _ _ _ (ab _ _ (by simpa using hj)))) (qD rfl (zT (cs := [(vJ (nvT a)), (vJ (nvP a))]) ag28 sz28 rfl (fun j u hj => (dX af.pins l.le) _ _ _ (cx _ _ (by simpa using hj)))) (qD rfl (r_neqD_same dD (by decide) rfl rfl rfl rfl dJ sh28 eg28 rfl rfl) (qM (.bool false) ?_)))
 refine qN (zR (v := (.bool (nvB a))) rfl) ?_
 refine qN (zR (v := (.bool (nvB a))) rfl) ?_
 refine qN (fC dR rfl rfl) ?_
 refine qD rfl (yI (v := (.bool false)) rfl rfl) (qM (.bool false) ?_)
 refine qN (zR (v := (.bool (goodB a))) rfl) ?_
 refine qN (zT (cs := [d]) ag26 sz26 rfl (fun j u hj => (dX af.pins (dW (dW (dW (dW (dW (dW (dW o m.le) q.le) s.le) x) f.le) i) l.le)) _ _ _ (ad _ _ (by simpa using hj)))) ?_
 refine q1g rfl rfl rfl rfl rfl rfl (zF (vs := [(.agg [d].toArray)]) Tryz.func11 nm11 rfl rfl rfl ?_)
 refine dY (GoodForm_spec af.pins (aa.mono (dW (dW (dW (dW (dW (dW (dW (dW ac o) m.le) q.le) s.le) x) f.le) i) l.le))) ?_
 rintro _ d1 ⟨d2, rfl, r⟩
 refine ⟨_, rfl, ?_⟩
 have y := af.tr r
 refine qN (fC dR rfl rfl) ?_
 refine qD rfl (yI (v := (.bool false)) rfl rfl) (qM (.bool false) ?_)
 refine qN (zR (v := (.bool (ftV a b c))) rfl) ?_
 refine qN (zR (v := (.bool (ftV a b c))) rfl) ?_
 refine qb (t := 79) rfl (fun ak => ?_) (fun ak => ?_)
 refine qN (zR (v := (.bool (nvB a))) rfl) ?_
 refine qN (xR rfl) ?_
 refine qN (yR (v := (.bool (!(nvB a)))) rfl rfl) ?_
 refine qD rfl (yI (v := (.bool (!(nvB a)))) rfl rfl) (qM (.bool (!(nvB a))) ?_)
 refine qbn (t := 84) rfl (fun az => ?_) (fun az => ?_)
 refine qN (zR (v := (.bool (nvB a && decide (nvP a = 0)))) rfl) ?_
 refine qN (zR (v := (.bool (nvB a))) rfl) ?_
 refine qN (zR (v := (.bool (nvB a))) rfl) ?_
 refine qb (t := 87) rfl (fun al => ?_) (fun al => ?_)
 refine qN (zK (k := 1) rfl dD rfl nz3 rfl) ?_
 refine qN (zL (u := (vJ (nvP a))) ag3 rfl ((dX y.pins (dW (dW (dW f.le i) l.le) r.le)) _ _ _ (ab 1 _ rfl))) ?_
 refine qN (xU rfl rfl) ?_
 refine qN (yR (v := (.bool (decide ((nvP a : Int) = 0)))) rfl rfl) ?_
 refine qN (r_neqB dR rfl rfl) ?_
 refine qD rfl (yI (v := (.bool ((nvB a && decide (nvP a = 0)) != (decide ((nvP a : Int) = 0))))) rfl rfl) (qe (zA ?_))
 refine c_if rfl rfl (fun bn => ?_) (fun bn => ?_)
 exact absurd bn (by rw [al]; simp)
 refine wp_skip (zA (zB (zB (zC ?_))))
 refine qM (.bool (nvB a)) ?_
 refine qD rfl (xR rfl) (qe (zA ?_))
 refine qY rfl rfl (fun am => ?_) (fun am => ?_)
 refine wp_skip (zA (zB (zC ?_)))
 refine qD rfl (zT (cs := [d]) ag26 sz26 rfl (fun j u hj => (dX y.pins (dW (dW (dW (dW (dW (dW (dW (dW o m.le) q.le) s.le) x) f.le) i) l.le) r.le)) _ _ _ (ad _ _ (by simpa using hj)))) (qD rfl (zT (cs := [(vJ (nvT a)), (vJ (nvP a))]) ag28 sz28 rfl (fun j u hj => (dX y.pins (dW (dW (dW f.le i) l.le) r.le)) _ _ _ (ab _ _ (by simpa using hj)))) (qI rfl (zF (vs := [(.agg [d].toArray), (.agg [(vJ (nvT a)), (vJ (nvP a))].toArray)]) Tryz.func6 nm6 rfl rfl rfl ?_)))
 refine dY (vR (t := nvT a) (z := nvP a) y.pins (aa.mono (dW (dW (dW (dW (dW (dW (dW (dW (dW ac o) m.le) q.le) s.le) x) f.le) i) l.le) r.le))) ?_
 rintro _ d3 ⟨d4, rfl, ag⟩
 refine ⟨_, rfl, ?_⟩
 have a0 := y.tr ag
 refine qM (.tuple #[(.bool (ftV a (nvT a) (nvP a))), (.bool (ftB a (nvT a) (nvP a)))]) ?_
 refine qD rfl (zX (v := (.bool (ftV a (nvT a) (nvP a)))) rfl rfl) (qD rfl (zX (v := (.bool (ftB a (nvT a) (nvP a)))) rfl rfl) (qM (.bool (ftV a (nvT a) (nvP a))) ?_))
 refine qM (.bool (ftB a (nvT a) (nvP a))) ?_
 refine qe (zA (zB (zC ?_)))
 refine qD rfl (zT (cs := [(vJ (nvT a)), (vJ (nvP a))]) ag28 sz28 rfl (fun j u hj => (dX a0.pins (dW (dW (dW (dW f.le i) l.le) r.le) ag.le)) _ _ _ (ab _ _ (by simpa using hj)))) (qI rfl (zF (vs := [(.agg [(vJ (nvT a)), (vJ (nvP a))].toArray)]) Tryz.func12 nm12 rfl rfl rfl ?_))
 refine dY (jI (t := (nvT a)) (z := (nvP a)) a0.pins) ?_
 rintro _ d5 ⟨d6, rfl, an⟩
 refine ⟨_, rfl, ?_⟩
 have a1 := a0.tr an
 refine qM (.tuple #[(vJ (bdI (nvT a) (nvP a))), (.bool (decP (GoodD (nvT a) (nvP a))))]) ?_
 refine qD rfl (zX (v := (vJ (bdI (nvT a) (nvP a)))) rfl rfl) (qD rfl (zX (v := (.bool (decP (GoodD (nvT a) (nvP a))))) rfl rfl) (qM (vJ (bdI (nvT a) (nvP a))) ?_))
 refine qM (.bool (decP (GoodD (nvT a) (nvP a)))) ?_
 refine qe (zA (zB (zC ?_)))
 refine qD rfl (zT (cs := [(vJ b), (vJ c)]) ag28 sz28 rfl (fun j u hj => (dX a1.pins (dW (dW (dW (dW (dW (dW (dW (dW (dW m.le q.le) s.le) x) f.le) i) l.le) r.le) ag.le) an.le)) _ _ _ (ae _ _ (by simpa using hj)))) (qI rfl (zF (vs := [(.agg [(vJ b), (vJ c)].toArray)]) Tryz.func12 nm12 rfl rfl rfl ?_))
 refine dY (jI (t := b) (z := c) a1.pins) ?_
 rintro _ d7 ⟨d8, rfl, a2⟩
 refine ⟨_, rfl, ?_⟩
 have ao := a1.tr a2
 refine qM (.tuple #[(vJ (bdI b c)), (.bool (decP (GoodD b c)))]) ?_
 refine qD rfl (zX (v := (vJ (bdI b c))) rfl rfl) (qD rfl (zX (v := (.bool (decP (GoodD b c)))) rfl rfl) (qM (vJ (bdI b c)) ?_))
 refine qM (.bool (decP (GoodD b c))) ?_
 refine qe (zA (zB (zC ?_)))
 refine qM (.bool (ftV a (nvT a) (nvP a))) ?_
 refine qM (.bool (ftV a (nvT a) (nvP a))) ?_
 refine qb (t := 116) rfl (fun bo => ?_) (fun bo => ?_)
 refine qN (zR (v := (.bool (ftV a b c))) rfl) ?_
 refine qN (xR rfl) ?_
 refine qN (zR (v := (.bool (!(ftV a b c)))) rfl) ?_
 refine qbn (t := 119) rfl (fun a3 => ?_) (fun a3 => ?_)
 refine qN (zT (cs := [(vJ b), (vJ c)]) ag28 sz28 rfl (fun j u hj => (dX ao.pins (dW (dW (dW (dW (dW (dW (dW (dW (dW (dW m.le q.le) s.le) x) f.le) i) l.le) r.le) ag.le) an.le) a2.le)) _ _ _ (ae _ _ (by simpa using hj)))) ?_
 refine qN (zT (cs := [(vJ (nvT a)), (vJ (nvP a))]) ag28 sz28 rfl (fun j u hj => (dX ao.pins (dW (dW (dW (dW (dW (dW f.le i) l.le) r.le) ag.le) an.le) a2.le)) _ _ _ (ab _ _ (by simpa using hj)))) ?_
 refine qN (r_eqlD dD (by decide) rfl rfl rfl rfl dJ sh28 eg28 rfl rfl) ?_
 refine qN (yI (v := (.bool (decide (((b, c) : Int × Int) = (nvT a, nvP a))))) rfl rfl) ?_
 refine qN (zR (v := (.bool (decide (((b, c) : Int × Int) = (nvT a, nvP a))))) rfl) ?_
 refine qbd (p := (((b, c) : Int × Int) = (nvT a, nvP a))) (t := 124) rfl (fun bp => ?_) (fun bp => ?_)
 refine qW ?_
 refine qW ?_
 refine qW ?_
 refine qN (yR (v := (.bool true)) rfl rfl) ?_
 refine qD rfl (yR (v := (.bool true)) rfl rfl) (qM (.bool true) ?_)
 refine qe (zA ?_)
 exact wp_ret (zO (zQ (v := (.bool true)) rfl rfl rfl (⟨_, rfl, ao⟩)))
 refine qN (zR (v := (vJ (bdI (nvT a) (nvP a)))) rfl) ?_
 refine qN (zR (v := (vJ (bdI b c))) rfl) ?_
 refine qN (yX rfl rfl) ?_
 refine qN (yI (v := (.bool (decide ((bdI (nvT a) (nvP a) : Int) < (bdI b c))))) rfl rfl) ?_
 refine qD rfl (yR (v := (.bool (decide ((bdI (nvT a) (nvP a) : Int) < (bdI b c))))) rfl rfl) (qM (.bool (decide ((bdI (nvT a) (nvP a) : Int) < (bdI b c)))) ?_)
 refine qe (zA ?_)
 exact wp_ret (zO (zQ (v := (.bool (decide ((bdI (nvT a) (nvP a) : Int) < (bdI b c))))) rfl rfl rfl (⟨_, congrArg (fun z => Ending.returned (Value.bool z)) (decide_eq_true ((fits_last am).resolve_left fun g => g.elim (fun g => absurd (a3.symm.trans g) (by decide)) bp)), ao⟩)))
 exact absurd (ak.symm.trans a3) (by decide)
 exact absurd ((fits_own am).symm.trans bo) (by decide)
 exact absurd (al.symm.trans am) (by decide)
 exact absurd (az.symm.trans al) (by decide)
 exact absurd ((fits_is ak).1.symm.trans az) (by decide)
 refine qW ?_
 refine qW ?_
 refine qN (yI (v := (.bool false)) rfl rfl) ?_
 refine qD rfl (yI (v := (.bool false)) rfl rfl) (qM (.bool false) ?_)
 refine qN (zR (v := (.bool (nvB a && decide (nvP a = 0)))) rfl) ?_
 refine qN (zR (v := (.bool (nvB a))) rfl) ?_
 refine qN (zR (v := (.bool (nvB a))) rfl) ?_
 refine qb (t := 87) rfl (fun ah => ?_) (fun ah => ?_)
 refine qN (zK (k := 1) rfl dD rfl nz3 rfl) ?_
 refine qN (zL (u := (vJ (nvP a))) ag3 rfl ((dX y.pins (dW (dW (dW f.le i) l.le) r.le)) _ _ _ (ab 1 _ rfl))) ?_
 refine qN (xU rfl rfl) ?_
 refine qN (yR (v := (.bool (decide ((nvP a : Int) = 0)))) rfl rfl) ?_
 refine qN (r_neqB dR rfl rfl) ?_
 refine qD rfl (yI (v := (.bool ((nvB a && decide (nvP a = 0)) != (decide ((nvP a : Int) = 0))))) rfl rfl) (qe (zA ?_))
 refine c_if rfl rfl (fun bq => ?_) (fun bq => ?_)
 exact absurd bq (by rw [ah]; simp)
 refine wp_skip (zA (zB (zB (zC ?_))))
 refine qM (.bool (nvB a)) ?_
 refine qD rfl (xR rfl) (qe (zA ?_))
 refine qY rfl rfl (fun a4 => ?_) (fun a4 => ?_)
 refine wp_skip (zA (zB (zC ?_)))
 refine qD rfl (zT (cs := [d]) ag26 sz26 rfl (fun j u hj => (dX y.pins (dW (dW (dW (dW (dW (dW (dW (dW o m.le) q.le) s.le) x) f.le) i) l.le) r.le)) _ _ _ (ad _ _ (by simpa using hj)))) (qD rfl (zT (cs := [(vJ (nvT a)), (vJ (nvP a))]) ag28 sz28 rfl (fun j u hj => (dX y.pins (dW (dW (dW f.le i) l.le) r.le)) _ _ _ (ab _ _ (by simpa using hj)))) (qI rfl (zF (vs := [(.agg [d].toArray), (.agg [(vJ (nvT a)), (vJ (nvP a))].toArray)]) Tryz.func6 nm6 rfl rfl rfl ?_)))
 refine dY (vR (t := nvT a) (z := nvP a) y.pins (aa.mono (dW (dW (dW (dW (dW (dW (dW (dW (dW ac o) m.le) q.le) s.le) x) f.le) i) l.le) r.le))) ?_
 rintro _ d9 ⟨ea, rfl, a5⟩
 refine ⟨_, rfl, ?_⟩
 have a6 := y.tr a5
 refine qM (.tuple #[(.bool (ftV a (nvT a) (nvP a))), (.bool (ftB a (nvT a) (nvP a)))]) ?_
 refine qD rfl (zX (v := (.bool (ftV a (nvT a) (nvP a)))) rfl rfl) (qD rfl (zX (v := (.bool (ftB a (nvT a) (nvP a)))) rfl rfl) (qM (.bool (ftV a (nvT a) (nvP a))) ?_))
 refine qM (.bool (ftB a (nvT a) (nvP a))) ?_
 refine qe (zA (zB (zC ?_)))
 refine qD rfl (zT (cs := [(vJ (nvT a)), (vJ (nvP a))]) ag28 sz28 rfl (fun j u hj => (dX a6.pins (dW (dW (dW (dW f.le i) l.le) r.le) a5.le)) _ _ _ (ab _ _ (by simpa using hj)))) (qI rfl (zF (vs := [(.agg [(vJ (nvT a)), (vJ (nvP a))].toArray)]) Tryz.func12 nm12 rfl rfl rfl ?_))
 refine dY (jI (t := (nvT a)) (z := (nvP a)) a6.pins) ?_
 rintro _ eb ⟨ec, rfl, br⟩
 refine ⟨_, rfl, ?_⟩
 have a7 := a6.tr br
 refine qM (.tuple #[(vJ (bdI (nvT a) (nvP a))), (.bool (decP (GoodD (nvT a) (nvP a))))]) ?_
 refine qD rfl (zX (v := (vJ (bdI (nvT a) (nvP a)))) rfl rfl) (qD rfl (zX (v := (.bool (decP (GoodD (nvT a) (nvP a))))) rfl rfl) (qM (vJ (bdI (nvT a) (nvP a))) ?_))
 refine qM (.bool (decP (GoodD (nvT a) (nvP a)))) ?_
 refine qe (zA (zB (zC ?_)))
 refine qD rfl (zT (cs := [(vJ b), (vJ c)]) ag28 sz28 rfl (fun j u hj => (dX a7.pins (dW (dW (dW (dW (dW (dW (dW (dW (dW m.le q.le) s.le) x) f.le) i) l.le) r.le) a5.le) br.le)) _ _ _ (ae _ _ (by simpa using hj)))) (qI rfl (zF (vs := [(.agg [(vJ b), (vJ c)].toArray)]) Tryz.func12 nm12 rfl rfl rfl ?_))
 refine dY (jI (t := b) (z := c) a7.pins) ?_
 rintro _ ed ⟨ee, rfl, cy⟩
 refine ⟨_, rfl, ?_⟩
 have cz := a7.tr cy
 refine qM (.tuple #[(vJ (bdI b c)), (.bool (decP (GoodD b c)))]) ?_
 refine qD rfl (zX (v := (vJ (bdI b c))) rfl rfl) (qD rfl (zX (v := (.bool (decP (GoodD b c)))) rfl rfl) (qM (vJ (bdI b c)) ?_))
 refine qM (.bool (decP (GoodD b c))) ?_
 refine qe (zA (zB (zC ?_)))
 refine qM (.bool (ftV a (nvT a) (nvP a))) ?_
 refine qM (.bool (ftV a (nvT a) (nvP a))) ?_
 refine qb (t := 116) rfl (fun bs => ?_) (fun bs => ?_)
 refine qN (zR (v := (.bool (ftV a b c))) rfl) ?_
 refine qN (xR rfl) ?_
 refine qN (zR (v := (.bool (!(ftV a b c)))) rfl) ?_
 refine qbn (t := 119) rfl (fun bt => ?_) (fun bt => ?_)
 exact absurd (bt.symm.trans ak) (by decide)
 refine qW ?_
 refine qW ?_
 refine qW ?_
 refine qN (yR (v := (.bool true)) rfl rfl) ?_
 refine qN (zR (v := (.bool true)) rfl) ?_
 refine qW ?_
 refine qW ?_
 refine qW ?_
 refine qN (yR (v := (.bool true)) rfl rfl) ?_
 refine qD rfl (yR (v := (.bool true)) rfl rfl) (qM (.bool true) ?_)
 refine qe (zA ?_)
 exact wp_ret (zO (zQ (v := (.bool true)) rfl rfl rfl (⟨_, rfl, cz⟩)))
 exact absurd ((fits_own a4).symm.trans bs) (by decide)
 exact absurd (ah.symm.trans a4) (by decide)
 refine qW ?_
 refine qW ?_
 refine qW ?_
 refine qN (yI (v := (.bool false)) rfl rfl) ?_
 refine qN (r_neqB dR rfl rfl) ?_
 refine qD rfl (yI (v := (.bool ((nvB a && decide (nvP a = 0)) != false))) rfl rfl) (qe (zA ?_))
 refine c_if rfl rfl (fun bu => ?_) (fun bu => ?_)
 exact absurd bu (by rw [ah]; simp)
 refine wp_skip (zA (zB (zB (zC ?_))))
 refine qM (.bool (nvB a)) ?_
 refine qD rfl (xR rfl) (qe (zA ?_))
 refine qY rfl rfl (fun a8 => ?_) (fun a8 => ?_)
 exact absurd (a8.symm.trans ah) (by decide)
 refine zB (zC ?_)
 refine qD rfl (zT (cs := [(vJ (nvT a)), (vJ (nvP a))]) ag28 sz28 rfl (fun j u hj => (dX y.pins (dW (dW (dW f.le i) l.le) r.le)) _ _ _ (ab _ _ (by simpa using hj)))) (qD rfl (xB [(vJ 0), (vJ 0)] [(vJ 0), (vJ 0)] [] dD zr28 rfl pl28 rfl (fun _ h => by cases h) rfl) (qD rfl (r_eqlD dD (by decide) rfl rfl rfl rfl dJ sh28 eg28 rfl rfl) (qM (.bool (decide (((nvT a, nvP a) : Int × Int) = (0, 0)))) ?_)))
 refine qe (zA ?_)
 exact wp_ret (zO (zQ (v := (.bool (decide (((nvT a, nvP a) : Int × Int) = (0, 0))))) rfl rfl rfl (⟨_, congrArg (fun z => Ending.returned (Value.bool z)) (decide_eq_true (nv_none a8)), y⟩)))
end LFI
end Go.Proofs.YtjdchbdfohiaaaaGreatDoor
