/- Texts of this claim. -/
import Derived.Test.YtakkjmlnmcemaaaGreatDoorIn5
import Derived.Test.YtakkjmlnmcemaaaGreatDoorChecked
set_option maxRecDepth 20000
set_option maxHeartbeats 2000000
namespace Go.Proofs.YtakkjmlnmcemaaaGreatDoor
open Go.RowKit Go.GL Go.Proofs
namespace DI1
open B1 K1 PO1 PL1
theorem gF {p : Nat} {L R B : Value} {mm : PM} {w : World} {G : Pin} {q : PSt} {x : Value} {xs : List Int} {lf : Bool} (hP : Pins G w) (hpk : Pk 56 3 G w p L R B mm q) (hok : PoolOk q) (hx : RSl eInt G x xs) (hxl : xs.length ≤ 1048576) (hpl : ∀ i, i < xs.length → PlaceOk q (xs.getD i 0)) :
  Calls Tryz.prog 111 #[vP p, x, .bool lf] w fun e w' => ∃ (u : Value) (q' : PSt) (G' : Pin), e = .returned u ∧ Own eInt 3 G' w' w.heap.size u (domL (gX q xs) lf xs.length xs.length) ∧ Pk 56 3 G' w' p L R B mm q' ∧ PoolOk q' ∧ PX q q' ∧ (q'.ns = q.ns ∧ q'.bs = q.bs) ∧ Ext (inO (some mm.o)) G w G' w' := by
 refine zY (n := 61) Tryz.func111 Tryz.ntmps111 rfl rfl ?_
 have a3 := exr (inO (some mm.o)) hP
 have hpin : PIn w (inP p L R B mm) p L R B mm := PIn.self
 have db := pkl q
 have dc := pkb hok
 refine w9d ?_
 refine qM vN ?_
 refine qe (w9a ?_)
 refine qI rfl (xE (E := eInt) (e := 3) dE sz3 a3.pins (fun u3 w4 ck bk bl cl => ?_))
 have cm := hpk.new (x := u3.ownBlock) (fun k hk => by rw [cl] at hk; cases hk; exact cH _)
 have cn := ck.weaken a3.size
 refine qM u3 ?_
 refine qe (zA (w9b ?_))
 refine qM x ?_
 refine qD rfl (zM dE (v := x) rfl hx) (qM (vJ 0) ?_)
 refine qe (zA ?_)
 refine zZ (yR (fun k en W => ∃ (av : Nat → Value) (i : Nat) (ov : Value) (out : List Int) (d : PSt) (an : Pin), en = (upd (upd (upd (upd (upd (upd (upd (upd av 0 (vP p)) 1 x) 2 (.bool lf)) 6 vN) 7 ov) 15 x) 16 (vJ (xs.length : Int))) 17 (vJ (i : Int))) ∧ k = xs.length - i ∧ Ext (inO (some mm.o)) G w an W ∧ Pin.le G an ∧ (i ≤ xs.length) ∧ (out = domL (gX q xs) lf xs.length i) ∧ (Own eInt 3 an W w.heap.size ov (out)) ∧ (Pk 56 3 an W p L R B mm d) ∧ (PoolOk d) ∧ (PX q d) ∧ (d.ns = q.ns ∧ d.bs = q.bs) ∧ (NP p L R B mm ov.ownBlock)) _ ⟨_, 0, u3, [], q, G, (pS 17 (pS 16 (pS 15 (pS 7 (pS 6 (pS 2 (pS 1 (pU 0)))))))), rfl, (a3.step bk bl), cJ _, cI _, rfl, cn, (hpk.below bl bk), hok, (PX.refl _), ⟨rfl, rfl⟩, cm⟩ ?_)
 rintro dd _ de ⟨av, i, ov, out, d, an, rfl, df, a4, ao, hi, hout, bm, bn, az, ap, c, ab⟩
 have dg := ap.len
 have dh := pkl d
 have di := pkb az
 have hol : out.length ≤ i := by rw [hout]; exact (kT i).1
 refine w9d ?_
 refine qD rfl (yU rfl rfl) (qe (zA (zB ?_)))
 refine yC (p := ((i : Int) : Int) < (xs.length : Int)) rfl rfl (fun co => ?_) (fun co => ?_)
 refine cO (zA (zB ?_))
 refine zZ (w9d ?_)
 refine qM (vJ (i : Int)) ?_
 refine qD rfl (zF dE sz3 (v := x) rfl rfl hx (by omega) (by omega)) (qD rfl (zG (r := xs.getD i 0) rfl ag3 (z := (i : Int)) rfl hx (cC a4.pins ao) (by omega) (by omega)) (qM (vJ (i : Int)) ?_))
 refine qM (vJ (xs.getD i 0)) ?_
 refine qe (w9a ?_)
 refine qM x ?_
 refine qD rfl (zM dE (v := x) rfl hx) (qM (vJ 0) ?_)
 refine qe (zA ?_)
 refine zZ (yR (fun k en W => ∃ (av : Nat → Value) (j : Nat) (b : PSt) (aq : Pin), en = (upd (upd (upd (upd (upd (upd (upd (upd (upd (upd (upd (upd (upd av 0 (vP p)) 1 x) 2 (.bool lf)) 6 vN) 7 ov) 8 (vJ (i : Int))) 9 (vJ (xs.getD i 0))) 15 x) 16 (vJ (xs.length : Int))) 17 (vJ (i : Int))) 22 x) 23 (vJ (xs.length : Int))) 24 (vJ (j : Int))) ∧ k = xs.length - j ∧ Ext (inO (some mm.o)) G w aq W ∧ Pin.le an aq ∧ (j ≤ xs.length) ∧ (∀ x, x < j → ¬ domP (gX q xs) lf i x) ∧ (Own eInt 3 aq W w.heap.size ov (out)) ∧ (Pk 56 3 aq W p L R B mm b) ∧ (PoolOk b) ∧ (PX d b) ∧ (b.ns = d.ns ∧ b.bs = d.bs)) _ ⟨_, 0, d, an, (pS 24 (pS 23 (pS 22 (pS 17 (pS 16 (pS 15 (pS 9 (pS 8 (pS 7 (pS 6 (pS 2 (pS 1 (pU 0))))))))))))), rfl, a4, cJ _, cI _, (fun x h => absurd h (cK x)), bm, bn, az, (PX.refl _), ⟨rfl, rfl⟩⟩ ?_)
 rintro dj _ dk ⟨av, j, b, aq, rfl, dl, aw, ac, hj, hnd, a5, a6, ax, ad, a⟩
 have dm := ad.len
 have dn := pkl b
 have dp := pkb ax
 refine w9d ?_
 refine qD rfl (yU rfl rfl) (qe (zA (zB ?_)))
 refine yC (p := ((j : Int) : Int) < (xs.length : Int)) rfl rfl (fun cp => ?_) (fun cp => ?_)
 refine cO (zA (zB ?_))
 refine zZ (w9d ?_)
 refine qM (vJ (j : Int)) ?_
 refine qD rfl (zF dE sz3 (v := x) rfl rfl hx (by omega) (by omega)) (qD rfl (zG (r := xs.getD j 0) rfl ag3 (z := (j : Int)) rfl hx (cC aw.pins (cB ao ac)) (by omega) (by omega)) (qM (vJ (j : Int)) ?_))
 refine qM (vJ (xs.getD j 0)) ?_
 refine qe (zA (w9b ?_))
 refine qM (vJ (j : Int)) ?_
 refine qM (vJ (i : Int)) ?_
 refine qD rfl (xO rfl rfl) (qe (zA ?_))
 refine yC (p := ((j : Int) : Int) = (i : Int)) rfl rfl (fun au => ?_) (fun au => ?_)
 refine cQ (zX (yK (zA (zC ?_))))
 refine qD rfl (yH rfl rfl (by omega)) (qM (vJ ((j : Int) + 1)) ?_)
 refine qe (zV (⟨_, ?_, _, rfl, _, j + 1, b, aq, (pS 24 (pS 23 (pS 22 (pS 17 (pS 16 (pS 15 (pS 9 (pS 8 (pS 7 (pS 6 (pS 2 (pS 1 (pU 0))))))))))))), rfl, aw, ac, (by omega), (fun x h2 => if h3 : x = j then h3 ▸ (fun p => p.1 au) else hnd x (by omega)), a5, a6, ax, ad, a⟩))
 omega
 refine cO (w9a ?_)
 refine qM (vP p) ?_
 refine qM (vJ (xs.getD j 0)) ?_
 refine qM (vJ (xs.getD i 0)) ?_
 refine qI rfl (zL (vs := [vP p, vJ (xs.getD j 0), vJ (xs.getD i 0)]) Tryz.func97 nm97 rfl rfl rfl ?_)
 refine cD (tJ aw.pins a6 ax ((hpl j (by omega)).same (zO c a)) ((hpl i (by omega)).same (zO c a))) ?_
 rintro _ dq ⟨y, dr, rfl, cq, a7, ai, f, af⟩
 refine rt9 ?_
 have bo := aw.trans af (fun i hi => xN i hi)
 have ds := ai.len
 have dt := pkl y
 have du := pkb a7
 have dv := cgA List.length f.1
 refine qM (vP p) ?_
 refine qM (vJ (xs.getD i 0)) ?_
 refine qM (vJ (xs.getD j 0)) ?_
 refine qI rfl (zL (vs := [vP p, vJ (xs.getD i 0), vJ (xs.getD j 0)]) Tryz.func97 nm97 rfl rfl rfl ?_)
 refine cD (tJ bo.pins cq a7 ((hpl i (by omega)).same (zO (zO c a) f)) ((hpl j (by omega)).same (zO (zO c a) f))) ?_
 rintro _ dw ⟨s, aa, rfl, al, ag, aj, ak, ah⟩
 refine rt9 ?_
 have m := bo.trans ah (fun i hi => xN i hi)
 have am := (a5.extS af (notO (NP.ho ab))).extS ah (notO (NP.ho ab))
 have dx := aj.len
 have dy := pkl s
 have dz := pkb ag
 have d0 := cgA List.length ak.1
 refine qM (.bool (geB b.ns (xs.getD j 0) (xs.getD i 0))) ?_
 refine qM (.bool (geB y.ns (xs.getD i 0) (xs.getD j 0))) ?_
 refine qe (zA (w9b ?_))
 refine qM (.bool lf) ?_
 refine qD rfl (xD rfl) (qe (zA ?_))
 refine xU rfl rfl (fun ae => ?_) (fun ae => ?_)
 refine cO (w9a ?_)
 refine qM (.bool (geB b.ns (xs.getD j 0) (xs.getD i 0))) ?_
 refine qM (.bool (geB b.ns (xs.getD j 0) (xs.getD i 0))) ?_
 refine qb (t := 45) rfl (fun a1 => ?_) (fun a1 => ?_)
 refine qN (zN (v := .bool (geB y.ns (xs.getD i 0) (xs.getD j 0))) rfl) ?_
 refine qN (xD rfl) ?_
 refine qN (zN (v := .bool (!(geB y.ns (xs.getD i 0) (xs.getD j 0)))) rfl) ?_
 refine qbn (t := 48) rfl (fun a8 => ?_) (fun a8 => ?_)
 refine qN (zN (v := vJ (j : Int)) rfl) ?_
 refine qN (zN (v := vJ (i : Int)) rfl) ?_
 refine qN (yU rfl rfl) ?_
 refine qN (zU (v := .bool (decide (((j : Int) : Int) < (i : Int)))) rfl rfl) ?_
 refine qD rfl (yB (v := .bool (decide (((j : Int) : Int) < (i : Int)))) rfl rfl) (qe (zA ?_))
 refine yC (p := ((j : Int) : Int) < (i : Int)) rfl rfl (fun a9 => ?_) (fun a9 => ?_)
 refine w9d ?_
 refine qM ov ?_
 refine qM (vJ (i : Int)) ?_
 refine qI rfl (yV (E := eInt) (e := 3) [vJ (i : Int)] [(i : Int)] dE sz3 zr3 (by exact xP (by rfl)) (yZ (by rfl)) rfl rfl rfl rfl (by decide) m.pins (fun bp cr cs bq ba d1 => ?_))
 have bb := m.step bq ba
 have br := am.below ba
 have bt := al.below ba bq
 have ct := cs.weaken m.size
 refine qI rfl (oA (E := eInt) (v := ov) (u := bp) 8 dE ap3 (by decide) rfl rfl bb.pins br ct.src (bb.size) (fun bu d2 cu bv bw cv => ?_))
 have d3 := la1 out (i : Int)
 refine qM bu ?_
 refine qe (zA ?_)
 refine cQ (mR rfl (zX (yO (yK (w9c ?_)))))
 refine qD rfl (yH rfl rfl (by omega)) (qM (vJ ((i : Int) + 1)) ?_)
 refine qe (zV (⟨_, ?_, _, rfl, _, i + 1, bu, out ++ ([(i : Int)]), s, aa, (pS 17 (pS 16 (pS 15 (pS 7 (pS 6 (pS 2 (pS 1 (pU 0)))))))), rfl, (bb.write bv bw ((yD br))), (cB (cB (cB ao ac) af.le) ah.le), (by omega), (by rw [pV (g := gX q xs) (lf := lf) (show j < xs.length by omega) ⟨au, (gW ae).2 (decP_true.1 ((xW (zO c a)).symm.trans a1)), cG a9⟩, hout]), cu, (bt.kept bw bv ab), ag, (cL (cL (cL ap ad) ai) aj), (zO (zO (zO c a) f) ak), (jX ab bt cv)⟩))
 omega
 refine cO (w9c ?_)
 refine qD rfl (yH rfl rfl (by omega)) (qM (vJ ((j : Int) + 1)) ?_)
 refine qe (zV (⟨_, ?_, _, rfl, _, j + 1, s, aa, (pS 24 (pS 23 (pS 22 (pS 17 (pS 16 (pS 15 (pS 9 (pS 8 (pS 7 (pS 6 (pS 2 (pS 1 (pU 0))))))))))))), rfl, m, (cB (cB ac af.le) ah.le), (by omega), (fun x h2 => if h3 : x = j then h3 ▸ (fun p => p.2.2.elim (fun h => h ((gW ae).2 (decP_true.1 ((xW (zO (zO c a) f)).symm.trans a8)))) a9) else hnd x (by omega)), am, al, ag, (cL (cL ad ai) aj), (zO (zO a f) ak)⟩))
 omega
 refine qW ?_
 refine qW ?_
 refine qW ?_
 refine qN (yB (v := .bool true) rfl rfl) ?_
 refine qD rfl (yB (v := .bool true) rfl rfl) (qe (zA ?_))
 refine qK rfl rfl (w9d ?_)
 refine qM ov ?_
 refine qM (vJ (i : Int)) ?_
 refine qI rfl (yV (E := eInt) (e := 3) [vJ (i : Int)] [(i : Int)] dE sz3 zr3 (by exact xP (by rfl)) (yZ (by rfl)) rfl rfl rfl rfl (by decide) m.pins (fun bx cw cx bz bc d4 => ?_))
 have bd := m.step bz bc
 have b0 := am.below bc
 have b1 := al.below bc bz
 have cy := cx.weaken m.size
 refine qI rfl (oA (E := eInt) (v := ov) (u := bx) 8 dE ap3 (by decide) rfl rfl bd.pins b0 cy.src (bd.size) (fun b2 d5 cz b3 b4 c0 => ?_))
 have d6 := la1 out (i : Int)
 refine qM b2 ?_
 refine qe (zA ?_)
 refine cQ (mR rfl (zX (yO (yK (w9c ?_)))))
 refine qD rfl (yH rfl rfl (by omega)) (qM (vJ ((i : Int) + 1)) ?_)
 refine qe (zV (⟨_, ?_, _, rfl, _, i + 1, b2, out ++ ([(i : Int)]), s, aa, (pS 17 (pS 16 (pS 15 (pS 7 (pS 6 (pS 2 (pS 1 (pU 0)))))))), rfl, (bd.write b3 b4 ((yD b0))), (cB (cB (cB ao ac) af.le) ah.le), (by omega), (by rw [pV (g := gX q xs) (lf := lf) (show j < xs.length by omega) ⟨au, (gW ae).2 (decP_true.1 ((xW (zO c a)).symm.trans a1)), cF (fun h => (decP_false.1 ((xW (zO (zO c a) f)).symm.trans a8)) ((gW ae).1 h))⟩, hout]), cz, (b1.kept b4 b3 ab), ag, (cL (cL (cL ap ad) ai) aj), (zO (zO (zO c a) f) ak), (jX ab b1 c0)⟩))
 omega
 refine qW ?_
 refine qW ?_
 refine qW ?_
 refine qX ?_
 refine qX ?_
 refine qX ?_
 refine qW ?_
 refine qD rfl (zU (v := .bool false) rfl rfl) (qe (zA ?_))
 refine xT rfl rfl (cO (w9c ?_))
 refine qD rfl (yH rfl rfl (by omega)) (qM (vJ ((j : Int) + 1)) ?_)
 refine qe (zV (⟨_, ?_, _, rfl, _, j + 1, s, aa, (pS 24 (pS 23 (pS 22 (pS 17 (pS 16 (pS 15 (pS 9 (pS 8 (pS 7 (pS 6 (pS 2 (pS 1 (pU 0))))))))))))), rfl, m, (cB (cB ac af.le) ah.le), (by omega), (fun x h2 => if h3 : x = j then h3 ▸ (fun p => (decP_false.1 ((xW (zO c a)).symm.trans a1)) ((gW ae).1 p.2.1)) else hnd x (by omega)), am, al, ag, (cL (cL ad ai) aj), (zO (zO a f) ak)⟩))
 omega
 refine zC (qM (.bool (geB y.ns (xs.getD i 0) (xs.getD j 0))) ?_)
 refine qM (.bool (geB b.ns (xs.getD j 0) (xs.getD i 0))) ?_
 refine qM (.bool (geB y.ns (xs.getD i 0) (xs.getD j 0))) ?_
 refine qM (.bool (geB b.ns (xs.getD j 0) (xs.getD i 0))) ?_
 refine qe (w9a ?_)
 refine qM (.bool (geB y.ns (xs.getD i 0) (xs.getD j 0))) ?_
 refine qM (.bool (geB y.ns (xs.getD i 0) (xs.getD j 0))) ?_
 refine qb (t := 45) rfl (fun a2 => ?_) (fun a2 => ?_)
 refine qN (zN (v := .bool (geB b.ns (xs.getD j 0) (xs.getD i 0))) rfl) ?_
 refine qN (xD rfl) ?_
 refine qN (zN (v := .bool (!(geB b.ns (xs.getD j 0) (xs.getD i 0)))) rfl) ?_
 refine qbn (t := 48) rfl (fun be => ?_) (fun be => ?_)
 refine qN (zN (v := vJ (j : Int)) rfl) ?_
 refine qN (zN (v := vJ (i : Int)) rfl) ?_
 refine qN (yU rfl rfl) ?_
 refine qN (zU (v := .bool (decide (((j : Int) : Int) < (i : Int)))) rfl rfl) ?_
 refine qD rfl (yB (v := .bool (decide (((j : Int) : Int) < (i : Int)))) rfl rfl) (qe (zA ?_))
 refine yC (p := ((j : Int) : Int) < (i : Int)) rfl rfl (fun bf => ?_) (fun bf => ?_)
 refine w9d ?_
 refine qM ov ?_
 refine qM (vJ (i : Int)) ?_
 refine qI rfl (yV (E := eInt) (e := 3) [vJ (i : Int)] [(i : Int)] dE sz3 zr3 (by exact xP (by rfl)) (yZ (by rfl)) rfl rfl rfl rfl (by decide) m.pins (fun b5 c1 c2 b6 bg d7 => ?_))
 have bh := m.step b6 bg
 have b7 := am.below bg
 have b8 := al.below bg b6
 have c3 := c2.weaken m.size
 refine qI rfl (oA (E := eInt) (v := ov) (u := b5) 8 dE ap3 (by decide) rfl rfl bh.pins b7 c3.src (bh.size) (fun b9 d8 c4 ca cb c5 => ?_))
 have d9 := la1 out (i : Int)
 refine qM b9 ?_
 refine qe (zA ?_)
 refine cQ (mR rfl (zX (yO (yK (w9c ?_)))))
 refine qD rfl (yH rfl rfl (by omega)) (qM (vJ ((i : Int) + 1)) ?_)
 refine qe (zV (⟨_, ?_, _, rfl, _, i + 1, b9, out ++ ([(i : Int)]), s, aa, (pS 17 (pS 16 (pS 15 (pS 7 (pS 6 (pS 2 (pS 1 (pU 0)))))))), rfl, (bh.write ca cb ((yD b7))), (cB (cB (cB ao ac) af.le) ah.le), (by omega), (by rw [pV (g := gX q xs) (lf := lf) (show j < xs.length by omega) ⟨au, (gY ae).2 (decP_true.1 ((xW (zO (zO c a) f)).symm.trans a2)), cG bf⟩, hout]), c4, (b8.kept cb ca ab), ag, (cL (cL (cL ap ad) ai) aj), (zO (zO (zO c a) f) ak), (jX ab b8 c5)⟩))
 omega
 refine cO (w9c ?_)
 refine qD rfl (yH rfl rfl (by omega)) (qM (vJ ((j : Int) + 1)) ?_)
 refine qe (zV (⟨_, ?_, _, rfl, _, j + 1, s, aa, (pS 24 (pS 23 (pS 22 (pS 17 (pS 16 (pS 15 (pS 9 (pS 8 (pS 7 (pS 6 (pS 2 (pS 1 (pU 0))))))))))))), rfl, m, (cB (cB ac af.le) ah.le), (by omega), (fun x h2 => if h3 : x = j then h3 ▸ (fun p => p.2.2.elim (fun h => h ((gY ae).2 (decP_true.1 ((xW (zO c a)).symm.trans be)))) bf) else hnd x (by omega)), am, al, ag, (cL (cL ad ai) aj), (zO (zO a f) ak)⟩))
 omega
 refine qW ?_
 refine qW ?_
 refine qW ?_
 refine qN (yB (v := .bool true) rfl rfl) ?_
 refine qD rfl (yB (v := .bool true) rfl rfl) (qe (zA ?_))
 refine qK rfl rfl (w9d ?_)
 refine qM ov ?_
 refine qM (vJ (i : Int)) ?_
 refine qI rfl (yV (E := eInt) (e := 3) [vJ (i : Int)] [(i : Int)] dE sz3 zr3 (by exact xP (by rfl)) (yZ (by rfl)) rfl rfl rfl rfl (by decide) m.pins (fun cc c6 c7 cd bi ea => ?_))
 have bj := m.step cd bi
 have ce := am.below bi
 have cf := al.below bi cd
 have c8 := c7.weaken m.size
 refine qI rfl (oA (E := eInt) (v := ov) (u := cc) 8 dE ap3 (by decide) rfl rfl bj.pins ce c8.src (bj.size) (fun cg eb c9 ch ci da => ?_))
 have ec := la1 out (i : Int)
 refine qM cg ?_
 refine qe (zA ?_)
 refine cQ (mR rfl (zX (yO (yK (w9c ?_)))))
 refine qD rfl (yH rfl rfl (by omega)) (qM (vJ ((i : Int) + 1)) ?_)
 refine qe (zV (⟨_, ?_, _, rfl, _, i + 1, cg, out ++ ([(i : Int)]), s, aa, (pS 17 (pS 16 (pS 15 (pS 7 (pS 6 (pS 2 (pS 1 (pU 0)))))))), rfl, (bj.write ch ci ((yD ce))), (cB (cB (cB ao ac) af.le) ah.le), (by omega), (by rw [pV (g := gX q xs) (lf := lf) (show j < xs.length by omega) ⟨au, (gY ae).2 (decP_true.1 ((xW (zO (zO c a) f)).symm.trans a2)), cF (fun h => (decP_false.1 ((xW (zO c a)).symm.trans be)) ((gY ae).1 h))⟩, hout]), c9, (cf.kept ci ch ab), ag, (cL (cL (cL ap ad) ai) aj), (zO (zO (zO c a) f) ak), (jX ab cf da)⟩))
 omega
 refine qW ?_
 refine qW ?_
 refine qW ?_
 refine qX ?_
 refine qX ?_
 refine qX ?_
 refine qW ?_
 refine qD rfl (zU (v := .bool false) rfl rfl) (qe (zA ?_))
 refine xT rfl rfl (cO (w9c ?_))
 refine qD rfl (yH rfl rfl (by omega)) (qM (vJ ((j : Int) + 1)) ?_)
 refine qe (zV (⟨_, ?_, _, rfl, _, j + 1, s, aa, (pS 24 (pS 23 (pS 22 (pS 17 (pS 16 (pS 15 (pS 9 (pS 8 (pS 7 (pS 6 (pS 2 (pS 1 (pU 0))))))))))))), rfl, m, (cB (cB ac af.le) ah.le), (by omega), (fun x h2 => if h3 : x = j then h3 ▸ (fun p => (decP_false.1 ((xW (zO (zO c a) f)).symm.trans a2)) ((gY ae).1 p.2.1)) else hnd x (by omega)), am, al, ag, (cL (cL ad ai) aj), (zO (zO a f) ak)⟩))
 omega
 refine cQ (zX (yO (yK (w9c ?_))))
 refine qD rfl (yH rfl rfl (by omega)) (qM (vJ ((i : Int) + 1)) ?_)
 refine qe (zV (⟨_, ?_, _, rfl, _, i + 1, ov, out, b, aq, (pS 17 (pS 16 (pS 15 (pS 7 (pS 6 (pS 2 (pS 1 (pU 0)))))))), rfl, aw, (cB ao ac), (by omega), (by rw [dom_miss (fun x h => hnd x (by omega)), hout]), a5, a6, ax, (cL ap ad), (zO c a), ab⟩))
 omega
 refine cQ (zX (yO (yK (w9a ?_))))
 refine qM ov ?_
 refine qM ov ?_
 refine qe (zA ?_)
 refine cP (zP (zQ (v := ov) rfl rfl rfl ?_))
 have hin : i = xs.length := by omega
 rw [hin] at hout
 exact ⟨_, d, _, rfl, (by rw [← hout]; exact bm), bn, az, ap, c, a4⟩
end DI1
namespace RI1
open B1 K1 PO1 PL1
theorem rK {p : Nat} {L R B : Value} {mm : PM} {w : World} {G : Pin} {q : PSt} {f c : Int} {x : Value} {xs : List Int} {lf : Bool} (hP : Pins G w) (hpk : Pk 56 3 G w p L R B mm q) (hok : PoolOk q) (hf : PlaceOk q f) (hc : PlaceOk q c) (hx : RSl eInt G x xs) (hxs : xs = (if lf = true then (q.ns.getD (c).toNat default).r else (q.ns.getD (c).toNat default).l)) (hxp : ∀ z ∈ xs, PlaceOk q z) :
  Calls Tryz.prog 109 #[vP p, vJ f, vJ c, .bool lf, x] w fun e w' => ∃ (t : Int) (q' : PSt) (G' : Pin), e = .returned (vJ t) ∧ thrP q.ns lf f c t ∧ Pk 56 3 G' w' p L R B mm q' ∧ PoolOk q' ∧ PX q q' ∧ (q'.ns = q.ns ∧ q'.bs = q.bs) ∧ Ext (inO (some mm.o)) G w G' w' := by
 refine zY (n := 38) Tryz.func109 Tryz.ntmps109 rfl rfl ?_
 have a2 := exr (inO (some mm.o)) hP
 have hpin : PIn w (inP p L R B mm) p L R B mm := PIn.self
 have bb := pkl q
 have bc := pkb hok
 have hm := hx.max
 refine w9d ?_
 refine qM (vJ 0) ?_
 refine qe (zA (w9b ?_))
 refine qM x ?_
 refine qD rfl (zM dE (v := x) rfl hx) (qM (vJ 0) ?_)
 refine qe (zA ?_)
 refine zZ (yR (fun k en W => ∃ (av : Nat → Value) (i : Nat) (a : PSt) (ac : Pin), en = (upd (upd (upd (upd (upd (upd av 0 (vP p)) 1 (vJ f)) 3 (.bool lf)) 13 x) 14 (vJ (xs.length : Int))) 15 (vJ (i : Int))) ∧ k = xs.length - i ∧ Ext (inO (some mm.o)) G w ac W ∧ Pin.le G ac ∧ (i ≤ xs.length) ∧ (lf = true → ∀ x, x < i → geB q.ns f (xs.getD x 0) = false) ∧ (lf = false → ∀ x, x < i → geB q.ns (xs.getD x 0) f = false) ∧ (Pk 56 3 ac W p L R B mm a) ∧ (PoolOk a) ∧ (PX q a) ∧ (a.ns = q.ns ∧ a.bs = q.bs)) _ ⟨_, 0, q, G, (pS 15 (pS 14 (pS 13 (pS 3 (pS 1 (pU 0)))))), rfl, a2, cJ _, cI _, (fun _ x h => absurd h (cK x)), (fun _ x h => absurd h (cK x)), hpk, hok, (PX.refl _), ⟨rfl, rfl⟩⟩ ?_)
 rintro k7 _ w8 ⟨av, i, a, ac, rfl, bf, y, ad, hi, hpt, hpf, af, aa, s, b⟩
 have bg := s.len
 have bh := pkl a
 have bi := pkb aa
 refine w9d ?_
 refine qD rfl (yU rfl rfl) (qe (zA (zB ?_)))
 refine yC (p := ((i : Int) : Int) < (xs.length : Int)) rfl rfl (fun a3 => ?_) (fun a3 => ?_)
 refine cO (zA (zB ?_))
 refine zZ (w9d ?_)
 refine qD rfl (zF dE sz3 (v := x) rfl rfl hx (by omega) (by omega)) (qD rfl (zG (r := xs.getD i 0) rfl ag3 (z := (i : Int)) rfl hx (cC y.pins ad) (by omega) (by omega)) (qM (vJ (xs.getD i 0)) ?_))
 refine qe (w9a ?_)
 refine qM (.bool lf) ?_
 refine qM (.bool lf) ?_
 refine qb (t := 20) rfl (fun g => ?_) (fun g => ?_)
 refine qN (zN (v := vP p) rfl) ?_
 refine qN (zN (v := vJ f) rfl) ?_
 refine qN (zN (v := vJ (xs.getD i 0)) rfl) ?_
 refine q1g rfl rfl rfl rfl rfl rfl (zL (vs := [vP p, vJ f, vJ (xs.getD i 0)]) Tryz.func97 nm97 rfl rfl rfl ?_)
 refine cD (tJ y.pins af aa (hf.same b) ((hxp _ (yE (d := (0 : Int)) (show i < xs.length by omega))).same b)) ?_
 rintro _ bj ⟨j, a4, rfl, ak, ae, ag, ab, al⟩
 refine rt9 ?_
 have ah := y.trans al (fun i hi => xN i hi)
 have bk := ag.len
 have bl := pkl j
 have bm := pkb ae
 have bn := cgA List.length ab.1
 refine qD rfl (yB (v := .bool (geB a.ns f (xs.getD i 0))) rfl rfl) (qM (.bool (geB a.ns f (xs.getD i 0))) ?_)
 refine qb (t := 26) rfl (fun am => ?_) (fun am => ?_)
 refine qW ?_
 refine qW ?_
 refine qW ?_
 refine qX ?_
 refine qX ?_
 refine qX ?_
 refine qX ?_
 refine qW ?_
 refine qD rfl (yB (v := .bool true) rfl rfl) (qe (zA ?_))
 refine qK rfl rfl (w9d ?_)
 refine qM (vJ (xs.getD i 0)) ?_
 refine qM (vJ (xs.getD i 0)) ?_
 refine qe (zA ?_)
 refine cP (zP (zQ (v := vJ (xs.getD i 0)) rfl rfl rfl ?_))
 have hmem : xs.getD i 0 ∈ xs := yE (show i < xs.length by omega)
 rw [g, if_pos rfl] at hxs
 exact ⟨_, j, _, rfl, pK hok.ar.opts hc (cF ⟨g, hxs ▸ hmem, ((xW b).symm.trans am)⟩), ak, ae, (cL s ag), (zO b ab), ah⟩
 refine qN (zN (v := .bool lf) rfl) ?_
 refine qN (xD rfl) ?_
 refine qN (zN (v := .bool (!lf)) rfl) ?_
 refine qbn (t := 29) rfl (fun ai => ?_) (fun ai => ?_)
 refine qW ?_
 refine qW ?_
 refine qW ?_
 refine qW ?_
 refine qN (zU (v := .bool false) rfl rfl) ?_
 refine qD rfl (zU (v := .bool false) rfl rfl) (qe (zA ?_))
 refine xT rfl rfl (cO (w9c ?_))
 refine qD rfl (yH rfl rfl (by omega)) (qM (vJ ((i : Int) + 1)) ?_)
 refine qe (zV (⟨_, ?_, _, rfl, _, i + 1, j, a4, (pS 15 (pS 14 (pS 13 (pS 3 (pS 1 (pU 0)))))), rfl, ah, (cB ad al.le), (by omega), (fun hl x h2 => if h3 : x = i then h3 ▸ ((xW b).symm.trans am) else hpt hl x (by omega)), (fun hl => absurd (g.symm.trans hl) (by decide)), ak, ae, (cL s ag), (zO b ab)⟩))
 omega
 refine qN (zN (v := vP p) rfl) ?_
 refine qN (zN (v := vJ (xs.getD i 0)) rfl) ?_
 refine qN (zN (v := vJ f) rfl) ?_
 refine q1g rfl rfl rfl rfl rfl rfl (zL (vs := [vP p, vJ (xs.getD i 0), vJ f]) Tryz.func97 nm97 rfl rfl rfl ?_)
 refine cD (tJ ah.pins ak ae ((hxp _ (yE (d := (0 : Int)) (show i < xs.length by omega))).same (zO b ab)) (hf.same (zO b ab))) ?_
 rintro _ bo ⟨u, a6, rfl, a7, an, aw, ax, ay⟩
 refine rt9 ?_
 have a8 := ah.trans ay (fun i hi => xN i hi)
 have bp := aw.len
 have bq := pkl u
 have br := pkb an
 have bt := cgA List.length ax.1
 refine qN (yB (v := .bool (geB j.ns (xs.getD i 0) f)) rfl rfl) ?_
 refine qD rfl (zU (v := .bool (geB j.ns (xs.getD i 0) f)) rfl rfl) (qe (zA ?_))
 refine c_if rfl rfl (fun a9 => ?_) (fun a9 => ?_)
 refine w9d ?_
 refine qM (vJ (xs.getD i 0)) ?_
 refine qM (vJ (xs.getD i 0)) ?_
 refine qe (zA ?_)
 exact cP (zP (zQ (v := vJ (xs.getD i 0)) rfl rfl rfl ((absurd (ai.symm.trans g) Bool.false_ne_true))))
 refine cO (w9c ?_)
 refine qD rfl (yH rfl rfl (by omega)) (qM (vJ ((i : Int) + 1)) ?_)
 refine qe (zV (⟨_, ?_, _, rfl, _, i + 1, u, a6, (pS 15 (pS 14 (pS 13 (pS 3 (pS 1 (pU 0)))))), rfl, a8, (cB (cB ad al.le) ay.le), (by omega), (absurd (ai.symm.trans g) Bool.false_ne_true), (absurd (ai.symm.trans g) Bool.false_ne_true), a7, an, (cL (cL s ag) aw), (zO (zO b ab) ax)⟩))
 omega
 refine qW ?_
 refine qW ?_
 refine qW ?_
 refine qW ?_
 refine qD rfl (zU (v := .bool false) rfl rfl) (qM (.bool false) ?_)
 refine qN (zN (v := .bool lf) rfl) ?_
 refine qN (xD rfl) ?_
 refine qN (zN (v := .bool (!lf)) rfl) ?_
 refine qbn (t := 29) rfl (fun ao => ?_) (fun ao => ?_)
 refine qW ?_
 refine qW ?_
 refine qW ?_
 refine qW ?_
 refine qN (zU (v := .bool false) rfl rfl) ?_
 refine qD rfl (zU (v := .bool false) rfl rfl) (qe (zA ?_))
 refine xT rfl rfl (cO (w9c ?_))
 refine qD rfl (yH rfl rfl (by omega)) (qM (vJ ((i : Int) + 1)) ?_)
 refine qe (zV (⟨_, ?_, _, rfl, _, i + 1, a, ac, (pS 15 (pS 14 (pS 13 (pS 3 (pS 1 (pU 0)))))), rfl, y, ad, (by omega), (absurd (g.symm.trans ao) Bool.false_ne_true), (absurd (g.symm.trans ao) Bool.false_ne_true), af, aa, s, b⟩))
 omega
 refine qN (zN (v := vP p) rfl) ?_
 refine qN (zN (v := vJ (xs.getD i 0)) rfl) ?_
 refine qN (zN (v := vJ f) rfl) ?_
 refine q1g rfl rfl rfl rfl rfl rfl (zL (vs := [vP p, vJ (xs.getD i 0), vJ f]) Tryz.func97 nm97 rfl rfl rfl ?_)
 refine cD (tJ y.pins af aa ((hxp _ (yE (d := (0 : Int)) (show i < xs.length by omega))).same b) (hf.same b)) ?_
 rintro _ bu ⟨m, ba, rfl, az, aj, ap, aq, a0⟩
 refine rt9 ?_
 have a1 := y.trans a0 (fun i hi => xN i hi)
 have bv := ap.len
 have bw := pkl m
 have bx := pkb aj
 have bz := cgA List.length aq.1
 refine qN (yB (v := .bool (geB a.ns (xs.getD i 0) f)) rfl rfl) ?_
 refine qD rfl (zU (v := .bool (geB a.ns (xs.getD i 0) f)) rfl rfl) (qe (zA ?_))
 refine c_if rfl rfl (fun au => ?_) (fun au => ?_)
 refine w9d ?_
 refine qM (vJ (xs.getD i 0)) ?_
 refine qM (vJ (xs.getD i 0)) ?_
 refine qe (zA ?_)
 refine cP (zP (zQ (v := vJ (xs.getD i 0)) rfl rfl rfl ?_))
 have hmem : xs.getD i 0 ∈ xs := yE (show i < xs.length by omega)
 rw [g, if_neg Bool.false_ne_true] at hxs
 exact ⟨_, m, _, rfl, pK hok.ar.opts hc (cG ⟨g, hxs ▸ hmem, ((xW b).symm.trans au)⟩), az, aj, (cL s ap), (zO b aq), a1⟩
 refine cO (w9c ?_)
 refine qD rfl (yH rfl rfl (by omega)) (qM (vJ ((i : Int) + 1)) ?_)
 refine qe (zV (⟨_, ?_, _, rfl, _, i + 1, m, ba, (pS 15 (pS 14 (pS 13 (pS 3 (pS 1 (pU 0)))))), rfl, a1, (cB ad a0.le), (by omega), (fun hl => absurd (g.symm.trans hl) (by decide)), (fun hl x h2 => if h3 : x = i then h3 ▸ ((xW b).symm.trans au) else hpf hl x (by omega)), az, aj, (cL s ap), (zO b aq)⟩))
 omega
 refine cQ (zX (yO (yK (w9a ?_))))
 refine qM (vJ (-1)) ?_
 refine qe (zA ?_)
 refine cP (zP (zQ (v := vJ (-1)) rfl rfl rfl ?_))
 have hii : i = xs.length := by omega
 refine ⟨_, a, _, rfl, ?_, af, aa, s, b, y⟩
 cases hlf : lf
 ·rw [hlf, if_neg Bool.false_ne_true] at hxs
  exact sE hok.ar.opts hc (fun k hk => by rw [← hxs] at hk ⊢; exact hpf hlf k (by omega))
 ·rw [hlf, if_pos rfl] at hxs
  exact sD hok.ar.opts hc (fun k hk => by rw [← hxs] at hk ⊢; exact hpt hlf k (by omega))
end RI1
namespace CN1
open B1 K1 PO1 PL1 DI1 RI1
theorem rH {w : World} {G : Pin} {x y : Value} {xs D : List Int} (hP : Pins G w) (hx : RSl eInt G x xs) (hy : RSl eInt G y D) (hxl : xs.length ≤ 1048576) (hpw : D.Pairwise (· < ·)) (hD0 : ∀ z ∈ D, 0 ≤ z) :
  Calls Tryz.prog 110 #[x, y] w fun e w' => ∃ (u : Value) (G' : Pin), e = .returned u ∧ Own eInt 3 G' w' w.heap.size u (woL xs D xs.length) ∧ Ext noS G w G' w' := by
 refine zY (n := 34) Tryz.func110 Tryz.ntmps110 rfl rfl ?_
 have h := exr noS hP
 have hm := hx.max
 have a6 := hy.max
 refine w9d ?_
 refine qM vN ?_
 refine qe (w9a ?_)
 refine qI rfl (xE (E := eInt) (e := 3) dE sz3 h.pins (fun j w2 ai aj ak a7 => ?_))
 have al := ai.weaken h.size
 refine qM j ?_
 refine qe (zA (w9b ?_))
 refine qM x ?_
 refine qD rfl (zM dE (v := x) rfl hx) (qM (vJ 0) ?_)
 refine qe (zA ?_)
 refine zZ (yR (fun k en W => ∃ (o : Nat → Value) (i : Nat) (pv : Value) (ds : List Int) (ov : Value) (out : List Int) (a : Pin), en = (upd (upd (upd (upd (upd (upd o 1 pv) 4 vN) 5 ov) 9 x) 10 (vJ (xs.length : Int))) 11 (vJ (i : Int))) ∧ k = xs.length - i ∧ Ext noS G w a W ∧ Pin.le G a ∧ (i ≤ xs.length) ∧ (WoOk D ds i) ∧ (out = woL xs D i) ∧ (Own eInt 3 a W w.heap.size ov (out)) ∧ (RSl eInt a pv (ds))) _ ⟨_, 0, y, D, j, [], G, (pS 11 (pS 10 (pS 9 (pS 5 (pS 4 (pU 1)))))), rfl, (h.step aj ak), cJ _, cI _, (WoOk.start hpw hD0), rfl, al, hy⟩ ?_)
 rintro k9 _ a9 ⟨o, i, pv, ds, ov, out, a, rfl, ba, b, f, hi, hwo, hout, g, c⟩
 have hol : out.length ≤ i := by rw [hout]; exact mM i
 refine w9d ?_
 refine qD rfl (yU rfl rfl) (qe (zA (zB ?_)))
 refine yC (p := ((i : Int) : Int) < (xs.length : Int)) rfl rfl (fun am => ?_) (fun am => ?_)
 refine cO (zA (zB ?_))
 refine zZ (w9d ?_)
 refine qM (vJ (i : Int)) ?_
 refine qD rfl (zF dE sz3 (v := x) rfl rfl hx (by omega) (by omega)) (qD rfl (zG (r := xs.getD i 0) rfl ag3 (z := (i : Int)) rfl hx (cC b.pins f) (by omega) (by omega)) (qM (vJ (i : Int)) ?_))
 refine qM (vJ (xs.getD i 0)) ?_
 refine qe (zA (w9b ?_))
 refine qM pv ?_
 refine qD rfl (zM dE (v := pv) rfl c) (qD rfl (jW rfl rfl) (qM (.bool (decide ((0 : Int) < (ds.length : Int)))) ?_))
 refine qbd (p := (0 : Int) < (ds.length : Int)) (t := 19) rfl (fun an => ?_) (fun an => ?_)
 refine qN (zN (v := pv) rfl) ?_
 refine qN (zF dE sz3 (v := pv) rfl rfl c (by omega) (by omega)) ?_
 refine qN (zG (r := ds.getD 0 0) rfl ag3 (z := 0) rfl c b.pins (by omega) (by omega)) ?_
 refine qN (zN (v := vJ (i : Int)) rfl) ?_
 refine qN (xO rfl rfl) ?_
 refine qD rfl (yB (v := .bool (decide ((ds.getD 0 0 : Int) = (i : Int)))) rfl rfl) (qe (zA ?_))
 refine yC (p := (ds.getD 0 0 : Int) = (i : Int)) rfl rfl (fun d => ?_) (fun d => ?_)
 refine w9d ?_
 refine qM pv ?_
 obtain ⟨q, ao, ap⟩ := qU c (lo := some (1)) (hi := none) (1) (ds.length) (cG ⟨_, rfl, (by omega), rfl⟩) (cF ⟨rfl, rfl⟩) (by omega) (by omega)
 refine qD rfl (ap dE sz3 rfl rfl rfl) (qM q ?_)
 refine qe (zA ?_)
 refine cQ (zX (yK (zA (zC ?_))))
 refine qD rfl (yH rfl rfl (by omega)) (qM (vJ ((i : Int) + 1)) ?_)
 refine qe (zV (⟨_, ?_, _, rfl, _, i + 1, q, (ds.take ds.length).drop 1, ov, out, a, (pS 11 (pS 10 (pS 9 (pS 5 (pS 4 (pU 1)))))), rfl, b, f, (by omega), (by rw [List.take_length]; exact (hwo.hit (by omega) d).1), (by rw [show woL xs D (i + 1) = woL xs D i from if_pos (hwo.hit (by omega) d).2, hout]), g, ao⟩))
 omega
 refine cO (zA (zC ?_))
 refine qM ov ?_
 refine qM (vJ (xs.getD i 0)) ?_
 refine qI rfl (yV (E := eInt) (e := 3) [vJ (xs.getD i 0)] [xs.getD i 0] dE sz3 zr3 (by exact xP (by rfl)) (yZ (by rfl)) rfl rfl rfl rfl (by decide) b.pins (fun s aq ar au aa bb => ?_))
 have l := b.step au aa
 have ab := g.below aa
 have av := ar.weaken b.size
 refine qI rfl (oA (E := eInt) (v := ov) (u := s) 8 dE ap3 (by decide) rfl rfl l.pins ab av.src (l.size) (fun ac bc aw ax ay bd => ?_))
 have be := la1 out (xs.getD i 0)
 refine qM ac ?_
 refine qe (w9c ?_)
 refine qD rfl (yH rfl rfl (by omega)) (qM (vJ ((i : Int) + 1)) ?_)
 refine qe (zV (⟨_, ?_, _, rfl, _, i + 1, pv, ds, ac, out ++ ([xs.getD i 0]), a, (pS 11 (pS 10 (pS 9 (pS 5 (pS 4 (pU 1)))))), rfl, (l.write ax ay ((yD ab))), f, (by omega), (hwo.miss (cG d)).1, (by rw [show woL xs D (i + 1) = woL xs D i ++ [xs.getD i 0] from if_neg (hwo.miss (cG d)).2, hout]), aw, c⟩))
 omega
 refine qW ?_
 refine qW ?_
 refine qW ?_
 refine qW ?_
 refine qW ?_
 refine qD rfl (zU (v := .bool false) rfl rfl) (qe (zA ?_))
 refine xT rfl rfl (cO (zA (zC ?_)))
 refine qM ov ?_
 refine qM (vJ (xs.getD i 0)) ?_
 refine qI rfl (yV (E := eInt) (e := 3) [vJ (xs.getD i 0)] [xs.getD i 0] dE sz3 zr3 (by exact xP (by rfl)) (yZ (by rfl)) rfl rfl rfl rfl (by decide) b.pins (fun ad az a0 a1 ae bf => ?_))
 have m := b.step a1 ae
 have af := g.below ae
 have a2 := a0.weaken b.size
 refine qI rfl (oA (E := eInt) (v := ov) (u := ad) 8 dE ap3 (by decide) rfl rfl m.pins af a2.src (m.size) (fun ag bg a3 a4 a5 bh => ?_))
 have bi := la1 out (xs.getD i 0)
 refine qM ag ?_
 refine qe (w9c ?_)
 refine qD rfl (yH rfl rfl (by omega)) (qM (vJ ((i : Int) + 1)) ?_)
 refine qe (zV (⟨_, ?_, _, rfl, _, i + 1, pv, ds, ag, out ++ ([xs.getD i 0]), a, (pS 11 (pS 10 (pS 9 (pS 5 (pS 4 (pU 1)))))), rfl, (m.write a4 a5 ((yD af))), f, (by omega), (hwo.miss (cF (by omega))).1, (by rw [show woL xs D (i + 1) = woL xs D i ++ [xs.getD i 0] from if_neg (hwo.miss (cF (by omega))).2, hout]), a3, c⟩))
 omega
 refine cQ (zX (yO (yK (w9a ?_))))
 refine qM ov ?_
 refine qM ov ?_
 refine qe (zA ?_)
 refine cP (zP (zQ (v := ov) rfl rfl rfl ?_))
 have hin : i = xs.length := by omega
 rw [hin] at hout
 exact ⟨_, _, rfl, (by rw [← hout]; exact g), b⟩
def CanP (N m p : Nat) (mm : PM) : Prop := ∀ {w : World} {G : Pin} {L R B : Value} {q : PSt} {f : Int} (_ : Pins G w) (_ : Pk 56 3 G w p L R B mm q) (_ : PoolOk q) (_ : PlaceOk q f) (_ : f < (N : Int)) (_ : q.ns.length + unc q N < 1048576), f.toNat < m →
  Calls Tryz.prog 68 #[.pointer (some ⟨p, 0, none⟩), .int .i64 f] w fun e w' => ∃ (z : Int) (L' R' B' : Value) (q' : PSt) (G' : Pin), e = .returned (.int .i64 z) ∧ Pk 56 3 G' w' p L' R' B' mm q' ∧ PoolOk q' ∧ PX q q' ∧ PLo w p L R B mm L' R' B' ∧ Ext (inP p L R B mm) G w G' w' ∧ PlaceOk q' z ∧ CanonG (pd q' z) ∧ eqG (pd q' z) (pd q' f) ∧ q'.ns.length + unc q' N ≤ q.ns.length + unc q N
end CN1
namespace CN2
open B1 K1 PO1 PL1 DI1 RI1 CN1
theorem reduced_t {w : World} {G : Pin} {L R B : Value} {q : PSt} {f : Int} {p : Nat} {mm : PM} {N m : Nat} (hP : Pins G w) (hpk : Pk 56 3 G w p L R B mm q) (hok : PoolOk q) (hf : PlaceOk q f) (hfN : f < (N : Int)) (hbud : q.ns.length + unc q N < 1048576) (ih : CanP N m p mm) (hm : f.toNat < m + 1) :
  Calls Tryz.prog 94 #[vP p, vJ f, .bool true] w fun e w' => ∃ (u : Value) (zs : List Int) (L' R' B' : Value) (q' : PSt) (G' : Pin), e = .returned u ∧ Pk 56 3 G' w' p L' R' B' mm q' ∧ PoolOk q' ∧ PX q q' ∧ PLo w p L R B mm L' R' B' ∧ Ext (inP p L R B mm) G w G' w' ∧ Own eInt 3 G' w' w.heap.size u zs ∧ NP p L' R' B' mm u.ownBlock ∧ ReOk q' true f zs ∧ q'.ns.length + unc q' N ≤ q.ns.length + unc q N := by
 refine zY (n := 120) Tryz.func94 Tryz.ntmps94 rfl rfl ?_
 have bo := exr (inP p L R B mm) hP
 have hpin : PIn w (inP p L R B mm) p L R B mm := PIn.self
 have fu := pkl q
 have fv := pkb hok
 have fw := hf.1
 have fx := hf.2
 have dz := ol_len hok (lf := true) hf
 have fy : (q.ns.getD (f).toNat default).l.length ≤ 1048576 := dz
 refine w9d ?_
 refine qM vN ?_
 refine qe (w9a ?_)
 refine qI rfl (xE (E := eInt) (e := 3) dE sz3 bo.pins (fun u3 w4 d1 cn co d2 => ?_))
 have bp := bo.step cn co
 have cp := hpk.below co cn
 have d3 := hpk.new (x := u3.ownBlock) (fun k hk => by rw [d2] at hk; cases hk; exact cH _)
 have d4 := d1.weaken bo.size
 refine qI rfl (vD (fun k : Int => Value.int .i64 k) (fun v : Bool => Value.bool v) bp.pins (fun t fz f0 d5 cq bq => ?_))
 have br := bp.step cq bq
 have cr := d4.below bq
 have cs := cp.below bq cq
 have d6 := cp.new (x := some t) (fun k hk => by cases hk; omega)
 have d7 : w.heap.size ≤ t := by have := bp.size; omega
 refine qI rfl (xE (E := eInt) (e := 3) dE sz3 br.pins (fun ab d8 d9 ct ba cu => ?_))
 have bt := br.step ct ba
 have ea := cr.below ba
 have eb := d5.below ba
 have ag := cs.below ba ct
 have ec := zE cu cr.lt
 have ed := cs.new (x := ab.ownBlock) (fun k hk => by rw [cu] at hk; cases hk; exact cH _)
 have ee := d9.weaken br.size
 refine qM u3 ?_
 refine qM (.map (some t)) ?_
 refine qM ab ?_
 refine qe (w9a ?_)
 refine qM (vP p) ?_
 refine qD rfl (yY rfl) (qD rfl (zH (k := 1) rfl dN rfl nz95 rfl) (qD rfl (zJ (u := R) ag95 rfl (ag.bx.cell (o := 1) rfl)) (qM (vJ f) ?_)))
 refine qD rfl (zF dV sz56 (v := R) rfl rfl ag.rr.read (by omega) (by omega)) ?_
 obtain ⟨ef, cv, eg⟩ := kP (ag.rr.at (z := f) (by omega) (by omega)) (j := (f).toNat) rfl
 rw [vE] at cv
 have f1 := cv.max
 refine qD rfl (eg ag56 rfl (cM bt.pins R)) (qM ef ?_)
 refine qe (zA (w9b ?_))
 refine qM (.bool true) ?_
 refine qe (zA ?_)
 refine qK rfl rfl (zC (qM (vP p) ?_))
 refine qD rfl (yY rfl) (qD rfl (zH (k := 0) rfl dN rfl nz95 rfl) (qD rfl (zJ (u := L) ag95 rfl (ag.bx.cell (o := 0) rfl)) (qM (vJ f) ?_)))
 refine qD rfl (zF dV sz56 (v := L) rfl rfl ag.ol.read (by omega) (by omega)) ?_
 obtain ⟨av, aw, eh⟩ := kP (ag.ol.at (z := f) (by omega) (by omega)) (j := (f).toNat) rfl
 rw [vF] at aw
 have f2 := aw.max
 refine qD rfl (eh ag56 rfl (cM bt.pins L)) (qM av ?_)
 refine qe (zA (w9b ?_))
 refine qM av ?_
 refine qD rfl (zM dE (v := av) rfl aw) (qM (vJ 0) ?_)
 refine qe (zA ?_)
 refine zZ (yR (fun k en W => ∃ (ax : Nat → Value) (j : Nat) (qv : Value) (qs : List Int) (b : Value) (h : Value) (y : Value) (a : PSt) (ac : Pin), en = (upd (upd (upd (upd (upd (upd (upd (upd (upd (upd ax 0 (vP p)) 1 (vJ f)) 2 (.bool true)) 6 vN) 7 qv) 8 (.map (some t))) 9 ab) 34 av) 35 (vJ (((q.ns.getD (f).toNat default).l).length : Int))) 36 (vJ (j : Int))) ∧ k = (q.ns.getD (f).toNat default).l.length - j ∧ Ext (inP p L R B mm) G w ac W ∧ Pin.le G ac ∧ (j ≤ (q.ns.getD (f).toNat default).l.length) ∧ (QOk q a (q.ns.getD (f).toNat default).l qs j) ∧ (a.ns.length + unc a N ≤ q.ns.length + unc q N) ∧ (Own eInt 3 ac W w.heap.size qv (qs)) ∧ (Own eInt 3 ac W w.heap.size ab ([])) ∧ (Apart qv.ownBlock ab.ownBlock) ∧ (Mp (fun k : Int => Value.int .i64 k) (fun v : Bool => Value.bool v) W t ([])) ∧ (Pk 56 3 ac W p b h y mm a) ∧ (PIn w ((inP p L R B mm)) p b h y mm) ∧ (PoolOk a) ∧ (PX q a) ∧ (NP p b h y mm qv.ownBlock) ∧ (NP p b h y mm ab.ownBlock) ∧ (NP p b h y mm (some t))) _ ⟨_, 0, u3, [], L, R, B, q, G, (pS 36 (pS 35 (pS 34 (pS 9 (pS 8 (pS 7 (pS 6 (pS 2 (pS 1 (pU 0)))))))))), rfl, bt, cJ _, cI _, QOk.start, cH _, ea, ee, ec.symm, eb, ag, hpin, hok, (PX.refl _), d3, ed, d6⟩ ?_)
 rintro f3 _ f4 ⟨ax, j, qv, qs, b, h, y, a, ac, rfl, f5, ay, cw, hj, hqo, hbu, bu, bv, bw, bz, cx, az, aa, ah, b0, b1, bb⟩
 have f6 := ah.len
 have f7 := pkl a
 have f8 := pkb aa
 have f9 := hqo.len
 refine w9d ?_
 refine qD rfl (yU rfl rfl) (qe (zA (zB ?_)))
 refine yC (p := ((j : Int) : Int) < (((q.ns.getD (f).toNat default).l).length : Int)) rfl rfl (fun ei => ?_) (fun ei => ?_)
 have hmj : (q.ns.getD (f).toNat default).l.getD j 0 ∈ (q.ns.getD (f).toNat default).l := yE (show j < (q.ns.getD (f).toNat default).l.length by omega)
 have hoj := (jO hok hf).1 _ hmj
 have ga := hoj.1
 have hoz := ((xB hok.ar.opts (show (f).toNat < q.ns.length by omega)).1 _ hmj).2
 refine cO (zA (zB ?_))
 refine zZ (w9d ?_)
 refine qD rfl (zF dE sz3 (v := av) rfl rfl aw (by omega) (by omega)) (qD rfl (zG (r := ((q.ns.getD (f).toNat default).l).getD j 0) rfl ag3 (z := (j : Int)) rfl aw (cC ay.pins cw) (by omega) (by omega)) (qM (vJ (((q.ns.getD (f).toNat default).l).getD j 0)) ?_))
 refine qe (zA (zC ?_))
 refine qM qv ?_
 refine qM (vP p) ?_
 refine qM (vJ (((q.ns.getD (f).toNat default).l).getD j 0)) ?_
 refine qI rfl (zL (vs := [vP p, vJ (((q.ns.getD (f).toNat default).l).getD j 0)]) Tryz.func68 nm68 rfl rfl rfl ?_)
 refine cD (ih ay.pins cx aa (ah.place hoj) (by omega) (by omega) (by omega)) ?_
 rintro _ gb ⟨a0, ej, ek, el, ad, cy, rfl, em, bc, b2, bd, a1, eo, ep, eq, er⟩
 refine rt9 ?_
 have b3 := ay.trans a1 az
 have cz := NP.call b0 bd (qG bu)
 have es := bz.extS a1 (NP.notb bb)
 have et := NP.call bb bd (fun j hj => by cases hj; exact bz.lt)
 have eu := PIn.call az bd ay.size
 have gc := b2.len
 have gd := pkl ad
 have ge := pkb bc
 refine qI rfl (yV (E := eInt) (e := 3) [vJ a0] [a0] dE sz3 zr3 (by exact xP (by rfl)) (yZ (by rfl)) rfl rfl rfl rfl (by decide) b3.pins (fun c0 ev ew c1 a2 gf => ?_))
 have b4 := b3.step c1 a2
 have b5 := (bu.extS a1 b0).below a2
 have c2 := (bv.extS a1 b1).below a2
 have c3 := es.below a2
 have c4 := em.below a2 c1
 have ex := ew.weaken b3.size
 refine qI rfl (oA (E := eInt) (v := qv) (u := c0) 8 dE ap3 (by decide) rfl rfl b4.pins b5 ex.src (b4.size) (fun c5 gg ey c6 be c7 => ?_))
 have ez := c3.kept be (yT c3 b5)
 have gh := la1 qs a0
 refine qM c5 ?_
 refine qe (w9c ?_)
 refine qD rfl (yH rfl rfl (by omega)) (qM (vJ ((j : Int) + 1)) ?_)
 refine qe (zV (⟨_, ?_, _, rfl, _, j + 1, c5, qs ++ ([a0]), ej, ek, el, ad, cy, (pS 36 (pS 35 (pS 34 (pS 9 (pS 8 (pS 7 (pS 6 (pS 2 (pS 1 (pU 0)))))))))), rfl, (b4.write c6 be ((yD b5))), (cB cw a1.le), (by omega), (hqo.step hok aa bc ah b2 hoj eo ep eq), (by have := er; omega), ey, (c2.keptA be bw.symm), (zD bw.symm c7 c2.lt).symm, ez, (c4.kept be c6 cz), eu, bc, (cL ah b2), (jX cz c4 c7), (NP.call b1 bd (qG bv)), et⟩))
 omega
 refine cQ (zX (yO (yK (zA (zB ?_)))))
 refine zZ ?_
 have hjn : j = (q.ns.getD (f).toNat default).l.length := by omega
 rw [hjn] at hqo
 have e0 : RdW a true (pd a f) qs [] [] := by rw [ah.pd hok aa hf]; exact hqo.rd (lf := true) hok hf (by unfold ol; rw [if_pos rfl])
 have hq2l := hqo.len
 have e1 := ah.place hf
 refine yR (fun k en W => ∃ (ax : Nat → Value) (wv : Value) (wl : List Int) (kv : Value) (kept : List Int) (sn : List (Int × Bool)) (ss : List Int) (d : PSt) (ai : Pin), en = (upd (upd (upd (upd (upd (upd (upd ax 0 (vP p)) 1 (vJ f)) 2 (.bool true)) 6 vN) 7 wv) 8 (.map (some t))) 9 kv) ∧ k = (a.ns.length - ss.length) * 1048577 + wl.length ∧ Ext (inP p L R B mm) G w ai W ∧ Pin.le ac ai ∧ (RdW a true (pd a f) wl ss kept) ∧ (SnOk sn ss) ∧ (wl.length ≤ 1048576 + 1048576 * ss.length) ∧ (Own eInt 3 ai W w.heap.size wv (wl)) ∧ (Own eInt 3 ai W w.heap.size kv (kept)) ∧ (Apart wv.ownBlock kv.ownBlock) ∧ (Mp (fun k : Int => Value.int .i64 k) (fun v : Bool => Value.bool v) W t (sn)) ∧ (Pk 56 3 ai W p b h y mm d) ∧ (PoolOk d) ∧ (PX a d) ∧ (d.ns = a.ns ∧ d.bs = a.bs) ∧ (NP p b h y mm wv.ownBlock) ∧ (NP p b h y mm kv.ownBlock)) _ ⟨_, qv, qs, ab, [], [], [], a, ac, (pS 9 (pS 8 (pS 7 (pS 6 (pS 2 (pS 1 (pU 0))))))), rfl, ay, cJ _, e0, SnOk.start, (by simp; omega), bu, bv, bw, bz, cx, aa, (PX.refl _), ⟨rfl, rfl⟩, b0, b1⟩ ?_
 rintro gi _ gj ⟨ax, wv, wl, kv, kept, sn, ss, d, ai, rfl, gk, a3, b6, hrd, hsn, hwl, am, bf, e2, a4, b7, aj, an, s, e3, ao⟩
 have gl := an.len
 have gm := pkl d
 have gn := pkb aj
 have hrl := hrd.len
 refine w9b ?_
 refine qM wv ?_
 refine qD rfl (zM dE (v := wv) rfl am.read) (qD rfl (jW rfl rfl) (qe (zA ?_)))
 refine yC (p := (0 : Int) < (wl.length : Int)) rfl rfl (fun e4 => ?_) (fun e4 => ?_)
 have hpm : ((wl.length : Int) - 1).toNat + 1 = wl.length := by omega
 have hpa := hrd.at_ hpm
 have gp := hpa.1
 have gq := hpa.2
 refine cO (zA (zZ (w9d ?_)))
 refine qM wv ?_
 refine qM wv ?_
 refine qD rfl (zM dE (v := wv) rfl am.read) (qD rfl (xY rfl rfl (by omega)) (qD rfl (zF dE sz3 (v := wv) rfl rfl am.read (by omega) (by omega)) (qD rfl (zG (r := wl.getD ((wl.length : Int) - 1).toNat 0) rfl ag3 (z := (wl.length : Int) - 1) rfl am.read (cM a3.pins wv) (by omega) (by omega)) (qM (vJ (wl.getD ((wl.length : Int) - 1).toNat 0)) ?_))))
 refine qe (w9a ?_)
 refine qM wv ?_
 refine qM wv ?_
 refine qD rfl (zM dE (v := wv) rfl am.read) (qD rfl (xY rfl rfl (by omega)) ?_)
 obtain ⟨ak, b8, c8, e5⟩ := own_cut am (((wl.length : Int) - 1).toNat) ((wl.length : Int) - 1) (by omega) rfl (by omega) (by omega)
 have a5 : Apart ak.ownBlock kv.ownBlock := by rw [c8]; exact e2
 have a6 := (show NP _ _ _ _ _ ak.ownBlock by rw [c8]; exact e3)
 refine qD rfl (e5 dE sz3 rfl rfl rfl) (qM ak ?_)
 refine qe (zA (w9b ?_))
 refine qM (.map (some t)) ?_
 refine qM (vJ (wl.getD ((wl.length : Int) - 1).toNat 0)) ?_
 refine qD rfl (gL (k := wl.getD ((wl.length : Int) - 1).toNat 0) (fT dS) Tryz.underlying130 zr4 a4 rfl rfl) (qe (zA ?_))
 refine c_if rfl rfl (fun bg => ?_) (fun bg => ?_)
 refine cQ (zX (yK (zV ?_)))
 have htl : (wl.take ((wl.length : Int) - 1).toNat).length = ((wl.length : Int) - 1).toNat := by rw [List.length_take]; omega
 refine ⟨_, ?_, _, rfl, _, ak, wl.take ((wl.length : Int) - 1).toNat, kv, kept, sn, ss, d, ai, (pS 9 (pS 8 (pS 7 (pS 6 (pS 2 (pS 1 (pU 0))))))), rfl, a3, b6, ((hrd.pop hpm).seen (hsn.yes bg)), hsn, (by omega), b8, bf, a5, a4, b7, aj, an, s, a6, ao⟩
 omega
 refine cO (w9a ?_)
 refine qM (.map (some t)) ?_
 refine qM (vJ (wl.getD ((wl.length : Int) - 1).toNat 0)) ?_
 refine q0 rfl rfl rfl (qS (val := (fun v : Bool => Value.bool v)) (k := wl.getD ((wl.length : Int) - 1).toNat 0) (v := true) (fT dS) Tryz.underlying130 rfl rfl rfl a3.pins a4 (fun gr e6 c9 bh gs => ?_))
 have bi := a3.write c9 bh ((zS d7))
 have al := b7.kept bh c9 bb
 refine qe (w9a ?_)
 refine qM (vP p) ?_
 refine qD rfl (yY rfl) (qD rfl (zH (k := 0) rfl dN rfl nz95 rfl) (qD rfl (zJ (u := b) ag95 rfl (al.bx.cell (o := 0) rfl)) (qM (vJ (wl.getD ((wl.length : Int) - 1).toNat 0)) ?_)))
 refine qD rfl (zF dV sz56 (v := b) rfl rfl al.ol.read (by omega) (by omega)) ?_
 obtain ⟨e7, da, e8⟩ := kP (al.ol.at (z := wl.getD ((wl.length : Int) - 1).toNat 0) (by omega) (by omega)) (j := (wl.getD ((wl.length : Int) - 1).toNat 0).toNat) rfl
 rw [vF] at da
 have gt := da.max
 refine qD rfl (e8 ag56 rfl (cM bi.pins b)) (qM e7 ?_)
 refine qe (zA (w9b ?_))
 refine qM (.bool true) ?_
 refine qe (zA ?_)
 refine qK rfl rfl (zC (qM (vP p) ?_))
 refine qD rfl (yY rfl) (qD rfl (zH (k := 1) rfl dN rfl nz95 rfl) (qD rfl (zJ (u := h) ag95 rfl (al.bx.cell (o := 1) rfl)) (qM (vJ (wl.getD ((wl.length : Int) - 1).toNat 0)) ?_)))
 refine qD rfl (zF dV sz56 (v := h) rfl rfl al.rr.read (by omega) (by omega)) ?_
 obtain ⟨b9, ca, e9⟩ := kP (al.rr.at (z := wl.getD ((wl.length : Int) - 1).toNat 0) (by omega) (by omega)) (j := (wl.getD ((wl.length : Int) - 1).toNat 0).toNat) rfl
 rw [vE] at ca
 have gu := ca.max
 refine qD rfl (e9 ag56 rfl (cM bi.pins h)) (qM b9 ?_)
 refine qe (w9a ?_)
 refine qM (vP p) ?_
 refine qM (vJ f) ?_
 refine qM (vJ (wl.getD ((wl.length : Int) - 1).toNat 0)) ?_
 refine qM (.bool true) ?_
 refine qM b9 ?_
 refine qI rfl (zL (vs := [vP p, vJ f, vJ (wl.getD ((wl.length : Int) - 1).toNat 0), .bool true, b9]) Tryz.func109 nm109 rfl rfl rfl ?_)
 refine cD (rK bi.pins al aj (lf := true) (e1.same s) (hpa.same s) ca (by rw [if_pos rfl]) (jO aj (hpa.same s)).2) ?_
 rintro _ gv ⟨g, c, cb, rfl, fa, ap, bj, cc, bk, aq⟩
 refine rt9 ?_
 have ae := bi.trans aq (fun i hi => (PIn.o az) i hi)
 have cd := (bf.keptA bh (yT a4 bf).symm).extS aq (notO (NP.ho ao))
 have bl := (b8.keptA bh (yT a4 b8).symm).extS aq (notO (NP.ho a6))
 have ce := e6.extS aq (xX (NP.ho bb))
 have gw := cc.len
 have gx := pkl c
 have gy := pkb bj
 have gz := cgA List.length bk.1
 have db := thr_same s fa
 refine qM (vJ g) ?_
 refine qe (zA ?_)
 refine zZ (w9d ?_)
 refine qM (vJ g) ?_
 refine qD rfl (yU rfl rfl) (qM (.bool (decide ((g : Int) < 0))) ?_)
 refine qe (zA ?_)
 refine yC (p := (g : Int) < 0) rfl rfl (fun dc => ?_) (fun dc => ?_)
 refine zC (qM kv ?_)
 refine qM (vJ (wl.getD ((wl.length : Int) - 1).toNat 0)) ?_
 refine qI rfl (yV (E := eInt) (e := 3) [vJ (wl.getD ((wl.length : Int) - 1).toNat 0)] [wl.getD ((wl.length : Int) - 1).toNat 0] dE sz3 zr3 (by exact xP (by rfl)) (yZ (by rfl)) rfl rfl rfl rfl (by decide) ae.pins (fun dd fb fc de a7 g0 => ?_))
 have cf := ae.step de a7
 have cg := cd.below a7
 have df := bl.below a7
 have dg := ce.below a7
 have dh := ap.below a7 de
 have fd := fc.weaken ae.size
 refine qI rfl (oA (E := eInt) (v := kv) (u := dd) 8 dE ap3 (by decide) rfl rfl cf.pins cg fd.src (cf.size) (fun di g1 fe dj bm dk => ?_))
 have ff := dg.kept bm (yT dg cg)
 have g2 := la1 kept (wl.getD ((wl.length : Int) - 1).toNat 0)
 refine qM di ?_
 refine qe (zW (zW (zV ?_)))
 have htl : (wl.take ((wl.length : Int) - 1).toNat).length = ((wl.length : Int) - 1).toNat := by rw [List.length_take]; omega
 have au := (hrd.pop hpm).kept (hsn.no bg) (thr_no db dc)
 have hcl := au.len
 have hsl : (ss ++ [wl.getD ((wl.length : Int) - 1).toNat 0]).length = ss.length + 1 := by rw [List.length_append]; rfl
 refine ⟨_, ?_, _, rfl, _, ak, wl.take ((wl.length : Int) - 1).toNat, di, kept ++ [wl.getD ((wl.length : Int) - 1).toNat 0], putE sn (wl.getD ((wl.length : Int) - 1).toNat 0) true, ss ++ [wl.getD ((wl.length : Int) - 1).toNat 0], c, cb, (pS 9 (pS 8 (pS 7 (pS 6 (pS 2 (pS 1 (pU 0))))))), rfl, (cf.write dj bm ((yD cg))), (cB b6 aq.le), au, hsn.put, (by omega), (df.keptA bm a5), fe, (zD a5 dk df.lt), ff, (dh.kept bm dj ao), bj, (cL an cc), (zO s bk), a6, (jX ao dh dk)⟩
 omega
 refine w9d ?_
 refine qM (.bool true) ?_
 refine qM (.bool true) ?_
 refine qe (zA ?_)
 refine qK rfl rfl (zC ?_)
 have hti := sF aa hpa db (by omega)
 have g3 := hti.1.1
 have g4 := hti.1.2
 have hot := ol_len aa (lf := true) hti.1
 have hoe : (c.ns.getD (g).toNat default).l = ol a true g := by rw [(zO s bk).1]; unfold ol; rw [if_pos rfl]
 have g5 : (c.ns.getD (g).toNat default).l.length ≤ 1048576 := by rw [hoe]; exact hot
 have g6 : (wl.take ((wl.length : Int) - 1).toNat).length = ((wl.length : Int) - 1).toNat := by rw [List.length_take]; omega
 refine qM ak ?_
 refine qM (vP p) ?_
 refine qD rfl (yY rfl) (qD rfl (zH (k := 0) rfl dN rfl nz95 rfl) (qD rfl (zJ (u := b) ag95 rfl (ap.bx.cell (o := 0) rfl)) (qM (vJ g) ?_)))
 refine qD rfl (zF dV sz56 (v := b) rfl rfl ap.ol.read (by omega) (by omega)) ?_
 obtain ⟨fg, ch, fh⟩ := kP (ap.ol.at (z := g) (by omega) (by omega)) (j := (g).toNat) rfl
 rw [vF] at ch
 have g7 := ch.max
 refine qD rfl (fh ag56 rfl (cM ae.pins b)) (qI rfl (oA (E := eInt) (v := ak) (u := fg) 8 dE ap3 (by decide) rfl rfl ae.pins bl ((ch.mono (cJ _)).src ae.pins (by decide)) (ae.size) (fun dl g8 fi dm bn dn => ?_)))
 have fj := ce.kept bn (yT ce bl)
 have g9 := la2 (wl.take (((wl.length : Int) - 1).toNat)) ((c.ns.getD (g).toNat default).l)
 refine qM dl ?_
 refine qe (zW (zW (zV ?_)))
 have htl : (wl.take ((wl.length : Int) - 1).toNat).length = ((wl.length : Int) - 1).toNat := by rw [List.length_take]; omega
 have au := (hrd.pop hpm).pass_on aa (hsn.no bg) hti.1 hti.2.1 hti.2.2
 have hcl := au.len
 have hsl : (ss ++ [wl.getD ((wl.length : Int) - 1).toNat 0]).length = ss.length + 1 := by rw [List.length_append]; rfl
 have hal : ((wl.take (((wl.length : Int) - 1).toNat)) ++ ((c.ns.getD (g).toNat default).l)).length = ((wl.length : Int) - 1).toNat + (c.ns.getD (g).toNat default).l.length := by rw [List.length_append, htl]
 rw [← hoe] at au
 refine ⟨_, ?_, _, rfl, _, dl, (wl.take (((wl.length : Int) - 1).toNat)) ++ ((c.ns.getD (g).toNat default).l), kv, kept, putE sn (wl.getD ((wl.length : Int) - 1).toNat 0) true, ss ++ [wl.getD ((wl.length : Int) - 1).toNat 0], c, cb, (pS 9 (pS 8 (pS 7 (pS 6 (pS 2 (pS 1 (pU 0))))))), rfl, (ae.write dm bn ((yD bl))), (cB b6 aq.le), au, hsn.put, (by omega), fi, (cd.keptA bn a5.symm), (zD a5.symm dn cd.lt).symm, fj, (ap.kept bn dm a6), bj, (cL an cc), (zO s bk), (jX a6 ap dn), ao⟩
 omega
 refine cQ (zX (yO (yK (w9a ?_))))
 refine qM kv ?_
 refine qM (vP p) ?_
 refine qM kv ?_
 refine qM (.bool true) ?_
 obtain ⟨ha, fk, ci, dp, fl⟩ := bf.sealed a3
 have dq := b7.moreO fk fl ao
 refine qI rfl (zL (vs := [vP p, kv, .bool true]) Tryz.func111 nm111 rfl rfl rfl ?_)
 refine cD (gF ci.pins dq aj (lf := true) dp (by omega) (fun i hi => ((hrd.all _ (cG ((hrd.keep _).1 (yE hi)).1)).1).same s)) ?_
 rintro _ hb ⟨dr, af, hc, rfl, ds, fm, cj, ck, cl, dt⟩
 refine rt9 ?_
 have fn := dq.new (x := dr.ownBlock) (fun k hk => (ds.lt k hk).1)
 have fo := ci.trans dt (fun i hi => (PIn.o az) i hi)
 have hd := ck.len
 have he := pkl af
 have hg := pkb cj
 have hh := cgA List.length cl.1
 obtain ⟨hl, du, cm, fp, fq⟩ := (ds.weaken ci.size).sealed fo
 have dv := fm.moreO du fq fn
 refine qI rfl (zL (vs := [kv, dr]) Tryz.func110 nm110 rfl rfl rfl ?_)
 refine cD (rH cm.pins (dp.mono (cB dt.le du)) fp (by omega) (dom_pw _) (fun z hz => by obtain ⟨k, _, e, _⟩ := (pT _).1 hz; omega)) ?_
 rintro _ fr ⟨a8, dw, rfl, dx, dy⟩
 refine rt9 ?_
 have fs := dv.new (x := a8.ownBlock) (fun k hk => (dx.lt k hk).1)
 have ft := dx.weaken cm.size
 refine qM a8 ?_
 refine qe (zA ?_)
 refine cP (zP (zQ (v := a8) rfl rfl rfl ?_))
 have hwz : wl = [] := List.eq_nil_of_length_eq_zero (by omega)
 rw [hwz] at hrd
 have hre := (re_done aj (hrd.same s) (xM s).symm).same cl
 have hul := fM (cL an ck) N
 exact ⟨a8, _, b, h, y, af, dw, rfl, (dv.ext dy), cj, (cL (cL ah an) ck), PIn.lo az rfl, (cm.tr dy), ft, fs, hre, (by have := cgA List.length ((zO s cl)).1; omega)⟩
end CN2
namespace CN3
open B1 K1 PO1 PL1 DI1 RI1 CN1
theorem reduced_f {w : World} {G : Pin} {L R B : Value} {q : PSt} {f : Int} {p : Nat} {mm : PM} {N m : Nat} (hP : Pins G w) (hpk : Pk 56 3 G w p L R B mm q) (hok : PoolOk q) (hf : PlaceOk q f) (hfN : f < (N : Int)) (hbud : q.ns.length + unc q N < 1048576) (ih : CanP N m p mm) (hm : f.toNat < m + 1) :
  Calls Tryz.prog 94 #[vP p, vJ f, .bool false] w fun e w' => ∃ (u : Value) (zs : List Int) (L' R' B' : Value) (q' : PSt) (G' : Pin), e = .returned u ∧ Pk 56 3 G' w' p L' R' B' mm q' ∧ PoolOk q' ∧ PX q q' ∧ PLo w p L R B mm L' R' B' ∧ Ext (inP p L R B mm) G w G' w' ∧ Own eInt 3 G' w' w.heap.size u zs ∧ NP p L' R' B' mm u.ownBlock ∧ ReOk q' false f zs ∧ q'.ns.length + unc q' N ≤ q.ns.length + unc q N := by
 refine zY (n := 120) Tryz.func94 Tryz.ntmps94 rfl rfl ?_
 have bn := exr (inP p L R B mm) hP
 have hpin : PIn w (inP p L R B mm) p L R B mm := PIn.self
 have fo := pkl q
 have fp := pkb hok
 have fq := hf.1
 have fr := hf.2
 have dx := ol_len hok (lf := false) hf
 have fs : (q.ns.getD (f).toNat default).r.length ≤ 1048576 := dx
 refine w9d ?_
 refine qM vN ?_
 refine qe (w9a ?_)
 refine qI rfl (xE (E := eInt) (e := 3) dE sz3 bn.pins (fun u3 w4 dz cm cn d0 => ?_))
 have bo := bn.step cm cn
 have co := hpk.below cn cm
 have d1 := hpk.new (x := u3.ownBlock) (fun k hk => by rw [d0] at hk; cases hk; exact cH _)
 have d2 := dz.weaken bn.size
 refine qI rfl (vD (fun k : Int => Value.int .i64 k) (fun v : Bool => Value.bool v) bo.pins (fun t ft fu d3 cp bp => ?_))
 have bq := bo.step cp bp
 have cq := d2.below bp
 have cr := co.below bp cp
 have d4 := co.new (x := some t) (fun k hk => by cases hk; omega)
 have d5 : w.heap.size ≤ t := by have := bo.size; omega
 refine qI rfl (xE (E := eInt) (e := 3) dE sz3 bq.pins (fun ab d6 d7 cs a8 ct => ?_))
 have cu := bq.step cs a8
 have d8 := cq.below a8
 have d9 := d3.below a8
 have a9 := cr.below a8 cs
 have ea := zE ct cq.lt
 have eb := cr.new (x := ab.ownBlock) (fun k hk => by rw [ct] at hk; cases hk; exact cH _)
 have ec := d7.weaken bq.size
 refine qM u3 ?_
 refine qM (.map (some t)) ?_
 refine qM ab ?_
 refine qe (w9a ?_)
 refine qM (vP p) ?_
 refine qD rfl (yY rfl) (qD rfl (zH (k := 1) rfl dN rfl nz95 rfl) (qD rfl (zJ (u := R) ag95 rfl (a9.bx.cell (o := 1) rfl)) (qM (vJ f) ?_)))
 refine qD rfl (zF dV sz56 (v := R) rfl rfl a9.rr.read (by omega) (by omega)) ?_
 obtain ⟨aq, au, ed⟩ := kP (a9.rr.at (z := f) (by omega) (by omega)) (j := (f).toNat) rfl
 rw [vE] at au
 have fv := au.max
 refine qD rfl (ed ag56 rfl (cM cu.pins R)) (qM aq ?_)
 refine qe (zA (w9b ?_))
 refine qM (.bool false) ?_
 refine qe (zA ?_)
 refine xT rfl rfl (cO (zA (w9b ?_)))
 refine qM aq ?_
 refine qD rfl (zM dE (v := aq) rfl au) (qM (vJ 0) ?_)
 refine qe (zA ?_)
 refine zZ (yR (fun k en W => ∃ (av : Nat → Value) (j : Nat) (qv : Value) (qs : List Int) (g : Value) (h : Value) (y : Value) (a : PSt) (ac : Pin), en = (upd (upd (upd (upd (upd (upd (upd (upd (upd (upd av 0 (vP p)) 1 (vJ f)) 2 (.bool false)) 6 vN) 7 qv) 8 (.map (some t))) 9 ab) 34 aq) 35 (vJ (((q.ns.getD (f).toNat default).r).length : Int))) 36 (vJ (j : Int))) ∧ k = (q.ns.getD (f).toNat default).r.length - j ∧ Ext (inP p L R B mm) G w ac W ∧ Pin.le G ac ∧ (j ≤ (q.ns.getD (f).toNat default).r.length) ∧ (QOk q a (q.ns.getD (f).toNat default).r qs j) ∧ (a.ns.length + unc a N ≤ q.ns.length + unc q N) ∧ (Own eInt 3 ac W w.heap.size qv (qs)) ∧ (Own eInt 3 ac W w.heap.size ab ([])) ∧ (Apart qv.ownBlock ab.ownBlock) ∧ (Mp (fun k : Int => Value.int .i64 k) (fun v : Bool => Value.bool v) W t ([])) ∧ (Pk 56 3 ac W p g h y mm a) ∧ (PIn w ((inP p L R B mm)) p g h y mm) ∧ (PoolOk a) ∧ (PX q a) ∧ (NP p g h y mm qv.ownBlock) ∧ (NP p g h y mm ab.ownBlock) ∧ (NP p g h y mm (some t))) _ ⟨_, 0, u3, [], L, R, B, q, G, (pS 36 (pS 35 (pS 34 (pS 9 (pS 8 (pS 7 (pS 6 (pS 2 (pS 1 (pU 0)))))))))), rfl, cu, cJ _, cI _, QOk.start, cH _, d8, ec, ea.symm, d9, a9, hpin, hok, (PX.refl _), d1, eb, d4⟩ ?_)
 rintro fw _ fx ⟨av, j, qv, qs, g, h, y, a, ac, rfl, fy, aw, cv, hj, hqo, hbu, br, bt, bu, bv, cw, ax, aa, ag, bw, bz, ba⟩
 have fz := ag.len
 have f0 := pkl a
 have f1 := pkb aa
 have f2 := hqo.len
 refine w9d ?_
 refine qD rfl (yU rfl rfl) (qe (zA (zB ?_)))
 refine yC (p := ((j : Int) : Int) < (((q.ns.getD (f).toNat default).r).length : Int)) rfl rfl (fun ee => ?_) (fun ee => ?_)
 have hmj : (q.ns.getD (f).toNat default).r.getD j 0 ∈ (q.ns.getD (f).toNat default).r := yE (show j < (q.ns.getD (f).toNat default).r.length by omega)
 have hoj := (jO hok hf).2 _ hmj
 have f3 := hoj.1
 have hoz := ((xB hok.ar.opts (show (f).toNat < q.ns.length by omega)).2 _ hmj).2
 refine cO (zA (zB ?_))
 refine zZ (w9d ?_)
 refine qD rfl (zF dE sz3 (v := aq) rfl rfl au (by omega) (by omega)) (qD rfl (zG (r := ((q.ns.getD (f).toNat default).r).getD j 0) rfl ag3 (z := (j : Int)) rfl au (cC aw.pins cv) (by omega) (by omega)) (qM (vJ (((q.ns.getD (f).toNat default).r).getD j 0)) ?_))
 refine qe (zA (zC ?_))
 refine qM qv ?_
 refine qM (vP p) ?_
 refine qM (vJ (((q.ns.getD (f).toNat default).r).getD j 0)) ?_
 refine qI rfl (zL (vs := [vP p, vJ (((q.ns.getD (f).toNat default).r).getD j 0)]) Tryz.func68 nm68 rfl rfl rfl ?_)
 refine cD (ih aw.pins cw aa (ag.place hoj) (by omega) (by omega) (by omega)) ?_
 rintro _ f4 ⟨ay, ef, eg, eh, ad, cx, rfl, ei, bb, b0, bc, az, ej, ek, el, em⟩
 refine rt9 ?_
 have b1 := aw.trans az ax
 have cy := NP.call bw bc (qG br)
 have eo := bv.extS az (NP.notb ba)
 have ep := NP.call ba bc (fun j hj => by cases hj; exact bv.lt)
 have eq := PIn.call ax bc aw.size
 have f5 := b0.len
 have f6 := pkl ad
 have f7 := pkb bb
 refine qI rfl (yV (E := eInt) (e := 3) [vJ ay] [ay] dE sz3 zr3 (by exact xP (by rfl)) (yZ (by rfl)) rfl rfl rfl rfl (by decide) b1.pins (fun cz er es c0 a0 f8 => ?_))
 have b2 := b1.step c0 a0
 have b3 := (br.extS az bw).below a0
 have c1 := (bt.extS az bz).below a0
 have c2 := eo.below a0
 have c3 := ei.below a0 c0
 have et := es.weaken b1.size
 refine qI rfl (oA (E := eInt) (v := qv) (u := cz) 8 dE ap3 (by decide) rfl rfl b2.pins b3 et.src (b2.size) (fun c4 f9 eu c5 bd c6 => ?_))
 have ev := c2.kept bd (yT c2 b3)
 have ga := la1 qs ay
 refine qM c4 ?_
 refine qe (w9c ?_)
 refine qD rfl (yH rfl rfl (by omega)) (qM (vJ ((j : Int) + 1)) ?_)
 refine qe (zV (⟨_, ?_, _, rfl, _, j + 1, c4, qs ++ ([ay]), ef, eg, eh, ad, cx, (pS 36 (pS 35 (pS 34 (pS 9 (pS 8 (pS 7 (pS 6 (pS 2 (pS 1 (pU 0)))))))))), rfl, (b2.write c5 bd ((yD b3))), (cB cv az.le), (by omega), (hqo.step hok aa bb ag b0 hoj ej ek el), (by have := em; omega), eu, (c1.keptA bd bu.symm), (zD bu.symm c6 c1.lt).symm, ev, (c3.kept bd c5 cy), eq, bb, (cL ag b0), (jX cy c3 c6), (NP.call bz bc (qG bt)), ep⟩))
 omega
 refine cQ (zX (yO (yK (zA (zB ?_)))))
 refine zZ ?_
 have hjn : j = (q.ns.getD (f).toNat default).r.length := by omega
 rw [hjn] at hqo
 have ew : RdW a false (pd a f) qs [] [] := by rw [ag.pd hok aa hf]; exact hqo.rd (lf := false) hok hf (by unfold ol; rw [if_neg Bool.false_ne_true])
 have hq2l := hqo.len
 have ex := ag.place hf
 refine yR (fun k en W => ∃ (av : Nat → Value) (wv : Value) (wl : List Int) (kv : Value) (kept : List Int) (sn : List (Int × Bool)) (ss : List Int) (c : PSt) (ah : Pin), en = (upd (upd (upd (upd (upd (upd (upd av 0 (vP p)) 1 (vJ f)) 2 (.bool false)) 6 vN) 7 wv) 8 (.map (some t))) 9 kv) ∧ k = (a.ns.length - ss.length) * 1048577 + wl.length ∧ Ext (inP p L R B mm) G w ah W ∧ Pin.le ac ah ∧ (RdW a false (pd a f) wl ss kept) ∧ (SnOk sn ss) ∧ (wl.length ≤ 1048576 + 1048576 * ss.length) ∧ (Own eInt 3 ah W w.heap.size wv (wl)) ∧ (Own eInt 3 ah W w.heap.size kv (kept)) ∧ (Apart wv.ownBlock kv.ownBlock) ∧ (Mp (fun k : Int => Value.int .i64 k) (fun v : Bool => Value.bool v) W t (sn)) ∧ (Pk 56 3 ah W p g h y mm c) ∧ (PoolOk c) ∧ (PX a c) ∧ (c.ns = a.ns ∧ c.bs = a.bs) ∧ (NP p g h y mm wv.ownBlock) ∧ (NP p g h y mm kv.ownBlock)) _ ⟨_, qv, qs, ab, [], [], [], a, ac, (pS 9 (pS 8 (pS 7 (pS 6 (pS 2 (pS 1 (pU 0))))))), rfl, aw, cJ _, ew, SnOk.start, (by simp; omega), br, bt, bu, bv, cw, aa, (PX.refl _), ⟨rfl, rfl⟩, bw, bz⟩ ?_
 rintro gb _ gc ⟨av, wv, wl, kv, kept, sn, ss, c, ah, rfl, gd, a1, b4, hrd, hsn, hwl, ak, be, ey, a2, b5, ai, al, s, ez, am⟩
 have ge := al.len
 have gf := pkl c
 have gg := pkb ai
 have hrl := hrd.len
 refine w9b ?_
 refine qM wv ?_
 refine qD rfl (zM dE (v := wv) rfl ak.read) (qD rfl (jW rfl rfl) (qe (zA ?_)))
 refine yC (p := (0 : Int) < (wl.length : Int)) rfl rfl (fun e0 => ?_) (fun e0 => ?_)
 have hpm : ((wl.length : Int) - 1).toNat + 1 = wl.length := by omega
 have hpa := hrd.at_ hpm
 have gh := hpa.1
 have gi := hpa.2
 refine cO (zA (zZ (w9d ?_)))
 refine qM wv ?_
 refine qM wv ?_
 refine qD rfl (zM dE (v := wv) rfl ak.read) (qD rfl (xY rfl rfl (by omega)) (qD rfl (zF dE sz3 (v := wv) rfl rfl ak.read (by omega) (by omega)) (qD rfl (zG (r := wl.getD ((wl.length : Int) - 1).toNat 0) rfl ag3 (z := (wl.length : Int) - 1) rfl ak.read (cM a1.pins wv) (by omega) (by omega)) (qM (vJ (wl.getD ((wl.length : Int) - 1).toNat 0)) ?_))))
 refine qe (w9a ?_)
 refine qM wv ?_
 refine qM wv ?_
 refine qD rfl (zM dE (v := wv) rfl ak.read) (qD rfl (xY rfl rfl (by omega)) ?_)
 obtain ⟨aj, b6, c7, e1⟩ := own_cut ak (((wl.length : Int) - 1).toNat) ((wl.length : Int) - 1) (by omega) rfl (by omega) (by omega)
 have a3 : Apart aj.ownBlock kv.ownBlock := by rw [c7]; exact ey
 have a4 := (show NP _ _ _ _ _ aj.ownBlock by rw [c7]; exact ez)
 refine qD rfl (e1 dE sz3 rfl rfl rfl) (qM aj ?_)
 refine qe (zA (w9b ?_))
 refine qM (.map (some t)) ?_
 refine qM (vJ (wl.getD ((wl.length : Int) - 1).toNat 0)) ?_
 refine qD rfl (gL (k := wl.getD ((wl.length : Int) - 1).toNat 0) (fT dS) Tryz.underlying130 zr4 a2 rfl rfl) (qe (zA ?_))
 refine c_if rfl rfl (fun bf => ?_) (fun bf => ?_)
 refine cQ (zX (yK (zV ?_)))
 have htl : (wl.take ((wl.length : Int) - 1).toNat).length = ((wl.length : Int) - 1).toNat := by rw [List.length_take]; omega
 refine ⟨_, ?_, _, rfl, _, aj, wl.take ((wl.length : Int) - 1).toNat, kv, kept, sn, ss, c, ah, (pS 9 (pS 8 (pS 7 (pS 6 (pS 2 (pS 1 (pU 0))))))), rfl, a1, b4, ((hrd.pop hpm).seen (hsn.yes bf)), hsn, (by omega), b6, be, a3, a2, b5, ai, al, s, a4, am⟩
 omega
 refine cO (w9a ?_)
 refine qM (.map (some t)) ?_
 refine qM (vJ (wl.getD ((wl.length : Int) - 1).toNat 0)) ?_
 refine q0 rfl rfl rfl (qS (val := (fun v : Bool => Value.bool v)) (k := wl.getD ((wl.length : Int) - 1).toNat 0) (v := true) (fT dS) Tryz.underlying130 rfl rfl rfl a1.pins a2 (fun gj e2 c8 bg gk => ?_))
 have b7 := a1.write c8 bg ((zS d5))
 have bh := b5.kept bg c8 ba
 refine qe (w9a ?_)
 refine qM (vP p) ?_
 refine qD rfl (yY rfl) (qD rfl (zH (k := 0) rfl dN rfl nz95 rfl) (qD rfl (zJ (u := g) ag95 rfl (bh.bx.cell (o := 0) rfl)) (qM (vJ (wl.getD ((wl.length : Int) - 1).toNat 0)) ?_)))
 refine qD rfl (zF dV sz56 (v := g) rfl rfl bh.ol.read (by omega) (by omega)) ?_
 obtain ⟨b8, b9, e3⟩ := kP (bh.ol.at (z := wl.getD ((wl.length : Int) - 1).toNat 0) (by omega) (by omega)) (j := (wl.getD ((wl.length : Int) - 1).toNat 0).toNat) rfl
 rw [vF] at b9
 have gl := b9.max
 refine qD rfl (e3 ag56 rfl (cM b7.pins g)) (qM b8 ?_)
 refine qe (zA (w9b ?_))
 refine qM (.bool false) ?_
 refine qe (zA ?_)
 refine xT rfl rfl (cO (w9a ?_))
 refine qM (vP p) ?_
 refine qM (vJ f) ?_
 refine qM (vJ (wl.getD ((wl.length : Int) - 1).toNat 0)) ?_
 refine qM (.bool false) ?_
 refine qM b8 ?_
 refine qI rfl (zL (vs := [vP p, vJ f, vJ (wl.getD ((wl.length : Int) - 1).toNat 0), .bool false, b8]) Tryz.func109 nm109 rfl rfl rfl ?_)
 refine cD (rK b7.pins bh ai (lf := false) (ex.same s) (hpa.same s) b9 (by rw [if_neg Bool.false_ne_true]) (jO ai (hpa.same s)).1) ?_
 rintro _ gm ⟨d, b, ca, rfl, e4, an, bi, cb, bj, ao⟩
 refine rt9 ?_
 have ae := b7.trans ao (fun i hi => (PIn.o ax) i hi)
 have cc := (be.keptA bg (yT a2 be).symm).extS ao (notO (NP.ho am))
 have bk := (b6.keptA bg (yT a2 b6).symm).extS ao (notO (NP.ho a4))
 have cd := e2.extS ao (xX (NP.ho ba))
 have gn := cb.len
 have gp := pkl b
 have gq := pkb bi
 have gr := cgA List.length bj.1
 have c9 := thr_same s e4
 refine qM (vJ d) ?_
 refine qe (zA ?_)
 refine zZ (w9d ?_)
 refine qM (vJ d) ?_
 refine qD rfl (yU rfl rfl) (qM (.bool (decide ((d : Int) < 0))) ?_)
 refine qe (zA ?_)
 refine yC (p := (d : Int) < 0) rfl rfl (fun da => ?_) (fun da => ?_)
 refine zC (qM kv ?_)
 refine qM (vJ (wl.getD ((wl.length : Int) - 1).toNat 0)) ?_
 refine qI rfl (yV (E := eInt) (e := 3) [vJ (wl.getD ((wl.length : Int) - 1).toNat 0)] [wl.getD ((wl.length : Int) - 1).toNat 0] dE sz3 zr3 (by exact xP (by rfl)) (yZ (by rfl)) rfl rfl rfl rfl (by decide) ae.pins (fun db e5 e6 dc a5 gs => ?_))
 have ce := ae.step dc a5
 have cf := cc.below a5
 have dd := bk.below a5
 have de := cd.below a5
 have df := an.below a5 dc
 have e7 := e6.weaken ae.size
 refine qI rfl (oA (E := eInt) (v := kv) (u := db) 8 dE ap3 (by decide) rfl rfl ce.pins cf e7.src (ce.size) (fun dg gt e8 dh bl di => ?_))
 have e9 := de.kept bl (yT de cf)
 have gu := la1 kept (wl.getD ((wl.length : Int) - 1).toNat 0)
 refine qM dg ?_
 refine qe (zW (zW (zV ?_)))
 have htl : (wl.take ((wl.length : Int) - 1).toNat).length = ((wl.length : Int) - 1).toNat := by rw [List.length_take]; omega
 have ap := (hrd.pop hpm).kept (hsn.no bf) (thr_no c9 da)
 have hcl := ap.len
 have hsl : (ss ++ [wl.getD ((wl.length : Int) - 1).toNat 0]).length = ss.length + 1 := by rw [List.length_append]; rfl
 refine ⟨_, ?_, _, rfl, _, aj, wl.take ((wl.length : Int) - 1).toNat, dg, kept ++ [wl.getD ((wl.length : Int) - 1).toNat 0], putE sn (wl.getD ((wl.length : Int) - 1).toNat 0) true, ss ++ [wl.getD ((wl.length : Int) - 1).toNat 0], b, ca, (pS 9 (pS 8 (pS 7 (pS 6 (pS 2 (pS 1 (pU 0))))))), rfl, (ce.write dh bl ((yD cf))), (cB b4 ao.le), ap, hsn.put, (by omega), (dd.keptA bl a3), e8, (zD a3 di dd.lt), e9, (df.kept bl dh am), bi, (cL al cb), (zO s bj), a4, (jX am df di)⟩
 omega
 refine w9d ?_
 refine qM (.bool false) ?_
 refine qM (.bool false) ?_
 refine qe (zA ?_)
 refine xT rfl rfl (zC ?_)
 have hti := sF aa hpa c9 (by omega)
 have gv := hti.1.1
 have gw := hti.1.2
 have hot := ol_len aa (lf := false) hti.1
 have hoe : (b.ns.getD (d).toNat default).r = ol a false d := by rw [(zO s bj).1]; unfold ol; rw [if_neg Bool.false_ne_true]
 have gx : (b.ns.getD (d).toNat default).r.length ≤ 1048576 := by rw [hoe]; exact hot
 have gy : (wl.take ((wl.length : Int) - 1).toNat).length = ((wl.length : Int) - 1).toNat := by rw [List.length_take]; omega
 refine qM aj ?_
 refine qM (vP p) ?_
 refine qD rfl (yY rfl) (qD rfl (zH (k := 1) rfl dN rfl nz95 rfl) (qD rfl (zJ (u := h) ag95 rfl (an.bx.cell (o := 1) rfl)) (qM (vJ d) ?_)))
 refine qD rfl (zF dV sz56 (v := h) rfl rfl an.rr.read (by omega) (by omega)) ?_
 obtain ⟨fa, cg, fb⟩ := kP (an.rr.at (z := d) (by omega) (by omega)) (j := (d).toNat) rfl
 rw [vE] at cg
 have gz := cg.max
 refine qD rfl (fb ag56 rfl (cM ae.pins h)) (qI rfl (oA (E := eInt) (v := aj) (u := fa) 8 dE ap3 (by decide) rfl rfl ae.pins bk ((cg.mono (cJ _)).src ae.pins (by decide)) (ae.size) (fun dj g0 fc dk bm dl => ?_)))
 have fd := cd.kept bm (yT cd bk)
 have g1 := la2 (wl.take (((wl.length : Int) - 1).toNat)) ((b.ns.getD (d).toNat default).r)
 refine qM dj ?_
 refine qe (zW (zW (zV ?_)))
 have htl : (wl.take ((wl.length : Int) - 1).toNat).length = ((wl.length : Int) - 1).toNat := by rw [List.length_take]; omega
 have ap := (hrd.pop hpm).pass_on aa (hsn.no bf) hti.1 hti.2.1 hti.2.2
 have hcl := ap.len
 have hsl : (ss ++ [wl.getD ((wl.length : Int) - 1).toNat 0]).length = ss.length + 1 := by rw [List.length_append]; rfl
 have hal : ((wl.take (((wl.length : Int) - 1).toNat)) ++ ((b.ns.getD (d).toNat default).r)).length = ((wl.length : Int) - 1).toNat + (b.ns.getD (d).toNat default).r.length := by rw [List.length_append, htl]
 rw [← hoe] at ap
 refine ⟨_, ?_, _, rfl, _, dj, (wl.take (((wl.length : Int) - 1).toNat)) ++ ((b.ns.getD (d).toNat default).r), kv, kept, putE sn (wl.getD ((wl.length : Int) - 1).toNat 0) true, ss ++ [wl.getD ((wl.length : Int) - 1).toNat 0], b, ca, (pS 9 (pS 8 (pS 7 (pS 6 (pS 2 (pS 1 (pU 0))))))), rfl, (ae.write dk bm ((yD bk))), (cB b4 ao.le), ap, hsn.put, (by omega), fc, (cc.keptA bm a3.symm), (zD a3.symm dl cc.lt).symm, fd, (an.kept bm dk a4), bi, (cL al cb), (zO s bj), (jX a4 an dl), am⟩
 omega
 refine cQ (zX (yO (yK (w9a ?_))))
 refine qM kv ?_
 refine qM (vP p) ?_
 refine qM kv ?_
 refine qM (.bool false) ?_
 obtain ⟨g2, fe, ch, dm, ff⟩ := be.sealed a1
 have dn := b5.moreO fe ff am
 refine qI rfl (zL (vs := [vP p, kv, .bool false]) Tryz.func111 nm111 rfl rfl rfl ?_)
 refine cD (gF ch.pins dn ai (lf := false) dm (by omega) (fun i hi => ((hrd.all _ (cG ((hrd.keep _).1 (yE hi)).1)).1).same s)) ?_
 rintro _ g3 ⟨dp, af, g4, rfl, dq, fg, ci, cj, ck, dr⟩
 refine rt9 ?_
 have fh := dn.new (x := dp.ownBlock) (fun k hk => (dq.lt k hk).1)
 have fi := ch.trans dr (fun i hi => (PIn.o ax) i hi)
 have g5 := cj.len
 have g6 := pkl af
 have g7 := pkb ci
 have g8 := cgA List.length ck.1
 obtain ⟨g9, ds, cl, fj, fk⟩ := (dq.weaken ch.size).sealed fi
 have dt := fg.moreO ds fk fh
 refine qI rfl (zL (vs := [kv, dp]) Tryz.func110 nm110 rfl rfl rfl ?_)
 refine cD (rH cl.pins (dm.mono (cB dr.le ds)) fj (by omega) (dom_pw _) (fun z hz => by obtain ⟨k, _, e, _⟩ := (pT _).1 hz; omega)) ?_
 rintro _ fl ⟨a6, du, rfl, dv, dw⟩
 refine rt9 ?_
 have fm := dt.new (x := a6.ownBlock) (fun k hk => (dv.lt k hk).1)
 have fn := dv.weaken cl.size
 refine qM a6 ?_
 refine qe (zA ?_)
 refine cP (zP (zQ (v := a6) rfl rfl rfl ?_))
 have hwz : wl = [] := List.eq_nil_of_length_eq_zero (by omega)
 rw [hwz] at hrd
 have hre := (re_done ai (hrd.same s) (xM s).symm).same ck
 have hul := fM (cL al cj) N
 exact ⟨a6, _, g, h, y, af, du, rfl, (dt.ext dw), ci, (cL (cL ag al) cj), PIn.lo ax rfl, (cl.tr dw), fn, fm, hre, (by have := cgA List.length ((zO s ck)).1; omega)⟩
end CN3
namespace CN4
open B1 K1 PO1 PL1 DI1 RI1 CN1 CN2 CN3
variable {G : Pin} {L R B : Value} {q : PSt} {p N : Nat} {mm : PM}
theorem canon_step {w : World} {f : Int} {m : Nat} (hP : Pins G w) (hpk : Pk 56 3 G w p L R B mm q) (hok : PoolOk q) (hf : PlaceOk q f) (hfN : f < (N : Int)) (hbud : q.ns.length + unc q N < 1048576) (ih : CanP N m p mm) (hm : f.toNat < m + 1) :
  Calls Tryz.prog 68 #[vP p, vJ f] w fun e w' => ∃ (z : Int) (L' R' B' : Value) (q' : PSt) (G' : Pin), e = .returned (vJ z) ∧ Pk 56 3 G' w' p L' R' B' mm q' ∧ PoolOk q' ∧ PX q q' ∧ PLo w p L R B mm L' R' B' ∧ Ext (inP p L R B mm) G w G' w' ∧ PlaceOk q' z ∧ CanonG (pd q' z) ∧ eqG (pd q' z) (pd q' f) ∧ q'.ns.length + unc q' N ≤ q.ns.length + unc q N := by
 refine zY (n := 40) Tryz.func68 Tryz.ntmps68 rfl rfl ?_
 have ad := exr (inP p L R B mm) hP
 have hpin : PIn w (inP p L R B mm) p L R B mm := PIn.self
 have ch := pkl q
 have ci := pkb hok
 have cj := hf.1
 have ck := hf.2
 refine w9d ?_
 refine qM (vJ 0) ?_
 refine qe (zA (w9b ?_))
 refine qM (vP p) ?_
 refine qD rfl (yY rfl) (qD rfl (zH (k := 5) rfl dN rfl nz93 rfl) (qD rfl (zJ (u := .map (some mm.c)) ag93 rfl (hpk.bx.cell (o := 5) rfl)) (qM (vJ f) ?_)))
 refine qD rfl (tQ (k := f) (fT dS) Tryz.underlying93 zr3 hpk.fc rfl rfl) (qM (.tuple #[vJ ((Go.GL.look q.cm f).getD 0), .bool ((Go.GL.look q.cm f).isSome)]) ?_)
 refine qD rfl (yM (v := vJ ((Go.GL.look q.cm f).getD 0)) rfl rfl) (qD rfl (yM (v := .bool ((Go.GL.look q.cm f).isSome)) rfl rfl) (qM (vJ ((Go.GL.look q.cm f).getD 0)) ?_))
 refine qM (.bool ((Go.GL.look q.cm f).isSome)) ?_
 refine qe (w9a ?_)
 refine qM (.bool ((Go.GL.look q.cm f).isSome)) ?_
 refine qe (zA ?_)
 refine c_if rfl rfl (fun h3 => ?_) (fun h3 => ?_)
 refine w9d ?_
 refine qM (vJ ((Go.GL.look q.cm f).getD 0)) ?_
 refine qM (vJ ((Go.GL.look q.cm f).getD 0)) ?_
 refine qe (zA ?_)
 refine cP (zP (zQ (v := vJ ((Go.GL.look q.cm f).getD 0)) rfl rfl rfl ?_))
 obtain ⟨z, hz⟩ := Option.isSome_iff_exists.1 h3
 obtain ⟨_, f1, f2, f3⟩ := hok.can f z hz
 rw [hz]
 exact ⟨z, L, R, B, q, G, rfl, hpk, hok, (PX.refl _), PIn.lo hpin rfl, ad, f1, f2, f3, cH _⟩
 refine cO (w9a ?_)
 refine qM (vP p) ?_
 refine qM (vP p) ?_
 refine qM (vJ f) ?_
 refine qI rfl (zL (vs := [vP p, vJ f, .bool true]) Tryz.func94 nm94 rfl rfl rfl ?_)
 refine cD (reduced_t (N := N) (m := m) ad.pins hpk hok ((PX.refl _).place hf) hfN (by omega) ih hm) ?_
 rintro _ cl ⟨u4, cn, L6, R7, B8, x, cr, rfl, bo, ah, ae, bp, bq, br, ay, az, cs⟩
 refine rt9 ?_
 have ai := ad.trans bq hpin
 have a0 := PIn.call hpin bp ad.size
 have ct := ae.len
 have cu := pkl x
 have cv := pkb ah
 have ao := br.weaken ad.size
 have cw := az.len
 refine qM (vP p) ?_
 refine qM (vJ f) ?_
 refine qI rfl (zL (vs := [vP p, vJ f, .bool false]) Tryz.func94 nm94 rfl rfl rfl ?_)
 refine cD (reduced_f (N := N) (m := m) ai.pins bo ah (ae.place hf) hfN (by omega) ih hm) ?_
 rintro _ cx ⟨bt, cy, cz, c0, c1, s, c2, rfl, bu, aa, aj, a1, a2, a3, bv, a4, c3⟩
 refine rt9 ?_
 have a5 := PIn.call a0 a1 ai.size
 have c4 := aj.len
 have c5 := pkl s
 have c6 := pkb aa
 have c7 := a4.len
 obtain ⟨c8, a6, bw, bz, a7⟩ := (ao.extS a2 ay).sealed (ai.trans a2 a0)
 obtain ⟨c9, a8, ap, b0, b1⟩ := ((a3.weaken ai.size).moreO a6 a7 (zT a3.lt ao.lt)).sealed bw
 have aq := az.px (ae.place hf) aj ah aa
 have au := a4
 refine qI rfl (zL (vs := [vP p, u4, bt]) Tryz.func93 nm93 rfl rfl rfl ?_)
 refine cD (node_spec ap.pins ((bu.moreO a6 a7 (NP.call ay a1 (qG ao))).moreO a8 b1 bv) aa (bz.mono a8) b0 (by omega) ⟨aq.len, au.len⟩ (jT aq.pl) (jT au.pl)) ?_
 rintro _ da ⟨d, b2, b3, b4, b, b5, rfl, av, ab, t, b6, b7, ac, b8, b9, a9⟩
 refine rt9 ?_
 have ba := ap.trans b7 a5
 have aw := PIn.call a5 b6 ap.size
 have db := t.len
 have dc := pkl b
 have dd := pkb ab
 have hcd := canon_done aq au b8
 have bb := (cL ae aj).place hf
 have ca := t.place bb
 have bc : eqG (pd b d) (pd b f) := by rw [t.pd aa ab bb]; exact hcd.2
 have hgrow : b.ns.length + unc { b with cm := putE b.cm f d } N ≤ s.ns.length + unc s N := by
  cases hlf : Go.GL.look s.cm f with
  | none =>
   have h1 := unc_put (q := b) (z := d) hf.1 (by rw [a9.1]; exact hlf) N hfN
   have h2 := fM t N
   have := b9
   omega
  | some y =>
   obtain ⟨_, h2, h3, h4⟩ := aa.can f y hlf
   have h5 : pd b y = pd b d := by
    rw [t.pd aa ab h2]
    exact vC h3 hcd.1 ⟨xI h4.1 hcd.2.2, xI hcd.2.1 h4.2⟩
   have h6 := t.place h2
   have h7 := h2.1; have h8 := h2.2; have h9 := h6.2; have di := ac.1; have dj := ac.2
   have dk := ab.ar.inj (i := y.toNat) (j := d.toNat) (by omega) (by omega) h5
   have dl := fM (cL t (PX.put (q := b) (a := f) (z := d))) N
   rcases a9.2 with cd | cd <;> omega
 refine qM (vJ d) ?_
 refine qe (w9a ?_)
 refine qM (vP p) ?_
 refine qD rfl (yY rfl) (qD rfl (zH (k := 5) rfl dN rfl nz93 rfl) (qD rfl (zJ (u := .map (some mm.c)) ag93 rfl (av.bx.cell (o := 5) rfl)) (qM (vJ f) ?_)))
 refine qM (vJ d) ?_
 refine q0 rfl rfl rfl (qS (val := (fun v : Int => Value.int .i64 v)) (k := f) (v := d) (fT dS) Tryz.underlying93 rfl rfl rfl ba.pins av.fc (fun dm ce be bf dn => ?_))
 have bg := ba.trans (Ext.one be bf) (fun i hi => (PIn.c aw) i hi)
 have ak := av.setC (Ext.one be bf) ce
 have al := PoolOk.setC ab (ca.same ⟨rfl, rfl⟩) (ac.same ⟨rfl, rfl⟩) (by rw [xM ⟨rfl, rfl⟩]; exact hcd.1) (by rw [xM ⟨rfl, rfl⟩, xM ⟨rfl, rfl⟩]; exact bc)
 obtain ⟨g, am⟩ : ∃ q, q = ({ b with cm := putE b.cm f d } : PSt) := ⟨_, rfl⟩
 rw [← am] at ak al
 have hq97n : g.ns = b.ns ∧ g.bs = b.bs := by rw [am]; exact ⟨rfl, rfl⟩
 have hq97x : PX b g := by rw [am]; exact PX.put
 have dp := pkl g
 have dq := pkb al
 have dr := hq97x.len
 refine qe (w9a ?_)
 refine qM (vP p) ?_
 refine qD rfl (yY rfl) (qD rfl (zH (k := 5) rfl dN rfl nz93 rfl) (qD rfl (zJ (u := .map (some mm.c)) ag93 rfl (ak.bx.cell (o := 5) rfl)) (qM (vJ d) ?_)))
 refine qM (vJ d) ?_
 refine q0 rfl rfl rfl (qS (val := (fun v : Int => Value.int .i64 v)) (k := d) (v := d) (fT dS) Tryz.underlying93 rfl rfl rfl bg.pins ak.fc (fun ds cf bh bi dt => ?_))
 have cg := bg.trans (Ext.one bh bi) (fun i hi => (PIn.c aw) i hi)
 have bj := ak.setC (Ext.one bh bi) cf
 have an := PoolOk.setC al (ac.same hq97n) (ac.same hq97n) (by rw [xM hq97n]; exact hcd.1) ⟨jM _, jM _⟩
 obtain ⟨h, ax⟩ : ∃ q, q = ({ g with cm := putE g.cm d d } : PSt) := ⟨_, rfl⟩
 rw [← ax] at bj an
 have hq110n : h.ns = g.ns ∧ h.bs = g.bs := by rw [ax]; exact ⟨rfl, rfl⟩
 have hq110x : PX g h := by rw [ax]; exact PX.put
 have du := pkl h
 have dv := pkb an
 have dw := hq110x.len
 refine qe (w9a ?_)
 refine qM (vJ d) ?_
 refine qM (vJ d) ?_
 refine qe (zA ?_)
 refine cP (zP (zQ (v := vJ d) rfl rfl rfl ?_))
 have hlast := fM hq110x N
 have hln := cgA List.length ((zO hq97n hq110n)).1
 have hnew : h.ns.length + unc h N ≤ q.ns.length + unc q N := by rw [am] at hlast; omega
 exact ⟨_, b2, b3, b4, h, b5, rfl, bj, an, (cL (cL (cL (cL ae aj) t) hq97x) hq110x), PIn.lo aw rfl, cg, ac.same (zO hq97n hq110n), (by rw [xM (zO hq97n hq110n)]; exact hcd.1), (by rw [xM (zO hq97n hq110n), xM (zO hq97n hq110n)]; exact bc), hnew⟩
theorem canon_all {p N : Nat} {mm : PM} : ∀ m, CanP N m p mm
 | 0 => fun _ _ _ _ _ _ h => absurd h (cK _)
 | m + 1 => fun hP hpk hok hf hfN hb hm => canon_step hP hpk hok hf hfN hb (canon_all m) hm
theorem canon_spec {w : World} {f : Int} (hP : Pins G w) (hpk : Pk 56 3 G w p L R B mm q) (hok : PoolOk q) (hf : PlaceOk q f) (hfN : f < (N : Int)) (hbud : q.ns.length + unc q N < 1048576) :
  Calls Tryz.prog 68 #[.pointer (some ⟨p, 0, none⟩), .int .i64 f] w fun e w' => ∃ (z : Int) (L' R' B' : Value) (q' : PSt) (G' : Pin), e = .returned (.int .i64 z) ∧ Pk 56 3 G' w' p L' R' B' mm q' ∧ PoolOk q' ∧ PX q q' ∧ PLo w p L R B mm L' R' B' ∧ Ext (inP p L R B mm) G w G' w' ∧ PlaceOk q' z ∧ CanonG (pd q' z) ∧ eqG (pd q' z) (pd q' f) ∧ q'.ns.length + unc q' N ≤ q.ns.length + unc q N :=
 canon_all _ hP hpk hok hf hfN hbud (Nat.lt_succ_self _)
end CN4
namespace AS2
open B1 C1 D1 E1 K1 PO1 PL1 DI1 RI1 CN1 CN2 CN3 CN4
end AS2
namespace SP1
open B1 C1 D1 E1 K1 PO1 PL1 NU1 NU2 NU3 NB4 VA1 VA2 VA3 SW1 DI1 RI1 CN1 CN2 CN3 CN4 AS2
theorem mk27 : (Tryz.prog.info? 27).map (fun i => (i.size, i.bytes, i.zero)) = some (2, 16, some (.agg #[.int .i64 0, .int .i64 0])) := by kernel_rfl
theorem mk4 : (Tryz.prog.info? 4).map (fun i => (i.size, i.bytes, i.zero)) = some (1, 1, some (.bool false)) := by kernel_rfl
theorem pl68 : (Tryz.prog.underlying 68).bind (placesD Tryz.prog) = some [(0, 1), (1, 1), (2, 1)] := by kernel_rfl
variable {G : Pin}
theorem gE {w : World} {t z s y : Int} (hP : Pins G w) (h1 : GoodD t z) (h2 : GoodD s y) :
  Calls Tryz.prog 32 [.agg #[.int .i64 t, .int .i64 z], .agg #[.int .i64 s, .int .i64 y]].toArray w fun e w' => ∃ G', e = .returned (.bool (decide (scI 16 t z < scI 16 s y))) ∧ Ext noS G w G' w' := by
 refine zY (n := 10) Tryz.func32 Tryz.ntmps32 rfl rfl ?_
 have f := exr noS hP
 have h1t := h1.top
 have h1p := h1.pow
 have h2t := h2.top
 have h2p := h2.pow
 refine w9d ?_
 refine qI rfl (xH [.int .i64 t, .int .i64 z] (v := .agg #[.int .i64 t, .int .i64 z]) rfl rfl f.pins (fun o w2 ak p q r => ?_))
 have x : w.heap.size ≤ o := by have := f.size; omega
 obtain ⟨G9, am, g, aa, an⟩ := p.shut (f.step q r) x
 refine qI rfl (xH [.int .i64 s, .int .i64 y] (v := .agg #[.int .i64 s, .int .i64 y]) rfl rfl g.pins (fun ab h ao ac ad ae => ?_))
 have af : w.heap.size ≤ ab := by have := g.size; omega
 obtain ⟨ag, ah, l, ai, ap⟩ := ac.shut (g.step ad ae) af
 refine qM (.bool false) ?_
 refine qe (zA (zB ?_))
 refine yW (S := fun wz => Pins ag wz) (last := 6) (by kernel_rfl) rfl ?_
 have m := bdr h
 have b := l.step (l.pins.below m) m
 refine dT (i := 0) rfl rfl (by kernel_rfl) (fun _ hS => yA (cs := [.int .i64 t, .int .i64 z]) ag27 sz27 rfl (fun j u hj => (cC hS ah) _ _ _ (aa _ _ (by simpa using hj)))) b.pins ?_
 refine dT (i := 2) rfl rfl (by kernel_rfl) (fun _ hS => yA (cs := [.int .i64 s, .int .i64 y]) ag27 sz27 rfl (fun j u hj => hS _ _ _ (ai _ _ (by simpa using hj)))) b.pins ?_
 refine dP (i := 1) rfl rfl (zL (vs := [.agg #[.int .i64 t, .int .i64 z]]) Tryz.func48 nm48 rfl rfl rfl ?_)
 refine cD (jS (t := t) (z := z) b.pins (by omega) (by omega)) ?_
 rintro _ aq ⟨ar, rfl, a⟩
 refine rt9 ?_
 have k := b.tr a
 refine ⟨fun _ => (cC k.pins a.le), ?_⟩
 refine dP (i := 3) rfl rfl (zL (vs := [.agg #[.int .i64 s, .int .i64 y]]) Tryz.func48 nm48 rfl rfl rfl ?_)
 refine cD (jS (t := s) (z := y) k.pins (by omega) (by omega)) ?_
 rintro _ au ⟨av, rfl, c⟩
 refine rt9 ?_
 have d := k.tr c
 refine ⟨fun _ => (cC d.pins (cB a.le c.le)), ?_⟩
 refine dT (i := 4) rfl rfl (by kernel_rfl) (fun _ _ => yU rfl rfl) (cC d.pins (cB a.le c.le)) ?_
 refine dM 5 (.bool (decide ((scI 16 t z : Int) < (scI 16 s y)))) (cC d.pins (cB a.le c.le)) ?_
 exact yL (by kernel_rfl) (zA (cP (zP (zQ (v := .bool (decide ((scI 16 t z : Int) < (scI 16 s y)))) rfl rfl rfl (⟨_, rfl, d⟩)))))
theorem stopsOf_spec {w : World} {v : Value} {fs : List Nd} (hP : Pins G w) (hv : RSl eNode G v fs) :
  Calls Tryz.prog 45 [.agg #[v]].toArray w fun e w' => ∃ (u v x : Value) (xl xr : List (Int × Int)) (xn : List Bool) (G' : Pin), e = .returned (.tuple #[.agg #[u, v, x], .bool (spB fs)]) ∧ RSl eP2 G' u xl ∧ RSl eP2 G' v xr ∧ RSl eBool G' x xn ∧ (spB fs = true → xl = (stK fs fs.length).1 ∧ xr = (stK fs fs.length).2) ∧ Ext noS G w G' w' := by
 refine zY (n := 145) Tryz.func45 Tryz.ntmps45 rfl rfl ?_
 have ew := exr noS hP
 refine w9d ?_
 refine qI rfl (xH [v] (v := .agg #[v]) rfl rfl ew.pins (fun b1 w2 nu j7 j8 j9 => ?_))
 have ka : w.heap.size ≤ b1 := by have := ew.size; omega
 obtain ⟨G9, cb, ex, c0, nx⟩ := j7.shut (ew.step j8 j9) ka
 refine qI rfl (yI [vN, vN, vN] zr68 rfl ex.pins (fun ae ny nz kb kc kd => ?_))
 have ey := ex.step kc kd
 have ez : w.heap.size ≤ ae := by have := ex.size; omega
 refine qM (.bool false) ?_
 refine qe (zA (w9b ?_))
 refine qD rfl (yA (cs := [v]) ag32 sz32 rfl (fun j u hj => ey.pins _ _ _ (c0 _ _ (by simpa using hj)))) (qI rfl (zL (vs := [.agg #[v]]) Tryz.func38 nm38 rfl rfl rfl ?_))
 refine cD (eX ey.pins (hv.mono cb)) ?_
 rintro _ n0 ⟨n1, rfl, ax⟩
 refine rt9 ?_
 have c1 := ey.tr ax
 have e0 := kb.ext ax
 refine qD rfl (xD rfl) (qe (zA ?_))
 refine xU rfl rfl (fun e1 => ?_) (fun e1 => ?_)
 refine cO (w9a ?_)
 have hgb : goodB fs = true := e1
 have hga : GoodP fs := goodB_true.1 hgb
 have hla := hga.lo
 have hha := hga.hi
 have hlb := last_bounds hga
 have ho := (jV hga).opts
 refine qI rfl (zL (vs := []) Tryz.func39 nm39 rfl rfl rfl ?_)
 refine cD (newPool_spec c1.pins) ?_
 rintro _ dm ⟨f, ag, cc, rfl, gj, gk, ay⟩
 refine rt9 ?_
 have e2 := c1.tr ay
 have ke : PIn w (noS) f vN vN vN ag := PIn.fresh gk c1.size
 obtain ⟨a2, e3⟩ : ∃ q, q = (⟨[], [], [], [], [], [], []⟩ : PSt) := ⟨_, rfl⟩
 rw [← e3] at gj
 have e4 : PoolOk a2 := by rw [e3]; exact PoolOk.empty
 have hq36l : a2.ns.length = 0 := by rw [e3]; rfl
 obtain ⟨e5, e6, e7, e8, e9, fa⟩ : ∃ (l r b : Value), l = .slice none 0 0 ∧ r = .slice none 0 0 ∧ b = .slice none 0 0 := ⟨_, _, _, rfl, rfl, rfl⟩
 have kf : Pk 56 3 cc dm f e5 e6 e7 ag a2 := by rw [e8, e9, fa]; exact gj
 have gl : PIn w (noS) f e5 e6 e7 ag := by rw [e8, e9, fa]; exact ke
 have n2 := pkl a2
 have n3 := pkb e4
 have hnp40x : NP f e5 e6 e7 ag (some ae) := by rw [e8, e9, fa]; exact (np_fresh gk (x := some ae) (fZ e0))
 refine qM (vP f) ?_
 refine qe (w9a ?_)
 refine qD rfl (zH (k := 0) rfl dJ rfl nz30 rfl) (qD rfl (zJ (u := v) ag30 rfl ((cC e2.pins (cB ax.le ay.le)) _ _ _ (c0 0 _ rfl))) (qD rfl (zM dF (v := v) rfl hv) (qM (vJ (fs.length : Int)) ?_)))
 refine qe (zA (zB ?_))
 refine yW (S := fun wz => Pins cc wz) (last := 8) (by kernel_rfl) rfl ?_
 have dn := bdr dm
 have gm := e2.pins.below dn
 have bb := e2.step gm dn
 have c2 := (e0.ext ay).below dn
 have c3 := kf.below dn gm
 refine dM 0 (vJ (fs.length : Int)) bb.pins ?_
 refine dM 2 (vJ (fs.length : Int)) bb.pins ?_
 refine dM 4 (vJ (fs.length : Int)) bb.pins ?_
 refine dr_mk (k := 1) [⟨7, 6, [], true, fBx cc [vN, vN, vN]⟩, ⟨1, 25, [], true, fOwn eP2 27 cc (List.replicate fs.length ((0, 0) : Int × Int))⟩, ⟨3, 27, [], true, fOwn eP2 27 cc (List.replicate fs.length ((0, 0) : Int × Int))⟩, ⟨5, 29, [], true, fOwn eBool 4 cc (List.replicate fs.length false)⟩, ⟨6, 30, [25, 27, 29], false, fAgg⟩] [(7, 6, [], true), (1, 25, [], true), (3, 27, [], true), (5, 29, [], true), (6, 30, [25, 27, 29], false)] rfl rfl (by decide) (by decide) (by kernel_rfl) bb.pins (fun _ hp _ => hp) (MkOps.cons (MkOp.new rfl rfl rfl rfl (fun _ _ _ => mk_alloc [vN, vN, vN] zr68 rfl)) (MkOps.cons (MkOp.new rfl rfl rfl rfl (fun _ hE _ => mk_make (E := eP2) (n := (fs.length : Int)) ((0, 0) : Int × Int) 16 (.agg #[vJ 0, vJ 0]) dK mk27 (fun _ => rfl) (hE.ev rfl rfl) (hE.ev rfl rfl) (by omega) (by omega) (by omega))) (MkOps.cons (MkOp.new rfl rfl rfl rfl (fun _ hE _ => mk_make (E := eP2) (n := (fs.length : Int)) ((0, 0) : Int × Int) 16 (.agg #[vJ 0, vJ 0]) dK mk27 (fun _ => rfl) (hE.ev rfl rfl) (hE.ev rfl rfl) (by omega) (by omega) (by omega))) (MkOps.cons (MkOp.new rfl rfl rfl rfl (fun _ hE _ => mk_make (E := eBool) (n := (fs.length : Int)) false 1 (.bool false) dI mk4 (fun _ => rfl) (hE.ev rfl rfl) (hE.ev rfl rfl) (by omega) (by omega) (by omega))) (MkOps.cons (MkOp.new rfl rfl rfl rfl (fun en _ h1 => mk_run fun _ => yS [vN, vN, vN] [en 25, en 27, en 29] [(0, (en 25), [en 25]), (1, (en 27), [en 27]), (2, (en 29), [en 29])] dU zr68 rfl pl68 rfl (cN.2 ⟨(xR (h1 25 (by decide))), (cN.2 ⟨(xR (h1 27 (by decide))), (cN.2 ⟨(xR (h1 29 (by decide))), (fun _ h => by cases h)⟩)⟩)⟩) rfl)) (MkOps.nil)))))) ?_
 rintro n4 gn fc c _ ⟨rfl, kg⟩ kh n5 bc ⟨ki, c4⟩ kj n6 bd ⟨kk, c5⟩ kl n7 be ⟨km, c6⟩ kn _ _ rfl _
 obtain ⟨gp, -, -⟩ := kh rfl
 obtain ⟨fd, -, ko, -⟩ := kj rfl
 obtain ⟨fe, -, kp, kq, -⟩ := kl rfl
 obtain ⟨ff, -, kr, ks, kt, -⟩ := kn rfl
 refine MkK.fin ?_
 have gq := bb.step gn fc
 have fg := c3.new (x := some c) (fun k hk => by cases hk; exact gp)
 have ku : w.heap.size ≤ c := by have := bb.size; omega
 have kv : Apart bc.ownBlock (some ae) := fS c4 fd c2.lt
 have gr := c3.new (x := bc.ownBlock) (fun k hk => by rw [c4] at hk; cases hk; exact fd)
 have gs := ki.weaken (cR bb.size fd)
 have n8 : (List.replicate fs.length ((0, 0) : Int × Int)).length = fs.length := List.length_replicate ..
 have gt : Apart bc.ownBlock (some c) := mY c4 (rfl : some c = some c) ko
 have kw : Apart bd.ownBlock (some ae) := fS c5 fe c2.lt
 have gu := c3.new (x := bd.ownBlock) (fun k hk => by rw [c5] at hk; cases hk; exact fe)
 have gv := kk.weaken (cR bb.size fe)
 have n9 : (List.replicate fs.length ((0, 0) : Int × Int)).length = fs.length := List.length_replicate ..
 have kx : Apart bd.ownBlock bc.ownBlock := mY c5 c4 kp
 have gw : Apart bd.ownBlock (some c) := mY c5 (rfl : some c = some c) kq
 have ky : Apart be.ownBlock (some ae) := fS c6 ff c2.lt
 have gx := c3.new (x := be.ownBlock) (fun k hk => by rw [c6] at hk; cases hk; exact ff)
 have gy := km.weaken (cR bb.size ff)
 have oa : (List.replicate fs.length false).length = fs.length := List.length_replicate ..
 have kz : Apart be.ownBlock bd.ownBlock := mY c6 c5 kr
 have k0 : Apart be.ownBlock bc.ownBlock := mY c6 c4 ks
 have gz : Apart be.ownBlock (some c) := mY c6 (rfl : some c = some c) kt
 refine dO (i := 8) (xK (i := 8) rfl rfl rfl (zR rfl _) (o_stp (cs' := [bc, bd, be]) (us := [bc, bd, be]) (v := .agg #[bc, bd, be]) sz68 rfl rfl rfl (tT gs.one gv.one gy.one) gq.pins kg (cE rfl) rfl (fun ob g0 g1 cd oc => ?_)))
 have c7 := gq.write g1 cd ((zS ku))
 have fh := gs.keptA cd gt
 have fi := gv.keptA cd gw
 have fj := gy.keptA cd gz
 have g2 := (c2.below fc).keptA cd (fS (rfl : some c = some c) gp c2.lt).symm
 refine ⟨fun h => absurd rfl h, ?_⟩
 refine yL (by kernel_rfl) (zA (w9b ?_))
 refine qM (vP f) ?_
 refine qD rfl (yA (cs := [v]) ag32 sz32 rfl (fun j u hj => (cC c7.pins (cB ax.le ay.le)) _ _ _ (c0 _ _ (by simpa using hj)))) (qI rfl (zL (vs := [vP f, .agg #[v]]) Tryz.func75 nm75 rfl rfl rfl ?_))
 refine cD (load_spec c7.pins ((c3.below fc gn).kept cd g1 fg) e4 (hv.mono (cB (cB cb ax.le) ay.le)) (jV hga) (by omega)) ?_
 rintro _ od ⟨ah, ats, k2, k3, k4, af, g3, rfl, k5, dp, k6, ce, au, dq, k7, dr⟩
 refine rt9 ?_
 have k8 := c7.trans au gl
 have k9 := fh.extS au gr
 have la := NP.call gr ce (qG fh)
 have lb := fi.extS au gu
 have lc := NP.call gu ce (qG fi)
 have ld := fj.extS au gx
 have lf := NP.call gx ce (qG fj)
 have lg := g2.extS au (NP.notb hnp40x)
 have lh := NP.call hnp40x ce (fZ g2)
 have li := g0.extS au (NP.notb fg)
 have lj := NP.call fg ce (fZ g0)
 have lk := PIn.call gl ce c7.size
 have oe := k6.len
 have og := pkl af
 have oh := pkb dp
 have lm := zT dq.lt fh.lt
 have ln := zT dq.lt fi.lt
 have lp := zT dq.lt fj.lt
 have g4 := dq.weaken c7.size
 have oi := dr.len
 refine qD rfl (zM dE (v := ah) rfl g4.read) (qM (vJ 0) ?_)
 refine qe (zA ?_)
 refine zZ ?_
 have hlz : ats.length = fs.length := dr.len
 have hq0l := dr.hi
 have oj := unc_le (q := af) af.ns.length
 refine yR (fun k en W => ∃ (bq : Nat → Value) (i : Nat) (lv : Value) (rv : Value) (nv : Value) (xl : List (Int × Int)) (xr : List (Int × Int)) (xn : List Bool) (bf : Value) (bg : Value) (bh : Value) (ai : PSt) (GA : Pin), en = (upd (upd (upd (upd (upd (upd (upd bq 1 (vP b1)) 2 (vP ae)) 4 (vP f)) 6 (vP c)) 33 ah) 34 (vJ (ats.length : Int))) 35 (vJ (i : Int))) ∧ k = ats.length - i ∧ Ext noS G w GA W ∧ Pin.le g3 GA ∧ (i ≤ ats.length) ∧ (StA fs fs.length i xl xr) ∧ (xn.length = fs.length) ∧ (ai.ns.length + unc ai af.ns.length ≤ af.ns.length + unc af af.ns.length) ∧ (Own eP2 27 GA W w.heap.size lv (xl)) ∧ (Own eP2 27 GA W w.heap.size rv (xr)) ∧ (Own eBool 4 GA W w.heap.size nv (xn)) ∧ (Own eInt 3 GA W w.heap.size ah (ats)) ∧ (Bx GA W ae [vN, vN, vN]) ∧ (Bx GA W c [lv, rv, nv]) ∧ (Apart lv.ownBlock rv.ownBlock) ∧ (Apart lv.ownBlock nv.ownBlock) ∧ (Apart lv.ownBlock ah.ownBlock) ∧ (Apart lv.ownBlock (some ae)) ∧ (Apart lv.ownBlock (some c)) ∧ (Apart rv.ownBlock nv.ownBlock) ∧ (Apart rv.ownBlock ah.ownBlock) ∧ (Apart rv.ownBlock (some ae)) ∧ (Apart rv.ownBlock (some c)) ∧ (Apart nv.ownBlock ah.ownBlock) ∧ (Apart nv.ownBlock (some ae)) ∧ (Apart nv.ownBlock (some c)) ∧ (Pk 56 3 GA W f bf bg bh ag ai) ∧ (PIn w (noS) f bf bg bh ag) ∧ (PoolOk ai) ∧ (PX af ai) ∧ (NP f bf bg bh ag lv.ownBlock) ∧ (NP f bf bg bh ag rv.ownBlock) ∧ (NP f bf bg bh ag nv.ownBlock) ∧ (NP f bf bg bh ag ah.ownBlock) ∧ (NP f bf bg bh ag (some ae)) ∧ (NP f bf bg bh ag (some c))) _ ⟨_, 0, bc, bd, be, List.replicate fs.length ((0, 0) : Int × Int), List.replicate fs.length ((0, 0) : Int × Int), List.replicate fs.length false, k2, k3, k4, af, g3, (pS 35 (pS 34 (pS 33 (pS 6 (pS 4 (pS 2 (pU 1))))))), rfl, k8, cJ _, cI _, (StA.start (by simp) (by simp)), (by simp), cH _, k9, lb, ld, g4, lg, li, kx.symm, k0.symm, lm.symm, kv, gt, kz.symm, ln.symm, kw, gw, lp.symm, ky, gz, k5, lk, dp, (PX.refl _), la, lc, lf, k7, lh, lj⟩ ?_
 rintro ol _ om ⟨bq, i, lv, rv, nv, xl, xr, xn, bf, bg, bh, ai, GA, rfl, oo, cf, br, hi, hst, hxn, hbud, ds, dt, du, dv, fk, fl, c8, c9, fm, dw, fn, da, fo, dx, fp, fq, dy, fr, lq, g5, db, dc, g6, g7, g8, g9, ha, hb⟩
 have op := dc.len
 have oq := pkl ai
 have os := pkb db
 have hxll := hst.ll
 have hxrl := hst.lr
 refine w9d ?_
 refine qD rfl (yU rfl rfl) (qe (zA (zB ?_)))
 refine yC (p := ((i : Int) : Int) < (ats.length : Int)) rfl rfl (fun ls => ?_) (fun ls => ?_)
 have hlp := dr.pl i (by omega)
 have ot := hlp.1.1
 have lu := hlp.1.2
 refine cO (zA (zB ?_))
 refine zZ (w9d ?_)
 refine qM (vJ (i : Int)) ?_
 refine qD rfl (zF dE sz3 (v := ah) rfl rfl dv.read (by omega) (by omega)) (qD rfl (zG (r := ats.getD i 0) rfl ag3 (z := (i : Int)) rfl dv.read (cM cf.pins ah) (by omega) (by omega)) (qM (vJ (i : Int)) ?_))
 refine qM (vJ (ats.getD i 0)) ?_
 refine qe (w9a ?_)
 refine qM (vP f) ?_
 refine qM (vJ (ats.getD i 0)) ?_
 have hpn : PlaceOk ai (ats.getD i 0) := dc.place hlp.1
 have hdn : pd ai (ats.getD i 0) = den fs i := (dc.pd dp db hlp.1).trans hlp.2
 refine qI rfl (zL (vs := [vP f, vJ (ats.getD i 0)]) Tryz.func68 nm68 rfl rfl rfl ?_)
 refine cD (canon_spec cf.pins lq db (N := af.ns.length) hpn lu (by omega)) ?_
 rintro _ ou ⟨az, cg, ch, ci, bi, ov, rfl, lx, dz, d0, b0, aj, hc, cj, ly, lz⟩
 refine rt9 ?_
 have hd := cf.trans aj g5
 have dd := NP.call g6 b0 (qG ds)
 have de := NP.call g7 b0 (qG dt)
 have df := NP.call g8 b0 (qG du)
 have d1 := NP.call g9 b0 (qG dv)
 have d2 := NP.call ha b0 (fZ fk)
 have d3 := NP.call hb b0 (fZ fl)
 have d4 := PIn.call g5 b0 cf.size
 have ow := d0.len
 have ox := pkl bi
 have oy := pkb dz
 have hce : eqG (pd bi az) (den fs i) := by have h9 := ly; rw [d0.pd db dz hpn, hdn] at h9; exact h9
 have hmv := kF (fs := fs) (k := i) ho (by omega) cj hce
 have hgd := hst.good ho (by omega)
 have hoi := xB ho (show i < fs.length by omega)
 have hbu := lz
 have hoil := (jV hga).lens i (by omega)
 refine qM (vJ az) ?_
 refine qe (zA (w9b ?_))
 refine qM (vP f) ?_
 refine qM (vJ az) ?_
 refine qI rfl (zL (vs := [vP f, vJ az]) Tryz.func76 nm76 rfl rfl rfl ?_)
 refine cD (tV hd.pins lx dz hc cj) ?_
 rintro _ oz ⟨ao, hf, rfl, hg, d5, dg, ck, ak⟩
 refine rt9 ?_
 have dh := hd.trans ak (fun i hi => (PIn.o d4) i hi)
 have hh := (ds.extS aj g6).extS ak (notO (NP.ho dd))
 have hl := (dt.extS aj g7).extS ak (notO (NP.ho de))
 have hm := (du.extS aj g8).extS ak (notO (NP.ho df))
 have hn := (dv.extS aj g9).extS ak (notO (NP.ho d1))
 have hq := (fk.extS aj (NP.notb ha)).extS ak (xX (NP.ho d2))
 have hr := (fl.extS aj (NP.notb hb)).extS ak (xX (NP.ho d3))
 have o0 := dg.len
 have o1 := pkl ao
 have o2 := pkb d5
 have o3 := cgA List.length ck.1
 refine qe (zA ?_)
 refine c_if rfl rfl (fun d6 => ?_) (fun d6 => ?_)
 refine w9d ?_
 refine qM (vP f) ?_
 refine qM (vJ az) ?_
 refine qI rfl (zL (vs := [vP f, vJ az]) Tryz.func66 nm66 rfl rfl rfl ?_)
 refine cD (valueOf_spec dh.pins hg d5 (hc.same ck) (by rw [xM ck]; exact cj)) ?_
 rintro _ o4 ⟨bt, o5, d7, hs, ft, fu, ht, bu⟩
 obtain ⟨al, fv⟩ : ∃ x : Int, x = vgT (pd ao az) := ⟨_, rfl⟩
 rw [← fv] at d7
 obtain ⟨am, fw⟩ : ∃ x : Int, x = vgP (pd ao az) := ⟨_, rfl⟩
 rw [← fw] at d7
 obtain ⟨d8, d9⟩ : ∃ x : Bool, x = vgB (pd ao az) := ⟨_, rfl⟩
 rw [← d9] at d7
 subst d7
 refine ⟨_, rfl, ?_⟩
 have fx := dh.trans bu (fun i hi => (PIn.o d4) i hi)
 have hu := hh.extS bu (notO (NP.ho dd))
 have hw := hl.extS bu (notO (NP.ho de))
 have hx := hm.extS bu (notO (NP.ho df))
 have hy := hn.extS bu (notO (NP.ho d1))
 have hz := hq.extS bu (xX (NP.ho d2))
 have h0 := hr.extS bu (xX (NP.ho d3))
 have o6 := fu.len
 have o7 := pkl bt
 have o8 := pkb ft
 have o9 := cgA List.length ht.1
 have fy : pd ao az = pd bi az := xM ck
 rw [fy] at fv
 rw [fy] at fw
 rw [fy] at d9
 refine qM (.tuple #[.agg #[vJ al, vJ am], .bool d8]) ?_
 refine qD rfl (yM (v := .agg #[vJ al, vJ am]) rfl rfl) (qD rfl (yM (v := .bool d8) rfl rfl) (qI rfl (yI [vJ 0, vJ 0] zr27 rfl fx.pins (fun h2 pa b2 l0 h3 bv => ?_))))
 have h4 := fx.step h3 bv
 have h5 := zE (cgA some b2) hu.lt
 have h6 := zE (cgA some b2) hw.lt
 have h7 := zE (cgA some b2) hx.lt
 have h8 := zE (cgA some b2) hy.lt
 have ia := zI (cgA some b2) hz.lt
 have ib := zI (cgA some b2) h0.lt
 have ic := hs.new (x := some h2) (fun k hk => by rw [cgA some b2] at hk; cases hk; exact cH _)
 have ie : w.heap.size ≤ h2 := by have := fx.size; omega
 refine q0 rfl rfl rfl (o_stp (cs' := [vJ al, vJ am]) (us := [vJ al, vJ am]) (v := .agg #[vJ al, vJ am]) sz27 rfl rfl rfl (yQ (by rfl) (by rfl)) h4.pins l0 (cE rfl) rfl (fun fz l1 ig bw pb => ?_))
 obtain ⟨ih, cl, ea, ii, b3⟩ := l1.shut (h4.write ig bw ((zS ie))) ie
 have ij := ((hz.below bv).keptA bw ia.symm).moreA b3 ia.symm
 refine qM (.bool d8) ?_
 refine qe (zA (w9b ?_))
 refine qM (.bool d8) ?_
 refine qD rfl (xD rfl) (qe (zA ?_))
 refine xU rfl rfl (fun f0 => ?_) (fun f0 => ?_)
 refine cO (zA (zB ?_))
 refine yW (S := fun wz => BxR wz c [lv, rv, nv] ∧ Pins ih wz) (last := 16) (by kernel_rfl) rfl ?_
 have bj := bdr fz
 have ik := ea.pins.below bj
 have ap := ea.step ik bj
 have f1 := (((hu.below bv).keptA bw h5.symm).moreA cl b3 h5.symm).below bj
 have aq := (((h0.below bv).keptA bw ib.symm).moreA b3 ib.symm).below bj
 refine dT (i := 0) rfl rfl (by kernel_rfl) (fun _ _ => zH (k := 0) rfl dU rfl nz59 rfl) ⟨aq.reads, ap.pins⟩ ?_
 refine dT (i := 1) rfl rfl (by kernel_rfl) (fun _ hS => zJ (u := lv) ag59 rfl (hS.1 0 _ rfl)) ⟨aq.reads, ap.pins⟩ ?_
 refine dT (i := 2) rfl rfl (by kernel_rfl) (fun _ _ => zN (v := vJ (i : Int)) rfl) ⟨aq.reads, ap.pins⟩ ?_
 refine dT (i := 3) rfl rfl (by kernel_rfl) (fun _ _ => zH (k := 1) rfl dU rfl nz59 rfl) ⟨aq.reads, ap.pins⟩ ?_
 refine dT (i := 4) rfl rfl (by kernel_rfl) (fun _ hS => zJ (u := rv) ag59 rfl (hS.1 1 _ rfl)) ⟨aq.reads, ap.pins⟩ ?_
 refine dT (i := 5) rfl rfl (by kernel_rfl) (fun _ _ => zN (v := vJ (i : Int)) rfl) ⟨aq.reads, ap.pins⟩ ?_
 refine dT (i := 6) rfl rfl (by kernel_rfl) (fun _ _ => zH (k := 2) rfl dU rfl nz60 rfl) ⟨aq.reads, ap.pins⟩ ?_
 refine dT (i := 7) rfl rfl (by kernel_rfl) (fun _ hS => zJ (u := nv) ag60 rfl (hS.1 2 _ rfl)) ⟨aq.reads, ap.pins⟩ ?_
 refine dT (i := 8) rfl rfl (by kernel_rfl) (fun _ _ => zN (v := vJ (i : Int)) rfl) ⟨aq.reads, ap.pins⟩ ?_
 refine dT (i := 9) rfl rfl (by kernel_rfl) (fun _ hS => yA (cs := [vJ al, vJ am]) ag27 sz27 rfl (fun j u hj => hS.2 _ _ _ (ii _ _ (by simpa using hj)))) ⟨aq.reads, ap.pins⟩ ?_
 refine dT (i := 10) rfl rfl (by kernel_rfl) (fun _ hS => yA (cs := [vJ al, vJ am]) ag27 sz27 rfl (fun j u hj => hS.2 _ _ _ (ii _ _ (by simpa using hj)))) ⟨aq.reads, ap.pins⟩ ?_
 refine dT (i := 11) rfl rfl (by kernel_rfl) (fun _ _ => zF dK sz27 (v := lv) rfl rfl f1.read (by omega) (by omega)) ⟨aq.reads, ap.pins⟩ ?_
 refine dO (i := 12) (xK (i := 12) rfl rfl rfl (zR rfl _) (jK (E := eP2) (v := lv) (u := .agg #[vJ al, vJ am]) (cs := [vJ al, vJ am]) (z := (i : Int)) ((al, am)) sz27 rfl rfl rfl rfl ap.pins f1 (by omega) (by omega) (fun pc l2 il b4 pe => ?_)))
 have eb := ap.write il b4 ((yD f1))
 have f2 := ((((hw.below bv).keptA bw h6.symm).moreA cl b3 h6.symm).below bj).keptA b4 c8.symm
 have f3 := aq.keptA b4 fn.symm
 refine ⟨fun _ => ⟨f3.reads, eb.pins⟩, ?_⟩
 refine dT (i := 13) rfl rfl (by kernel_rfl) (fun _ _ => zF dK sz27 (v := rv) rfl rfl f2.read (by omega) (by omega)) ⟨f3.reads, eb.pins⟩ ?_
 refine dO (i := 14) (xK (i := 14) rfl rfl rfl (zR rfl _) (jK (E := eP2) (v := rv) (u := .agg #[vJ al, vJ am]) (cs := [vJ al, vJ am]) (z := (i : Int)) ((al, am)) sz27 rfl rfl rfl rfl eb.pins f2 (by omega) (by omega) (fun pf l3 im b5 pg => ?_)))
 have ec := eb.write im b5 ((yD f2))
 have f4 := (((((hx.below bv).keptA bw h7.symm).moreA cl b3 h7.symm).below bj).keptA b4 c9.symm).keptA b5 da.symm
 have f5 := f3.keptA b5 fp.symm
 refine ⟨fun _ => ⟨f5.reads, ec.pins⟩, ?_⟩
 refine dT (i := 15) rfl rfl (by kernel_rfl) (fun _ _ => zF dI sz4 (v := nv) rfl rfl f4.read (by omega) (by omega)) ⟨f5.reads, ec.pins⟩ ?_
 refine dO (i := 16) (xK (i := 16) rfl rfl rfl (zR rfl _) (jK (E := eBool) (v := nv) (u := .bool true) (z := (i : Int)) (true) sz4 rfl rfl rfl rfl ec.pins f4 (by omega) (by omega) (fun ph l4 io b6 pi => ?_)))
 refine ⟨fun h => absurd rfl h, ?_⟩
 refine yL (by kernel_rfl) (zA (cQ (zX (yK (zA (zC ?_))))))
 refine qD rfl (yH rfl rfl (by omega)) (qM (vJ ((i : Int) + 1)) ?_)
 refine qe (zV ?_)
 have hunx := fM (cL dg fu) af.ns.length
 have hunl := cgA List.length (zO ck ht).1
 refine ⟨_, ?_, _, rfl, _, i + 1, lv, rv, nv, (xl).set i (al, am), (xr).set i (al, am), (xn).set i true, cg, ch, ci, bt, ih, (pS 35 (pS 34 (pS 33 (pS 6 (pS 4 (pS 2 (pU 1))))))), rfl, (ec.write io b6 ((yD f4))), (cB (cB (cB (cB br aj.le) ak.le) bu.le) cl), (by omega), (by rw [fv, fw]; exact hst.num ho rfl (by omega) cj hce (decP_true.1 d6) (by rw [← d9]; exact f0)), (by first | omega | (rw [cT]; omega)), (by omega), ((l2.keptA b5 c8).keptA b6 c9), (l3.keptA b6 da), l4, (((((((hy.below bv).keptA bw h8.symm).moreA cl b3 h8.symm).below bj).keptA b4 fm.symm).keptA b5 fo.symm).keptA b6 fq.symm), ((((ij.below bj).keptA b4 dw.symm).keptA b5 dx.symm).keptA b6 dy.symm), (f5.keptA b6 fr.symm), c8, c9, fm, dw, fn, da, fo, dx, fp, fq, dy, fr, (((((((hs.below bv h3).kept bw ig ic).more cl b3 ic).below bj ik).kept b4 il dd).kept b5 im de).kept b6 io df), d4, ft, (cL (cL (cL dc d0) dg) fu), dd, de, df, d1, d2, d3⟩
 omega
 refine w9d ?_
 refine qD rfl (yS [vN, vN, vN] [vN, vN, vN] [] dU zr68 rfl pl68 rfl (fun _ h => by cases h) rfl) (q0 rfl rfl rfl (o_stp (cs' := [vN, vN, vN]) (us := [vN, vN, vN]) (v := .agg #[vN, vN, vN]) sz68 rfl rfl rfl (tT (by rfl) (by rfl) (by rfl)) ea.pins ij (cE rfl) rfl (fun pj l5 l6 l7 pk => ?_)))
 have l8 := ea.write l6 l7 ((zS ez))
 refine qM (.bool false) ?_
 refine qe (zA ?_)
 refine cP (zP (xF (cs := [vN, vN, vN]) (v := .bool false) rfl rfl rfl rfl rfl ag68 sz68 (fun j u hj => by rw [cS]; exact l5.cell hj) ?_))
 have hsb : spB fs = false := sp_nob (hst.bad (by omega) cj hce (decP_true.1 d6) (by rw [← d9]; exact f0))
 rw [hsb]
 exact ⟨_, _, _, _, _, _, _, rfl, (jU _ _), (jU _ _), (jU _ _), (fun h => by cases h), l8⟩
 refine cO (zA (w9b ?_))
 refine qD rfl (zH (k := 0) rfl dJ rfl nz30 rfl) (qD rfl (zJ (u := v) ag30 rfl ((cC dh.pins (cB (cB (cB (cB (cB ax.le ay.le) au.le) br) aj.le) ak.le)) _ _ _ (c0 0 _ rfl))) (qM (vJ (i : Int)) ?_))
 refine qD rfl (zF dF sz65 (v := v) rfl rfl hv (by omega) (by omega)) (qD rfl (xC (off := 0) dG rfl rfl nz56 (z := (i : Int)) (k := 0) rfl hv (by omega) (by omega)) ?_)
 obtain ⟨f6, ed, l9⟩ := jZ (hv.at (z := (i : Int)) (by omega) (by omega)) (j := i) rfl
 have pm := ed.max
 refine qD rfl (l9 ag56 rfl (cC dh.pins (cB (cB (cB (cB (cB (cB cb ax.le) ay.le) au.le) br) aj.le) ak.le))) (qD rfl (zM dE (v := f6) rfl ed) (qM (vJ 0) ?_))
 refine qe (zA ?_)
 refine zZ (yR (fun k en W => ∃ (bq : Nat → Value) (j : Nat) (lw : Value) (yl : List (Int × Int)) (Gj : Pin), en = (upd (upd (upd (upd (upd (upd (upd (upd (upd (upd (upd bq 1 (vP b1)) 2 (vP ae)) 4 (vP f)) 6 (vP c)) 7 (vJ (i : Int))) 33 ah) 34 (vJ (ats.length : Int))) 35 (vJ (i : Int))) 74 f6) 75 (vJ (((fs.getD i default).l).length : Int))) 76 (vJ (j : Int))) ∧ k = (fs.getD i default).l.length - j ∧ Ext noS G w Gj W ∧ Pin.le hf Gj ∧ (j ≤ (fs.getD i default).l.length) ∧ (InB true (stK fs i).2 (stK fs i).1 (fs.getD i default).l fs.length i j yl) ∧ (Own eP2 27 Gj W w.heap.size lw (yl)) ∧ (Own eP2 27 Gj W w.heap.size rv (xr)) ∧ (Own eBool 4 Gj W w.heap.size nv (xn)) ∧ (Own eInt 3 Gj W w.heap.size ah (ats)) ∧ (Bx Gj W ae [vN, vN, vN]) ∧ (Bx Gj W c [lw, rv, nv]) ∧ (Apart lw.ownBlock rv.ownBlock) ∧ (Apart lw.ownBlock nv.ownBlock) ∧ (Apart lw.ownBlock ah.ownBlock) ∧ (Apart lw.ownBlock (some ae)) ∧ (Apart lw.ownBlock (some c)) ∧ (Pk 56 3 Gj W f cg ch ci ag ao) ∧ (NP f cg ch ci ag lw.ownBlock)) _ ⟨_, 0, lv, xl, hf, (pS 76 (pS 75 (pS 74 (pS 35 (pS 34 (pS 33 (pS 7 (pS 6 (pS 4 (pS 2 (pU 1))))))))))), rfl, dh, cJ _, cI _, (InB.start hst.ll hst.l), hh, hl, hm, hn, hq, hr, c8, c9, fm, dw, fn, hg, dd⟩ ?_)
 rintro pn _ bk ⟨bq, j, lw, yl, Gj, rfl, po, bx, bz, hjj, hIL, ee, ef, ip, iq, ir, it, cm, cn, co, cp, cq, iu, cr⟩
 have hylj := hIL.len
 refine w9d ?_
 refine qD rfl (yU rfl rfl) (qe (zA (zB ?_)))
 refine yC (p := ((j : Int) : Int) < (((fs.getD i default).l).length : Int)) rfl rfl (fun ma => ?_) (fun ma => ?_)
 have hlzj := hoi.1 _ (yE (d := (0 : Int)) (show j < (fs.getD i default).l.length by omega))
 refine cO (zA (zB ?_))
 refine zZ (w9d ?_)
 refine qM (vJ (j : Int)) ?_
 refine qD rfl (zF dE sz3 (v := f6) rfl rfl ed (by omega) (by omega)) (qD rfl (zG (r := ((fs.getD i default).l).getD j 0) rfl ag3 (z := (j : Int)) rfl ed (cC bx.pins (cB (cB (cB (cB (cB (cB (cB cb ax.le) ay.le) au.le) br) aj.le) ak.le) bz)) (by omega) (by omega)) (qM (vJ (j : Int)) ?_))
 refine qM (vJ (((fs.getD i default).l).getD j 0)) ?_
 refine qe (zA (zB ?_))
 refine yW (S := fun wz => BxR wz c [lw, rv, nv] ∧ Pins (Gadd Gj bk lw) wz ∧ Pins (Gadd Gj bk rv) wz) (last := 15) (by kernel_rfl) rfl ?_
 have a0 := bdr bk
 have iv := bx.pins.below a0
 have di := bx.step iv a0
 have iw := ee.below a0
 have eg := ef.below a0
 have ix := ip.below a0
 have iy := iq.below a0
 have iz := ir.below a0
 have g := it.below a0
 have i0 := iu.below a0 iv
 have aa := (cM bx.pins lw).below a0
 have ab := (cM bx.pins rv).below a0
 refine dT (i := 0) rfl rfl (by kernel_rfl) (fun _ _ => zN (v := vJ (j : Int)) rfl) ⟨g.reads, aa, ab⟩ ?_
 refine dT (i := 1) rfl rfl (by kernel_rfl) (fun _ _ => xO rfl rfl) ⟨g.reads, aa, ab⟩ ?_
 refine dT (i := 2) rfl rfl (by kernel_rfl) (fun _ _ => zN (v := .bool (decide (((j : Int) : Int) = 0))) rfl) ⟨g.reads, aa, ab⟩ ?_
 refine drbd (p := ((j : Int) : Int) = 0) (t := 83) rfl (fun mb => ?_) (fun mb => ?_)
 refine yF (i := 3) rfl rfl (yJ rfl rfl rfl rfl rfl) (by kernel_rfl) ⟨g.reads, aa, ab⟩ (yF (i := 4) rfl rfl (yJ rfl rfl rfl rfl rfl) (by kernel_rfl) ⟨g.reads, aa, ab⟩ (yF (i := 5) rfl rfl (yJ rfl rfl rfl rfl rfl) (by kernel_rfl) ⟨g.reads, aa, ab⟩ (yF (i := 6) rfl rfl (yJ rfl rfl rfl rfl rfl) (by kernel_rfl) ⟨g.reads, aa, ab⟩ (yF (i := 7) rfl rfl (yJ rfl rfl rfl rfl rfl) (by kernel_rfl) ⟨g.reads, aa, ab⟩ (yF (i := 8) rfl rfl (yJ rfl rfl rfl rfl rfl) (by kernel_rfl) ⟨g.reads, aa, ab⟩ (yF (i := 9) rfl rfl (yJ rfl rfl rfl rfl rfl) (by kernel_rfl) ⟨g.reads, aa, ab⟩ (yF (i := 10) rfl rfl (yJ rfl rfl rfl rfl rfl) (by kernel_rfl) ⟨g.reads, aa, ab⟩ (yF (i := 11) rfl rfl (yJ rfl rfl rfl rfl rfl) (by kernel_rfl) ⟨g.reads, aa, ab⟩ (yF (i := 12) rfl rfl (yJ rfl rfl rfl rfl rfl) (by kernel_rfl) ⟨g.reads, aa, ab⟩ (yF (i := 13) rfl rfl (yJ rfl rfl rfl rfl rfl) (by kernel_rfl) ⟨g.reads, aa, ab⟩ (dT (i := 14) rfl rfl (by kernel_rfl) (fun _ _ => yB (v := .bool true) rfl rfl) ⟨g.reads, aa, ab⟩ ?_)))))))))))
 refine yL (by kernel_rfl) (zA (qK rfl rfl (yW (S := fun wz => BxR wz c [lw, rv, nv] ∧ Pins (Gadd Gj bk.drew rv) wz) (last := 9) (by kernel_rfl) rfl ?_)))
 have a3 : Below bk.drew.heap.size bk.drew bk.drew.drew := (Below.refl _ _).drew
 have i1 := di.pins.below a3
 have i2 := di.step i1 a3
 have f7 := iw.below a3
 have a4 := g.below a3
 have bl := (cM di.pins rv).below a3
 refine dT (i := 0) rfl rfl (by kernel_rfl) (fun _ _ => zH (k := 0) rfl dU rfl nz59 rfl) ⟨a4.reads, bl⟩ ?_
 refine dT (i := 1) rfl rfl (by kernel_rfl) (fun _ hS => zJ (u := lw) ag59 rfl (hS.1 0 _ rfl)) ⟨a4.reads, bl⟩ ?_
 refine dT (i := 2) rfl rfl (by kernel_rfl) (fun _ _ => zN (v := vJ (i : Int)) rfl) ⟨a4.reads, bl⟩ ?_
 refine dT (i := 3) rfl rfl (by kernel_rfl) (fun _ _ => zH (k := 1) rfl dU rfl nz59 rfl) ⟨a4.reads, bl⟩ ?_
 refine dT (i := 4) rfl rfl (by kernel_rfl) (fun _ hS => zJ (u := rv) ag59 rfl (hS.1 1 _ rfl)) ⟨a4.reads, bl⟩ ?_
 refine dT (i := 5) rfl rfl (by kernel_rfl) (fun _ _ => zN (v := vJ (((fs.getD i default).l).getD j 0)) rfl) ⟨a4.reads, bl⟩ ?_
 refine dT (i := 6) rfl rfl (by kernel_rfl) (fun _ _ => zF dK sz27 (v := rv) rfl rfl eg.read (by omega) (by omega)) ⟨a4.reads, bl⟩ ?_
 obtain ⟨pp, mc, md, pq⟩ := vA (j := (((fs.getD i default).l).getD j 0).toNat) default (eg.at (z := ((fs.getD i default).l).getD j 0) (by omega) (by omega)) rfl
 obtain rfl := mc
 refine dT (i := 7) rfl rfl (by kernel_rfl) (fun _ hS => md ag27 sz27 rfl hS.2) ⟨a4.reads, bl⟩ ?_
 refine dT (i := 8) rfl rfl (by kernel_rfl) (fun _ _ => zF dK sz27 (v := lw) rfl rfl f7.read (by omega) (by omega)) ⟨a4.reads, bl⟩ ?_
 refine dO (i := 9) (xK (i := 9) rfl rfl rfl (zR rfl _) (jK (E := eP2) (v := lw) (u := .agg #[vJ ((xr.getD (((fs.getD i default).l).getD j 0).toNat default).1), vJ ((xr.getD (((fs.getD i default).l).getD j 0).toNat default).2)]) (cs := [vJ ((xr.getD (((fs.getD i default).l).getD j 0).toNat default).1), vJ ((xr.getD (((fs.getD i default).l).getD j 0).toNat default).2)]) (z := (i : Int)) (((xr.getD (((fs.getD i default).l).getD j 0).toNat default).1, (xr.getD (((fs.getD i default).l).getD j 0).toNat default).2)) sz27 rfl rfl rfl rfl i2.pins f7 (by omega) (by omega) (fun pr me i3 b7 ps => ?_)))
 have mf := (eg.below a3).keptA b7 cm.symm
 have mg := (ix.below a3).keptA b7 cn.symm
 have mh := (iy.below a3).keptA b7 co.symm
 have mi := (iz.below a3).keptA b7 cp.symm
 have mj := a4.keptA b7 cq.symm
 have mk := (i0.below a3 i1).kept b7 i3 cr
 refine ⟨fun h => absurd rfl h, ?_⟩
 refine yL (by kernel_rfl) (w9c ?_)
 refine qD rfl (yH rfl rfl (by omega)) (qM (vJ ((j : Int) + 1)) ?_)
 refine qe (zV (⟨_, ?_, _, rfl, _, j + 1, lw, (yl).set i ((xr.getD (((fs.getD i default).l).getD j 0).toNat default).1, (xr.getD (((fs.getD i default).l).getD j 0).toNat default).2), Gj, (pS 76 (pS 75 (pS 74 (pS 35 (pS 34 (pS 33 (pS 7 (pS 6 (pS 4 (pS 2 (pU 1))))))))))), rfl, (i2.write i3 b7 ((yD f7))), bz, (by omega), (by have e : j = 0 := (by omega); subst e; exact hIL.first (by omega) hst.r hlzj), me, mf, mg, mh, mi, mj, cm, cn, co, cp, cq, mk, cr⟩))
 omega
 refine yP (i := 3) rfl rfl rfl (yG rfl rfl rfl rfl) (by kernel_rfl) (fun _ _ => zH (k := 0) rfl dU rfl nz59 rfl) ⟨g.reads, aa, ab⟩ (yP (i := 4) rfl rfl rfl (yG rfl rfl rfl rfl) (by kernel_rfl) (fun _ hS => zJ (u := lw) ag59 rfl (hS.1 0 _ rfl)) ⟨g.reads, aa, ab⟩ (yP (i := 5) rfl rfl rfl (yG rfl rfl rfl rfl) (by kernel_rfl) (fun _ _ => zN (v := vJ (i : Int)) rfl) ⟨g.reads, aa, ab⟩ (yP (i := 6) rfl rfl rfl (yG rfl rfl rfl rfl) (by kernel_rfl) (fun _ _ => zF dK sz27 (v := lw) rfl rfl ee.read (by omega) (by omega)) ⟨g.reads, aa, ab⟩ ?_)))
 obtain ⟨pt, ml, mm, pu⟩ := vA (j := i) default (ee.at (z := (i : Int)) (by omega) (by omega)) rfl
 obtain rfl := ml
 refine yP (i := 7) rfl rfl rfl (yG rfl rfl rfl rfl) (by kernel_rfl) (fun _ hS => mm ag27 sz27 rfl hS.2.1) ⟨g.reads, aa, ab⟩ (yP (i := 8) rfl rfl rfl (yG rfl rfl rfl rfl) (by kernel_rfl) (fun _ _ => zH (k := 1) rfl dU rfl nz59 rfl) ⟨g.reads, aa, ab⟩ (yP (i := 9) rfl rfl rfl (yG rfl rfl rfl rfl) (by kernel_rfl) (fun _ hS => zJ (u := rv) ag59 rfl (hS.1 1 _ rfl)) ⟨g.reads, aa, ab⟩ (yP (i := 10) rfl rfl rfl (yG rfl rfl rfl rfl) (by kernel_rfl) (fun _ _ => zN (v := vJ (((fs.getD i default).l).getD j 0)) rfl) ⟨g.reads, aa, ab⟩ (yP (i := 11) rfl rfl rfl (yG rfl rfl rfl rfl) (by kernel_rfl) (fun _ _ => zF dK sz27 (v := rv) rfl rfl ef.read (by omega) (by omega)) ⟨g.reads, aa, ab⟩ ?_))))
 obtain ⟨pv, mn, mo, pw⟩ := vA (j := (((fs.getD i default).l).getD j 0).toNat) default (ef.at (z := ((fs.getD i default).l).getD j 0) (by omega) (by omega)) rfl
 obtain rfl := mn
 refine yP (i := 12) rfl rfl rfl (yG rfl rfl rfl rfl) (by kernel_rfl) (fun _ hS => mo ag27 sz27 rfl hS.2.2) ⟨g.reads, aa, ab⟩ ?_
 have mp : GoodD (yl.getD i default).1 (yl.getD i default).2 := by rw [hIL.best (by omega)]; exact eP hgd.2 (fun o ho => hoi.1 o ho) (by omega) (by omega)
 have mq : GoodD (xr.getD ((fs.getD i default).l.getD j 0).toNat default).1 (xr.getD ((fs.getD i default).l.getD j 0).toNat default).2 := by rw [rL hst.r (show ((fs.getD i default).l.getD j 0).toNat < i by omega)]; exact hgd.2 _ (by omega)
 refine dO (i := 13) (eL (i := 13) rfl rfl rfl (yG rfl rfl rfl rfl) (zL (vs := [.agg #[vJ ((yl.getD i default).1), vJ ((yl.getD i default).2)], .agg #[vJ ((xr.getD (((fs.getD i default).l).getD j 0).toNat default).1), vJ ((xr.getD (((fs.getD i default).l).getD j 0).toNat default).2)]]) Tryz.func32 nm32 rfl rfl rfl ?_))
 refine cD (gE (t := (yl.getD i default).1) (z := (yl.getD i default).2) (s := (xr.getD (((fs.getD i default).l).getD j 0).toNat default).1) (y := (xr.getD (((fs.getD i default).l).getD j 0).toNat default).2) di.pins mp mq) ?_
 rintro _ eh ⟨f8, rfl, av⟩
 refine rt9 ?_
 have ei := di.tr av
 have i4 := iw.ext av
 have ej := eg.ext av
 have i5 := ix.ext av
 have i6 := iy.ext av
 have i7 := iz.ext av
 have ek := g.ext av
 have i8 := i0.ext av
 have i9 := aa.below av.below
 have ja := ab.below av.below
 refine ⟨fun _ => ⟨ek.reads, i9, ja⟩, ?_⟩
 refine dT (i := 14) rfl rfl (by kernel_rfl) (fun _ _ => zU (v := .bool (decide (scI 16 ((yl.getD i default).1) ((yl.getD i default).2) < scI 16 ((xr.getD (((fs.getD i default).l).getD j 0).toNat default).1) ((xr.getD (((fs.getD i default).l).getD j 0).toNat default).2)))) rfl rfl) ⟨ek.reads, i9, ja⟩ ?_
 refine yL (by kernel_rfl) (zA (yC (p := scI 16 ((yl.getD i default).1) ((yl.getD i default).2) < scI 16 ((xr.getD (((fs.getD i default).l).getD j 0).toNat default).1) ((xr.getD (((fs.getD i default).l).getD j 0).toNat default).2)) rfl rfl (fun f9 => ?_) (fun f9 => ?_)))
 refine yW (S := fun wz => BxR wz c [lw, rv, nv] ∧ Pins (Gadd f8 eh rv) wz) (last := 9) (by kernel_rfl) rfl ?_
 have a5 := bdr eh
 have jb := ei.pins.below a5
 have jc := ei.step jb a5
 have ga := i4.below a5
 have a6 := ek.below a5
 have bm := (cM ei.pins rv).below a5
 refine dT (i := 0) rfl rfl (by kernel_rfl) (fun _ _ => zH (k := 0) rfl dU rfl nz59 rfl) ⟨a6.reads, bm⟩ ?_
 refine dT (i := 1) rfl rfl (by kernel_rfl) (fun _ hS => zJ (u := lw) ag59 rfl (hS.1 0 _ rfl)) ⟨a6.reads, bm⟩ ?_
 refine dT (i := 2) rfl rfl (by kernel_rfl) (fun _ _ => zN (v := vJ (i : Int)) rfl) ⟨a6.reads, bm⟩ ?_
 refine dT (i := 3) rfl rfl (by kernel_rfl) (fun _ _ => zH (k := 1) rfl dU rfl nz59 rfl) ⟨a6.reads, bm⟩ ?_
 refine dT (i := 4) rfl rfl (by kernel_rfl) (fun _ hS => zJ (u := rv) ag59 rfl (hS.1 1 _ rfl)) ⟨a6.reads, bm⟩ ?_
 refine dT (i := 5) rfl rfl (by kernel_rfl) (fun _ _ => zN (v := vJ (((fs.getD i default).l).getD j 0)) rfl) ⟨a6.reads, bm⟩ ?_
 refine dT (i := 6) rfl rfl (by kernel_rfl) (fun _ _ => zF dK sz27 (v := rv) rfl rfl ej.read (by omega) (by omega)) ⟨a6.reads, bm⟩ ?_
 obtain ⟨px, mr, ms, py⟩ := vA (j := (((fs.getD i default).l).getD j 0).toNat) default (ej.at (z := ((fs.getD i default).l).getD j 0) (by omega) (by omega)) rfl
 obtain rfl := mr
 refine dT (i := 7) rfl rfl (by kernel_rfl) (fun _ hS => ms ag27 sz27 rfl hS.2) ⟨a6.reads, bm⟩ ?_
 refine dT (i := 8) rfl rfl (by kernel_rfl) (fun _ _ => zF dK sz27 (v := lw) rfl rfl ga.read (by omega) (by omega)) ⟨a6.reads, bm⟩ ?_
 refine dO (i := 9) (xK (i := 9) rfl rfl rfl (zR rfl _) (jK (E := eP2) (v := lw) (u := .agg #[vJ ((xr.getD (((fs.getD i default).l).getD j 0).toNat default).1), vJ ((xr.getD (((fs.getD i default).l).getD j 0).toNat default).2)]) (cs := [vJ ((xr.getD (((fs.getD i default).l).getD j 0).toNat default).1), vJ ((xr.getD (((fs.getD i default).l).getD j 0).toNat default).2)]) (z := (i : Int)) (((xr.getD (((fs.getD i default).l).getD j 0).toNat default).1, (xr.getD (((fs.getD i default).l).getD j 0).toNat default).2)) sz27 rfl rfl rfl rfl jc.pins ga (by omega) (by omega) (fun pz mt jd b8 p0 => ?_)))
 refine ⟨fun h => absurd rfl h, ?_⟩
 refine yL (by kernel_rfl) (w9c ?_)
 refine qD rfl (yH rfl rfl (by omega)) (qM (vJ ((j : Int) + 1)) ?_)
 refine qe (zV (⟨_, ?_, _, rfl, _, j + 1, lw, (yl).set i ((xr.getD (((fs.getD i default).l).getD j 0).toNat default).1, (xr.getD (((fs.getD i default).l).getD j 0).toNat default).2), f8, (pS 76 (pS 75 (pS 74 (pS 35 (pS 34 (pS 33 (pS 7 (pS 6 (pS 4 (pS 2 (pU 1))))))))))), rfl, (jc.write jd b8 ((yD ga))), (cB bz av.le), (by omega), (hIL.more (by omega) hst.r hlzj (by omega) (decide_eq_true f9)), mt, ((ej.below a5).keptA b8 cm.symm), ((i5.below a5).keptA b8 cn.symm), ((i6.below a5).keptA b8 co.symm), ((i7.below a5).keptA b8 cp.symm), (a6.keptA b8 cq.symm), cm, cn, co, cp, cq, ((i8.below a5 jb).kept b8 jd cr), cr⟩))
 omega
 refine cO (w9c ?_)
 refine qD rfl (yH rfl rfl (by omega)) (qM (vJ ((j : Int) + 1)) ?_)
 refine qe (zV (⟨_, ?_, _, rfl, _, j + 1, lw, yl, f8, (pS 76 (pS 75 (pS 74 (pS 35 (pS 34 (pS 33 (pS 7 (pS 6 (pS 4 (pS 2 (pU 1))))))))))), rfl, ei, (cB bz av.le), (by omega), (hIL.less hst.r hlzj (by omega) (decide_eq_false f9)), i4, ej, i5, i6, i7, ek, cm, cn, co, cp, cq, i8, cr⟩))
 omega
 refine cQ (zX (yO (yK (w9a ?_))))
 refine qD rfl (zH (k := 0) rfl dJ rfl nz30 rfl) (qD rfl (zJ (u := v) ag30 rfl ((cC bx.pins (cB (cB (cB (cB (cB (cB ax.le ay.le) au.le) br) aj.le) ak.le) bz)) _ _ _ (c0 0 _ rfl))) (qM (vJ (i : Int)) ?_))
 refine qD rfl (zF dF sz65 (v := v) rfl rfl hv (by omega) (by omega)) (qD rfl (xC (off := 1) dG rfl rfl nz56 (z := (i : Int)) (k := 0) rfl hv (by omega) (by omega)) ?_)
 obtain ⟨gb, el, mu⟩ := jY (hv.at (z := (i : Int)) (by omega) (by omega)) (j := i) rfl
 have p1 := el.max
 refine qD rfl (mu ag56 rfl (cC bx.pins (cB (cB (cB (cB (cB (cB (cB cb ax.le) ay.le) au.le) br) aj.le) ak.le) bz))) (qD rfl (zM dE (v := gb) rfl el) (qM (vJ 0) ?_))
 refine qe (zA ?_)
 refine zZ (yR (fun k en W => ∃ (bq : Nat → Value) (a : Nat) (rw : Value) (zr : List (Int × Int)) (an : Pin), en = (upd (upd (upd (upd (upd (upd (upd (upd (upd (upd (upd bq 1 (vP b1)) 2 (vP ae)) 4 (vP f)) 6 (vP c)) 7 (vJ (i : Int))) 33 ah) 34 (vJ (ats.length : Int))) 35 (vJ (i : Int))) 111 gb) 112 (vJ (((fs.getD i default).r).length : Int))) 113 (vJ (a : Int))) ∧ k = (fs.getD i default).r.length - a ∧ Ext noS G w an W ∧ Pin.le Gj an ∧ (a ≤ (fs.getD i default).r.length) ∧ (InB false (stK fs i).1 (stK fs i).2 (fs.getD i default).r fs.length i a zr) ∧ (Own eP2 27 an W w.heap.size rw (zr)) ∧ (Own eP2 27 an W w.heap.size lw (yl)) ∧ (Own eBool 4 an W w.heap.size nv (xn)) ∧ (Own eInt 3 an W w.heap.size ah (ats)) ∧ (Bx an W ae [vN, vN, vN]) ∧ (Bx an W c [lw, rw, nv]) ∧ (Apart rw.ownBlock lw.ownBlock) ∧ (Apart rw.ownBlock nv.ownBlock) ∧ (Apart rw.ownBlock ah.ownBlock) ∧ (Apart rw.ownBlock (some ae)) ∧ (Apart rw.ownBlock (some c)) ∧ (Pk 56 3 an W f cg ch ci ag ao) ∧ (NP f cg ch ci ag rw.ownBlock)) _ ⟨_, 0, rv, xr, Gj, (pS 113 (pS 112 (pS 111 (pS 35 (pS 34 (pS 33 (pS 7 (pS 6 (pS 4 (pS 2 (pU 1))))))))))), rfl, bx, cJ _, cI _, (InB.start hst.lr hst.r), ef, ee, ip, iq, ir, it, cm.symm, da, fo, dx, fp, iu, de⟩ ?_)
 rintro p2 _ bn ⟨bq, a, rw, zr, an, rfl, p3, ct, dj, p4, hIR, em, eo, je, jf, jg, jh, cu, cv, cw, cx, cy, ji, cz⟩
 have p5 := hIR.len
 refine w9d ?_
 refine qD rfl (yU rfl rfl) (qe (zA (zB ?_)))
 refine yC (p := ((a : Int) : Int) < (((fs.getD i default).r).length : Int)) rfl rfl (fun mv => ?_) (fun mv => ?_)
 have gc := hoi.2 _ (yE (d := (0 : Int)) (show a < (fs.getD i default).r.length by omega))
 refine cO (zA (zB ?_))
 refine zZ (w9d ?_)
 refine qM (vJ (a : Int)) ?_
 refine qD rfl (zF dE sz3 (v := gb) rfl rfl el (by omega) (by omega)) (qD rfl (zG (r := ((fs.getD i default).r).getD a 0) rfl ag3 (z := (a : Int)) rfl el (cC ct.pins (cB (cB (cB (cB (cB (cB (cB (cB cb ax.le) ay.le) au.le) br) aj.le) ak.le) bz) dj)) (by omega) (by omega)) (qM (vJ (a : Int)) ?_))
 refine qM (vJ (((fs.getD i default).r).getD a 0)) ?_
 refine qe (zA (zB ?_))
 refine yW (S := fun wz => BxR wz c [lw, rw, nv] ∧ Pins (Gadd an bn lw) wz ∧ Pins (Gadd an bn rw) wz) (last := 15) (by kernel_rfl) rfl ?_
 have a1 := bdr bn
 have jj := ct.pins.below a1
 have dk := ct.step jj a1
 have jk := em.below a1
 have ep := eo.below a1
 have jl := je.below a1
 have jm := jf.below a1
 have jn := jg.below a1
 have m := jh.below a1
 have jo := ji.below a1 jj
 have ac := (cM ct.pins lw).below a1
 have ad := (cM ct.pins rw).below a1
 refine dT (i := 0) rfl rfl (by kernel_rfl) (fun _ _ => zN (v := vJ (a : Int)) rfl) ⟨m.reads, ac, ad⟩ ?_
 refine dT (i := 1) rfl rfl (by kernel_rfl) (fun _ _ => xO rfl rfl) ⟨m.reads, ac, ad⟩ ?_
 refine dT (i := 2) rfl rfl (by kernel_rfl) (fun _ _ => zN (v := .bool (decide (((a : Int) : Int) = 0))) rfl) ⟨m.reads, ac, ad⟩ ?_
 refine drbd (p := ((a : Int) : Int) = 0) (t := 120) rfl (fun mw => ?_) (fun mw => ?_)
 refine yF (i := 3) rfl rfl (yJ rfl rfl rfl rfl rfl) (by kernel_rfl) ⟨m.reads, ac, ad⟩ (yF (i := 4) rfl rfl (yJ rfl rfl rfl rfl rfl) (by kernel_rfl) ⟨m.reads, ac, ad⟩ (yF (i := 5) rfl rfl (yJ rfl rfl rfl rfl rfl) (by kernel_rfl) ⟨m.reads, ac, ad⟩ (yF (i := 6) rfl rfl (yJ rfl rfl rfl rfl rfl) (by kernel_rfl) ⟨m.reads, ac, ad⟩ (yF (i := 7) rfl rfl (yJ rfl rfl rfl rfl rfl) (by kernel_rfl) ⟨m.reads, ac, ad⟩ (yF (i := 8) rfl rfl (yJ rfl rfl rfl rfl rfl) (by kernel_rfl) ⟨m.reads, ac, ad⟩ (yF (i := 9) rfl rfl (yJ rfl rfl rfl rfl rfl) (by kernel_rfl) ⟨m.reads, ac, ad⟩ (yF (i := 10) rfl rfl (yJ rfl rfl rfl rfl rfl) (by kernel_rfl) ⟨m.reads, ac, ad⟩ (yF (i := 11) rfl rfl (yJ rfl rfl rfl rfl rfl) (by kernel_rfl) ⟨m.reads, ac, ad⟩ (yF (i := 12) rfl rfl (yJ rfl rfl rfl rfl rfl) (by kernel_rfl) ⟨m.reads, ac, ad⟩ (yF (i := 13) rfl rfl (yJ rfl rfl rfl rfl rfl) (by kernel_rfl) ⟨m.reads, ac, ad⟩ (dT (i := 14) rfl rfl (by kernel_rfl) (fun _ _ => yB (v := .bool true) rfl rfl) ⟨m.reads, ac, ad⟩ ?_)))))))))))
 refine yL (by kernel_rfl) (zA (qK rfl rfl (yW (S := fun wz => BxR wz c [lw, rw, nv] ∧ Pins (Gadd an bn.drew lw) wz) (last := 9) (by kernel_rfl) rfl ?_)))
 have a7 : Below bn.drew.heap.size bn.drew bn.drew.drew := (Below.refl _ _).drew
 have jp := dk.pins.below a7
 have jq := dk.step jp a7
 have gd := jk.below a7
 have a8 := m.below a7
 have bo := (cM dk.pins lw).below a7
 refine dT (i := 0) rfl rfl (by kernel_rfl) (fun _ _ => zH (k := 1) rfl dU rfl nz59 rfl) ⟨a8.reads, bo⟩ ?_
 refine dT (i := 1) rfl rfl (by kernel_rfl) (fun _ hS => zJ (u := rw) ag59 rfl (hS.1 1 _ rfl)) ⟨a8.reads, bo⟩ ?_
 refine dT (i := 2) rfl rfl (by kernel_rfl) (fun _ _ => zN (v := vJ (i : Int)) rfl) ⟨a8.reads, bo⟩ ?_
 refine dT (i := 3) rfl rfl (by kernel_rfl) (fun _ _ => zH (k := 0) rfl dU rfl nz59 rfl) ⟨a8.reads, bo⟩ ?_
 refine dT (i := 4) rfl rfl (by kernel_rfl) (fun _ hS => zJ (u := lw) ag59 rfl (hS.1 0 _ rfl)) ⟨a8.reads, bo⟩ ?_
 refine dT (i := 5) rfl rfl (by kernel_rfl) (fun _ _ => zN (v := vJ (((fs.getD i default).r).getD a 0)) rfl) ⟨a8.reads, bo⟩ ?_
 refine dT (i := 6) rfl rfl (by kernel_rfl) (fun _ _ => zF dK sz27 (v := lw) rfl rfl ep.read (by omega) (by omega)) ⟨a8.reads, bo⟩ ?_
 obtain ⟨p6, mx, my, p7⟩ := vA (j := (((fs.getD i default).r).getD a 0).toNat) default (ep.at (z := ((fs.getD i default).r).getD a 0) (by omega) (by omega)) rfl
 obtain rfl := mx
 refine dT (i := 7) rfl rfl (by kernel_rfl) (fun _ hS => my ag27 sz27 rfl hS.2) ⟨a8.reads, bo⟩ ?_
 refine dT (i := 8) rfl rfl (by kernel_rfl) (fun _ _ => zF dK sz27 (v := rw) rfl rfl gd.read (by omega) (by omega)) ⟨a8.reads, bo⟩ ?_
 refine dO (i := 9) (xK (i := 9) rfl rfl rfl (zR rfl _) (jK (E := eP2) (v := rw) (u := .agg #[vJ ((yl.getD (((fs.getD i default).r).getD a 0).toNat default).1), vJ ((yl.getD (((fs.getD i default).r).getD a 0).toNat default).2)]) (cs := [vJ ((yl.getD (((fs.getD i default).r).getD a 0).toNat default).1), vJ ((yl.getD (((fs.getD i default).r).getD a 0).toNat default).2)]) (z := (i : Int)) (((yl.getD (((fs.getD i default).r).getD a 0).toNat default).1, (yl.getD (((fs.getD i default).r).getD a 0).toNat default).2)) sz27 rfl rfl rfl rfl jq.pins gd (by omega) (by omega) (fun p8 mz jr b9 p9 => ?_)))
 have m0 := (ep.below a7).keptA b9 cu.symm
 have m1 := (jl.below a7).keptA b9 cv.symm
 have m2 := (jm.below a7).keptA b9 cw.symm
 have m3 := (jn.below a7).keptA b9 cx.symm
 have m4 := a8.keptA b9 cy.symm
 have m5 := (jo.below a7 jp).kept b9 jr cz
 refine ⟨fun h => absurd rfl h, ?_⟩
 refine yL (by kernel_rfl) (w9c ?_)
 refine qD rfl (yH rfl rfl (by omega)) (qM (vJ ((a : Int) + 1)) ?_)
 refine qe (zV (⟨_, ?_, _, rfl, _, a + 1, rw, (zr).set i ((yl.getD (((fs.getD i default).r).getD a 0).toNat default).1, (yl.getD (((fs.getD i default).r).getD a 0).toNat default).2), an, (pS 113 (pS 112 (pS 111 (pS 35 (pS 34 (pS 33 (pS 7 (pS 6 (pS 4 (pS 2 (pU 1))))))))))), rfl, (jq.write jr b9 ((yD gd))), dj, (by omega), (by have e : a = 0 := (by omega); subst e; exact hIR.first (by omega) hIL.pre gc), mz, m0, m1, m2, m3, m4, cu, cv, cw, cx, cy, m5, cz⟩))
 omega
 refine yP (i := 3) rfl rfl rfl (yG rfl rfl rfl rfl) (by kernel_rfl) (fun _ _ => zH (k := 0) rfl dU rfl nz59 rfl) ⟨m.reads, ac, ad⟩ (yP (i := 4) rfl rfl rfl (yG rfl rfl rfl rfl) (by kernel_rfl) (fun _ hS => zJ (u := lw) ag59 rfl (hS.1 0 _ rfl)) ⟨m.reads, ac, ad⟩ (yP (i := 5) rfl rfl rfl (yG rfl rfl rfl rfl) (by kernel_rfl) (fun _ _ => zN (v := vJ (((fs.getD i default).r).getD a 0)) rfl) ⟨m.reads, ac, ad⟩ (yP (i := 6) rfl rfl rfl (yG rfl rfl rfl rfl) (by kernel_rfl) (fun _ _ => zF dK sz27 (v := lw) rfl rfl eo.read (by omega) (by omega)) ⟨m.reads, ac, ad⟩ ?_)))
 obtain ⟨qa, m6, m7, qb⟩ := vA (j := (((fs.getD i default).r).getD a 0).toNat) default (eo.at (z := ((fs.getD i default).r).getD a 0) (by omega) (by omega)) rfl
 obtain rfl := m6
 refine yP (i := 7) rfl rfl rfl (yG rfl rfl rfl rfl) (by kernel_rfl) (fun _ hS => m7 ag27 sz27 rfl hS.2.1) ⟨m.reads, ac, ad⟩ (yP (i := 8) rfl rfl rfl (yG rfl rfl rfl rfl) (by kernel_rfl) (fun _ _ => zH (k := 1) rfl dU rfl nz59 rfl) ⟨m.reads, ac, ad⟩ (yP (i := 9) rfl rfl rfl (yG rfl rfl rfl rfl) (by kernel_rfl) (fun _ hS => zJ (u := rw) ag59 rfl (hS.1 1 _ rfl)) ⟨m.reads, ac, ad⟩ (yP (i := 10) rfl rfl rfl (yG rfl rfl rfl rfl) (by kernel_rfl) (fun _ _ => zN (v := vJ (i : Int)) rfl) ⟨m.reads, ac, ad⟩ (yP (i := 11) rfl rfl rfl (yG rfl rfl rfl rfl) (by kernel_rfl) (fun _ _ => zF dK sz27 (v := rw) rfl rfl em.read (by omega) (by omega)) ⟨m.reads, ac, ad⟩ ?_))))
 obtain ⟨qc, m8, m9, qf⟩ := vA (j := i) default (em.at (z := (i : Int)) (by omega) (by omega)) rfl
 obtain rfl := m8
 refine yP (i := 12) rfl rfl rfl (yG rfl rfl rfl rfl) (by kernel_rfl) (fun _ hS => m9 ag27 sz27 rfl hS.2.2) ⟨m.reads, ac, ad⟩ ?_
 have na : GoodD (zr.getD i default).1 (zr.getD i default).2 := by rw [hIR.best (by omega)]; exact eP hgd.1 (fun o ho => hoi.2 o ho) (by omega) (by omega)
 have nb : GoodD (yl.getD ((fs.getD i default).r.getD a 0).toNat default).1 (yl.getD ((fs.getD i default).r.getD a 0).toNat default).2 := by rw [rL hIL.pre (show ((fs.getD i default).r.getD a 0).toNat < i by omega)]; exact hgd.1 _ (by omega)
 refine dO (i := 13) (eL (i := 13) rfl rfl rfl (yG rfl rfl rfl rfl) (zL (vs := [.agg #[vJ ((yl.getD (((fs.getD i default).r).getD a 0).toNat default).1), vJ ((yl.getD (((fs.getD i default).r).getD a 0).toNat default).2)], .agg #[vJ ((zr.getD i default).1), vJ ((zr.getD i default).2)]]) Tryz.func32 nm32 rfl rfl rfl ?_))
 refine cD (gE (t := (yl.getD (((fs.getD i default).r).getD a 0).toNat default).1) (z := (yl.getD (((fs.getD i default).r).getD a 0).toNat default).2) (s := (zr.getD i default).1) (y := (zr.getD i default).2) dk.pins nb na) ?_
 rintro _ eq ⟨ge, rfl, aw⟩
 refine rt9 ?_
 have er := dk.tr aw
 have js := jk.ext aw
 have es := ep.ext aw
 have jt := jl.ext aw
 have ju := jm.ext aw
 have jv := jn.ext aw
 have et := m.ext aw
 have jw := jo.ext aw
 have jx := ac.below aw.below
 have jy := ad.below aw.below
 refine ⟨fun _ => ⟨et.reads, jx, jy⟩, ?_⟩
 refine dT (i := 14) rfl rfl (by kernel_rfl) (fun _ _ => zU (v := .bool (decide (scI 16 ((yl.getD (((fs.getD i default).r).getD a 0).toNat default).1) ((yl.getD (((fs.getD i default).r).getD a 0).toNat default).2) < scI 16 ((zr.getD i default).1) ((zr.getD i default).2)))) rfl rfl) ⟨et.reads, jx, jy⟩ ?_
 refine yL (by kernel_rfl) (zA (yC (p := scI 16 ((yl.getD (((fs.getD i default).r).getD a 0).toNat default).1) ((yl.getD (((fs.getD i default).r).getD a 0).toNat default).2) < scI 16 ((zr.getD i default).1) ((zr.getD i default).2)) rfl rfl (fun gf => ?_) (fun gf => ?_)))
 refine yW (S := fun wz => BxR wz c [lw, rw, nv] ∧ Pins (Gadd ge eq lw) wz) (last := 9) (by kernel_rfl) rfl ?_
 have a9 := bdr eq
 have jz := er.pins.below a9
 have j0 := er.step jz a9
 have gg := js.below a9
 have ba := et.below a9
 have bp := (cM er.pins lw).below a9
 refine dT (i := 0) rfl rfl (by kernel_rfl) (fun _ _ => zH (k := 1) rfl dU rfl nz59 rfl) ⟨ba.reads, bp⟩ ?_
 refine dT (i := 1) rfl rfl (by kernel_rfl) (fun _ hS => zJ (u := rw) ag59 rfl (hS.1 1 _ rfl)) ⟨ba.reads, bp⟩ ?_
 refine dT (i := 2) rfl rfl (by kernel_rfl) (fun _ _ => zN (v := vJ (i : Int)) rfl) ⟨ba.reads, bp⟩ ?_
 refine dT (i := 3) rfl rfl (by kernel_rfl) (fun _ _ => zH (k := 0) rfl dU rfl nz59 rfl) ⟨ba.reads, bp⟩ ?_
 refine dT (i := 4) rfl rfl (by kernel_rfl) (fun _ hS => zJ (u := lw) ag59 rfl (hS.1 0 _ rfl)) ⟨ba.reads, bp⟩ ?_
 refine dT (i := 5) rfl rfl (by kernel_rfl) (fun _ _ => zN (v := vJ (((fs.getD i default).r).getD a 0)) rfl) ⟨ba.reads, bp⟩ ?_
 refine dT (i := 6) rfl rfl (by kernel_rfl) (fun _ _ => zF dK sz27 (v := lw) rfl rfl es.read (by omega) (by omega)) ⟨ba.reads, bp⟩ ?_
 obtain ⟨qg, nc, nd, qh⟩ := vA (j := (((fs.getD i default).r).getD a 0).toNat) default (es.at (z := ((fs.getD i default).r).getD a 0) (by omega) (by omega)) rfl
 obtain rfl := nc
 refine dT (i := 7) rfl rfl (by kernel_rfl) (fun _ hS => nd ag27 sz27 rfl hS.2) ⟨ba.reads, bp⟩ ?_
 refine dT (i := 8) rfl rfl (by kernel_rfl) (fun _ _ => zF dK sz27 (v := rw) rfl rfl gg.read (by omega) (by omega)) ⟨ba.reads, bp⟩ ?_
 refine dO (i := 9) (xK (i := 9) rfl rfl rfl (zR rfl _) (jK (E := eP2) (v := rw) (u := .agg #[vJ ((yl.getD (((fs.getD i default).r).getD a 0).toNat default).1), vJ ((yl.getD (((fs.getD i default).r).getD a 0).toNat default).2)]) (cs := [vJ ((yl.getD (((fs.getD i default).r).getD a 0).toNat default).1), vJ ((yl.getD (((fs.getD i default).r).getD a 0).toNat default).2)]) (z := (i : Int)) (((yl.getD (((fs.getD i default).r).getD a 0).toNat default).1, (yl.getD (((fs.getD i default).r).getD a 0).toNat default).2)) sz27 rfl rfl rfl rfl j0.pins gg (by omega) (by omega) (fun qi ne j1 ca qj => ?_)))
 refine ⟨fun h => absurd rfl h, ?_⟩
 refine yL (by kernel_rfl) (w9c ?_)
 refine qD rfl (yH rfl rfl (by omega)) (qM (vJ ((a : Int) + 1)) ?_)
 refine qe (zV (⟨_, ?_, _, rfl, _, a + 1, rw, (zr).set i ((yl.getD (((fs.getD i default).r).getD a 0).toNat default).1, (yl.getD (((fs.getD i default).r).getD a 0).toNat default).2), ge, (pS 113 (pS 112 (pS 111 (pS 35 (pS 34 (pS 33 (pS 7 (pS 6 (pS 4 (pS 2 (pU 1))))))))))), rfl, (j0.write j1 ca ((yD gg))), (cB dj aw.le), (by omega), (hIR.more (by omega) hIL.pre gc (by omega) (decide_eq_true gf)), ne, ((es.below a9).keptA ca cu.symm), ((jt.below a9).keptA ca cv.symm), ((ju.below a9).keptA ca cw.symm), ((jv.below a9).keptA ca cx.symm), (ba.keptA ca cy.symm), cu, cv, cw, cx, cy, ((jw.below a9 jz).kept ca j1 cz), cz⟩))
 omega
 refine cO (w9c ?_)
 refine qD rfl (yH rfl rfl (by omega)) (qM (vJ ((a : Int) + 1)) ?_)
 refine qe (zV (⟨_, ?_, _, rfl, _, a + 1, rw, zr, ge, (pS 113 (pS 112 (pS 111 (pS 35 (pS 34 (pS 33 (pS 7 (pS 6 (pS 4 (pS 2 (pU 1))))))))))), rfl, er, (cB dj aw.le), (by omega), (hIR.less hIL.pre gc (by omega) (decide_eq_false gf)), js, es, jt, ju, jv, et, cu, cv, cw, cx, cy, jw, cz⟩))
 omega
 refine cQ (zX (yO (yK (w9c ?_))))
 refine qD rfl (yH rfl rfl (by omega)) (qM (vJ ((i : Int) + 1)) ?_)
 refine qe (zV ?_)
 have hunx := fM dg af.ns.length
 have hunl := cgA List.length ck.1
 refine ⟨_, ?_, _, rfl, _, i + 1, lw, rw, nv, yl, zr, xn, cg, ch, ci, ao, an, (pS 35 (pS 34 (pS 33 (pS 6 (pS 4 (pS 2 (pU 1))))))), rfl, ct, (cB (cB (cB (cB br aj.le) ak.le) bz) dj), (by omega), (hst.opt ho rfl (by omega) cj hce (decP_false.1 d6) (by have e : j = (fs.getD i default).l.length := (by omega); rw [← e]; exact hIL) (by have e : a = (fs.getD i default).r.length := (by omega); rw [← e]; exact hIR)), (by first | omega | (rw [cT]; omega)), (by omega), eo, em, je, jf, jg, jh, cu.symm, cn, co, cp, cq, cv, cw, cx, cy, fq, dy, fr, ji, d4, d5, (cL (cL dc d0) dg), cr, cz, df, d1, d2, d3⟩
 omega
 refine cQ (zX (yO (yK (w9a ?_))))
 refine qD rfl (yA (cs := [lv, rv, nv]) ag68 sz68 rfl (fun j u hj => fl.cell (by simpa using hj))) (q0 rfl rfl rfl (o_stp (cs' := [lv, rv, nv]) (us := [lv, rv, nv]) (v := .agg #[lv, rv, nv]) sz68 rfl rfl rfl (tT ds.one dt.one du.one) cf.pins fk (cE rfl) rfl (fun qk nf ng eu ql => ?_)))
 refine qM (.bool true) ?_
 refine qe (zA ?_)
 refine cP (zP (xF (cs := [lv, rv, nv]) (v := .bool true) rfl rfl rfl rfl rfl ag68 sz68 (fun j u hj => by rw [cS]; exact nf.cell hj) ?_))
 obtain ⟨qm, j2, nh, ni, j3⟩ := (ds.keptA eu dw).sealed (cf.write ng eu ((zS ez)))
 obtain ⟨qn, j4, nj, nk, nl⟩ := ((dt.keptA eu dx).moreO j2 j3 c8.symm).sealed nh
 obtain ⟨qo, j5, nm, nn, qp⟩ := (((du.keptA eu dy).moreO j2 j3 c9.symm).moreO j4 nl da.symm).sealed nj
 have hin : i = fs.length := by omega
 have j6 := hst.ok
 have gh := hst.l
 have gi := hst.r
 rw [hin] at j6 gh gi
 rw [List.take_of_length_le (by omega)] at gh gi
 have hsb : spB fs = true := sp_yesb hgb j6
 rw [hsb]
 exact ⟨_, _, _, _, _, _, _, rfl, (ni.mono (cB j4 j5)), (nk.mono j5), nn, (fun _ => ⟨gh, gi⟩), nm⟩
 refine w9d ?_
 refine qD rfl (yS [vN, vN, vN] [vN, vN, vN] [] dU zr68 rfl pl68 rfl (fun _ h => by cases h) rfl) (q0 rfl rfl rfl (o_stp (cs' := [vN, vN, vN]) (us := [vN, vN, vN]) (v := .agg #[vN, vN, vN]) sz68 rfl rfl rfl (tT (by rfl) (by rfl) (by rfl)) c1.pins e0 (cE rfl) rfl (fun qq no np nq qr => ?_)))
 have nr := c1.write np nq ((zS ez))
 refine qM (.bool false) ?_
 refine qe (zA ?_)
 refine cP (zP (xF (cs := [vN, vN, vN]) (v := .bool false) rfl rfl rfl rfl rfl ag68 sz68 (fun j u hj => by rw [cS]; exact no.cell hj) ?_))
 have hsb : spB fs = false := sp_bad e1
 rw [hsb]
 exact ⟨_, _, _, _, _, _, _, rfl, (jU _ _), (jU _ _), (jU _ _), (fun h => by cases h), nr⟩
end SP1
namespace SP2
open B1 C1 D1 E1 K1 PO1 PL1 NU1 NU2 NU3 NB4 VA1 VA2 VA3 SW1 DI1 RI1 CN1 CN2 CN3 CN4 AS2 SP1
theorem pl27 : (Tryz.prog.underlying 27).bind (placesD Tryz.prog) = some [(0, 1), (1, 1)] := by kernel_rfl
theorem ends_spec {w : World} {G : Pin} {v : Value} {fs : List Nd} (hP : Pins G w) (hv : RSl eNode G v fs) :
  Calls Tryz.prog 29 [.agg #[v]].toArray w fun e w' => ∃ G', e = .returned (.tuple #[.agg #[.int .i64 (spL fs).1, .int .i64 (spL fs).2], .agg #[.int .i64 (spR fs).1, .int .i64 (spR fs).2], .bool (spB fs)]) ∧ Ext noS G w G' w' := by
 refine zY (n := 31) Tryz.func29 Tryz.ntmps29 rfl rfl ?_
 have t := exr noS hP
 refine w9d ?_
 refine qI rfl (xH [v] (v := .agg #[v]) rfl rfl t.pins (fun b1 w2 b7 a8 a9 ba => ?_))
 have bb : w.heap.size ≤ b1 := by have := t.size; omega
 obtain ⟨G9, bc, x, ak, b9⟩ := a8.shut (t.step a9 ba) bb
 refine qI rfl (yI [vJ 0, vJ 0] zr27 rfl x.pins (fun bd ca cb al be bf => ?_))
 have y := x.step be bf
 have am : w.heap.size ≤ bd := by have := x.size; omega
 refine qI rfl (yI [vJ 0, vJ 0] zr27 rfl y.pins (fun bg cc bh bi bj an => ?_))
 have aa := y.step bj an
 have m := zI (cgA some bh) al.lt
 have ao : w.heap.size ≤ bg := by have := y.size; omega
 refine qM (.bool false) ?_
 refine qe (w9a ?_)
 refine qD rfl (yA (cs := [v]) ag32 sz32 rfl (fun j u hj => aa.pins _ _ _ (ak _ _ (by simpa using hj)))) (qI rfl (zL (vs := [.agg #[v]]) Tryz.func45 nm45 rfl rfl rfl ?_))
 refine cD (stopsOf_spec aa.pins (hv.mono bc) ) ?_
 rintro _ cd ⟨d, f, g, b, c, ce, cf, rfl, o, p, bk, bl, q⟩
 refine rt9 ?_
 have ab := aa.tr q
 have ap := (al.below an).ext q
 have aq := bi.ext q
 have cg := o.max
 have ch := p.max
 refine qM (.tuple #[.agg #[d, f, g], .bool (spB fs)]) ?_
 refine qD rfl (yM (v := .agg #[d, f, g]) rfl rfl) (qD rfl (yM (v := .bool (spB fs)) rfl rfl) (qI rfl (yI [vN, vN, vN] zr68 rfl ab.pins (fun bm ci ar bn bo ac => ?_))))
 have au := ab.step bo ac
 have av := zI (cgA some ar) ap.lt
 have aw := zI (cgA some ar) aq.lt
 have ax : w.heap.size ≤ bm := by have := ab.size; omega
 refine q0 rfl rfl rfl (o_stp (cs' := [d, f, g]) (us := [d, f, g]) (v := .agg #[d, f, g]) sz68 rfl rfl rfl (tT o.one p.one bk.one) au.pins bn (cE rfl) rfl (fun ad bp bq ae cj => ?_))
 obtain ⟨br, af, l, ay, az⟩ := bp.shut (au.write bq ae ((zS ax))) ax
 have a0 := ((ap.below ac).keptA ae av.symm).moreA az av.symm
 have a1 := ((aq.below ac).keptA ae aw.symm).moreA az aw.symm
 refine qM (.bool (spB fs)) ?_
 refine qe (zA (w9b ?_))
 refine qM (.bool (spB fs)) ?_
 refine qD rfl (xD rfl) (qe (zA ?_))
 refine xU rfl rfl (fun r => ?_) (fun r => ?_)
 refine cO (w9a ?_)
 have hsb : spB fs = true := r
 obtain ⟨hxl, hxr⟩ := bl hsb
 have hga := goodB_true.1 (sp_row hsb).1
 have hla := hga.lo
 have ck : b.length = fs.length := by rw [hxl]; exact (fN fs _).1
 have cl : c.length = fs.length := by rw [hxr]; exact (fN fs _).2
 have hix : ((fs.length : Int) - 1).toNat = fs.length - 1 := by omega
 refine qD rfl (zH (k := 0) rfl dJ rfl nz30 rfl) (qD rfl (zJ (u := v) ag30 rfl ((cC l.pins (cB q.le af)) _ _ _ (ak 0 _ rfl))) (qD rfl (zM dF (v := v) rfl hv) (qD rfl (xY rfl rfl (by omega)) (qM (vJ ((fs.length : Int) - 1)) ?_))))
 refine qe (zA (zB ?_))
 refine yW (S := fun wz => Pins br wz) (last := 13) (by kernel_rfl) rfl ?_
 have s := bdr ad
 have a := l.step (l.pins.below s) s
 refine dT (i := 0) rfl rfl (by kernel_rfl) (fun _ _ => zH (k := 0) rfl dU rfl nz59 rfl) a.pins ?_
 refine dT (i := 1) rfl rfl (by kernel_rfl) (fun _ hS => zJ (u := d) ag59 rfl (hS _ _ _ (ay 0 _ rfl))) a.pins ?_
 refine dM 2 (vJ ((fs.length : Int) - 1)) a.pins ?_
 refine dT (i := 3) rfl rfl (by kernel_rfl) (fun _ _ => zF dK sz27 (v := d) rfl rfl o (by omega) (by omega)) a.pins ?_
 obtain ⟨cm, bs, bt, cn⟩ := vA (j := ((fs.length : Int) - 1).toNat) default (o.at (z := (fs.length : Int) - 1) (by omega) (by omega)) rfl
 obtain rfl := bs
 refine dT (i := 4) rfl rfl (by kernel_rfl) (fun _ hS => bt ag27 sz27 rfl (cC hS af)) a.pins ?_
 refine dT (i := 5) rfl rfl (by kernel_rfl) (fun _ _ => zH (k := 1) rfl dU rfl nz59 rfl) a.pins ?_
 refine dT (i := 6) rfl rfl (by kernel_rfl) (fun _ hS => zJ (u := f) ag59 rfl (hS _ _ _ (ay 1 _ rfl))) a.pins ?_
 refine dM 7 (vJ ((fs.length : Int) - 1)) a.pins ?_
 refine dT (i := 8) rfl rfl (by kernel_rfl) (fun _ _ => zF dK sz27 (v := f) rfl rfl p (by omega) (by omega)) a.pins ?_
 obtain ⟨co, bu, bv, cp⟩ := vA (j := ((fs.length : Int) - 1).toNat) default (p.at (z := (fs.length : Int) - 1) (by omega) (by omega)) rfl
 obtain rfl := bu
 refine dT (i := 9) rfl rfl (by kernel_rfl) (fun _ hS => bv ag27 sz27 rfl (cC hS af)) a.pins ?_
 refine dO (i := 10) (xK (i := 10) rfl rfl rfl (zR rfl _) (o_stp (cs' := [vJ ((b.getD ((fs.length : Int) - 1).toNat default).1), vJ ((b.getD ((fs.length : Int) - 1).toNat default).2)]) (us := [vJ ((b.getD ((fs.length : Int) - 1).toNat default).1), vJ ((b.getD ((fs.length : Int) - 1).toNat default).2)]) (v := .agg #[vJ ((b.getD ((fs.length : Int) - 1).toNat default).1), vJ ((b.getD ((fs.length : Int) - 1).toNat default).2)]) sz27 rfl rfl rfl (yQ (by rfl) (by rfl)) a.pins (a0.below s) (cE rfl) rfl (fun cq bw bx a2 cr => ?_)))
 have ag := a.write bx a2 ((zS am))
 refine ⟨fun _ => ag.pins, ?_⟩
 refine dO (i := 11) (xK (i := 11) rfl rfl rfl (zR rfl _) (o_stp (cs' := [vJ ((c.getD ((fs.length : Int) - 1).toNat default).1), vJ ((c.getD ((fs.length : Int) - 1).toNat default).2)]) (us := [vJ ((c.getD ((fs.length : Int) - 1).toNat default).1), vJ ((c.getD ((fs.length : Int) - 1).toNat default).2)]) (v := .agg #[vJ ((c.getD ((fs.length : Int) - 1).toNat default).1), vJ ((c.getD ((fs.length : Int) - 1).toNat default).2)]) sz27 rfl rfl rfl (yQ (by rfl) (by rfl)) ag.pins ((a1.below s).keptA a2 m) (cE rfl) rfl (fun ct bz b0 a3 cu => ?_)))
 have ah := ag.write b0 a3 ((zS ao))
 refine ⟨fun _ => ah.pins, ?_⟩
 refine dM 12 (.bool true) ah.pins ?_
 refine yL (by kernel_rfl) (zA (cP (zP (tC (cs := [vJ ((b.getD ((fs.length : Int) - 1).toNat default).1), vJ ((b.getD ((fs.length : Int) - 1).toNat default).2)]) (ds := [vJ ((c.getD ((fs.length : Int) - 1).toNat default).1), vJ ((c.getD ((fs.length : Int) - 1).toNat default).2)]) (v := .bool true) rfl rfl rfl rfl rfl rfl rfl ag27 sz27 rfl (fun j u hj => by rw [cS]; exact (bw.keptA a3 m.symm).cell hj) (fun j u hj => by rw [cS]; exact bz.cell hj) ?_))))
 obtain ⟨e1, e2⟩ := sp_at hsb
 rw [e1, e2, hsb, ← hxl, ← hxr, ← hix]
 exact ⟨_, rfl, ah⟩
 refine w9d ?_
 refine qD rfl (yS [vJ 0, vJ 0] [vJ 0, vJ 0] [] dH zr27 rfl pl27 rfl (fun _ h => by cases h) rfl) (qD rfl (yS [vJ 0, vJ 0] [vJ 0, vJ 0] [] dH zr27 rfl pl27 rfl (fun _ h => by cases h) rfl) (q0 rfl rfl rfl (o_stp (cs' := [vJ 0, vJ 0]) (us := [vJ 0, vJ 0]) (v := .agg #[vJ 0, vJ 0]) sz27 rfl rfl rfl (yQ (by rfl) (by rfl)) l.pins a0 (cE rfl) rfl (fun cv b2 b3 a4 cw => ?_))))
 have a5 := l.write b3 a4 ((zS am))
 refine q0 rfl rfl rfl (o_stp (cs' := [vJ 0, vJ 0]) (us := [vJ 0, vJ 0]) (v := .agg #[vJ 0, vJ 0]) sz27 rfl rfl rfl (yQ (by rfl) (by rfl)) a5.pins (a1.keptA a4 m) (cE rfl) rfl (fun cx b4 b5 a6 cy => ?_))
 refine qM (.bool false) ?_
 refine qe (zA ?_)
 refine cP (zP (tC (cs := [vJ 0, vJ 0]) (ds := [vJ 0, vJ 0]) (v := .bool false) rfl rfl rfl rfl rfl rfl rfl ag27 sz27 rfl (fun j u hj => by rw [cS]; exact (b2.keptA a6 m.symm).cell hj) (fun j u hj => by rw [cS]; exact b4.cell hj) ?_))
 obtain ⟨e1, e2⟩ := sp_no r
 rw [e1, e2, r]
 exact ⟨_, rfl, (a5.write b5 a6 ((zS ao)))⟩
end SP2
namespace ST5
open B1 NU1 SP2
theorem eg27 : (Tryz.prog.eqGuardType Tryz.prog.depth 27) = false := by kernel_rfl
theorem sh27 : (Tryz.prog.stoodInHeld 27) = false := by kernel_rfl
theorem iIsNear_spec {w : World} {G : Pin} {v : Value} {fs : List Nd} {t z : Int} (hP : Pins G w) (hv : RSl eNode G v fs) :
  Calls Tryz.prog 21 [.agg #[v], .agg #[vJ t, vJ z]].toArray w fun e w' => ∃ G', e = .returned (.tuple #[.bool (inrV fs t z), .bool (inrB fs t z)]) ∧ Ext noS G w G' w' := by
 refine zY (n := 30) Tryz.func21 Tryz.ntmps21 rfl rfl ?_
 have l := exr noS hP
 refine w9d ?_
 refine qI rfl (xH [v] (v := .agg #[v]) rfl rfl l.pins (fun b1 w2 bf an ao ap => ?_))
 have aq : w.heap.size ≤ b1 := by have := l.size; omega
 obtain ⟨G9, ar, m, au, bh⟩ := an.shut (l.step ao ap) aq
 refine qI rfl (xH [vJ t, vJ z] (v := .agg #[vJ t, vJ z]) rfl rfl m.pins (fun av bi bj aw ax ay => ?_))
 have az : w.heap.size ≤ av := by have := m.size; omega
 obtain ⟨bk, aa, o, ab, bl⟩ := aw.shut (m.step ax ay) az
 refine qM (.bool false) ?_
 refine qM (.bool false) ?_
 refine qe (w9a ?_)
 refine qD rfl (yA (cs := [v]) ag32 sz32 rfl (fun j u hj => (cC o.pins aa) _ _ _ (au _ _ (by simpa using hj)))) (qI rfl (zL (vs := [.agg #[v]]) Tryz.func29 nm29 rfl rfl rfl ?_))
 refine cD (ends_spec o.pins (hv.mono (cB ar aa))) ?_
 rintro _ bm ⟨bn, rfl, q⟩
 refine rt9 ?_
 have r := o.tr q
 refine qM (.tuple #[.agg #[vJ ((spL fs).1), vJ ((spL fs).2)], .agg #[vJ ((spR fs).1), vJ ((spR fs).2)], .bool (spB fs)]) ?_
 refine qD rfl (yM (v := .agg #[vJ ((spL fs).1), vJ ((spL fs).2)]) rfl rfl) (qD rfl (yM (v := .agg #[vJ ((spR fs).1), vJ ((spR fs).2)]) rfl rfl) (qD rfl (yM (v := .bool (spB fs)) rfl rfl) (qI rfl (yI [vJ 0, vJ 0] zr27 rfl r.pins (fun a0 bo bp ac a1 a2 => ?_)))))
 have s := r.step a1 a2
 have ad : w.heap.size ≤ a0 := by have := r.size; omega
 refine qI rfl (yI [vJ 0, vJ 0] zr27 rfl s.pins (fun a3 bq a4 a5 a6 ae => ?_))
 have af := s.step a6 ae
 have ag := zI (cgA some a4) ac.lt
 have ah : w.heap.size ≤ a3 := by have := s.size; omega
 refine q0 rfl rfl rfl (o_stp (cs' := [vJ ((spL fs).1), vJ ((spL fs).2)]) (us := [vJ ((spL fs).1), vJ ((spL fs).2)]) (v := .agg #[vJ ((spL fs).1), vJ ((spL fs).2)]) sz27 rfl rfl rfl (yQ (by rfl) (by rfl)) af.pins (ac.below ae) (cE rfl) rfl (fun br a7 a8 ai bs => ?_))
 obtain ⟨bt, aj, ak, al, a9⟩ := a7.shut (af.write a8 ai ((zS ad))) ad
 refine q0 rfl rfl rfl (o_stp (cs' := [vJ ((spR fs).1), vJ ((spR fs).2)]) (us := [vJ ((spR fs).1), vJ ((spR fs).2)]) (v := .agg #[vJ ((spR fs).1), vJ ((spR fs).2)]) sz27 rfl rfl rfl (yQ (by rfl) (by rfl)) ak.pins ((a5.keptA ai ag).moreA a9 ag) (cE rfl) rfl (fun bu ba bb bc bv => ?_))
 obtain ⟨bw, f, h, bd, bx⟩ := ba.shut (ak.write bb bc ((zS ah))) ah
 refine qM (.bool (spB fs)) ?_
 refine qe (zA (w9b ?_))
 refine qM (.bool (spB fs)) ?_
 refine qD rfl (xD rfl) (qM (.bool (!(spB fs))) ?_)
 refine qbn (t := 17) rfl (fun i => ?_) (fun i => ?_)
 refine qN (yA (cs := [vJ t, vJ z]) ag27 sz27 rfl (fun j u hj => (cC h.pins (cB (cB q.le aj) f)) _ _ _ (ab _ _ (by simpa using hj)))) ?_
 refine q1g rfl rfl rfl rfl rfl rfl (zL (vs := [.agg #[vJ t, vJ z]]) Tryz.func34 nm34 rfl rfl rfl ?_)
 refine cD (qZ (t := t) (z := z) h.pins) ?_
 rintro _ bz ⟨b0, rfl, d⟩
 refine rt9 ?_
 have a := h.tr d
 refine qN (xD rfl) ?_
 refine qD rfl (zU (v := .bool (!(decP (GoodD t z)))) rfl rfl) (qe (zA ?_))
 refine xU rfl rfl (fun k => ?_) (fun k => ?_)
 refine cO (w9a ?_)
 refine qD rfl (yA (cs := [vJ ((spL fs).1), vJ ((spL fs).2)]) ag27 sz27 rfl (fun j u hj => (cC a.pins (cB f d.le)) _ _ _ (al _ _ (by simpa using hj)))) (qD rfl (yA (cs := [vJ ((spR fs).1), vJ ((spR fs).2)]) ag27 sz27 rfl (fun j u hj => (cC a.pins d.le) _ _ _ (bd _ _ (by simpa using hj)))) (qD rfl (mT dH (by decide) rfl rfl rfl rfl dS sh27 eg27 rfl rfl) (qM (.bool (decide ((((spL fs).1, (spL fs).2) : Int × Int) = ((spR fs).1, (spR fs).2)))) ?_)))
 refine qbd (p := (((spL fs).1, (spL fs).2) : Int × Int) = ((spR fs).1, (spR fs).2)) (t := 25) rfl (fun x => ?_) (fun x => ?_)
 refine qN (yA (cs := [vJ ((spL fs).1), vJ ((spL fs).2)]) ag27 sz27 rfl (fun j u hj => (cC a.pins (cB f d.le)) _ _ _ (al _ _ (by simpa using hj)))) ?_
 refine qN (yA (cs := [vJ t, vJ z]) ag27 sz27 rfl (fun j u hj => (cC a.pins (cB (cB (cB q.le aj) f) d.le)) _ _ _ (ab _ _ (by simpa using hj)))) ?_
 refine qN (mT dH (by decide) rfl rfl rfl rfl dS sh27 eg27 rfl rfl) ?_
 refine qD rfl (yB (v := .bool (decide ((((spL fs).1, (spL fs).2) : Int × Int) = (t, z)))) rfl rfl) (qM (.bool (decide ((((spL fs).1, (spL fs).2) : Int × Int) = (t, z)))) ?_)
 refine qM (.bool true) ?_
 refine qe (zA ?_)
 refine cP (zP (fY (v := .bool (decide ((((spL fs).1, (spL fs).2) : Int × Int) = (t, z)))) (u := .bool true) rfl rfl rfl rfl rfl ?_))
 obtain ⟨b, c⟩ := in_yes i k
 have y : decide (spL fs = (t, z) ∧ spR fs = (t, z)) = decide ((((spL fs).1, (spL fs).2) : Int × Int) = (t, z)) := in_dec ⟨fun g => g.1, fun g => ⟨g, Eq.trans (Eq.symm x) g⟩⟩
 rw [b, c, y]
 exact ⟨_, rfl, a⟩
 refine qW ?_
 refine qW ?_
 refine qW ?_
 refine qD rfl (zU (v := .bool false) rfl rfl) (qM (.bool false) ?_)
 refine qM (.bool true) ?_
 refine qe (zA ?_)
 refine cP (zP (fY (v := .bool false) (u := .bool true) rfl rfl rfl rfl rfl ?_))
 obtain ⟨b, c⟩ := in_yes i k
 have y : decide (spL fs = (t, z) ∧ spR fs = (t, z)) = false := decide_eq_false (fun g => x (g.1.trans g.2.symm))
 rw [b, c, y]
 exact ⟨_, rfl, a⟩
 refine w9d ?_
 refine qM (.bool false) ?_
 refine qM (.bool false) ?_
 refine qe (zA ?_)
 refine cP (zP (fY (v := .bool false) (u := .bool false) rfl rfl rfl rfl rfl ?_))
 obtain ⟨b, c⟩ := in_no (fs := fs) (t := t) (z := z) (cG k)
 rw [b, c]
 exact ⟨_, rfl, a⟩
 refine qW ?_
 refine qW ?_
 refine qW ?_
 refine qD rfl (yB (v := .bool true) rfl rfl) (qe (zA ?_))
 refine qK rfl rfl (w9d ?_)
 refine qM (.bool false) ?_
 refine qM (.bool false) ?_
 refine qe (zA ?_)
 refine cP (zP (fY (v := .bool false) (u := .bool false) rfl rfl rfl rfl rfl ?_))
 obtain ⟨b, c⟩ := in_no (fs := fs) (t := t) (z := z) (cF i)
 rw [b, c]
 exact ⟨_, rfl, h⟩
end ST5
namespace OR1
open B1 C1 D1 E1
def GeqC (m : Nat) (o b : Nat) (bu bv kv : Value) (ns : List Nd) (bs : List Int) : Prop := ∀ {w : World} {G : Pin} {ks : List Int} {x y : Int} (_ : Pins G w) (_ : Od 65 3 G w o b bu bv kv ns bs ks) (_ : 0 ≤ x ∧ x < ns.length) (_ : 0 ≤ y ∧ y < ns.length) (_ : ks.length = ns.length * ns.length), x.toNat + y.toNat < m → KOk ns ks (x.toNat + y.toNat + 1) →
  Calls Tryz.prog 95 #[.pointer (some ⟨o, 0, none⟩), .int .i64 x, .int .i64 y] w fun e w' => ∃ (ks' : List Int) (G' : Pin), e = .returned (.bool (geB ns x y)) ∧ Od 65 3 G' w' o b bu bv kv ns bs ks' ∧ KRes ns ks ks' (x.toNat + y.toNat + 1) ∧ Ext (inO kv.ownBlock) G w G' w'
variable {G : Pin} {m b : Nat} {bu bv kv : Value} {ns : List Nd} {bs ks : List Int} {x y : Int}
theorem look_spec {w : World} {o : Nat} (hP : Pins G w) (hO : Od 65 3 G w o b bu bv kv ns bs ks) (hx : 0 ≤ x ∧ x < ns.length) (hy : 0 ≤ y ∧ y < ns.length) (hkl : ks.length = ns.length * ns.length) (hok : BookOk ns bs) (ih : GeqC m o b bu bv kv ns bs) (hm : x.toNat + y.toNat ≤ m) (hkok : KOk ns ks (x.toNat + y.toNat)) :
  Calls Tryz.prog 112 #[vP o, vJ x, vJ y] w fun e w' => ∃ (ks' : List Int) (G' : Pin), e = .returned (.bool (geB ns x y)) ∧ Od 65 3 G' w' o b bu bv kv ns bs ks' ∧ KRes ns ks ks' (x.toNat + y.toNat) ∧ Ext (inO kv.ownBlock) G w G' w' := by
 refine zY (n := 75) Tryz.func112 Tryz.ntmps112 rfl rfl ?_
 have a4 := exr (inO kv.ownBlock) hP
 have hB := hO.bk
 have hbx := hB.bx
 have hou := hB.ou
 have hov := hB.ov
 have habu := hB.abu
 have habv := hB.abv
 have hauv := hB.auv
 have hlen := hok.len
 have hlim := hok.lim
 have hox := hO.ox
 have haok := hO.aok
 have habk := hO.abk
 have hauk := hO.auk
 have havk := hO.avk
 have hlok : Lo w (inO kv.ownBlock) kv.ownBlock := xN
 have hoo : OptsOk ns := hok.optsOk
 have hlens := hok.lens
 refine w9d ?_
 refine qM (.bool false) ?_
 refine qe (zA (w9b ?_))
 refine qM (vJ 0) ?_
 refine qe (zA ?_)
 refine zZ (yR (fun k en W => ∃ (t : Nat → Value) (i : Nat) (kqr : List Int) (GLr : Pin), en = (upd (upd (upd (upd t 0 (vP o)) 1 (vJ x)) 2 (vJ y)) 7 (vJ (i : Int))) ∧ k = (ns.getD (x).toNat default).r.length - i ∧ Ext (inO kv.ownBlock) G w GLr W ∧ Pin.le G GLr ∧ (i ≤ (ns.getD (x).toNat default).r.length) ∧ (KRes ns ks kqr (x.toNat + y.toNat)) ∧ (∀ q, q < i → geB ns y ((ns.getD (x).toNat default).r.getD q 0) = false) ∧ (Own eInt 3 GLr W 0 kv (kqr)) ∧ (Own eNode 65 GLr W 0 bu (ns)) ∧ (Own eInt 3 GLr W 0 bv (bs)) ∧ (Bx GLr W b [bu, bv]) ∧ (Bx GLr W o [vP b, kv])) _ ⟨_, 0, ks, G, (pS 7 (pS 2 (pS 1 (pU 0)))), rfl, a4, cJ _, cI _, (KRes.refl hkok), (fun q hq => absurd hq (cK q)), hO.ok, hou, hov, hbx, hox⟩ ?_)
 rintro k1 _ w2 ⟨t, i, kqr, GLr, rfl, bo, f, a5, hji, hkrr, hpr, am, c, ae, aa, ab⟩
 have hklr := hkrr.len
 refine w9b ?_
 refine qM (vJ (i : Int)) ?_
 refine qM (vP o) ?_
 refine qD rfl (yY rfl) (qD rfl (zH (k := 0) rfl dW rfl nz75 rfl) (qD rfl (zJ (u := vP b) ag75 rfl (ab.cell (o := 0) rfl)) (qD rfl (yY rfl) (qD rfl (zH (k := 0) rfl dL rfl nz30 rfl) (qD rfl (zJ (u := bu) ag30 rfl (aa.cell (o := 0) rfl)) (qM (vJ x) ?_))))))
 refine qD rfl (zF dF sz65 (v := bu) rfl rfl c.read (by omega) (by omega)) (qD rfl (xC (off := 1) dG rfl rfl nz56 (z := x) (k := 0) rfl c.read (by omega) (by omega)) ?_)
 obtain ⟨a6, an, a7⟩ := jY (c.at (z := x) (by omega) (by omega)) (j := (x).toNat) rfl
 have bp := an.max
 refine qD rfl (a7 ag56 rfl (cM f.pins bu)) (qD rfl (zM dE (v := a6) rfl an) (qD rfl (yU rfl rfl) (qe (zA ?_))))
 refine yC (p := ((i : Int) : Int) < (((ns.getD (x).toNat default).r).length : Int)) rfl rfl (fun a8 => ?_) (fun a8 => ?_)
 have hki := hoo.right (j := (x).toNat) (i := i) (by omega) (by omega)
 refine cO (zA (zB ?_))
 refine zZ (w9d ?_)
 refine qM (vP o) ?_
 refine qM (vJ y) ?_
 refine qM (vP o) ?_
 refine qD rfl (yY rfl) (qD rfl (zH (k := 0) rfl dW rfl nz75 rfl) (qD rfl (zJ (u := vP b) ag75 rfl (ab.cell (o := 0) rfl)) (qD rfl (yY rfl) (qD rfl (zH (k := 0) rfl dL rfl nz30 rfl) (qD rfl (zJ (u := bu) ag30 rfl (aa.cell (o := 0) rfl)) (qM (vJ x) ?_))))))
 refine qD rfl (zF dF sz65 (v := bu) rfl rfl c.read (by omega) (by omega)) (qD rfl (xC (off := 1) dG rfl rfl nz56 (z := x) (k := 0) rfl c.read (by omega) (by omega)) ?_)
 obtain ⟨a9, af, ba⟩ := jY (c.at (z := x) (by omega) (by omega)) (j := (x).toNat) rfl
 have bq := af.max
 refine qD rfl (ba ag56 rfl (cM f.pins bu)) (qM (vJ (i : Int)) ?_)
 refine qD rfl (zF dE sz3 (v := a9) rfl rfl af (by omega) (by omega)) (qD rfl (zG (r := ((ns.getD (x).toNat default).r).getD i 0) rfl ag3 (z := (i : Int)) rfl af f.pins (by omega) (by omega)) (qI rfl (zL (vs := [vP o, vJ y, vJ (((ns.getD (x).toNat default).r).getD i 0)]) Tryz.func95 nm95 rfl rfl rfl ?_)))
 refine cD (ih f.pins ⟨⟨aa, c, ae, habu, habv, hauv⟩, ab, am, haok, habk, hauk, havk⟩ (by omega) (by omega) (by omega) (by omega) (hkrr.ok.mono (by omega))) ?_
 rintro _ br ⟨bb, bc, rfl, ao, ag, g⟩
 refine rt9 ?_
 have ap := f.trans g (fun i hi => hlok i hi)
 have aq := c.extS g (notO hauk)
 have ar := ae.extS g (notO havk)
 have au := aa.extS g (xX habk)
 have av := ab.extS g (xX haok)
 have bt := ag.len
 refine qe (zA ?_)
 refine c_if rfl rfl (fun ah => ?_) (fun ah => ?_)
 refine w9d ?_
 refine qM (.bool false) ?_
 refine qe (zA ?_)
 exact cP (zP (zQ (v := .bool false) rfl rfl rfl (⟨_, _, cgA eB (mI hoo hx (by omega) ah).symm, ⟨⟨au, aq, ar, habu, habv, hauv⟩, av, ao.ok, haok, habk, hauk, havk⟩, (hkrr.wide ag (by omega)), ap⟩)))
 refine cO (w9c ?_)
 refine qM (vJ (i : Int)) ?_
 refine qD rfl (yH rfl rfl (by omega)) (qM (vJ ((i : Int) + 1)) ?_)
 refine qe (zV (⟨_, ?_, _, rfl, _, i + 1, bb, bc, (pS 7 (pS 2 (pS 1 (pU 0)))), rfl, ap, (cB a5 g.le), (by omega), (hkrr.wide ag (by omega)), (fun q hq => if h3 : q = i then h3 ▸ ah else hpr q (by omega)), ao.ok, aq, ar, au, av⟩))
 omega
 refine cQ (zX (yO (yK (zA (w9b ?_)))))
 refine qM (vJ 0) ?_
 refine qe (zA ?_)
 refine zZ (yR (fun k en W => ∃ (t : Nat → Value) (a : Nat) (kql : List Int) (GLl : Pin), en = (upd (upd (upd (upd t 0 (vP o)) 1 (vJ x)) 2 (vJ y)) 8 (vJ (a : Int))) ∧ k = (ns.getD (y).toNat default).l.length - a ∧ Ext (inO kv.ownBlock) G w GLl W ∧ Pin.le GLr GLl ∧ (a ≤ (ns.getD (y).toNat default).l.length) ∧ (KRes ns ks kql (x.toNat + y.toNat)) ∧ (∀ q, q < a → geB ns ((ns.getD (y).toNat default).l.getD q 0) x = false) ∧ (Own eInt 3 GLl W 0 kv (kql)) ∧ (Own eNode 65 GLl W 0 bu (ns)) ∧ (Own eInt 3 GLl W 0 bv (bs)) ∧ (Bx GLl W b [bu, bv]) ∧ (Bx GLl W o [vP b, kv])) _ ⟨_, 0, kqr, GLr, (pS 8 (pS 2 (pS 1 (pU 0)))), rfl, f, cJ _, cI _, hkrr, (fun q hq => absurd hq (cK q)), am, c, ae, aa, ab⟩ ?_)
 rintro bw _ bz ⟨t, a, kql, GLl, rfl, b0, h, bd, b1, hkrl, hpl, aw, d, ai, ac, ad⟩
 have hkll := hkrl.len
 refine w9b ?_
 refine qM (vJ (a : Int)) ?_
 refine qM (vP o) ?_
 refine qD rfl (yY rfl) (qD rfl (zH (k := 0) rfl dW rfl nz75 rfl) (qD rfl (zJ (u := vP b) ag75 rfl (ad.cell (o := 0) rfl)) (qD rfl (yY rfl) (qD rfl (zH (k := 0) rfl dL rfl nz30 rfl) (qD rfl (zJ (u := bu) ag30 rfl (ac.cell (o := 0) rfl)) (qM (vJ y) ?_))))))
 refine qD rfl (zF dF sz65 (v := bu) rfl rfl d.read (by omega) (by omega)) (qD rfl (xC (off := 0) dG rfl rfl nz56 (z := y) (k := 0) rfl d.read (by omega) (by omega)) ?_)
 obtain ⟨be, ax, bf⟩ := jZ (d.at (z := y) (by omega) (by omega)) (j := (y).toNat) rfl
 have b2 := ax.max
 refine qD rfl (bf ag56 rfl (cM h.pins bu)) (qD rfl (zM dE (v := be) rfl ax) (qD rfl (yU rfl rfl) (qe (zA ?_))))
 refine yC (p := ((a : Int) : Int) < (((ns.getD (y).toNat default).l).length : Int)) rfl rfl (fun bg => ?_) (fun bg => ?_)
 have hki := hoo.left (j := (y).toNat) (i := a) (by omega) (by omega)
 refine cO (zA (zB ?_))
 refine zZ (w9d ?_)
 refine qM (vP o) ?_
 refine qM (vP o) ?_
 refine qD rfl (yY rfl) (qD rfl (zH (k := 0) rfl dW rfl nz75 rfl) (qD rfl (zJ (u := vP b) ag75 rfl (ad.cell (o := 0) rfl)) (qD rfl (yY rfl) (qD rfl (zH (k := 0) rfl dL rfl nz30 rfl) (qD rfl (zJ (u := bu) ag30 rfl (ac.cell (o := 0) rfl)) (qM (vJ y) ?_))))))
 refine qD rfl (zF dF sz65 (v := bu) rfl rfl d.read (by omega) (by omega)) (qD rfl (xC (off := 0) dG rfl rfl nz56 (z := y) (k := 0) rfl d.read (by omega) (by omega)) ?_)
 obtain ⟨bh, aj, bi⟩ := jZ (d.at (z := y) (by omega) (by omega)) (j := (y).toNat) rfl
 have b3 := aj.max
 refine qD rfl (bi ag56 rfl (cM h.pins bu)) (qM (vJ (a : Int)) ?_)
 refine qD rfl (zF dE sz3 (v := bh) rfl rfl aj (by omega) (by omega)) (qD rfl (zG (r := ((ns.getD (y).toNat default).l).getD a 0) rfl ag3 (z := (a : Int)) rfl aj h.pins (by omega) (by omega)) (qM (vJ x) ?_))
 refine qI rfl (zL (vs := [vP o, vJ (((ns.getD (y).toNat default).l).getD a 0), vJ x]) Tryz.func95 nm95 rfl rfl rfl ?_)
 refine cD (ih h.pins ⟨⟨ac, d, ai, habu, habv, hauv⟩, ad, aw, haok, habk, hauk, havk⟩ (by omega) (by omega) (by omega) (by omega) (hkrl.ok.mono (by omega))) ?_
 rintro _ b4 ⟨bj, bl, rfl, ay, ak, s⟩
 refine rt9 ?_
 have az := h.trans s (fun i hi => hlok i hi)
 have a0 := d.extS s (notO hauk)
 have a1 := ai.extS s (notO havk)
 have a2 := ac.extS s (xX habk)
 have a3 := ad.extS s (xX haok)
 have b5 := ak.len
 refine qe (zA ?_)
 refine c_if rfl rfl (fun al => ?_) (fun al => ?_)
 refine w9d ?_
 refine qM (.bool false) ?_
 refine qe (zA ?_)
 exact cP (zP (zQ (v := .bool false) rfl rfl rfl (⟨_, _, cgA eB (nY hoo hy (by omega) al).symm, ⟨⟨a2, a0, a1, habu, habv, hauv⟩, a3, ay.ok, haok, habk, hauk, havk⟩, (hkrl.wide ak (by omega)), az⟩)))
 refine cO (w9c ?_)
 refine qM (vJ (a : Int)) ?_
 refine qD rfl (yH rfl rfl (by omega)) (qM (vJ ((a : Int) + 1)) ?_)
 refine qe (zV (⟨_, ?_, _, rfl, _, a + 1, bj, bl, (pS 8 (pS 2 (pS 1 (pU 0)))), rfl, az, (cB bd s.le), (by omega), (hkrl.wide ak (by omega)), (fun q hq => if h3 : q = a then h3 ▸ al else hpl q (by omega)), ay.ok, a0, a1, a2, a3⟩))
 omega
 refine cQ (zX (yO (yK (w9a ?_))))
 refine qM (.bool true) ?_
 refine qe (zA ?_)
 exact cP (zP (zQ (v := .bool true) rfl rfl rfl (⟨_, _, cgA eB (geB_yes hoo hx hy (fun q hq => hpr q (by omega)) (fun q hq => hpl q (by omega))).symm, ⟨⟨ac, d, ai, habu, habv, hauv⟩, ad, aw, haok, habk, hauk, havk⟩, hkrl, h⟩)))
theorem geq_step {w : World} {o : Nat} (hP : Pins G w) (hO : Od 65 3 G w o b bu bv kv ns bs ks) (hx : 0 ≤ x ∧ x < ns.length) (hy : 0 ≤ y ∧ y < ns.length) (hkl : ks.length = ns.length * ns.length) (hok : BookOk ns bs) (ih : GeqC m o b bu bv kv ns bs) (hm : x.toNat + y.toNat < m + 1) (hkok : KOk ns ks (x.toNat + y.toNat + 1)) :
  Calls Tryz.prog 95 #[vP o, vJ x, vJ y] w fun e w' => ∃ (ks' : List Int) (G' : Pin), e = .returned (.bool (geB ns x y)) ∧ Od 65 3 G' w' o b bu bv kv ns bs ks' ∧ KRes ns ks ks' (x.toNat + y.toNat + 1) ∧ Ext (inO kv.ownBlock) G w G' w' := by
 refine zY (n := 52) Tryz.func95 Tryz.ntmps95 rfl rfl ?_
 have d := exr (inO kv.ownBlock) hP
 have hB := hO.bk
 have hbx := hB.bx
 have hou := hB.ou
 have hov := hB.ov
 have habu := hB.abu
 have habv := hB.abv
 have hauv := hB.auv
 have hlen := hok.len
 have hlim := hok.lim
 have hox := hO.ox
 have c := hO.ok
 have haok := hO.aok
 have habk := hO.abk
 have hauk := hO.auk
 have havk := hO.avk
 have hlok : Lo w (inO kv.ownBlock) kv.ownBlock := xN
 have hoo : OptsOk ns := hok.optsOk
 have hlens := hok.lens
 have hib := idx_bd hx hy hok.lim
 refine w9d ?_
 refine qM (.bool false) ?_
 refine qe (w9a ?_)
 refine qM (vJ x) ?_
 refine qM (vP o) ?_
 refine qD rfl (yY rfl) (qD rfl (zH (k := 0) rfl dW rfl nz75 rfl) (qD rfl (zJ (u := vP b) ag75 rfl (hox.cell (o := 0) rfl)) (qD rfl (yY rfl) (qD rfl (zH (k := 0) rfl dL rfl nz30 rfl) (qD rfl (zJ (u := bu) ag30 rfl (hbx.cell (o := 0) rfl)) (qD rfl (zM dF (v := bu) rfl hou.read) (qD rfl (r_mul rfl rfl (by omega)) (qM (vJ y) ?_))))))))
 refine qD rfl (yH rfl rfl (by omega)) (qM (vJ ((x * (ns.length : Int)) + y)) ?_)
 refine qe (zA (w9b ?_))
 refine qM (vP o) ?_
 refine qD rfl (yY rfl) (qD rfl (zH (k := 1) rfl dW rfl nz56 rfl) (qD rfl (zJ (u := kv) ag56 rfl (hox.cell (o := 1) rfl)) (qM (vJ ((x * (ns.length : Int)) + y)) ?_)))
 refine qD rfl (zF dE sz3 (v := kv) rfl rfl c.read (by omega) (by omega)) (qD rfl (zG (r := ks.getD ((x * (ns.length : Int)) + y).toNat 0) rfl ag3 (z := (x * (ns.length : Int)) + y) rfl c.read (cM d.pins kv) (by omega) (by omega)) (qD rfl (xO rfl rfl) (qe (zA ?_))))
 refine yC (p := (ks.getD ((x * (ns.length : Int)) + y).toNat 0 : Int) = 0) rfl rfl (fun h1 => ?_) (fun h1 => ?_)
 refine w9d ?_
 refine qM (vP o) ?_
 refine qD rfl (yY rfl) (qD rfl (zH (k := 1) rfl dW rfl nz56 rfl) (qD rfl (zJ (u := kv) ag56 rfl (hox.cell (o := 1) rfl)) (qM (vJ ((x * (ns.length : Int)) + y)) ?_)))
 refine qD rfl (zF dE sz3 (v := kv) rfl rfl c.read (by omega) (by omega)) (q0 rfl rfl rfl (jK (E := eInt) (v := kv) (u := vJ 2) (z := (x * (ns.length : Int)) + y) (2) sz3 rfl rfl rfl rfl d.pins c (by omega) (by omega) (fun w2 an ao f aw => ?_)))
 have ac := d.write ao f (hlok)
 have ad := hou.keptA f hauk
 have ae := hov.keptA f havk
 have af := hbx.keptA f habk
 have ag := hox.keptA f haok
 have ap : Own eInt 3 G w2 0 kv ((ks).set ((x * (ns.length : Int)) + y).toNat 2) := an
 have ax : ((ks).set ((x * (ns.length : Int)) + y).toNat 2).length = ks.length := cT ..
 refine qe (w9a ?_)
 refine qM (vP o) ?_
 refine qM (vJ x) ?_
 refine qM (vJ y) ?_
 refine qI rfl (zL (vs := [vP o, vJ x, vJ y]) Tryz.func112 nm112 rfl rfl rfl ?_)
 refine cD (look_spec ac.pins ⟨⟨af, ad, ae, habu, habv, hauv⟩, ag, ap, haok, habk, hauk, havk⟩ hx hy (by rw [cT]; exact hkl) hok ih (by omega) (KRes.prov hx hy hkok).1) ?_
 rintro _ ay ⟨a, aq, rfl, g, s, h⟩
 refine rt9 ?_
 have l := ac.trans h (fun i hi => hlok i hi)
 have ah := ad.extS h (notO hauk)
 have ai := ae.extS h (notO havk)
 have aj := af.extS h (xX habk)
 have q := ag.extS h (xX haok)
 have az := s.len
 refine qe (zA ?_)
 refine c_if rfl rfl (fun t => ?_) (fun t => ?_)
 refine zC (qM (vP o) ?_)
 refine qD rfl (yY rfl) (qD rfl (zH (k := 1) rfl dW rfl nz56 rfl) (qD rfl (zJ (u := kv) ag56 rfl (q.cell (o := 1) rfl)) (qM (vJ ((x * (ns.length : Int)) + y)) ?_)))
 refine qD rfl (zF dE sz3 (v := kv) rfl rfl g.ok.read (by omega) (by omega)) (q0 rfl rfl rfl (jK (E := eInt) (v := kv) (u := vJ 1) (z := (x * (ns.length : Int)) + y) (1) sz3 rfl rfl rfl rfl l.pins g.ok (by omega) (by omega) (fun ar au av j a0 => ?_)))
 have ak := l.write av j (hlok)
 have al := q.keptA j haok
 have aa : Own eInt 3 aq ar 0 kv ((a).set ((x * (ns.length : Int)) + y).toNat 1) := au
 have a1 : ((a).set ((x * (ns.length : Int)) + y).toNat 1).length = a.length := cT ..
 refine qe (w9a ?_)
 refine qM (vP o) ?_
 refine qD rfl (yY rfl) (qD rfl (zH (k := 1) rfl dW rfl nz56 rfl) (qD rfl (zJ (u := kv) ag56 rfl (al.cell (o := 1) rfl)) (qM (vJ ((x * (ns.length : Int)) + y)) ?_)))
 refine qD rfl (zF dE sz3 (v := kv) rfl rfl aa.read (by omega) (by omega)) (qD rfl (zG (r := ((a).set ((x * (ns.length : Int)) + y).toNat 1).getD ((x * (ns.length : Int)) + y).toNat 0) rfl ag3 (z := (x * (ns.length : Int)) + y) rfl aa.read (cM ak.pins kv) (by omega) (by omega)) (qD rfl (xO rfl rfl) (qM (.bool (decide ((((a).set ((x * (ns.length : Int)) + y).toNat 1).getD ((x * (ns.length : Int)) + y).toNat 0 : Int) = 1))) ?_)))
 refine qe (zA ?_)
 refine cP (zP (zQ (v := .bool (decide ((((a).set ((x * (ns.length : Int)) + y).toNat 1).getD ((x * (ns.length : Int)) + y).toNat 0 : Int) = 1))) rfl rfl rfl ?_))
 have htold := KRes.told hx hy hkl hkok s (if_pos t).symm
 exact ⟨_, _, cgA eB htold.2, ⟨⟨(aj.keptA j habk), (ah.keptA j hauk), (ai.keptA j havk), habu, habv, hauv⟩, al, aa, haok, habk, hauk, havk⟩, htold.1, ak⟩
 refine cO (w9a ?_)
 refine qM (vP o) ?_
 refine qD rfl (yY rfl) (qD rfl (zH (k := 1) rfl dW rfl nz56 rfl) (qD rfl (zJ (u := kv) ag56 rfl (q.cell (o := 1) rfl)) (qM (vJ ((x * (ns.length : Int)) + y)) ?_)))
 refine qD rfl (zF dE sz3 (v := kv) rfl rfl g.ok.read (by omega) (by omega)) (qD rfl (zG (r := a.getD ((x * (ns.length : Int)) + y).toNat 0) rfl ag3 (z := (x * (ns.length : Int)) + y) rfl g.ok.read (cM l.pins kv) (by omega) (by omega)) (qD rfl (xO rfl rfl) (qM (.bool (decide ((a.getD ((x * (ns.length : Int)) + y).toNat 0 : Int) = 1))) ?_)))
 refine qe (zA ?_)
 refine cP (zP (zQ (v := .bool (decide ((a.getD ((x * (ns.length : Int)) + y).toNat 0 : Int) = 1))) rfl rfl rfl ?_))
 have htold := KRes.told hx hy hkl hkok s (if_neg (by rw [t]; decide)).symm
 exact ⟨_, _, cgA eB htold.2, ⟨⟨aj, ah, ai, habu, habv, hauv⟩, q, g.ok, haok, habk, hauk, havk⟩, htold.1, l⟩
 refine cO (w9a ?_)
 refine qM (vP o) ?_
 refine qD rfl (yY rfl) (qD rfl (zH (k := 1) rfl dW rfl nz56 rfl) (qD rfl (zJ (u := kv) ag56 rfl (hox.cell (o := 1) rfl)) (qM (vJ ((x * (ns.length : Int)) + y)) ?_)))
 refine qD rfl (zF dE sz3 (v := kv) rfl rfl c.read (by omega) (by omega)) (qD rfl (zG (r := ks.getD ((x * (ns.length : Int)) + y).toNat 0) rfl ag3 (z := (x * (ns.length : Int)) + y) rfl c.read (cM d.pins kv) (by omega) (by omega)) (qD rfl (xO rfl rfl) (qM (.bool (decide ((ks.getD ((x * (ns.length : Int)) + y).toNat 0 : Int) = 1))) ?_)))
 refine qe (zA ?_)
 exact cP (zP (zQ (v := .bool (decide ((ks.getD ((x * (ns.length : Int)) + y).toNat 0 : Int) = 1))) rfl rfl rfl (⟨_, _, cgA eB (KOk.known hx hy hkok h1), ⟨⟨hbx, hou, hov, habu, habv, hauv⟩, hox, c, haok, habk, hauk, havk⟩, KRes.refl hkok, d⟩)))
theorem geq_all {o b : Nat} {bu bv kv : Value} {ns : List Nd} {bs : List Int} (hok : BookOk ns bs) : ∀ m, GeqC m o b bu bv kv ns bs
 | 0 => fun _ _ _ _ _ h _ => absurd h (cK _)
 | m + 1 => fun hP hO hx hy hkl hm hk => geq_step hP hO hx hy hkl hok (geq_all hok m) hm hk
theorem gV {w : World} {o : Nat} (hP : Pins G w) (hO : Od 65 3 G w o b bu bv kv ns bs ks) (hx : 0 ≤ x ∧ x < ns.length) (hy : 0 ≤ y ∧ y < ns.length) (hkl : ks.length = ns.length * ns.length) (hok : BookOk ns bs) (hkok : KOk ns ks (x.toNat + y.toNat + 1)) :
  Calls Tryz.prog 95 #[.pointer (some ⟨o, 0, none⟩), .int .i64 x, .int .i64 y] w fun e w' => ∃ (ks' : List Int) (G' : Pin), e = .returned (.bool (geB ns x y)) ∧ Od 65 3 G' w' o b bu bv kv ns bs ks' ∧ KRes ns ks ks' (x.toNat + y.toNat + 1) ∧ Ext (inO kv.ownBlock) G w G' w' :=
 geq_all hok _ hP hO hx hy hkl (Nat.lt_succ_self _) hkok
end OR1
namespace C61
open B1 C1 D1 E1 OR1
theorem mk3 : (Tryz.prog.info? 3).map (fun i => (i.size, i.bytes, i.zero)) = some (1, 8, some (.int .i64 0)) := by kernel_rfl
theorem pl126 : (Tryz.prog.underlying 126).bind (placesD Tryz.prog) = some [(0, 1), (1, 1)] := by kernel_rfl
variable {G : Pin} {b : Nat} {bu bv kv x : Value} {ns : List Nd} {bs ks xs : List Int} {y : Int} {lf : Bool}
theorem nB {w : World} (hP : Pins G w) (hB : Bk 65 3 G w b bu bv ns bs) (hok : BookOk ns bs) :
  Calls Tryz.prog 85 #[vP b] w fun e w' => ∃ (o : Nat) (kv : Value) (G' : Pin), e = .returned (vP o) ∧ Bx G' w' o [.pointer (some ⟨b, 0, none⟩), kv] ∧ Own eInt 3 G' w' w.heap.size kv (List.replicate (ns.length * ns.length) 0) ∧ w.heap.size ≤ o ∧ Apart (some o) kv.ownBlock ∧ Ext noS G w G' w' := by
 refine zY (n := 18) Tryz.func85 Tryz.ntmps85 rfl rfl ?_
 have j := exr noS hP
 have hbx := hB.bx
 have hou := hB.ou
 have hov := hB.ov
 have habu := hB.abu
 have habv := hB.abv
 have hauv := hB.auv
 have hlen := hok.len
 have hlim := hok.lim
 have hsq := sq_bd hok.lim
 refine w9d ?_
 refine qM (.pointer none) ?_
 refine qe (zA (zB ?_))
 have x := hou.read
 refine yW (S := fun wz => BxR wz b [bu, bv] ∧ Pins (Gadd G w bu) wz) (last := 16) (by kernel_rfl) rfl ?_
 have f := bdr w
 have l := j.step (j.pins.below f) f
 have a := hbx.below f
 have c := (cM j.pins bu).below f
 refine dT (i := 0) rfl rfl (by kernel_rfl) (fun _ _ => zN (v := vP b) rfl) ⟨a.reads, c⟩ ?_
 refine dT (i := 1) rfl rfl (by kernel_rfl) (fun _ _ => zN (v := vP b) rfl) ⟨a.reads, c⟩ ?_
 refine dT (i := 2) rfl rfl (by kernel_rfl) (fun _ _ => yY rfl) ⟨a.reads, c⟩ ?_
 refine dT (i := 3) rfl rfl (by kernel_rfl) (fun _ _ => zH (k := 0) rfl dL rfl nz30 rfl) ⟨a.reads, c⟩ ?_
 refine dT (i := 4) rfl rfl (by kernel_rfl) (fun _ hS => zJ (u := bu) ag30 rfl (hS.1 0 _ rfl)) ⟨a.reads, c⟩ ?_
 refine dT (i := 5) rfl rfl (by kernel_rfl) (fun _ _ => zM dF (v := bu) rfl x) ⟨a.reads, c⟩ ?_
 refine dT (i := 6) rfl rfl (by kernel_rfl) (fun _ _ => zN (v := vP b) rfl) ⟨a.reads, c⟩ ?_
 refine dT (i := 7) rfl rfl (by kernel_rfl) (fun _ _ => yY rfl) ⟨a.reads, c⟩ ?_
 refine dT (i := 8) rfl rfl (by kernel_rfl) (fun _ _ => zH (k := 0) rfl dL rfl nz30 rfl) ⟨a.reads, c⟩ ?_
 refine dT (i := 9) rfl rfl (by kernel_rfl) (fun _ hS => zJ (u := bu) ag30 rfl (hS.1 0 _ rfl)) ⟨a.reads, c⟩ ?_
 refine dT (i := 10) rfl rfl (by kernel_rfl) (fun _ _ => zM dF (v := bu) rfl x) ⟨a.reads, c⟩ ?_
 refine dT (i := 11) rfl rfl (by kernel_rfl) (fun _ _ => r_mul rfl rfl (by omega)) ⟨a.reads, c⟩ ?_
 refine dP (i := 12) rfl rfl (fR (E := eInt) 0 8 (vJ 0) dE mk3 (fun _ => rfl) rfl rfl l.pins (by omega) (by omega) (by omega) (fun d aa ab ac m ah => ?_))
 have p := l.step ac m
 have q := a.below m
 have r : Own eInt 3 G aa w.heap.size d (List.replicate ((ns.length : Int) * (ns.length : Int)).toNat 0) := ab.weaken l.size
 have ai : (List.replicate ((ns.length : Int) * (ns.length : Int)).toNat 0).length = ((ns.length : Int) * (ns.length : Int)).toNat := List.length_replicate ..
 have s := c.below m
 refine ⟨fun _ => ⟨q.reads, s⟩, ?_⟩
 refine dT (i := 13) rfl rfl (by kernel_rfl) (fun _ _ => yS [.pointer none, vN] [vP b, d] [(0, (vP b), [vP b]), (1, d, [d])] dW zr126 rfl pl126 rfl (cN.2 ⟨rfl, (cN.2 ⟨(xR r.one), (fun _ h => by cases h)⟩)⟩) rfl) ⟨q.reads, s⟩ ?_
 refine dP (i := 14) rfl rfl (xH [vP b, d] (v := .agg #[vP b, d]) rfl rfl p.pins (fun t aj ad ae af g => ?_))
 have y := q.below g
 have ag : w.heap.size ≤ t := by have := p.size; omega
 have z := s.below g
 refine ⟨fun _ => ⟨y.reads, z⟩, ?_⟩
 refine dT (i := 15) rfl rfl (by kernel_rfl) (fun _ _ => qF (v := vP t) rfl) ⟨y.reads, z⟩ ?_
 refine yL (by kernel_rfl) (zA (cP (zP (zQ (v := vP t) rfl rfl rfl ?_))))
 have hrow := (r.below g)
 rw [sq_nat] at hrow
 exact ⟨_, _, _, rfl, ae, hrow, ag, (zE (cgA some ad) r.lt), (p.step af g)⟩
theorem sX {w : World} {o : Nat} {z : Int} (hP : Pins G w) (hO : Od 65 3 G w o b bu bv kv ns bs ks) (hy : 0 ≤ y ∧ y < ns.length) (hz : 0 ≤ z ∧ z < ns.length) (hok : BookOk ns bs) (hka : KAll ns ks) :
  Calls Tryz.prog 105 #[vP o, vJ y, vJ z, .bool lf] w fun e w' => ∃ (t : Int) (ks' : List Int) (G' : Pin), e = .returned (vJ t) ∧ thrP ns lf y z t ∧ Od 65 3 G' w' o b bu bv kv ns bs ks' ∧ KAll ns ks' ∧ Ext (inO kv.ownBlock) G w G' w' := by
 refine zY (n := 70) Tryz.func105 Tryz.ntmps105 rfl rfl ?_
 have ae := exr (inO kv.ownBlock) hP
 have hB := hO.bk
 have hbx := hB.bx
 have hou := hB.ou
 have hov := hB.ov
 have habu := hB.abu
 have habv := hB.abv
 have hauv := hB.auv
 have hlen := hok.len
 have hlim := hok.lim
 have hox := hO.ox
 have ax := hO.ok
 have haok := hO.aok
 have habk := hO.abk
 have hauk := hO.auk
 have havk := hO.avk
 have hlok : Lo w (inO kv.ownBlock) kv.ownBlock := xN
 have hoo : OptsOk ns := hok.optsOk
 have hlens := hok.lens
 refine w9d ?_
 refine qM (vJ 0) ?_
 refine qe (zA (w9b ?_))
 refine qM (.bool lf) ?_
 refine qe (zA ?_)
 refine c_if rfl rfl (fun h1 => ?_) (fun h1 => ?_)
 refine w9d ?_
 refine qM (vP o) ?_
 refine qD rfl (yY rfl) (qD rfl (zH (k := 0) rfl dW rfl nz75 rfl) (qD rfl (zJ (u := vP b) ag75 rfl (hox.cell (o := 0) rfl)) (qD rfl (yY rfl) (qD rfl (zH (k := 0) rfl dL rfl nz30 rfl) (qD rfl (zJ (u := bu) ag30 rfl (hbx.cell (o := 0) rfl)) (qM (vJ z) ?_))))))
 refine qD rfl (zF dF sz65 (v := bu) rfl rfl hou.read (by omega) (by omega)) (qD rfl (xC (off := 1) dG rfl rfl nz56 (z := z) (k := 0) rfl hou.read (by omega) (by omega)) ?_)
 obtain ⟨g, aa, be⟩ := jY (hou.at (z := z) (by omega) (by omega)) (j := (z).toNat) rfl
 have bo := aa.max
 refine qD rfl (be ag56 rfl (cM ae.pins bu)) (qM g ?_)
 refine qe (zA (w9b ?_))
 refine qM (vJ 0) ?_
 refine qe (zA ?_)
 refine zZ (yR (fun k en W => ∃ (ad : Nat → Value) (i : Nat) (kq : List Int) (c : Pin), en = (upd (upd (upd (upd (upd ad 0 (vP o)) 1 (vJ y)) 2 (vJ z)) 9 g) 10 (vJ (i : Int))) ∧ k = (ns.getD (z).toNat default).r.length - i ∧ Ext (inO kv.ownBlock) G w c W ∧ Pin.le G c ∧ (i ≤ (ns.getD (z).toNat default).r.length) ∧ (KAll ns kq) ∧ (∀ x, x < i → geB ns y ((ns.getD (z).toNat default).r.getD x 0) = false) ∧ (Own eInt 3 c W 0 kv (kq)) ∧ (Own eNode 65 c W 0 bu (ns)) ∧ (Own eInt 3 c W 0 bv (bs)) ∧ (Bx c W b [bu, bv]) ∧ (Bx c W o [vP b, kv])) _ ⟨_, 0, ks, G, (pS 10 (pS 9 (pS 2 (pS 1 (pU 0))))), rfl, ae, cJ _, cI _, hka, (fun x h => absurd h (cK x)), ax, hou, hov, hbx, hox⟩ ?_)
 rintro k6 _ w7 ⟨ad, i, kq, c, rfl, br, af, ah, hj, f, hpp, ay, ai, aj, ak, al⟩
 refine w9b ?_
 refine qM (vJ (i : Int)) ?_
 refine qM g ?_
 refine qD rfl (zM dE (v := g) rfl aa) (qD rfl (yU rfl rfl) (qe (zA ?_)))
 refine yC (p := ((i : Int) : Int) < (((ns.getD (z).toNat default).r).length : Int)) rfl rfl (fun bf => ?_) (fun bf => ?_)
 have hki := (xB hok.optsOk (show (z).toNat < ns.length by omega)).2 _ (yE (d := (0 : Int)) (show i < (ns.getD (z).toNat default).r.length by omega))
 refine cO (zA (zB ?_))
 refine zZ (w9d ?_)
 refine qM (vP o) ?_
 refine qM (vJ y) ?_
 refine qM g ?_
 refine qM (vJ (i : Int)) ?_
 refine qD rfl (zF dE sz3 (v := g) rfl rfl aa (by omega) (by omega)) (qD rfl (zG (r := ((ns.getD (z).toNat default).r).getD i 0) rfl ag3 (z := (i : Int)) rfl aa (cC af.pins ah) (by omega) (by omega)) (qI rfl (zL (vs := [vP o, vJ y, vJ (((ns.getD (z).toNat default).r).getD i 0)]) Tryz.func95 nm95 rfl rfl rfl ?_)))
 refine cD (gV af.pins ⟨⟨ak, ai, aj, habu, habv, hauv⟩, al, ay, haok, habk, hauk, havk⟩ ⟨by omega, by omega⟩ ⟨by omega, by omega⟩ f.1 hok (f.2 _)) ?_
 rintro _ bt ⟨bg, bh, rfl, az, a0, q⟩
 refine rt9 ?_
 have am := af.trans q (fun i hi => hlok i hi)
 have a1 := ai.extS q (notO hauk)
 have a2 := aj.extS q (notO havk)
 have a3 := ak.extS q (xX habk)
 have a4 := al.extS q (xX haok)
 have bw := a0.len
 have a5 := KAll.res f a0
 refine qe (zA ?_)
 refine c_if rfl rfl (fun an => ?_) (fun an => ?_)
 refine w9d ?_
 refine qM g ?_
 refine qM (vJ (i : Int)) ?_
 refine qD rfl (zF dE sz3 (v := g) rfl rfl aa (by omega) (by omega)) (qD rfl (zG (r := ((ns.getD (z).toNat default).r).getD i 0) rfl ag3 (z := (i : Int)) rfl aa (cC am.pins (cB ah q.le)) (by omega) (by omega)) (qM (vJ (((ns.getD (z).toNat default).r).getD i 0)) ?_))
 refine qe (zA ?_)
 exact cP (zP (zQ (v := vJ (((ns.getD (z).toNat default).r).getD i 0)) rfl rfl rfl (⟨_, _, _, rfl, pK hok.optsOk hz (cF ⟨h1, yE (by omega), an⟩), ⟨⟨a3, a1, a2, habu, habv, hauv⟩, a4, az.ok, haok, habk, hauk, havk⟩, a5, am⟩)))
 refine cO (w9c ?_)
 refine qM (vJ (i : Int)) ?_
 refine qD rfl (yH rfl rfl (by omega)) (qM (vJ ((i : Int) + 1)) ?_)
 refine qe (zV (⟨_, ?_, _, rfl, _, i + 1, bg, bh, (pS 10 (pS 9 (pS 2 (pS 1 (pU 0))))), rfl, am, (cB ah q.le), (by omega), a5, (fun x h2 => if h3 : x = i then h3 ▸ an else hpp x (by omega)), az.ok, a1, a2, a3, a4⟩))
 omega
 refine cQ (zX (yO (yK (w9a ?_))))
 refine qM (vJ (-1)) ?_
 refine qe (zA ?_)
 exact cP (zP (zQ (v := vJ (-1)) rfl rfl rfl (⟨_, _, _, rfl, (by rw [h1]; exact sD hok.optsOk hz (fun k hk => hpp k (by omega))), ⟨⟨ak, ai, aj, habu, habv, hauv⟩, al, ay, haok, habk, hauk, havk⟩, f, af⟩)))
 refine cO (w9a ?_)
 refine qM (vP o) ?_
 refine qD rfl (yY rfl) (qD rfl (zH (k := 0) rfl dW rfl nz75 rfl) (qD rfl (zJ (u := vP b) ag75 rfl (hox.cell (o := 0) rfl)) (qD rfl (yY rfl) (qD rfl (zH (k := 0) rfl dL rfl nz30 rfl) (qD rfl (zJ (u := bu) ag30 rfl (hbx.cell (o := 0) rfl)) (qM (vJ z) ?_))))))
 refine qD rfl (zF dF sz65 (v := bu) rfl rfl hou.read (by omega) (by omega)) (qD rfl (xC (off := 0) dG rfl rfl nz56 (z := z) (k := 0) rfl hou.read (by omega) (by omega)) ?_)
 obtain ⟨m, ab, bj⟩ := jZ (hou.at (z := z) (by omega) (by omega)) (j := (z).toNat) rfl
 have bz := ab.max
 refine qD rfl (bj ag56 rfl (cM ae.pins bu)) (qM m ?_)
 refine qe (zA (w9b ?_))
 refine qM (vJ 0) ?_
 refine qe (zA ?_)
 refine zZ (yR (fun k en W => ∃ (ad : Nat → Value) (a : Nat) (kq : List Int) (c : Pin), en = (upd (upd (upd (upd ad 0 (vP o)) 1 (vJ y)) 11 m) 12 (vJ (a : Int))) ∧ k = (ns.getD (z).toNat default).l.length - a ∧ Ext (inO kv.ownBlock) G w c W ∧ Pin.le G c ∧ (a ≤ (ns.getD (z).toNat default).l.length) ∧ (KAll ns kq) ∧ (∀ x, x < a → geB ns ((ns.getD (z).toNat default).l.getD x 0) y = false) ∧ (Own eInt 3 c W 0 kv (kq)) ∧ (Own eNode 65 c W 0 bu (ns)) ∧ (Own eInt 3 c W 0 bv (bs)) ∧ (Bx c W b [bu, bv]) ∧ (Bx c W o [vP b, kv])) _ ⟨_, 0, ks, G, (pS 12 (pS 11 (pS 1 (pU 0)))), rfl, ae, cJ _, cI _, hka, (fun x h => absurd h (cK x)), ax, hou, hov, hbx, hox⟩ ?_)
 rintro b0 _ b1 ⟨ad, a, kq, c, rfl, b2, ag, ao, hj, f, hpp, a6, ap, aq, ar, au⟩
 refine w9b ?_
 refine qM (vJ (a : Int)) ?_
 refine qM m ?_
 refine qD rfl (zM dE (v := m) rfl ab) (qD rfl (yU rfl rfl) (qe (zA ?_)))
 refine yC (p := ((a : Int) : Int) < (((ns.getD (z).toNat default).l).length : Int)) rfl rfl (fun bl => ?_) (fun bl => ?_)
 have hki := (xB hok.optsOk (show (z).toNat < ns.length by omega)).1 _ (yE (d := (0 : Int)) (show a < (ns.getD (z).toNat default).l.length by omega))
 refine cO (zA (zB ?_))
 refine zZ (w9d ?_)
 refine qM (vP o) ?_
 refine qM m ?_
 refine qM (vJ (a : Int)) ?_
 refine qD rfl (zF dE sz3 (v := m) rfl rfl ab (by omega) (by omega)) (qD rfl (zG (r := ((ns.getD (z).toNat default).l).getD a 0) rfl ag3 (z := (a : Int)) rfl ab (cC ag.pins ao) (by omega) (by omega)) (qM (vJ y) ?_))
 refine qI rfl (zL (vs := [vP o, vJ (((ns.getD (z).toNat default).l).getD a 0), vJ y]) Tryz.func95 nm95 rfl rfl rfl ?_)
 refine cD (gV ag.pins ⟨⟨ar, ap, aq, habu, habv, hauv⟩, au, a6, haok, habk, hauk, havk⟩ ⟨by omega, by omega⟩ ⟨by omega, by omega⟩ f.1 hok (f.2 _)) ?_
 rintro _ b3 ⟨bm, bn, rfl, a7, a8, s⟩
 refine rt9 ?_
 have av := ag.trans s (fun i hi => hlok i hi)
 have a9 := ap.extS s (notO hauk)
 have ba := aq.extS s (notO havk)
 have bb := ar.extS s (xX habk)
 have bc := au.extS s (xX haok)
 have b4 := a8.len
 have bd := KAll.res f a8
 refine qe (zA ?_)
 refine c_if rfl rfl (fun aw => ?_) (fun aw => ?_)
 refine w9d ?_
 refine qM m ?_
 refine qM (vJ (a : Int)) ?_
 refine qD rfl (zF dE sz3 (v := m) rfl rfl ab (by omega) (by omega)) (qD rfl (zG (r := ((ns.getD (z).toNat default).l).getD a 0) rfl ag3 (z := (a : Int)) rfl ab (cC av.pins (cB ao s.le)) (by omega) (by omega)) (qM (vJ (((ns.getD (z).toNat default).l).getD a 0)) ?_))
 refine qe (zA ?_)
 exact cP (zP (zQ (v := vJ (((ns.getD (z).toNat default).l).getD a 0)) rfl rfl rfl (⟨_, _, _, rfl, pK hok.optsOk hz (cG ⟨h1, yE (by omega), aw⟩), ⟨⟨bb, a9, ba, habu, habv, hauv⟩, bc, a7.ok, haok, habk, hauk, havk⟩, bd, av⟩)))
 refine cO (w9c ?_)
 refine qM (vJ (a : Int)) ?_
 refine qD rfl (yH rfl rfl (by omega)) (qM (vJ ((a : Int) + 1)) ?_)
 refine qe (zV (⟨_, ?_, _, rfl, _, a + 1, bm, bn, (pS 12 (pS 11 (pS 1 (pU 0)))), rfl, av, (cB ao s.le), (by omega), bd, (fun x h2 => if h3 : x = a then h3 ▸ aw else hpp x (by omega)), a7.ok, a9, ba, bb, bc⟩))
 omega
 refine cQ (zX (yO (yK (w9a ?_))))
 refine qM (vJ (-1)) ?_
 refine qe (zA ?_)
 exact cP (zP (zQ (v := vJ (-1)) rfl rfl rfl (⟨_, _, _, rfl, (by rw [h1]; exact sE hok.optsOk hz (fun k hk => hpp k (by omega))), ⟨⟨ar, ap, aq, habu, habv, hauv⟩, au, a6, haok, habk, hauk, havk⟩, f, ag⟩)))
theorem fD {w : World} {o : Nat} (hP : Pins G w) (hO : Od 65 3 G w o b bu bv kv ns bs ks) (hx : RSl eInt G x xs) (hxl : xs.length ≤ 1048576) (hpl : ∀ i, i < xs.length → 0 ≤ xs.getD i 0 ∧ xs.getD i 0 < ns.length) (hok : BookOk ns bs) (hka : KAll ns ks) :
  Calls Tryz.prog 88 #[vP o, x, .bool lf] w fun e w' => ∃ (u : Value) (ks' : List Int) (G' : Pin), e = .returned u ∧ RSl eInt G' u (domL (gN ns xs) lf xs.length xs.length) ∧ Od 65 3 G' w' o b bu bv kv ns bs ks' ∧ KAll ns ks' ∧ Ext (inO kv.ownBlock) G w G' w' := by
 refine zY (n := 68) Tryz.func88 Tryz.ntmps88 rfl rfl ?_
 have a3 := exr (inO kv.ownBlock) hP
 have hB := hO.bk
 have hbx := hB.bx
 have hou := hB.ou
 have hov := hB.ov
 have habu := hB.abu
 have habv := hB.abv
 have hauv := hB.auv
 have hlen := hok.len
 have hlim := hok.lim
 have hox := hO.ox
 have bd := hO.ok
 have haok := hO.aok
 have habk := hO.abk
 have hauk := hO.auk
 have havk := hO.avk
 have hlok : Lo w (inO kv.ownBlock) kv.ownBlock := xN
 have hoo : OptsOk ns := hok.optsOk
 have hlens := hok.lens
 have hxm := hx.max
 refine w9d ?_
 refine qM vN ?_
 refine qe (w9a ?_)
 refine qI rfl (xE (E := eInt) (e := 3) dE sz3 a3.pins (fun u1 w2 cd ce ap ar => ?_))
 have cf := cd.weaken a3.size
 refine qM u1 ?_
 refine qe (zA (w9b ?_))
 refine qM (vJ 0) ?_
 refine qe (zA ?_)
 refine zZ ?_
 obtain ⟨be, aj, cg, ch, au⟩ := cf.sealed (a3.step ce ap)
 refine yR (fun k en W => ∃ (av : Nat → Value) (i : Nat) (kq : List Int) (ov : Value) (out : List Int) (s : Pin), en = (upd (upd (upd (upd (upd (upd av 0 (vP o)) 1 x) 2 (.bool lf)) 6 vN) 7 ov) 8 (vJ (i : Int))) ∧ k = xs.length - i ∧ Ext (inO kv.ownBlock) G w s W ∧ Pin.le be s ∧ (i ≤ xs.length) ∧ (KAll ns kq) ∧ (out = domL (gN ns xs) lf xs.length i) ∧ (Own eInt 3 s W 0 kv (kq)) ∧ (Own eNode 65 s W 0 bu (ns)) ∧ (Own eInt 3 s W 0 bv (bs)) ∧ (Bx s W b [bu, bv]) ∧ (Bx s W o [vP b, kv]) ∧ (RSl eInt s ov (out))) _ ⟨_, 0, ks, u1, [], be, (pS 8 (pS 7 (pS 6 (pS 2 (pS 1 (pU 0)))))), rfl, cg, cJ _, cI _, hka, rfl, ((bd.below ap).moreO aj au (zE ar bd.lt).symm), ((hou.below ap).moreO aj au (zE ar hou.lt).symm), ((hov.below ap).moreO aj au (zE ar hov.lt).symm), ((hbx.below ap).moreO au (zI ar hbx.lt).symm), ((hox.below ap).moreO au (zI ar hox.lt).symm), ch⟩ ?_
 rintro ct _ cu ⟨av, i, kq, ov, out, s, rfl, cv, bf, aw, hi, bg, hout, bh, bi, bj, bl, bm, bn⟩
 have hol : out.length ≤ i := by rw [hout]; exact (kT i).1
 refine w9b ?_
 refine qM (vJ (i : Int)) ?_
 refine qM x ?_
 refine qD rfl (zM dE (v := x) rfl hx) (qD rfl (yU rfl rfl) (qe (zA ?_)))
 refine yC (p := ((i : Int) : Int) < (xs.length : Int)) rfl rfl (fun ci => ?_) (fun ci => ?_)
 refine cO (zA (zB ?_))
 refine zZ (w9d ?_)
 refine qM (vJ 0) ?_
 refine qe (zA ?_)
 refine zZ (yR (fun k en W => ∃ (av : Nat → Value) (j : Nat) (ax : List Int) (f : Value) (l : List Int) (y : Pin), en = (upd (upd (upd (upd (upd (upd (upd av 0 (vP o)) 1 x) 2 (.bool lf)) 6 vN) 7 f) 8 (vJ (i : Int))) 9 (vJ (j : Int))) ∧ k = xs.length - j ∧ Ext (inO kv.ownBlock) G w y W ∧ Pin.le s y ∧ (j ≤ xs.length) ∧ (KAll ns ax) ∧ (l = domI out (domB (gN ns xs) lf i j) (i : Int)) ∧ (Own eInt 3 y W 0 kv (ax)) ∧ (Own eNode 65 y W 0 bu (ns)) ∧ (Own eInt 3 y W 0 bv (bs)) ∧ (Bx y W b [bu, bv]) ∧ (Bx y W o [vP b, kv]) ∧ (RSl eInt y f (l))) _ ⟨_, 0, kq, ov, out, s, (pS 9 (pS 8 (pS 7 (pS 6 (pS 2 (pS 1 (pU 0))))))), rfl, bf, cJ _, cI _, bg, domI_start, bh, bi, bj, bl, bm, bn⟩ ?_)
 rintro cw _ a5 ⟨av, j, ax, f, l, y, rfl, cx, a6, m, hj, ay, q, bo, bp, bq, br, bt, aa⟩
 have cy : l.length ≤ out.length + 1 := by rw [q]; exact domI_len
 refine w9b ?_
 refine qM (vJ (j : Int)) ?_
 refine qM x ?_
 refine qD rfl (zM dE (v := x) rfl hx) (qD rfl (yU rfl rfl) (qe (zA ?_)))
 refine yC (p := ((j : Int) : Int) < (xs.length : Int)) rfl rfl (fun cj => ?_) (fun cj => ?_)
 refine cO (zA (zB ?_))
 refine zZ (zB (yW (S := fun wz => Pins y wz) (last := 22) (by kernel_rfl) rfl ?_))
 have ak := bdr a5
 have d := a6.step (a6.pins.below ak) ak
 have bw := bp.below ak
 have bz := bq.below ak
 have b0 := br.below ak
 have b1 := bt.below ak
 refine dM 0 (vP o) d.pins ?_
 refine dM 1 x d.pins ?_
 refine dM 2 (vJ (j : Int)) d.pins ?_
 refine dT (i := 3) rfl rfl (by kernel_rfl) (fun _ _ => zF dE sz3 (v := x) rfl rfl hx (by omega) (by omega)) d.pins ?_
 refine dT (i := 4) rfl rfl (by kernel_rfl) (fun _ hS => zG (r := xs.getD j 0) rfl ag3 (z := (j : Int)) rfl hx (cC hS (cB (cB aj aw) m)) (by omega) (by omega)) d.pins ?_
 refine dM 5 x d.pins ?_
 refine dM 6 (vJ (i : Int)) d.pins ?_
 refine dT (i := 7) rfl rfl (by kernel_rfl) (fun _ _ => zF dE sz3 (v := x) rfl rfl hx (by omega) (by omega)) d.pins ?_
 refine dT (i := 8) rfl rfl (by kernel_rfl) (fun _ hS => zG (r := xs.getD i 0) rfl ag3 (z := (i : Int)) rfl hx (cC hS (cB (cB aj aw) m)) (by omega) (by omega)) d.pins ?_
 refine dM 10 (vP o) d.pins ?_
 refine dM 11 x d.pins ?_
 refine dM 12 (vJ (i : Int)) d.pins ?_
 refine dT (i := 13) rfl rfl (by kernel_rfl) (fun _ _ => zF dE sz3 (v := x) rfl rfl hx (by omega) (by omega)) d.pins ?_
 refine dT (i := 14) rfl rfl (by kernel_rfl) (fun _ hS => zG (r := xs.getD i 0) rfl ag3 (z := (i : Int)) rfl hx (cC hS (cB (cB aj aw) m)) (by omega) (by omega)) d.pins ?_
 refine dM 15 x d.pins ?_
 refine dM 16 (vJ (j : Int)) d.pins ?_
 refine dT (i := 17) rfl rfl (by kernel_rfl) (fun _ _ => zF dE sz3 (v := x) rfl rfl hx (by omega) (by omega)) d.pins ?_
 refine dT (i := 18) rfl rfl (by kernel_rfl) (fun _ hS => zG (r := xs.getD j 0) rfl ag3 (z := (j : Int)) rfl hx (cC hS (cB (cB aj aw) m)) (by omega) (by omega)) d.pins ?_
 refine dP (i := 9) rfl rfl (zL (vs := [vP o, vJ (xs.getD j 0), vJ (xs.getD i 0)]) Tryz.func95 nm95 rfl rfl rfl ?_)
 refine cD (gV d.pins ⟨⟨b0, bw, bz, habu, habv, hauv⟩, b1, (bo.below ak), haok, habk, hauk, havk⟩ (hpl j (by omega)) (hpl i (by omega)) ay.1 hok (ay.2 _)) ?_
 rintro _ cz ⟨c0, c1, rfl, ck, b2, a⟩
 refine rt9 ?_
 have a7 := d.trans a (fun i hi => hlok i hi)
 have b3 := bw.extS a (notO hauk)
 have b4 := bz.extS a (notO havk)
 have b5 := b0.extS a (xX habk)
 have b6 := b1.extS a (xX haok)
 have c2 := b2.len
 have a8 := KAll.res ay b2
 refine ⟨fun _ => (cC a7.pins a.le), ?_⟩
 refine dP (i := 19) rfl rfl (zL (vs := [vP o, vJ (xs.getD i 0), vJ (xs.getD j 0)]) Tryz.func95 nm95 rfl rfl rfl ?_)
 refine cD (gV a7.pins ⟨⟨b5, b3, b4, habu, habv, hauv⟩, b6, ck.ok, haok, habk, hauk, havk⟩ (hpl i (by omega)) (hpl j (by omega)) a8.1 hok (a8.2 _)) ?_
 rintro _ c3 ⟨ac, aq, rfl, ad, b7, c⟩
 refine rt9 ?_
 have g := a7.trans c (fun i hi => hlok i hi)
 have ae := b3.extS c (notO hauk)
 have af := b4.extS c (notO havk)
 have ag := b5.extS c (xX habk)
 have ah := b6.extS c (xX haok)
 have c4 := b7.len
 have ai := KAll.res a8 b7
 refine ⟨fun _ => (cC g.pins (cB a.le c.le)), ?_⟩
 refine dM 20 (.bool (geB ns (xs.getD j 0) (xs.getD i 0))) (cC g.pins (cB a.le c.le)) ?_
 refine dM 21 (.bool (geB ns (xs.getD i 0) (xs.getD j 0))) (cC g.pins (cB a.le c.le)) ?_
 refine yL (by kernel_rfl) (zA (w9b ?_))
 refine qM (.bool lf) ?_
 refine qD rfl (xD rfl) (qe (zA ?_))
 refine xU rfl rfl (fun ab => ?_) (fun ab => ?_)
 refine cO (w9a ?_)
 refine qM (vJ (j : Int)) ?_
 refine qM (vJ (i : Int)) ?_
 refine qD rfl (vV rfl rfl) (qM (.bool (decide (((j : Int) : Int) ≠ (i : Int)))) ?_)
 refine qbd (p := ((j : Int) : Int) ≠ (i : Int)) (t := 52) rfl (fun az => ?_) (fun az => ?_)
 refine qN (zN (v := .bool (geB ns (xs.getD j 0) (xs.getD i 0))) rfl) ?_
 refine qD rfl (yB (v := .bool (geB ns (xs.getD j 0) (xs.getD i 0))) rfl rfl) (qM (.bool (geB ns (xs.getD j 0) (xs.getD i 0))) ?_)
 refine qb (t := 55) rfl (fun a0 => ?_) (fun a0 => ?_)
 refine qN (zN (v := .bool (geB ns (xs.getD i 0) (xs.getD j 0))) rfl) ?_
 refine qN (xD rfl) ?_
 refine qN (zN (v := .bool (!(geB ns (xs.getD i 0) (xs.getD j 0)))) rfl) ?_
 refine qbn (t := 58) rfl (fun a9 => ?_) (fun a9 => ?_)
 refine qN (zN (v := vJ (j : Int)) rfl) ?_
 refine qN (zN (v := vJ (i : Int)) rfl) ?_
 refine qN (yU rfl rfl) ?_
 refine qN (zU (v := .bool (decide (((j : Int) : Int) < (i : Int)))) rfl rfl) ?_
 refine qD rfl (yB (v := .bool (decide (((j : Int) : Int) < (i : Int)))) rfl rfl) (qe (zA ?_))
 refine yC (p := ((j : Int) : Int) < (i : Int)) rfl rfl (fun ba => ?_) (fun ba => ?_)
 refine zC (qM f ?_)
 refine qM (vJ (i : Int)) ?_
 refine qI rfl (zL (vs := [f, vJ (i : Int)]) Tryz.func98 nm98 rfl rfl rfl ?_)
 refine cD (jE g.pins (aa.mono (cB a.le c.le)) (by omega)) ?_
 rintro _ c5 ⟨b8, cl, rfl, cm, al⟩
 refine rt9 (qM b8 ?_)
 refine qe (w9c ?_)
 refine qM (vJ (j : Int)) ?_
 refine qD rfl (yH rfl rfl (by omega)) (qM (vJ ((j : Int) + 1)) ?_)
 refine qe (zV (⟨_, ?_, _, rfl, _, j + 1, ac, b8, putL l (i : Int), cl, (pS 9 (pS 8 (pS 7 (pS 6 (pS 2 (pS 1 (pU 0))))))), rfl, (g.tr al), (cB (cB (cB m a.le) c.le) al.le), (by omega), ai, (mL q (by rw [hout]; exact (kT i).2) ⟨az, (gW ab).2 (decP_true.1 a0), cG ba⟩), (ad.ok.ext al), (ae.ext al), (af.ext al), (ag.ext al), (ah.ext al), cm⟩))
 omega
 refine cO (w9c ?_)
 refine qM (vJ (j : Int)) ?_
 refine qD rfl (yH rfl rfl (by omega)) (qM (vJ ((j : Int) + 1)) ?_)
 refine qe (zV (⟨_, ?_, _, rfl, _, j + 1, ac, f, l, aq, (pS 9 (pS 8 (pS 7 (pS 6 (pS 2 (pS 1 (pU 0))))))), rfl, g, (cB (cB m a.le) c.le), (by omega), ai, (tK q (fun p => p.2.2.elim (fun h => h ((gW ab).2 (decP_true.1 a9))) ba)), ad.ok, ae, af, ag, ah, (aa.mono (cB a.le c.le))⟩))
 omega
 refine qW ?_
 refine qW ?_
 refine qW ?_
 refine qN (yB (v := .bool true) rfl rfl) ?_
 refine qD rfl (yB (v := .bool true) rfl rfl) (qe (zA ?_))
 refine qK rfl rfl (zC (qM f ?_))
 refine qM (vJ (i : Int)) ?_
 refine qI rfl (zL (vs := [f, vJ (i : Int)]) Tryz.func98 nm98 rfl rfl rfl ?_)
 refine cD (jE g.pins (aa.mono (cB a.le c.le)) (by omega)) ?_
 rintro _ c6 ⟨b9, cn, rfl, co, am⟩
 refine rt9 (qM b9 ?_)
 refine qe (w9c ?_)
 refine qM (vJ (j : Int)) ?_
 refine qD rfl (yH rfl rfl (by omega)) (qM (vJ ((j : Int) + 1)) ?_)
 refine qe (zV (⟨_, ?_, _, rfl, _, j + 1, ac, b9, putL l (i : Int), cn, (pS 9 (pS 8 (pS 7 (pS 6 (pS 2 (pS 1 (pU 0))))))), rfl, (g.tr am), (cB (cB (cB m a.le) c.le) am.le), (by omega), ai, (mL q (by rw [hout]; exact (kT i).2) ⟨az, (gW ab).2 (decP_true.1 a0), cF (fun h => (decP_false.1 a9) ((gW ab).1 h))⟩), (ad.ok.ext am), (ae.ext am), (af.ext am), (ag.ext am), (ah.ext am), co⟩))
 omega
 refine qW ?_
 refine qW ?_
 refine qW ?_
 refine qX ?_
 refine qX ?_
 refine qX ?_
 refine qW ?_
 refine qD rfl (zU (v := .bool false) rfl rfl) (qe (zA ?_))
 refine xT rfl rfl (cO (w9c ?_))
 refine qM (vJ (j : Int)) ?_
 refine qD rfl (yH rfl rfl (by omega)) (qM (vJ ((j : Int) + 1)) ?_)
 refine qe (zV (⟨_, ?_, _, rfl, _, j + 1, ac, f, l, aq, (pS 9 (pS 8 (pS 7 (pS 6 (pS 2 (pS 1 (pU 0))))))), rfl, g, (cB (cB m a.le) c.le), (by omega), ai, (tK q (fun p => (decP_false.1 a0) ((gW ab).1 p.2.1))), ad.ok, ae, af, ag, ah, (aa.mono (cB a.le c.le))⟩))
 omega
 refine qW ?_
 refine qD rfl (zU (v := .bool false) rfl rfl) (qM (.bool false) ?_)
 refine qW ?_
 refine qW ?_
 refine qW ?_
 refine qX ?_
 refine qX ?_
 refine qX ?_
 refine qW ?_
 refine qD rfl (zU (v := .bool false) rfl rfl) (qe (zA ?_))
 refine xT rfl rfl (cO (w9c ?_))
 refine qM (vJ (j : Int)) ?_
 refine qD rfl (yH rfl rfl (by omega)) (qM (vJ ((j : Int) + 1)) ?_)
 refine qe (zV (⟨_, ?_, _, rfl, _, j + 1, ac, f, l, aq, (pS 9 (pS 8 (pS 7 (pS 6 (pS 2 (pS 1 (pU 0))))))), rfl, g, (cB (cB m a.le) c.le), (by omega), ai, (tK q (fun p => az p.1)), ad.ok, ae, af, ag, ah, (aa.mono (cB a.le c.le))⟩))
 omega
 refine zC (qM (.bool (geB ns (xs.getD i 0) (xs.getD j 0))) ?_)
 refine qM (.bool (geB ns (xs.getD j 0) (xs.getD i 0))) ?_
 refine qM (.bool (geB ns (xs.getD i 0) (xs.getD j 0))) ?_
 refine qM (.bool (geB ns (xs.getD j 0) (xs.getD i 0))) ?_
 refine qe (w9a ?_)
 refine qM (vJ (j : Int)) ?_
 refine qM (vJ (i : Int)) ?_
 refine qD rfl (vV rfl rfl) (qM (.bool (decide (((j : Int) : Int) ≠ (i : Int)))) ?_)
 refine qbd (p := ((j : Int) : Int) ≠ (i : Int)) (t := 52) rfl (fun a1 => ?_) (fun a1 => ?_)
 refine qN (zN (v := .bool (geB ns (xs.getD i 0) (xs.getD j 0))) rfl) ?_
 refine qD rfl (yB (v := .bool (geB ns (xs.getD i 0) (xs.getD j 0))) rfl rfl) (qM (.bool (geB ns (xs.getD i 0) (xs.getD j 0))) ?_)
 refine qb (t := 55) rfl (fun a2 => ?_) (fun a2 => ?_)
 refine qN (zN (v := .bool (geB ns (xs.getD j 0) (xs.getD i 0))) rfl) ?_
 refine qN (xD rfl) ?_
 refine qN (zN (v := .bool (!(geB ns (xs.getD j 0) (xs.getD i 0)))) rfl) ?_
 refine qbn (t := 58) rfl (fun bb => ?_) (fun bb => ?_)
 refine qN (zN (v := vJ (j : Int)) rfl) ?_
 refine qN (zN (v := vJ (i : Int)) rfl) ?_
 refine qN (yU rfl rfl) ?_
 refine qN (zU (v := .bool (decide (((j : Int) : Int) < (i : Int)))) rfl rfl) ?_
 refine qD rfl (yB (v := .bool (decide (((j : Int) : Int) < (i : Int)))) rfl rfl) (qe (zA ?_))
 refine yC (p := ((j : Int) : Int) < (i : Int)) rfl rfl (fun bc => ?_) (fun bc => ?_)
 refine zC (qM f ?_)
 refine qM (vJ (i : Int)) ?_
 refine qI rfl (zL (vs := [f, vJ (i : Int)]) Tryz.func98 nm98 rfl rfl rfl ?_)
 refine cD (jE g.pins (aa.mono (cB a.le c.le)) (by omega)) ?_
 rintro _ c7 ⟨ca, cp, rfl, cq, an⟩
 refine rt9 (qM ca ?_)
 refine qe (w9c ?_)
 refine qM (vJ (j : Int)) ?_
 refine qD rfl (yH rfl rfl (by omega)) (qM (vJ ((j : Int) + 1)) ?_)
 refine qe (zV (⟨_, ?_, _, rfl, _, j + 1, ac, ca, putL l (i : Int), cp, (pS 9 (pS 8 (pS 7 (pS 6 (pS 2 (pS 1 (pU 0))))))), rfl, (g.tr an), (cB (cB (cB m a.le) c.le) an.le), (by omega), ai, (mL q (by rw [hout]; exact (kT i).2) ⟨a1, (gY ab).2 (decP_true.1 a2), cG bc⟩), (ad.ok.ext an), (ae.ext an), (af.ext an), (ag.ext an), (ah.ext an), cq⟩))
 omega
 refine cO (w9c ?_)
 refine qM (vJ (j : Int)) ?_
 refine qD rfl (yH rfl rfl (by omega)) (qM (vJ ((j : Int) + 1)) ?_)
 refine qe (zV (⟨_, ?_, _, rfl, _, j + 1, ac, f, l, aq, (pS 9 (pS 8 (pS 7 (pS 6 (pS 2 (pS 1 (pU 0))))))), rfl, g, (cB (cB m a.le) c.le), (by omega), ai, (tK q (fun p => p.2.2.elim (fun h => h ((gY ab).2 (decP_true.1 bb))) bc)), ad.ok, ae, af, ag, ah, (aa.mono (cB a.le c.le))⟩))
 omega
 refine qW ?_
 refine qW ?_
 refine qW ?_
 refine qN (yB (v := .bool true) rfl rfl) ?_
 refine qD rfl (yB (v := .bool true) rfl rfl) (qe (zA ?_))
 refine qK rfl rfl (zC (qM f ?_))
 refine qM (vJ (i : Int)) ?_
 refine qI rfl (zL (vs := [f, vJ (i : Int)]) Tryz.func98 nm98 rfl rfl rfl ?_)
 refine cD (jE g.pins (aa.mono (cB a.le c.le)) (by omega)) ?_
 rintro _ c8 ⟨cb, cr, rfl, cs, ao⟩
 refine rt9 (qM cb ?_)
 refine qe (w9c ?_)
 refine qM (vJ (j : Int)) ?_
 refine qD rfl (yH rfl rfl (by omega)) (qM (vJ ((j : Int) + 1)) ?_)
 refine qe (zV (⟨_, ?_, _, rfl, _, j + 1, ac, cb, putL l (i : Int), cr, (pS 9 (pS 8 (pS 7 (pS 6 (pS 2 (pS 1 (pU 0))))))), rfl, (g.tr ao), (cB (cB (cB m a.le) c.le) ao.le), (by omega), ai, (mL q (by rw [hout]; exact (kT i).2) ⟨a1, (gY ab).2 (decP_true.1 a2), cF (fun h => (decP_false.1 bb) ((gY ab).1 h))⟩), (ad.ok.ext ao), (ae.ext ao), (af.ext ao), (ag.ext ao), (ah.ext ao), cs⟩))
 omega
 refine qW ?_
 refine qW ?_
 refine qW ?_
 refine qX ?_
 refine qX ?_
 refine qX ?_
 refine qW ?_
 refine qD rfl (zU (v := .bool false) rfl rfl) (qe (zA ?_))
 refine xT rfl rfl (cO (w9c ?_))
 refine qM (vJ (j : Int)) ?_
 refine qD rfl (yH rfl rfl (by omega)) (qM (vJ ((j : Int) + 1)) ?_)
 refine qe (zV (⟨_, ?_, _, rfl, _, j + 1, ac, f, l, aq, (pS 9 (pS 8 (pS 7 (pS 6 (pS 2 (pS 1 (pU 0))))))), rfl, g, (cB (cB m a.le) c.le), (by omega), ai, (tK q (fun p => (decP_false.1 a2) ((gY ab).1 p.2.1))), ad.ok, ae, af, ag, ah, (aa.mono (cB a.le c.le))⟩))
 omega
 refine qW ?_
 refine qD rfl (zU (v := .bool false) rfl rfl) (qM (.bool false) ?_)
 refine qW ?_
 refine qW ?_
 refine qW ?_
 refine qX ?_
 refine qX ?_
 refine qX ?_
 refine qW ?_
 refine qD rfl (zU (v := .bool false) rfl rfl) (qe (zA ?_))
 refine xT rfl rfl (cO (w9c ?_))
 refine qM (vJ (j : Int)) ?_
 refine qD rfl (yH rfl rfl (by omega)) (qM (vJ ((j : Int) + 1)) ?_)
 refine qe (zV (⟨_, ?_, _, rfl, _, j + 1, ac, f, l, aq, (pS 9 (pS 8 (pS 7 (pS 6 (pS 2 (pS 1 (pU 0))))))), rfl, g, (cB (cB m a.le) c.le), (by omega), ai, (tK q (fun p => a1 p.1)), ad.ok, ae, af, ag, ah, (aa.mono (cB a.le c.le))⟩))
 omega
 refine cQ (zX (yO (yK (w9c ?_))))
 refine qM (vJ (i : Int)) ?_
 refine qD rfl (yH rfl rfl (by omega)) (qM (vJ ((i : Int) + 1)) ?_)
 refine qe (zV ?_)
 have hjn : j = xs.length := by omega
 rw [hjn, hout] at q
 refine ⟨_, ?_, _, rfl, _, i + 1, ax, f, l, y, (pS 8 (pS 7 (pS 6 (pS 2 (pS 1 (pU 0)))))), rfl, a6, (cB aw m), (by omega), ay, (domI_end q), bo, bp, bq, br, bt, aa⟩
 omega
 refine cQ (zX (yO (yK (w9a ?_))))
 refine qM ov ?_
 refine qM ov ?_
 refine qe (zA ?_)
 refine cP (zP (zQ (v := ov) rfl rfl rfl ?_))
 have hin : i = xs.length := by omega
 rw [hin] at hout
 exact ⟨_, _, _, rfl, (by rw [← hout]; exact bn), ⟨⟨bl, bi, bj, habu, habv, hauv⟩, bm, bh, haok, habk, hauk, havk⟩, bg, bf⟩
theorem rB {w : World} {v : Value} {n : Int} (hP : Pins G w) (hv : RSl eInt G v xs) :
  Calls Tryz.prog 106 #[v, .int .i64 n] w fun e w' => ∃ G', e = .returned (.bool (decide (n ∈ xs))) ∧ Ext noS G w G' w' := by
 refine zY (n := 18) Tryz.func106 Tryz.ntmps106 rfl rfl ?_
 have g := exr noS hP
 have hm := hv.max
 refine w9d ?_
 refine qM (.bool false) ?_
 refine qe (zA (w9b ?_))
 refine qM (.int .i64 0) ?_
 refine qe (zA ?_)
 refine zZ (yR (fun (k : Nat) (en : Nat → Value) (W : World) => ∃ (d : Nat → Value) (j : Nat) (a : Pin), en = (upd (upd (upd d 0 v) 1 (.int .i64 n)) 5 (.int .i64 (j : Int))) ∧ k = xs.length - j ∧ Ext noS G w a W ∧ Pin.le G a ∧ (j ≤ xs.length) ∧ (∀ i, i < j → xs.getD i 0 ≠ n)) _ ⟨_, 0, G, (pS 5 (pS 1 (pU 0))), rfl, g, cJ _, cI _, (fun i hi => absurd hi (cK i))⟩ ?_)
 rintro l _ m ⟨d, j, a, rfl, o, b, f, hj, hno⟩
 refine w9b ?_
 refine qM (.int .i64 (j : Int)) ?_
 refine qM v ?_
 refine qD rfl (zM dE (v := v) rfl hv) (qD rfl (yU rfl rfl) (qe (zA ?_)))
 refine yC (p := ((j : Int) : Int) < (xs.length : Int)) rfl rfl (fun h => ?_) (fun h => ?_)
 refine cO (zA (zB ?_))
 refine zZ (w9d ?_)
 refine qM v ?_
 refine qM (.int .i64 (j : Int)) ?_
 refine qD rfl (zF dE sz3 (v := v) rfl rfl hv (by omega) (by omega)) (qD rfl (zG (r := xs.getD j 0) rfl ag3 (z := (j : Int)) rfl hv (cC b.pins f) (by omega) (by omega)) (qM (.int .i64 n) ?_))
 refine qD rfl (xO rfl rfl) (qe (zA ?_))
 refine yC (p := (xs.getD j 0 : Int) = n) rfl rfl (fun c => ?_) (fun c => ?_)
 refine w9d ?_
 refine qM (.bool true) ?_
 refine qe (zA ?_)
 exact cP (zP (zQ (v := .bool true) rfl rfl rfl (⟨_, cgA eB (has_yes (by omega) c).symm, b⟩)))
 refine cO (w9c ?_)
 refine qM (.int .i64 (j : Int)) ?_
 refine qD rfl (yH rfl rfl (by omega)) (qM (.int .i64 ((j : Int) + 1)) ?_)
 refine qe (zV (⟨_, ?_, _, rfl, _, j + 1, a, (pS 5 (pS 1 (pU 0))), rfl, b, f, (by omega), (fun i hi => if h3 : i = j then h3 ▸ c else hno i (by omega))⟩))
 omega
 refine cQ (zX (yO (yK (w9a ?_))))
 refine qM (.bool false) ?_
 refine qe (zA ?_)
 exact cP (zP (zQ (v := .bool false) rfl rfl rfl (⟨_, cgA eB (has_no (fun i hi => hno i (by omega))).symm, b⟩)))
theorem gS {w : World} {y : Value} {D : List Int} (hP : Pins G w) (hx : RSl eInt G x xs) (hy : RSl eInt G y D) (hxl : xs.length ≤ 1048576) :
  Calls Tryz.prog 87 #[x, y] w fun e w' => ∃ (u : Value) (G' : Pin), e = .returned u ∧ Own eInt 3 G' w' w.heap.size u (woL xs D xs.length) ∧ Ext noS G w G' w' := by
 refine zY (n := 26) Tryz.func87 Tryz.ntmps87 rfl rfl ?_
 have g := exr noS hP
 refine w9d ?_
 refine qM vN ?_
 refine qe (w9a ?_)
 refine qI rfl (xE (E := eInt) (e := 3) dE sz3 g.pins (fun h w2 ad ae af aq => ?_))
 have ag := ad.weaken g.size
 refine qM h ?_
 refine qe (zA (w9b ?_))
 refine qM (vJ 0) ?_
 refine qe (zA ?_)
 refine zZ (yR (fun k en W => ∃ (m : Nat → Value) (i : Nat) (ov : Value) (out : List Int) (a : Pin), en = (upd (upd (upd (upd (upd m 0 x) 1 y) 4 vN) 5 ov) 6 (vJ (i : Int))) ∧ k = xs.length - i ∧ Ext noS G w a W ∧ Pin.le G a ∧ (i ≤ xs.length) ∧ (out = woL xs D i) ∧ (Own eInt 3 a W w.heap.size ov (out))) _ ⟨_, 0, h, [], G, (pS 6 (pS 5 (pS 4 (pS 1 (pU 0))))), rfl, (g.step ae af), cJ _, cI _, rfl, ag⟩ ?_)
 rintro k9 _ au ⟨m, i, ov, out, a, rfl, av, d, f, hi, hout, o⟩
 have hol : out.length ≤ i := by rw [hout]; exact mM i
 refine w9b ?_
 refine qM (vJ (i : Int)) ?_
 refine qM x ?_
 refine qD rfl (zM dE (v := x) rfl hx) (qD rfl (yU rfl rfl) (qe (zA ?_)))
 refine yC (p := ((i : Int) : Int) < (xs.length : Int)) rfl rfl (fun ah => ?_) (fun ah => ?_)
 refine cO (zA (zB ?_))
 refine zZ (w9d ?_)
 refine qM y ?_
 refine qM (vJ (i : Int)) ?_
 refine qI rfl (zL (vs := [y, vJ (i : Int)]) Tryz.func106 nm106 rfl rfl rfl ?_)
 refine cD (rB (n := (i : Int)) (d.pins) (hy.mono f)) ?_
 rintro _ aw ⟨ax, rfl, ai⟩
 refine rt9 ?_
 have j := vH d.pins ai
 have c := d.step j.pins j.below
 have q := o.below j.below
 refine qD rfl (xD rfl) (qe (zA ?_))
 refine xU rfl rfl (fun b => ?_) (fun b => ?_)
 replace b := of_decide_eq_true b
 refine cO (w9c ?_)
 refine qM (vJ (i : Int)) ?_
 refine qD rfl (yH rfl rfl (by omega)) (qM (vJ ((i : Int) + 1)) ?_)
 refine qe (zV (⟨_, ?_, _, rfl, _, i + 1, ov, out, a, (pS 6 (pS 5 (pS 4 (pS 1 (pU 0))))), rfl, c, f, (by omega), (by rw [hout]; exact (if_pos b).symm), q⟩))
 omega
 replace b := of_decide_eq_false b
 refine zC (qM ov ?_)
 refine qM x ?_
 refine qM (vJ (i : Int)) ?_
 refine qD rfl (zF dE sz3 (v := x) rfl rfl hx (by omega) (by omega)) (qD rfl (zG (r := xs.getD i 0) rfl ag3 (z := (i : Int)) rfl hx (cC c.pins f) (by omega) (by omega)) (qI rfl (yV (E := eInt) (e := 3) [vJ (xs.getD i 0)] [xs.getD i 0] dE sz3 zr3 (by exact xP (by rfl)) (yZ (by rfl)) rfl rfl rfl rfl (by decide) c.pins (fun s aj ak al t ay => ?_))))
 have l := c.step al t
 have aa := q.below t
 have am := ak.weaken c.size
 refine qI rfl (oA (E := eInt) (v := ov) (u := s) 8 dE ap3 (by decide) rfl rfl l.pins aa am.src (l.size) (fun ab az an ao ap a0 => ?_))
 have a1 := la1 out (xs.getD i 0)
 refine qM ab ?_
 refine qe (w9c ?_)
 refine qM (vJ (i : Int)) ?_
 refine qD rfl (yH rfl rfl (by omega)) (qM (vJ ((i : Int) + 1)) ?_)
 refine qe (zV (⟨_, ?_, _, rfl, _, i + 1, ab, out ++ ([xs.getD i 0]), a, (pS 6 (pS 5 (pS 4 (pS 1 (pU 0))))), rfl, (l.write ao ap ((yD aa))), f, (by omega), (by rw [hout]; exact (if_neg b).symm), an⟩))
 omega
 refine cQ (zX (yO (yK (w9a ?_))))
 refine qM ov ?_
 refine qM ov ?_
 refine qe (zA ?_)
 refine cP (zP (zQ (v := ov) rfl rfl rfl ?_))
 have hin : i = xs.length := by omega
 rw [hin] at hout
 exact ⟨_, _, rfl, (by rw [← hout]; exact o), d⟩
theorem nT {w : World} {o : Nat} (hP : Pins G w) (hO : Od 65 3 G w o b bu bv kv ns bs ks) (hy : 0 ≤ y ∧ y < ns.length) (hx : RSl eInt G x xs) (hxl : xs.length ≤ 1048576) (hok : BookOk ns bs) (hka : KAll ns ks) (hpo : PoolOk (bkq ns bs)) (hl0 : LnOk (bkq ns bs) lf (den ns (y).toNat) xs 0 []) :
  Calls Tryz.prog 86 #[vP o, vJ y, x, .bool lf] w fun e w' => ∃ (u : Value) (ln out : List Int) (ks' : List Int) (G' : Pin), e = .returned u ∧ RSl eInt G' u out ∧ RdW (bkq ns bs) lf (den ns (y).toNat) [] ln out ∧ Od 65 3 G' w' o b bu bv kv ns bs ks' ∧ KAll ns ks' ∧ Ext (inO kv.ownBlock) G w G' w' := by
 refine zY (n := 86) Tryz.func86 Tryz.ntmps86 rfl rfl ?_
 have bt := exr (inO kv.ownBlock) hP
 have hB := hO.bk
 have hbx := hB.bx
 have hou := hB.ou
 have hov := hB.ov
 have habu := hB.abu
 have habv := hB.abv
 have hauv := hB.auv
 have hlen := hok.len
 have hlim := hok.lim
 have hox := hO.ox
 have ch := hO.ok
 have haok := hO.aok
 have habk := hO.abk
 have hauk := hO.auk
 have havk := hO.avk
 have hlok : Lo w (inO kv.ownBlock) kv.ownBlock := xN
 have hoo : OptsOk ns := hok.optsOk
 have hlens := hok.lens
 have hxm := hx.max
 refine w9d ?_
 refine qM vN ?_
 refine qe (w9a ?_)
 refine qI rfl (xE (E := eInt) (e := 3) dE sz3 bt.pins (fun u1 w2 eb ec am ay => ?_))
 have ba := bt.step ec am
 have cj := hou.below am
 have ck := hov.below am
 have cl := ch.below am
 have cm := hbx.below am
 have cn := hox.below am
 have co := zE ay hou.lt
 have cp := zE ay hov.lt
 have cq := zE ay ch.lt
 have cr := zI ay hbx.lt
 have cs := zI ay hox.lt
 have ct := eb.weaken bt.size
 refine qM x ?_
 refine qI rfl (oA (E := eInt) (v := u1) (u := x) 8 dE ap3 (by decide) rfl rfl ba.pins ct ((hx.mono (cJ _)).src ba.pins (by decide)) (ba.size) (fun cu fe cv ed an az => ?_))
 have bw := ba.write ed an ((yD ct))
 have cw := cj.keptA an co.symm
 have cx := ck.keptA an cp.symm
 have cy := cl.keptA an cq.symm
 have cz := cm.keptA an cr.symm
 have c0 := cn.keptA an cs.symm
 have ff := la2 ([]) xs
 refine qI rfl (xE (E := eInt) (e := 3) dE sz3 bw.pins (fun bz ee ef eg ag ao => ?_))
 have eh := ef.weaken bw.size
 refine qM cu ?_
 refine qM bz ?_
 refine qe (zA (w9b ?_))
 refine qM (vJ 0) ?_
 refine qe (zA ?_)
 refine zZ ?_
 obtain ⟨c1, bb, ei, ej, ap⟩ := eh.sealed (bw.step eg ag)
 have ek := (cw.below ag).moreO bb ap (zE ao cw.lt).symm
 have el := (cx.below ag).moreO bb ap (zE ao cx.lt).symm
 have em := (cy.below ag).moreO bb ap (zE ao cy.lt).symm
 have eo := (cv.below ag).moreO bb ap (zE ao cv.lt).symm
 have ep := (c0.below ag).moreO ap (zI ao c0.lt).symm
 refine yR (fun k en W => ∃ (aa : Nat → Value) (i : Nat) (kq : List Int) (lv : Value) (ln : List Int) (ov : Value) (out : List Int) (m : Pin), en = (upd (upd (upd (upd (upd (upd (upd aa 0 (vP o)) 1 (vJ y)) 3 (.bool lf)) 8 vN) 9 lv) 10 ov) 11 (vJ (i : Int))) ∧ k = ns.length - i ∧ Ext (inO kv.ownBlock) G w m W ∧ Pin.le c1 m ∧ (LnOk (bkq ns bs) lf (den ns (y).toNat) ln i out) ∧ (i ≤ ln.length) ∧ (KAll ns kq) ∧ (Own eInt 3 m W 0 kv (kq)) ∧ (Own eInt 3 m W w.heap.size lv (ln)) ∧ (Own eNode 65 m W 0 bu (ns)) ∧ (Own eInt 3 m W 0 bv (bs)) ∧ (Bx m W b [bu, bv]) ∧ (Bx m W o [vP b, kv]) ∧ (Apart kv.ownBlock lv.ownBlock) ∧ (Apart lv.ownBlock bu.ownBlock) ∧ (Apart lv.ownBlock bv.ownBlock) ∧ (Apart lv.ownBlock (some b)) ∧ (Apart lv.ownBlock (some o)) ∧ (RSl eInt m ov (out))) _ ⟨_, 0, ks, cu, ([]) ++ xs, bz, [], c1, (pS 11 (pS 10 (pS 9 (pS 8 (pS 3 (pS 1 (pU 0))))))), rfl, ei, cJ _, (by rw [List.nil_append]; exact hl0), cI _, hka, em, eo, ek, el, ((cz.below ag).moreO ap (zI ao cz.lt).symm), ep, (zD cq.symm az cl.lt), (zD co.symm az cj.lt).symm, (zD cp.symm az ck.lt).symm, (zK cr.symm az cm.lt).symm, (zK cs.symm az cn.lt).symm, ej⟩ ?_
 rintro fg _ fh ⟨aa, i, kq, lv, ln, ov, out, m, rfl, fi, bc, b0, hln, hiln, c2, c3, bd, b1, b2, b3, b4, be, b5, b6, b7, b8, bf⟩
 have hll : ln.length ≤ ns.length := hln.len
 refine w9b ?_
 refine qM (vJ (i : Int)) ?_
 refine qM lv ?_
 refine qD rfl (zM dE (v := lv) rfl bd.read) (qD rfl (yU rfl rfl) (qe (zA ?_)))
 refine yC (p := ((i : Int) : Int) < (ln.length : Int)) rfl rfl (fun eq => ?_) (fun eq => ?_)
 have hpi : 0 ≤ ln.getD i 0 ∧ ln.getD i 0 < ns.length := hln.at_ (by omega)
 have hol : out.length ≤ ns.length := jH _ _ hln.rd.ndk (fun x hx => (hln.rd.all x (cG ((hln.rd.keep x).1 hx).1)).1)
 refine cO (zA (zB ?_))
 refine zZ (w9d ?_)
 refine qM (vP o) ?_
 refine qM (vJ y) ?_
 refine qM lv ?_
 refine qM (vJ (i : Int)) ?_
 refine qD rfl (zF dE sz3 (v := lv) rfl rfl bd.read (by omega) (by omega)) (qD rfl (zG (r := ln.getD i 0) rfl ag3 (z := (i : Int)) rfl bd.read (cM bc.pins lv) (by omega) (by omega)) (qM (.bool lf) ?_))
 refine qI rfl (zL (vs := [vP o, vJ y, vJ (ln.getD i 0), .bool lf]) Tryz.func105 nm105 rfl rfl rfl ?_)
 refine cD (sX (lf := lf) bc.pins ⟨⟨b3, b1, b2, habu, habv, hauv⟩, b4, c3, haok, habk, hauk, havk⟩ hy hpi hok c2) ?_
 rintro _ fj ⟨c, a0, bg, rfl, c4, b9, ca, h⟩
 refine rt9 ?_
 have ah := bc.trans h (fun i hi => hlok i hi)
 have a1 := bd.extS h (notO be.symm)
 have s := b1.extS h (notO hauk)
 have cb := b2.extS h (notO havk)
 have a2 := b3.extS h (xX habk)
 have a3 := b4.extS h (xX haok)
 refine qM (vJ c) ?_
 refine qe (zA (w9b ?_))
 refine qM (vJ c) ?_
 refine qD rfl (yU rfl rfl) (qe (zA ?_))
 refine yC (p := (c : Int) < 0) rfl rfl (fun c5 => ?_) (fun c5 => ?_)
 refine w9d ?_
 refine qM ov ?_
 refine qM lv ?_
 refine qM (vJ (i : Int)) ?_
 refine qD rfl (zF dE sz3 (v := lv) rfl rfl a1.read (by omega) (by omega)) (qD rfl (zG (r := ln.getD i 0) rfl ag3 (z := (i : Int)) rfl a1.read (cM ah.pins lv) (by omega) (by omega)) (qI rfl (zL (vs := [ov, vJ (ln.getD i 0)]) Tryz.func98 nm98 rfl rfl rfl ?_)))
 refine cD (jE ah.pins (bf.mono h.le) (by omega)) ?_
 rintro _ fk ⟨c6, er, rfl, es, ab⟩
 refine rt9 (qM c6 ?_)
 refine qe (zA ?_)
 refine cQ (zX (yK (zA (zC ?_))))
 refine qM (vJ (i : Int)) ?_
 refine qD rfl (yH rfl rfl (by omega)) (qM (vJ ((i : Int) + 1)) ?_)
 refine qe (zV (⟨_, ?_, _, rfl, _, i + 1, a0, lv, ln, c6, putL out (ln.getD i 0), er, (pS 11 (pS 10 (pS 9 (pS 8 (pS 3 (pS 1 (pU 0))))))), rfl, (ah.tr ab), (cB (cB b0 h.le) ab.le), (hln.keep (by omega) (thr_no (q := bkq ns bs) c4 c5)), (by omega), ca, (b9.ok.ext ab), (a1.ext ab), (s.ext ab), (cb.ext ab), (a2.ext ab), (a3.ext ab), be, b5, b6, b7, b8, es⟩))
 omega
 refine cO (w9a ?_)
 have hti := sF (q := bkq ns bs) hpo hpi c4 (by omega)
 have fl : 0 ≤ c ∧ c < ns.length := hti.1
 have hlt := hok.lens (c).toNat (by omega)
 refine qM (vP o) ?_
 refine qD rfl (yY rfl) (qD rfl (zH (k := 0) rfl dW rfl nz75 rfl) (qD rfl (zJ (u := vP b) ag75 rfl (a3.cell (o := 0) rfl)) (qD rfl (yY rfl) (qD rfl (zH (k := 0) rfl dL rfl nz30 rfl) (qD rfl (zJ (u := bu) ag30 rfl (a2.cell (o := 0) rfl)) (qM (vJ c) ?_))))))
 refine qD rfl (zF dF sz65 (v := bu) rfl rfl s.read (by omega) (by omega)) (qD rfl (xC (off := 0) dG rfl rfl nz56 (z := c) (k := 0) rfl s.read (by omega) (by omega)) ?_)
 obtain ⟨ac, aq, et⟩ := jZ (s.at (z := c) (by omega) (by omega)) (j := (c).toNat) rfl
 have fm := aq.max
 refine qD rfl (et ag56 rfl (cM ah.pins bu)) (qM ac ?_)
 refine qe (zA (w9b ?_))
 refine qM (.bool lf) ?_
 refine qD rfl (xD rfl) (qe (zA ?_))
 refine xU rfl rfl (fun cc => ?_) (fun cc => ?_)
 refine cO (w9a ?_)
 refine qM (vJ 0) ?_
 refine qe (zA ?_)
 refine zZ (yR (fun k en W => ∃ (aa : Nat → Value) (a : Nat) (d : Value) (g : List Int) (f : Pin), en = (upd (upd (upd (upd (upd (upd (upd (upd (upd aa 0 (vP o)) 1 (vJ y)) 3 (.bool lf)) 8 vN) 9 d) 10 ov) 11 (vJ (i : Int))) 13 ac) 14 (vJ (a : Int))) ∧ k = ((ns.getD (c).toNat default).l).length - a ∧ Ext (inO kv.ownBlock) G w f W ∧ Pin.le bg f ∧ (a ≤ ((ns.getD (c).toNat default).l).length) ∧ (ExOk ln g ((ns.getD (c).toNat default).l) a) ∧ (g.length ≤ ln.length + a) ∧ (ln.length ≤ g.length) ∧ (Own eInt 3 f W w.heap.size d (g)) ∧ (Own eInt 3 f W 0 kv (a0)) ∧ (Own eNode 65 f W 0 bu (ns)) ∧ (Own eInt 3 f W 0 bv (bs)) ∧ (Bx f W b [bu, bv]) ∧ (Bx f W o [vP b, kv]) ∧ (Apart d.ownBlock kv.ownBlock) ∧ (Apart d.ownBlock bu.ownBlock) ∧ (Apart d.ownBlock bv.ownBlock) ∧ (Apart d.ownBlock (some b)) ∧ (Apart d.ownBlock (some o))) _ ⟨_, 0, lv, ln, bg, (pS 14 (pS 13 (pS 11 (pS 10 (pS 9 (pS 8 (pS 3 (pS 1 (pU 0))))))))), rfl, ah, cJ _, cI _, (ExOk.start hln.nd), cH _, cH _, a1, b9.ok, s, cb, a2, a3, be.symm, b5, b6, b7, b8⟩ ?_)
 rintro fn _ fo ⟨aa, a, d, g, f, rfl, fp, a4, ar, eu, hex, ev, ew, cd, c7, c8, c9, da, db, bh, bi, bj, bl, bm⟩
 refine w9b ?_
 refine qM (vJ (a : Int)) ?_
 refine qM ac ?_
 refine qD rfl (zM dE (v := ac) rfl aq) (qD rfl (yU rfl rfl) (qe (zA ?_)))
 refine yC (p := ((a : Int) : Int) < (((ns.getD (c).toNat default).l).length : Int)) rfl rfl (fun ex => ?_) (fun ex => ?_)
 refine cO (zA (zB ?_))
 refine zZ (w9d ?_)
 refine qM d ?_
 refine qM ac ?_
 refine qM (vJ (a : Int)) ?_
 refine qD rfl (zF dE sz3 (v := ac) rfl rfl aq (by omega) (by omega)) (qD rfl (zG (r := ((ns.getD (c).toNat default).l).getD a 0) rfl ag3 (z := (a : Int)) rfl aq (cC a4.pins ar) (by omega) (by omega)) (qI rfl (zL (vs := [d, vJ (((ns.getD (c).toNat default).l).getD a 0)]) Tryz.func106 nm106 rfl rfl rfl ?_)))
 refine cD (rB (n := ((ns.getD (c).toNat default).l).getD a 0) (cM a4.pins d) cd.read) ?_
 rintro _ fq ⟨fr, rfl, ey⟩
 refine rt9 ?_
 have ad := vH a4.pins ey
 have a5 := a4.step ad.pins ad.below
 have dc := cd.below ad.below
 have dd := c7.below ad.below
 have de := c8.below ad.below
 have df := c9.below ad.below
 have dg := da.below ad.below
 have dh := db.below ad.below
 refine qD rfl (xD rfl) (qe (zA ?_))
 refine xU rfl rfl (fun ai => ?_) (fun ai => ?_)
 replace ai := of_decide_eq_true ai
 refine cO (w9c ?_)
 refine qM (vJ (a : Int)) ?_
 refine qD rfl (yH rfl rfl (by omega)) (qM (vJ ((a : Int) + 1)) ?_)
 refine qe (zV (⟨_, ?_, _, rfl, _, a + 1, d, g, f, (pS 14 (pS 13 (pS 11 (pS 10 (pS 9 (pS 8 (pS 3 (pS 1 (pU 0))))))))), rfl, a5, ar, (by omega), (hex.skip (by omega) ai), (by omega), (by omega), dc, dd, de, df, dg, dh, bh, bi, bj, bl, bm⟩))
 omega
 replace ai := of_decide_eq_false ai
 refine zC (qM d ?_)
 refine qM ac ?_
 refine qM (vJ (a : Int)) ?_
 refine qD rfl (zF dE sz3 (v := ac) rfl rfl aq (by omega) (by omega)) (qD rfl (zG (r := ((ns.getD (c).toNat default).l).getD a 0) rfl ag3 (z := (a : Int)) rfl aq (cC a5.pins ar) (by omega) (by omega)) (qI rfl (yV (E := eInt) (e := 3) [vJ (((ns.getD (c).toNat default).l).getD a 0)] [((ns.getD (c).toNat default).l).getD a 0] dE sz3 zr3 (by exact xP (by rfl)) (yZ (by rfl)) rfl rfl rfl rfl (by decide) a5.pins (fun di ez e0 e1 aj fs => ?_))))
 have ce := a5.step e1 aj
 have dj := dc.below aj
 have dk := dd.below aj
 have dl := de.below aj
 have dm := df.below aj
 have dn := dg.below aj
 have dp := dh.below aj
 have e2 := e0.weaken a5.size
 refine qI rfl (oA (E := eInt) (v := d) (u := di) 8 dE ap3 (by decide) rfl rfl ce.pins dj e2.src (ce.size) (fun dq ft e3 e4 au a6 => ?_))
 have fu := la1 g (((ns.getD (c).toNat default).l).getD a 0)
 refine qM dq ?_
 refine qe (w9c ?_)
 refine qM (vJ (a : Int)) ?_
 refine qD rfl (yH rfl rfl (by omega)) (qM (vJ ((a : Int) + 1)) ?_)
 refine qe (zV (⟨_, ?_, _, rfl, _, a + 1, dq, g ++ ([((ns.getD (c).toNat default).l).getD a 0]), f, (pS 14 (pS 13 (pS 11 (pS 10 (pS 9 (pS 8 (pS 3 (pS 1 (pU 0))))))))), rfl, (ce.write e4 au ((yD dj))), ar, (by omega), (hex.add (by omega) ai), (by rw [List.length_append, List.length_singleton]; omega), (by rw [List.length_append, List.length_singleton]; omega), e3, (dk.keptA au bh.symm), (dl.keptA au bi.symm), (dm.keptA au bj.symm), (dn.keptA au bl.symm), (dp.keptA au bm.symm), (zD bh.symm a6 dk.lt).symm, (zD bi.symm a6 dl.lt).symm, (zD bj.symm a6 dm.lt).symm, (zK bl.symm a6 dn.lt).symm, (zK bm.symm a6 dp.lt).symm⟩))
 omega
 refine cQ (zX (yO (yK (w9c ?_))))
 refine qM (vJ (i : Int)) ?_
 refine qD rfl (yH rfl rfl (by omega)) (qM (vJ ((i : Int) + 1)) ?_)
 refine qe (zV (⟨_, ?_, _, rfl, _, i + 1, a0, d, g, ov, out, f, (pS 11 (pS 10 (pS 9 (pS 8 (pS 3 (pS 1 (pU 0))))))), rfl, a4, (cB (cB b0 h.le) ar), (hex.pass (by omega) (ol_yes (q := bkq ns bs) (t := c) cc) hpo hln (by omega) hti.1 hti.2.1 hti.2.2), (by omega), ca, c7, cd, c8, c9, da, db, bh.symm, bi, bj, bl, bm, (bf.mono (cB h.le ar))⟩))
 omega
 refine zC (qM (vP o) ?_)
 refine qD rfl (yY rfl) (qD rfl (zH (k := 0) rfl dW rfl nz75 rfl) (qD rfl (zJ (u := vP b) ag75 rfl (a3.cell (o := 0) rfl)) (qD rfl (yY rfl) (qD rfl (zH (k := 0) rfl dL rfl nz30 rfl) (qD rfl (zJ (u := bu) ag30 rfl (a2.cell (o := 0) rfl)) (qM (vJ c) ?_))))))
 refine qD rfl (zF dF sz65 (v := bu) rfl rfl s.read (by omega) (by omega)) (qD rfl (xC (off := 1) dG rfl rfl nz56 (z := c) (k := 0) rfl s.read (by omega) (by omega)) ?_)
 obtain ⟨ae, av, e5⟩ := jY (s.at (z := c) (by omega) (by omega)) (j := (c).toNat) rfl
 have fv := av.max
 refine qD rfl (e5 ag56 rfl (cM ah.pins bu)) (qM ae ?_)
 refine qe (w9a ?_)
 refine qM (vJ 0) ?_
 refine qe (zA ?_)
 refine zZ (yR (fun k en W => ∃ (aa : Nat → Value) (a : Nat) (d : Value) (g : List Int) (f : Pin), en = (upd (upd (upd (upd (upd (upd (upd (upd (upd aa 0 (vP o)) 1 (vJ y)) 3 (.bool lf)) 8 vN) 9 d) 10 ov) 11 (vJ (i : Int))) 13 ae) 14 (vJ (a : Int))) ∧ k = ((ns.getD (c).toNat default).r).length - a ∧ Ext (inO kv.ownBlock) G w f W ∧ Pin.le bg f ∧ (a ≤ ((ns.getD (c).toNat default).r).length) ∧ (ExOk ln g ((ns.getD (c).toNat default).r) a) ∧ (g.length ≤ ln.length + a) ∧ (ln.length ≤ g.length) ∧ (Own eInt 3 f W w.heap.size d (g)) ∧ (Own eInt 3 f W 0 kv (a0)) ∧ (Own eNode 65 f W 0 bu (ns)) ∧ (Own eInt 3 f W 0 bv (bs)) ∧ (Bx f W b [bu, bv]) ∧ (Bx f W o [vP b, kv]) ∧ (Apart d.ownBlock kv.ownBlock) ∧ (Apart d.ownBlock bu.ownBlock) ∧ (Apart d.ownBlock bv.ownBlock) ∧ (Apart d.ownBlock (some b)) ∧ (Apart d.ownBlock (some o))) _ ⟨_, 0, lv, ln, bg, (pS 14 (pS 13 (pS 11 (pS 10 (pS 9 (pS 8 (pS 3 (pS 1 (pU 0))))))))), rfl, ah, cJ _, cI _, (ExOk.start hln.nd), cH _, cH _, a1, b9.ok, s, cb, a2, a3, be.symm, b5, b6, b7, b8⟩ ?_)
 rintro fw _ fx ⟨aa, a, d, g, f, rfl, fy, a7, aw, eu, hex, ev, ew, cf, dr, ds, dt, du, dv, bn, bo, bp, bq, br⟩
 refine w9b ?_
 refine qM (vJ (a : Int)) ?_
 refine qM ae ?_
 refine qD rfl (zM dE (v := ae) rfl av) (qD rfl (yU rfl rfl) (qe (zA ?_)))
 refine yC (p := ((a : Int) : Int) < (((ns.getD (c).toNat default).r).length : Int)) rfl rfl (fun e6 => ?_) (fun e6 => ?_)
 refine cO (zA (zB ?_))
 refine zZ (w9d ?_)
 refine qM d ?_
 refine qM ae ?_
 refine qM (vJ (a : Int)) ?_
 refine qD rfl (zF dE sz3 (v := ae) rfl rfl av (by omega) (by omega)) (qD rfl (zG (r := ((ns.getD (c).toNat default).r).getD a 0) rfl ag3 (z := (a : Int)) rfl av (cC a7.pins aw) (by omega) (by omega)) (qI rfl (zL (vs := [d, vJ (((ns.getD (c).toNat default).r).getD a 0)]) Tryz.func106 nm106 rfl rfl rfl ?_)))
 refine cD (rB (n := ((ns.getD (c).toNat default).r).getD a 0) (cM a7.pins d) cf.read) ?_
 rintro _ fz ⟨f0, rfl, e7⟩
 refine rt9 ?_
 have af := vH a7.pins e7
 have a8 := a7.step af.pins af.below
 have dw := cf.below af.below
 have dx := dr.below af.below
 have dy := ds.below af.below
 have dz := dt.below af.below
 have d0 := du.below af.below
 have d1 := dv.below af.below
 refine qD rfl (xD rfl) (qe (zA ?_))
 refine xU rfl rfl (fun ak => ?_) (fun ak => ?_)
 replace ak := of_decide_eq_true ak
 refine cO (w9c ?_)
 refine qM (vJ (a : Int)) ?_
 refine qD rfl (yH rfl rfl (by omega)) (qM (vJ ((a : Int) + 1)) ?_)
 refine qe (zV (⟨_, ?_, _, rfl, _, a + 1, d, g, f, (pS 14 (pS 13 (pS 11 (pS 10 (pS 9 (pS 8 (pS 3 (pS 1 (pU 0))))))))), rfl, a8, aw, (by omega), (hex.skip (by omega) ak), (by omega), (by omega), dw, dx, dy, dz, d0, d1, bn, bo, bp, bq, br⟩))
 omega
 replace ak := of_decide_eq_false ak
 refine zC (qM d ?_)
 refine qM ae ?_
 refine qM (vJ (a : Int)) ?_
 refine qD rfl (zF dE sz3 (v := ae) rfl rfl av (by omega) (by omega)) (qD rfl (zG (r := ((ns.getD (c).toNat default).r).getD a 0) rfl ag3 (z := (a : Int)) rfl av (cC a8.pins aw) (by omega) (by omega)) (qI rfl (yV (E := eInt) (e := 3) [vJ (((ns.getD (c).toNat default).r).getD a 0)] [((ns.getD (c).toNat default).r).getD a 0] dE sz3 zr3 (by exact xP (by rfl)) (yZ (by rfl)) rfl rfl rfl rfl (by decide) a8.pins (fun d2 e8 e9 fa al f1 => ?_))))
 have cg := a8.step fa al
 have d3 := dw.below al
 have d4 := dx.below al
 have d5 := dy.below al
 have d6 := dz.below al
 have d7 := d0.below al
 have d8 := d1.below al
 have fb := e9.weaken a8.size
 refine qI rfl (oA (E := eInt) (v := d) (u := d2) 8 dE ap3 (by decide) rfl rfl cg.pins d3 fb.src (cg.size) (fun d9 f2 fc fd ax a9 => ?_))
 have f3 := la1 g (((ns.getD (c).toNat default).r).getD a 0)
 refine qM d9 ?_
 refine qe (w9c ?_)
 refine qM (vJ (a : Int)) ?_
 refine qD rfl (yH rfl rfl (by omega)) (qM (vJ ((a : Int) + 1)) ?_)
 refine qe (zV (⟨_, ?_, _, rfl, _, a + 1, d9, g ++ ([((ns.getD (c).toNat default).r).getD a 0]), f, (pS 14 (pS 13 (pS 11 (pS 10 (pS 9 (pS 8 (pS 3 (pS 1 (pU 0))))))))), rfl, (cg.write fd ax ((yD d3))), aw, (by omega), (hex.add (by omega) ak), (by rw [List.length_append, List.length_singleton]; omega), (by rw [List.length_append, List.length_singleton]; omega), fc, (d4.keptA ax bn.symm), (d5.keptA ax bo.symm), (d6.keptA ax bp.symm), (d7.keptA ax bq.symm), (d8.keptA ax br.symm), (zD bn.symm a9 d4.lt).symm, (zD bo.symm a9 d5.lt).symm, (zD bp.symm a9 d6.lt).symm, (zK bq.symm a9 d7.lt).symm, (zK br.symm a9 d8.lt).symm⟩))
 omega
 refine cQ (zX (yO (yK (w9c ?_))))
 refine qM (vJ (i : Int)) ?_
 refine qD rfl (yH rfl rfl (by omega)) (qM (vJ ((i : Int) + 1)) ?_)
 refine qe (zV (⟨_, ?_, _, rfl, _, i + 1, a0, d, g, ov, out, f, (pS 11 (pS 10 (pS 9 (pS 8 (pS 3 (pS 1 (pU 0))))))), rfl, a7, (cB (cB b0 h.le) aw), (hex.pass (by omega) (ol_no (q := bkq ns bs) (t := c) cc) hpo hln (by omega) hti.1 hti.2.1 hti.2.2), (by omega), ca, dr, cf, ds, dt, du, dv, bn.symm, bo, bp, bq, br, (bf.mono (cB h.le aw))⟩))
 omega
 refine cQ (zX (yO (yK (w9a ?_))))
 refine qM ov ?_
 refine qM ov ?_
 refine qe (zA ?_)
 exact cP (zP (zQ (v := ov) rfl rfl rfl (⟨_, _, _, _, _, rfl, bf, hln.done (by omega), ⟨⟨b3, b1, b2, habu, habv, hauv⟩, b4, c3, haok, habk, hauk, havk⟩, c2, bc⟩)))
end C61
namespace C62
open B1 C1 D1 E1 OR1 C61
variable {G : Pin} {b : Nat} {bu bv x y : Value} {ns : List Nd} {bs xs ys : List Int}
theorem mU {w : World} (hP : Pins G w) (hB : Bk 65 3 G w b bu bv ns bs) (hpo : PoolOk (bkq ns bs)) (hx : RSl eInt G x xs) (hy : RSl eInt G y ys) (hl : ns.length + 1 ≤ 1048576) (hls : xs.length ≤ 1048576 ∧ ys.length ≤ 1048576) (h1 : ∀ z ∈ xs, PlaceOk (bkq ns bs) z) (h2 : ∀ z ∈ ys, PlaceOk (bkq ns bs) z) :
  Calls Tryz.prog 84 #[.pointer (some ⟨b, 0, none⟩), x, y] w fun e w' => ∃ (z : Int) (n1 : List Nd) (b1 : List Int) (u' v' : Value) (G' : Pin), e = .returned (.int .i64 z) ∧ Bk 65 3 G' w' b u' v' n1 b1 ∧ StepOk ns bs n1 b1 z 1 ∧ (pd (bkq n1 b1) z = mkG (xs.map (pd (bkq ns bs))) (ys.map (pd (bkq ns bs)))) ∧ Ext (inS b bu bv) G w G' w' ∧ Lo w (inS b bu bv) u'.ownBlock ∧ Lo w (inS b bu bv) v'.ownBlock := by
 have hpt := bk_put hpo hl hls h1 h2
 refine (put_spec hP hB hpo.ar.ok hx hy hls (jT h1) (jT h2)).mono ?_
 rintro e w' ⟨u, v, G', rfl, hbk, hxx, l1, l2⟩
 exact ⟨_, _, _, u, v, G', rfl, hbk, ⟨hpt.ok, hpt.px, hpt.pl, hpt.len⟩, hpt.pd, hxx, l1, l2⟩
theorem l6Node_spec {w : World} (hP : Pins G w) (hB : Bk 65 3 G w b bu bv ns bs) (hpo : PoolOk (bkq ns bs)) (hx : RSl eInt G x xs) (hy : RSl eInt G y ys) (hl : ns.length + 3 ≤ 1048576) (hls : xs.length ≤ 1048576 ∧ ys.length ≤ 1048576) (h1 : ∀ z ∈ xs, PlaceOk (bkq ns bs) z ∧ CanonG (pd (bkq ns bs) z)) (h2 : ∀ z ∈ ys, PlaceOk (bkq ns bs) z ∧ CanonG (pd (bkq ns bs) z)) :
  Calls Tryz.prog 57 #[vP b, x, y] w fun e w' => ∃ (z : Int) (n1 : List Nd) (b1 : List Int) (u' v' : Value) (G' : Pin), e = .returned (vJ z) ∧ Bk 65 3 G' w' b u' v' n1 b1 ∧ StepOk ns bs n1 b1 z 3 ∧ (CanonG (pd (bkq n1 b1) z) ∧ eqG (pd (bkq n1 b1) z) (mkG (xs.map (pd (bkq ns bs))) (ys.map (pd (bkq ns bs))))) ∧ Ext (inS b bu bv) G w G' w' ∧ Lo w (inS b bu bv) u'.ownBlock ∧ Lo w (inS b bu bv) v'.ownBlock := by
 refine zY (n := 65) Tryz.func57 Tryz.ntmps57 rfl rfl ?_
 have bg := exr (inS b bu bv) hP
 have hok : BookOk ns bs := hpo.ar.ok
 have hbx := hB.bx
 have hou := hB.ou
 have hov := hB.ov
 have habu := hB.abu
 have habv := hB.abv
 have hauv := hB.auv
 have hlob : Lo w (inS b bu bv) (some b) := lo_b
 have hlou : Lo w (inS b bu bv) bu.ownBlock := lo_u
 have hlov : Lo w (inS b bu bv) bv.ownBlock := lo_v
 have hlen := hok.len
 have hlim := hok.lim
 refine w9d ?_
 refine qM (vJ 0) ?_
 refine qe (w9a ?_)
 refine qM (vP b) ?_
 refine qM x ?_
 refine qM y ?_
 refine qI rfl (zL (vs := [vP b, x, y]) Tryz.func84 nm84 rfl rfl rfl ?_)
 refine cD (mU bg.pins ⟨hbx, hou, hov, habu, habv, hauv⟩ hpo hx hy (by omega) hls (fun z hz => (h1 z hz).1) (fun z hz => (h2 z hz).1)) ?_
 rintro _ w7 ⟨g, n2, b3, u4, v5, G6, rfl, au, m, cn, ej, ek, el⟩
 refine rt9 ?_
 have co : ∀ i, inS b bu bv i → w.heap.size ≤ i ∨ (inS b bu bv) i := fU hlob hlou hlov
 have bi := bg.trans ej co
 have bj := au.bx
 have bk := au.ou
 have bl := au.ov
 have bm := au.abu
 have bn := au.abv
 have bo := au.auv
 have em := qJ ek co bg.size
 have en := qJ el co bg.size
 have c7 : 0 ≤ g ∧ g < n2.length := m.pl
 have f5 := m.len
 have f6 := m.ok.ar.ok.lim
 have hpz24l : (n2.getD (g).toNat default).l.length ≤ 1048576 ∧ (n2.getD (g).toNat default).r.length ≤ 1048576 := m.ok.ar.ok.lens (g).toNat (show (g).toNat < n2.length by omega)
 refine qM (vJ g) ?_
 refine qe (w9a ?_)
 refine qM (vP b) ?_
 refine qI rfl (zL (vs := [vP b]) Tryz.func85 nm85 rfl rfl rfl ?_)
 refine cD (nB bi.pins ⟨bj, bk, bl, bm, bn, bo⟩ m.ok.ar.ok) ?_
 rintro _ bp ⟨a0, eo, ep, rfl, eq, bq, br, bt, bw⟩
 refine rt9 ?_
 have cp := bi.tr bw
 have bz := bk.ext bw
 have al := zT bq.lt bk.lt
 have a1 := zT bq.lt bl.lt
 have av := yN bq.lt bj.lt
 have c8 := rY br bj.lt
 have f7 := cR bi.size br
 have er : KAll n2 (List.replicate (n2.length * n2.length) 0) := KAll.zero
 refine qM (vP a0) ?_
 refine qe (zA (zB ?_))
 have b0 := bz.read
 refine c_drawL (S := fun wz => BxR wz b [u4, v5] ∧ Pins (Gadd ep bp u4) wz) (lt := [23, 24]) (by kernel_rfl) rfl ?_
 have ag := bdr bp
 have c9 := cp.step (cp.pins.below ag) ag
 have da := bz.below ag
 have db := (bl.ext bw).below ag
 have cq := (bq.weaken bi.size).below ag
 have a := (bj.ext bw).below ag
 have dc := eq.below ag
 have c := (cM cp.pins u4).below ag
 refine xS [23, 24] (i := 0) rfl rfl rfl (zR rfl _) (by kernel_rfl) (fun _ _ => zN (v := vP b) rfl) ⟨a.reads, c⟩ (xS [11, 22, 23, 24] (i := 1) rfl rfl rfl (zR rfl _) (by kernel_rfl) (fun _ _ => zN (v := vP a0) rfl) ⟨a.reads, c⟩ (xS [11, 22, 23, 24] (i := 2) rfl rfl rfl (zR rfl _) (by kernel_rfl) (fun _ _ => zN (v := vJ g) rfl) ⟨a.reads, c⟩ (xS [4, 5, 6, 8, 9, 10, 11, 22, 23, 24] (i := 3) rfl rfl rfl (zR rfl _) (by kernel_rfl) (fun _ _ => zN (v := vP b) rfl) ⟨a.reads, c⟩ (xS [5, 6, 8, 9, 10, 11, 22, 23, 24] (i := 4) rfl rfl rfl (zR rfl _) (by kernel_rfl) (fun _ _ => yY rfl) ⟨a.reads, c⟩ (xS [6, 8, 9, 10, 11, 22, 23, 24] (i := 5) rfl rfl rfl (zR rfl _) (by kernel_rfl) (fun _ _ => zH (k := 0) rfl dL rfl nz30 rfl) ⟨a.reads, c⟩ (xS [8, 9, 10, 11, 22, 23, 24] (i := 6) rfl rfl rfl (zR rfl _) (by kernel_rfl) (fun _ hS => zJ (u := u4) ag30 rfl (hS.1 0 _ rfl)) ⟨a.reads, c⟩ (xS [8, 9, 10, 11, 22, 23, 24] (i := 7) rfl rfl rfl (zR rfl _) (by kernel_rfl) (fun _ _ => zN (v := vJ g) rfl) ⟨a.reads, c⟩ (xS [9, 10, 11, 22, 23, 24] (i := 8) rfl rfl rfl (zR rfl _) (by kernel_rfl) (fun _ _ => zF dF sz65 (v := u4) rfl rfl b0 (by omega) (by omega)) ⟨a.reads, c⟩ (xS [10, 11, 22, 23, 24] (i := 9) rfl rfl rfl (zR rfl _) (by kernel_rfl) (fun _ _ => xC (off := 0) dG rfl rfl nz56 (z := g) (k := 0) rfl b0 (by omega) (by omega)) ⟨a.reads, c⟩ ?_)))))))))
 obtain ⟨es, dd, et⟩ := jZ (bz.at (z := g) (by omega) (by omega)) (j := (g).toNat) rfl
 have f8 := dd.max
 refine xS [11, 22, 23, 24] (i := 10) rfl rfl rfl (zR rfl _) (by kernel_rfl) (fun _ hS => et ag56 rfl hS.2) ⟨a.reads, c⟩ (xS [22, 23, 24] (i := 12) rfl rfl rfl (zR rfl _) (by kernel_rfl) (fun _ _ => zN (v := vP a0) rfl) ⟨a.reads, c⟩ (xS [22, 23, 24] (i := 13) rfl rfl rfl (zR rfl _) (by kernel_rfl) (fun _ _ => zN (v := vJ g) rfl) ⟨a.reads, c⟩ (xS [15, 16, 17, 19, 20, 21, 22, 23, 24] (i := 14) rfl rfl rfl (zR rfl _) (by kernel_rfl) (fun _ _ => zN (v := vP b) rfl) ⟨a.reads, c⟩ (xS [16, 17, 19, 20, 21, 22, 23, 24] (i := 15) rfl rfl rfl (zR rfl _) (by kernel_rfl) (fun _ _ => yY rfl) ⟨a.reads, c⟩ (xS [17, 19, 20, 21, 22, 23, 24] (i := 16) rfl rfl rfl (zR rfl _) (by kernel_rfl) (fun _ _ => zH (k := 0) rfl dL rfl nz30 rfl) ⟨a.reads, c⟩ (xS [19, 20, 21, 22, 23, 24] (i := 17) rfl rfl rfl (zR rfl _) (by kernel_rfl) (fun _ hS => zJ (u := u4) ag30 rfl (hS.1 0 _ rfl)) ⟨a.reads, c⟩ (xS [19, 20, 21, 22, 23, 24] (i := 18) rfl rfl rfl (zR rfl _) (by kernel_rfl) (fun _ _ => zN (v := vJ g) rfl) ⟨a.reads, c⟩ (xS [20, 21, 22, 23, 24] (i := 19) rfl rfl rfl (zR rfl _) (by kernel_rfl) (fun _ _ => zF dF sz65 (v := u4) rfl rfl b0 (by omega) (by omega)) ⟨a.reads, c⟩ (xS [21, 22, 23, 24] (i := 20) rfl rfl rfl (zR rfl _) (by kernel_rfl) (fun _ _ => xC (off := 1) dG rfl rfl nz56 (z := g) (k := 0) rfl b0 (by omega) (by omega)) ⟨a.reads, c⟩ ?_)))))))))
 obtain ⟨eu, de, ev⟩ := jY (bz.at (z := g) (by omega) (by omega)) (j := (g).toNat) rfl
 have f9 := de.max
 refine xS [22, 23, 24] (i := 21) rfl rfl rfl (zR rfl _) (by kernel_rfl) (fun _ hS => ev ag56 rfl hS.2) ⟨a.reads, c⟩ (pR (i := 11) (by kernel_rfl) (drOp1L (i := 11) rfl rfl rfl (zR rfl _) (zL (vs := [vP a0, vJ g, es, .bool true]) Tryz.func86 nm86 rfl rfl rfl ?_)))
 refine cD (nT (lf := true) c9.pins ⟨⟨a, da, db, bm, bn, bo⟩, dc, (cq.weaken (cI _)), bt, av.symm, al.symm, a1.symm⟩ c7 dd hpz24l.1 m.ok.ar.ok er m.ok (LnOk.start m.ok m.pl (can_opts h1 h2 cn true))) ?_
 rintro _ ga ⟨ew, gb, gc, gd, ge, rfl, ex, cr, ey, ez, ae⟩
 refine rt9 ?_
 have cs := c9.trans ae (fun i hi => (yD cq) i hi)
 have df := da.extS ae (notO al.symm)
 have dg := db.extS ae (notO a1.symm)
 have ct := a.extS ae (xX av.symm)
 have dh := dc.extS ae (xX bt)
 have e0 : Lo w ((inS b bu bv)) eo.ownBlock := (yD cq)
 have di := Gadd.turn c (cC cs.pins ae.le) ae (notO al.symm)
 refine ⟨fun _ => ⟨ct.reads, di⟩, ?_⟩
 refine pR (i := 22) (by kernel_rfl) (drOp1L (i := 22) rfl rfl rfl (zR rfl _) (zL (vs := [vP a0, vJ g, eu, .bool false]) Tryz.func86 nm86 rfl rfl rfl ?_))
 refine cD (nT (lf := false) cs.pins ⟨⟨ct, df, dg, bm, bn, bo⟩, dh, ey.ok, bt, av.symm, al.symm, a1.symm⟩ c7 (de.mono ae.le) hpz24l.2 m.ok.ar.ok ez m.ok (LnOk.start m.ok m.pl (can_opts h1 h2 cn false))) ?_
 rintro _ gf ⟨e1, gg, gh, gi, gj, rfl, e2, cu, dj, gk, ah⟩
 refine rt9 ?_
 have a2 := cs.trans ah (fun i hi => e0 i hi)
 have dk := ct.extS ah (xX av.symm)
 have dl := dh.extS ah (xX bt)
 refine ⟨fun _ => ⟨dk.reads, (Gadd.turn di (cC a2.pins (cB ae.le ah.le)) ah (notO al.symm))⟩, ?_⟩
 refine pR (i := 23) (by kernel_rfl) (drOp1L (i := 23) rfl rfl rfl (zR rfl _) (zL (vs := [vP b, ew, e1]) Tryz.func84 nm84 rfl rfl rfl ?_))
 refine cD (mU a2.pins ⟨dk, (df.extS ah (notO al.symm)), (dg.extS ah (notO a1.symm)), bm, bn, bo⟩ m.ok (ex.mono ah.le) e2 (by omega) ⟨cR cr.len.2 m.ok.ar.ok.lim, cR cu.len.2 m.ok.ar.ok.lim⟩ cr.kpl cu.kpl) ?_
 rintro _ gl ⟨d, f, dm, ai, a3, gm, rfl, aw, p, e3, e4, cv, cw⟩
 refine rt9 ?_
 have cx : ∀ i, inS b u4 v5 i → w.heap.size ≤ i ∨ (inS b bu bv) i := fU hlob em en
 have b2 := a2.trans e4 cx
 have dn := notS (u := u4) (v := v5) av al a1
 have dp := notS (u := u4) (v := v5) c8 (vZ br bk.lt) (vZ br bl.lt)
 have b4 := aw.bx
 have b5 := aw.ou
 have b6 := aw.ov
 have b7 := aw.abu
 have b8 := aw.abv
 have b9 := aw.auv
 have e5 := qJ cv cx a2.size
 have e6 := qJ cw cx a2.size
 have gn : 0 ≤ d ∧ d < f.length := p.pl
 have gp := p.len
 have gq := p.ok.ar.ok.lim
 have hpz134l : (f.getD (d).toNat default).l.length ≤ 1048576 ∧ (f.getD (d).toNat default).r.length ≤ 1048576 := p.ok.ar.ok.lens (d).toNat (show (d).toNat < f.length by omega)
 refine ⟨fun h => absurd (by decide) h, ?_⟩
 refine pR (i := 24) (by kernel_rfl) (drOp1L (i := 24) rfl rfl rfl (zR rfl _) (EO.run (qF (v := vJ d) rfl) ⟨fun h => absurd (by decide) h, ?_⟩))
 refine dr_endL (by kernel_rfl) (w9a ?_)
 refine qM (vP b) ?_
 refine qI rfl (zL (vs := [vP b]) Tryz.func85 nm85 rfl rfl rfl ?_)
 refine cD (nB b2.pins ⟨b4, b5, b6, b7, b8, b9⟩ p.ok.ar.ok) ?_
 rintro _ gr ⟨a4, e7, gs, rfl, dq, ca, cb, cy, cc⟩
 refine rt9 ?_
 have cd := b2.tr cc
 have ce := b5.ext cc
 have dr := b6.ext cc
 have cz := b4.ext cc
 have a5 := zT ca.lt b5.lt
 have a6 := zT ca.lt b6.lt
 have a7 := yN ca.lt b4.lt
 have gt := cR b2.size cb
 have ds := ca.weaken b2.size
 have e8 : KAll f (List.replicate (f.length * f.length) 0) := KAll.zero
 have hokN := p.ok.ar.ok
 have hopN := jO p.ok p.pl
 refine qM (vP a4) ?_
 refine qe (w9a ?_)
 refine qM (vP b) ?_
 refine qD rfl (yY rfl) (qD rfl (zH (k := 0) rfl dL rfl nz30 rfl) (qD rfl (zJ (u := ai) ag30 rfl (cz.cell (o := 0) rfl)) (qM (vJ d) ?_)))
 refine qD rfl (zF dF sz65 (v := ai) rfl rfl ce.read (by omega) (by omega)) ?_
 obtain ⟨am, an, cf, cg, e9⟩ := jD (ce.at (z := d) (by omega) (by omega)) (j := (d).toNat) rfl
 have gu := cf.max
 have gv := cg.max
 refine qD rfl (e9 ag65 sz65 rfl (cM cd.pins ai)) (qI rfl (yI [vN, vN] zr65 rfl cd.pins (fun fa gw a8 fb fc ax => ?_)))
 have dt := cd.step fc ax
 have du := zE (cgA some a8) ce.lt
 have dv := zE (cgA some a8) dr.lt
 have dw := zE (cgA some a8) ds.lt
 have dx := zI (cgA some a8) cz.lt
 have dy := zI (cgA some a8) dq.lt
 have dz : w.heap.size ≤ fa := by have := cd.size; omega
 refine q0 rfl rfl rfl (o_stp (cs' := [am, an]) (us := [am, an]) (v := .agg #[am, an]) sz65 rfl rfl rfl (yQ cf.one cg.one) dt.pins fb (cE rfl) rfl (fun c0 fd fe ay gx => ?_))
 obtain ⟨ff, ao, d0, ch, a9⟩ := fd.shut (dt.write fe ay ((zS dz))) dz
 refine qe (zA (zB ?_))
 refine yW (S := fun wz => Pins ff wz) (last := 17) (by kernel_rfl) rfl ?_
 have ap := bdr c0
 have aa := d0.step (d0.pins.below ap) ap
 have d1 := (((ce.below ax).keptA ay du.symm).moreA ao a9 du.symm).below ap
 have d2 := (((dr.below ax).keptA ay dv.symm).moreA ao a9 dv.symm).below ap
 have c1 := (((ds.below ax).keptA ay dw.symm).moreA ao a9 dw.symm).below ap
 have d3 := (((cz.below ax).keptA ay dx.symm).moreA a9 dx.symm).below ap
 have d4 := (((dq.below ax).keptA ay dy.symm).moreA a9 dy.symm).below ap
 refine dM 0 (vP b) aa.pins ?_
 refine dT (i := 1) rfl rfl (by kernel_rfl) (fun _ _ => zH (k := 0) rfl dG rfl nz56 rfl) aa.pins ?_
 refine dT (i := 2) rfl rfl (by kernel_rfl) (fun _ hS => zJ (u := am) ag56 rfl (hS _ _ _ (ch 0 _ rfl))) aa.pins ?_
 refine dM 3 (vP a4) aa.pins ?_
 refine dT (i := 4) rfl rfl (by kernel_rfl) (fun _ _ => zH (k := 0) rfl dG rfl nz56 rfl) aa.pins ?_
 refine dT (i := 5) rfl rfl (by kernel_rfl) (fun _ hS => zJ (u := am) ag56 rfl (hS _ _ _ (ch 0 _ rfl))) aa.pins ?_
 refine dT (i := 8) rfl rfl (by kernel_rfl) (fun _ _ => zH (k := 1) rfl dG rfl nz56 rfl) aa.pins ?_
 refine dT (i := 9) rfl rfl (by kernel_rfl) (fun _ hS => zJ (u := an) ag56 rfl (hS _ _ _ (ch 1 _ rfl))) aa.pins ?_
 refine dM 10 (vP a4) aa.pins ?_
 refine dT (i := 11) rfl rfl (by kernel_rfl) (fun _ _ => zH (k := 1) rfl dG rfl nz56 rfl) aa.pins ?_
 refine dT (i := 12) rfl rfl (by kernel_rfl) (fun _ hS => zJ (u := an) ag56 rfl (hS _ _ _ (ch 1 _ rfl))) aa.pins ?_
 refine dP (i := 6) rfl rfl (zL (vs := [vP a4, am, .bool true]) Tryz.func88 nm88 rfl rfl rfl ?_)
 refine cD (fD aa.pins ⟨⟨d3, d1, d2, b7, b8, b9⟩, d4, (c1.weaken (cI _)), cy, a7.symm, a5.symm, a6.symm⟩ (lf := true) (cf.mono ao) hpz134l.1 (jT (q := bkq f dm) hopN.1) hokN e8) ?_
 rintro _ gy ⟨fg, gz, g0, rfl, fh, d5, fi, s⟩
 refine rt9 ?_
 have ci := aa.trans s (fun i hi => (yD c1) i hi)
 have d6 := d1.extS s (notO a5.symm)
 have d7 := d2.extS s (notO a6.symm)
 have d8 := d3.extS s (xX a7.symm)
 have fj : Lo w ((inS b bu bv)) e7.ownBlock := (yD c1)
 refine ⟨fun _ => (cC ci.pins s.le), ?_⟩
 refine dP (i := 7) rfl rfl (zL (vs := [am, fg]) Tryz.func87 nm87 rfl rfl rfl ?_)
 refine cD (gS ci.pins (cf.mono (cB ao s.le)) fh (by omega)) ?_
 rintro _ fk ⟨d9, fl, rfl, ba, ab⟩
 refine rt9 ?_
 have c2 := ci.tr ab
 have ea := d6.ext ab
 have eb := d7.ext ab
 have ec := d8.ext ab
 have fm := ba.weaken ci.size
 refine ⟨fun _ => (cC c2.pins (cB s.le ab.le)), ?_⟩
 refine dP (i := 13) rfl rfl (zL (vs := [vP a4, an, .bool false]) Tryz.func88 nm88 rfl rfl rfl ?_)
 refine cD (fD c2.pins ⟨⟨ec, ea, eb, b7, b8, b9⟩, ((d4.extS s (xX cy)).ext ab), (d5.ok.ext ab), cy, a7.symm, a5.symm, a6.symm⟩ (lf := false) (cg.mono (cB (cB ao s.le) ab.le)) hpz134l.2 (jT (q := bkq f dm) hopN.2) hokN fi) ?_
 rintro _ g1 ⟨fn, g2, g3, rfl, fo, g4, g5, ad⟩
 refine rt9 ?_
 have cj := c2.trans ad (fun i hi => fj i hi)
 have ed := ea.extS ad (notO a5.symm)
 have ee := eb.extS ad (notO a6.symm)
 have ef := fm.extS ad (notO (zT ba.lt d5.ok.lt))
 have eg := ec.extS ad (xX a7.symm)
 refine ⟨fun _ => (cC cj.pins (cB (cB s.le ab.le) ad.le)), ?_⟩
 refine dP (i := 14) rfl rfl (zL (vs := [an, fn]) Tryz.func87 nm87 rfl rfl rfl ?_)
 refine cD (gS cj.pins (cg.mono (cB (cB (cB ao s.le) ab.le) ad.le)) fo (by omega)) ?_
 rintro _ fp ⟨eh, fq, rfl, bb, aj⟩
 refine rt9 ?_
 have ei := cj.tr aj
 have fr := bb.weaken cj.size
 refine ⟨fun _ => (cC ei.pins (cB (cB (cB s.le ab.le) ad.le) aj.le)), ?_⟩
 obtain ⟨g6, bc, fs, ft, ck⟩ := (ef.ext aj).sealed ei
 obtain ⟨g7, bd, cl, fu, c3⟩ := (fr.moreO bc ck (zT bb.lt ef.lt)).sealed fs
 refine dP (i := 15) rfl rfl (zL (vs := [vP b, d9, eh]) Tryz.func84 nm84 rfl rfl rfl ?_)
 refine cD (mU cl.pins ⟨(((eg.ext aj).moreO ck (yN ba.lt d8.lt).symm).moreO c3 (yN bb.lt eg.lt).symm), (((ed.ext aj).moreO bc ck (zT ba.lt d6.lt).symm).moreO bd c3 (zT bb.lt ed.lt).symm), (((ee.ext aj).moreO bc ck (zT ba.lt d7.lt).symm).moreO bd c3 (zT bb.lt ee.lt).symm), b7, b8, b9⟩ p.ok (ft.mono bd) fu (by omega) ⟨cR (mM _) hpz134l.1, cR (mM _) hpz134l.2⟩ (wo_pl (lf := true) (t := d) p.ok p.pl) (wo_pl (lf := false) (t := d) p.ok p.pl)) ?_
 rintro _ g8 ⟨ak, cm, g9, fv, fw, ha, rfl, az, aq, fx, c4, fy, fz⟩
 refine rt9 ?_
 have c5 : ∀ i, inS b ai a3 i → w.heap.size ≤ i ∨ (inS b bu bv) i := fU hlob e5 e6
 have c6 := cl.trans c4 c5
 have hb := notS (u := ai) (v := a3) av (vO cv dn (qG dj.ok)) (vO cw dn (qG dj.ok))
 have hc := notS (u := ai) (v := a3) a7 a5 a6
 have hd := notS (u := ai) (v := a3) c8 (vO cv dp (fZ dl)) (vO cw dp (fZ dl))
 have he := notS (u := ai) (v := a3) (rY cb b4.lt) (vZ cb b5.lt) (vZ cb b6.lt)
 have f0 := qJ fy c5 cl.size
 have f1 := qJ fz c5 cl.size
 have hf : 0 ≤ ak ∧ ak < cm.length := aq.pl
 have hg := aq.len
 have hh := aq.ok.ar.ok.lim
 have hpz369l : (cm.getD (ak).toNat default).l.length ≤ 1048576 ∧ (cm.getD (ak).toNat default).r.length ≤ 1048576 := aq.ok.ar.ok.lens (ak).toNat (show (ak).toNat < cm.length by omega)
 refine ⟨fun _ => (cC c6.pins (cB (cB (cB (cB (cB (cB s.le ab.le) ad.le) aj.le) bc) bd) c4.le)), ?_⟩
 refine dM 16 (vJ ak) (cC c6.pins (cB (cB (cB (cB (cB (cB s.le ab.le) ad.le) aj.le) bc) bd) c4.le)) ?_
 refine yL (by kernel_rfl) (zA (cP (zP (zQ (v := vJ ak) rfl rfl rfl ?_))))
 have hcn := can_node p.ok cr cu p.pl e3 fx
 rw [show den n2 (g).toNat = _ from cn] at hcn
 exact ⟨_, _, _, fv, fw, _, rfl, ⟨az.bx, az.ou, az.ov, az.abu, az.abv, az.auv⟩, ⟨aq.ok, m.px.trans (p.px.trans aq.px), aq.pl, (by omega)⟩, hcn, c6, f0, f1⟩
end C62
namespace C63
open B1 C1 D1 E1 OR1 C61 C62
theorem pl77 : (Tryz.prog.underlying 77).bind (placesD Tryz.prog) = some [(0, 1), (1, 1)] := by kernel_rfl
theorem l6Canon_spec {w : World} {G : Pin} {v : Value} {fs : List Nd} (hP : Pins G w) (hv : RSl eNode G v fs) (hf : FormOk fs) (h1 : 1 ≤ fs.length ∧ fs.length ≤ 300000) :
  Calls Tryz.prog 37 [.agg #[v]].toArray w fun e w' => ∃ (c : Nat) (u : Value) (G' : Pin), e = .returned (.agg #[u]) ∧ CanonG c ∧ eqG c (gOf fs) ∧ IsForm c (formG c) ∧ RSl eNode G' u (formG c) ∧ Ext noS G w G' w' := by
 refine zY (n := 45) Tryz.func37 Tryz.ntmps37 rfl rfl ?_
 have ax := exr noS hP
 have hm := hv.max
 refine w9d ?_
 refine qI rfl (xH [v] (v := .agg #[v]) rfl rfl ax.pins (fun b1 w2 ea cr ct cu => ?_))
 have cv : w.heap.size ≤ b1 := by have := ax.size; omega
 obtain ⟨G9, an, az, a0, eb⟩ := cr.shut (ax.step ct cu) cv
 refine qI rfl (yI [vN] zr32 rfl az.pins (fun ad ec ed bi cw cx => ?_))
 have a1 := az.step cw cx
 have cy : w.heap.size ≤ ad := by have := az.size; omega
 refine qe (w9a ?_)
 refine qD rfl (yS [vN, vN] [vN, vN] [] dL zr77 rfl pl77 rfl (fun _ h => by cases h) rfl) (qI rfl (xH [vN, vN] (v := .agg #[vN, vN]) rfl rfl a1.pins (fun m ee cz bj c0 bk => ?_)))
 have a2 := a1.step c0 bk
 have bl := bi.below bk
 have c1 : w.heap.size ≤ m := by have := a1.size; omega
 refine qM (vP m) ?_
 refine qe (w9a ?_)
 refine qI rfl (xE (E := eInt) (e := 3) dE sz3 a2.pins (fun a3 c2 c3 c4 a4 bm => ?_))
 have c5 := a2.step c4 a4
 have c6 := bl.below a4
 have c7 := bj.below a4
 have c8 := zI bm bl.lt
 have c9 := zI bm bj.lt
 have da := c3.weaken a2.size
 refine qM a3 ?_
 refine qe (zA (w9b ?_))
 refine qM (vJ 0) ?_
 refine qe (zA ?_)
 refine zZ (yR (fun k en W => ∃ (bn : Nat → Value) (a : Nat) (atB : Value) (atsB : List Int) (uB : Value) (vB : Value) (nsB : List Nd) (bsB : List Int) (q : Pin), en = (upd (upd (upd (upd (upd bn 1 (vP b1)) 2 (vP ad)) 3 (vP m)) 4 atB) 5 (vJ (a : Int))) ∧ k = fs.length - a ∧ Ext noS G w q W ∧ Pin.le G9 q ∧ (a ≤ fs.length) ∧ (PoolOk (bkq nsB bsB)) ∧ (CnOk (bkq nsB bsB) atsB a fs) ∧ (nsB.length ≤ 3 * a) ∧ (Own eInt 3 q W w.heap.size atB (atsB)) ∧ (Own eNode 65 q W 0 uB (nsB)) ∧ (Own eInt 3 q W 0 vB (bsB)) ∧ (Bx q W ad [vN]) ∧ (Bx q W m [uB, vB]) ∧ (Apart atB.ownBlock uB.ownBlock) ∧ (Apart atB.ownBlock vB.ownBlock) ∧ (Apart atB.ownBlock (some ad)) ∧ (Apart atB.ownBlock (some m)) ∧ (Apart uB.ownBlock vB.ownBlock) ∧ (Apart uB.ownBlock (some ad)) ∧ (Apart uB.ownBlock (some m)) ∧ (Apart vB.ownBlock (some ad)) ∧ (Apart vB.ownBlock (some m)) ∧ (Lo w noS uB.ownBlock) ∧ (Lo w noS vB.ownBlock)) _ ⟨_, 0, a3, [], vN, vN, [], [], G9, (pS 5 (pS 4 (pS 3 (pS 2 (pU 1))))), rfl, c5, cJ _, cI _, (bkq_ok Ar.empty), CnOk.start, cH 0, da, (Own.nil _ _ _ _ _), (Own.nil _ _ _ _ _), c6, c7, apart_none.symm, apart_none.symm, c8, c9, apart_none, apart_none, apart_none, apart_none, apart_none, (kQ _ _), (kQ _ _)⟩ ?_)
 rintro ef _ a5 ⟨bn, a, atB, atsB, uB, vB, nsB, bsB, q, rfl, eg, ae, y, eh, hpoB, hcn, hblB, ao, bo, bp, bq, br, db, dc, bs, a6, bt, dd, bu, de, bv, df, dg⟩
 have hcl := hcn.len
 refine w9b ?_
 refine qM (vJ (a : Int)) ?_
 refine qD rfl (zH (k := 0) rfl dJ rfl nz30 rfl) (qD rfl (zJ (u := v) ag30 rfl ((cC ae.pins y) _ _ _ (a0 0 _ rfl))) (qD rfl (zM dF (v := v) rfl hv) (qD rfl (yU rfl rfl) (qe (zA ?_)))))
 refine yC (p := ((a : Int) : Int) < (fs.length : Int)) rfl rfl (fun dh => ?_) (fun dh => ?_)
 have oo := xB hf.opts (show a < fs.length by omega)
 have hfe := hf.lens a (by omega)
 have hil : ∀ i, i < (fs.getD a default).l.length → 0 ≤ (fs.getD a default).l.getD i 0 ∧ (fs.getD a default).l.getD i 0 < atsB.length := fun i hi => by have h := oo.1 _ (yE (d := (0 : Int)) hi); omega
 have hir : ∀ i, i < (fs.getD a default).r.length → 0 ≤ (fs.getD a default).r.getD i 0 ∧ (fs.getD a default).r.getD i 0 < atsB.length := fun i hi => by have h := oo.2 _ (yE (d := (0 : Int)) hi); omega
 refine cO (zA (zB ?_))
 refine zZ (yW (S := fun wz => Pins q wz) (last := 22) (by kernel_rfl) rfl ?_)
 have ab := bdr a5
 have b := ae.step (ae.pins.below ab) ab
 have a7 := ao.below ab
 have bw := bo.below ab
 have bz := bp.below ab
 have b0 := bq.below ab
 have b2 := br.below ab
 refine dM 0 atB b.pins ?_
 refine dM 1 (vP m) b.pins ?_
 refine dM 2 atB b.pins ?_
 refine dT (i := 3) rfl rfl (by kernel_rfl) (fun _ _ => zH (k := 0) rfl dJ rfl nz30 rfl) b.pins ?_
 refine dT (i := 4) rfl rfl (by kernel_rfl) (fun _ hS => zJ (u := v) ag30 rfl ((cC hS y) _ _ _ (a0 0 _ rfl))) b.pins ?_
 refine dM 5 (vJ (a : Int)) b.pins ?_
 refine dT (i := 6) rfl rfl (by kernel_rfl) (fun _ _ => zF dF sz65 (v := v) rfl rfl hv (by omega) (by omega)) b.pins ?_
 refine dT (i := 7) rfl rfl (by kernel_rfl) (fun _ _ => xC (off := 0) dG rfl rfl nz56 (z := (a : Int)) (k := 0) rfl hv (by omega) (by omega)) b.pins ?_
 obtain ⟨di, b3, dj⟩ := jZ (hv.at (z := (a : Int)) (by omega) (by omega)) (j := a) rfl
 have ei := b3.max
 refine dT (i := 8) rfl rfl (by kernel_rfl) (fun _ hS => dj ag56 rfl (cC hS (cB an y))) b.pins ?_
 refine dM 10 atB b.pins ?_
 refine dT (i := 11) rfl rfl (by kernel_rfl) (fun _ _ => zH (k := 0) rfl dJ rfl nz30 rfl) b.pins ?_
 refine dT (i := 12) rfl rfl (by kernel_rfl) (fun _ hS => zJ (u := v) ag30 rfl ((cC hS y) _ _ _ (a0 0 _ rfl))) b.pins ?_
 refine dM 13 (vJ (a : Int)) b.pins ?_
 refine dT (i := 14) rfl rfl (by kernel_rfl) (fun _ _ => zF dF sz65 (v := v) rfl rfl hv (by omega) (by omega)) b.pins ?_
 refine dT (i := 15) rfl rfl (by kernel_rfl) (fun _ _ => xC (off := 1) dG rfl rfl nz56 (z := (a : Int)) (k := 0) rfl hv (by omega) (by omega)) b.pins ?_
 obtain ⟨dk, b4, dl⟩ := jY (hv.at (z := (a : Int)) (by omega) (by omega)) (j := a) rfl
 have ej := b4.max
 refine dT (i := 16) rfl rfl (by kernel_rfl) (fun _ hS => dl ag56 rfl (cC hS (cB an y))) b.pins ?_
 refine dP (i := 9) rfl rfl (zL (vs := [atB, di]) Tryz.func58 nm58 rfl rfl rfl ?_)
 refine cD (jB b.pins (cM b.pins atB) a7.read (b3.mono (cB an y)) (by omega) hil) ?_
 rintro _ dm ⟨b5, dn, rfl, af, f⟩
 refine rt9 ?_
 have aj := b.tr f
 have a8 := a7.ext f
 have b6 := bw.ext f
 have b7 := bz.ext f
 have b8 := b0.ext f
 have b9 := b2.ext f
 have ca := af.weaken b.size
 refine ⟨fun _ => (cC aj.pins f.le), ?_⟩
 refine dP (i := 17) rfl rfl (zL (vs := [atB, dk]) Tryz.func58 nm58 rfl rfl rfl ?_)
 refine cD (jB aj.pins (cM aj.pins atB) a8.read (b4.mono (cB (cB an y) f.le)) (by omega) hir) ?_
 rintro _ dp ⟨cb, dq, rfl, ac, g⟩
 refine rt9 ?_
 have cc := aj.tr g
 have dr := ac.weaken aj.size
 refine ⟨fun _ => (cC cc.pins (cB f.le g.le)), ?_⟩
 obtain ⟨ek, s, ds, dt, ag⟩ := (ca.ext g).sealed cc
 obtain ⟨el, t, ap, du, ak⟩ := (dr.moreO s ag (zT ac.lt ca.lt)).sealed ds
 have a9 := ((a8.ext g).moreO s ag (zT af.lt a7.lt).symm).moreO t ak (zT ac.lt a8.lt).symm
 have ba := ((b8.ext g).moreO ag (yN af.lt b0.lt).symm).moreO ak (yN ac.lt b8.lt).symm
 refine dP (i := 18) rfl rfl (zL (vs := [vP m, b5, cb]) Tryz.func57 nm57 rfl rfl rfl ?_)
 refine cD (l6Node_spec ap.pins ⟨(((b9.ext g).moreO ag (yN af.lt b2.lt).symm).moreO ak (yN ac.lt b9.lt).symm), (((b6.ext g).moreO s ag (zT af.lt bw.lt).symm).moreO t ak (zT ac.lt b6.lt).symm), (((b7.ext g).moreO s ag (zT af.lt bz.lt).symm).moreO t ak (zT ac.lt b7.lt).symm), bu.symm, bv.symm, bt⟩ hpoB (dt.mono t) du (by omega) ⟨by rw [xG]; omega, by rw [xG]; omega⟩ (hcn.pl oo.1) (hcn.pl oo.2)) ?_
 rintro _ em ⟨o, al, dv, dw, dx, cd, rfl, ah, x, ce, aa, bb, bc⟩
 refine rt9 ?_
 have bd : ∀ i, inS m uB vB i → w.heap.size ≤ i ∨ noS i := fU (zS c1) df dg
 have aq := ap.trans aa bd
 have be := notS (u := uB) (v := vB) a6 db dc
 have cf := vO bb be (qG a9)
 have cg := vO bc be (qG a9)
 have bf := notS (u := uB) (v := vB) (zI (cgA some cz) bi.lt).symm dd.symm de.symm
 have dy := qJ bb bd ap.size
 have dz := qJ bc bd ap.size
 have eo : 0 ≤ o ∧ o < al.length := x.pl
 have ep := x.len
 have eq := x.ok.ar.ok.lim
 have hpz169l : (al.getD (o).toNat default).l.length ≤ 1048576 ∧ (al.getD (o).toNat default).r.length ≤ 1048576 := x.ok.ar.ok.lens (o).toNat (show (o).toNat < al.length by omega)
 refine ⟨fun _ => (cC aq.pins (cB (cB (cB (cB f.le g.le) s) t) aa.le)), ?_⟩
 refine dP (i := 19) rfl rfl (yV (E := eInt) (e := 3) [vJ o] [o] dE sz3 zr3 (by exact xP (by rfl)) (yZ (by rfl)) rfl rfl rfl rfl (by decide) aq.pins (fun ch d0 d1 d2 ai er => ?_))
 have au := aq.step d2 ai
 have ci := (a9.extS aa be).below ai
 have cj := ah.ou.below ai
 have ck := ah.ov.below ai
 have cl := (ba.extS aa (notSb bf)).below ai
 have cm := ah.bx.below ai
 have d3 := d1.weaken aq.size
 refine ⟨fun _ => (cC au.pins (cB (cB (cB (cB f.le g.le) s) t) aa.le)), ?_⟩
 refine dP (i := 20) rfl rfl (oA (E := eInt) (v := atB) (u := ch) 8 dE ap3 (by decide) rfl rfl au.pins ci d3.src (au.size) (fun cn es d4 d5 am av => ?_))
 have bg := au.write d5 am ((yD ci))
 have et := la1 atsB o
 refine ⟨fun _ => (cC bg.pins (cB (cB (cB (cB f.le g.le) s) t) aa.le)), ?_⟩
 refine dM 21 cn (cC bg.pins (cB (cB (cB (cB f.le g.le) s) t) aa.le)) ?_
 refine yL (by kernel_rfl) (w9c ?_)
 refine qM (vJ (a : Int)) ?_
 refine qD rfl (yH rfl rfl (by omega)) (qM (vJ ((a : Int) + 1)) ?_)
 refine qe (zV (⟨_, ?_, _, rfl, _, a + 1, cn, atsB ++ ([o]), dw, dx, al, dv, cd, (pS 5 (pS 4 (pS 3 (pS 2 (pU 1))))), rfl, bg, (cB (cB (cB (cB (cB y f.le) g.le) s) t) aa.le), (by omega), x.ok, (hcn.step x.px hpoB x.ok x.pl ce.1 (ce.2.trans (hcn.node hf.opts (by omega)))), (by have := x.len; omega), d4, (cj.keptA am cf.symm), (ck.keptA am cg.symm), (cl.keptA am bs.symm), (cm.keptA am a6.symm), (zD cf.symm av cj.lt).symm, (zD cg.symm av ck.lt).symm, (zK bs.symm av cl.lt).symm, (zK a6.symm av cm.lt).symm, ah.auv, (vO bb bf (fZ ba)).symm, ah.abu.symm, (vO bc bf (fZ ba)).symm, ah.abv.symm, dy, dz⟩))
 omega
 refine cQ (zX (yO (yK (w9a ?_))))
 have hkn : a = fs.length := by omega
 have hrt := hcn.at_ (fs.length - 1) (by omega)
 rw [show fs.length - 1 = ((atsB.length : Int) - 1).toNat by omega] at hrt
 have hgo : den fs ((atsB.length : Int) - 1).toNat = gOf fs := by unfold gOf; rw [show ((atsB.length : Int) - 1).toNat = fs.length - 1 by omega]
 rw [hgo] at hrt
 refine qM (vP m) ?_
 refine qM atB ?_
 refine qM atB ?_
 refine qD rfl (zM dE (v := atB) rfl ao.read) (qD rfl (xY rfl rfl (by omega)) (qD rfl (zF dE sz3 (v := atB) rfl rfl ao.read (by omega) (by omega)) (qD rfl (zG (r := atsB.getD ((atsB.length : Int) - 1).toNat 0) rfl ag3 (z := (atsB.length : Int) - 1) rfl ao.read (cM ae.pins atB) (by omega) (by omega)) (qI rfl (zL (vs := [vP m, vJ (atsB.getD ((atsB.length : Int) - 1).toNat 0)]) Tryz.func53 nm53 rfl rfl rfl ?_)))))
 refine cD (nF ae.pins ⟨br, bo, bp, bu.symm, bv.symm, bt⟩ hpoB.ar.ok hrt.1) ?_
 rintro _ eu ⟨aw, ev, rfl, co, cp⟩
 refine rt9 ?_
 have cq := ae.tr cp
 refine q0 rfl rfl rfl (o_stp (cs' := [aw]) (us := [aw]) (v := .agg #[aw]) sz32 rfl rfl rfl (yZ co.one) cq.pins (bq.ext cp) (cE rfl) rfl (fun ew d6 d7 d8 ex => ?_))
 refine qe (zA ?_)
 exact cP (zP (jQ (cs := [aw]) rfl rfl rfl ag32 sz32 (fun j u hj => by rw [cS]; exact d6.cell hj) (⟨_, _, _, rfl, hrt.2.1, hrt.2.2, form_is hpoB hrt.1, (by rw [← book_form hpoB hrt.1]; exact co), (cq.write d7 d8 ((zS cy)))⟩)))
end C63
namespace N1
open B1 C1 D1 E1
theorem pl77 : (Tryz.prog.underlying 77).bind (placesD Tryz.prog) = some [(0, 1), (1, 1)] := by kernel_rfl
theorem l3Part_spec {w : World} {G : Pin} {v : Value} {ns : List Nd} {z : Int} (hP : Pins G w) (hv : RSl eNode G v ns) (hf : FormOk ns) (hz : 0 ≤ z ∧ z < ns.length) :
  Calls Tryz.prog 71 [.agg #[v], vJ z].toArray w fun e w' => ∃ (u : Value) (G' : Pin), e = .returned (.agg #[u]) ∧ RSl eNode G' u (partS ns z) ∧ Ext noS G w G' w' := by
 refine zY (n := 18) Tryz.func71 Tryz.ntmps71 rfl rfl ?_
 have f := exr noS hP
 have hfl := hf.len
 have hao := fL qY hf (by simp; omega)
 have hal := hao.len
 refine w9d ?_
 refine qI rfl (xH [v] (v := .agg #[v]) rfl rfl f.pins (fun b1 w2 az ac ad ae => ?_))
 have af : w.heap.size ≤ b1 := by have := f.size; omega
 obtain ⟨G9, ag, g, ah, a1⟩ := ac.shut (f.step ad ae) af
 refine qI rfl (yI [vN] zr32 rfl g.pins (fun ai a2 a3 p aj ak => ?_))
 have k := g.step aj ak
 have al : w.heap.size ≤ ai := by have := g.size; omega
 refine qe (w9a ?_)
 refine qD rfl (yS [vN, vN] [vN, vN] [] dL zr77 rfl pl77 rfl (fun _ h => by cases h) rfl) (qI rfl (xH [vN, vN] (v := .agg #[vN, vN]) rfl rfl k.pins (fun a a4 am an ao q => ?_)))
 have c := k.step ao q
 have ap : w.heap.size ≤ a := by have := k.size; omega
 refine qM (vP a) ?_
 refine qe (w9a ?_)
 refine qM (vP a) ?_
 refine qD rfl (yA (cs := [v]) ag32 sz32 rfl (fun j u hj => c.pins _ _ _ (ah _ _ (by simpa using hj)))) (qI rfl (zL (vs := [vP a, .agg #[v]]) Tryz.func82 nm82 rfl rfl rfl ?_))
 refine cD (eT c.pins ⟨an, (Own.nil _ _ _ _ _), (Own.nil _ _ _ _ _), apart_none.symm, apart_none.symm, apart_none⟩ qY (hv.mono ag) hf (by first | omega | (simp; omega))) ?_
 rintro _ a5 ⟨l, a6, a7, a8, rfl, s, b, t, aq, ar⟩
 refine rt9 ?_
 have m : ∀ i, inS a vN vN i → w.heap.size ≤ i ∨ noS i := fU (zS ap) (kQ _ _) (kQ _ _)
 have o := c.trans t m
 have au := notS (u := vN) (v := vN) (zI (cgA some am) p.lt).symm apart_none.symm apart_none.symm
 have a9 := qJ aq m c.size
 have ba := qJ ar m c.size
 refine qM l ?_
 refine qe (w9a ?_)
 refine qM (vP a) ?_
 refine qM l ?_
 refine qM (vJ z) ?_
 refine qD rfl (zF dE sz3 (v := l) rfl rfl s (by omega) (by omega)) (qD rfl (zG (r := ((addM ([]) ([]) ns).1).getD (z).toNat 0) rfl ag3 (z := z) rfl s o.pins (by omega) (by omega)) (qI rfl (zL (vs := [vP a, vJ (((addM ([]) ([]) ns).1).getD (z).toNat 0)]) Tryz.func53 nm53 rfl rfl rfl ?_)))
 refine cD (nF o.pins ⟨b.bx, b.ou, b.ov, b.abu, b.abv, b.auv⟩ hao.book (hao.places _ (by omega))) ?_
 rintro _ bb ⟨d, bc, rfl, x, y⟩
 refine rt9 ?_
 have aa := o.tr y
 refine q0 rfl rfl rfl (o_stp (cs' := [d]) (us := [d]) (v := .agg #[d]) sz32 rfl rfl rfl (yZ x.one) aa.pins (((p.below q).extS t (notSb au)).ext y) (cE rfl) rfl (fun bd av aw ax be => ?_))
 refine qe (zA ?_)
 exact cP (zP (jQ (cs := [d]) rfl rfl rfl ag32 sz32 (fun j u hj => by rw [cS]; exact av.cell hj) (⟨_, _, rfl, x, (aa.write aw ax ((zS al)))⟩)))
end N1
namespace VB1
open B1 C1 D1 E1 K1 PO1 PL1 NU1 NU2 NU3 NB4
theorem eg27 : (Tryz.prog.eqGuardType Tryz.prog.depth 27) = false := by kernel_rfl
theorem pl27 : (Tryz.prog.underlying 27).bind (placesD Tryz.prog) = some [(0, 1), (1, 1)] := by kernel_rfl
theorem sh27 : (Tryz.prog.stoodInHeld 27) = false := by kernel_rfl
variable {G : Pin} {t z y : Int}
theorem qT {w : World} {s : Int} (hP : Pins G w) (ht : -10000000 ≤ t ∧ t ≤ 10000000) (hz : 0 ≤ z ∧ z ≤ 24) (hs : -10000000 ≤ s ∧ s ≤ 10000000) (hy : 0 ≤ y ∧ y ≤ 24) :
  Calls Tryz.prog 31 [.agg #[.int .i64 t, .int .i64 z], .agg #[.int .i64 s, .int .i64 y]].toArray w fun e w' => ∃ G', e = .returned (.bool (decide (scI 24 t z < scI 24 s y))) ∧ Ext noS G w G' w' := by
 refine zY (n := 10) Tryz.func31 Tryz.ntmps31 rfl rfl ?_
 have f := exr noS hP
 refine w9d ?_
 refine qI rfl (xH [.int .i64 t, .int .i64 z] (v := .agg #[.int .i64 t, .int .i64 z]) rfl rfl f.pins (fun o w2 ak p q r => ?_))
 have x : w.heap.size ≤ o := by have := f.size; omega
 obtain ⟨G9, am, g, aa, an⟩ := p.shut (f.step q r) x
 refine qI rfl (xH [.int .i64 s, .int .i64 y] (v := .agg #[.int .i64 s, .int .i64 y]) rfl rfl g.pins (fun ab h ao ac ad ae => ?_))
 have af : w.heap.size ≤ ab := by have := g.size; omega
 obtain ⟨ag, ah, l, ai, ap⟩ := ac.shut (g.step ad ae) af
 refine qM (.bool false) ?_
 refine qe (zA (zB ?_))
 refine yW (S := fun wz => Pins ag wz) (last := 6) (by kernel_rfl) rfl ?_
 have m := bdr h
 have b := l.step (l.pins.below m) m
 refine dT (i := 0) rfl rfl (by kernel_rfl) (fun _ hS => yA (cs := [.int .i64 t, .int .i64 z]) ag27 sz27 rfl (fun j u hj => (cC hS ah) _ _ _ (aa _ _ (by simpa using hj)))) b.pins ?_
 refine dT (i := 2) rfl rfl (by kernel_rfl) (fun _ hS => yA (cs := [.int .i64 s, .int .i64 y]) ag27 sz27 rfl (fun j u hj => hS _ _ _ (ai _ _ (by simpa using hj)))) b.pins ?_
 refine dP (i := 1) rfl rfl (zL (vs := [.agg #[.int .i64 t, .int .i64 z]]) Tryz.func47 nm47 rfl rfl rfl ?_)
 refine cD (qQ (t := t) (z := z) b.pins (by omega) (by omega)) ?_
 rintro _ aq ⟨ar, rfl, a⟩
 refine rt9 ?_
 have k := b.tr a
 refine ⟨fun _ => (cC k.pins a.le), ?_⟩
 refine dP (i := 3) rfl rfl (zL (vs := [.agg #[.int .i64 s, .int .i64 y]]) Tryz.func47 nm47 rfl rfl rfl ?_)
 refine cD (qQ (t := s) (z := y) k.pins (by omega) (by omega)) ?_
 rintro _ au ⟨av, rfl, c⟩
 refine rt9 ?_
 have d := k.tr c
 refine ⟨fun _ => (cC d.pins (cB a.le c.le)), ?_⟩
 refine dT (i := 4) rfl rfl (by kernel_rfl) (fun _ _ => yU rfl rfl) (cC d.pins (cB a.le c.le)) ?_
 refine dM 5 (.bool (decide ((scI 24 t z : Int) < (scI 24 s y)))) (cC d.pins (cB a.le c.le)) ?_
 exact yL (by kernel_rfl) (zA (cP (zP (zQ (v := .bool (decide ((scI 24 t z : Int) < (scI 24 s y)))) rfl rfl rfl (⟨_, rfl, d⟩)))))
theorem tH {w : World} (hP : Pins G w) :
  Calls Tryz.prog 100 [.agg #[vJ t, vJ z]].toArray w fun e w' => ∃ G', e = .returned (.tuple #[.agg #[.int .i64 (lowR (decP (GoodD t z)) t), .int .i64 (lowR (decP (GoodD t z)) z)], .bool (decP (GoodD t z))]) ∧ Ext noS G w G' w' := by
 refine zY (n := 9) Tryz.func100 Tryz.ntmps100 rfl rfl ?_
 have b := exr noS hP
 refine w9d ?_
 refine qI rfl (xH [vJ t, vJ z] (v := .agg #[vJ t, vJ z]) rfl rfl b.pins (fun m w2 ai o p q => ?_))
 have r : w.heap.size ≤ m := by have := b.size; omega
 obtain ⟨G9, ak, c, i, al⟩ := o.shut (b.step p q) r
 refine qI rfl (yI [vJ 0, vJ 0] zr27 rfl c.pins (fun s am an x y aa => ?_))
 have d := c.step y aa
 have k : w.heap.size ≤ s := by have := c.size; omega
 refine qM (.bool false) ?_
 refine qe (zA (w9b ?_))
 refine qD rfl (yA (cs := [vJ t, vJ z]) ag27 sz27 rfl (fun j u hj => d.pins _ _ _ (i _ _ (by simpa using hj)))) (qI rfl (zL (vs := [.agg #[vJ t, vJ z]]) Tryz.func33 nm33 rfl rfl rfl ?_))
 refine cD (nW (t := t) (z := z) d.pins) ?_
 rintro _ ao ⟨ap, rfl, f⟩
 refine rt9 ?_
 have a := d.tr f
 have l := x.ext f
 refine qD rfl (xD rfl) (qe (zA ?_))
 refine xU rfl rfl (fun g => ?_) (fun g => ?_)
 refine cO (w9a ?_)
 refine qD rfl (yA (cs := [vJ t, vJ z]) ag27 sz27 rfl (fun j u hj => (cC a.pins f.le) _ _ _ (i _ _ (by simpa using hj)))) (q0 rfl rfl rfl (o_stp (cs' := [vJ t, vJ z]) (us := [vJ t, vJ z]) (v := .agg #[vJ t, vJ z]) sz27 rfl rfl rfl (yQ (by rfl) (by rfl)) a.pins l (cE rfl) rfl (fun aq ab ac ad ar => ?_)))
 refine qM (.bool true) ?_
 refine qe (zA ?_)
 exact cP (zP (xF (cs := [vJ t, vJ z]) (v := .bool true) rfl rfl rfl rfl rfl ag27 sz27 (fun j u hj => by rw [cS]; exact ab.cell hj) (⟨_, by rw [g]; rfl, (a.write ac ad ((zS k)))⟩)))
 refine w9d ?_
 refine qD rfl (yS [vJ 0, vJ 0] [vJ 0, vJ 0] [] dH zr27 rfl pl27 rfl (fun _ h => by cases h) rfl) (q0 rfl rfl rfl (o_stp (cs' := [vJ 0, vJ 0]) (us := [vJ 0, vJ 0]) (v := .agg #[vJ 0, vJ 0]) sz27 rfl rfl rfl (yQ (by rfl) (by rfl)) a.pins l (cE rfl) rfl (fun au ae af ag av => ?_)))
 refine qM (.bool false) ?_
 refine qe (zA ?_)
 exact cP (zP (xF (cs := [vJ 0, vJ 0]) (v := .bool false) rfl rfl rfl rfl rfl ag27 sz27 (fun j u hj => by rw [cS]; exact ae.cell hj) (⟨_, by rw [g]; rfl, (a.write af ag ((zS k)))⟩)))
theorem vU {w : World} {s u : Int} {p : Nat} (hP : Pins G w) (hp : p ≤ 16) (hA : scI 24 t z = u * 2 ^ (24 - p)) (hB : scI 24 s y = (u + 1) * 2 ^ (24 - p)) (hgt : GoodD t z) (hgs : GoodD s y) (hu : 0 ≤ u) :
  Calls Tryz.prog 103 [.agg #[vJ t, vJ z], .agg #[vJ s, vJ y]].toArray w fun e w' => ∃ G', e = .returned (.agg #[.int .i64 (btT p u), .int .i64 (btP p)]) ∧ Ext noS G w G' w' := by
 refine zY (n := 57) Tryz.func103 Tryz.ntmps103 rfl rfl ?_
 have r := exr noS hP
 have htt := hgt.top
 have hzz := hgt.pow
 have hss := hgs.top
 have hyy := hgs.pow
 have b4 := scI_zero
 have hAl := vK (D := 24) (t := t) (z := z) (by omega) (by omega)
 have hBl := vK (D := 24) (t := s) (z := y) (by omega) (by omega)
 have am : 0 ≤ scI 24 t z := by rw [hA]; exact mul_nn hu
 have a8 : 0 < scI 24 s y := by rw [hB]; exact mul_ps (by omega)
 have hsy : ¬ ((s, y) : Int × Int) = (0, 0) := fun e => by have e1 := cgA Prod.fst e; have e2 := cgA Prod.snd e; simp only at e1 e2; rw [e1, e2] at a8; omega
 have hbn := bt_n (u := u) (p := p) (by omega)
 rw [← hA, ← hB] at hbn
 have hnt := bt_top (A := scI 24 t z) (pw := 0) am (by decide)
 rw [show (24 - ((0 : Nat) : Int)) = 24 from rfl] at hnt
 have b5 := hnt.1
 have hfl := floor_lim (t := t) (z := z) htt hzz.1
 refine w9d ?_
 refine qI rfl (xH [vJ t, vJ z] (v := .agg #[vJ t, vJ z]) rfl rfl r.pins (fun b1 w2 b7 a9 ba bb => ?_))
 have bc : w.heap.size ≤ b1 := by have := r.size; omega
 obtain ⟨G9, b9, x, aa, ca⟩ := a9.shut (r.step ba bb) bc
 refine qI rfl (xH [vJ s, vJ y] (v := .agg #[vJ s, vJ y]) rfl rfl x.pins (fun aq cb cc bd be bf => ?_))
 have bg : w.heap.size ≤ aq := by have := x.size; omega
 obtain ⟨cd, ab, ac, f, ce⟩ := bd.shut (x.step be bf) bg
 refine qI rfl (yI [vJ 0, vJ 0] zr27 rfl ac.pins (fun ad cf cg bh bi bj => ?_))
 have ae := ac.step bi bj
 have ar : w.heap.size ≤ ad := by have := ac.size; omega
 refine qe (zA (w9b ?_))
 refine qD rfl (yA (cs := [vJ s, vJ y]) ag27 sz27 rfl (fun j u hj => ae.pins _ _ _ (f _ _ (by simpa using hj)))) (qD rfl (yS [vJ 0, vJ 0] [vJ 0, vJ 0] [] dH zr27 rfl pl27 rfl (fun _ h => by cases h) rfl) (qI rfl (zL (vs := [.agg #[vJ s, vJ y], .agg #[vJ 0, vJ 0]]) Tryz.func31 nm31 rfl rfl rfl ?_)))
 refine cD (qT (t := s) (z := y) (s := 0) (y := 0) ae.pins (by omega) (by omega) (by omega) (by omega)) ?_
 rintro _ ch ⟨ci, rfl, a⟩
 refine rt9 ?_
 have g := ae.tr a
 refine qM (.bool (decide (scI 24 s y < scI 24 0 0))) ?_
 refine qbd (p := scI 24 s y < scI 24 0 0) (t := 11) rfl (fun bk => ?_) (fun bk => ?_)
 exfalso; omega
 refine qN (yA (cs := [vJ s, vJ y]) ag27 sz27 rfl (fun j u hj => (cC g.pins a.le) _ _ _ (f _ _ (by simpa using hj)))) ?_
 refine qN (yS [vJ 0, vJ 0] [vJ 0, vJ 0] [] dH zr27 rfl pl27 rfl (fun _ h => by cases h) rfl) ?_
 refine qN (mT dH (by decide) rfl rfl rfl rfl dS sh27 eg27 rfl rfl) ?_
 refine qD rfl (zU (v := .bool (decide (((s, y) : Int × Int) = (0, 0)))) rfl rfl) (qe (zA ?_))
 refine yC (p := ((s, y) : Int × Int) = (0, 0)) rfl rfl (fun au => ?_) (fun au => ?_)
 exact absurd au hsy
 refine cO (zA (w9b ?_))
 refine qD rfl (yA (cs := [vJ t, vJ z]) ag27 sz27 rfl (fun j u hj => (cC g.pins (cB ab a.le)) _ _ _ (aa _ _ (by simpa using hj)))) (qD rfl (yS [vJ 0, vJ 0] [vJ 0, vJ 0] [] dH zr27 rfl pl27 rfl (fun _ h => by cases h) rfl) (qI rfl (zL (vs := [.agg #[vJ t, vJ z], .agg #[vJ 0, vJ 0]]) Tryz.func31 nm31 rfl rfl rfl ?_)))
 refine cD (qT (t := t) (z := z) (s := 0) (y := 0) g.pins (by omega) (by omega) (by omega) (by omega)) ?_
 rintro _ cj ⟨ck, rfl, b⟩
 refine rt9 ?_
 have af := g.tr b
 refine qe (zA ?_)
 refine yC (p := scI 24 t z < scI 24 0 0) rfl rfl (fun bl => ?_) (fun bl => ?_)
 exfalso; omega
 refine cO (w9a ?_)
 refine qD rfl (yA (cs := [vJ t, vJ z]) ag27 sz27 rfl (fun j u hj => (cC af.pins (cB (cB ab a.le) b.le)) _ _ _ (aa _ _ (by simpa using hj)))) (qI rfl (zL (vs := [.agg #[vJ t, vJ z]]) Tryz.func114 nm114 rfl rfl rfl ?_))
 refine cD (l2Floor_spec (t := t) (z := z) af.pins (by omega) (by omega)) ?_
 rintro _ cl ⟨cm, rfl, c⟩
 refine rt9 ?_
 have ag := af.tr c
 have av := ((bh.ext a).ext b).ext c
 refine qD rfl (yH rfl rfl (by omega)) (qD rfl (yS [vJ 0, vJ 0] [vJ ((Int.fdiv (scI 24 t z) (2 ^ (min (24 : Int).toNat 64))) + 1), vJ 0] [(0, (vJ ((Int.fdiv (scI 24 t z) (2 ^ (min (24 : Int).toNat 64))) + 1)), [vJ ((Int.fdiv (scI 24 t z) (2 ^ (min (24 : Int).toNat 64))) + 1)])] dH zr27 rfl pl27 rfl (cN.2 ⟨rfl, (fun _ h => by cases h)⟩) rfl) (qI rfl (yI [vJ 0, vJ 0] zr27 rfl ag.pins (fun bm cn bn bo bp aw => ?_))))
 have ax := ag.step bp aw
 have ay := zI (cgA some bn) av.lt
 have az : w.heap.size ≤ bm := by have := ag.size; omega
 refine q0 rfl rfl rfl (o_stp (cs' := [vJ ((Int.fdiv (scI 24 t z) (2 ^ (min (24 : Int).toNat 64))) + 1), vJ 0]) (us := [vJ ((Int.fdiv (scI 24 t z) (2 ^ (min (24 : Int).toNat 64))) + 1), vJ 0]) (v := .agg #[vJ ((Int.fdiv (scI 24 t z) (2 ^ (min (24 : Int).toNat 64))) + 1), vJ 0]) sz27 rfl rfl rfl (yQ (by rfl) (by rfl)) ax.pins bo (cE rfl) rfl (fun co bq br a0 cp => ?_))
 obtain ⟨cq, ah, i, bs, bt⟩ := bq.shut (ax.write br a0 ((zS az))) az
 refine qe (zA (w9b ?_))
 refine qD rfl (yA (cs := [vJ ((Int.fdiv (scI 24 t z) (2 ^ (min (24 : Int).toNat 64))) + 1), vJ 0]) ag27 sz27 rfl (fun j u hj => i.pins _ _ _ (bs _ _ (by simpa using hj)))) (qD rfl (yA (cs := [vJ s, vJ y]) ag27 sz27 rfl (fun j u hj => (cC i.pins (cB (cB (cB a.le b.le) c.le) ah)) _ _ _ (f _ _ (by simpa using hj)))) (qI rfl (zL (vs := [.agg #[vJ ((Int.fdiv (scI 24 t z) (2 ^ (min (24 : Int).toNat 64))) + 1), vJ 0], .agg #[vJ s, vJ y]]) Tryz.func31 nm31 rfl rfl rfl ?_)))
 refine cD (qT (t := (Int.fdiv (scI 24 t z) (2 ^ (min (24 : Int).toNat 64))) + 1) (z := 0) (s := s) (y := y) i.pins (by omega) (by omega) (by omega) (by omega)) ?_
 rintro _ cr ⟨a1, rfl, l⟩
 refine rt9 (qe (zA ?_))
 refine yC (p := scI 24 ((Int.fdiv (scI 24 t z) (2 ^ (min (24 : Int).toNat 64))) + 1) 0 < scI 24 s y) rfl rfl (fun a2 => ?_) (fun a2 => ?_)
 exact absurd a2 hbn
 refine cO (zA (w9b ?_))
 refine qM (vJ 1) ?_
 refine qe (zA ?_)
 refine zZ (yR (fun k en W => ∃ (a3 : Nat → Value) (pw : Nat) (m : Pin), en = (upd (upd (upd (upd a3 2 (vP b1)) 3 (vP aq)) 4 (vP ad)) 6 (vJ (pw : Int))) ∧ k = 18 - pw ∧ Ext noS G w m W ∧ Pin.le a1 m ∧ (1 ≤ pw ∧ pw ≤ p + 1) ∧ (Bx m W ad [vJ 0, vJ 0])) _ ⟨_, 1, a1, (pS 6 (pS 4 (pS 3 (pU 2)))), rfl, (i.tr l), cJ _, ⟨cH 1, by omega⟩, ((((av.below aw).keptA a0 ay.symm).moreA bt ay.symm).ext l)⟩ ?_)
 rintro ct _ cu ⟨a3, pw, m, rfl, cv, d, ai, hpw, a4⟩
 refine w9b ?_
 refine qM (vJ (pw : Int)) ?_
 refine qD rfl (tR rfl rfl) (qe (zA ?_))
 refine yC (p := ((pw : Int) : Int) ≤ 16) rfl rfl (fun bu => ?_) (fun bu => ?_)
 have hbt := bt_top (A := scI 24 t z) (pw := pw) am (by omega)
 have cw := hbt.1
 have cx := hbt.2
 refine cO (zA (zB ?_))
 refine zZ (w9d ?_)
 refine qD rfl (yA (cs := [vJ t, vJ z]) ag27 sz27 rfl (fun j u hj => (cC d.pins (cB (cB (cB (cB (cB (cB ab a.le) b.le) c.le) ah) l.le) ai)) _ _ _ (aa _ _ (by simpa using hj)))) (qI rfl (zL (vs := [.agg #[vJ t, vJ z]]) Tryz.func47 nm47 rfl rfl rfl ?_))
 refine cD (qQ (t := t) (z := z) d.pins (by omega) (by omega)) ?_
 rintro _ cy ⟨cz, rfl, o⟩
 refine rt9 ?_
 have aj := d.tr o
 refine qM (vJ (pw : Int)) ?_
 refine qD rfl (xY rfl rfl (by omega)) (qD rfl (sO (j := 24 - (pw : Int)) dS Tryz.underlying109 rfl (nL (by omega))) (qD rfl (r_shrI rfl rfl (by omega)) (qD rfl (yH rfl rfl (by omega)) (qM (vJ ((Int.fdiv (scI 24 t z) (2 ^ (min (24 - (pw : Int) : Int).toNat 64))) + 1)) ?_))))
 refine qe (w9a ?_)
 refine qM (vJ ((Int.fdiv (scI 24 t z) (2 ^ (min (24 - (pw : Int) : Int).toNat 64))) + 1)) ?_
 refine qM (vJ (pw : Int)) ?_
 refine qD rfl (xY rfl rfl (by omega)) (qD rfl (sO (j := 24 - (pw : Int)) dS Tryz.underlying109 rfl (nL (by omega))) (qD rfl (r_shlI rfl rfl (by omega) (by omega)) (qD rfl (yA (cs := [vJ s, vJ y]) ag27 sz27 rfl (fun j u hj => (cC aj.pins (cB (cB (cB (cB (cB (cB a.le b.le) c.le) ah) l.le) ai) o.le)) _ _ _ (f _ _ (by simpa using hj)))) (qI rfl (zL (vs := [.agg #[vJ s, vJ y]]) Tryz.func47 nm47 rfl rfl rfl ?_)))))
 refine cD (qQ (t := s) (z := y) aj.pins (by omega) (by omega)) ?_
 rintro _ c0 ⟨bv, rfl, ak⟩
 refine rt9 ?_
 have al := aj.tr ak
 have a5 := (a4.ext o).ext ak
 refine qD rfl (yU rfl rfl) (qe (zA ?_))
 refine yC (p := (((Int.fdiv (scI 24 t z) (2 ^ (min (24 - (pw : Int) : Int).toNat 64))) + 1) * 2 ^ (24 - (pw : Int) : Int).toNat : Int) < (scI 24 s y)) rfl rfl (fun q => ?_) (fun q => ?_)
 refine w9d ?_
 refine qM (vJ ((Int.fdiv (scI 24 t z) (2 ^ (min (24 - (pw : Int) : Int).toNat 64))) + 1)) ?_
 refine qM (vJ (pw : Int)) ?_
 refine qI rfl (zL (vs := [vJ ((Int.fdiv (scI 24 t z) (2 ^ (min (24 - (pw : Int) : Int).toNat 64))) + 1), vJ (pw : Int)]) Tryz.func113 nm113 rfl rfl rfl ?_)
 refine cD (nV (p := pw) al.pins (by omega) (by omega)) ?_
 rintro _ c1 ⟨c2, rfl, a6⟩
 refine rt9 ?_
 have a7 := al.tr a6
 refine q0 rfl rfl rfl (o_stp (cs' := [vJ ((lowD pw ((Int.fdiv (scI 24 t z) (2 ^ (min (24 - (pw : Int) : Int).toNat 64))) + 1)).1), vJ (((lowD pw ((Int.fdiv (scI 24 t z) (2 ^ (min (24 - (pw : Int) : Int).toNat 64))) + 1)).2 : Nat) : Int)]) (us := [vJ ((lowD pw ((Int.fdiv (scI 24 t z) (2 ^ (min (24 - (pw : Int) : Int).toNat 64))) + 1)).1), vJ (((lowD pw ((Int.fdiv (scI 24 t z) (2 ^ (min (24 - (pw : Int) : Int).toNat 64))) + 1)).2 : Nat) : Int)]) (v := .agg #[vJ ((lowD pw ((Int.fdiv (scI 24 t z) (2 ^ (min (24 - (pw : Int) : Int).toNat 64))) + 1)).1), vJ (((lowD pw ((Int.fdiv (scI 24 t z) (2 ^ (min (24 - (pw : Int) : Int).toNat 64))) + 1)).2 : Nat) : Int)]) sz27 rfl rfl rfl (yQ (by rfl) (by rfl)) a7.pins (a5.ext a6) (cE rfl) rfl (fun c3 bw bx bz c4 => ?_))
 refine qe (zA ?_)
 refine cP (zP (jQ (cs := [vJ ((lowD pw ((Int.fdiv (scI 24 t z) (2 ^ (min (24 - (pw : Int) : Int).toNat 64))) + 1)).1), vJ (((lowD pw ((Int.fdiv (scI 24 t z) (2 ^ (min (24 - (pw : Int) : Int).toNat 64))) + 1)).2 : Nat) : Int)]) rfl rfl rfl ag27 sz27 (fun j u hj => by rw [cS]; exact bw.cell hj) ?_))
 have he : pw = p + 1 := Decidable.byContradiction fun hne => (bt_low (u := u) (p := p) (pw := pw) (by omega) (by omega)) (by rw [← hA, ← hB]; exact q)
 have hh := bt_hit (u := u) (p := p) (by omega)
 rw [← hA, ← he] at hh
 have hlo : lowD pw (2 * u + 1) = (2 * u + 1, pw) := by rw [he]; exact low_odd (by omega)
 exact ⟨_, by rw [hh.1, hlo]; unfold btT btP; rw [if_pos (by omega), if_pos (by omega), he]; rfl, (a7.write bx bz ((zS ar)))⟩
 refine cO (w9c ?_)
 refine qM (vJ (pw : Int)) ?_
 refine qD rfl (yH rfl rfl (by omega)) (qM (vJ ((pw : Int) + 1)) ?_)
 refine qe (zV (⟨_, ?_, _, rfl, _, pw + 1, bv, (pS 6 (pS 4 (pS 3 (pU 2)))), rfl, al, (cB (cB ai o.le) ak.le), (by by_cases he : pw = p + 1 <;> first | omega | (exfalso; subst he; have hh := bt_hit (u := u) (p := p) (by omega); rw [← hA, ← hB] at hh; rw [hh.1] at q; exact q hh.2)), a5⟩))
 omega
 refine cQ (zX (yO (yK (w9a ?_))))
 refine qD rfl (yS [vJ 0, vJ 0] [vJ 0, vJ 17] [(1, (vJ 17), [vJ 17])] dH zr27 rfl pl27 rfl (cN.2 ⟨rfl, (fun _ h => by cases h)⟩) rfl) (q0 rfl rfl rfl (o_stp (cs' := [vJ 0, vJ 17]) (us := [vJ 0, vJ 17]) (v := .agg #[vJ 0, vJ 17]) sz27 rfl rfl rfl (yQ (by rfl) (by rfl)) d.pins a4 (cE rfl) rfl (fun c5 b0 b2 b3 c6 => ?_)))
 refine qe (zA ?_)
 refine cP (zP (jQ (cs := [vJ 0, vJ 17]) rfl rfl rfl ag27 sz27 (fun j u hj => by rw [cS]; exact b0.cell hj) ?_))
 have c7 : p = 16 := by omega
 exact ⟨_, by unfold btT btP; rw [if_neg (by omega), if_neg (by omega)], (d.write b2 b3 ((zS ar)))⟩
end VB1
end Go.Proofs.YtakkjmlnmcemaaaGreatDoor
