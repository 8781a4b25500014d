/- Texts of this claim. -/
import Derived.Test.YtdleojbknkbpiaaGreatDoorFb6
import Derived.Test.YtdleojbknkbpiaaGreatDoorChecked
set_option maxRecDepth 20000
set_option maxHeartbeats 2000000
namespace Go.Proofs.YtdleojbknkbpiaaGreatDoor
open Go.RowKit Go.GL Go.Proofs
namespace LX8
open B1 C1 D1 E1 P1
variable {G : Pin} {u v x : Value} {ps : List Cl} {ns bs : List Nd}
theorem nB {w : World} {y : Value} {c d : Cl} (hP : Pins G w) :
  Calls Tryz.prog 23 [.agg #[vJ c.a, vJ c.b, u, v], .agg #[vJ d.a, vJ d.b, x, y]].toArray w fun e w' => ∃ G', e = .returned (.bool (decP (AheadP c d))) ∧ Ext noS G w G' w' := by
 refine yA (n := 24) Tryz.func23 Tryz.ntmps23 rfl rfl ?_
 have g := exr noS hP
 refine w9d ?_
 refine qI rfl (xH [vJ c.a, vJ c.b, u, v] (v := .agg #[vJ c.a, vJ c.b, u, v]) rfl rfl g.pins (fun m w2 aj o q r => ?_))
 have s := g.step q r
 have z : w.heap.size ≤ m := by have := g.size; omega
 obtain ⟨G9, al, h, i, am⟩ := o.shut s z
 refine qI rfl (xH [vJ d.a, vJ d.b, x, y] (v := .agg #[vJ d.a, vJ d.b, x, y]) rfl rfl h.pins (fun aa an ao ab ac ad => ?_))
 have ae := h.step ac ad
 have af : w.heap.size ≤ aa := by have := h.size; omega
 obtain ⟨ap, j, f, l, aq⟩ := ab.shut ae af
 refine qM (.bool false) ?_
 refine qe (w9a ?_)
 refine qD rfl (zK (k := 0) rfl dD rfl nz3 rfl) (qD rfl (zM (u := vJ c.a) ag3 rfl ((cB f.pins j) _ _ _ (i 0 _ rfl))) (qD rfl (zK (k := 0) rfl dD rfl nz3 rfl) (qD rfl (zM (u := vJ d.a) ag3 rfl (f.pins _ _ _ (l 0 _ rfl))) (qD rfl (yR rfl rfl) (qM (.bool (decide ((c.a : Int) < d.a))) ?_)))))
 refine qbd (p := (c.a : Int) < d.a) (t := 10) rfl (fun ag => ?_) (fun ag => ?_)
 refine qW ?_
 refine qW ?_
 refine qW ?_
 refine qW ?_
 refine qW ?_
 refine qW ?_
 refine qX ?_
 refine qX ?_
 refine qX ?_
 refine qX ?_
 refine qX ?_
 refine qW ?_
 refine qD rfl (yJ (v := .bool true) rfl rfl) (qM (.bool true) ?_)
 refine qe (zA ?_)
 refine cN (zQ (zS (v := .bool true) rfl rfl rfl (⟨_, cgA eB ?_, f⟩)))
 exact (decP_true.2 (by unfold AheadP; omega)).symm
 refine qN (zK (k := 0) rfl dD rfl nz3 rfl) ?_
 refine qN (zM (u := vJ c.a) ag3 rfl ((cB f.pins j) _ _ _ (i 0 _ rfl))) ?_
 refine qN (zK (k := 0) rfl dD rfl nz3 rfl) ?_
 refine qN (zM (u := vJ d.a) ag3 rfl (f.pins _ _ _ (l 0 _ rfl))) ?_
 refine qN (xY rfl rfl) ?_
 refine qN (zU (v := .bool (decide ((c.a : Int) = d.a))) rfl) ?_
 refine qbd (p := (c.a : Int) = d.a) (t := 16) rfl (fun ah => ?_) (fun ah => ?_)
 refine qN (zK (k := 1) rfl dD rfl nz3 rfl) ?_
 refine qN (zM (u := vJ c.b) ag3 rfl ((cB f.pins j) _ _ _ (i 1 _ rfl))) ?_
 refine qN (zK (k := 1) rfl dD rfl nz3 rfl) ?_
 refine qN (zM (u := vJ d.b) ag3 rfl (f.pins _ _ _ (l 1 _ rfl))) ?_
 refine qN (yR rfl rfl) ?_
 refine qN (yJ (v := .bool (decide ((c.b : Int) < d.b))) rfl rfl) ?_
 refine qD rfl (yH (v := .bool (decide ((c.b : Int) < d.b))) rfl rfl) (qM (.bool (decide ((c.b : Int) < d.b))) ?_)
 refine qe (zA ?_)
 refine cN (zQ (zS (v := .bool (decide ((c.b : Int) < d.b))) rfl rfl rfl (⟨_, cgA eB ?_, f⟩)))
 by_cases hc : c.b < d.b
 ·exact (decide_eq_true hc).trans (decP_true.2 (by unfold AheadP; omega)).symm
 ·exact (decide_eq_false hc).trans (decP_false.2 (by unfold AheadP; omega)).symm
 refine qW ?_
 refine qW ?_
 refine qW ?_
 refine qW ?_
 refine qW ?_
 refine qN (yH (v := .bool false) rfl rfl) ?_
 refine qD rfl (yH (v := .bool false) rfl rfl) (qM (.bool false) ?_)
 refine qe (zA ?_)
 refine cN (zQ (zS (v := .bool false) rfl rfl rfl (⟨_, cgA eB ?_, f⟩)))
 exact (decP_false.2 (by unfold AheadP; omega)).symm
theorem mZ {w : World} {kz : Int} (hP : Pins G w) (ha : RSl eNode G v ns) (hb : RSl eNode G x bs) (hu : RSl eClaim G u ps) (hk : 0 ≤ kz ∧ kz < ps.length) (hga : GoodP ns) (hgb : GoodP bs) (hra : 0 ≤ (ps.getD kz.toNat default).a ∧ (ps.getD kz.toNat default).a < ns.length) (hrb : 0 ≤ (ps.getD kz.toNat default).b ∧ (ps.getD kz.toNat default).b < bs.length) :
  Calls Tryz.prog 24 [.agg #[v], .agg #[x], .agg #[u], vJ kz].toArray w fun e w' => ∃ G', e = .returned (.bool (decP (RightP ns bs ps kz.toNat))) ∧ Ext noS G w G' w' := by
 refine yA (n := 119) Tryz.func24 Tryz.ntmps24 rfl rfl ?_
 have az := exr noS hP
 have hmu := hu.max
 refine w9d ?_
 refine qI rfl (xH [v] (v := .agg #[v]) rfl rfl az.pins (fun b1 w2 c2 bl bm bn => ?_))
 have bo := az.step bm bn
 have bp : w.heap.size ≤ b1 := by have := az.size; omega
 obtain ⟨G9, ab, a1, a2, c4⟩ := bl.shut bo bp
 refine qI rfl (xH [x] (v := .agg #[x]) rfl rfl a1.pins (fun a3 c5 c6 bq br bt => ?_))
 have bu := a1.step br bt
 have bv : w.heap.size ≤ a3 := by have := a1.size; omega
 obtain ⟨c7, aa, a4, a5, c8⟩ := bq.shut bu bv
 refine qI rfl (xH [u] (v := .agg #[u]) rfl rfl a4.pins (fun a6 c9 da bw bx bz => ?_))
 have b0 := a4.step bx bz
 have b2 : w.heap.size ≤ a6 := by have := a4.size; omega
 obtain ⟨db, s, ao, a7, dc⟩ := bw.shut b0 b2
 refine qM (.bool false) ?_
 refine qe (w9a ?_)
 refine qD rfl (zK (k := 0) rfl dI rfl nz27 rfl) (qD rfl (zM (u := u) ag27 rfl (ao.pins _ _ _ (a7 0 _ rfl))) (qM (vJ kz) ?_))
 refine qD rfl (zI dG sz53 (v := u) rfl rfl hu (by omega) (by omega)) ?_
 obtain ⟨dd, b3, b4, de⟩ := xX (j := (kz).toNat) default (hu.at (z := kz) (by omega) (by omega)) rfl
 obtain ⟨ae, af, rfl, ai, aj⟩ := b3
 have df := ai.max
 have dg := aj.max
 refine qD rfl (b4 ag53 sz53 rfl (cB ao.pins (cA (cA ab aa) s))) (qI rfl (yN [vJ 0, vJ 0, vN, vN] zr53 rfl ao.pins (fun a8 dh di b5 b6 b7 => ?_)))
 have bf := ao.step b6 b7
 have bg : w.heap.size ≤ a8 := by have := ao.size; omega
 refine q0 rfl rfl rfl (o_stp (cs' := [vJ ((ps.getD (kz).toNat default).a), vJ ((ps.getD (kz).toNat default).b), ae, af]) (us := [vJ ((ps.getD (kz).toNat default).a), vJ ((ps.getD (kz).toNat default).b), ae, af]) (v := .agg #[vJ ((ps.getD (kz).toNat default).a), vJ ((ps.getD (kz).toNat default).b), ae, af]) sz53 rfl rfl rfl (gO (by rfl) (by rfl) ai.one aj.one) bf.pins b5 (cD rfl) rfl (fun a9 b8 b9 ca dj => ?_))
 have cb := bf.write b9 ca ((zW bg))
 obtain ⟨ba, o, bh, ad, dk⟩ := b8.shut cb bg
 refine qe (zA (zB ?_))
 refine yQ (S := fun wz => Pins ba wz) (last := 16) (by kernel_rfl) rfl ?_
 have bi := bdr a9
 have cc := bh.pins.below bi
 have y := bh.step cc bi
 refine dT (i := 0) rfl rfl (by kernel_rfl) (fun _ _ => zK (k := 0) rfl dE rfl nz24 rfl) y.pins ?_
 refine dT (i := 1) rfl rfl (by kernel_rfl) (fun _ hS => zM (u := v) ag24 rfl ((cB hS (cA (cA aa s) o)) _ _ _ (a2 0 _ rfl))) y.pins ?_
 refine dT (i := 2) rfl rfl (by kernel_rfl) (fun _ _ => zK (k := 0) rfl dD rfl nz3 rfl) y.pins ?_
 refine dT (i := 3) rfl rfl (by kernel_rfl) (fun _ hS => zM (u := vJ ((ps.getD (kz).toNat default).a)) ag3 rfl (hS _ _ _ (ad 0 _ rfl))) y.pins ?_
 refine dT (i := 4) rfl rfl (by kernel_rfl) (fun _ _ => zI dC sz76 (v := v) rfl rfl ha (by omega) (by omega)) y.pins ?_
 refine dT (i := 5) rfl rfl (by kernel_rfl) (fun _ _ => yI (off := 1) dF rfl rfl nz40 (z := (ps.getD (kz).toNat default).a) (k := 0) rfl ha (by omega) (by omega)) y.pins ?_
 obtain ⟨ah, ap, cd⟩ := qV (ha.at (z := (ps.getD (kz).toNat default).a) (by omega) (by omega)) (j := ((ps.getD (kz).toNat default).a).toNat) rfl
 have dl := ap.max
 refine dT (i := 6) rfl rfl (by kernel_rfl) (fun _ hS => cd ag40 rfl (cB hS (cA (cA (cA ab aa) s) o))) y.pins ?_
 refine dT (i := 7) rfl rfl (by kernel_rfl) (fun _ _ => zK (k := 0) rfl dE rfl nz24 rfl) y.pins ?_
 refine dT (i := 8) rfl rfl (by kernel_rfl) (fun _ hS => zM (u := x) ag24 rfl ((cB hS (cA s o)) _ _ _ (a5 0 _ rfl))) y.pins ?_
 refine dT (i := 9) rfl rfl (by kernel_rfl) (fun _ _ => zK (k := 1) rfl dD rfl nz3 rfl) y.pins ?_
 refine dT (i := 10) rfl rfl (by kernel_rfl) (fun _ hS => zM (u := vJ ((ps.getD (kz).toNat default).b)) ag3 rfl (hS _ _ _ (ad 1 _ rfl))) y.pins ?_
 refine dT (i := 11) rfl rfl (by kernel_rfl) (fun _ _ => zI dC sz76 (v := x) rfl rfl hb (by omega) (by omega)) y.pins ?_
 refine dT (i := 12) rfl rfl (by kernel_rfl) (fun _ _ => yI (off := 0) dF rfl rfl nz40 (z := (ps.getD (kz).toNat default).b) (k := 0) rfl hb (by omega) (by omega)) y.pins ?_
 obtain ⟨ag, aq, ce⟩ := jC (hb.at (z := (ps.getD (kz).toNat default).b) (by omega) (by omega)) (j := ((ps.getD (kz).toNat default).b).toNat) rfl
 have dm := aq.max
 refine dT (i := 13) rfl rfl (by kernel_rfl) (fun _ hS => ce ag40 rfl (cB hS (cA (cA (cA ab aa) s) o))) y.pins ?_
 refine dM 14 ah y.pins ?_
 refine dM 15 ag y.pins ?_
 refine zY (by kernel_rfl) (zA (w9b ?_))
 refine qD rfl (zK (k := 2) rfl dD rfl nz40 rfl) (qD rfl (zM (u := ae) ag40 rfl (y.pins _ _ _ (ad 2 _ rfl))) (qD rfl (run_len dB (v := ae) rfl ai) (qM ah ?_)))
 refine qD rfl (run_len dB (v := ah) rfl ap) (qD rfl (jU rfl rfl) (qM (.bool (decide (((((ps.getD (kz).toNat default).r).length : Int) : Int) ≠ (((ns.getD ((ps.getD (kz).toNat default).a).toNat default).r).length : Int)))) ?_))
 refine qbd (p := ((((ps.getD (kz).toNat default).r).length : Int) : Int) ≠ (((ns.getD ((ps.getD (kz).toNat default).a).toNat default).r).length : Int)) (t := 39) rfl (fun cf => ?_) (fun cf => ?_)
 refine qW ?_
 refine qW ?_
 refine qW ?_
 refine qW ?_
 refine qW ?_
 refine qW ?_
 refine qD rfl (yJ (v := .bool true) rfl rfl) (qe (zA ?_))
 refine xW rfl rfl (w9d ?_)
 refine qM (.bool false) ?_
 refine qe (zA ?_)
 exact cN (zQ (zS (v := .bool false) rfl rfl rfl (⟨_, cgA eB (decP_false.2 (fun g => by have h3 := g.hr; have h4 := g.hl; omega)).symm, y⟩)))
 refine qN (zK (k := 3) rfl dD rfl nz40 rfl) ?_
 refine qN (zM (u := af) ag40 rfl (y.pins _ _ _ (ad 3 _ rfl))) ?_
 refine qN (run_len dB (v := af) rfl aj) ?_
 refine qN (zU (v := ag) rfl) ?_
 refine qN (run_len dB (v := ag) rfl aq) ?_
 refine qN (jU rfl rfl) ?_
 refine qD rfl (yH (v := .bool (decide (((((ps.getD (kz).toNat default).l).length : Int) : Int) ≠ (((bs.getD ((ps.getD (kz).toNat default).b).toNat default).l).length : Int)))) rfl rfl) (qe (zA ?_))
 refine yE (p := ((((ps.getD (kz).toNat default).l).length : Int) : Int) ≠ (((bs.getD ((ps.getD (kz).toNat default).b).toNat default).l).length : Int)) rfl rfl (fun ch => ?_) (fun ch => ?_)
 refine w9d ?_
 refine qM (.bool false) ?_
 refine qe (zA ?_)
 exact cN (zQ (zS (v := .bool false) rfl rfl rfl (⟨_, cgA eB (decP_false.2 (fun g => by have h3 := g.hr; have h4 := g.hl; omega)).symm, y⟩)))
 refine cM (zA (w9b ?_))
 refine qM (vJ 0) ?_
 refine qe (zA ?_)
 refine zX (yO (fun k en W => ∃ (au : Nat → Value) (i : Nat) (GLi : Pin), en = (upd (upd (upd (upd (upd (upd (upd (upd au 3 (vJ kz)) 4 (vP b1)) 5 (vP a3)) 6 (vP a6)) 9 (vP a8)) 10 ah) 11 ag) 12 (vJ (i : Int))) ∧ k = (ns.getD (ps.getD kz.toNat default).a.toNat default).r.length - i ∧ Ext noS G w GLi W ∧ Pin.le ba GLi ∧ (i ≤ (ns.getD (ps.getD kz.toNat default).a.toNat default).r.length) ∧ (∀ q, q < i → (0 ≤ (ps.getD kz.toNat default).r.getD q 0 ∧ (ps.getD kz.toNat default).r.getD q 0 ≤ kz - 1) ∧ prC (ps.getD ((ps.getD kz.toNat default).r.getD q 0).toNat default) ∈ rightsP ns bs ((ns.getD (ps.getD kz.toNat default).a.toNat default).r.getD q 0) (ps.getD kz.toNat default).b)) _ ⟨_, 0, ba, (pS 12 (pS 11 (pS 10 (pS 9 (pS 6 (pS 5 (pS 4 (pU 3)))))))), rfl, y, cI _, cH _, (fun i hi => absurd hi (cJ i))⟩ ?_)
 rintro dn _ bb ⟨au, i, GLi, rfl, dp, bc, m, hji, hpi⟩
 refine w9b ?_
 refine qM (vJ (i : Int)) ?_
 refine qM ah ?_
 refine qD rfl (run_len dB (v := ah) rfl ap) (qD rfl (yR rfl rfl) (qe (zA ?_)))
 refine yE (p := ((i : Int) : Int) < (((ns.getD ((ps.getD (kz).toNat default).a).toNat default).r).length : Int)) rfl rfl (fun ci => ?_) (fun ci => ?_)
 have hki := hga.optsOk.right (j := (ps.getD kz.toNat default).a.toNat) (i := i) (by omega) (by omega)
 refine cM (zA (zB ?_))
 refine zX (zB (yQ (S := fun wz => Pins GLi wz) (last := 30) (by kernel_rfl) rfl ?_))
 have bj := bdr bb
 have cj := bc.pins.below bj
 have d := bc.step cj bj
 refine dT (i := 0) rfl rfl (by kernel_rfl) (fun _ _ => zK (k := 2) rfl dD rfl nz40 rfl) d.pins ?_
 refine dT (i := 1) rfl rfl (by kernel_rfl) (fun _ hS => zM (u := ae) ag40 rfl ((cB hS m) _ _ _ (ad 2 _ rfl))) d.pins ?_
 refine dM 2 (vJ (i : Int)) d.pins ?_
 refine dT (i := 3) rfl rfl (by kernel_rfl) (fun _ _ => zI dB sz3 (v := ae) rfl rfl ai (by omega) (by omega)) d.pins ?_
 refine dT (i := 4) rfl rfl (by kernel_rfl) (fun _ hS => zN (r := ((ps.getD (kz).toNat default).r).getD i 0) rfl ag3 (z := (i : Int)) rfl ai (cB hS (cA (cA (cA (cA ab aa) s) o) m)) (by omega) (by omega)) d.pins ?_
 refine dM 5 (vJ kz) d.pins ?_
 refine dT (i := 6) rfl rfl (by kernel_rfl) (fun _ _ => xR rfl rfl (by omega)) d.pins ?_
 refine dP (i := 7) rfl rfl (zO (vs := [vJ (((ps.getD (kz).toNat default).r).getD i 0), vJ 0, vJ (kz - 1)]) Tryz.func22 nm22 rfl rfl rfl ?_)
 refine cC (jJ d.pins) ?_
 rintro _ _ ⟨rfl, rfl⟩
 refine rt9 (⟨fun _ => d.pins, ?_⟩)
 refine dT (i := 8) rfl rfl (by kernel_rfl) (fun _ _ => xM rfl) d.pins ?_
 refine dM 9 (.bool (!(decide ((0 : Int) ≤ (((ps.getD (kz).toNat default).r).getD i 0) ∧ (((ps.getD (kz).toNat default).r).getD i 0 : Int) ≤ (kz - 1))))) d.pins ?_
 refine drbn (t := 62) rfl (fun ak => ?_) (fun ak => ?_)
 replace ak := of_decide_eq_true ak
 refine zH (i := 10) rfl rfl rfl (zE rfl rfl rfl rfl) (by kernel_rfl) (fun _ hS => zR (cs := [v]) ag26 sz26 rfl (fun j u hj => (cB hS (cA (cA (cA aa s) o) m)) _ _ _ (a2 _ _ (by simpa using hj)))) d.pins (zH (i := 11) rfl rfl rfl (zE rfl rfl rfl rfl) (by kernel_rfl) (fun _ hS => zR (cs := [x]) ag26 sz26 rfl (fun j u hj => (cB hS (cA (cA s o) m)) _ _ _ (a5 _ _ (by simpa using hj)))) d.pins (zH (i := 12) rfl rfl rfl (zE rfl rfl rfl rfl) (by kernel_rfl) (fun _ _ => zU (v := ah) rfl) d.pins (zH (i := 13) rfl rfl rfl (zE rfl rfl rfl rfl) (by kernel_rfl) (fun _ _ => zU (v := vJ (i : Int)) rfl) d.pins (zH (i := 14) rfl rfl rfl (zE rfl rfl rfl rfl) (by kernel_rfl) (fun _ _ => zI dB sz3 (v := ah) rfl rfl ap (by omega) (by omega)) d.pins (zH (i := 15) rfl rfl rfl (zE rfl rfl rfl rfl) (by kernel_rfl) (fun _ hS => zN (r := ((ns.getD ((ps.getD (kz).toNat default).a).toNat default).r).getD i 0) rfl ag3 (z := (i : Int)) rfl ap (cB hS (cA (cA (cA (cA ab aa) s) o) m)) (by omega) (by omega)) d.pins (zH (i := 16) rfl rfl rfl (zE rfl rfl rfl rfl) (by kernel_rfl) (fun _ _ => zK (k := 0) rfl dI rfl nz27 rfl) d.pins (zH (i := 17) rfl rfl rfl (zE rfl rfl rfl rfl) (by kernel_rfl) (fun _ hS => zM (u := u) ag27 rfl ((cB hS (cA o m)) _ _ _ (a7 0 _ rfl))) d.pins (zH (i := 18) rfl rfl rfl (zE rfl rfl rfl rfl) (by kernel_rfl) (fun _ _ => zK (k := 2) rfl dD rfl nz40 rfl) d.pins (zH (i := 19) rfl rfl rfl (zE rfl rfl rfl rfl) (by kernel_rfl) (fun _ hS => zM (u := ae) ag40 rfl ((cB hS m) _ _ _ (ad 2 _ rfl))) d.pins (zH (i := 20) rfl rfl rfl (zE rfl rfl rfl rfl) (by kernel_rfl) (fun _ _ => zU (v := vJ (i : Int)) rfl) d.pins (zH (i := 21) rfl rfl rfl (zE rfl rfl rfl rfl) (by kernel_rfl) (fun _ _ => zI dB sz3 (v := ae) rfl rfl ai (by omega) (by omega)) d.pins (zH (i := 22) rfl rfl rfl (zE rfl rfl rfl rfl) (by kernel_rfl) (fun _ hS => zN (r := ((ps.getD (kz).toNat default).r).getD i 0) rfl ag3 (z := (i : Int)) rfl ai (cB hS (cA (cA (cA (cA ab aa) s) o) m)) (by omega) (by omega)) d.pins (zH (i := 23) rfl rfl rfl (zE rfl rfl rfl rfl) (by kernel_rfl) (fun _ _ => zI dG sz53 (v := u) rfl rfl hu (by omega) (by omega)) d.pins ?_)))))))))))))
 obtain ⟨dq, ck, cl, dr⟩ := xX (j := (((ps.getD (kz).toNat default).r).getD i 0).toNat) default (hu.at (z := ((ps.getD (kz).toNat default).r).getD i 0) (by omega) (by omega)) rfl
 obtain ⟨cm, cn, rfl, co, cp⟩ := ck
 have ds := co.max
 have dt := cp.max
 refine zH (i := 24) rfl rfl rfl (zE rfl rfl rfl rfl) (by kernel_rfl) (fun _ hS => cl ag53 sz53 rfl (cB hS (cA (cA (cA (cA ab aa) s) o) m))) d.pins (zH (i := 25) rfl rfl rfl (zE rfl rfl rfl rfl) (by kernel_rfl) (fun _ _ => zK (k := 1) rfl dD rfl nz3 rfl) d.pins (zH (i := 26) rfl rfl rfl (zE rfl rfl rfl rfl) (by kernel_rfl) (fun _ hS => zM (u := vJ ((ps.getD (kz).toNat default).b)) ag3 rfl ((cB hS m) _ _ _ (ad 1 _ rfl))) d.pins ?_))
 refine dO (i := 27) (kC (i := 27) rfl rfl rfl (zE rfl rfl rfl rfl) (zO (vs := [.agg #[v], .agg #[x], vJ (((ns.getD ((ps.getD (kz).toNat default).a).toNat default).r).getD i 0), .agg #[vJ ((ps.getD (((ps.getD (kz).toNat default).r).getD i 0).toNat default).a), vJ ((ps.getD (((ps.getD (kz).toNat default).r).getD i 0).toNat default).b), cm, cn], vJ ((ps.getD (kz).toNat default).b)]) Tryz.func53 nm53 rfl rfl rfl ?_))
 refine cC (fV (c := ps.getD (((ps.getD (kz).toNat default).r).getD i 0).toNat default) d.pins (ha.mono (cA (cA (cA (cA ab aa) s) o) m)) (hb.mono (cA (cA (cA (cA ab aa) s) o) m)) (by omega) (by omega)) ?_
 rintro _ du ⟨cq, rfl, av⟩
 refine rt9 ?_
 have aw := d.tr av
 refine ⟨fun _ => (cB aw.pins av.le), ?_⟩
 refine zH (i := 28) rfl rfl rfl (zE rfl rfl rfl rfl) (by kernel_rfl) (fun _ _ => xM rfl) (cB aw.pins av.le) (dT (i := 29) rfl rfl (by kernel_rfl) (fun _ _ => yH (v := .bool (!(decide (((ps.getD (((ps.getD (kz).toNat default).r).getD i 0).toNat default).a, (ps.getD (((ps.getD (kz).toNat default).r).getD i 0).toNat default).b) ∈ rightsP ns bs (((ns.getD ((ps.getD (kz).toNat default).a).toNat default).r).getD i 0) ((ps.getD (kz).toNat default).b))))) rfl rfl) (cB aw.pins av.le) ?_)
 refine zY (by kernel_rfl) (zA (qQ rfl rfl (fun al => ?_) (fun al => ?_)))
 replace al := of_decide_eq_true al
 refine cM (w9c ?_)
 refine qM (vJ (i : Int)) ?_
 refine qD rfl (yP rfl rfl (by omega)) (qM (vJ ((i : Int) + 1)) ?_)
 refine qe (yK (⟨_, ?_, _, rfl, _, i + 1, cq, (pS 12 (pS 11 (pS 10 (pS 9 (pS 6 (pS 5 (pS 4 (pU 3)))))))), rfl, aw, (cA m av.le), (by omega), (fun q hq => if h3 : q = i then h3 ▸ ⟨ak, al⟩ else hpi q (by omega))⟩))
 omega
 replace al := of_decide_eq_false al
 refine w9d ?_
 refine qM (.bool false) ?_
 refine qe (zA ?_)
 exact cN (zQ (zS (v := .bool false) rfl rfl rfl (⟨_, cgA eB (decP_false.2 (fun g => al (by have a := g.rr i (by omega); first | exact a.2 | (have b := a.1; omega)))).symm, aw⟩)))
 replace ak := of_decide_eq_false ak
 refine zD (i := 10) rfl rfl (zG rfl rfl rfl rfl rfl) (by kernel_rfl) d.pins (zD (i := 11) rfl rfl (zG rfl rfl rfl rfl rfl) (by kernel_rfl) d.pins (zD (i := 12) rfl rfl (zG rfl rfl rfl rfl rfl) (by kernel_rfl) d.pins (zD (i := 13) rfl rfl (zG rfl rfl rfl rfl rfl) (by kernel_rfl) d.pins (zD (i := 14) rfl rfl (zG rfl rfl rfl rfl rfl) (by kernel_rfl) d.pins (zD (i := 15) rfl rfl (zG rfl rfl rfl rfl rfl) (by kernel_rfl) d.pins (zD (i := 16) rfl rfl (zG rfl rfl rfl rfl rfl) (by kernel_rfl) d.pins (zD (i := 17) rfl rfl (zG rfl rfl rfl rfl rfl) (by kernel_rfl) d.pins (zD (i := 18) rfl rfl (zG rfl rfl rfl rfl rfl) (by kernel_rfl) d.pins (zD (i := 19) rfl rfl (zG rfl rfl rfl rfl rfl) (by kernel_rfl) d.pins (zD (i := 20) rfl rfl (zG rfl rfl rfl rfl rfl) (by kernel_rfl) d.pins (zD (i := 21) rfl rfl (zG rfl rfl rfl rfl rfl) (by kernel_rfl) d.pins (zD (i := 22) rfl rfl (zG rfl rfl rfl rfl rfl) (by kernel_rfl) d.pins (zD (i := 23) rfl rfl (zG rfl rfl rfl rfl rfl) (by kernel_rfl) d.pins (zD (i := 24) rfl rfl (zG rfl rfl rfl rfl rfl) (by kernel_rfl) d.pins (zD (i := 25) rfl rfl (zG rfl rfl rfl rfl rfl) (by kernel_rfl) d.pins (zD (i := 26) rfl rfl (zG rfl rfl rfl rfl rfl) (by kernel_rfl) d.pins (zD (i := 27) rfl rfl (zG rfl rfl rfl rfl rfl) (by kernel_rfl) d.pins (zD (i := 28) rfl rfl (zG rfl rfl rfl rfl rfl) (by kernel_rfl) d.pins (dT (i := 29) rfl rfl (by kernel_rfl) (fun _ _ => yJ (v := .bool true) rfl rfl) d.pins ?_)))))))))))))))))))
 refine zY (by kernel_rfl) (zA (xW rfl rfl (w9d ?_)))
 refine qM (.bool false) ?_
 refine qe (zA ?_)
 exact cN (zQ (zS (v := .bool false) rfl rfl rfl (⟨_, cgA eB (decP_false.2 (fun g => ak (by have a := g.rr i (by omega); first | exact a.2 | (have b := a.1; omega)))).symm, d⟩)))
 refine cO (zZ (yM (yL (zA (w9b ?_)))))
 refine qM (vJ 0) ?_
 refine qe (zA ?_)
 refine zX (yO (fun k en W => ∃ (au : Nat → Value) (j : Nat) (GLj : Pin), en = (upd (upd (upd (upd (upd (upd (upd au 3 (vJ kz)) 4 (vP b1)) 5 (vP a3)) 6 (vP a6)) 9 (vP a8)) 11 ag) 13 (vJ (j : Int))) ∧ k = (bs.getD (ps.getD kz.toNat default).b.toNat default).l.length - j ∧ Ext noS G w GLj W ∧ Pin.le GLi GLj ∧ (j ≤ (bs.getD (ps.getD kz.toNat default).b.toNat default).l.length) ∧ (∀ q, q < j → (0 ≤ (ps.getD kz.toNat default).l.getD q 0 ∧ (ps.getD kz.toNat default).l.getD q 0 ≤ kz - 1) ∧ prC (ps.getD ((ps.getD kz.toNat default).l.getD q 0).toNat default) ∈ leftsP ns bs (ps.getD kz.toNat default).a ((bs.getD (ps.getD kz.toNat default).b.toNat default).l.getD q 0))) _ ⟨_, 0, GLi, (pS 13 (pS 11 (pS 9 (pS 6 (pS 5 (pS 4 (pU 3))))))), rfl, bc, cI _, cH _, (fun i hi => absurd hi (cJ i))⟩ ?_)
 rintro dv _ bd ⟨au, j, GLj, rfl, dw, be, ac, hjj, hpj⟩
 refine w9b ?_
 refine qM (vJ (j : Int)) ?_
 refine qM ag ?_
 refine qD rfl (run_len dB (v := ag) rfl aq) (qD rfl (yR rfl rfl) (qe (zA ?_)))
 refine yE (p := ((j : Int) : Int) < (((bs.getD ((ps.getD (kz).toNat default).b).toNat default).l).length : Int)) rfl rfl (fun cr => ?_) (fun cr => ?_)
 have hki := hgb.optsOk.left (j := (ps.getD kz.toNat default).b.toNat) (i := j) (by omega) (by omega)
 refine cM (zA (zB ?_))
 refine zX (zB (yQ (S := fun wz => Pins GLj wz) (last := 30) (by kernel_rfl) rfl ?_))
 have bk := bdr bd
 have ct := be.pins.below bk
 have f := be.step ct bk
 refine dT (i := 0) rfl rfl (by kernel_rfl) (fun _ _ => zK (k := 3) rfl dD rfl nz40 rfl) f.pins ?_
 refine dT (i := 1) rfl rfl (by kernel_rfl) (fun _ hS => zM (u := af) ag40 rfl ((cB hS (cA m ac)) _ _ _ (ad 3 _ rfl))) f.pins ?_
 refine dM 2 (vJ (j : Int)) f.pins ?_
 refine dT (i := 3) rfl rfl (by kernel_rfl) (fun _ _ => zI dB sz3 (v := af) rfl rfl aj (by omega) (by omega)) f.pins ?_
 refine dT (i := 4) rfl rfl (by kernel_rfl) (fun _ hS => zN (r := ((ps.getD (kz).toNat default).l).getD j 0) rfl ag3 (z := (j : Int)) rfl aj (cB hS (cA (cA (cA (cA (cA ab aa) s) o) m) ac)) (by omega) (by omega)) f.pins ?_
 refine dM 5 (vJ kz) f.pins ?_
 refine dT (i := 6) rfl rfl (by kernel_rfl) (fun _ _ => xR rfl rfl (by omega)) f.pins ?_
 refine dP (i := 7) rfl rfl (zO (vs := [vJ (((ps.getD (kz).toNat default).l).getD j 0), vJ 0, vJ (kz - 1)]) Tryz.func22 nm22 rfl rfl rfl ?_)
 refine cC (jJ f.pins) ?_
 rintro _ _ ⟨rfl, rfl⟩
 refine rt9 (⟨fun _ => f.pins, ?_⟩)
 refine dT (i := 8) rfl rfl (by kernel_rfl) (fun _ _ => xM rfl) f.pins ?_
 refine dM 9 (.bool (!(decide ((0 : Int) ≤ (((ps.getD (kz).toNat default).l).getD j 0) ∧ (((ps.getD (kz).toNat default).l).getD j 0 : Int) ≤ (kz - 1))))) f.pins ?_
 refine drbn (t := 98) rfl (fun am => ?_) (fun am => ?_)
 replace am := of_decide_eq_true am
 refine zH (i := 10) rfl rfl rfl (zE rfl rfl rfl rfl) (by kernel_rfl) (fun _ hS => zR (cs := [v]) ag26 sz26 rfl (fun j u hj => (cB hS (cA (cA (cA (cA aa s) o) m) ac)) _ _ _ (a2 _ _ (by simpa using hj)))) f.pins (zH (i := 11) rfl rfl rfl (zE rfl rfl rfl rfl) (by kernel_rfl) (fun _ hS => zR (cs := [x]) ag26 sz26 rfl (fun j u hj => (cB hS (cA (cA (cA s o) m) ac)) _ _ _ (a5 _ _ (by simpa using hj)))) f.pins (zH (i := 12) rfl rfl rfl (zE rfl rfl rfl rfl) (by kernel_rfl) (fun _ _ => zU (v := ag) rfl) f.pins (zH (i := 13) rfl rfl rfl (zE rfl rfl rfl rfl) (by kernel_rfl) (fun _ _ => zU (v := vJ (j : Int)) rfl) f.pins (zH (i := 14) rfl rfl rfl (zE rfl rfl rfl rfl) (by kernel_rfl) (fun _ _ => zI dB sz3 (v := ag) rfl rfl aq (by omega) (by omega)) f.pins (zH (i := 15) rfl rfl rfl (zE rfl rfl rfl rfl) (by kernel_rfl) (fun _ hS => zN (r := ((bs.getD ((ps.getD (kz).toNat default).b).toNat default).l).getD j 0) rfl ag3 (z := (j : Int)) rfl aq (cB hS (cA (cA (cA (cA (cA ab aa) s) o) m) ac)) (by omega) (by omega)) f.pins (zH (i := 16) rfl rfl rfl (zE rfl rfl rfl rfl) (by kernel_rfl) (fun _ _ => zK (k := 0) rfl dI rfl nz27 rfl) f.pins (zH (i := 17) rfl rfl rfl (zE rfl rfl rfl rfl) (by kernel_rfl) (fun _ hS => zM (u := u) ag27 rfl ((cB hS (cA (cA o m) ac)) _ _ _ (a7 0 _ rfl))) f.pins (zH (i := 18) rfl rfl rfl (zE rfl rfl rfl rfl) (by kernel_rfl) (fun _ _ => zK (k := 3) rfl dD rfl nz40 rfl) f.pins (zH (i := 19) rfl rfl rfl (zE rfl rfl rfl rfl) (by kernel_rfl) (fun _ hS => zM (u := af) ag40 rfl ((cB hS (cA m ac)) _ _ _ (ad 3 _ rfl))) f.pins (zH (i := 20) rfl rfl rfl (zE rfl rfl rfl rfl) (by kernel_rfl) (fun _ _ => zU (v := vJ (j : Int)) rfl) f.pins (zH (i := 21) rfl rfl rfl (zE rfl rfl rfl rfl) (by kernel_rfl) (fun _ _ => zI dB sz3 (v := af) rfl rfl aj (by omega) (by omega)) f.pins (zH (i := 22) rfl rfl rfl (zE rfl rfl rfl rfl) (by kernel_rfl) (fun _ hS => zN (r := ((ps.getD (kz).toNat default).l).getD j 0) rfl ag3 (z := (j : Int)) rfl aj (cB hS (cA (cA (cA (cA (cA ab aa) s) o) m) ac)) (by omega) (by omega)) f.pins (zH (i := 23) rfl rfl rfl (zE rfl rfl rfl rfl) (by kernel_rfl) (fun _ _ => zI dG sz53 (v := u) rfl rfl hu (by omega) (by omega)) f.pins ?_)))))))))))))
 obtain ⟨dx, cu, cv, dy⟩ := xX (j := (((ps.getD (kz).toNat default).l).getD j 0).toNat) default (hu.at (z := ((ps.getD (kz).toNat default).l).getD j 0) (by omega) (by omega)) rfl
 obtain ⟨cw, cx, rfl, cy, cz⟩ := cu
 have dz := cy.max
 have d0 := cz.max
 refine zH (i := 24) rfl rfl rfl (zE rfl rfl rfl rfl) (by kernel_rfl) (fun _ hS => cv ag53 sz53 rfl (cB hS (cA (cA (cA (cA (cA ab aa) s) o) m) ac))) f.pins (zH (i := 25) rfl rfl rfl (zE rfl rfl rfl rfl) (by kernel_rfl) (fun _ _ => zK (k := 0) rfl dD rfl nz3 rfl) f.pins (zH (i := 26) rfl rfl rfl (zE rfl rfl rfl rfl) (by kernel_rfl) (fun _ hS => zM (u := vJ ((ps.getD (kz).toNat default).a)) ag3 rfl ((cB hS (cA m ac)) _ _ _ (ad 0 _ rfl))) f.pins ?_))
 refine dO (i := 27) (kC (i := 27) rfl rfl rfl (zE rfl rfl rfl rfl) (zO (vs := [.agg #[v], .agg #[x], vJ (((bs.getD ((ps.getD (kz).toNat default).b).toNat default).l).getD j 0), .agg #[vJ ((ps.getD (((ps.getD (kz).toNat default).l).getD j 0).toNat default).a), vJ ((ps.getD (((ps.getD (kz).toNat default).l).getD j 0).toNat default).b), cw, cx], vJ ((ps.getD (kz).toNat default).a)]) Tryz.func54 nm54 rfl rfl rfl ?_))
 refine cC (gP (c := ps.getD (((ps.getD (kz).toNat default).l).getD j 0).toNat default) f.pins (ha.mono (cA (cA (cA (cA (cA ab aa) s) o) m) ac)) (hb.mono (cA (cA (cA (cA (cA ab aa) s) o) m) ac)) (by omega) (by omega)) ?_
 rintro _ d1 ⟨c0, rfl, ax⟩
 refine rt9 ?_
 have ay := f.tr ax
 refine ⟨fun _ => (cB ay.pins ax.le), ?_⟩
 refine zH (i := 28) rfl rfl rfl (zE rfl rfl rfl rfl) (by kernel_rfl) (fun _ _ => xM rfl) (cB ay.pins ax.le) (dT (i := 29) rfl rfl (by kernel_rfl) (fun _ _ => yH (v := .bool (!(decide (((ps.getD (((ps.getD (kz).toNat default).l).getD j 0).toNat default).a, (ps.getD (((ps.getD (kz).toNat default).l).getD j 0).toNat default).b) ∈ leftsP ns bs ((ps.getD (kz).toNat default).a) (((bs.getD ((ps.getD (kz).toNat default).b).toNat default).l).getD j 0))))) rfl rfl) (cB ay.pins ax.le) ?_)
 refine zY (by kernel_rfl) (zA (qQ rfl rfl (fun an => ?_) (fun an => ?_)))
 replace an := of_decide_eq_true an
 refine cM (w9c ?_)
 refine qM (vJ (j : Int)) ?_
 refine qD rfl (yP rfl rfl (by omega)) (qM (vJ ((j : Int) + 1)) ?_)
 refine qe (yK (⟨_, ?_, _, rfl, _, j + 1, c0, (pS 13 (pS 11 (pS 9 (pS 6 (pS 5 (pS 4 (pU 3))))))), rfl, ay, (cA ac ax.le), (by omega), (fun q hq => if h3 : q = j then h3 ▸ ⟨am, an⟩ else hpj q (by omega))⟩))
 omega
 replace an := of_decide_eq_false an
 refine w9d ?_
 refine qM (.bool false) ?_
 refine qe (zA ?_)
 exact cN (zQ (zS (v := .bool false) rfl rfl rfl (⟨_, cgA eB (decP_false.2 (fun g => an (by have a := g.ll j (by omega); first | exact a.2 | (have b := a.1; omega)))).symm, ay⟩)))
 replace am := of_decide_eq_false am
 refine zD (i := 10) rfl rfl (zG rfl rfl rfl rfl rfl) (by kernel_rfl) f.pins (zD (i := 11) rfl rfl (zG rfl rfl rfl rfl rfl) (by kernel_rfl) f.pins (zD (i := 12) rfl rfl (zG rfl rfl rfl rfl rfl) (by kernel_rfl) f.pins (zD (i := 13) rfl rfl (zG rfl rfl rfl rfl rfl) (by kernel_rfl) f.pins (zD (i := 14) rfl rfl (zG rfl rfl rfl rfl rfl) (by kernel_rfl) f.pins (zD (i := 15) rfl rfl (zG rfl rfl rfl rfl rfl) (by kernel_rfl) f.pins (zD (i := 16) rfl rfl (zG rfl rfl rfl rfl rfl) (by kernel_rfl) f.pins (zD (i := 17) rfl rfl (zG rfl rfl rfl rfl rfl) (by kernel_rfl) f.pins (zD (i := 18) rfl rfl (zG rfl rfl rfl rfl rfl) (by kernel_rfl) f.pins (zD (i := 19) rfl rfl (zG rfl rfl rfl rfl rfl) (by kernel_rfl) f.pins (zD (i := 20) rfl rfl (zG rfl rfl rfl rfl rfl) (by kernel_rfl) f.pins (zD (i := 21) rfl rfl (zG rfl rfl rfl rfl rfl) (by kernel_rfl) f.pins (zD (i := 22) rfl rfl (zG rfl rfl rfl rfl rfl) (by kernel_rfl) f.pins (zD (i := 23) rfl rfl (zG rfl rfl rfl rfl rfl) (by kernel_rfl) f.pins (zD (i := 24) rfl rfl (zG rfl rfl rfl rfl rfl) (by kernel_rfl) f.pins (zD (i := 25) rfl rfl (zG rfl rfl rfl rfl rfl) (by kernel_rfl) f.pins (zD (i := 26) rfl rfl (zG rfl rfl rfl rfl rfl) (by kernel_rfl) f.pins (zD (i := 27) rfl rfl (zG rfl rfl rfl rfl rfl) (by kernel_rfl) f.pins (zD (i := 28) rfl rfl (zG rfl rfl rfl rfl rfl) (by kernel_rfl) f.pins (dT (i := 29) rfl rfl (by kernel_rfl) (fun _ _ => yJ (v := .bool true) rfl rfl) f.pins ?_)))))))))))))))))))
 refine zY (by kernel_rfl) (zA (xW rfl rfl (w9d ?_)))
 refine qM (.bool false) ?_
 refine qe (zA ?_)
 exact cN (zQ (zS (v := .bool false) rfl rfl rfl (⟨_, cgA eB (decP_false.2 (fun g => am (by have a := g.ll j (by omega); first | exact a.2 | (have b := a.1; omega)))).symm, f⟩)))
 refine cO (zZ (yM (yL (w9a ?_))))
 refine qM (.bool true) ?_
 refine qe (zA ?_)
 exact cN (zQ (zS (v := .bool true) rfl rfl rfl (⟨_, cgA eB (decP_true.2 ⟨⟨by omega, by omega⟩, ⟨by omega, by omega⟩, by omega, by omega, fun q hq => by have h := hpi q (by omega); exact ⟨⟨h.1.1, by omega⟩, h.2⟩, fun q hq => by have h := hpj q (by omega); exact ⟨⟨h.1.1, by omega⟩, h.2⟩⟩).symm, be⟩)))
theorem tE {w : World} (hP : Pins G w) (ha : RSl eNode G v ns) (hb : RSl eNode G x bs) (hu : RSl eClaim G u ps) :
  Calls Tryz.prog 8 [.agg #[v], .agg #[x], .agg #[u]].toArray w fun e w' => ∃ G', e = .returned (.tuple #[.bool (cpB ns bs ps), .bool (goodB ns && goodB bs)]) ∧ Ext noS G w G' w' := by
 refine yA (n := 108) Tryz.func8 Tryz.ntmps8 rfl rfl ?_
 have a3 := exr noS hP
 have hmu := hu.max
 have hma := ha.max
 have hmb := hb.max
 refine w9d ?_
 refine qI rfl (xH [v] (v := .agg #[v]) rfl rfl a3.pins (fun b1 w2 c8 br bt bu => ?_))
 have bv := a3.step bt bu
 have bw : w.heap.size ≤ b1 := by have := a3.size; omega
 obtain ⟨G9, ag, a5, az, da⟩ := br.shut bv bw
 refine qI rfl (xH [x] (v := .agg #[x]) rfl rfl a5.pins (fun a6 db dc bx bz b0 => ?_))
 have b2 := a5.step bz b0
 have b3 : w.heap.size ≤ a6 := by have := a5.size; omega
 obtain ⟨dd, ad, a7, a0, de⟩ := bx.shut b2 b3
 refine qI rfl (xH [u] (v := .agg #[u]) rfl rfl a7.pins (fun a8 df dg b4 b5 b6 => ?_))
 have b7 := a7.step b5 b6
 have b8 : w.heap.size ≤ a8 := by have := a7.size; omega
 obtain ⟨dh, y, a9, ak, di⟩ := b4.shut b7 b8
 refine qM (.bool false) ?_
 refine qM (.bool false) ?_
 refine qe (zA (w9b ?_))
 refine qD rfl (zR (cs := [v]) ag26 sz26 rfl (fun j u hj => (cB a9.pins (cA ad y)) _ _ _ (az _ _ (by simpa using hj)))) (qI rfl (zO (vs := [.agg #[v]]) Tryz.func21 nm21 rfl rfl rfl ?_))
 refine cC (kA a9.pins (ha.mono (cA (cA ag ad) y))) ?_
 rintro _ dj ⟨dk, rfl, l⟩
 refine rt9 ?_
 have a1 := a9.tr l
 refine qD rfl (xM rfl) (qM (.bool (!(decP (GoodS ns)))) ?_)
 refine qbn (t := 15) rfl (fun ae => ?_) (fun ae => ?_)
 refine qN (zR (cs := [x]) ag26 sz26 rfl (fun j u hj => (cB a1.pins (cA y l.le)) _ _ _ (a0 _ _ (by simpa using hj)))) ?_
 refine q1g rfl rfl rfl rfl rfl rfl (zO (vs := [.agg #[x]]) Tryz.func21 nm21 rfl rfl rfl ?_)
 refine cC (kA a1.pins (hb.mono (cA (cA (cA ag ad) y) l.le))) ?_
 rintro _ ba ⟨bb, rfl, o⟩
 refine rt9 ?_
 have a2 := a1.tr o
 refine qN (xM rfl) ?_
 refine qD rfl (yH (v := .bool (!(decP (GoodS bs)))) rfl rfl) (qe (zA ?_))
 refine qQ rfl rfl (fun af => ?_) (fun af => ?_)
 refine cM (w9a ?_)
 have hga : GoodP ns := goodB_true.1 ((xO ns).symm.trans ae)
 have hgb : GoodP bs := goodB_true.1 ((xO bs).symm.trans af)
 have hloa := hga.lo
 have hlob := hgb.lo
 refine qD rfl (zK (k := 0) rfl dI rfl nz27 rfl) (qD rfl (zM (u := u) ag27 rfl ((cB a2.pins (cA l.le o.le)) _ _ _ (ak 0 _ rfl))) (qD rfl (run_len dG (v := u) rfl hu) (qM (vJ (ps.length : Int)) ?_)))
 refine qe (zA (zB (zB ?_)))
 refine yQ (S := fun wz => Pins bb wz) (last := 31) (by kernel_rfl) rfl ?_
 have bh := bdr ba
 have b9 := a2.pins.below bh
 have h := a2.step b9 bh
 refine dM 0 (vJ (ps.length : Int)) h.pins ?_
 refine dP (i := 1) rfl rfl (zO (vs := [vJ (ps.length : Int), vJ 1, vJ 200]) Tryz.func22 nm22 rfl rfl rfl ?_)
 refine cC (jJ h.pins) ?_
 rintro _ _ ⟨rfl, rfl⟩
 refine rt9 (⟨fun _ => h.pins, ?_⟩)
 refine dT (i := 2) rfl rfl (by kernel_rfl) (fun _ _ => xM rfl) h.pins ?_
 refine dM 3 (.bool (!(decide ((1 : Int) ≤ (ps.length : Int) ∧ ((ps.length : Int) : Int) ≤ 200)))) h.pins ?_
 refine drbn (t := 26) rfl (fun aq => ?_) (fun aq => ?_)
 replace aq := of_decide_eq_true aq
 refine zH (i := 4) rfl rfl rfl (zE rfl rfl rfl rfl) (by kernel_rfl) (fun _ _ => zK (k := 0) rfl dI rfl nz27 rfl) h.pins (zH (i := 5) rfl rfl rfl (zE rfl rfl rfl rfl) (by kernel_rfl) (fun _ hS => zM (u := u) ag27 rfl ((cB hS (cA l.le o.le)) _ _ _ (ak 0 _ rfl))) h.pins (zH (i := 6) rfl rfl rfl (zE rfl rfl rfl rfl) (by kernel_rfl) (fun _ _ => zU (v := vJ (ps.length : Int)) rfl) h.pins (zH (i := 7) rfl rfl rfl (zE rfl rfl rfl rfl) (by kernel_rfl) (fun _ _ => xR rfl rfl (by omega)) h.pins (zH (i := 8) rfl rfl rfl (zE rfl rfl rfl rfl) (by kernel_rfl) (fun _ _ => zI dG sz53 (v := u) rfl rfl hu (by omega) (by omega)) h.pins (zH (i := 9) rfl rfl rfl (zE rfl rfl rfl rfl) (by kernel_rfl) (fun _ _ => yI (off := 0) dD rfl rfl nz3 (z := (ps.length : Int) - 1) (k := 0) rfl hu (by omega) (by omega)) h.pins ?_)))))
 obtain ⟨dl, ca, dm, cb⟩ := xX (j := ((ps.length : Int) - 1).toNat) default (hu.at (z := (ps.length : Int) - 1) (by omega) (by omega)) rfl
 obtain ⟨dn, dp, rfl, cc, cd⟩ := ca
 have dq := cc.max
 have dr := cd.max
 refine zH (i := 10) rfl rfl rfl (zE rfl rfl rfl rfl) (by kernel_rfl) (fun _ hS => cb 0 _ rfl ag3 rfl (cB hS (cA (cA (cA (cA ag ad) y) l.le) o.le))) h.pins (zH (i := 11) rfl rfl rfl (zE rfl rfl rfl rfl) (by kernel_rfl) (fun _ _ => zK (k := 0) rfl dE rfl nz24 rfl) h.pins (zH (i := 12) rfl rfl rfl (zE rfl rfl rfl rfl) (by kernel_rfl) (fun _ hS => zM (u := v) ag24 rfl ((cB hS (cA (cA (cA ad y) l.le) o.le)) _ _ _ (az 0 _ rfl))) h.pins (zH (i := 13) rfl rfl rfl (zE rfl rfl rfl rfl) (by kernel_rfl) (fun _ _ => run_len dC (v := v) rfl ha) h.pins (zH (i := 14) rfl rfl rfl (zE rfl rfl rfl rfl) (by kernel_rfl) (fun _ _ => xR rfl rfl (by omega)) h.pins (zH (i := 15) rfl rfl rfl (zE rfl rfl rfl rfl) (by kernel_rfl) (fun _ _ => jU rfl rfl) h.pins (dT (i := 16) rfl rfl (by kernel_rfl) (fun _ _ => yH (v := .bool (decide (((ps.getD ((ps.length : Int) - 1).toNat default).a : Int) ≠ ((ns.length : Int) - 1)))) rfl rfl) h.pins ?_))))))
 refine dM 17 (.bool (decide (((ps.getD ((ps.length : Int) - 1).toNat default).a : Int) ≠ ((ns.length : Int) - 1)))) h.pins ?_
 refine drbd (p := ((ps.getD ((ps.length : Int) - 1).toNat default).a : Int) ≠ ((ns.length : Int) - 1)) (t := 40) rfl (fun ce => ?_) (fun ce => ?_)
 refine zD (i := 18) rfl rfl (zG rfl rfl rfl rfl rfl) (by kernel_rfl) h.pins (zD (i := 19) rfl rfl (zG rfl rfl rfl rfl rfl) (by kernel_rfl) h.pins (zD (i := 20) rfl rfl (zG rfl rfl rfl rfl rfl) (by kernel_rfl) h.pins (zD (i := 21) rfl rfl (zG rfl rfl rfl rfl rfl) (by kernel_rfl) h.pins (zD (i := 22) rfl rfl (zG rfl rfl rfl rfl rfl) (by kernel_rfl) h.pins (zD (i := 23) rfl rfl (zG rfl rfl rfl rfl rfl) (by kernel_rfl) h.pins (zD (i := 24) rfl rfl (zG rfl rfl rfl rfl rfl) (by kernel_rfl) h.pins (zD (i := 25) rfl rfl (zG rfl rfl rfl rfl rfl) (by kernel_rfl) h.pins (zD (i := 26) rfl rfl (zG rfl rfl rfl rfl rfl) (by kernel_rfl) h.pins (zD (i := 27) rfl rfl (zG rfl rfl rfl rfl rfl) (by kernel_rfl) h.pins (zD (i := 28) rfl rfl (zG rfl rfl rfl rfl rfl) (by kernel_rfl) h.pins (zD (i := 29) rfl rfl (zG rfl rfl rfl rfl rfl) (by kernel_rfl) h.pins (dT (i := 30) rfl rfl (by kernel_rfl) (fun _ _ => yJ (v := .bool true) rfl rfl) h.pins ?_))))))))))))
 refine zY (by kernel_rfl) (zA (xW rfl rfl (w9d ?_)))
 refine qM (.bool false) ?_
 refine qM (.bool true) ?_
 refine qe (zA ?_)
 refine cN (zQ (xT (v := .bool false) (u := .bool true) rfl rfl rfl rfl rfl ?_))
 obtain ⟨r, s⟩ := @vC ns bs ps ((xO ns).symm.trans ae) ((xO bs).symm.trans af) (fun g => by have h1 := g.n; have h2 := g.la; have h3 := g.lb; rw [show ps.length - 1 = ((ps.length : Int) - 1).toNat by omega] at h2 h3; omega)
 exact ⟨_, by rw [r, s], h⟩
 refine zH (i := 18) rfl rfl rfl (zE rfl rfl rfl rfl) (by kernel_rfl) (fun _ _ => zK (k := 0) rfl dI rfl nz27 rfl) h.pins (zH (i := 19) rfl rfl rfl (zE rfl rfl rfl rfl) (by kernel_rfl) (fun _ hS => zM (u := u) ag27 rfl ((cB hS (cA l.le o.le)) _ _ _ (ak 0 _ rfl))) h.pins (zH (i := 20) rfl rfl rfl (zE rfl rfl rfl rfl) (by kernel_rfl) (fun _ _ => zU (v := vJ (ps.length : Int)) rfl) h.pins (zH (i := 21) rfl rfl rfl (zE rfl rfl rfl rfl) (by kernel_rfl) (fun _ _ => xR rfl rfl (by omega)) h.pins (zH (i := 22) rfl rfl rfl (zE rfl rfl rfl rfl) (by kernel_rfl) (fun _ _ => zI dG sz53 (v := u) rfl rfl hu (by omega) (by omega)) h.pins (zH (i := 23) rfl rfl rfl (zE rfl rfl rfl rfl) (by kernel_rfl) (fun _ _ => yI (off := 1) dD rfl rfl nz3 (z := (ps.length : Int) - 1) (k := 0) rfl hu (by omega) (by omega)) h.pins ?_)))))
 obtain ⟨ds, cf, dt, cg⟩ := xX (j := ((ps.length : Int) - 1).toNat) default (hu.at (z := (ps.length : Int) - 1) (by omega) (by omega)) rfl
 obtain ⟨du, dv, rfl, ch, ci⟩ := cf
 have dw := ch.max
 have dx := ci.max
 refine zH (i := 24) rfl rfl rfl (zE rfl rfl rfl rfl) (by kernel_rfl) (fun _ hS => cg 1 _ rfl ag3 rfl (cB hS (cA (cA (cA (cA ag ad) y) l.le) o.le))) h.pins (zH (i := 25) rfl rfl rfl (zE rfl rfl rfl rfl) (by kernel_rfl) (fun _ _ => zK (k := 0) rfl dE rfl nz24 rfl) h.pins (zH (i := 26) rfl rfl rfl (zE rfl rfl rfl rfl) (by kernel_rfl) (fun _ hS => zM (u := x) ag24 rfl ((cB hS (cA (cA y l.le) o.le)) _ _ _ (a0 0 _ rfl))) h.pins (zH (i := 27) rfl rfl rfl (zE rfl rfl rfl rfl) (by kernel_rfl) (fun _ _ => run_len dC (v := x) rfl hb) h.pins (zH (i := 28) rfl rfl rfl (zE rfl rfl rfl rfl) (by kernel_rfl) (fun _ _ => xR rfl rfl (by omega)) h.pins (zH (i := 29) rfl rfl rfl (zE rfl rfl rfl rfl) (by kernel_rfl) (fun _ _ => jU rfl rfl) h.pins (dT (i := 30) rfl rfl (by kernel_rfl) (fun _ _ => yH (v := .bool (decide (((ps.getD ((ps.length : Int) - 1).toNat default).b : Int) ≠ ((bs.length : Int) - 1)))) rfl rfl) h.pins ?_))))))
 refine zY (by kernel_rfl) (zA (yE (p := ((ps.getD ((ps.length : Int) - 1).toNat default).b : Int) ≠ ((bs.length : Int) - 1)) rfl rfl (fun cj => ?_) (fun cj => ?_)))
 refine w9d ?_
 refine qM (.bool false) ?_
 refine qM (.bool true) ?_
 refine qe (zA ?_)
 refine cN (zQ (xT (v := .bool false) (u := .bool true) rfl rfl rfl rfl rfl ?_))
 obtain ⟨r, s⟩ := @vC ns bs ps ((xO ns).symm.trans ae) ((xO bs).symm.trans af) (fun g => by have h1 := g.n; have h2 := g.la; have h3 := g.lb; rw [show ps.length - 1 = ((ps.length : Int) - 1).toNat by omega] at h2 h3; omega)
 exact ⟨_, by rw [r, s], h⟩
 refine cM (zA (w9b ?_))
 refine qM (vJ 0) ?_
 refine qe (zA ?_)
 refine zX (yO (fun k en W => ∃ (ar : Nat → Value) (m : Nat) (au : Pin), en = (upd (upd (upd (upd (upd ar 3 (vP b1)) 4 (vP a6)) 5 (vP a8)) 8 (vJ (ps.length : Int))) 9 (vJ (m : Int))) ∧ k = ps.length - m ∧ Ext noS G w au W ∧ Pin.le bb au ∧ (m ≤ ps.length) ∧ (∀ q, q < m → (0 ≤ (ps.getD q default).a ∧ (ps.getD q default).a < ns.length) ∧ 0 ≤ (ps.getD q default).b ∧ (ps.getD q default).b < bs.length) ∧ (∀ q, 1 ≤ q → q < m → AheadP (ps.getD (q - 1) default) (ps.getD q default))) _ ⟨_, 0, bb, (pS 9 (pS 8 (pS 5 (pS 4 (pU 3))))), rfl, h, cI _, cH _, (fun i hi => absurd hi (cJ i)), (fun q a b => absurd b (by omega))⟩ ?_)
 rintro dy _ dz ⟨ar, m, au, rfl, d0, al, ac, hk, hrg, hst⟩
 refine w9b ?_
 refine qM (vJ (m : Int)) ?_
 refine qM (vJ (ps.length : Int)) ?_
 refine qD rfl (yR rfl rfl) (qe (zA ?_))
 refine yE (p := ((m : Int) : Int) < (ps.length : Int)) rfl rfl (fun ck => ?_) (fun ck => ?_)
 refine cM (zA (zB ?_))
 refine zX (w9d ?_)
 refine qD rfl (zK (k := 0) rfl dI rfl nz27 rfl) (qD rfl (zM (u := u) ag27 rfl ((cB al.pins (cA (cA l.le o.le) ac)) _ _ _ (ak 0 _ rfl))) (qM (vJ (m : Int)) ?_))
 refine qD rfl (zI dG sz53 (v := u) rfl rfl hu (by omega) (by omega)) ?_
 obtain ⟨d1, cl, cm, d2⟩ := xX (j := m) default (hu.at (z := (m : Int)) (by omega) (by omega)) rfl
 obtain ⟨av, aw, rfl, bi, bj⟩ := cl
 have d3 := bi.max
 have d4 := bj.max
 refine qD rfl (cm ag53 sz53 rfl (cB al.pins (cA (cA (cA (cA (cA ag ad) y) l.le) o.le) ac))) (qI rfl (yN [vJ 0, vJ 0, vN, vN] zr53 rfl al.pins (fun cn d5 d6 co cp cq => ?_)))
 have bk := al.step cp cq
 have bl : w.heap.size ≤ cn := by have := al.size; omega
 refine q0 rfl rfl rfl (o_stp (cs' := [vJ ((ps.getD m default).a), vJ ((ps.getD m default).b), av, aw]) (us := [vJ ((ps.getD m default).a), vJ ((ps.getD m default).b), av, aw]) (v := .agg #[vJ ((ps.getD m default).a), vJ ((ps.getD m default).b), av, aw]) sz53 rfl rfl rfl (gO (by rfl) (by rfl) bi.one bj.one) bk.pins co (cD rfl) rfl (fun bc cr ct cu d7 => ?_))
 have cv := bk.write ct cu ((zW bl))
 obtain ⟨bm, am, bn, bd, d8⟩ := cr.shut cv bl
 refine qe (zA (zB ?_))
 refine yQ (S := fun wz => Pins bm wz) (last := 33) (by kernel_rfl) rfl ?_
 have bo := bdr bc
 have cw := bn.pins.below bo
 have f := bn.step cw bo
 refine dT (i := 0) rfl rfl (by kernel_rfl) (fun _ _ => zK (k := 0) rfl dD rfl nz3 rfl) f.pins ?_
 refine dT (i := 1) rfl rfl (by kernel_rfl) (fun _ hS => zM (u := vJ ((ps.getD m default).a)) ag3 rfl (hS _ _ _ (bd 0 _ rfl))) f.pins ?_
 refine dT (i := 2) rfl rfl (by kernel_rfl) (fun _ _ => zK (k := 0) rfl dE rfl nz24 rfl) f.pins ?_
 refine dT (i := 3) rfl rfl (by kernel_rfl) (fun _ hS => zM (u := v) ag24 rfl ((cB hS (cA (cA (cA (cA (cA ad y) l.le) o.le) ac) am)) _ _ _ (az 0 _ rfl))) f.pins ?_
 refine dT (i := 4) rfl rfl (by kernel_rfl) (fun _ _ => run_len dC (v := v) rfl ha) f.pins ?_
 refine dT (i := 5) rfl rfl (by kernel_rfl) (fun _ _ => xR rfl rfl (by omega)) f.pins ?_
 refine dP (i := 6) rfl rfl (zO (vs := [vJ ((ps.getD m default).a), vJ 0, vJ ((ns.length : Int) - 1)]) Tryz.func22 nm22 rfl rfl rfl ?_)
 refine cC (jJ f.pins) ?_
 rintro _ _ ⟨rfl, rfl⟩
 refine rt9 (⟨fun _ => f.pins, ?_⟩)
 refine dT (i := 7) rfl rfl (by kernel_rfl) (fun _ _ => xM rfl) f.pins ?_
 refine dM 8 (.bool (!(decide ((0 : Int) ≤ ((ps.getD m default).a) ∧ ((ps.getD m default).a : Int) ≤ ((ns.length : Int) - 1))))) f.pins ?_
 refine drbn (t := 72) rfl (fun ax => ?_) (fun ax => ?_)
 replace ax := of_decide_eq_true ax
 refine zH (i := 9) rfl rfl rfl (zE rfl rfl rfl rfl) (by kernel_rfl) (fun _ _ => zK (k := 1) rfl dD rfl nz3 rfl) f.pins (zH (i := 10) rfl rfl rfl (zE rfl rfl rfl rfl) (by kernel_rfl) (fun _ hS => zM (u := vJ ((ps.getD m default).b)) ag3 rfl (hS _ _ _ (bd 1 _ rfl))) f.pins (zH (i := 11) rfl rfl rfl (zE rfl rfl rfl rfl) (by kernel_rfl) (fun _ _ => zK (k := 0) rfl dE rfl nz24 rfl) f.pins (zH (i := 12) rfl rfl rfl (zE rfl rfl rfl rfl) (by kernel_rfl) (fun _ hS => zM (u := x) ag24 rfl ((cB hS (cA (cA (cA (cA y l.le) o.le) ac) am)) _ _ _ (a0 0 _ rfl))) f.pins (zH (i := 13) rfl rfl rfl (zE rfl rfl rfl rfl) (by kernel_rfl) (fun _ _ => run_len dC (v := x) rfl hb) f.pins (zH (i := 14) rfl rfl rfl (zE rfl rfl rfl rfl) (by kernel_rfl) (fun _ _ => xR rfl rfl (by omega)) f.pins ?_)))))
 refine dO (i := 15) (kC (i := 15) rfl rfl rfl (zE rfl rfl rfl rfl) (zO (vs := [vJ ((ps.getD m default).b), vJ 0, vJ ((bs.length : Int) - 1)]) Tryz.func22 nm22 rfl rfl rfl ?_))
 refine cC (jJ f.pins) ?_
 rintro _ _ ⟨rfl, rfl⟩
 refine rt9 (⟨fun _ => f.pins, ?_⟩)
 refine zH (i := 16) rfl rfl rfl (zE rfl rfl rfl rfl) (by kernel_rfl) (fun _ _ => xM rfl) f.pins (dT (i := 17) rfl rfl (by kernel_rfl) (fun _ _ => yH (v := .bool (!(decide ((0 : Int) ≤ ((ps.getD m default).b) ∧ ((ps.getD m default).b : Int) ≤ ((bs.length : Int) - 1))))) rfl rfl) f.pins ?_)
 refine dM 18 (.bool (!(decide ((0 : Int) ≤ ((ps.getD m default).b) ∧ ((ps.getD m default).b : Int) ≤ ((bs.length : Int) - 1))))) f.pins ?_
 refine drbn (t := 82) rfl (fun ay => ?_) (fun ay => ?_)
 replace ay := of_decide_eq_true ay
 refine zH (i := 19) rfl rfl rfl (zE rfl rfl rfl rfl) (by kernel_rfl) (fun _ _ => zU (v := vJ (m : Int)) rfl) f.pins (zH (i := 20) rfl rfl rfl (zE rfl rfl rfl rfl) (by kernel_rfl) (fun _ _ => jV rfl rfl) f.pins (zH (i := 21) rfl rfl rfl (zE rfl rfl rfl rfl) (by kernel_rfl) (fun _ _ => zU (v := .bool (decide ((0 : Int) < (m : Int)))) rfl) f.pins (drbd (p := (0 : Int) < (m : Int)) (t := 85) rfl (fun cx => ?_) (fun cx => ?_))))
 refine zH (i := 22) rfl rfl rfl (zE rfl rfl rfl rfl) (by kernel_rfl) (fun _ _ => zK (k := 0) rfl dI rfl nz27 rfl) f.pins (zH (i := 23) rfl rfl rfl (zE rfl rfl rfl rfl) (by kernel_rfl) (fun _ hS => zM (u := u) ag27 rfl ((cB hS (cA (cA (cA l.le o.le) ac) am)) _ _ _ (ak 0 _ rfl))) f.pins (zH (i := 24) rfl rfl rfl (zE rfl rfl rfl rfl) (by kernel_rfl) (fun _ _ => zU (v := vJ (m : Int)) rfl) f.pins (zH (i := 25) rfl rfl rfl (zE rfl rfl rfl rfl) (by kernel_rfl) (fun _ _ => xR rfl rfl (by omega)) f.pins (zH (i := 26) rfl rfl rfl (zE rfl rfl rfl rfl) (by kernel_rfl) (fun _ _ => zI dG sz53 (v := u) rfl rfl hu (by omega) (by omega)) f.pins ?_))))
 obtain ⟨d9, cy, cz, ea⟩ := xX (j := ((m : Int) - 1).toNat) default (hu.at (z := (m : Int) - 1) (by omega) (by omega)) rfl
 obtain ⟨c0, c1, rfl, c2, c3⟩ := cy
 have eb := c2.max
 have ec := c3.max
 refine zH (i := 27) rfl rfl rfl (zE rfl rfl rfl rfl) (by kernel_rfl) (fun _ hS => cz ag53 sz53 rfl (cB hS (cA (cA (cA (cA (cA (cA ag ad) y) l.le) o.le) ac) am))) f.pins (zH (i := 28) rfl rfl rfl (zE rfl rfl rfl rfl) (by kernel_rfl) (fun _ hS => zR (cs := [vJ ((ps.getD m default).a), vJ ((ps.getD m default).b), av, aw]) ag53 sz53 rfl (fun j u hj => hS _ _ _ (bd _ _ (by simpa using hj)))) f.pins ?_)
 refine dO (i := 29) (kC (i := 29) rfl rfl rfl (zE rfl rfl rfl rfl) (zO (vs := [.agg #[vJ ((ps.getD ((m : Int) - 1).toNat default).a), vJ ((ps.getD ((m : Int) - 1).toNat default).b), c0, c1], .agg #[vJ ((ps.getD m default).a), vJ ((ps.getD m default).b), av, aw]]) Tryz.func23 nm23 rfl rfl rfl ?_))
 refine cC (nB (c := ps.getD ((m : Int) - 1).toNat default) (d := ps.getD m default) f.pins ) ?_
 rintro _ ed ⟨c4, rfl, an⟩
 refine rt9 ?_
 have ao := f.tr an
 refine ⟨fun _ => (cB ao.pins an.le), ?_⟩
 refine zH (i := 30) rfl rfl rfl (zE rfl rfl rfl rfl) (by kernel_rfl) (fun _ _ => xM rfl) (cB ao.pins an.le) (zH (i := 31) rfl rfl rfl (zE rfl rfl rfl rfl) (by kernel_rfl) (fun _ _ => yJ (v := .bool (!(decP (AheadP (ps.getD ((m : Int) - 1).toNat default) (ps.getD m default))))) rfl rfl) (cB ao.pins an.le) (dT (i := 32) rfl rfl (by kernel_rfl) (fun _ _ => yH (v := .bool (!(decP (AheadP (ps.getD ((m : Int) - 1).toNat default) (ps.getD m default))))) rfl rfl) (cB ao.pins an.le) ?_))
 refine zY (by kernel_rfl) (zA (qQ rfl rfl (fun be => ?_) (fun be => ?_)))
 refine cM (w9c ?_)
 refine qM (vJ (m : Int)) ?_
 refine qD rfl (yP rfl rfl (by omega)) (qM (vJ ((m : Int) + 1)) ?_)
 refine qe (yK (⟨_, ?_, _, rfl, _, m + 1, c4, (pS 9 (pS 8 (pS 5 (pS 4 (pU 3))))), rfl, ao, (cA (cA ac am) an.le), (by omega), (fun q hq => if h3 : q = m then h3 ▸ ⟨⟨by omega, by omega⟩, ⟨by omega, by omega⟩⟩ else hrg q (by omega)), (fun q h1 h2 => if h3 : q = m then (by subst h3; have a := decP_true.1 be; rw [show q - 1 = ((q : Int) - 1).toNat by omega]; exact a) else hst q h1 (by omega))⟩))
 omega
 refine w9d ?_
 refine qM (.bool false) ?_
 refine qM (.bool true) ?_
 refine qe (zA ?_)
 refine cN (zQ (xT (v := .bool false) (u := .bool true) rfl rfl rfl rfl rfl ?_))
 obtain ⟨r, s⟩ := @vC ns bs ps ((xO ns).symm.trans ae) ((xO bs).symm.trans af) (fun g => decP_false.1 be (by have a := g.st m (by omega) (by omega); rw [show m - 1 = ((m : Int) - 1).toNat by omega] at a; exact a))
 exact ⟨_, by rw [r, s], ao⟩
 refine zD (i := 22) rfl rfl (zG rfl rfl rfl rfl rfl) (by kernel_rfl) f.pins (zD (i := 23) rfl rfl (zG rfl rfl rfl rfl rfl) (by kernel_rfl) f.pins (zD (i := 24) rfl rfl (zG rfl rfl rfl rfl rfl) (by kernel_rfl) f.pins (zD (i := 25) rfl rfl (zG rfl rfl rfl rfl rfl) (by kernel_rfl) f.pins (zD (i := 26) rfl rfl (zG rfl rfl rfl rfl rfl) (by kernel_rfl) f.pins (zD (i := 27) rfl rfl (zG rfl rfl rfl rfl rfl) (by kernel_rfl) f.pins (zD (i := 28) rfl rfl (zG rfl rfl rfl rfl rfl) (by kernel_rfl) f.pins (zD (i := 29) rfl rfl (zG rfl rfl rfl rfl rfl) (by kernel_rfl) f.pins (zD (i := 30) rfl rfl (zG rfl rfl rfl rfl rfl) (by kernel_rfl) f.pins (zH (i := 31) rfl rfl rfl (zE rfl rfl rfl rfl) (by kernel_rfl) (fun _ _ => yH (v := .bool false) rfl rfl) f.pins (dT (i := 32) rfl rfl (by kernel_rfl) (fun _ _ => yH (v := .bool false) rfl rfl) f.pins ?_))))))))))
 refine zY (by kernel_rfl) (zA (qY rfl rfl (cM (w9c ?_))))
 refine qM (vJ (m : Int)) ?_
 refine qD rfl (yP rfl rfl (by omega)) (qM (vJ ((m : Int) + 1)) ?_)
 refine qe (yK (⟨_, ?_, _, rfl, _, m + 1, bm, (pS 9 (pS 8 (pS 5 (pS 4 (pU 3))))), rfl, f, (cA ac am), (by omega), (fun q hq => if h3 : q = m then h3 ▸ ⟨⟨by omega, by omega⟩, ⟨by omega, by omega⟩⟩ else hrg q (by omega)), (fun q h1 h2 => if h3 : q = m then (by subst h3; omega) else hst q h1 (by omega))⟩))
 omega
 replace ay := of_decide_eq_false ay
 refine zD (i := 19) rfl rfl (zG rfl rfl rfl rfl rfl) (by kernel_rfl) f.pins (zD (i := 20) rfl rfl (zG rfl rfl rfl rfl rfl) (by kernel_rfl) f.pins (zD (i := 21) rfl rfl (zG rfl rfl rfl rfl rfl) (by kernel_rfl) f.pins (zD (i := 22) rfl rfl (yC rfl rfl rfl rfl) (by kernel_rfl) f.pins (zD (i := 23) rfl rfl (yC rfl rfl rfl rfl) (by kernel_rfl) f.pins (zD (i := 24) rfl rfl (yC rfl rfl rfl rfl) (by kernel_rfl) f.pins (zD (i := 25) rfl rfl (yC rfl rfl rfl rfl) (by kernel_rfl) f.pins (zD (i := 26) rfl rfl (yC rfl rfl rfl rfl) (by kernel_rfl) f.pins (zD (i := 27) rfl rfl (yC rfl rfl rfl rfl) (by kernel_rfl) f.pins (zD (i := 28) rfl rfl (yC rfl rfl rfl rfl) (by kernel_rfl) f.pins (zD (i := 29) rfl rfl (yC rfl rfl rfl rfl) (by kernel_rfl) f.pins (zD (i := 30) rfl rfl (yC rfl rfl rfl rfl) (by kernel_rfl) f.pins (zD (i := 31) rfl rfl (zG rfl rfl rfl rfl rfl) (by kernel_rfl) f.pins (dT (i := 32) rfl rfl (by kernel_rfl) (fun _ _ => yJ (v := .bool true) rfl rfl) f.pins ?_)))))))))))))
 refine zY (by kernel_rfl) (zA (xW rfl rfl (w9d ?_)))
 refine qM (.bool false) ?_
 refine qM (.bool true) ?_
 refine qe (zA ?_)
 refine cN (zQ (xT (v := .bool false) (u := .bool true) rfl rfl rfl rfl rfl ?_))
 obtain ⟨r, s⟩ := @vC ns bs ps ((xO ns).symm.trans ae) ((xO bs).symm.trans af) (fun g => by have a := (g.ok m (by omega)).ra; have b := (g.ok m (by omega)).rb; omega)
 exact ⟨_, by rw [r, s], f⟩
 replace ax := of_decide_eq_false ax
 refine zD (i := 9) rfl rfl (zG rfl rfl rfl rfl rfl) (by kernel_rfl) f.pins (zD (i := 10) rfl rfl (zG rfl rfl rfl rfl rfl) (by kernel_rfl) f.pins (zD (i := 11) rfl rfl (zG rfl rfl rfl rfl rfl) (by kernel_rfl) f.pins (zD (i := 12) rfl rfl (zG rfl rfl rfl rfl rfl) (by kernel_rfl) f.pins (zD (i := 13) rfl rfl (zG rfl rfl rfl rfl rfl) (by kernel_rfl) f.pins (zD (i := 14) rfl rfl (zG rfl rfl rfl rfl rfl) (by kernel_rfl) f.pins (zD (i := 15) rfl rfl (zG rfl rfl rfl rfl rfl) (by kernel_rfl) f.pins (zD (i := 16) rfl rfl (zG rfl rfl rfl rfl rfl) (by kernel_rfl) f.pins (dT (i := 17) rfl rfl (by kernel_rfl) (fun _ _ => yJ (v := .bool true) rfl rfl) f.pins ?_))))))))
 refine dM 18 (.bool true) f.pins ?_
 refine zD (i := 19) rfl rfl (zG rfl rfl rfl rfl rfl) (by kernel_rfl) f.pins (zD (i := 20) rfl rfl (zG rfl rfl rfl rfl rfl) (by kernel_rfl) f.pins (zD (i := 21) rfl rfl (zG rfl rfl rfl rfl rfl) (by kernel_rfl) f.pins (zD (i := 22) rfl rfl (yC rfl rfl rfl rfl) (by kernel_rfl) f.pins (zD (i := 23) rfl rfl (yC rfl rfl rfl rfl) (by kernel_rfl) f.pins (zD (i := 24) rfl rfl (yC rfl rfl rfl rfl) (by kernel_rfl) f.pins (zD (i := 25) rfl rfl (yC rfl rfl rfl rfl) (by kernel_rfl) f.pins (zD (i := 26) rfl rfl (yC rfl rfl rfl rfl) (by kernel_rfl) f.pins (zD (i := 27) rfl rfl (yC rfl rfl rfl rfl) (by kernel_rfl) f.pins (zD (i := 28) rfl rfl (yC rfl rfl rfl rfl) (by kernel_rfl) f.pins (zD (i := 29) rfl rfl (yC rfl rfl rfl rfl) (by kernel_rfl) f.pins (zD (i := 30) rfl rfl (yC rfl rfl rfl rfl) (by kernel_rfl) f.pins (zD (i := 31) rfl rfl (zG rfl rfl rfl rfl rfl) (by kernel_rfl) f.pins (dT (i := 32) rfl rfl (by kernel_rfl) (fun _ _ => yJ (v := .bool true) rfl rfl) f.pins ?_)))))))))))))
 refine zY (by kernel_rfl) (zA (xW rfl rfl (w9d ?_)))
 refine qM (.bool false) ?_
 refine qM (.bool true) ?_
 refine qe (zA ?_)
 refine cN (zQ (xT (v := .bool false) (u := .bool true) rfl rfl rfl rfl rfl ?_))
 obtain ⟨r, s⟩ := @vC ns bs ps ((xO ns).symm.trans ae) ((xO bs).symm.trans af) (fun g => by have a := (g.ok m (by omega)).ra; have b := (g.ok m (by omega)).rb; omega)
 exact ⟨_, by rw [r, s], f⟩
 refine cO (zZ (yM (yL (zA (w9b ?_)))))
 refine qM (vJ 0) ?_
 refine qe (zA ?_)
 refine zX (yO (fun k en W => ∃ (ar : Nat → Value) (k2 : Nat) (bf : Pin), en = (upd (upd (upd (upd (upd ar 3 (vP b1)) 4 (vP a6)) 5 (vP a8)) 8 (vJ (ps.length : Int))) 11 (vJ (k2 : Int))) ∧ k = ps.length - k2 ∧ Ext noS G w bf W ∧ Pin.le au bf ∧ (k2 ≤ ps.length) ∧ (∀ q, q < k2 → RightP ns bs ps q)) _ ⟨_, 0, au, (pS 11 (pS 8 (pS 5 (pS 4 (pU 3))))), rfl, al, cI _, cH _, (fun i hi => absurd hi (cJ i))⟩ ?_)
 rintro ee _ ef ⟨ar, k2, bf, rfl, eg, ap, aj, eh, hok⟩
 refine w9b ?_
 refine qM (vJ (k2 : Int)) ?_
 refine qM (vJ (ps.length : Int)) ?_
 refine qD rfl (yR rfl rfl) (qe (zA ?_))
 refine yE (p := ((k2 : Int) : Int) < (ps.length : Int)) rfl rfl (fun c5 => ?_) (fun c5 => ?_)
 refine cM (zA (zB ?_))
 refine zX (w9d ?_)
 refine qD rfl (zR (cs := [v]) ag26 sz26 rfl (fun j u hj => (cB ap.pins (cA (cA (cA (cA (cA ad y) l.le) o.le) ac) aj)) _ _ _ (az _ _ (by simpa using hj)))) (qD rfl (zR (cs := [x]) ag26 sz26 rfl (fun j u hj => (cB ap.pins (cA (cA (cA (cA y l.le) o.le) ac) aj)) _ _ _ (a0 _ _ (by simpa using hj)))) (qD rfl (zR (cs := [u]) ag29 sz29 rfl (fun j u hj => (cB ap.pins (cA (cA (cA l.le o.le) ac) aj)) _ _ _ (ak _ _ (by simpa using hj)))) (qM (vJ (k2 : Int)) ?_)))
 refine qI rfl (zO (vs := [.agg #[v], .agg #[x], .agg #[u], vJ (k2 : Int)]) Tryz.func24 nm24 rfl rfl rfl ?_)
 refine cC (mZ ap.pins (ha.mono (cA (cA (cA (cA (cA (cA ag ad) y) l.le) o.le) ac) aj)) (hb.mono (cA (cA (cA (cA (cA (cA ag ad) y) l.le) o.le) ac) aj)) (hu.mono (cA (cA (cA (cA (cA (cA ag ad) y) l.le) o.le) ac) aj)) (by omega) hga hgb (hrg k2 (by omega)).1 (hrg k2 (by omega)).2) ?_
 rintro _ ei ⟨c6, rfl, bp⟩
 refine rt9 ?_
 have bq := ap.tr bp
 refine qD rfl (xM rfl) (qe (zA ?_))
 refine qQ rfl rfl (fun bg => ?_) (fun bg => ?_)
 refine cM (w9c ?_)
 refine qM (vJ (k2 : Int)) ?_
 refine qD rfl (yP rfl rfl (by omega)) (qM (vJ ((k2 : Int) + 1)) ?_)
 refine qe (yK (⟨_, ?_, _, rfl, _, k2 + 1, c6, (pS 11 (pS 8 (pS 5 (pS 4 (pU 3))))), rfl, bq, (cA aj bp.le), (by omega), (fun q hq => if h3 : q = k2 then h3 ▸ decP_true.1 bg else hok q (by omega))⟩))
 omega
 refine w9d ?_
 refine qM (.bool false) ?_
 refine qM (.bool true) ?_
 refine qe (zA ?_)
 refine cN (zQ (xT (v := .bool false) (u := .bool true) rfl rfl rfl rfl rfl ?_))
 obtain ⟨r, s⟩ := @vC ns bs ps ((xO ns).symm.trans ae) ((xO bs).symm.trans af) (fun g => decP_false.1 bg (g.ok k2 (by omega)))
 exact ⟨_, by rw [r, s], bq⟩
 refine cO (zZ (yM (yL (w9a ?_))))
 refine qM (.bool true) ?_
 refine qM (.bool true) ?_
 refine qe (zA ?_)
 refine cN (zQ (xT (v := .bool true) (u := .bool true) rfl rfl rfl rfl rfl ?_))
 obtain ⟨r, s⟩ := @cp_yes ns bs ps ((xO ns).symm.trans ae) ((xO bs).symm.trans af) ⟨⟨by omega, by omega⟩, (by rw [show ps.length - 1 = ((ps.length : Int) - 1).toNat by omega]; omega), (by rw [show ps.length - 1 = ((ps.length : Int) - 1).toNat by omega]; omega), fun q h1 h2 => hst q h1 (by omega), fun q hq => hok q (by omega)⟩
 exact ⟨_, by rw [r, s], ap⟩
 replace aq := of_decide_eq_false aq
 refine zD (i := 4) rfl rfl (zG rfl rfl rfl rfl rfl) (by kernel_rfl) h.pins (zD (i := 5) rfl rfl (zG rfl rfl rfl rfl rfl) (by kernel_rfl) h.pins (zD (i := 6) rfl rfl (zG rfl rfl rfl rfl rfl) (by kernel_rfl) h.pins (zD (i := 7) rfl rfl (zG rfl rfl rfl rfl rfl) (by kernel_rfl) h.pins (zD (i := 8) rfl rfl (zG rfl rfl rfl rfl rfl) (by kernel_rfl) h.pins (zD (i := 9) rfl rfl (zG rfl rfl rfl rfl rfl) (by kernel_rfl) h.pins (zD (i := 10) rfl rfl (zG rfl rfl rfl rfl rfl) (by kernel_rfl) h.pins (zD (i := 11) rfl rfl (zG rfl rfl rfl rfl rfl) (by kernel_rfl) h.pins (zD (i := 12) rfl rfl (zG rfl rfl rfl rfl rfl) (by kernel_rfl) h.pins (zD (i := 13) rfl rfl (zG rfl rfl rfl rfl rfl) (by kernel_rfl) h.pins (zD (i := 14) rfl rfl (zG rfl rfl rfl rfl rfl) (by kernel_rfl) h.pins (zD (i := 15) rfl rfl (zG rfl rfl rfl rfl rfl) (by kernel_rfl) h.pins (dT (i := 16) rfl rfl (by kernel_rfl) (fun _ _ => yJ (v := .bool true) rfl rfl) h.pins ?_))))))))))))
 refine dM 17 (.bool true) h.pins ?_
 refine zD (i := 18) rfl rfl (zG rfl rfl rfl rfl rfl) (by kernel_rfl) h.pins (zD (i := 19) rfl rfl (zG rfl rfl rfl rfl rfl) (by kernel_rfl) h.pins (zD (i := 20) rfl rfl (zG rfl rfl rfl rfl rfl) (by kernel_rfl) h.pins (zD (i := 21) rfl rfl (zG rfl rfl rfl rfl rfl) (by kernel_rfl) h.pins (zD (i := 22) rfl rfl (zG rfl rfl rfl rfl rfl) (by kernel_rfl) h.pins (zD (i := 23) rfl rfl (zG rfl rfl rfl rfl rfl) (by kernel_rfl) h.pins (zD (i := 24) rfl rfl (zG rfl rfl rfl rfl rfl) (by kernel_rfl) h.pins (zD (i := 25) rfl rfl (zG rfl rfl rfl rfl rfl) (by kernel_rfl) h.pins (zD (i := 26) rfl rfl (zG rfl rfl rfl rfl rfl) (by kernel_rfl) h.pins (zD (i := 27) rfl rfl (zG rfl rfl rfl rfl rfl) (by kernel_rfl) h.pins (zD (i := 28) rfl rfl (zG rfl rfl rfl rfl rfl) (by kernel_rfl) h.pins (zD (i := 29) rfl rfl (zG rfl rfl rfl rfl rfl) (by kernel_rfl) h.pins (dT (i := 30) rfl rfl (by kernel_rfl) (fun _ _ => yJ (v := .bool true) rfl rfl) h.pins ?_))))))))))))
 refine zY (by kernel_rfl) (zA (xW rfl rfl (w9d ?_)))
 refine qM (.bool false) ?_
 refine qM (.bool true) ?_
 refine qe (zA ?_)
 refine cN (zQ (xT (v := .bool false) (u := .bool true) rfl rfl rfl rfl rfl ?_))
 obtain ⟨r, s⟩ := @vC ns bs ps ((xO ns).symm.trans ae) ((xO bs).symm.trans af) (fun g => by have h1 := g.n; have h2 := g.la; have h3 := g.lb; rw [show ps.length - 1 = ((ps.length : Int) - 1).toNat by omega] at h2 h3; omega)
 exact ⟨_, by rw [r, s], h⟩
 refine w9d ?_
 refine qM (.bool false) ?_
 refine qM (.bool false) ?_
 refine qe (zA ?_)
 refine cN (zQ (xT (v := .bool false) (u := .bool false) rfl rfl rfl rfl rfl ?_))
 obtain ⟨r, s⟩ := @sT ns bs ps (cF ((xO bs).symm.trans af))
 exact ⟨_, by rw [r, s], a2⟩
 refine qW ?_
 refine qW ?_
 refine qW ?_
 refine qD rfl (yJ (v := .bool true) rfl rfl) (qe (zA ?_))
 refine xW rfl rfl (w9d ?_)
 refine qM (.bool false) ?_
 refine qM (.bool false) ?_
 refine qe (zA ?_)
 refine cN (zQ (xT (v := .bool false) (u := .bool false) rfl rfl rfl rfl rfl ?_))
 obtain ⟨r, s⟩ := @sT ns bs ps (cE ((xO ns).symm.trans ae))
 exact ⟨_, by rw [r, s], a1⟩
end LX8
namespace LFB
open B1 C1 D1 E1 K1 PO1 PL1 OR1 SF1 P1 AT1 DR1 DR2 DV1 DV2 LX7 LX8
theorem law {w : World} {G : Pin} {v : Value} {code : List UInt8} (hP : Pins G w) (hc : RSl eByte G v code) :
  Calls Tryz.prog 3 #[v] w fun e w' => ∃ G', e = .returned (.bool true) ∧ Ext noS G w G' w' := by
 refine yA (n := 53) Tryz.func3 Tryz.ntmps3 rfl rfl ?_
 have ah := exr noS hP
 have hm := hc.max
 refine w9d ?_
 refine qM (.bool false) ?_
 refine qe (zA (w9b ?_))
 refine qM v ?_
 refine qI rfl (zO (vs := [v]) Tryz.func5 nm5 rfl rfl rfl ?_)
 refine cC (vBig_spec ah.pins hc) ?_
 rintro _ w1 ⟨rfl, ai⟩
 refine rt9 ?_
 have z := ah.step ai.pins ai.below
 refine qe (zA ?_)
 refine yE (p := (65536 : Int) < (code.length : Int)) rfl rfl (fun h4 => ?_) (fun h4 => ?_)
 refine w9d ?_
 refine qM (.bool true) ?_
 refine qe (zA ?_)
 exact cN (zQ (zS (v := .bool true) rfl rfl rfl (⟨_, rfl, z⟩)))
 refine cM (w9a ?_)
 refine qM v ?_
 refine qI rfl (zO (vs := [v]) Tryz.func6 nm6 rfl rfl rfl ?_)
 refine cC (tA z.pins hc) ?_
 rintro _ b1 ⟨d, f, k, a, b, i, b2, rfl, m, o, x, a5⟩
 refine rt9 ?_
 have aa := z.tr a5
 have b3 := m.max
 have b4 := o.max
 have b5 := x.max
 refine qM (.tuple #[.agg #[d], .agg #[f], .agg #[k]]) ?_
 refine qD rfl (yV (v := .agg #[d]) rfl rfl) (qD rfl (yV (v := .agg #[f]) rfl rfl) (qD rfl (yV (v := .agg #[k]) rfl rfl) (qI rfl (yN [vN] zr26 rfl aa.pins (fun a6 b6 b7 aj a7 a8 => ?_)))))
 have ab := aa.step a7 a8
 have ak : w.heap.size ≤ a6 := by have := aa.size; omega
 refine qI rfl (yN [vN] zr26 rfl ab.pins (fun a9 b8 ba al bb am => ?_))
 have ac := ab.step bb am
 have an := aj.below am
 have ao := zF (cgA some ba) aj.lt
 have ap : w.heap.size ≤ a9 := by have := ab.size; omega
 refine qI rfl (yN [vN] zr29 rfl ac.pins (fun bc b9 aq bd be ad => ?_))
 have ar := ac.step be ad
 have bf := an.below ad
 have bg := al.below ad
 have au := zF (cgA some aq) an.lt
 have av := zF (cgA some aq) al.lt
 have aw : w.heap.size ≤ bc := by have := ac.size; omega
 refine q0 rfl rfl rfl (o_stp (cs' := [d]) (us := [d]) (v := .agg #[d]) sz26 rfl rfl rfl (yF m.one) ar.pins bf (cD rfl) rfl (fun ca bh bi ae cb => ?_))
 have bj := ar.write bi ae ((zW ak))
 have bk := bg.keptA ae ao
 have bl := bd.keptA ae au
 obtain ⟨cc, l, ax, af, ay⟩ := bh.shut bj ak
 have bm := bk.moreA ay ao
 have bn := bl.moreA ay au
 refine q0 rfl rfl rfl (o_stp (cs' := [f]) (us := [f]) (v := .agg #[f]) sz26 rfl rfl rfl (yF o.one) ax.pins bm (cD rfl) rfl (fun cd bo bp az ce => ?_))
 have bq := ax.write bp az ((zW ap))
 have br := bn.keptA az av
 obtain ⟨cf, g, a0, ag, bs⟩ := bo.shut bq ap
 have bt := br.moreA bs av
 refine q0 rfl rfl rfl (o_stp (cs' := [k]) (us := [k]) (v := .agg #[k]) sz29 rfl rfl rfl (yF x.one) a0.pins bt (cD rfl) rfl (fun cg bu bv bw ch => ?_))
 have bx := a0.write bv bw ((zW aw))
 obtain ⟨ci, c, q, a1, cj⟩ := bu.shut bx aw
 refine qe (w9a ?_)
 refine qD rfl (zR (cs := [d]) ag26 sz26 rfl (fun j u hj => (cB q.pins (cA g c)) _ _ _ (af _ _ (by simpa using hj)))) (qD rfl (zR (cs := [f]) ag26 sz26 rfl (fun j u hj => (cB q.pins c) _ _ _ (ag _ _ (by simpa using hj)))) (qD rfl (zR (cs := [k]) ag29 sz29 rfl (fun j u hj => q.pins _ _ _ (a1 _ _ (by simpa using hj)))) (qI rfl (zO (vs := [.agg #[d], .agg #[f], .agg #[k]]) Tryz.func7 nm7 rfl rfl rfl ?_))))
 refine cC (tM q.pins (m.mono (cA (cA l g) c)) (o.mono (cA (cA l g) c)) (x.mono (cA (cA l g) c))) ?_
 rintro _ ck ⟨cl, rfl, h⟩
 refine rt9 ?_
 have r := q.tr h
 refine qM (.tuple #[.bool (cpB a b i), .bool (goodB a && goodB b)]) ?_
 refine qD rfl (yV (v := .bool (cpB a b i)) rfl rfl) (qD rfl (yV (v := .bool (goodB a && goodB b)) rfl rfl) (qM (.bool (cpB a b i)) ?_))
 refine qM (.bool (goodB a && goodB b)) ?_
 refine qe (zA (w9b ?_))
 refine qD rfl (zR (cs := [d]) ag26 sz26 rfl (fun j u hj => (cB r.pins (cA (cA g c) h.le)) _ _ _ (af _ _ (by simpa using hj)))) (qD rfl (zR (cs := [f]) ag26 sz26 rfl (fun j u hj => (cB r.pins (cA c h.le)) _ _ _ (ag _ _ (by simpa using hj)))) (qD rfl (zR (cs := [k]) ag29 sz29 rfl (fun j u hj => (cB r.pins h.le) _ _ _ (a1 _ _ (by simpa using hj)))) (qI rfl (zO (vs := [.agg #[d], .agg #[f], .agg #[k]]) Tryz.func8 nm8 rfl rfl rfl ?_))))
 refine cC (tE r.pins (m.mono (cA (cA (cA l g) c) h.le)) (o.mono (cA (cA (cA l g) c) h.le)) (x.mono (cA (cA (cA l g) c) h.le))) ?_
 rintro _ cm ⟨cn, rfl, s⟩
 refine rt9 ?_
 have y := r.tr s
 refine qM (.tuple #[.bool (cpB a b i), .bool (goodB a && goodB b)]) ?_
 refine qD rfl (yV (v := .bool (cpB a b i)) rfl rfl) (qD rfl (yV (v := .bool (goodB a && goodB b)) rfl rfl) (qM (.bool (cpB a b i)) ?_))
 refine qM (.bool (goodB a && goodB b)) ?_
 refine qe (w9a ?_)
 refine qM (.bool (cpB a b i)) ?_
 refine qM (.bool (cpB a b i)) ?_
 refine qD rfl (rB Tryz.underlying4 rfl rfl) (qM (.bool false) ?_)
 refine qN (zU (v := .bool (goodB a && goodB b)) rfl) ?_
 refine qN (zU (v := .bool (goodB a && goodB b)) rfl) ?_
 refine qN (rB Tryz.underlying4 rfl rfl) ?_
 refine qD rfl (yH (v := .bool false) rfl rfl) (qe (zA ?_))
 refine qY rfl rfl (cM (w9a ?_))
 refine qD rfl (zR (cs := [d]) ag26 sz26 rfl (fun j u hj => (cB y.pins (cA (cA (cA g c) h.le) s.le)) _ _ _ (af _ _ (by simpa using hj)))) (qD rfl (zR (cs := [f]) ag26 sz26 rfl (fun j u hj => (cB y.pins (cA (cA c h.le) s.le)) _ _ _ (ag _ _ (by simpa using hj)))) (qI rfl (zO (vs := [.agg #[d], .agg #[f]]) Tryz.func9 nm9 rfl rfl rfl ?_)))
 refine cC (nC y.pins (m.mono (cA (cA (cA (cA l g) c) h.le) s.le)) (o.mono (cA (cA (cA (cA l g) c) h.le) s.le))) ?_
 rintro _ co ⟨cp, rfl, bz⟩
 refine rt9 ?_
 have a2 := y.tr bz
 refine qM (.tuple #[.bool (alB a b), .bool (goodB a && goodB b)]) ?_
 refine qD rfl (yV (v := .bool (alB a b)) rfl rfl) (qD rfl (yV (v := .bool (goodB a && goodB b)) rfl rfl) (qM (.bool (alB a b)) ?_))
 refine qM (.bool (goodB a && goodB b)) ?_
 refine qe (w9a ?_)
 refine qM (.bool (cpB a b i)) ?_
 refine qD rfl (xM rfl) (qM (.bool (!(cpB a b i))) ?_)
 refine qbn (t := 50) rfl (fun a3 => ?_) (fun a3 => ?_)
 refine qN (zU (v := .bool (alB a b)) rfl) ?_
 refine qD rfl (yH (v := .bool (alB a b)) rfl rfl) (qM (.bool (alB a b)) ?_)
 refine qe (zA ?_)
 exact cN (zQ (zS (v := .bool (alB a b)) rfl rfl rfl (⟨_, cgA eB (cp_al (by simpa using a3)), a2⟩)))
 refine qW ?_
 refine qD rfl (yJ (v := .bool true) rfl rfl) (qM (.bool true) ?_)
 refine qe (zA ?_)
 exact cN (zQ (zS (v := .bool true) rfl rfl rfl (⟨_, rfl, a2⟩)))
end LFB
end Go.Proofs.YtdleojbknkbpiaaGreatDoor
