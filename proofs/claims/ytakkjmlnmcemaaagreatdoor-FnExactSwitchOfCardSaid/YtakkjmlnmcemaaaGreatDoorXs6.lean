/- Texts of this claim in one file: VA1, VA2, VA3, SW1, DI1, RI1, CN1, CN2, CN3, CN4, AS2, SX1, SX3, OR1. -/
import Derived.Test.YtakkjmlnmcemaaaGreatDoorXs5
import Derived.Test.YtakkjmlnmcemaaaGreatDoorChecked
set_option maxRecDepth 20000
set_option maxHeartbeats 2000000
namespace Go.Proofs.YtakkjmlnmcemaaaGreatDoor
namespace VA1
open Go.RowKit Go.GL Go.Proofs
open B1 C1 D1 E1 K1 PO1 PL1 NU1 NU2








def IsnP (m : Nat) (p : Nat) (L R B : Value) (mm : PM) : Prop := ∀ {w : World} {G : Pin} {q : PSt} {a : Int} (_ : Pins G w) (_ : Pk 56 3 G w p L R B mm q) (_ : PoolOk q) (_ : PlaceOk q a) (_ : CanonG (pd q a)), a.toNat < m →
  Calls Tryz.prog 76 [(.pointer (some ⟨p, 0, none⟩)), (.int .i64 a)].toArray w fun e w' => ∃ (q' : PSt) (G' : Pin), e = .returned (.bool (decP (NumD (pd q a)))) ∧ Pk 56 3 G' w' p L R B mm q' ∧ PoolOk q' ∧ PX q q' ∧ (q'.ns = q.ns ∧ q'.bs = q.bs) ∧ Ext (inO (some mm.o)) G w G' w'

theorem isNumber_step {p : Nat} {L R B : Value} {mm : PM} {m : Nat} {w : World} {G : Pin} {q : PSt} {a : Int} (hP : Pins G w) (hpk : Pk 56 3 G w p L R B mm q) (hok : PoolOk q) (ha : PlaceOk q a) (hc : CanonG (pd q a)) (ih : IsnP m p L R B mm) (hm : a.toNat < m + 1) :
  Calls Tryz.prog 76 [(.pointer (some ⟨p, 0, none⟩)), (vJ a)].toArray w fun e w' => ∃ (q' : PSt) (G' : Pin), e = .returned (.bool (decP (NumD (pd q a)))) ∧ Pk 56 3 G' w' p L R B mm q' ∧ PoolOk q' ∧ PX q q' ∧ (q'.ns = q.ns ∧ q'.bs = q.bs) ∧ Ext (inO (some mm.o)) G w G' w' := by
 refine zV (n := 74) Tryz.func76 Tryz.ntmps76 rfl rfl ?_
 have a1 : Ext (inO (some mm.o)) G w G w := Ext.refl hP
 have hpin : PIn w (inP p L R B mm) p L R B mm := PIn.self
 have cg : (q.ns.map Nd.l).length = q.ns.length ∧ (q.ns.map Nd.r).length = q.ns.length := ⟨List.length_map .., List.length_map ..⟩
 have ch : q.bs.length = q.ns.length ∧ q.ns.length ≤ 1048576 := ⟨hok.ar.ok.len, hok.ar.ok.lim⟩
 have ci := ha.1
 have cj := ha.2
 have ck := hok.ar.ok.lens (a).toNat (by omega)
 have hopl := (xC hok.ar.opts (show (a).toNat < q.ns.length by omega)).1
 have hopr := (xC hok.ar.opts (show (a).toNat < q.ns.length by omega)).2
 have hnp := num_pool hok ha hc
 refine zB (zC ?_)
 refine qM (.bool false) ?_
 refine qe (zA (zB ?_))
 have b0 := Gadd.pins a1.pins L
 have b1 := Gadd.pins a1.pins R
 have b2 := hpk.ol.read
 have b3 := hpk.rr.read
 refine yZ (S := fun wz => BxR wz p [L, R, B, (.map (some mm.f)), (.map (some mm.o)), (.map (some mm.c)), (.map (some mm.s)), (.map (some mm.n))] ∧ Pins (Gadd G w L) wz ∧ Pins (Gadd G w R) wz) (last := 16) (by kernel_rfl) rfl ?_
 have au : Below w.heap.size w w.drew := (Below.refl _ _).drew
 have bj := a1.pins.below au
 have a7 := a1.step bj au
 have h := hpk.below au bj
 have ac := b0.below au
 have ad := b1.below au
 refine dT (i := 0) rfl rfl (by kernel_rfl) (fun _ _ => zQ (v := (.pointer (some ⟨p, 0, none⟩))) rfl) ⟨h.bx.reads, ac, ad⟩ ?_
 refine dT (i := 1) rfl rfl (by kernel_rfl) (fun _ _ => yW rfl) ⟨h.bx.reads, ac, ad⟩ ?_
 refine dT (i := 2) rfl rfl (by kernel_rfl) (fun _ _ => zK (k := 0) rfl Tryz.underlying97 rfl nz95 rfl) ⟨h.bx.reads, ac, ad⟩ ?_
 refine dT (i := 3) rfl rfl (by kernel_rfl) (fun _ hS => zL (u := L) ag95 rfl (hS.1 0 _ rfl)) ⟨h.bx.reads, ac, ad⟩ ?_
 refine dT (i := 4) rfl rfl (by kernel_rfl) (fun _ _ => zQ (v := (vJ a)) rfl) ⟨h.bx.reads, ac, ad⟩ ?_
 refine dT (i := 5) rfl rfl (by kernel_rfl) (fun _ _ => zF Tryz.underlying95 sz56 (v := L) rfl rfl b2 (by omega) (by omega)) ⟨h.bx.reads, ac, ad⟩ ?_
 obtain ⟨af, ai, b4⟩ := nm_sl (hpk.ol.at (z := a) (by omega) (by omega)) (j := (a).toNat) rfl
 rw [jT] at ai
 have cl := ai.max
 refine dT (i := 6) rfl rfl (by kernel_rfl) (fun _ hS => b4 ag56 rfl hS.2.1) ⟨h.bx.reads, ac, ad⟩ ?_
 refine dT (i := 7) rfl rfl (by kernel_rfl) (fun _ _ => zQ (v := (.pointer (some ⟨p, 0, none⟩))) rfl) ⟨h.bx.reads, ac, ad⟩ ?_
 refine dT (i := 8) rfl rfl (by kernel_rfl) (fun _ _ => yW rfl) ⟨h.bx.reads, ac, ad⟩ ?_
 refine dT (i := 9) rfl rfl (by kernel_rfl) (fun _ _ => zK (k := 1) rfl Tryz.underlying97 rfl nz95 rfl) ⟨h.bx.reads, ac, ad⟩ ?_
 refine dT (i := 10) rfl rfl (by kernel_rfl) (fun _ hS => zL (u := R) ag95 rfl (hS.1 1 _ rfl)) ⟨h.bx.reads, ac, ad⟩ ?_
 refine dT (i := 11) rfl rfl (by kernel_rfl) (fun _ _ => zQ (v := (vJ a)) rfl) ⟨h.bx.reads, ac, ad⟩ ?_
 refine dT (i := 12) rfl rfl (by kernel_rfl) (fun _ _ => zF Tryz.underlying95 sz56 (v := R) rfl rfl b3 (by omega) (by omega)) ⟨h.bx.reads, ac, ad⟩ ?_
 obtain ⟨ag, aj, b5⟩ := nm_sl (hpk.rr.at (z := a) (by omega) (by omega)) (j := (a).toNat) rfl
 rw [jS] at aj
 have cm := aj.max
 refine dT (i := 13) rfl rfl (by kernel_rfl) (fun _ hS => b5 ag56 rfl hS.2.2) ⟨h.bx.reads, ac, ad⟩ ?_
 refine dT (i := 14) rfl rfl (by kernel_rfl) (fun _ _ => xW (v := af) rfl) ⟨h.bx.reads, ac, ad⟩ ?_
 refine dT (i := 15) rfl rfl (by kernel_rfl) (fun _ _ => xW (v := ag) rfl) ⟨h.bx.reads, ac, ad⟩ ?_
 refine yQ (by kernel_rfl) (zA (zB (zB (zC ?_))))
 refine qM af ?_
 refine qD rfl (zM Tryz.underlying56 (v := af) rfl ai) (qD rfl (r_gtr rfl rfl) (qM (.bool (decide ((1 : Int) < (((q.ns.getD (a).toNat default).l).length : Int)))) ?_))
 refine qbd (p := (1 : Int) < (((q.ns.getD (a).toNat default).l).length : Int)) (t := 28) rfl (fun b6 => ?_) (fun b6 => ?_)
 refine qW ?_
 refine qW ?_
 refine qW ?_
 refine qD rfl (yD (v := (.bool true)) rfl rfl) (qe (zA ?_))
 refine xY rfl rfl (zB (zC ?_))
 refine qM (.bool false) ?_
 refine qe (zA ?_)
 exact wp_ret (zO (zP (v := (.bool false)) rfl rfl rfl (⟨q, _, congrArg (fun z => Ending.returned (Value.bool z)) ((decP_false.2 (fun g => by have h5 := (hnp.1 g).1; omega)).symm), h, hok, (PX.refl _), ⟨rfl, rfl⟩, a7⟩)))
 refine qN (zQ (v := ag) rfl) ?_
 refine qN (zM Tryz.underlying56 (v := ag) rfl aj) ?_
 refine qN (r_gtr rfl rfl) ?_
 refine qD rfl (zY (v := (.bool (decide ((1 : Int) < (((q.ns.getD (a).toNat default).r).length : Int))))) rfl rfl) (qe (zA ?_))
 refine yA (p := (1 : Int) < (((q.ns.getD (a).toNat default).r).length : Int)) rfl rfl (fun b7 => ?_) (fun b7 => ?_)
 refine zB (zC ?_)
 refine qM (.bool false) ?_
 refine qe (zA ?_)
 exact wp_ret (zO (zP (v := (.bool false)) rfl rfl rfl (⟨q, _, congrArg (fun z => Ending.returned (Value.bool z)) ((decP_false.2 (fun g => by have h5 := (hnp.1 g).1; omega)).symm), h, hok, (PX.refl _), ⟨rfl, rfl⟩, a7⟩)))
 refine wp_skip (zA (zB (zB (zC ?_))))
 refine qM af ?_
 refine qD rfl (zM Tryz.underlying56 (v := af) rfl ai) (qM (vJ 0) ?_)
 refine qe (zA ?_)
 refine zX (yT (fun (k : Nat) (en : Nat → Value) (W : World) => ∃ (av : Nat → Value) (j : Nat) (aa : PSt) (ao : Pin), en = (upd (upd (upd (upd (upd (upd av 0 (.pointer (some ⟨p, 0, none⟩))) 5 af) 6 ag) 33 af) 34 (vJ (((q.ns.getD (a).toNat default).l).length : Int))) 35 (vJ (j : Int))) ∧ k = (q.ns.getD (a).toNat default).l.length - j ∧ Ext (inO (some mm.o)) G w ao W ∧ Pin.le G ao ∧ (j ≤ (q.ns.getD (a).toNat default).l.length) ∧ (∀ x, x < j → NumD (pd q ((q.ns.getD (a).toNat default).l.getD x 0))) ∧ (Pk 56 3 ao W p L R B mm aa) ∧ (PoolOk aa) ∧ (PX q aa) ∧ (aa.ns = q.ns ∧ aa.bs = q.bs)) _ ⟨_, 0, q, G, (pS 35 (pS 34 (pS 33 (pS 6 (pS 5 (pU 0)))))), rfl, a7, Pin.le_refl _, Nat.zero_le _, (fun x hx => absurd hx (Nat.not_lt_zero x)), h, hok, (PX.refl _), ⟨rfl, rfl⟩⟩ ?_)
 rintro cn _ co ⟨av, j, aa, ao, rfl, cp, a2, aw, hjj, hpj, bk, a3, an, ab⟩
 have cq := an.len
 have cr : (aa.ns.map Nd.l).length = aa.ns.length ∧ (aa.ns.map Nd.r).length = aa.ns.length := ⟨List.length_map .., List.length_map ..⟩
 have cs : aa.bs.length = aa.ns.length ∧ aa.ns.length ≤ 1048576 := ⟨a3.ar.ok.len, a3.ar.ok.lim⟩
 refine zB (zC ?_)
 refine qD rfl (yV rfl rfl) (qe (zA (zB ?_)))
 refine yA (p := ((j : Int) : Int) < (((q.ns.getD (a).toNat default).l).length : Int)) rfl rfl (fun b8 => ?_) (fun b8 => ?_)
 refine wp_skip (zA (zB ?_))
 refine zX (zB (zC ?_))
 refine qD rfl (zF Tryz.underlying56 sz3 (v := af) rfl rfl ai (by omega) (by omega)) (qD rfl (zE (r := ((q.ns.getD (a).toNat default).l).getD j 0) rfl ag3 (z := (j : Int)) rfl ai (Pins.of_le a2.pins aw) (by omega) (by omega)) (qM (vJ (((q.ns.getD (a).toNat default).l).getD j 0)) ?_))
 refine qe (zA (zB (zC ?_)))
 refine qM (.pointer (some ⟨p, 0, none⟩)) ?_
 refine qM (vJ (((q.ns.getD (a).toNat default).l).getD j 0)) ?_
 have bl : (q.ns.getD (a).toNat default).l.getD j 0 ∈ (q.ns.getD (a).toNat default).l := yC (show j < (q.ns.getD (a).toNat default).l.length by omega)
 have ct := hopl _ bl
 refine qI rfl (zH (vs := [(.pointer (some ⟨p, 0, none⟩)), (vJ (((q.ns.getD (a).toNat default).l).getD j 0))]) Tryz.func76 nm76 rfl rfl rfl ?_)
 refine Calls.mono (ih a2.pins bk a3 ⟨by omega, by rw [ab.1]; omega⟩ (by rw [xJ ab]; exact hc.left ((lo_pd hok ha).2 ⟨_, bl, rfl⟩)) (by omega)) ?_
 rintro _ cu ⟨ak, b9, rfl, bm, a4, a8, a9, bn⟩
 refine ⟨_, rfl, ?_⟩
 have bo := a2.trans bn (fun i hi => xK i hi)
 have cv := a8.len
 have cw : (ak.ns.map Nd.l).length = ak.ns.length ∧ (ak.ns.map Nd.r).length = ak.ns.length := ⟨List.length_map .., List.length_map ..⟩
 have cx : ak.bs.length = ak.ns.length ∧ ak.ns.length ≤ 1048576 := ⟨a4.ar.ok.len, a4.ar.ok.lim⟩
 have cy := congrArg List.length a9.1
 refine qD rfl (xE rfl) (qe (zA ?_))
 refine xX rfl rfl (fun ba => ?_) (fun ba => ?_)
 refine wp_skip (yB (zA (zC ?_)))
 refine qD rfl (yJ rfl rfl (by omega)) (qM (vJ ((j : Int) + 1)) ?_)
 refine qe (zZ (⟨_, ?_, _, rfl, _, j + 1, ak, b9, (pS 35 (pS 34 (pS 33 (pS 6 (pS 5 (pU 0)))))), rfl, bo, (Pin.le_trans aw bn.le), (by omega), (fun x h2 => if h3 : x = j then h3 ▸ (by have h5 := decP_true.1 ba; rwa [xJ ab] at h5) else hpj x (by omega)), bm, a4, (PX.trans an a8), (zN ab a9)⟩))
 omega
 refine zB (zC ?_)
 refine qM (.bool false) ?_
 refine qe (zA ?_)
 exact wp_ret (zO (zP (v := (.bool false)) rfl rfl rfl (⟨ak, _, congrArg (fun z => Ending.returned (Value.bool z)) ((decP_false.2 (fun g => by have h5 := decP_false.1 ba; rw [xJ ab] at h5; exact h5 ((hnp.1 g).2.1 j (by omega)))).symm), bm, a4, (PX.trans an a8), (zN ab a9), bo⟩)))
 refine wp_exit (zW (yO (yI (zA (zB (zB (zC ?_)))))))
 refine qM ag ?_
 refine qD rfl (zM Tryz.underlying56 (v := ag) rfl aj) (qM (vJ 0) ?_)
 refine qe (zA ?_)
 refine zX (yT (fun (k : Nat) (en : Nat → Value) (W : World) => ∃ (av : Nat → Value) (i : Nat) (y : PSt) (ax : Pin), en = (upd (upd (upd (upd (upd (upd av 0 (.pointer (some ⟨p, 0, none⟩))) 5 af) 6 ag) 44 ag) 45 (vJ (((q.ns.getD (a).toNat default).r).length : Int))) 46 (vJ (i : Int))) ∧ k = (q.ns.getD (a).toNat default).r.length - i ∧ Ext (inO (some mm.o)) G w ax W ∧ Pin.le ao ax ∧ (i ≤ (q.ns.getD (a).toNat default).r.length) ∧ (∀ x, x < i → NumD (pd q ((q.ns.getD (a).toNat default).r.getD x 0))) ∧ (Pk 56 3 ax W p L R B mm y) ∧ (PoolOk y) ∧ (PX aa y) ∧ (y.ns = aa.ns ∧ y.bs = aa.bs)) _ ⟨_, 0, aa, ao, (pS 46 (pS 45 (pS 44 (pS 6 (pS 5 (pU 0)))))), rfl, a2, Pin.le_refl _, Nat.zero_le _, (fun x hx => absurd hx (Nat.not_lt_zero x)), bk, a3, (PX.refl _), ⟨rfl, rfl⟩⟩ ?_)
 rintro cz _ bc ⟨av, i, y, ax, rfl, c0, ay, a5, hji, hpi, bp, ap, aq, ah⟩
 have c1 := aq.len
 have c2 : (y.ns.map Nd.l).length = y.ns.length ∧ (y.ns.map Nd.r).length = y.ns.length := ⟨List.length_map .., List.length_map ..⟩
 have c3 : y.bs.length = y.ns.length ∧ y.ns.length ≤ 1048576 := ⟨ap.ar.ok.len, ap.ar.ok.lim⟩
 refine zB (zC ?_)
 refine qD rfl (yV rfl rfl) (qe (zA (zB ?_)))
 refine yA (p := ((i : Int) : Int) < (((q.ns.getD (a).toNat default).r).length : Int)) rfl rfl (fun ca => ?_) (fun ca => ?_)
 refine wp_skip (zA (zB ?_))
 refine zX (zB (zC ?_))
 refine qD rfl (zF Tryz.underlying56 sz3 (v := ag) rfl rfl aj (by omega) (by omega)) (qD rfl (zE (r := ((q.ns.getD (a).toNat default).r).getD i 0) rfl ag3 (z := (i : Int)) rfl aj (Pins.of_le ay.pins (Pin.le_trans aw a5)) (by omega) (by omega)) (qM (vJ (((q.ns.getD (a).toNat default).r).getD i 0)) ?_))
 refine qe (zA (zB (zC ?_)))
 refine qM (.pointer (some ⟨p, 0, none⟩)) ?_
 refine qM (vJ (((q.ns.getD (a).toNat default).r).getD i 0)) ?_
 have bq : (q.ns.getD (a).toNat default).r.getD i 0 ∈ (q.ns.getD (a).toNat default).r := yC (show i < (q.ns.getD (a).toNat default).r.length by omega)
 have c4 := hopr _ bq
 refine qI rfl (zH (vs := [(.pointer (some ⟨p, 0, none⟩)), (vJ (((q.ns.getD (a).toNat default).r).getD i 0))]) Tryz.func76 nm76 rfl rfl rfl ?_)
 refine Calls.mono (ih ay.pins bp ap ⟨by omega, by rw [(zN ab ah).1]; omega⟩ (by rw [xJ (zN ab ah)]; exact hc.right ((ro_pd hok ha).2 ⟨_, bq, rfl⟩)) (by omega)) ?_
 rintro _ c5 ⟨al, cb, rfl, br, a6, bd, be, bt⟩
 refine ⟨_, rfl, ?_⟩
 have bu := ay.trans bt (fun i hi => xK i hi)
 have c6 := bd.len
 have c7 : (al.ns.map Nd.l).length = al.ns.length ∧ (al.ns.map Nd.r).length = al.ns.length := ⟨List.length_map .., List.length_map ..⟩
 have c8 : al.bs.length = al.ns.length ∧ al.ns.length ≤ 1048576 := ⟨a6.ar.ok.len, a6.ar.ok.lim⟩
 have c9 := congrArg List.length be.1
 refine qD rfl (xE rfl) (qe (zA ?_))
 refine xX rfl rfl (fun bf => ?_) (fun bf => ?_)
 refine wp_skip (yB (zA (zC ?_)))
 refine qD rfl (yJ rfl rfl (by omega)) (qM (vJ ((i : Int) + 1)) ?_)
 refine qe (zZ (⟨_, ?_, _, rfl, _, i + 1, al, cb, (pS 46 (pS 45 (pS 44 (pS 6 (pS 5 (pU 0)))))), rfl, bu, (Pin.le_trans a5 bt.le), (by omega), (fun x h2 => if h3 : x = i then h3 ▸ (by have h5 := decP_true.1 bf; rwa [xJ (zN ab ah)] at h5) else hpi x (by omega)), br, a6, (PX.trans aq bd), (zN ah be)⟩))
 omega
 refine zB (zC ?_)
 refine qM (.bool false) ?_
 refine qe (zA ?_)
 exact wp_ret (zO (zP (v := (.bool false)) rfl rfl rfl (⟨al, _, congrArg (fun z => Ending.returned (Value.bool z)) ((decP_false.2 (fun g => by have h5 := decP_false.1 bf; rw [xJ (zN ab ah)] at h5; exact h5 ((hnp.1 g).2.2.1 i (by omega)))).symm), br, a6, (PX.trans (PX.trans an aq) bd), (zN (zN ab ah) be), bu⟩)))
 refine wp_exit (zW (yO (yI (zA (zB ?_)))))
 refine yZ (S := fun wz => Pins ax wz) (last := 20) (by kernel_rfl) rfl ?_
 have bg : Below bc.heap.size bc bc.drew := (Below.refl _ _).drew
 have bv := ay.pins.below bg
 have d := ay.step bv bg
 have bh := bp.below bg bv
 refine dM 0 af d.pins ?_
 refine dT (i := 1) rfl rfl (by kernel_rfl) (fun _ _ => zM Tryz.underlying56 (v := af) rfl ai) d.pins ?_
 refine dT (i := 2) rfl rfl (by kernel_rfl) (fun _ _ => xV rfl rfl) d.pins ?_
 refine dM 3 (.bool (decide (((((q.ns.getD (a).toNat default).l).length : Int) : Int) = 0))) d.pins ?_
 refine drbd (p := ((((q.ns.getD (a).toNat default).l).length : Int) : Int) = 0) (t := 58) rfl (fun cc => ?_) (fun cc => ?_)
 refine yP (i := 4) rfl rfl (yU rfl rfl rfl rfl rfl) (by kernel_rfl) d.pins (yP (i := 5) rfl rfl (yU rfl rfl rfl rfl rfl) (by kernel_rfl) d.pins (yP (i := 6) rfl rfl (yU rfl rfl rfl rfl rfl) (by kernel_rfl) d.pins (dT (i := 7) rfl rfl (by kernel_rfl) (fun _ _ => yD (v := (.bool true)) rfl rfl) d.pins ?_)))
 refine dM 8 (.bool true) d.pins ?_
 refine yP (i := 9) rfl rfl (yU rfl rfl rfl rfl rfl) (by kernel_rfl) d.pins (yP (i := 10) rfl rfl (yU rfl rfl rfl rfl rfl) (by kernel_rfl) d.pins (yP (i := 11) rfl rfl (yU rfl rfl rfl rfl rfl) (by kernel_rfl) d.pins (yP (i := 12) rfl rfl (yU rfl rfl rfl rfl rfl) (by kernel_rfl) d.pins (yP (i := 13) rfl rfl (yU rfl rfl rfl rfl rfl) (by kernel_rfl) d.pins (yP (i := 14) rfl rfl (yU rfl rfl rfl rfl rfl) (by kernel_rfl) d.pins (yP (i := 15) rfl rfl (yU rfl rfl rfl rfl rfl) (by kernel_rfl) d.pins (yP (i := 16) rfl rfl (yU rfl rfl rfl rfl rfl) (by kernel_rfl) d.pins (yP (i := 17) rfl rfl (yU rfl rfl rfl rfl rfl) (by kernel_rfl) d.pins (dT (i := 18) rfl rfl (by kernel_rfl) (fun _ _ => yD (v := (.bool true)) rfl rfl) d.pins ?_)))))))))
 refine dM 19 (.bool true) d.pins ?_
 exact yQ (by kernel_rfl) (zA (wp_ret (zO (zP (v := (.bool true)) rfl rfl rfl (⟨y, _, congrArg (fun z => Ending.returned (Value.bool z)) ((decP_true.2 (hnp.2 ⟨⟨by omega, by omega⟩, fun x hx => hpj x (by omega), fun x hx => hpi x (by omega), (fun h1 h2 => by omega)⟩)).symm), bh, ap, (PX.trans an aq), (zN ab ah), d⟩)))))
 refine yY (i := 4) rfl rfl rfl (yS rfl rfl rfl rfl) (by kernel_rfl) (fun _ _ => zQ (v := ag) rfl) d.pins (yY (i := 5) rfl rfl rfl (yS rfl rfl rfl rfl) (by kernel_rfl) (fun _ _ => zM Tryz.underlying56 (v := ag) rfl aj) d.pins (yY (i := 6) rfl rfl rfl (yS rfl rfl rfl rfl) (by kernel_rfl) (fun _ _ => xV rfl rfl) d.pins (dT (i := 7) rfl rfl (by kernel_rfl) (fun _ _ => zY (v := (.bool (decide (((((q.ns.getD (a).toNat default).r).length : Int) : Int) = 0)))) rfl rfl) d.pins ?_)))
 refine dM 8 (.bool (decide (((((q.ns.getD (a).toNat default).r).length : Int) : Int) = 0))) d.pins ?_
 refine drbd (p := ((((q.ns.getD (a).toNat default).r).length : Int) : Int) = 0) (t := 63) rfl (fun ce => ?_) (fun ce => ?_)
 refine yP (i := 9) rfl rfl (yU rfl rfl rfl rfl rfl) (by kernel_rfl) d.pins (yP (i := 10) rfl rfl (yU rfl rfl rfl rfl rfl) (by kernel_rfl) d.pins (yP (i := 11) rfl rfl (yU rfl rfl rfl rfl rfl) (by kernel_rfl) d.pins (yP (i := 12) rfl rfl (yU rfl rfl rfl rfl rfl) (by kernel_rfl) d.pins (yP (i := 13) rfl rfl (yU rfl rfl rfl rfl rfl) (by kernel_rfl) d.pins (yP (i := 14) rfl rfl (yU rfl rfl rfl rfl rfl) (by kernel_rfl) d.pins (yP (i := 15) rfl rfl (yU rfl rfl rfl rfl rfl) (by kernel_rfl) d.pins (yP (i := 16) rfl rfl (yU rfl rfl rfl rfl rfl) (by kernel_rfl) d.pins (yP (i := 17) rfl rfl (yU rfl rfl rfl rfl rfl) (by kernel_rfl) d.pins (dT (i := 18) rfl rfl (by kernel_rfl) (fun _ _ => yD (v := (.bool true)) rfl rfl) d.pins ?_)))))))))
 refine dM 19 (.bool true) d.pins ?_
 exact yQ (by kernel_rfl) (zA (wp_ret (zO (zP (v := (.bool true)) rfl rfl rfl (⟨y, _, congrArg (fun z => Ending.returned (Value.bool z)) ((decP_true.2 (hnp.2 ⟨⟨by omega, by omega⟩, fun x hx => hpj x (by omega), fun x hx => hpi x (by omega), (fun h1 h2 => by omega)⟩)).symm), bh, ap, (PX.trans an aq), (zN ab ah), d⟩)))))
 refine yY (i := 9) rfl rfl rfl (yS rfl rfl rfl rfl) (by kernel_rfl) (fun _ _ => zQ (v := (.pointer (some ⟨p, 0, none⟩))) rfl) d.pins (yY (i := 10) rfl rfl rfl (yS rfl rfl rfl rfl) (by kernel_rfl) (fun _ _ => zQ (v := af) rfl) d.pins (yY (i := 11) rfl rfl rfl (yS rfl rfl rfl rfl) (by kernel_rfl) (fun _ _ => zF Tryz.underlying56 sz3 (v := af) rfl rfl ai (by omega) (by omega)) d.pins (yY (i := 12) rfl rfl rfl (yS rfl rfl rfl rfl) (by kernel_rfl) (fun _ hS => zE (r := ((q.ns.getD (a).toNat default).l).getD 0 0) rfl ag3 (z := 0) rfl ai (Pins.of_le hS (Pin.le_trans aw a5)) (by omega) (by omega)) d.pins (yY (i := 13) rfl rfl rfl (yS rfl rfl rfl rfl) (by kernel_rfl) (fun _ _ => zQ (v := ag) rfl) d.pins (yY (i := 14) rfl rfl rfl (yS rfl rfl rfl rfl) (by kernel_rfl) (fun _ _ => zF Tryz.underlying56 sz3 (v := ag) rfl rfl aj (by omega) (by omega)) d.pins (yY (i := 15) rfl rfl rfl (yS rfl rfl rfl rfl) (by kernel_rfl) (fun _ hS => zE (r := ((q.ns.getD (a).toNat default).r).getD 0 0) rfl ag3 (z := 0) rfl aj (Pins.of_le hS (Pin.le_trans aw a5)) (by omega) (by omega)) d.pins ?_))))))
 have hm0l : (q.ns.getD (a).toNat default).l.getD 0 0 ∈ (q.ns.getD (a).toNat default).l := yC (by omega)
 have hm0r : (q.ns.getD (a).toNat default).r.getD 0 0 ∈ (q.ns.getD (a).toNat default).r := yC (by omega)
 have hb0l := hopl _ hm0l
 have hb0r := hopr _ hm0r
 refine dO (i := 16) (zU (i := 16) rfl rfl rfl (yS rfl rfl rfl rfl) (zH (vs := [(.pointer (some ⟨p, 0, none⟩)), (vJ (((q.ns.getD (a).toNat default).l).getD 0 0)), (vJ (((q.ns.getD (a).toNat default).r).getD 0 0))]) Tryz.func97 nm97 rfl rfl rfl ?_))
 refine Calls.mono (ge_spec d.pins bh ap ⟨by omega, by rw [(zN ab ah).1]; omega⟩ ⟨by omega, by rw [(zN ab ah).1]; omega⟩) ?_
 rintro _ da ⟨am, db, rfl, cf, bi, bw, bz, az⟩
 refine ⟨_, rfl, ?_⟩
 have a0 := d.trans az (fun i hi => xK i hi)
 have dc := bw.len
 have dd : (am.ns.map Nd.l).length = am.ns.length ∧ (am.ns.map Nd.r).length = am.ns.length := ⟨List.length_map .., List.length_map ..⟩
 have de : am.bs.length = am.ns.length ∧ am.ns.length ≤ 1048576 := ⟨bi.ar.ok.len, bi.ar.ok.lim⟩
 have df := congrArg List.length bz.1
 refine ⟨fun _ => (Pins.of_le a0.pins az.le), ?_⟩
 refine yY (i := 17) rfl rfl rfl (yS rfl rfl rfl rfl) (by kernel_rfl) (fun _ _ => xE rfl) (Pins.of_le a0.pins az.le) (dT (i := 18) rfl rfl (by kernel_rfl) (fun _ _ => zY (v := (.bool (!(geB y.ns (((q.ns.getD (a).toNat default).l).getD 0 0) (((q.ns.getD (a).toNat default).r).getD 0 0))))) rfl rfl) (Pins.of_le a0.pins az.le) ?_)
 refine dM 19 (.bool (!(geB y.ns (((q.ns.getD (a).toNat default).l).getD 0 0) (((q.ns.getD (a).toNat default).r).getD 0 0)))) (Pins.of_le a0.pins az.le) ?_
 refine yQ (by kernel_rfl) (zA (wp_ret (zO (zP (v := (.bool (!(geB y.ns (((q.ns.getD (a).toNat default).l).getD 0 0) (((q.ns.getD (a).toNat default).r).getD 0 0))))) rfl rfl rfl ?_))))
 exact ⟨am, _, congrArg (fun z => Ending.returned (Value.bool z)) ((by
   have hgq := xR (a := (q.ns.getD (a).toNat default).l.getD 0 0) (b := (q.ns.getD (a).toNat default).r.getD 0 0) (zN ab ah)
   rw [hgq]
   cases hgv : geB q.ns ((q.ns.getD (a).toNat default).l.getD 0 0) ((q.ns.getD (a).toNat default).r.getD 0 0) with
   | true => exact (decP_false.2 (fun g => by have h5 := (hnp.1 g).2.2.2 (by omega) (by omega); rw [hgv] at h5; cases h5)).symm
   | false => exact (decP_true.2 (hnp.2 ⟨⟨by omega, by omega⟩, fun x hx => hpj x (by omega), fun x hx => hpi x (by omega), (fun _ _ => hgv)⟩)).symm)), cf, bi, (PX.trans (PX.trans an aq) bw), (zN (zN ab ah) bz), a0⟩

theorem isn_all {p : Nat} {L R B : Value} {mm : PM} : ∀ m, IsnP m p L R B mm
 | 0 => fun _ _ _ _ _ h => absurd h (Nat.not_lt_zero _)
 | m + 1 => fun hP hpk hok ha hc hm => isNumber_step hP hpk hok ha hc (isn_all m) hm
theorem isNumber_spec {p : Nat} {L R B : Value} {mm : PM} {w : World} {G : Pin} {q : PSt} {a : Int} (hP : Pins G w) (hpk : Pk 56 3 G w p L R B mm q) (hok : PoolOk q) (ha : PlaceOk q a) (hc : CanonG (pd q a)) :
  Calls Tryz.prog 76 [(.pointer (some ⟨p, 0, none⟩)), (.int .i64 a)].toArray w fun e w' => ∃ (q' : PSt) (G' : Pin), e = .returned (.bool (decP (NumD (pd q a)))) ∧ Pk 56 3 G' w' p L R B mm q' ∧ PoolOk q' ∧ PX q q' ∧ (q'.ns = q.ns ∧ q'.bs = q.bs) ∧ Ext (inO (some mm.o)) G w G' w' :=
 isn_all _ hP hpk hok ha hc (Nat.lt_succ_self _)

end VA1
end Go.Proofs.YtakkjmlnmcemaaaGreatDoor

set_option maxRecDepth 20000
set_option maxHeartbeats 2000000
namespace Go.Proofs.YtakkjmlnmcemaaaGreatDoor
namespace VA2
open Go.RowKit Go.GL Go.Proofs
open B1 C1 D1 E1 K1 PO1 PL1 NU1 NU2






theorem pl27 : (Tryz.prog.underlying 27).bind (placesD Tryz.prog) = some [(0, 1), (1, 1)] := by kernel_rfl


theorem jQ {w : World} {G : Pin} {t z : Int} (hP : Pins G w) (ht : -10000000 ≤ t ∧ t ≤ 10000000) (hz : 0 ≤ z ∧ z ≤ 16) :
  Calls Tryz.prog 48 [(.agg [(.int .i64 t), (.int .i64 z)].toArray)].toArray w fun e w' => ∃ G', e = .returned (.int .i64 (scI 16 t z)) ∧ Ext noS G w G' w' := by
 refine zV (n := 9) Tryz.func48 Tryz.ntmps48 rfl rfl ?_
 have a : Ext noS G w G w := Ext.refl hP
 have hsl := shl_lim (t := t) (k := (16 - z).toNat) ht (by omega)
 refine zB (zC ?_)
 refine qI rfl (xG [(.int .i64 t), (.int .i64 z)] (v := (.agg [(.int .i64 t), (.int .i64 z)].toArray)) rfl rfl a.pins (fun d l m f g h => ?_))
 have i := a.step g h
 have j : w.heap.size ≤ d := by have := a.size; omega
 obtain ⟨o, p, b, c, q⟩ := f.shut i j
 refine qM (.int .i64 0) ?_
 refine qe (zA (zB (zC ?_)))
 refine qD rfl (zK (k := 0) rfl Tryz.underlying27 rfl nz3 rfl) (qD rfl (zL (u := (.int .i64 t)) ag3 rfl (b.pins _ _ _ (c 0 _ rfl))) (qD rfl (zK (k := 1) rfl Tryz.underlying27 rfl nz3 rfl) (qD rfl (zL (u := (.int .i64 z)) ag3 rfl (b.pins _ _ _ (c 1 _ rfl))) (qD rfl (qE rfl rfl (by omega)) (qD rfl (r_shlI rfl rfl (by omega) (by omega)) (qM (.int .i64 (t * 2 ^ (16 - z : Int).toNat)) ?_))))))
 refine qe (zA ?_)
 exact wp_ret (zO (zP (v := (.int .i64 (t * 2 ^ (16 - z : Int).toNat))) rfl rfl rfl (⟨_, rfl, b⟩)))

theorem addDyadic_spec {w : World} {G : Pin} {t z s y : Int} (hP : Pins G w) (hg1 : GoodD t z) (hg2 : GoodD s y) :
  Calls Tryz.prog 91 [(.agg [(vJ t), (vJ z)].toArray), (.agg [(vJ s), (vJ y)].toArray)].toArray w fun e w' => ∃ G', e = .returned (.tuple #[.agg [.int .i64 (lowR (decP (GoodD (lowD 16 (scI 16 t z + scI 16 s y)).1 (((lowD 16 (scI 16 t z + scI 16 s y)).2 : Nat) : Int))) (lowD 16 (scI 16 t z + scI 16 s y)).1), .int .i64 (lowR (decP (GoodD (lowD 16 (scI 16 t z + scI 16 s y)).1 (((lowD 16 (scI 16 t z + scI 16 s y)).2 : Nat) : Int))) (((lowD 16 (scI 16 t z + scI 16 s y)).2 : Nat) : Int))].toArray, .bool (decP (GoodD (lowD 16 (scI 16 t z + scI 16 s y)).1 (((lowD 16 (scI 16 t z + scI 16 s y)).2 : Nat) : Int)))]) ∧ Ext noS G w G' w' := by
 refine zV (n := 23) Tryz.func91 Tryz.ntmps91 rfl rfl ?_
 have o : Ext noS G w G w := Ext.refl hP
 have h1t := hg1.top
 have h1p := hg1.pow
 have h2t := hg2.top
 have h2p := hg2.pow
 have bh := scI_lim (D := 16) (t := t) (z := z) (by omega) (by omega)
 have bi := scI_lim (D := 16) (t := s) (z := y) (by omega) (by omega)
 refine zB (zC ?_)
 refine qI rfl (xG [(vJ t), (vJ z)] (v := (.agg [(vJ t), (vJ z)].toArray)) rfl rfl o.pins (fun b1 w2 bk ao ap aq => ?_))
 have ar := o.step ap aq
 have au : w.heap.size ≤ b1 := by have := o.size; omega
 obtain ⟨G9, bm, q, ag, bn⟩ := ao.shut ar au
 refine qI rfl (xG [(vJ s), (vJ y)] (v := (.agg [(vJ s), (vJ y)].toArray)) rfl rfl q.pins (fun av bo bp aw ax ay => ?_))
 have az := q.step ax ay
 have a0 : w.heap.size ≤ av := by have := q.size; omega
 obtain ⟨bq, ah, r, ai, br⟩ := aw.shut az a0
 refine qI rfl (yM [(vJ 0), (vJ 0)] zr27 rfl r.pins (fun a1 bs bt a2 a3 a4 => ?_))
 have x := r.step a3 a4
 have a5 : w.heap.size ≤ a1 := by have := r.size; omega
 refine qM (.bool false) ?_
 refine qe (zA (zB (zB (zC ?_))))
 refine qD rfl (yH (cs := [(vJ t), (vJ z)]) ag27 sz27 rfl (fun j u hj => (Pins.of_le x.pins ah) _ _ _ (ag _ _ (by simpa using hj)))) (qI rfl (zH (vs := [(.agg [(vJ t), (vJ z)].toArray)]) Tryz.func34 nm34 rfl rfl rfl ?_))
 refine Calls.mono (qL (t := t) (z := z) x.pins) ?_
 rintro _ bu ⟨bv, rfl, d⟩
 refine ⟨_, rfl, ?_⟩
 have g := x.tr d
 have aj := a2.ext d
 refine qD rfl (xE rfl) (qM (.bool (!(decP (GoodD t z)))) ?_)
 refine qbn (t := 9) rfl (fun ak => ?_) (fun ak => ?_)
 refine qN (yH (cs := [(vJ s), (vJ y)]) ag27 sz27 rfl (fun j u hj => (Pins.of_le g.pins d.le) _ _ _ (ai _ _ (by simpa using hj)))) ?_
 refine q1g rfl rfl rfl rfl rfl rfl (zH (vs := [(.agg [(vJ s), (vJ y)].toArray)]) Tryz.func34 nm34 rfl rfl rfl ?_)
 refine Calls.mono (qL (t := s) (z := y) g.pins) ?_
 rintro _ aa ⟨a6, rfl, k⟩
 refine ⟨_, rfl, ?_⟩
 have ab := g.tr k
 have al := aj.ext k
 refine qN (xE rfl) ?_
 refine qD rfl (zY (v := (.bool (!(decP (GoodD s y))))) rfl rfl) (qe (zA ?_))
 refine xX rfl rfl (fun am => ?_) (fun am => ?_)
 refine wp_skip (zA (zB ?_))
 refine yZ (S := fun wz => Pins a6 wz) (last := 10) (by kernel_rfl) rfl ?_
 have ac : Below aa.heap.size aa aa.drew := (Below.refl _ _).drew
 have a7 := ab.pins.below ac
 have l := ab.step a7 ac
 have a8 := al.below ac
 refine dT (i := 0) rfl rfl (by kernel_rfl) (fun _ hS => yH (cs := [(vJ t), (vJ z)]) ag27 sz27 rfl (fun j u hj => (Pins.of_le hS (Pin.le_trans (Pin.le_trans ah d.le) k.le)) _ _ _ (ag _ _ (by simpa using hj)))) l.pins ?_
 refine dT (i := 2) rfl rfl (by kernel_rfl) (fun _ hS => yH (cs := [(vJ s), (vJ y)]) ag27 sz27 rfl (fun j u hj => (Pins.of_le hS (Pin.le_trans d.le k.le)) _ _ _ (ai _ _ (by simpa using hj)))) l.pins ?_
 refine dO (i := 1) (zU (i := 1) rfl rfl rfl (zD rfl _) (zH (vs := [(.agg [(vJ t), (vJ z)].toArray)]) Tryz.func48 nm48 rfl rfl rfl ?_))
 refine Calls.mono (jQ (t := t) (z := z) l.pins (by omega) (by omega)) ?_
 rintro _ bw ⟨bx, rfl, a⟩
 refine ⟨_, rfl, ?_⟩
 have ad := l.tr a
 have a9 := a8.ext a
 refine ⟨fun _ => (Pins.of_le ad.pins a.le), ?_⟩
 refine dO (i := 3) (zU (i := 3) rfl rfl rfl (zD rfl _) (zH (vs := [(.agg [(vJ s), (vJ y)].toArray)]) Tryz.func48 nm48 rfl rfl rfl ?_))
 refine Calls.mono (jQ (t := s) (z := y) ad.pins (by omega) (by omega)) ?_
 rintro _ bz ⟨b0, rfl, b⟩
 refine ⟨_, rfl, ?_⟩
 have m := ad.tr b
 have ba := a9.ext b
 refine ⟨fun _ => (Pins.of_le m.pins (Pin.le_trans a.le b.le)), ?_⟩
 refine dT (i := 4) rfl rfl (by kernel_rfl) (fun _ _ => yJ rfl rfl (by omega)) (Pins.of_le m.pins (Pin.le_trans a.le b.le)) ?_
 refine dO (i := 5) (zU (i := 5) rfl rfl rfl (zD rfl _) (zH (vs := [(vJ ((scI 16 t z) + (scI 16 s y))), (vJ 16)]) Tryz.func92 nm92 rfl rfl rfl ?_))
 refine Calls.mono (lowest_spec (t := (scI 16 t z) + (scI 16 s y)) (p := 16) m.pins (by omega) (by omega)) ?_
 rintro _ b2 ⟨b3, rfl, c⟩
 refine ⟨_, rfl, ?_⟩
 have f := m.tr c
 have bb := ba.ext c
 refine ⟨fun _ => (Pins.of_le f.pins (Pin.le_trans (Pin.le_trans a.le b.le) c.le)), ?_⟩
 refine dT (i := 6) rfl rfl (by kernel_rfl) (fun _ _ => yE (v := (.agg [(vJ (lowR (decP (GoodD (lowD 16 ((scI 16 t z) + (scI 16 s y))).1 (((lowD 16 ((scI 16 t z) + (scI 16 s y))).2 : Nat) : Int))) (lowD 16 ((scI 16 t z) + (scI 16 s y))).1)), (vJ (lowR (decP (GoodD (lowD 16 ((scI 16 t z) + (scI 16 s y))).1 (((lowD 16 ((scI 16 t z) + (scI 16 s y))).2 : Nat) : Int))) (((lowD 16 ((scI 16 t z) + (scI 16 s y))).2 : Nat) : Int)))].toArray)) rfl rfl) (Pins.of_le f.pins (Pin.le_trans (Pin.le_trans a.le b.le) c.le)) ?_
 refine dT (i := 7) rfl rfl (by kernel_rfl) (fun _ _ => yE (v := (.bool (decP (GoodD (lowD 16 ((scI 16 t z) + (scI 16 s y))).1 (((lowD 16 ((scI 16 t z) + (scI 16 s y))).2 : Nat) : Int))))) rfl rfl) (Pins.of_le f.pins (Pin.le_trans (Pin.le_trans a.le b.le) c.le)) ?_
 refine dO (i := 8) (qB (i := 8) rfl rfl rfl (zD rfl _) (yF (cs' := [(vJ (lowR (decP (GoodD (lowD 16 ((scI 16 t z) + (scI 16 s y))).1 (((lowD 16 ((scI 16 t z) + (scI 16 s y))).2 : Nat) : Int))) (lowD 16 ((scI 16 t z) + (scI 16 s y))).1)), (vJ (lowR (decP (GoodD (lowD 16 ((scI 16 t z) + (scI 16 s y))).1 (((lowD 16 ((scI 16 t z) + (scI 16 s y))).2 : Nat) : Int))) (((lowD 16 ((scI 16 t z) + (scI 16 s y))).2 : Nat) : Int)))]) (us := [(vJ (lowR (decP (GoodD (lowD 16 ((scI 16 t z) + (scI 16 s y))).1 (((lowD 16 ((scI 16 t z) + (scI 16 s y))).2 : Nat) : Int))) (lowD 16 ((scI 16 t z) + (scI 16 s y))).1)), (vJ (lowR (decP (GoodD (lowD 16 ((scI 16 t z) + (scI 16 s y))).1 (((lowD 16 ((scI 16 t z) + (scI 16 s y))).2 : Nat) : Int))) (((lowD 16 ((scI 16 t z) + (scI 16 s y))).2 : Nat) : Int)))]) (v := (.agg [(vJ (lowR (decP (GoodD (lowD 16 ((scI 16 t z) + (scI 16 s y))).1 (((lowD 16 ((scI 16 t z) + (scI 16 s y))).2 : Nat) : Int))) (lowD 16 ((scI 16 t z) + (scI 16 s y))).1)), (vJ (lowR (decP (GoodD (lowD 16 ((scI 16 t z) + (scI 16 s y))).1 (((lowD 16 ((scI 16 t z) + (scI 16 s y))).2 : Nat) : Int))) (((lowD 16 ((scI 16 t z) + (scI 16 s y))).2 : Nat) : Int)))].toArray)) sz27 rfl rfl rfl (yK (by rfl) (by rfl)) f.pins bb (Nat.le_of_ble_eq_true rfl) rfl (fun b4 bc bd be b5 => ?_)))
 have ae := f.write bd be ((zS a5))
 refine ⟨fun _ => (Pins.of_le ae.pins (Pin.le_trans (Pin.le_trans a.le b.le) c.le)), ?_⟩
 refine dM 9 (.bool (decP (GoodD (lowD 16 ((scI 16 t z) + (scI 16 s y))).1 (((lowD 16 ((scI 16 t z) + (scI 16 s y))).2 : Nat) : Int)))) (Pins.of_le ae.pins (Pin.le_trans (Pin.le_trans a.le b.le) c.le)) ?_
 exact yQ (by kernel_rfl) (zA (wp_ret (zO (xL (cs := [(vJ (lowR (decP (GoodD (lowD 16 ((scI 16 t z) + (scI 16 s y))).1 (((lowD 16 ((scI 16 t z) + (scI 16 s y))).2 : Nat) : Int))) (lowD 16 ((scI 16 t z) + (scI 16 s y))).1)), (vJ (lowR (decP (GoodD (lowD 16 ((scI 16 t z) + (scI 16 s y))).1 (((lowD 16 ((scI 16 t z) + (scI 16 s y))).2 : Nat) : Int))) (((lowD 16 ((scI 16 t z) + (scI 16 s y))).2 : Nat) : Int)))]) (v := (.bool (decP (GoodD (lowD 16 ((scI 16 t z) + (scI 16 s y))).1 (((lowD 16 ((scI 16 t z) + (scI 16 s y))).2 : Nat) : Int))))) rfl rfl rfl rfl rfl ag27 sz27 (fun j u hj => by rw [Nat.zero_add]; exact bc.cell hj) (⟨_, rfl, ae⟩)))))
 refine zB (zC ?_)
 refine qD rfl (yG [(vJ 0), (vJ 0)] [(vJ 0), (vJ 0)] [] Tryz.underlying27 zr27 rfl pl27 rfl (fun _ h => by cases h) rfl) (q0 rfl rfl rfl (yF (cs' := [(vJ 0), (vJ 0)]) (us := [(vJ 0), (vJ 0)]) (v := (.agg [(vJ 0), (vJ 0)].toArray)) sz27 rfl rfl rfl (yK (by rfl) (by rfl)) ab.pins al (Nat.le_of_ble_eq_true rfl) rfl (fun b6 bf b7 b8 b9 => ?_)))
 refine qM (.bool false) ?_
 refine qe (zA ?_)
 refine wp_ret (zO (xL (cs := [(vJ 0), (vJ 0)]) (v := (.bool false)) rfl rfl rfl rfl rfl ag27 sz27 (fun j u hj => by rw [Nat.zero_add]; exact bf.cell hj) ?_))
 exfalso
 have h5 := decP_false.1 am
 exact h5 hg2
 refine qW ?_
 refine qW ?_
 refine qW ?_
 refine qD rfl (yD (v := (.bool true)) rfl rfl) (qe (zA ?_))
 refine xY rfl rfl (zB (zC ?_))
 refine qD rfl (yG [(vJ 0), (vJ 0)] [(vJ 0), (vJ 0)] [] Tryz.underlying27 zr27 rfl pl27 rfl (fun _ h => by cases h) rfl) (q0 rfl rfl rfl (yF (cs' := [(vJ 0), (vJ 0)]) (us := [(vJ 0), (vJ 0)]) (v := (.agg [(vJ 0), (vJ 0)].toArray)) sz27 rfl rfl rfl (yK (by rfl) (by rfl)) g.pins aj (Nat.le_of_ble_eq_true rfl) rfl (fun ca bg cb cc cd => ?_)))
 refine qM (.bool false) ?_
 refine qe (zA ?_)
 refine wp_ret (zO (xL (cs := [(vJ 0), (vJ 0)]) (v := (.bool false)) rfl rfl rfl rfl rfl ag27 sz27 (fun j u hj => by rw [Nat.zero_add]; exact bg.cell hj) ?_))
 exfalso
 have h5 := decP_false.1 ak
 exact h5 hg1

end VA2
end Go.Proofs.YtakkjmlnmcemaaaGreatDoor

set_option maxRecDepth 20000
set_option maxHeartbeats 2000000
namespace Go.Proofs.YtakkjmlnmcemaaaGreatDoor
namespace VA3
open Go.RowKit Go.GL Go.Proofs
open B1 C1 D1 E1 K1 PO1 PL1 NU1 NU2 VA1 VA2










theorem pl27 : (Tryz.prog.underlying 27).bind (placesD Tryz.prog) = some [(0, 1), (1, 1)] := by kernel_rfl




def ValP (m : Nat) (p : Nat) (L R B : Value) (mm : PM) : Prop := ∀ {w : World} {G : Pin} {q : PSt} {a : Int} (_ : Pins G w) (_ : Pk 56 3 G w p L R B mm q) (_ : PoolOk q) (_ : PlaceOk q a) (_ : CanonG (pd q a)), a.toNat < m →
  Calls Tryz.prog 66 [(.pointer (some ⟨p, 0, none⟩)), (.int .i64 a)].toArray w fun e w' => ∃ (q' : PSt) (G' : Pin), e = .returned (.tuple #[.agg [.int .i64 (vgT (pd q a)), .int .i64 (vgP (pd q a))].toArray, .bool (vgB (pd q a))]) ∧ Pk 56 3 G' w' p L R B mm q' ∧ PoolOk q' ∧ PX q q' ∧ (q'.ns = q.ns ∧ q'.bs = q.bs) ∧ Ext (inO (some mm.o)) G w G' w'

theorem valueOf_step {p : Nat} {L R B : Value} {mm : PM} {m : Nat} {w : World} {G : Pin} {q : PSt} {a : Int} (hP : Pins G w) (hpk : Pk 56 3 G w p L R B mm q) (hok : PoolOk q) (ha : PlaceOk q a) (hc : CanonG (pd q a)) (ih : ValP m p L R B mm) (hm : a.toNat < m + 1) :
  Calls Tryz.prog 66 [(.pointer (some ⟨p, 0, none⟩)), (vJ a)].toArray w fun e w' => ∃ (q' : PSt) (G' : Pin), e = .returned (.tuple #[.agg [.int .i64 (vgT (pd q a)), .int .i64 (vgP (pd q a))].toArray, .bool (vgB (pd q a))]) ∧ Pk 56 3 G' w' p L R B mm q' ∧ PoolOk q' ∧ PX q q' ∧ (q'.ns = q.ns ∧ q'.bs = q.bs) ∧ Ext (inO (some mm.o)) G w G' w' := by
 refine zV (n := 116) Tryz.func66 Tryz.ntmps66 rfl rfl ?_
 have cr : Ext (inO (some mm.o)) G w G w := Ext.refl hP
 have hpin : PIn w (inP p L R B mm) p L R B mm := PIn.self
 have jj : (q.ns.map Nd.l).length = q.ns.length ∧ (q.ns.map Nd.r).length = q.ns.length := ⟨List.length_map .., List.length_map ..⟩
 have jk : q.bs.length = q.ns.length ∧ q.ns.length ≤ 1048576 := ⟨hok.ar.ok.len, hok.ar.ok.lim⟩
 have jl := ha.1
 have jm := ha.2
 have d2 := hok.ar.ok.lens (a).toNat (by omega)
 have hopl := (xC hok.ar.opts (show (a).toNat < q.ns.length by omega)).1
 have hopr := (xC hok.ar.opts (show (a).toNat < q.ns.length by omega)).2
 have hnp := num_pool hok ha hc
 have hsl := pd_l hok ha
 have hsr := pd_r hok ha
 have hslr := pd_lr hok ha
 have hsnn := pd_nn hok ha
 obtain ⟨xs, hxs⟩ : ∃ l, l = (q.ns.getD (a).toNat default).l := ⟨_, rfl⟩
 obtain ⟨ys, hys⟩ : ∃ l, l = (q.ns.getD (a).toNat default).r := ⟨_, rfl⟩
 rw [← hxs] at d2 hopl hnp hsl hsr hslr hsnn
 rw [← hys] at d2 hopr hnp hsl hsr hslr hsnn
 refine zB (zC ?_)
 refine qI rfl (yM [(vJ 0), (vJ 0)] zr27 rfl cr.pins (fun b3 w4 gp gq d3 d4 => ?_))
 have d5 := cr.step d3 d4
 have gr := hpk.below d4 d3
 have am := hpk.new (x := (some b3)) (fun k hk => by rw [(congrArg some gp)] at hk; cases hk; exact Nat.le_refl _)
 have a1 : w.heap.size ≤ b3 := by have := cr.size; omega
 refine qM (.bool false) ?_
 refine qe (zA (zB (zB (zC ?_))))
 refine qM (.pointer (some ⟨p, 0, none⟩)) ?_
 refine qM (vJ a) ?_
 refine qI rfl (zH (vs := [(.pointer (some ⟨p, 0, none⟩)), (vJ a)]) Tryz.func76 nm76 rfl rfl rfl ?_)
 refine Calls.mono (isNumber_spec d5.pins gr hok ha hc) ?_
 rintro _ bg ⟨g, d6, rfl, ba, a7, ay, d, d7⟩
 refine ⟨_, rfl, ?_⟩
 have bb := d5.trans d7 (fun i hi => xK i hi)
 have d8 := gq.extS d7 (xU (NP.ho am))
 have jo := ay.len
 have jp : (g.ns.map Nd.l).length = g.ns.length ∧ (g.ns.map Nd.r).length = g.ns.length := ⟨List.length_map .., List.length_map ..⟩
 have jq : g.bs.length = g.ns.length ∧ g.ns.length ≤ 1048576 := ⟨a7.ar.ok.len, a7.ar.ok.lim⟩
 have jr := congrArg List.length d.1
 refine qD rfl (xE rfl) (qe (zA ?_))
 refine xX rfl rfl (fun ct => ?_) (fun ct => ?_)
 refine wp_skip (zA (zB ?_))
 have hnd : NumD (pd q a) := decP_true.1 ct
 have hni := hnp.1 hnd
 have js := hni.1
 have hnll : (g.ns.getD (a).toNat default).l.length = xs.length := by rw [d.1, hxs]
 have hnlr : (g.ns.getD (a).toNat default).r.length = ys.length := by rw [d.1, hys]
 have gs := Gadd.pins bb.pins L
 have gt := Gadd.pins bb.pins R
 have gu := ba.ol.read
 have gv := ba.rr.read
 refine yZ (S := fun wz => BxR wz p [L, R, B, (.map (some mm.f)), (.map (some mm.o)), (.map (some mm.c)), (.map (some mm.s)), (.map (some mm.n))] ∧ Pins (Gadd d6 bg L) wz ∧ Pins (Gadd d6 bg R) wz) (last := 16) (by kernel_rfl) rfl ?_
 have bc : Below bg.heap.size bg bg.drew := (Below.refl _ _).drew
 have d9 := bb.pins.below bc
 have an := bb.step d9 bc
 have b0 := d8.below bc
 have aa := ba.below bc d9
 have ak := gs.below bc
 have al := gt.below bc
 refine dT (i := 0) rfl rfl (by kernel_rfl) (fun _ _ => zQ (v := (.pointer (some ⟨p, 0, none⟩))) rfl) ⟨aa.bx.reads, ak, al⟩ ?_
 refine dT (i := 1) rfl rfl (by kernel_rfl) (fun _ _ => yW rfl) ⟨aa.bx.reads, ak, al⟩ ?_
 refine dT (i := 2) rfl rfl (by kernel_rfl) (fun _ _ => zK (k := 0) rfl Tryz.underlying97 rfl nz95 rfl) ⟨aa.bx.reads, ak, al⟩ ?_
 refine dT (i := 3) rfl rfl (by kernel_rfl) (fun _ hS => zL (u := L) ag95 rfl (hS.1 0 _ rfl)) ⟨aa.bx.reads, ak, al⟩ ?_
 refine dT (i := 4) rfl rfl (by kernel_rfl) (fun _ _ => zQ (v := (vJ a)) rfl) ⟨aa.bx.reads, ak, al⟩ ?_
 refine dT (i := 5) rfl rfl (by kernel_rfl) (fun _ _ => zF Tryz.underlying95 sz56 (v := L) rfl rfl gu (by omega) (by omega)) ⟨aa.bx.reads, ak, al⟩ ?_
 obtain ⟨ao, cu, gw⟩ := nm_sl (ba.ol.at (z := a) (by omega) (by omega)) (j := (a).toNat) rfl
 rw [jT] at cu
 have jt := cu.max
 refine dT (i := 6) rfl rfl (by kernel_rfl) (fun _ hS => gw ag56 rfl hS.2.1) ⟨aa.bx.reads, ak, al⟩ ?_
 refine dT (i := 7) rfl rfl (by kernel_rfl) (fun _ _ => zQ (v := (.pointer (some ⟨p, 0, none⟩))) rfl) ⟨aa.bx.reads, ak, al⟩ ?_
 refine dT (i := 8) rfl rfl (by kernel_rfl) (fun _ _ => yW rfl) ⟨aa.bx.reads, ak, al⟩ ?_
 refine dT (i := 9) rfl rfl (by kernel_rfl) (fun _ _ => zK (k := 1) rfl Tryz.underlying97 rfl nz95 rfl) ⟨aa.bx.reads, ak, al⟩ ?_
 refine dT (i := 10) rfl rfl (by kernel_rfl) (fun _ hS => zL (u := R) ag95 rfl (hS.1 1 _ rfl)) ⟨aa.bx.reads, ak, al⟩ ?_
 refine dT (i := 11) rfl rfl (by kernel_rfl) (fun _ _ => zQ (v := (vJ a)) rfl) ⟨aa.bx.reads, ak, al⟩ ?_
 refine dT (i := 12) rfl rfl (by kernel_rfl) (fun _ _ => zF Tryz.underlying95 sz56 (v := R) rfl rfl gv (by omega) (by omega)) ⟨aa.bx.reads, ak, al⟩ ?_
 obtain ⟨ap, cv, gx⟩ := nm_sl (ba.rr.at (z := a) (by omega) (by omega)) (j := (a).toNat) rfl
 rw [jS] at cv
 have ju := cv.max
 refine dT (i := 13) rfl rfl (by kernel_rfl) (fun _ hS => gx ag56 rfl hS.2.2) ⟨aa.bx.reads, ak, al⟩ ?_
 refine dT (i := 14) rfl rfl (by kernel_rfl) (fun _ _ => xW (v := ao) rfl) ⟨aa.bx.reads, ak, al⟩ ?_
 refine dT (i := 15) rfl rfl (by kernel_rfl) (fun _ _ => xW (v := ap) rfl) ⟨aa.bx.reads, ak, al⟩ ?_
 refine yQ (by kernel_rfl) (zA (zB ?_))
 refine zX (zB (zC ?_))
 have a4 := cu
 rw [d.1, ← hxs] at a4
 have a5 := cv
 rw [d.1, ← hys] at a5
 refine qM ao ?_
 refine qD rfl (zM Tryz.underlying56 (v := ao) rfl a4) (qD rfl (xV rfl rfl) (qM (.bool (decide (((xs.length : Int) : Int) = 0))) ?_))
 refine qbd (p := ((xs.length : Int) : Int) = 0) (t := 39) rfl (fun cw => ?_) (fun cw => ?_)
 refine qN (zQ (v := ap) rfl) ?_
 refine qN (zM Tryz.underlying56 (v := ap) rfl a5) ?_
 refine qN (xV rfl rfl) ?_
 refine qD rfl (yD (v := (.bool (decide (((ys.length : Int) : Int) = 0)))) rfl rfl) (qM (.bool (decide (((ys.length : Int) : Int) = 0))) ?_)
 refine qe (zA ?_)
 refine yA (p := ((ys.length : Int) : Int) = 0) rfl rfl (fun ea => ?_) (fun ea => ?_)
 refine zB (zC ?_)
 refine qD rfl (yG [(vJ 0), (vJ 0)] [(vJ 0), (vJ 0)] [] Tryz.underlying27 zr27 rfl pl27 rfl (fun _ h => by cases h) rfl) (q0 rfl rfl rfl (yF (cs' := [(vJ 0), (vJ 0)]) (us := [(vJ 0), (vJ 0)]) (v := (.agg [(vJ 0), (vJ 0)].toArray)) sz27 rfl rfl rfl (yK (by rfl) (by rfl)) an.pins b0 (Nat.le_of_ble_eq_true rfl) rfl (fun jv gy eb ec jw => ?_)))
 have gz := an.write eb ec ((zS a1))
 have g0 := aa.kept ec eb am
 refine qM (.bool true) ?_
 refine qe (zA ?_)
 refine wp_ret (zO (xL (cs := [(vJ 0), (vJ 0)]) (v := (.bool true)) rfl rfl rfl rfl rfl ag27 sz27 (fun j u hj => by rw [Nat.zero_add]; exact gy.cell hj) ?_))
 obtain ⟨e3, e1, e2⟩ := v_nil
 rw [hsnn (by omega) (by omega), e1, e2, e3]
 exact ⟨g, _, rfl, g0, a7, ay, d, gz⟩
 refine zB (zC ?_)
 refine qM ap ?_
 refine qD rfl (zM Tryz.underlying56 (v := ap) rfl a5) (qD rfl (xV rfl rfl) (qM (.bool (decide (((ys.length : Int) : Int) = 0))) ?_))
 refine qe (zA ?_)
 refine yA (p := ((ys.length : Int) : Int) = 0) rfl rfl (fun h => absurd h ea) (fun _ => ?_)
 refine zB (zC ?_)
 refine qM ao ?_
 refine qD rfl (zM Tryz.underlying56 (v := ao) rfl a4) (qD rfl (xV rfl rfl) (qM (.bool (decide (((xs.length : Int) : Int) = 0))) ?_))
 refine qe (zA ?_)
 refine yA (p := ((xs.length : Int) : Int) = 0) rfl rfl (fun _ => ?_) (fun h => absurd cw h)
 refine zB (zC ?_)
 refine qM (.pointer (some ⟨p, 0, none⟩)) ?_
 refine qM ap ?_
 refine qD rfl (zF Tryz.underlying56 sz3 (v := ap) rfl rfl a5 (by omega) (by omega)) (qD rfl (zE (r := ys.getD 0 0) rfl ag3 (z := 0) rfl a5 an.pins (by omega) (by omega)) ?_)
 have ed : ys.getD 0 0 ∈ ys := yC (show 0 < ys.length by omega)
 have jx := hopr _ ed
 refine qI rfl (zH (vs := [(.pointer (some ⟨p, 0, none⟩)), (vJ (ys.getD 0 0))]) Tryz.func66 nm66 rfl rfl rfl ?_)
 refine Calls.mono (ih an.pins aa a7 ⟨by omega, by rw [d.1]; omega⟩ (by rw [xJ d]; exact hc.right ((ro_pd hok ha).2 ⟨_, hys ▸ ed, rfl⟩)) (by omega)) ?_
 rintro _ jy ⟨a2, jz, b1, ee, b2, cx, cy, ef⟩
 obtain ⟨ag, b4⟩ : ∃ x : Int, x = vgT (pd g (ys.getD 0 0)) := ⟨_, rfl⟩
 rw [← b4] at b1
 obtain ⟨ah, b5⟩ : ∃ x : Int, x = vgP (pd g (ys.getD 0 0)) := ⟨_, rfl⟩
 rw [← b5] at b1
 obtain ⟨bh, bi⟩ : ∃ x : Bool, x = vgB (pd g (ys.getD 0 0)) := ⟨_, rfl⟩
 rw [← bi] at b1
 subst b1
 refine ⟨_, rfl, ?_⟩
 have cz := an.trans ef (fun i hi => xK i hi)
 have eg := b0.extS ef (xU (NP.ho am))
 have j0 := cx.len
 have j1 : (a2.ns.map Nd.l).length = a2.ns.length ∧ (a2.ns.map Nd.r).length = a2.ns.length := ⟨List.length_map .., List.length_map ..⟩
 have j2 : a2.bs.length = a2.ns.length ∧ a2.ns.length ≤ 1048576 := ⟨b2.ar.ok.len, b2.ar.ok.lim⟩
 have j3 := congrArg List.length cy.1
 have c0 : pd g (ys.getD 0 0) = pd q (ys.getD 0 0) := xJ d
 rw [c0] at b4
 rw [c0] at b5
 rw [c0] at bi
 have g2 : bh = true → GoodD ag ah := fun h => by rw [b4, b5]; exact qQ (by rw [← bi]; exact h)
 refine qM (.tuple #[(.agg [(vJ ag), (vJ ah)].toArray), (.bool bh)]) ?_
 refine qD rfl (yE (v := (.agg [(vJ ag), (vJ ah)].toArray)) rfl rfl) (qD rfl (yE (v := (.bool bh)) rfl rfl) (qI rfl (yM [(vJ 0), (vJ 0)] zr27 rfl cz.pins (fun c1 j4 eh g3 ei c2 => ?_))))
 have ej := cz.step ei c2
 have g4 := eg.below c2
 have g5 := ee.below c2 ei
 have ek : Apart (some c1) (some b3) := zJ (congrArg some eh) eg.lt
 have el := ee.new (x := (some c1)) (fun k hk => by rw [(congrArg some eh)] at hk; cases hk; exact Nat.le_refl _)
 have em : w.heap.size ≤ c1 := by have := cz.size; omega
 refine q0 rfl rfl rfl (yF (cs' := [(vJ ag), (vJ ah)]) (us := [(vJ ag), (vJ ah)]) (v := (.agg [(vJ ag), (vJ ah)].toArray)) sz27 rfl rfl rfl (yK (by rfl) (by rfl)) ej.pins g3 (Nat.le_of_ble_eq_true rfl) rfl (fun j5 g6 en c3 j6 => ?_))
 have g7 := ej.write en c3 ((zS em))
 have g8 := g4.keptA c3 ek.symm
 have g9 := g5.kept c3 en el
 obtain ⟨j7, hb, bj, hd, eo⟩ := g6.shut g7 em
 have ep := g8.moreA eo ek.symm
 have eq := g9.more hb eo el
 refine qM (.bool bh) ?_
 refine qe (zA (zB (zB (zC ?_))))
 refine qM (.bool bh) ?_
 refine qD rfl (xE rfl) (qe (zA ?_))
 refine xX rfl rfl (fun b6 => ?_) (fun b6 => ?_)
 refine wp_skip (zA (zB (zC ?_)))
 refine qD rfl (yH (cs := [(vJ ag), (vJ ah)]) ag27 sz27 rfl (fun j u hj => bj.pins _ _ _ (hd _ _ (by simpa using hj)))) (qD rfl (yG [(vJ 0), (vJ 0)] [(vJ (-1)), (vJ 0)] [(0, (vJ (-1)), [(vJ (-1))]), (1, (vJ 0), [(vJ 0)])] Tryz.underlying27 zr27 rfl pl27 rfl (List.forall_mem_cons.2 ⟨rfl, (List.forall_mem_cons.2 ⟨rfl, (fun _ h => by cases h)⟩)⟩) rfl) (qI rfl (zH (vs := [(.agg [(vJ ag), (vJ ah)].toArray), (.agg [(vJ (-1)), (vJ 0)].toArray)]) Tryz.func91 nm91 rfl rfl rfl ?_)))
 refine Calls.mono (addDyadic_spec (t := ag) (z := ah) (s := (-1)) (y := 0) bj.pins (g2 b6) ⟨by decide, by decide, Or.inl rfl⟩) ?_
 rintro _ j8 ⟨j9, b7, c4⟩
 obtain ⟨bk, er⟩ : ∃ x : Int, x = (lowR (decP (GoodD (lowD 16 (scI 16 ag ah + scI 16 (-1) 0)).1 (((lowD 16 (scI 16 ag ah + scI 16 (-1) 0)).2 : Nat) : Int))) (((lowD 16 (scI 16 ag ah + scI 16 (-1) 0)).2 : Nat) : Int)) := ⟨_, rfl⟩
 rw [← er] at b7
 obtain ⟨bl, es⟩ : ∃ x : Int, x = (lowR (decP (GoodD (lowD 16 (scI 16 ag ah + scI 16 (-1) 0)).1 (((lowD 16 (scI 16 ag ah + scI 16 (-1) 0)).2 : Nat) : Int))) (lowD 16 (scI 16 ag ah + scI 16 (-1) 0)).1) := ⟨_, rfl⟩
 rw [← es] at b7
 obtain ⟨c5, et⟩ : ∃ x : Bool, x = decP (GoodD (lowD 16 (scI 16 ag ah + scI 16 (-1) 0)).1 (((lowD 16 (scI 16 ag ah + scI 16 (-1) 0)).2 : Nat) : Int)) := ⟨_, rfl⟩
 rw [← et] at b7
 subst b7
 refine ⟨_, rfl, ?_⟩
 have eu := bj.tr c4
 have he := ep.ext c4
 have hf := eq.ext c4
 refine qD rfl (yE (v := (.agg [(vJ bl), (vJ bk)].toArray)) rfl rfl) (qD rfl (yE (v := (.bool c5)) rfl rfl) (q0 rfl rfl rfl (yF (cs' := [(vJ bl), (vJ bk)]) (us := [(vJ bl), (vJ bk)]) (v := (.agg [(vJ bl), (vJ bk)].toArray)) sz27 rfl rfl rfl (yK (by rfl) (by rfl)) eu.pins he (Nat.le_of_ble_eq_true rfl) rfl (fun ka hg ev ew kb => ?_))))
 have hh := eu.write ev ew ((zS a1))
 have hl := hf.kept ew ev am
 refine qM (.bool c5) ?_
 refine qe (zA ?_)
 refine wp_ret (zO (xL (cs := [(vJ bl), (vJ bk)]) (v := (.bool c5)) rfl rfl rfl rfl rfl ag27 sz27 (fun j u hj => by rw [Nat.zero_add]; exact hg.cell hj) ?_))
 have hsh := hsr (by omega) (by omega) (by omega)
 have ab := hnd
 rw [hsh] at ab
 have av := va_r (D := 16) ab (by rw [← bi]; exact b6)
 rw [hsh, av.t, av.p, av.b, ← b4, ← b5, es, er, et]
 exact ⟨a2, _, rfl, hl, b2, (PX.trans ay cx), (zN d cy), hh⟩
 refine zB (zC ?_)
 refine qD rfl (yG [(vJ 0), (vJ 0)] [(vJ 0), (vJ 0)] [] Tryz.underlying27 zr27 rfl pl27 rfl (fun _ h => by cases h) rfl) (q0 rfl rfl rfl (yF (cs' := [(vJ 0), (vJ 0)]) (us := [(vJ 0), (vJ 0)]) (v := (.agg [(vJ 0), (vJ 0)].toArray)) sz27 rfl rfl rfl (yK (by rfl) (by rfl)) bj.pins ep (Nat.le_of_ble_eq_true rfl) rfl (fun kc hn ex ey kd => ?_)))
 have hp := bj.write ex ey ((zS a1))
 have hq := eq.kept ey ex am
 refine qM (.bool false) ?_
 refine qe (zA ?_)
 refine wp_ret (zO (xL (cs := [(vJ 0), (vJ 0)]) (v := (.bool false)) rfl rfl rfl rfl rfl ag27 sz27 (fun j u hj => by rw [Nat.zero_add]; exact hn.cell hj) ?_))
 have hsh := hsr (by omega) (by omega) (by omega)
 have ab := hnd
 rw [hsh] at ab
 have hvb : vgB (pd q a) = false := (by rw [hsh]; exact vr_no ab (by rw [← bi]; exact b6))
 obtain ⟨e1, e2⟩ := vg_no hvb
 rw [hvb, e1, e2]
 exact ⟨a2, _, rfl, hq, b2, (PX.trans ay cx), (zN d cy), hp⟩
 refine qW ?_
 refine qW ?_
 refine qW ?_
 refine qD rfl (zY (v := (.bool false)) rfl rfl) (qM (.bool false) ?_)
 refine qe (zA ?_)
 refine qA rfl rfl (zB (zC ?_))
 refine qM ap ?_
 refine qD rfl (zM Tryz.underlying56 (v := ap) rfl a5) (qD rfl (xV rfl rfl) (qM (.bool (decide (((ys.length : Int) : Int) = 0))) ?_))
 refine qe (zA ?_)
 refine yA (p := ((ys.length : Int) : Int) = 0) rfl rfl (fun hr => ?_) (fun hr => ?_)
 refine zB (zC ?_)
 refine qM (.pointer (some ⟨p, 0, none⟩)) ?_
 refine qM ao ?_
 refine qD rfl (zF Tryz.underlying56 sz3 (v := ao) rfl rfl a4 (by omega) (by omega)) (qD rfl (zE (r := xs.getD 0 0) rfl ag3 (z := 0) rfl a4 an.pins (by omega) (by omega)) ?_)
 have ez : xs.getD 0 0 ∈ xs := yC (show 0 < xs.length by omega)
 have ke := hopl _ ez
 refine qI rfl (zH (vs := [(.pointer (some ⟨p, 0, none⟩)), (vJ (xs.getD 0 0))]) Tryz.func66 nm66 rfl rfl rfl ?_)
 refine Calls.mono (ih an.pins aa a7 ⟨by omega, by rw [d.1]; omega⟩ (by rw [xJ d]; exact hc.left ((lo_pd hok ha).2 ⟨_, hxs ▸ ez, rfl⟩)) (by omega)) ?_
 rintro _ kf ⟨a3, kg, b8, e0, b9, c6, c7, e4⟩
 obtain ⟨ai, ca⟩ : ∃ x : Int, x = vgT (pd g (xs.getD 0 0)) := ⟨_, rfl⟩
 rw [← ca] at b8
 obtain ⟨aj, cb⟩ : ∃ x : Int, x = vgP (pd g (xs.getD 0 0)) := ⟨_, rfl⟩
 rw [← cb] at b8
 obtain ⟨bm, bn⟩ : ∃ x : Bool, x = vgB (pd g (xs.getD 0 0)) := ⟨_, rfl⟩
 rw [← bn] at b8
 subst b8
 refine ⟨_, rfl, ?_⟩
 have c8 := an.trans e4 (fun i hi => xK i hi)
 have e5 := b0.extS e4 (xU (NP.ho am))
 have kh := c6.len
 have ki : (a3.ns.map Nd.l).length = a3.ns.length ∧ (a3.ns.map Nd.r).length = a3.ns.length := ⟨List.length_map .., List.length_map ..⟩
 have kj : a3.bs.length = a3.ns.length ∧ a3.ns.length ≤ 1048576 := ⟨b9.ar.ok.len, b9.ar.ok.lim⟩
 have kk := congrArg List.length c7.1
 have c9 : pd g (xs.getD 0 0) = pd q (xs.getD 0 0) := xJ d
 rw [c9] at ca
 rw [c9] at cb
 rw [c9] at bn
 have hs : bm = true → GoodD ai aj := fun h => by rw [ca, cb]; exact qQ (by rw [← bn]; exact h)
 refine qM (.tuple #[(.agg [(vJ ai), (vJ aj)].toArray), (.bool bm)]) ?_
 refine qD rfl (yE (v := (.agg [(vJ ai), (vJ aj)].toArray)) rfl rfl) (qD rfl (yE (v := (.bool bm)) rfl rfl) (qI rfl (yM [(vJ 0), (vJ 0)] zr27 rfl c8.pins (fun da kl e6 ht e7 db => ?_))))
 have e8 := c8.step e7 db
 have hu := e5.below db
 have hv := e0.below db e7
 have e9 : Apart (some da) (some b3) := zJ (congrArg some e6) e5.lt
 have fa := e0.new (x := (some da)) (fun k hk => by rw [(congrArg some e6)] at hk; cases hk; exact Nat.le_refl _)
 have fb : w.heap.size ≤ da := by have := c8.size; omega
 refine q0 rfl rfl rfl (yF (cs' := [(vJ ai), (vJ aj)]) (us := [(vJ ai), (vJ aj)]) (v := (.agg [(vJ ai), (vJ aj)].toArray)) sz27 rfl rfl rfl (yK (by rfl) (by rfl)) e8.pins ht (Nat.le_of_ble_eq_true rfl) rfl (fun km hw fc dc kn => ?_))
 have hx := e8.write fc dc ((zS fb))
 have hy := hu.keptA dc e9.symm
 have hz := hv.kept dc fc fa
 obtain ⟨ko, h0, bo, h1, fd⟩ := hw.shut hx fb
 have fe := hy.moreA fd e9.symm
 have ff := hz.more h0 fd fa
 refine qM (.bool bm) ?_
 refine qe (zA (zB (zB (zC ?_))))
 refine qM (.bool bm) ?_
 refine qD rfl (xE rfl) (qe (zA ?_))
 refine xX rfl rfl (fun cc => ?_) (fun cc => ?_)
 refine wp_skip (zA (zB (zC ?_)))
 refine qD rfl (yH (cs := [(vJ ai), (vJ aj)]) ag27 sz27 rfl (fun j u hj => bo.pins _ _ _ (h1 _ _ (by simpa using hj)))) (qD rfl (yG [(vJ 0), (vJ 0)] [(vJ 1), (vJ 0)] [(0, (vJ 1), [(vJ 1)]), (1, (vJ 0), [(vJ 0)])] Tryz.underlying27 zr27 rfl pl27 rfl (List.forall_mem_cons.2 ⟨rfl, (List.forall_mem_cons.2 ⟨rfl, (fun _ h => by cases h)⟩)⟩) rfl) (qI rfl (zH (vs := [(.agg [(vJ ai), (vJ aj)].toArray), (.agg [(vJ 1), (vJ 0)].toArray)]) Tryz.func91 nm91 rfl rfl rfl ?_)))
 refine Calls.mono (addDyadic_spec (t := ai) (z := aj) (s := 1) (y := 0) bo.pins (hs cc) ⟨by decide, by decide, Or.inl rfl⟩) ?_
 rintro _ kp ⟨kq, cd, dd⟩
 obtain ⟨bp, fg⟩ : ∃ x : Int, x = (lowR (decP (GoodD (lowD 16 (scI 16 ai aj + scI 16 1 0)).1 (((lowD 16 (scI 16 ai aj + scI 16 1 0)).2 : Nat) : Int))) (((lowD 16 (scI 16 ai aj + scI 16 1 0)).2 : Nat) : Int)) := ⟨_, rfl⟩
 rw [← fg] at cd
 obtain ⟨bq, fh⟩ : ∃ x : Int, x = (lowR (decP (GoodD (lowD 16 (scI 16 ai aj + scI 16 1 0)).1 (((lowD 16 (scI 16 ai aj + scI 16 1 0)).2 : Nat) : Int))) (lowD 16 (scI 16 ai aj + scI 16 1 0)).1) := ⟨_, rfl⟩
 rw [← fh] at cd
 obtain ⟨de, fi⟩ : ∃ x : Bool, x = decP (GoodD (lowD 16 (scI 16 ai aj + scI 16 1 0)).1 (((lowD 16 (scI 16 ai aj + scI 16 1 0)).2 : Nat) : Int)) := ⟨_, rfl⟩
 rw [← fi] at cd
 subst cd
 refine ⟨_, rfl, ?_⟩
 have fj := bo.tr dd
 have h2 := fe.ext dd
 have h3 := ff.ext dd
 refine qD rfl (yE (v := (.agg [(vJ bq), (vJ bp)].toArray)) rfl rfl) (qD rfl (yE (v := (.bool de)) rfl rfl) (q0 rfl rfl rfl (yF (cs' := [(vJ bq), (vJ bp)]) (us := [(vJ bq), (vJ bp)]) (v := (.agg [(vJ bq), (vJ bp)].toArray)) sz27 rfl rfl rfl (yK (by rfl) (by rfl)) fj.pins h2 (Nat.le_of_ble_eq_true rfl) rfl (fun kr h4 fk fl ks => ?_))))
 have h5 := fj.write fk fl ((zS a1))
 have h6 := h3.kept fl fk am
 refine qM (.bool de) ?_
 refine qe (zA ?_)
 refine wp_ret (zO (xL (cs := [(vJ bq), (vJ bp)]) (v := (.bool de)) rfl rfl rfl rfl rfl ag27 sz27 (fun j u hj => by rw [Nat.zero_add]; exact h4.cell hj) ?_))
 have hsh := hsl (by omega) (by omega) (by omega)
 have ab := hnd
 rw [hsh] at ab
 have av := va_l (D := 16) ab (by rw [← bn]; exact cc)
 rw [hsh, av.t, av.p, av.b, ← ca, ← cb, fh, fg, fi]
 exact ⟨a3, _, rfl, h6, b9, (PX.trans ay c6), (zN d c7), h5⟩
 refine zB (zC ?_)
 refine qD rfl (yG [(vJ 0), (vJ 0)] [(vJ 0), (vJ 0)] [] Tryz.underlying27 zr27 rfl pl27 rfl (fun _ h => by cases h) rfl) (q0 rfl rfl rfl (yF (cs' := [(vJ 0), (vJ 0)]) (us := [(vJ 0), (vJ 0)]) (v := (.agg [(vJ 0), (vJ 0)].toArray)) sz27 rfl rfl rfl (yK (by rfl) (by rfl)) bo.pins fe (Nat.le_of_ble_eq_true rfl) rfl (fun kt h7 fm fn ku => ?_)))
 have h8 := bo.write fm fn ((zS a1))
 have h9 := ff.kept fn fm am
 refine qM (.bool false) ?_
 refine qe (zA ?_)
 refine wp_ret (zO (xL (cs := [(vJ 0), (vJ 0)]) (v := (.bool false)) rfl rfl rfl rfl rfl ag27 sz27 (fun j u hj => by rw [Nat.zero_add]; exact h7.cell hj) ?_))
 have hsh := hsl (by omega) (by omega) (by omega)
 have ab := hnd
 rw [hsh] at ab
 have hvb : vgB (pd q a) = false := (by rw [hsh]; exact vl_no ab (by rw [← bn]; exact cc))
 obtain ⟨e1, e2⟩ := vg_no hvb
 rw [hvb, e1, e2]
 exact ⟨a3, _, rfl, h9, b9, (PX.trans ay c6), (zN d c7), h8⟩
 refine zB (zC ?_)
 refine qM ao ?_
 refine qD rfl (zM Tryz.underlying56 (v := ao) rfl a4) (qD rfl (xV rfl rfl) (qM (.bool (decide (((xs.length : Int) : Int) = 0))) ?_))
 refine qe (zA ?_)
 refine yA (p := ((xs.length : Int) : Int) = 0) rfl rfl (fun h => absurd h cw) (fun _ => ?_)
 refine wp_skip (yB (zA (zB (zC ?_))))
 refine qM (.pointer (some ⟨p, 0, none⟩)) ?_
 refine qM ao ?_
 refine qD rfl (zF Tryz.underlying56 sz3 (v := ao) rfl rfl a4 (by omega) (by omega)) (qD rfl (zE (r := xs.getD 0 0) rfl ag3 (z := 0) rfl a4 an.pins (by omega) (by omega)) ?_)
 have fo : xs.getD 0 0 ∈ xs := yC (show 0 < xs.length by omega)
 have kv := hopl _ fo
 refine qI rfl (zH (vs := [(.pointer (some ⟨p, 0, none⟩)), (vJ (xs.getD 0 0))]) Tryz.func66 nm66 rfl rfl rfl ?_)
 refine Calls.mono (ih an.pins aa a7 ⟨by omega, by rw [d.1]; omega⟩ (by rw [xJ d]; exact hc.left ((lo_pd hok ha).2 ⟨_, hxs ▸ fo, rfl⟩)) (by omega)) ?_
 rintro _ kw ⟨aw, kx, ce, fp, df, cf, a8, dg⟩
 obtain ⟨ac, cg⟩ : ∃ x : Int, x = vgT (pd g (xs.getD 0 0)) := ⟨_, rfl⟩
 rw [← cg] at ce
 obtain ⟨ad, ch⟩ : ∃ x : Int, x = vgP (pd g (xs.getD 0 0)) := ⟨_, rfl⟩
 rw [← ch] at ce
 obtain ⟨bd, br⟩ : ∃ x : Bool, x = vgB (pd g (xs.getD 0 0)) := ⟨_, rfl⟩
 rw [← br] at ce
 subst ce
 refine ⟨_, rfl, ?_⟩
 have dh := an.trans dg (fun i hi => xK i hi)
 have fq := b0.extS dg (xU (NP.ho am))
 have ky := cf.len
 have kz : (aw.ns.map Nd.l).length = aw.ns.length ∧ (aw.ns.map Nd.r).length = aw.ns.length := ⟨List.length_map .., List.length_map ..⟩
 have k0 : aw.bs.length = aw.ns.length ∧ aw.ns.length ≤ 1048576 := ⟨df.ar.ok.len, df.ar.ok.lim⟩
 have k1 := congrArg List.length a8.1
 have di : pd g (xs.getD 0 0) = pd q (xs.getD 0 0) := xJ d
 rw [di] at cg
 rw [di] at ch
 rw [di] at br
 have ia : bd = true → GoodD ac ad := fun h => by rw [cg, ch]; exact qQ (by rw [← br]; exact h)
 refine qM (.tuple #[(.agg [(vJ ac), (vJ ad)].toArray), (.bool bd)]) ?_
 refine qD rfl (yE (v := (.agg [(vJ ac), (vJ ad)].toArray)) rfl rfl) (qD rfl (yE (v := (.bool bd)) rfl rfl) (qI rfl (yM [(vJ 0), (vJ 0)] zr27 rfl dh.pins (fun dj k2 fr ib fs dk => ?_))))
 have ft := dh.step fs dk
 have ic := fq.below dk
 have ie := fp.below dk fs
 have fu : Apart (some dj) (some b3) := zJ (congrArg some fr) fq.lt
 have fv := fp.new (x := (some dj)) (fun k hk => by rw [(congrArg some fr)] at hk; cases hk; exact Nat.le_refl _)
 have fw : w.heap.size ≤ dj := by have := dh.size; omega
 refine q0 rfl rfl rfl (yF (cs' := [(vJ ac), (vJ ad)]) (us := [(vJ ac), (vJ ad)]) (v := (.agg [(vJ ac), (vJ ad)].toArray)) sz27 rfl rfl rfl (yK (by rfl) (by rfl)) ft.pins ib (Nat.le_of_ble_eq_true rfl) rfl (fun k3 ig fx dl k4 => ?_))
 have ii := ft.write fx dl ((zS fw))
 have ij := ic.keptA dl fu.symm
 have ik := ie.kept dl fx fv
 obtain ⟨k5, fy, dm, il, fz⟩ := ig.shut ii fw
 have im := ij.moreA fz fu.symm
 have io := ik.more fy fz fv
 refine qM (.bool bd) ?_
 refine qe (zA (zB (zC ?_)))
 refine qM (.pointer (some ⟨p, 0, none⟩)) ?_
 refine qM ap ?_
 refine qD rfl (zF Tryz.underlying56 sz3 (v := ap) rfl rfl a5 (by omega) (by omega)) (qD rfl (zE (r := ys.getD 0 0) rfl ag3 (z := 0) rfl a5 (Pins.of_le dm.pins (Pin.le_trans dg.le fy)) (by omega) (by omega)) ?_)
 have f0 : ys.getD 0 0 ∈ ys := yC (show 0 < ys.length by omega)
 have k6 := hopr _ f0
 refine qI rfl (zH (vs := [(.pointer (some ⟨p, 0, none⟩)), (vJ (ys.getD 0 0))]) Tryz.func66 nm66 rfl rfl rfl ?_)
 refine Calls.mono (ih dm.pins io df ⟨by omega, by rw [(zN d a8).1]; omega⟩ (by rw [xJ (zN d a8)]; exact hc.right ((ro_pd hok ha).2 ⟨_, hys ▸ f0, rfl⟩)) (by omega)) ?_
 rintro _ k7 ⟨az, k8, ci, f1, bt, cj, ck, dn⟩
 obtain ⟨ae, cl⟩ : ∃ x : Int, x = vgT (pd aw (ys.getD 0 0)) := ⟨_, rfl⟩
 rw [← cl] at ci
 obtain ⟨af, cm⟩ : ∃ x : Int, x = vgP (pd aw (ys.getD 0 0)) := ⟨_, rfl⟩
 rw [← cm] at ci
 obtain ⟨be, bu⟩ : ∃ x : Bool, x = vgB (pd aw (ys.getD 0 0)) := ⟨_, rfl⟩
 rw [← bu] at ci
 subst ci
 refine ⟨_, rfl, ?_⟩
 have dp := dm.trans dn (fun i hi => xK i hi)
 have f2 := im.extS dn (xU (NP.ho am))
 have k9 := cj.len
 have la : (az.ns.map Nd.l).length = az.ns.length ∧ (az.ns.map Nd.r).length = az.ns.length := ⟨List.length_map .., List.length_map ..⟩
 have lb : az.bs.length = az.ns.length ∧ az.ns.length ≤ 1048576 := ⟨bt.ar.ok.len, bt.ar.ok.lim⟩
 have lc := congrArg List.length ck.1
 have dq : pd aw (ys.getD 0 0) = pd q (ys.getD 0 0) := xJ (zN d a8)
 rw [dq] at cl
 rw [dq] at cm
 rw [dq] at bu
 have ip : be = true → GoodD ae af := fun h => by rw [cl, cm]; exact qQ (by rw [← bu]; exact h)
 refine qM (.tuple #[(.agg [(vJ ae), (vJ af)].toArray), (.bool be)]) ?_
 refine qD rfl (yE (v := (.agg [(vJ ae), (vJ af)].toArray)) rfl rfl) (qD rfl (yE (v := (.bool be)) rfl rfl) (qI rfl (yM [(vJ 0), (vJ 0)] zr27 rfl dp.pins (fun dr ld f3 iq f4 ds => ?_))))
 have f5 := dp.step f4 ds
 have ir := f2.below ds
 have it := f1.below ds f4
 have f6 : Apart (some dr) (some b3) := zJ (congrArg some f3) f2.lt
 have f7 := f1.new (x := (some dr)) (fun k hk => by rw [(congrArg some f3)] at hk; cases hk; exact Nat.le_refl _)
 have f8 : w.heap.size ≤ dr := by have := dp.size; omega
 refine q0 rfl rfl rfl (yF (cs' := [(vJ ae), (vJ af)]) (us := [(vJ ae), (vJ af)]) (v := (.agg [(vJ ae), (vJ af)].toArray)) sz27 rfl rfl rfl (yK (by rfl) (by rfl)) f5.pins iq (Nat.le_of_ble_eq_true rfl) rfl (fun dt iu f9 du lf => ?_))
 have iv := f5.write f9 du ((zS f8))
 have iw := ir.keptA du f6.symm
 have ix := it.kept du f9 f7
 obtain ⟨iy, ga, bf, iz, gb⟩ := iu.shut iv f8
 have dv := iw.moreA gb f6.symm
 have dw := ix.more ga gb f7
 refine qM (.bool be) ?_
 refine qe (zA (zB (zB (zC ?_))))
 refine qM (.bool bd) ?_
 refine qD rfl (xE rfl) (qM (.bool (!bd)) ?_)
 refine qbn (t := 103) rfl (fun dx => ?_) (fun dx => ?_)
 refine qN (zQ (v := (.bool be)) rfl) ?_
 refine qN (xE rfl) ?_
 refine qD rfl (zY (v := (.bool (!be))) rfl rfl) (qe (zA ?_))
 refine xX rfl rfl (fun dy => ?_) (fun dy => ?_)
 refine wp_skip (zA (zB ?_))
 have hvl := dx
 have hvr := dy
 have hgl := ia hvl
 have hgr := ip hvr
 have hglt := hgl.top
 have hglp := hgl.pow
 have hgrt := hgr.top
 have hgrp := hgr.pow
 have hglm := scI_lim (D := 16) (t := ac) (z := ad) (by omega) (by omega)
 have hgrm := scI_lim (D := 16) (t := ae) (z := af) (by omega) (by omega)
 refine yZ (S := fun wz => Pins iy wz) (last := 10) (by kernel_rfl) rfl ?_
 have cn : Below dt.heap.size dt dt.drew := (Below.refl _ _).drew
 have gc := bf.pins.below cn
 have co := bf.step gc cn
 have i0 := dv.below cn
 have i1 := dw.below cn gc
 refine dT (i := 0) rfl rfl (by kernel_rfl) (fun _ hS => yH (cs := [(vJ ac), (vJ ad)]) ag27 sz27 rfl (fun j u hj => (Pins.of_le hS (Pin.le_trans dn.le ga)) _ _ _ (il _ _ (by simpa using hj)))) co.pins ?_
 refine dT (i := 2) rfl rfl (by kernel_rfl) (fun _ hS => yH (cs := [(vJ ae), (vJ af)]) ag27 sz27 rfl (fun j u hj => hS _ _ _ (iz _ _ (by simpa using hj)))) co.pins ?_
 refine dO (i := 1) (zU (i := 1) rfl rfl rfl (zD rfl _) (zH (vs := [(.agg [(vJ ac), (vJ ad)].toArray)]) Tryz.func48 nm48 rfl rfl rfl ?_))
 refine Calls.mono (jQ (t := ac) (z := ad) co.pins (by omega) (by omega)) ?_
 rintro _ lg ⟨lh, rfl, ax⟩
 refine ⟨_, rfl, ?_⟩
 have dz := co.tr ax
 have i2 := i0.ext ax
 have i3 := i1.ext ax
 refine ⟨fun _ => (Pins.of_le dz.pins ax.le), ?_⟩
 refine dO (i := 3) (zU (i := 3) rfl rfl rfl (zD rfl _) (zH (vs := [(.agg [(vJ ae), (vJ af)].toArray)]) Tryz.func48 nm48 rfl rfl rfl ?_))
 refine Calls.mono (jQ (t := ae) (z := af) dz.pins (by omega) (by omega)) ?_
 rintro _ li ⟨lj, rfl, a0⟩
 refine ⟨_, rfl, ?_⟩
 have cp := dz.tr a0
 have i4 := i2.ext a0
 have i5 := i3.ext a0
 refine ⟨fun _ => (Pins.of_le cp.pins (Pin.le_trans ax.le a0.le)), ?_⟩
 refine dT (i := 4) rfl rfl (by kernel_rfl) (fun _ _ => yJ rfl rfl (by omega)) (Pins.of_le cp.pins (Pin.le_trans ax.le a0.le)) ?_
 refine dO (i := 5) (zU (i := 5) rfl rfl rfl (zD rfl _) (zH (vs := [(vJ ((scI 16 ac ad) + (scI 16 ae af))), (vJ 17)]) Tryz.func92 nm92 rfl rfl rfl ?_))
 refine Calls.mono (lowest_spec (t := (scI 16 ac ad) + (scI 16 ae af)) (p := 17) cp.pins (by omega) (by omega)) ?_
 rintro _ lk ⟨ll, cq, a6⟩
 obtain ⟨bv, gd⟩ : ∃ x : Int, x = (lowR (decP (GoodD (lowD 17 ((scI 16 ac ad) + (scI 16 ae af))).1 (((lowD 17 ((scI 16 ac ad) + (scI 16 ae af))).2 : Nat) : Int))) (((lowD 17 ((scI 16 ac ad) + (scI 16 ae af))).2 : Nat) : Int)) := ⟨_, rfl⟩
 rw [← gd] at cq
 obtain ⟨bw, ge⟩ : ∃ x : Int, x = (lowR (decP (GoodD (lowD 17 ((scI 16 ac ad) + (scI 16 ae af))).1 (((lowD 17 ((scI 16 ac ad) + (scI 16 ae af))).2 : Nat) : Int))) (lowD 17 ((scI 16 ac ad) + (scI 16 ae af))).1) := ⟨_, rfl⟩
 rw [← ge] at cq
 obtain ⟨d0, gf⟩ : ∃ x : Bool, x = decP (GoodD (lowD 17 ((scI 16 ac ad) + (scI 16 ae af))).1 (((lowD 17 ((scI 16 ac ad) + (scI 16 ae af))).2 : Nat) : Int)) := ⟨_, rfl⟩
 rw [← gf] at cq
 subst cq
 refine ⟨_, rfl, ?_⟩
 have bz := cp.tr a6
 have i6 := i4.ext a6
 have i7 := i5.ext a6
 refine ⟨fun _ => (Pins.of_le bz.pins (Pin.le_trans (Pin.le_trans ax.le a0.le) a6.le)), ?_⟩
 refine dT (i := 6) rfl rfl (by kernel_rfl) (fun _ _ => yE (v := (.agg [(vJ bw), (vJ bv)].toArray)) rfl rfl) (Pins.of_le bz.pins (Pin.le_trans (Pin.le_trans ax.le a0.le) a6.le)) ?_
 refine dT (i := 7) rfl rfl (by kernel_rfl) (fun _ _ => yE (v := (.bool d0)) rfl rfl) (Pins.of_le bz.pins (Pin.le_trans (Pin.le_trans ax.le a0.le) a6.le)) ?_
 refine dO (i := 8) (qB (i := 8) rfl rfl rfl (zD rfl _) (yF (cs' := [(vJ bw), (vJ bv)]) (us := [(vJ bw), (vJ bv)]) (v := (.agg [(vJ bw), (vJ bv)].toArray)) sz27 rfl rfl rfl (yK (by rfl) (by rfl)) bz.pins i6 (Nat.le_of_ble_eq_true rfl) rfl (fun lm i8 gg gh ln => ?_)))
 have d1 := bz.write gg gh ((zS a1))
 have i9 := i7.kept gh gg am
 refine ⟨fun _ => (Pins.of_le d1.pins (Pin.le_trans (Pin.le_trans ax.le a0.le) a6.le)), ?_⟩
 refine dM 9 (.bool d0) (Pins.of_le d1.pins (Pin.le_trans (Pin.le_trans ax.le a0.le) a6.le)) ?_
 refine yQ (by kernel_rfl) (zA (wp_ret (zO (xL (cs := [(vJ bw), (vJ bv)]) (v := (.bool d0)) rfl rfl rfl rfl rfl ag27 sz27 (fun j u hj => by rw [Nat.zero_add]; exact i8.cell hj) ?_))))
 have hsh := hslr ⟨by omega, by omega⟩ (by omega) (by omega)
 have ab := hnd
 rw [hsh] at ab
 have av := va_lr ab (by rw [← br]; exact hvl) (by rw [← bu]; exact hvr)
 rw [hsh, av.t, av.p, av.b, ← cg, ← ch, ← cl, ← cm, ge, gd, gf]
 exact ⟨az, _, rfl, i9, bt, (PX.trans (PX.trans ay cf) cj), (zN (zN d a8) ck), d1⟩
 refine zB (zC ?_)
 refine qD rfl (yG [(vJ 0), (vJ 0)] [(vJ 0), (vJ 0)] [] Tryz.underlying27 zr27 rfl pl27 rfl (fun _ h => by cases h) rfl) (q0 rfl rfl rfl (yF (cs' := [(vJ 0), (vJ 0)]) (us := [(vJ 0), (vJ 0)]) (v := (.agg [(vJ 0), (vJ 0)].toArray)) sz27 rfl rfl rfl (yK (by rfl) (by rfl)) bf.pins dv (Nat.le_of_ble_eq_true rfl) rfl (fun lo ja gi gj lp => ?_)))
 have jb := bf.write gi gj ((zS a1))
 have jc := dw.kept gj gi am
 refine qM (.bool false) ?_
 refine qe (zA ?_)
 refine wp_ret (zO (xL (cs := [(vJ 0), (vJ 0)]) (v := (.bool false)) rfl rfl rfl rfl rfl ag27 sz27 (fun j u hj => by rw [Nat.zero_add]; exact ja.cell hj) ?_))
 have hsh := hslr ⟨by omega, by omega⟩ (by omega) (by omega)
 have ab := hnd
 rw [hsh] at ab
 have hvb : vgB (pd q a) = false := (by rw [hsh]; exact vb_no ab (Or.inr (by rw [← bu]; exact dy)))
 obtain ⟨e1, e2⟩ := vg_no hvb
 rw [hvb, e1, e2]
 exact ⟨az, _, rfl, jc, bt, (PX.trans (PX.trans ay cf) cj), (zN (zN d a8) ck), jb⟩
 refine qW ?_
 refine qW ?_
 refine qD rfl (yD (v := (.bool true)) rfl rfl) (qe (zA ?_))
 refine xY rfl rfl (zB (zC ?_))
 refine qD rfl (yG [(vJ 0), (vJ 0)] [(vJ 0), (vJ 0)] [] Tryz.underlying27 zr27 rfl pl27 rfl (fun _ h => by cases h) rfl) (q0 rfl rfl rfl (yF (cs' := [(vJ 0), (vJ 0)]) (us := [(vJ 0), (vJ 0)]) (v := (.agg [(vJ 0), (vJ 0)].toArray)) sz27 rfl rfl rfl (yK (by rfl) (by rfl)) bf.pins dv (Nat.le_of_ble_eq_true rfl) rfl (fun lq jd gk gl lr => ?_)))
 have je := bf.write gk gl ((zS a1))
 have jf := dw.kept gl gk am
 refine qM (.bool false) ?_
 refine qe (zA ?_)
 refine wp_ret (zO (xL (cs := [(vJ 0), (vJ 0)]) (v := (.bool false)) rfl rfl rfl rfl rfl ag27 sz27 (fun j u hj => by rw [Nat.zero_add]; exact jd.cell hj) ?_))
 have hsh := hslr ⟨by omega, by omega⟩ (by omega) (by omega)
 have ab := hnd
 rw [hsh] at ab
 have hvb : vgB (pd q a) = false := (by rw [hsh]; exact vb_no ab (Or.inl (by rw [← br]; exact dx)))
 obtain ⟨e1, e2⟩ := vg_no hvb
 rw [hvb, e1, e2]
 exact ⟨az, _, rfl, jf, bt, (PX.trans (PX.trans ay cf) cj), (zN (zN d a8) ck), je⟩
 refine zB (zC ?_)
 refine qD rfl (yG [(vJ 0), (vJ 0)] [(vJ 0), (vJ 0)] [] Tryz.underlying27 zr27 rfl pl27 rfl (fun _ h => by cases h) rfl) (q0 rfl rfl rfl (yF (cs' := [(vJ 0), (vJ 0)]) (us := [(vJ 0), (vJ 0)]) (v := (.agg [(vJ 0), (vJ 0)].toArray)) sz27 rfl rfl rfl (yK (by rfl) (by rfl)) bb.pins d8 (Nat.le_of_ble_eq_true rfl) rfl (fun ls jg gm gn lu => ?_)))
 have jh := bb.write gm gn ((zS a1))
 have ji := ba.kept gn gm am
 refine qM (.bool false) ?_
 refine qe (zA ?_)
 refine wp_ret (zO (xL (cs := [(vJ 0), (vJ 0)]) (v := (.bool false)) rfl rfl rfl rfl rfl ag27 sz27 (fun j u hj => by rw [Nat.zero_add]; exact jg.cell hj) ?_))
 have hvb : vgB (pd q a) = false := vg_not (decP_false.1 ct)
 obtain ⟨e1, e2⟩ := vg_no hvb
 rw [hvb, e1, e2]
 exact ⟨g, _, rfl, ji, a7, ay, d, jh⟩

theorem val_all {p : Nat} {L R B : Value} {mm : PM} : ∀ m, ValP m p L R B mm
 | 0 => fun _ _ _ _ _ h => absurd h (Nat.not_lt_zero _)
 | m + 1 => fun hP hpk hok ha hc hm => valueOf_step hP hpk hok ha hc (val_all m) hm
theorem valueOf_spec {p : Nat} {L R B : Value} {mm : PM} {w : World} {G : Pin} {q : PSt} {a : Int} (hP : Pins G w) (hpk : Pk 56 3 G w p L R B mm q) (hok : PoolOk q) (ha : PlaceOk q a) (hc : CanonG (pd q a)) :
  Calls Tryz.prog 66 [(.pointer (some ⟨p, 0, none⟩)), (.int .i64 a)].toArray w fun e w' => ∃ (q' : PSt) (G' : Pin), e = .returned (.tuple #[.agg [.int .i64 (vgT (pd q a)), .int .i64 (vgP (pd q a))].toArray, .bool (vgB (pd q a))]) ∧ Pk 56 3 G' w' p L R B mm q' ∧ PoolOk q' ∧ PX q q' ∧ (q'.ns = q.ns ∧ q'.bs = q.bs) ∧ Ext (inO (some mm.o)) G w G' w' :=
 val_all _ hP hpk hok ha hc (Nat.lt_succ_self _)

end VA3
end Go.Proofs.YtakkjmlnmcemaaaGreatDoor

set_option maxRecDepth 20000
set_option maxHeartbeats 2000000
namespace Go.Proofs.YtakkjmlnmcemaaaGreatDoor
namespace SW1
open Go.RowKit Go.GL Go.Proofs
open B1 C1 D1 E1 K1 PO1 PL1 NU1 NU2 VA2





theorem compareDyadic_spec {w : World} {G : Pin} {t z s y : Int} (hP : Pins G w) :
  Calls Tryz.prog 67 [(.agg [(vJ t), (vJ z)].toArray), (.agg [(vJ s), (vJ y)].toArray)].toArray w fun e w' => ∃ G', e = .returned (.tuple #[.int .i64 (cdI t z s y), .bool (cdB t z s y)]) ∧ Ext noS G w G' w' := by
 refine zV (n := 19) Tryz.func67 Tryz.ntmps67 rfl rfl ?_
 have m : Ext noS G w G w := Ext.refl hP
 refine zB (zC ?_)
 refine qI rfl (xG [(vJ t), (vJ z)] (v := (.agg [(vJ t), (vJ z)].toArray)) rfl rfl m.pins (fun b1 w2 a0 ak al am => ?_))
 have an := m.step al am
 have ao : w.heap.size ≤ b1 := by have := m.size; omega
 obtain ⟨G9, a2, o, af, a3⟩ := ak.shut an ao
 refine qI rfl (xG [(vJ s), (vJ y)] (v := (.agg [(vJ s), (vJ y)].toArray)) rfl rfl o.pins (fun ap a4 a5 aq ar au => ?_))
 have av := o.step ar au
 have aw : w.heap.size ≤ ap := by have := o.size; omega
 obtain ⟨a6, ag, p, ah, a7⟩ := aq.shut av aw
 refine qM (vJ 0) ?_
 refine qM (.bool false) ?_
 refine qe (zA (zB (zB (zC ?_))))
 refine qD rfl (yH (cs := [(vJ t), (vJ z)]) ag27 sz27 rfl (fun j u hj => (Pins.of_le p.pins ag) _ _ _ (af _ _ (by simpa using hj)))) (qI rfl (zH (vs := [(.agg [(vJ t), (vJ z)].toArray)]) Tryz.func34 nm34 rfl rfl rfl ?_))
 refine Calls.mono (qL (t := t) (z := z) p.pins) ?_
 rintro _ a8 ⟨a9, rfl, h⟩
 refine ⟨_, rfl, ?_⟩
 have k := p.tr h
 refine qD rfl (xE rfl) (qM (.bool (!(decP (GoodD t z)))) ?_)
 refine qbn (t := 9) rfl (fun q => ?_) (fun q => ?_)
 refine qN (yH (cs := [(vJ s), (vJ y)]) ag27 sz27 rfl (fun j u hj => (Pins.of_le k.pins h.le) _ _ _ (ah _ _ (by simpa using hj)))) ?_
 refine q1g rfl rfl rfl rfl rfl rfl (zH (vs := [(.agg [(vJ s), (vJ y)].toArray)]) Tryz.func34 nm34 rfl rfl rfl ?_)
 refine Calls.mono (qL (t := s) (z := y) k.pins) ?_
 rintro _ r ⟨ax, rfl, x⟩
 refine ⟨_, rfl, ?_⟩
 have aa := k.tr x
 refine qN (xE rfl) ?_
 refine qD rfl (zY (v := (.bool (!(decP (GoodD s y))))) rfl rfl) (qe (zA ?_))
 refine xX rfl rfl (fun ab => ?_) (fun ab => ?_)
 refine wp_skip (zA (zB ?_))
 have ac : GoodD t z := decP_true.1 q
 have ad : GoodD s y := decP_true.1 ab
 have h1t := ac.top
 have h1p := ac.pow
 have h2t := ad.top
 have h2p := ad.pow
 refine yZ (S := fun wz => Pins ax wz) (last := 7) (by kernel_rfl) rfl ?_
 have ai : Below r.heap.size r r.drew := (Below.refl _ _).drew
 have ay := aa.pins.below ai
 have l := aa.step ay ai
 refine dT (i := 0) rfl rfl (by kernel_rfl) (fun _ hS => yH (cs := [(vJ t), (vJ z)]) ag27 sz27 rfl (fun j u hj => (Pins.of_le hS (Pin.le_trans (Pin.le_trans ag h.le) x.le)) _ _ _ (af _ _ (by simpa using hj)))) l.pins ?_
 refine dT (i := 2) rfl rfl (by kernel_rfl) (fun _ hS => yH (cs := [(vJ s), (vJ y)]) ag27 sz27 rfl (fun j u hj => (Pins.of_le hS (Pin.le_trans h.le x.le)) _ _ _ (ah _ _ (by simpa using hj)))) l.pins ?_
 refine dO (i := 1) (zU (i := 1) rfl rfl rfl (zD rfl _) (zH (vs := [(.agg [(vJ t), (vJ z)].toArray)]) Tryz.func48 nm48 rfl rfl rfl ?_))
 refine Calls.mono (jQ (t := t) (z := z) l.pins (by omega) (by omega)) ?_
 rintro _ ba ⟨bb, rfl, a⟩
 refine ⟨_, rfl, ?_⟩
 have ae := l.tr a
 refine ⟨fun _ => (Pins.of_le ae.pins a.le), ?_⟩
 refine dO (i := 3) (zU (i := 3) rfl rfl rfl (zD rfl _) (zH (vs := [(.agg [(vJ s), (vJ y)].toArray)]) Tryz.func48 nm48 rfl rfl rfl ?_))
 refine Calls.mono (jQ (t := s) (z := y) ae.pins (by omega) (by omega)) ?_
 rintro _ bc ⟨bd, rfl, c⟩
 refine ⟨_, rfl, ?_⟩
 have b := ae.tr c
 refine ⟨fun _ => (Pins.of_le b.pins (Pin.le_trans a.le c.le)), ?_⟩
 refine dO (i := 4) (zU (i := 4) rfl rfl rfl (zD rfl _) (zH (vs := [(vJ (scI 16 t z)), (vJ (scI 16 s y))]) Tryz.func62 nm62 rfl rfl rfl ?_))
 refine Calls.mono (cmpCompare_spec b.pins) ?_
 rintro _ _ ⟨rfl, rfl⟩
 refine ⟨_, rfl, ?_⟩
 refine ⟨fun _ => (Pins.of_le b.pins (Pin.le_trans a.le c.le)), ?_⟩
 refine dM 5 (vJ (cmpI (scI 16 t z) (scI 16 s y))) (Pins.of_le b.pins (Pin.le_trans a.le c.le)) ?_
 refine dM 6 (.bool true) (Pins.of_le b.pins (Pin.le_trans a.le c.le)) ?_
 refine yQ (by kernel_rfl) (zA (wp_ret (zO (c_ret2 (v := (vJ (cmpI (scI 16 t z) (scI 16 s y)))) (u := (.bool true)) rfl rfl rfl rfl rfl ?_))))
 obtain ⟨d, f⟩ := cd_yes ac ad
 rw [d, f]
 exact ⟨_, rfl, b⟩
 refine zB (zC ?_)
 refine qM (vJ 0) ?_
 refine qM (.bool false) ?_
 refine qe (zA ?_)
 refine wp_ret (zO (c_ret2 (v := (vJ 0)) (u := (.bool false)) rfl rfl rfl rfl rfl ?_))
 obtain ⟨d, f⟩ := cd_no (t := t) (z := z) (s := s) (y := y) (fun g => decP_false.1 ab g.2)
 rw [d, f]
 exact ⟨_, rfl, aa⟩
 refine qW ?_
 refine qW ?_
 refine qW ?_
 refine qD rfl (yD (v := (.bool true)) rfl rfl) (qe (zA ?_))
 refine xY rfl rfl (zB (zC ?_))
 refine qM (vJ 0) ?_
 refine qM (.bool false) ?_
 refine qe (zA ?_)
 refine wp_ret (zO (c_ret2 (v := (vJ 0)) (u := (.bool false)) rfl rfl rfl rfl rfl ?_))
 obtain ⟨d, f⟩ := cd_no (t := t) (z := z) (s := s) (y := y) (fun g => decP_false.1 q g.1)
 rw [d, f]
 exact ⟨_, rfl, k⟩

end SW1
end Go.Proofs.YtakkjmlnmcemaaaGreatDoor

set_option maxRecDepth 20000
set_option maxHeartbeats 2000000
namespace Go.Proofs.YtakkjmlnmcemaaaGreatDoor
namespace DI1
open Go.RowKit Go.GL Go.Proofs
open B1 K1 PO1 PL1





theorem idominated_spec {p : Nat} {L R B : Value} {mm : PM} {w : World} {G : Pin} {q : PSt} {x : Value} {xs : List Int} {lf : Bool} (hP : Pins G w) (hpk : Pk 56 3 G w p L R B mm q) (hok : PoolOk q) (hx : RSl eInt G x xs) (hxl : xs.length ≤ 1048576) (hpl : ∀ i, i < xs.length → PlaceOk q (xs.getD i 0)) :
  Calls Tryz.prog 111 [(.pointer (some ⟨p, 0, none⟩)), x, (.bool lf)].toArray w fun e w' => ∃ (u : Value) (q' : PSt) (G' : Pin), e = .returned u ∧ Own eInt 3 G' w' w.heap.size u (domL (gX q xs) lf xs.length xs.length) ∧ Pk 56 3 G' w' p L R B mm q' ∧ PoolOk q' ∧ PX q q' ∧ (q'.ns = q.ns ∧ q'.bs = q.bs) ∧ Ext (inO (some mm.o)) G w G' w' := by
 refine zV (n := 61) Tryz.func111 Tryz.ntmps111 rfl rfl ?_
 have a3 : Ext (inO (some mm.o)) G w G w := Ext.refl hP
 have hpin : PIn w (inP p L R B mm) p L R B mm := PIn.self
 have dr : (q.ns.map Nd.l).length = q.ns.length ∧ (q.ns.map Nd.r).length = q.ns.length := ⟨List.length_map .., List.length_map ..⟩
 have ds : q.bs.length = q.ns.length ∧ q.ns.length ≤ 1048576 := ⟨hok.ar.ok.len, hok.ar.ok.lim⟩
 refine zB (zC ?_)
 refine qM (.slice none 0 0) ?_
 refine qe (zA (zB (zC ?_)))
 refine qI rfl (xD (E := eInt) (e := 3) Tryz.underlying56 sz3 a3.pins (fun u3 w4 ck bk bl cl => ?_))
 have cm := a3.step bk bl
 have cn := hpk.below bl bk
 have co := hpk.new (x := u3.ownBlock) (fun k hk => by rw [cl] at hk; cases hk; exact Nat.le_refl _)
 have cp : Own eInt 3 G w4 w.heap.size u3 ([]) := ck.weaken a3.size
 refine qM u3 ?_
 refine qe (zA (zB (zB (zC ?_))))
 refine qM x ?_
 refine qD rfl (zM Tryz.underlying56 (v := x) rfl hx) (qM (vJ 0) ?_)
 refine qe (zA ?_)
 refine zX (yT (fun (k : Nat) (en : Nat → Value) (W : World) => ∃ (av : Nat → Value) (i : Nat) (ov : Value) (out : List Int) (d : PSt) (an : Pin), en = (upd (upd (upd (upd (upd (upd (upd (upd av 0 (.pointer (some ⟨p, 0, none⟩))) 1 x) 2 (.bool lf)) 6 (.slice none 0 0)) 7 ov) 15 x) 16 (vJ (xs.length : Int))) 17 (vJ (i : Int))) ∧ k = xs.length - i ∧ Ext (inO (some mm.o)) G w an W ∧ Pin.le G an ∧ (i ≤ xs.length) ∧ (out = domL (gX q xs) lf xs.length i) ∧ (Own eInt 3 an W w.heap.size ov (out)) ∧ (Pk 56 3 an W p L R B mm d) ∧ (PoolOk d) ∧ (PX q d) ∧ (d.ns = q.ns ∧ d.bs = q.bs) ∧ (NP p L R B mm ov.ownBlock)) _ ⟨_, 0, u3, [], q, G, (pS 17 (pS 16 (pS 15 (pS 7 (pS 6 (pS 2 (pS 1 (pU 0)))))))), rfl, cm, Pin.le_refl _, Nat.zero_le _, rfl, cp, cn, hok, (PX.refl _), ⟨rfl, rfl⟩, co⟩ ?_)
 rintro dt _ du ⟨av, i, ov, out, d, an, rfl, dv, a4, ao, hi, hout, bm, bn, az, ap, c, ab⟩
 have dw := ap.len
 have dx : (d.ns.map Nd.l).length = d.ns.length ∧ (d.ns.map Nd.r).length = d.ns.length := ⟨List.length_map .., List.length_map ..⟩
 have dy : d.bs.length = d.ns.length ∧ d.ns.length ≤ 1048576 := ⟨az.ar.ok.len, az.ar.ok.lim⟩
 have hol : out.length ≤ i := by rw [hout]; exact (dom_len i).1
 refine zB (zC ?_)
 refine qD rfl (yV rfl rfl) (qe (zA (zB ?_)))
 refine yA (p := ((i : Int) : Int) < (xs.length : Int)) rfl rfl (fun cq => ?_) (fun cq => ?_)
 refine wp_skip (zA (zB ?_))
 refine zX (zB (zC ?_))
 refine qM (vJ (i : Int)) ?_
 refine qD rfl (zF Tryz.underlying56 sz3 (v := x) rfl rfl hx (by omega) (by omega)) (qD rfl (zE (r := xs.getD i 0) rfl ag3 (z := (i : Int)) rfl hx (Pins.of_le a4.pins ao) (by omega) (by omega)) (qM (vJ (i : Int)) ?_))
 refine qM (vJ (xs.getD i 0)) ?_
 refine qe (zA (zB (zC ?_)))
 refine qM x ?_
 refine qD rfl (zM Tryz.underlying56 (v := x) rfl hx) (qM (vJ 0) ?_)
 refine qe (zA ?_)
 refine zX (yT (fun (k : Nat) (en : Nat → Value) (W : World) => ∃ (av : Nat → Value) (j : Nat) (b : PSt) (aq : Pin), en = (upd (upd (upd (upd (upd (upd (upd (upd (upd (upd (upd (upd (upd av 0 (.pointer (some ⟨p, 0, none⟩))) 1 x) 2 (.bool lf)) 6 (.slice none 0 0)) 7 ov) 8 (vJ (i : Int))) 9 (vJ (xs.getD i 0))) 15 x) 16 (vJ (xs.length : Int))) 17 (vJ (i : Int))) 22 x) 23 (vJ (xs.length : Int))) 24 (vJ (j : Int))) ∧ k = xs.length - j ∧ Ext (inO (some mm.o)) G w aq W ∧ Pin.le an aq ∧ (j ≤ xs.length) ∧ (∀ x, x < j → ¬ domP (gX q xs) lf i x) ∧ (Own eInt 3 aq W w.heap.size ov (out)) ∧ (Pk 56 3 aq W p L R B mm b) ∧ (PoolOk b) ∧ (PX d b) ∧ (b.ns = d.ns ∧ b.bs = d.bs)) _ ⟨_, 0, d, an, (pS 24 (pS 23 (pS 22 (pS 17 (pS 16 (pS 15 (pS 9 (pS 8 (pS 7 (pS 6 (pS 2 (pS 1 (pU 0))))))))))))), rfl, a4, Pin.le_refl _, Nat.zero_le _, (fun x h => absurd h (Nat.not_lt_zero x)), bm, bn, az, (PX.refl _), ⟨rfl, rfl⟩⟩ ?_)
 rintro dz _ d0 ⟨av, j, b, aq, rfl, d1, aw, ac, hj, hnd, a5, a6, ax, ad, a⟩
 have d2 := ad.len
 have d3 : (b.ns.map Nd.l).length = b.ns.length ∧ (b.ns.map Nd.r).length = b.ns.length := ⟨List.length_map .., List.length_map ..⟩
 have d4 : b.bs.length = b.ns.length ∧ b.ns.length ≤ 1048576 := ⟨ax.ar.ok.len, ax.ar.ok.lim⟩
 refine zB (zC ?_)
 refine qD rfl (yV rfl rfl) (qe (zA (zB ?_)))
 refine yA (p := ((j : Int) : Int) < (xs.length : Int)) rfl rfl (fun cr => ?_) (fun cr => ?_)
 refine wp_skip (zA (zB ?_))
 refine zX (zB (zC ?_))
 refine qM (vJ (j : Int)) ?_
 refine qD rfl (zF Tryz.underlying56 sz3 (v := x) rfl rfl hx (by omega) (by omega)) (qD rfl (zE (r := xs.getD j 0) rfl ag3 (z := (j : Int)) rfl hx (Pins.of_le aw.pins (Pin.le_trans ao ac)) (by omega) (by omega)) (qM (vJ (j : Int)) ?_))
 refine qM (vJ (xs.getD j 0)) ?_
 refine qe (zA (zB (zB (zC ?_))))
 refine qM (vJ (j : Int)) ?_
 refine qM (vJ (i : Int)) ?_
 refine qD rfl (xV rfl rfl) (qe (zA ?_))
 refine yA (p := ((j : Int) : Int) = (i : Int)) rfl rfl (fun au => ?_) (fun au => ?_)
 refine wp_exit (zW (yI (zA (zC ?_))))
 refine qD rfl (yJ rfl rfl (by omega)) (qM (vJ ((j : Int) + 1)) ?_)
 refine qe (zZ (⟨_, ?_, _, rfl, _, j + 1, b, aq, (pS 24 (pS 23 (pS 22 (pS 17 (pS 16 (pS 15 (pS 9 (pS 8 (pS 7 (pS 6 (pS 2 (pS 1 (pU 0))))))))))))), rfl, aw, ac, (by omega), (fun x h2 => if h3 : x = j then h3 ▸ (fun p => p.1 au) else hnd x (by omega)), a5, a6, ax, ad, a⟩))
 omega
 refine wp_skip (zA (zB (zC ?_)))
 refine qM (.pointer (some ⟨p, 0, none⟩)) ?_
 refine qM (vJ (xs.getD j 0)) ?_
 refine qM (vJ (xs.getD i 0)) ?_
 refine qI rfl (zH (vs := [(.pointer (some ⟨p, 0, none⟩)), (vJ (xs.getD j 0)), (vJ (xs.getD i 0))]) Tryz.func97 nm97 rfl rfl rfl ?_)
 refine Calls.mono (ge_spec aw.pins a6 ax ((hpl j (by omega)).same (zN c a)) ((hpl i (by omega)).same (zN c a))) ?_
 rintro _ d5 ⟨y, d6, rfl, cs, a7, ai, f, af⟩
 refine ⟨_, rfl, ?_⟩
 have bo := aw.trans af (fun i hi => xK i hi)
 have ct := a5.extS af (notO (NP.ho ab))
 have d7 := ai.len
 have d8 : (y.ns.map Nd.l).length = y.ns.length ∧ (y.ns.map Nd.r).length = y.ns.length := ⟨List.length_map .., List.length_map ..⟩
 have d9 : y.bs.length = y.ns.length ∧ y.ns.length ≤ 1048576 := ⟨a7.ar.ok.len, a7.ar.ok.lim⟩
 have ea := congrArg List.length f.1
 refine qM (.pointer (some ⟨p, 0, none⟩)) ?_
 refine qM (vJ (xs.getD i 0)) ?_
 refine qM (vJ (xs.getD j 0)) ?_
 refine qI rfl (zH (vs := [(.pointer (some ⟨p, 0, none⟩)), (vJ (xs.getD i 0)), (vJ (xs.getD j 0))]) Tryz.func97 nm97 rfl rfl rfl ?_)
 refine Calls.mono (ge_spec bo.pins cs a7 ((hpl i (by omega)).same (zN (zN c a) f)) ((hpl j (by omega)).same (zN (zN c a) f))) ?_
 rintro _ eb ⟨s, aa, rfl, al, ag, aj, ak, ah⟩
 refine ⟨_, rfl, ?_⟩
 have m := bo.trans ah (fun i hi => xK i hi)
 have am := ct.extS ah (notO (NP.ho ab))
 have ec := aj.len
 have ed : (s.ns.map Nd.l).length = s.ns.length ∧ (s.ns.map Nd.r).length = s.ns.length := ⟨List.length_map .., List.length_map ..⟩
 have ee : s.bs.length = s.ns.length ∧ s.ns.length ≤ 1048576 := ⟨ag.ar.ok.len, ag.ar.ok.lim⟩
 have ef := congrArg List.length ak.1
 refine qM (.bool (geB b.ns (xs.getD j 0) (xs.getD i 0))) ?_
 refine qM (.bool (geB y.ns (xs.getD i 0) (xs.getD j 0))) ?_
 refine qe (zA (zB (zB (zC ?_))))
 refine qM (.bool lf) ?_
 refine qD rfl (xE rfl) (qe (zA ?_))
 refine xX rfl rfl (fun ae => ?_) (fun ae => ?_)
 refine wp_skip (zA (zB (zC ?_)))
 refine qM (.bool (geB b.ns (xs.getD j 0) (xs.getD i 0))) ?_
 refine qM (.bool (geB b.ns (xs.getD j 0) (xs.getD i 0))) ?_
 refine qb (t := 45) rfl (fun a1 => ?_) (fun a1 => ?_)
 refine qN (zQ (v := (.bool (geB y.ns (xs.getD i 0) (xs.getD j 0)))) rfl) ?_
 refine qN (xE rfl) ?_
 refine qN (zQ (v := (.bool (!(geB y.ns (xs.getD i 0) (xs.getD j 0))))) rfl) ?_
 refine qbn (t := 48) rfl (fun a8 => ?_) (fun a8 => ?_)
 refine qN (zQ (v := (vJ (j : Int))) rfl) ?_
 refine qN (zQ (v := (vJ (i : Int))) rfl) ?_
 refine qN (yV rfl rfl) ?_
 refine qN (zY (v := (.bool (decide (((j : Int) : Int) < (i : Int))))) rfl rfl) ?_
 refine qD rfl (yD (v := (.bool (decide (((j : Int) : Int) < (i : Int))))) rfl rfl) (qe (zA ?_))
 refine yA (p := ((j : Int) : Int) < (i : Int)) rfl rfl (fun a9 => ?_) (fun a9 => ?_)
 refine zB (zC ?_)
 refine qM ov ?_
 refine qM (vJ (i : Int)) ?_
 refine qI rfl (xA (E := eInt) (e := 3) [(vJ (i : Int))] [(i : Int)] Tryz.underlying56 sz3 zr3 (by exact xZ (by rfl)) (xN (by rfl)) rfl rfl rfl rfl (by decide) m.pins (fun bp cu cv bq ba eg => ?_))
 have bb := m.step bq ba
 have br := am.below ba
 have bt := al.below ba bq
 have cw : Own eInt 3 aa cu w.heap.size bp ([(i : Int)]) := cv.weaken m.size
 refine qI rfl (oA (E := eInt) (v := ov) (u := bp) 8 Tryz.underlying56 ap3 (by decide) rfl rfl bb.pins br cw.src (bb.size) (fun bu eh cx bv bw cy => ?_))
 have cz := bb.write bv bw ((yN br))
 have c0 := bt.kept bw bv ab
 have c1 := np_app ab bt cy
 have ei : (out ++ ([(i : Int)])).length = out.length + 1 := List.length_append
 refine qM bu ?_
 refine qe (zA ?_)
 refine wp_exit (s_blkO rfl (zW (yO (yI (yB (zA (zC ?_)))))))
 refine qD rfl (yJ rfl rfl (by omega)) (qM (vJ ((i : Int) + 1)) ?_)
 refine qe (zZ (⟨_, ?_, _, rfl, _, i + 1, bu, out ++ ([(i : Int)]), s, aa, (pS 17 (pS 16 (pS 15 (pS 7 (pS 6 (pS 2 (pS 1 (pU 0)))))))), rfl, cz, (Pin.le_trans (Pin.le_trans (Pin.le_trans ao ac) af.le) ah.le), (by omega), (by rw [dom_hit (g := gX q xs) (lf := lf) (show j < xs.length by omega) ⟨au, (geD_t ae).2 (decP_true.1 ((xR (zN c a)).symm.trans a1)), Or.inr a9⟩, hout]), cx, c0, ag, (PX.trans (PX.trans (PX.trans ap ad) ai) aj), (zN (zN (zN c a) f) ak), c1⟩))
 omega
 refine wp_skip (yB (zA (zC ?_)))
 refine qD rfl (yJ rfl rfl (by omega)) (qM (vJ ((j : Int) + 1)) ?_)
 refine qe (zZ (⟨_, ?_, _, rfl, _, j + 1, s, aa, (pS 24 (pS 23 (pS 22 (pS 17 (pS 16 (pS 15 (pS 9 (pS 8 (pS 7 (pS 6 (pS 2 (pS 1 (pU 0))))))))))))), rfl, m, (Pin.le_trans (Pin.le_trans ac af.le) ah.le), (by omega), (fun x h2 => if h3 : x = j then h3 ▸ (fun p => p.2.2.elim (fun h => h ((geD_t ae).2 (decP_true.1 ((xR (zN (zN c a) f)).symm.trans a8)))) a9) else hnd x (by omega)), am, al, ag, (PX.trans (PX.trans ad ai) aj), (zN (zN a f) ak)⟩))
 omega
 refine qW ?_
 refine qW ?_
 refine qW ?_
 refine qN (yD (v := (.bool true)) rfl rfl) ?_
 refine qD rfl (yD (v := (.bool true)) rfl rfl) (qe (zA ?_))
 refine xY rfl rfl (zB (zC ?_))
 refine qM ov ?_
 refine qM (vJ (i : Int)) ?_
 refine qI rfl (xA (E := eInt) (e := 3) [(vJ (i : Int))] [(i : Int)] Tryz.underlying56 sz3 zr3 (by exact xZ (by rfl)) (xN (by rfl)) rfl rfl rfl rfl (by decide) m.pins (fun bx c2 c3 bz bc ej => ?_))
 have bd := m.step bz bc
 have b0 := am.below bc
 have b1 := al.below bc bz
 have c4 : Own eInt 3 aa c2 w.heap.size bx ([(i : Int)]) := c3.weaken m.size
 refine qI rfl (oA (E := eInt) (v := ov) (u := bx) 8 Tryz.underlying56 ap3 (by decide) rfl rfl bd.pins b0 c4.src (bd.size) (fun b2 ek c5 b3 b4 c6 => ?_))
 have c7 := bd.write b3 b4 ((yN b0))
 have c8 := b1.kept b4 b3 ab
 have c9 := np_app ab b1 c6
 have el : (out ++ ([(i : Int)])).length = out.length + 1 := List.length_append
 refine qM b2 ?_
 refine qe (zA ?_)
 refine wp_exit (s_blkO rfl (zW (yO (yI (yB (zA (zC ?_)))))))
 refine qD rfl (yJ rfl rfl (by omega)) (qM (vJ ((i : Int) + 1)) ?_)
 refine qe (zZ (⟨_, ?_, _, rfl, _, i + 1, b2, out ++ ([(i : Int)]), s, aa, (pS 17 (pS 16 (pS 15 (pS 7 (pS 6 (pS 2 (pS 1 (pU 0)))))))), rfl, c7, (Pin.le_trans (Pin.le_trans (Pin.le_trans ao ac) af.le) ah.le), (by omega), (by rw [dom_hit (g := gX q xs) (lf := lf) (show j < xs.length by omega) ⟨au, (geD_t ae).2 (decP_true.1 ((xR (zN c a)).symm.trans a1)), Or.inl (fun h => (decP_false.1 ((xR (zN (zN c a) f)).symm.trans a8)) ((geD_t ae).1 h))⟩, hout]), c5, c8, ag, (PX.trans (PX.trans (PX.trans ap ad) ai) aj), (zN (zN (zN c a) f) ak), c9⟩))
 omega
 refine qW ?_
 refine qW ?_
 refine qW ?_
 refine qX ?_
 refine qX ?_
 refine qX ?_
 refine qW ?_
 refine qD rfl (zY (v := (.bool false)) rfl rfl) (qe (zA ?_))
 refine qA rfl rfl (wp_skip (yB (zA (zC ?_))))
 refine qD rfl (yJ rfl rfl (by omega)) (qM (vJ ((j : Int) + 1)) ?_)
 refine qe (zZ (⟨_, ?_, _, rfl, _, j + 1, s, aa, (pS 24 (pS 23 (pS 22 (pS 17 (pS 16 (pS 15 (pS 9 (pS 8 (pS 7 (pS 6 (pS 2 (pS 1 (pU 0))))))))))))), rfl, m, (Pin.le_trans (Pin.le_trans ac af.le) ah.le), (by omega), (fun x h2 => if h3 : x = j then h3 ▸ (fun p => (decP_false.1 ((xR (zN c a)).symm.trans a1)) ((geD_t ae).1 p.2.1)) else hnd x (by omega)), am, al, ag, (PX.trans (PX.trans ad ai) aj), (zN (zN a f) ak)⟩))
 omega
 refine zC (qM (.bool (geB y.ns (xs.getD i 0) (xs.getD j 0))) ?_)
 refine qM (.bool (geB b.ns (xs.getD j 0) (xs.getD i 0))) ?_
 refine qM (.bool (geB y.ns (xs.getD i 0) (xs.getD j 0))) ?_
 refine qM (.bool (geB b.ns (xs.getD j 0) (xs.getD i 0))) ?_
 refine qe (zA (zB (zC ?_)))
 refine qM (.bool (geB y.ns (xs.getD i 0) (xs.getD j 0))) ?_
 refine qM (.bool (geB y.ns (xs.getD i 0) (xs.getD j 0))) ?_
 refine qb (t := 45) rfl (fun a2 => ?_) (fun a2 => ?_)
 refine qN (zQ (v := (.bool (geB b.ns (xs.getD j 0) (xs.getD i 0)))) rfl) ?_
 refine qN (xE rfl) ?_
 refine qN (zQ (v := (.bool (!(geB b.ns (xs.getD j 0) (xs.getD i 0))))) rfl) ?_
 refine qbn (t := 48) rfl (fun be => ?_) (fun be => ?_)
 refine qN (zQ (v := (vJ (j : Int))) rfl) ?_
 refine qN (zQ (v := (vJ (i : Int))) rfl) ?_
 refine qN (yV rfl rfl) ?_
 refine qN (zY (v := (.bool (decide (((j : Int) : Int) < (i : Int))))) rfl rfl) ?_
 refine qD rfl (yD (v := (.bool (decide (((j : Int) : Int) < (i : Int))))) rfl rfl) (qe (zA ?_))
 refine yA (p := ((j : Int) : Int) < (i : Int)) rfl rfl (fun bf => ?_) (fun bf => ?_)
 refine zB (zC ?_)
 refine qM ov ?_
 refine qM (vJ (i : Int)) ?_
 refine qI rfl (xA (E := eInt) (e := 3) [(vJ (i : Int))] [(i : Int)] Tryz.underlying56 sz3 zr3 (by exact xZ (by rfl)) (xN (by rfl)) rfl rfl rfl rfl (by decide) m.pins (fun b5 da db b6 bg em => ?_))
 have bh := m.step b6 bg
 have b7 := am.below bg
 have b8 := al.below bg b6
 have dc : Own eInt 3 aa da w.heap.size b5 ([(i : Int)]) := db.weaken m.size
 refine qI rfl (oA (E := eInt) (v := ov) (u := b5) 8 Tryz.underlying56 ap3 (by decide) rfl rfl bh.pins b7 dc.src (bh.size) (fun b9 eo dd ca cb de => ?_))
 have df := bh.write ca cb ((yN b7))
 have dg := b8.kept cb ca ab
 have dh := np_app ab b8 de
 have ep : (out ++ ([(i : Int)])).length = out.length + 1 := List.length_append
 refine qM b9 ?_
 refine qe (zA ?_)
 refine wp_exit (s_blkO rfl (zW (yO (yI (yB (zA (zC ?_)))))))
 refine qD rfl (yJ rfl rfl (by omega)) (qM (vJ ((i : Int) + 1)) ?_)
 refine qe (zZ (⟨_, ?_, _, rfl, _, i + 1, b9, out ++ ([(i : Int)]), s, aa, (pS 17 (pS 16 (pS 15 (pS 7 (pS 6 (pS 2 (pS 1 (pU 0)))))))), rfl, df, (Pin.le_trans (Pin.le_trans (Pin.le_trans ao ac) af.le) ah.le), (by omega), (by rw [dom_hit (g := gX q xs) (lf := lf) (show j < xs.length by omega) ⟨au, (geD_f ae).2 (decP_true.1 ((xR (zN (zN c a) f)).symm.trans a2)), Or.inr bf⟩, hout]), dd, dg, ag, (PX.trans (PX.trans (PX.trans ap ad) ai) aj), (zN (zN (zN c a) f) ak), dh⟩))
 omega
 refine wp_skip (yB (zA (zC ?_)))
 refine qD rfl (yJ rfl rfl (by omega)) (qM (vJ ((j : Int) + 1)) ?_)
 refine qe (zZ (⟨_, ?_, _, rfl, _, j + 1, s, aa, (pS 24 (pS 23 (pS 22 (pS 17 (pS 16 (pS 15 (pS 9 (pS 8 (pS 7 (pS 6 (pS 2 (pS 1 (pU 0))))))))))))), rfl, m, (Pin.le_trans (Pin.le_trans ac af.le) ah.le), (by omega), (fun x h2 => if h3 : x = j then h3 ▸ (fun p => p.2.2.elim (fun h => h ((geD_f ae).2 (decP_true.1 ((xR (zN c a)).symm.trans be)))) bf) else hnd x (by omega)), am, al, ag, (PX.trans (PX.trans ad ai) aj), (zN (zN a f) ak)⟩))
 omega
 refine qW ?_
 refine qW ?_
 refine qW ?_
 refine qN (yD (v := (.bool true)) rfl rfl) ?_
 refine qD rfl (yD (v := (.bool true)) rfl rfl) (qe (zA ?_))
 refine xY rfl rfl (zB (zC ?_))
 refine qM ov ?_
 refine qM (vJ (i : Int)) ?_
 refine qI rfl (xA (E := eInt) (e := 3) [(vJ (i : Int))] [(i : Int)] Tryz.underlying56 sz3 zr3 (by exact xZ (by rfl)) (xN (by rfl)) rfl rfl rfl rfl (by decide) m.pins (fun cc di dj cd bi eq => ?_))
 have bj := m.step cd bi
 have ce := am.below bi
 have cf := al.below bi cd
 have dk : Own eInt 3 aa di w.heap.size cc ([(i : Int)]) := dj.weaken m.size
 refine qI rfl (oA (E := eInt) (v := ov) (u := cc) 8 Tryz.underlying56 ap3 (by decide) rfl rfl bj.pins ce dk.src (bj.size) (fun cg er dl ch ci dm => ?_))
 have dn := bj.write ch ci ((yN ce))
 have dp := cf.kept ci ch ab
 have dq := np_app ab cf dm
 have es : (out ++ ([(i : Int)])).length = out.length + 1 := List.length_append
 refine qM cg ?_
 refine qe (zA ?_)
 refine wp_exit (s_blkO rfl (zW (yO (yI (yB (zA (zC ?_)))))))
 refine qD rfl (yJ rfl rfl (by omega)) (qM (vJ ((i : Int) + 1)) ?_)
 refine qe (zZ (⟨_, ?_, _, rfl, _, i + 1, cg, out ++ ([(i : Int)]), s, aa, (pS 17 (pS 16 (pS 15 (pS 7 (pS 6 (pS 2 (pS 1 (pU 0)))))))), rfl, dn, (Pin.le_trans (Pin.le_trans (Pin.le_trans ao ac) af.le) ah.le), (by omega), (by rw [dom_hit (g := gX q xs) (lf := lf) (show j < xs.length by omega) ⟨au, (geD_f ae).2 (decP_true.1 ((xR (zN (zN c a) f)).symm.trans a2)), Or.inl (fun h => (decP_false.1 ((xR (zN c a)).symm.trans be)) ((geD_f ae).1 h))⟩, hout]), dl, dp, ag, (PX.trans (PX.trans (PX.trans ap ad) ai) aj), (zN (zN (zN c a) f) ak), dq⟩))
 omega
 refine qW ?_
 refine qW ?_
 refine qW ?_
 refine qX ?_
 refine qX ?_
 refine qX ?_
 refine qW ?_
 refine qD rfl (zY (v := (.bool false)) rfl rfl) (qe (zA ?_))
 refine qA rfl rfl (wp_skip (yB (zA (zC ?_))))
 refine qD rfl (yJ rfl rfl (by omega)) (qM (vJ ((j : Int) + 1)) ?_)
 refine qe (zZ (⟨_, ?_, _, rfl, _, j + 1, s, aa, (pS 24 (pS 23 (pS 22 (pS 17 (pS 16 (pS 15 (pS 9 (pS 8 (pS 7 (pS 6 (pS 2 (pS 1 (pU 0))))))))))))), rfl, m, (Pin.le_trans (Pin.le_trans ac af.le) ah.le), (by omega), (fun x h2 => if h3 : x = j then h3 ▸ (fun p => (decP_false.1 ((xR (zN (zN c a) f)).symm.trans a2)) ((geD_f ae).1 p.2.1)) else hnd x (by omega)), am, al, ag, (PX.trans (PX.trans ad ai) aj), (zN (zN a f) ak)⟩))
 omega
 refine wp_exit (zW (yO (yI (yB (zA (zC ?_))))))
 refine qD rfl (yJ rfl rfl (by omega)) (qM (vJ ((i : Int) + 1)) ?_)
 refine qe (zZ (⟨_, ?_, _, rfl, _, i + 1, ov, out, b, aq, (pS 17 (pS 16 (pS 15 (pS 7 (pS 6 (pS 2 (pS 1 (pU 0)))))))), rfl, aw, (Pin.le_trans ao ac), (by omega), (by rw [dom_miss (fun x h => hnd x (by omega)), hout]), a5, a6, ax, (PX.trans ap ad), (zN c a), ab⟩))
 omega
 refine wp_exit (zW (yO (yI (zA (zB (zC ?_))))))
 refine qM ov ?_
 refine qM ov ?_
 refine qe (zA ?_)
 refine wp_ret (zO (zP (v := ov) rfl rfl rfl ?_))
 have hin : i = xs.length := by omega
 rw [hin] at hout
 exact ⟨_, d, _, rfl, (by rw [← hout]; exact bm), bn, az, ap, c, a4⟩

end DI1
end Go.Proofs.YtakkjmlnmcemaaaGreatDoor

set_option maxRecDepth 20000
set_option maxHeartbeats 2000000
namespace Go.Proofs.YtakkjmlnmcemaaaGreatDoor
namespace RI1
open Go.RowKit Go.GL Go.Proofs
open B1 K1 PO1 PL1



theorem through_spec {p : Nat} {L R B : Value} {mm : PM} {w : World} {G : Pin} {q : PSt} {f c : Int} {x : Value} {xs : List Int} {lf : Bool} (hP : Pins G w) (hpk : Pk 56 3 G w p L R B mm q) (hok : PoolOk q) (hf : PlaceOk q f) (hc : PlaceOk q c) (hx : RSl eInt G x xs) (hxs : xs = (if lf = true then (q.ns.getD (c).toNat default).r else (q.ns.getD (c).toNat default).l)) (hxp : ∀ z ∈ xs, PlaceOk q z) :
  Calls Tryz.prog 109 [(.pointer (some ⟨p, 0, none⟩)), (vJ f), (vJ c), (.bool lf), x].toArray w fun e w' => ∃ (t : Int) (q' : PSt) (G' : Pin), e = .returned (vJ t) ∧ thrP q.ns lf f c t ∧ Pk 56 3 G' w' p L R B mm q' ∧ PoolOk q' ∧ PX q q' ∧ (q'.ns = q.ns ∧ q'.bs = q.bs) ∧ Ext (inO (some mm.o)) G w G' w' := by
 refine zV (n := 38) Tryz.func109 Tryz.ntmps109 rfl rfl ?_
 have a2 : Ext (inO (some mm.o)) G w G w := Ext.refl hP
 have hpin : PIn w (inP p L R B mm) p L R B mm := PIn.self
 have bb : (q.ns.map Nd.l).length = q.ns.length ∧ (q.ns.map Nd.r).length = q.ns.length := ⟨List.length_map .., List.length_map ..⟩
 have bc : q.bs.length = q.ns.length ∧ q.ns.length ≤ 1048576 := ⟨hok.ar.ok.len, hok.ar.ok.lim⟩
 have hm := hx.max
 refine zB (zC ?_)
 refine qM (vJ 0) ?_
 refine qe (zA (zB (zB (zC ?_))))
 refine qM x ?_
 refine qD rfl (zM Tryz.underlying56 (v := x) rfl hx) (qM (vJ 0) ?_)
 refine qe (zA ?_)
 refine zX (yT (fun (k : Nat) (en : Nat → Value) (W : World) => ∃ (av : Nat → Value) (i : Nat) (a : PSt) (ac : Pin), en = (upd (upd (upd (upd (upd (upd av 0 (.pointer (some ⟨p, 0, none⟩))) 1 (vJ f)) 3 (.bool lf)) 13 x) 14 (vJ (xs.length : Int))) 15 (vJ (i : Int))) ∧ k = xs.length - i ∧ Ext (inO (some mm.o)) G w ac W ∧ Pin.le G ac ∧ (i ≤ xs.length) ∧ (lf = true → ∀ x, x < i → geB q.ns f (xs.getD x 0) = false) ∧ (lf = false → ∀ x, x < i → geB q.ns (xs.getD x 0) f = false) ∧ (Pk 56 3 ac W p L R B mm a) ∧ (PoolOk a) ∧ (PX q a) ∧ (a.ns = q.ns ∧ a.bs = q.bs)) _ ⟨_, 0, q, G, (pS 15 (pS 14 (pS 13 (pS 3 (pS 1 (pU 0)))))), rfl, a2, Pin.le_refl _, Nat.zero_le _, (fun _ x h => absurd h (Nat.not_lt_zero x)), (fun _ x h => absurd h (Nat.not_lt_zero x)), hpk, hok, (PX.refl _), ⟨rfl, rfl⟩⟩ ?_)
 rintro k7 _ w8 ⟨av, i, a, ac, rfl, bf, y, ad, hi, hpt, hpf, af, aa, s, b⟩
 have bg := s.len
 have bh : (a.ns.map Nd.l).length = a.ns.length ∧ (a.ns.map Nd.r).length = a.ns.length := ⟨List.length_map .., List.length_map ..⟩
 have bi : a.bs.length = a.ns.length ∧ a.ns.length ≤ 1048576 := ⟨aa.ar.ok.len, aa.ar.ok.lim⟩
 refine zB (zC ?_)
 refine qD rfl (yV rfl rfl) (qe (zA (zB ?_)))
 refine yA (p := ((i : Int) : Int) < (xs.length : Int)) rfl rfl (fun a3 => ?_) (fun a3 => ?_)
 refine wp_skip (zA (zB ?_))
 refine zX (zB (zC ?_))
 refine qD rfl (zF Tryz.underlying56 sz3 (v := x) rfl rfl hx (by omega) (by omega)) (qD rfl (zE (r := xs.getD i 0) rfl ag3 (z := (i : Int)) rfl hx (Pins.of_le y.pins ad) (by omega) (by omega)) (qM (vJ (xs.getD i 0)) ?_))
 refine qe (zA (zB (zC ?_)))
 refine qM (.bool lf) ?_
 refine qM (.bool lf) ?_
 refine qb (t := 20) rfl (fun g => ?_) (fun g => ?_)
 refine qN (zQ (v := (.pointer (some ⟨p, 0, none⟩))) rfl) ?_
 refine qN (zQ (v := (vJ f)) rfl) ?_
 refine qN (zQ (v := (vJ (xs.getD i 0))) rfl) ?_
 refine q1g rfl rfl rfl rfl rfl rfl (zH (vs := [(.pointer (some ⟨p, 0, none⟩)), (vJ f), (vJ (xs.getD i 0))]) Tryz.func97 nm97 rfl rfl rfl ?_)
 refine Calls.mono (ge_spec y.pins af aa (hf.same b) ((hxp _ (yC (d := (0 : Int)) (show i < xs.length by omega))).same b)) ?_
 rintro _ bj ⟨j, a4, rfl, ak, ae, ag, ab, al⟩
 refine ⟨_, rfl, ?_⟩
 have ah := y.trans al (fun i hi => xK i hi)
 have bk := ag.len
 have bl : (j.ns.map Nd.l).length = j.ns.length ∧ (j.ns.map Nd.r).length = j.ns.length := ⟨List.length_map .., List.length_map ..⟩
 have bm : j.bs.length = j.ns.length ∧ j.ns.length ≤ 1048576 := ⟨ae.ar.ok.len, ae.ar.ok.lim⟩
 have bn := congrArg List.length ab.1
 refine qD rfl (yD (v := (.bool (geB a.ns f (xs.getD i 0)))) rfl rfl) (qM (.bool (geB a.ns f (xs.getD i 0))) ?_)
 refine qb (t := 26) rfl (fun am => ?_) (fun am => ?_)
 refine qW ?_
 refine qW ?_
 refine qW ?_
 refine qX ?_
 refine qX ?_
 refine qX ?_
 refine qX ?_
 refine qW ?_
 refine qD rfl (yD (v := (.bool true)) rfl rfl) (qe (zA ?_))
 refine xY rfl rfl (zB (zC ?_))
 refine qM (vJ (xs.getD i 0)) ?_
 refine qM (vJ (xs.getD i 0)) ?_
 refine qe (zA ?_)
 refine wp_ret (zO (zP (v := (vJ (xs.getD i 0))) rfl rfl rfl ?_))
 have hmem : xs.getD i 0 ∈ xs := yC (show i < xs.length by omega)
 rw [g, if_pos rfl] at hxs
 exact ⟨_, j, _, rfl, thr_hit hok.ar.opts hc (Or.inl ⟨g, hxs ▸ hmem, ((xR b).symm.trans am)⟩), ak, ae, (PX.trans s ag), (zN b ab), ah⟩
 refine qN (zQ (v := (.bool lf)) rfl) ?_
 refine qN (xE rfl) ?_
 refine qN (zQ (v := (.bool (!lf))) rfl) ?_
 refine qbn (t := 29) rfl (fun ai => ?_) (fun ai => ?_)
 refine qW ?_
 refine qW ?_
 refine qW ?_
 refine qW ?_
 refine qN (zY (v := (.bool false)) rfl rfl) ?_
 refine qD rfl (zY (v := (.bool false)) rfl rfl) (qe (zA ?_))
 refine qA rfl rfl (wp_skip (yB (zA (zC ?_))))
 refine qD rfl (yJ rfl rfl (by omega)) (qM (vJ ((i : Int) + 1)) ?_)
 refine qe (zZ (⟨_, ?_, _, rfl, _, i + 1, j, a4, (pS 15 (pS 14 (pS 13 (pS 3 (pS 1 (pU 0)))))), rfl, ah, (Pin.le_trans ad al.le), (by omega), (fun hl x h2 => if h3 : x = i then h3 ▸ ((xR b).symm.trans am) else hpt hl x (by omega)), (fun hl => absurd (g.symm.trans hl) (by decide)), ak, ae, (PX.trans s ag), (zN b ab)⟩))
 omega
 refine qN (zQ (v := (.pointer (some ⟨p, 0, none⟩))) rfl) ?_
 refine qN (zQ (v := (vJ (xs.getD i 0))) rfl) ?_
 refine qN (zQ (v := (vJ f)) rfl) ?_
 refine q1g rfl rfl rfl rfl rfl rfl (zH (vs := [(.pointer (some ⟨p, 0, none⟩)), (vJ (xs.getD i 0)), (vJ f)]) Tryz.func97 nm97 rfl rfl rfl ?_)
 refine Calls.mono (ge_spec ah.pins ak ae ((hxp _ (yC (d := (0 : Int)) (show i < xs.length by omega))).same (zN b ab)) (hf.same (zN b ab))) ?_
 rintro _ bo ⟨u, a6, rfl, a7, an, aw, ax, ay⟩
 refine ⟨_, rfl, ?_⟩
 have a8 := ah.trans ay (fun i hi => xK i hi)
 have bp := aw.len
 have bq : (u.ns.map Nd.l).length = u.ns.length ∧ (u.ns.map Nd.r).length = u.ns.length := ⟨List.length_map .., List.length_map ..⟩
 have br : u.bs.length = u.ns.length ∧ u.ns.length ≤ 1048576 := ⟨an.ar.ok.len, an.ar.ok.lim⟩
 have bt := congrArg List.length ax.1
 refine qN (yD (v := (.bool (geB j.ns (xs.getD i 0) f))) rfl rfl) ?_
 refine qD rfl (zY (v := (.bool (geB j.ns (xs.getD i 0) f))) rfl rfl) (qe (zA ?_))
 refine c_if rfl rfl (fun a9 => ?_) (fun a9 => ?_)
 refine zB (zC ?_)
 refine qM (vJ (xs.getD i 0)) ?_
 refine qM (vJ (xs.getD i 0)) ?_
 refine qe (zA ?_)
 exact wp_ret (zO (zP (v := (vJ (xs.getD i 0))) rfl rfl rfl ((absurd (ai.symm.trans g) Bool.false_ne_true))))
 refine wp_skip (yB (zA (zC ?_)))
 refine qD rfl (yJ rfl rfl (by omega)) (qM (vJ ((i : Int) + 1)) ?_)
 refine qe (zZ (⟨_, ?_, _, rfl, _, i + 1, u, a6, (pS 15 (pS 14 (pS 13 (pS 3 (pS 1 (pU 0)))))), rfl, a8, (Pin.le_trans (Pin.le_trans ad al.le) ay.le), (by omega), (absurd (ai.symm.trans g) Bool.false_ne_true), (absurd (ai.symm.trans g) Bool.false_ne_true), a7, an, (PX.trans (PX.trans s ag) aw), (zN (zN b ab) ax)⟩))
 omega
 refine qW ?_
 refine qW ?_
 refine qW ?_
 refine qW ?_
 refine qD rfl (zY (v := (.bool false)) rfl rfl) (qM (.bool false) ?_)
 refine qN (zQ (v := (.bool lf)) rfl) ?_
 refine qN (xE rfl) ?_
 refine qN (zQ (v := (.bool (!lf))) rfl) ?_
 refine qbn (t := 29) rfl (fun ao => ?_) (fun ao => ?_)
 refine qW ?_
 refine qW ?_
 refine qW ?_
 refine qW ?_
 refine qN (zY (v := (.bool false)) rfl rfl) ?_
 refine qD rfl (zY (v := (.bool false)) rfl rfl) (qe (zA ?_))
 refine qA rfl rfl (wp_skip (yB (zA (zC ?_))))
 refine qD rfl (yJ rfl rfl (by omega)) (qM (vJ ((i : Int) + 1)) ?_)
 refine qe (zZ (⟨_, ?_, _, rfl, _, i + 1, a, ac, (pS 15 (pS 14 (pS 13 (pS 3 (pS 1 (pU 0)))))), rfl, y, ad, (by omega), (absurd (g.symm.trans ao) Bool.false_ne_true), (absurd (g.symm.trans ao) Bool.false_ne_true), af, aa, s, b⟩))
 omega
 refine qN (zQ (v := (.pointer (some ⟨p, 0, none⟩))) rfl) ?_
 refine qN (zQ (v := (vJ (xs.getD i 0))) rfl) ?_
 refine qN (zQ (v := (vJ f)) rfl) ?_
 refine q1g rfl rfl rfl rfl rfl rfl (zH (vs := [(.pointer (some ⟨p, 0, none⟩)), (vJ (xs.getD i 0)), (vJ f)]) Tryz.func97 nm97 rfl rfl rfl ?_)
 refine Calls.mono (ge_spec y.pins af aa ((hxp _ (yC (d := (0 : Int)) (show i < xs.length by omega))).same b) (hf.same b)) ?_
 rintro _ bu ⟨m, ba, rfl, az, aj, ap, aq, a0⟩
 refine ⟨_, rfl, ?_⟩
 have a1 := y.trans a0 (fun i hi => xK i hi)
 have bv := ap.len
 have bw : (m.ns.map Nd.l).length = m.ns.length ∧ (m.ns.map Nd.r).length = m.ns.length := ⟨List.length_map .., List.length_map ..⟩
 have bx : m.bs.length = m.ns.length ∧ m.ns.length ≤ 1048576 := ⟨aj.ar.ok.len, aj.ar.ok.lim⟩
 have bz := congrArg List.length aq.1
 refine qN (yD (v := (.bool (geB a.ns (xs.getD i 0) f))) rfl rfl) ?_
 refine qD rfl (zY (v := (.bool (geB a.ns (xs.getD i 0) f))) rfl rfl) (qe (zA ?_))
 refine c_if rfl rfl (fun au => ?_) (fun au => ?_)
 refine zB (zC ?_)
 refine qM (vJ (xs.getD i 0)) ?_
 refine qM (vJ (xs.getD i 0)) ?_
 refine qe (zA ?_)
 refine wp_ret (zO (zP (v := (vJ (xs.getD i 0))) rfl rfl rfl ?_))
 have hmem : xs.getD i 0 ∈ xs := yC (show i < xs.length by omega)
 rw [g, if_neg Bool.false_ne_true] at hxs
 exact ⟨_, m, _, rfl, thr_hit hok.ar.opts hc (Or.inr ⟨g, hxs ▸ hmem, ((xR b).symm.trans au)⟩), az, aj, (PX.trans s ap), (zN b aq), a1⟩
 refine wp_skip (yB (zA (zC ?_)))
 refine qD rfl (yJ rfl rfl (by omega)) (qM (vJ ((i : Int) + 1)) ?_)
 refine qe (zZ (⟨_, ?_, _, rfl, _, i + 1, m, ba, (pS 15 (pS 14 (pS 13 (pS 3 (pS 1 (pU 0)))))), rfl, a1, (Pin.le_trans ad a0.le), (by omega), (fun hl => absurd (g.symm.trans hl) (by decide)), (fun hl x h2 => if h3 : x = i then h3 ▸ ((xR b).symm.trans au) else hpf hl x (by omega)), az, aj, (PX.trans s ap), (zN b aq)⟩))
 omega
 refine wp_exit (zW (yO (yI (zA (zB (zC ?_))))))
 refine qM (vJ (-1)) ?_
 refine qe (zA ?_)
 refine wp_ret (zO (zP (v := (vJ (-1))) rfl rfl rfl ?_))
 have hii : i = xs.length := by omega
 refine ⟨_, a, _, rfl, ?_, af, aa, s, b, y⟩
 cases hlf : lf
 ·rw [hlf, if_neg Bool.false_ne_true] at hxs
  exact thr_none_f hok.ar.opts hc (fun k hk => by rw [← hxs] at hk ⊢; exact hpf hlf k (by omega))
 ·rw [hlf, if_pos rfl] at hxs
  exact thr_none_t hok.ar.opts hc (fun k hk => by rw [← hxs] at hk ⊢; exact hpt hlf k (by omega))

end RI1
end Go.Proofs.YtakkjmlnmcemaaaGreatDoor

set_option maxRecDepth 20000
set_option maxHeartbeats 2000000
namespace Go.Proofs.YtakkjmlnmcemaaaGreatDoor
namespace CN1
open Go.RowKit Go.GL Go.Proofs
open B1 K1 PO1 PL1 DI1 RI1




theorem without_spec {w : World} {G : Pin} {x y : Value} {xs D : List Int} (hP : Pins G w) (hx : RSl eInt G x xs) (hy : RSl eInt G y D) (hxl : xs.length ≤ 1048576) (hpw : D.Pairwise (· < ·)) (hD0 : ∀ z ∈ D, 0 ≤ z) :
  Calls Tryz.prog 110 [x, y].toArray w fun e w' => ∃ (u : Value) (G' : Pin), e = .returned u ∧ Own eInt 3 G' w' w.heap.size u (woL xs D xs.length) ∧ Ext noS G w G' w' := by
 refine zV (n := 34) Tryz.func110 Tryz.ntmps110 rfl rfl ?_
 have h : Ext noS G w G w := Ext.refl hP
 have hm := hx.max
 have a9 := hy.max
 refine zB (zC ?_)
 refine qM (.slice none 0 0) ?_
 refine qe (zA (zB (zC ?_)))
 refine qI rfl (xD (E := eInt) (e := 3) Tryz.underlying56 sz3 h.pins (fun j w2 ai aj ak ba => ?_))
 have al := h.step aj ak
 have am : Own eInt 3 G w2 w.heap.size j ([]) := ai.weaken h.size
 refine qM j ?_
 refine qe (zA (zB (zB (zC ?_))))
 refine qM x ?_
 refine qD rfl (zM Tryz.underlying56 (v := x) rfl hx) (qM (vJ 0) ?_)
 refine qe (zA ?_)
 refine zX (yT (fun (k : Nat) (en : Nat → Value) (W : World) => ∃ (o : Nat → Value) (i : Nat) (pv : Value) (ds : List Int) (ov : Value) (out : List Int) (a : Pin), en = (upd (upd (upd (upd (upd (upd o 1 pv) 4 (.slice none 0 0)) 5 ov) 9 x) 10 (vJ (xs.length : Int))) 11 (vJ (i : Int))) ∧ k = xs.length - i ∧ Ext noS G w a W ∧ Pin.le G a ∧ (i ≤ xs.length) ∧ (WoOk D ds i) ∧ (out = woL xs D i) ∧ (Own eInt 3 a W w.heap.size ov (out)) ∧ (RSl eInt a pv (ds))) _ ⟨_, 0, y, D, j, [], G, (pS 11 (pS 10 (pS 9 (pS 5 (pS 4 (pU 1)))))), rfl, al, Pin.le_refl _, Nat.zero_le _, (WoOk.start hpw hD0), rfl, am, hy⟩ ?_)
 rintro k9 _ bc ⟨o, i, pv, ds, ov, out, a, rfl, bd, b, f, hi, hwo, hout, g, c⟩
 have hol : out.length ≤ i := by rw [hout]; exact wo_len i
 refine zB (zC ?_)
 refine qD rfl (yV rfl rfl) (qe (zA (zB ?_)))
 refine yA (p := ((i : Int) : Int) < (xs.length : Int)) rfl rfl (fun an => ?_) (fun an => ?_)
 refine wp_skip (zA (zB ?_))
 refine zX (zB (zC ?_))
 refine qM (vJ (i : Int)) ?_
 refine qD rfl (zF Tryz.underlying56 sz3 (v := x) rfl rfl hx (by omega) (by omega)) (qD rfl (zE (r := xs.getD i 0) rfl ag3 (z := (i : Int)) rfl hx (Pins.of_le b.pins f) (by omega) (by omega)) (qM (vJ (i : Int)) ?_))
 refine qM (vJ (xs.getD i 0)) ?_
 refine qe (zA (zB (zB (zC ?_))))
 refine qM pv ?_
 refine qD rfl (zM Tryz.underlying56 (v := pv) rfl c) (qD rfl (r_gtr rfl rfl) (qM (.bool (decide ((0 : Int) < (ds.length : Int)))) ?_))
 refine qbd (p := (0 : Int) < (ds.length : Int)) (t := 19) rfl (fun ao => ?_) (fun ao => ?_)
 refine qN (zQ (v := pv) rfl) ?_
 refine qN (zF Tryz.underlying56 sz3 (v := pv) rfl rfl c (by omega) (by omega)) ?_
 refine qN (zE (r := ds.getD 0 0) rfl ag3 (z := 0) rfl c b.pins (by omega) (by omega)) ?_
 refine qN (zQ (v := (vJ (i : Int))) rfl) ?_
 refine qN (xV rfl rfl) ?_
 refine qD rfl (yD (v := (.bool (decide ((ds.getD 0 0 : Int) = (i : Int))))) rfl rfl) (qe (zA ?_))
 refine yA (p := (ds.getD 0 0 : Int) = (i : Int)) rfl rfl (fun d => ?_) (fun d => ?_)
 refine zB (zC ?_)
 refine qM pv ?_
 obtain ⟨q, ap, aq⟩ := qU c (lo := (some (1))) (hi := none) (1) (ds.length) (Or.inr ⟨_, rfl, (by omega), rfl⟩) (Or.inl ⟨rfl, rfl⟩) (by omega) (by omega)
 refine qD rfl (aq Tryz.underlying56 sz3 rfl rfl rfl) (qM q ?_)
 refine qe (zA ?_)
 refine wp_exit (zW (yI (zA (zC ?_))))
 refine qD rfl (yJ rfl rfl (by omega)) (qM (vJ ((i : Int) + 1)) ?_)
 refine qe (zZ (⟨_, ?_, _, rfl, _, i + 1, q, (ds.take ds.length).drop 1, ov, out, a, (pS 11 (pS 10 (pS 9 (pS 5 (pS 4 (pU 1)))))), rfl, b, f, (by omega), (by rw [List.take_length]; exact (hwo.hit (by omega) d).1), (by rw [show woL xs D (i + 1) = woL xs D i from if_pos (hwo.hit (by omega) d).2, hout]), g, ap⟩))
 omega
 refine wp_skip (zA (zC ?_))
 refine qM ov ?_
 refine qM (vJ (xs.getD i 0)) ?_
 refine qI rfl (xA (E := eInt) (e := 3) [(vJ (xs.getD i 0))] [xs.getD i 0] Tryz.underlying56 sz3 zr3 (by exact xZ (by rfl)) (xN (by rfl)) rfl rfl rfl rfl (by decide) b.pins (fun s ar au av aa be => ?_))
 have l := b.step av aa
 have ab := g.below aa
 have aw : Own eInt 3 a ar w.heap.size s ([xs.getD i 0]) := au.weaken b.size
 refine qI rfl (oA (E := eInt) (v := ov) (u := s) 8 Tryz.underlying56 ap3 (by decide) rfl rfl l.pins ab aw.src (l.size) (fun ac bf ax ay az bg => ?_))
 have a0 := l.write ay az ((yN ab))
 have bh : (out ++ ([xs.getD i 0])).length = out.length + 1 := List.length_append
 refine qM ac ?_
 refine qe (yB (zA (zC ?_)))
 refine qD rfl (yJ rfl rfl (by omega)) (qM (vJ ((i : Int) + 1)) ?_)
 refine qe (zZ (⟨_, ?_, _, rfl, _, i + 1, pv, ds, ac, out ++ ([xs.getD i 0]), a, (pS 11 (pS 10 (pS 9 (pS 5 (pS 4 (pU 1)))))), rfl, a0, f, (by omega), (hwo.miss (Or.inr d)).1, (by rw [show woL xs D (i + 1) = woL xs D i ++ [xs.getD i 0] from if_neg (hwo.miss (Or.inr d)).2, hout]), ax, c⟩))
 omega
 refine qW ?_
 refine qW ?_
 refine qW ?_
 refine qW ?_
 refine qW ?_
 refine qD rfl (zY (v := (.bool false)) rfl rfl) (qe (zA ?_))
 refine qA rfl rfl (wp_skip (zA (zC ?_)))
 refine qM ov ?_
 refine qM (vJ (xs.getD i 0)) ?_
 refine qI rfl (xA (E := eInt) (e := 3) [(vJ (xs.getD i 0))] [xs.getD i 0] Tryz.underlying56 sz3 zr3 (by exact xZ (by rfl)) (xN (by rfl)) rfl rfl rfl rfl (by decide) b.pins (fun ad a1 a2 a3 ae bi => ?_))
 have m := b.step a3 ae
 have af := g.below ae
 have a4 : Own eInt 3 a a1 w.heap.size ad ([xs.getD i 0]) := a2.weaken b.size
 refine qI rfl (oA (E := eInt) (v := ov) (u := ad) 8 Tryz.underlying56 ap3 (by decide) rfl rfl m.pins af a4.src (m.size) (fun ag bj a5 a6 a7 bk => ?_))
 have a8 := m.write a6 a7 ((yN af))
 have bl : (out ++ ([xs.getD i 0])).length = out.length + 1 := List.length_append
 refine qM ag ?_
 refine qe (yB (zA (zC ?_)))
 refine qD rfl (yJ rfl rfl (by omega)) (qM (vJ ((i : Int) + 1)) ?_)
 refine qe (zZ (⟨_, ?_, _, rfl, _, i + 1, pv, ds, ag, out ++ ([xs.getD i 0]), a, (pS 11 (pS 10 (pS 9 (pS 5 (pS 4 (pU 1)))))), rfl, a8, f, (by omega), (hwo.miss (Or.inl (by omega))).1, (by rw [show woL xs D (i + 1) = woL xs D i ++ [xs.getD i 0] from if_neg (hwo.miss (Or.inl (by omega))).2, hout]), a5, c⟩))
 omega
 refine wp_exit (zW (yO (yI (zA (zB (zC ?_))))))
 refine qM ov ?_
 refine qM ov ?_
 refine qe (zA ?_)
 refine wp_ret (zO (zP (v := ov) rfl rfl rfl ?_))
 have hin : i = xs.length := by omega
 rw [hin] at hout
 exact ⟨_, _, rfl, (by rw [← hout]; exact g), b⟩

def CanP (N m p : Nat) (mm : PM) : Prop := ∀ {w : World} {G : Pin} {L R B : Value} {q : PSt} {f : Int} (_ : Pins G w) (_ : Pk 56 3 G w p L R B mm q) (_ : PoolOk q) (_ : PlaceOk q f) (_ : f < (N : Int)) (_ : q.ns.length + unc q N < 1048576), f.toNat < m →
  Calls Tryz.prog 68 [(.pointer (some ⟨p, 0, none⟩)), (.int .i64 f)].toArray w fun e w' => ∃ (z : Int) (L' R' B' : Value) (q' : PSt) (G' : Pin), e = .returned (.int .i64 z) ∧ Pk 56 3 G' w' p L' R' B' mm q' ∧ PoolOk q' ∧ PX q q' ∧ PLo w p L R B mm L' R' B' ∧ Ext (inP p L R B mm) G w G' w' ∧ PlaceOk q' z ∧ CanonG (pd q' z) ∧ eqG (pd q' z) (pd q' f) ∧ q'.ns.length + unc q' N ≤ q.ns.length + unc q N

end CN1
end Go.Proofs.YtakkjmlnmcemaaaGreatDoor

set_option maxRecDepth 20000
set_option maxHeartbeats 2000000
namespace Go.Proofs.YtakkjmlnmcemaaaGreatDoor
namespace CN2
open Go.RowKit Go.GL Go.Proofs
open B1 K1 PO1 PL1 DI1 RI1 CN1













theorem reduced_t {w : World} {G : Pin} {L R B : Value} {q : PSt} {f : Int} {p : Nat} {mm : PM} {N m : Nat} (hP : Pins G w) (hpk : Pk 56 3 G w p L R B mm q) (hok : PoolOk q) (hf : PlaceOk q f) (hfN : f < (N : Int)) (hbud : q.ns.length + unc q N < 1048576) (ih : CanP N m p mm) (hm : f.toNat < m + 1) :
  Calls Tryz.prog 94 [(.pointer (some ⟨p, 0, none⟩)), (vJ f), (.bool true)].toArray w fun e w' => ∃ (u : Value) (zs : List Int) (L' R' B' : Value) (q' : PSt) (G' : Pin), e = .returned u ∧ Pk 56 3 G' w' p L' R' B' mm q' ∧ PoolOk q' ∧ PX q q' ∧ PLo w p L R B mm L' R' B' ∧ Ext (inP p L R B mm) G w G' w' ∧ Own eInt 3 G' w' w.heap.size u zs ∧ NP p L' R' B' mm u.ownBlock ∧ ReOk q' true f zs ∧ q'.ns.length + unc q' N ≤ q.ns.length + unc q N := by
 refine zV (n := 120) Tryz.func94 Tryz.ntmps94 rfl rfl ?_
 have bo : Ext (inP p L R B mm) G w G w := Ext.refl hP
 have hpin : PIn w (inP p L R B mm) p L R B mm := PIn.self
 have gh : (q.ns.map Nd.l).length = q.ns.length ∧ (q.ns.map Nd.r).length = q.ns.length := ⟨List.length_map .., List.length_map ..⟩
 have gi : q.bs.length = q.ns.length ∧ q.ns.length ≤ 1048576 := ⟨hok.ar.ok.len, hok.ar.ok.lim⟩
 have gj := hf.1
 have gk := hf.2
 have dz := ol_len hok (lf := true) hf
 have gl : (q.ns.getD (f).toNat default).l.length ≤ 1048576 := dz
 refine zB (zC ?_)
 refine qM (.slice none 0 0) ?_
 refine qe (zA (zB (zC ?_)))
 refine qI rfl (xD (E := eInt) (e := 3) Tryz.underlying56 sz3 bo.pins (fun u3 w4 d1 cq cr d2 => ?_))
 have bp := bo.step cq cr
 have cs := hpk.below cr cq
 have d3 := hpk.new (x := u3.ownBlock) (fun k hk => by rw [d2] at hk; cases hk; exact Nat.le_refl _)
 have d4 : Own eInt 3 G w4 w.heap.size u3 ([]) := d1.weaken bo.size
 refine qI rfl (o_makeMap (fun k : Int => Value.int .i64 k) (fun v : Bool => Value.bool v) bp.pins (fun t gm gn d5 ct bq => ?_))
 have br := bp.step ct bq
 have cu := d4.below bq
 have cv := cs.below bq ct
 have d6 := cs.new (x := some t) (fun k hk => by cases hk; omega)
 have d7 : w.heap.size ≤ t := by have := bp.size; omega
 refine qI rfl (xD (E := eInt) (e := 3) Tryz.underlying56 sz3 br.pins (fun y d8 d9 cw ba cx => ?_))
 have bt := br.step cw ba
 have ea := cu.below ba
 have eb := d5.below ba
 have ah := cv.below ba cw
 have ec : Apart y.ownBlock u3.ownBlock := zI cx cu.lt
 have ed := cv.new (x := y.ownBlock) (fun k hk => by rw [cx] at hk; cases hk; exact Nat.le_refl _)
 have ee : Own eInt 3 G d8 w.heap.size y ([]) := d9.weaken br.size
 refine qM u3 ?_
 refine qM (.map (some t)) ?_
 refine qM y ?_
 refine qe (zA (zB (zC ?_)))
 refine qM (.pointer (some ⟨p, 0, none⟩)) ?_
 refine qD rfl (yW rfl) (qD rfl (zK (k := 1) rfl Tryz.underlying97 rfl nz95 rfl) (qD rfl (zL (u := R) ag95 rfl (ah.bx.cell (o := 1) rfl)) (qM (vJ f) ?_)))
 refine qD rfl (zF Tryz.underlying95 sz56 (v := R) rfl rfl ah.rr.read (by omega) (by omega)) ?_
 obtain ⟨ef, cy, eg⟩ := nm_sl (ah.rr.at (z := f) (by omega) (by omega)) (j := (f).toNat) rfl
 rw [jS] at cy
 have gp := cy.max
 refine qD rfl (eg ag56 rfl (Gadd.pins bt.pins R)) (qM ef ?_)
 refine qe (zA (zB (zB (zC ?_))))
 refine qM (.bool true) ?_
 refine qe (zA ?_)
 refine xY rfl rfl (zC (qM (.pointer (some ⟨p, 0, none⟩)) ?_))
 refine qD rfl (yW rfl) (qD rfl (zK (k := 0) rfl Tryz.underlying97 rfl nz95 rfl) (qD rfl (zL (u := L) ag95 rfl (ah.bx.cell (o := 0) rfl)) (qM (vJ f) ?_)))
 refine qD rfl (zF Tryz.underlying95 sz56 (v := L) rfl rfl ah.ol.read (by omega) (by omega)) ?_
 obtain ⟨aw, ax, eh⟩ := nm_sl (ah.ol.at (z := f) (by omega) (by omega)) (j := (f).toNat) rfl
 rw [jT] at ax
 have gq := ax.max
 refine qD rfl (eh ag56 rfl (Gadd.pins bt.pins L)) (qM aw ?_)
 refine qe (zA (zB (zB (zC ?_))))
 refine qM aw ?_
 refine qD rfl (zM Tryz.underlying56 (v := aw) rfl ax) (qM (vJ 0) ?_)
 refine qe (zA ?_)
 refine zX (yT (fun (k : Nat) (en : Nat → Value) (W : World) => ∃ (ay : Nat → Value) (j : Nat) (qv : Value) (qs : List Int) (b : Value) (h : Value) (aa : Value) (a : PSt) (ac : Pin), en = (upd (upd (upd (upd (upd (upd (upd (upd (upd (upd ay 0 (.pointer (some ⟨p, 0, none⟩))) 1 (vJ f)) 2 (.bool true)) 6 (.slice none 0 0)) 7 qv) 8 (.map (some t))) 9 y) 34 aw) 35 (vJ (((q.ns.getD (f).toNat default).l).length : Int))) 36 (vJ (j : Int))) ∧ k = (q.ns.getD (f).toNat default).l.length - j ∧ Ext (inP p L R B mm) G w ac W ∧ Pin.le G ac ∧ (j ≤ (q.ns.getD (f).toNat default).l.length) ∧ (QOk q a (q.ns.getD (f).toNat default).l qs j) ∧ (a.ns.length + unc a N ≤ q.ns.length + unc q N) ∧ (Own eInt 3 ac W w.heap.size qv (qs)) ∧ (Own eInt 3 ac W w.heap.size y ([])) ∧ (Apart qv.ownBlock y.ownBlock) ∧ (Mp (fun k : Int => Value.int .i64 k) (fun v : Bool => Value.bool v) W t ([])) ∧ (Pk 56 3 ac W p b h aa mm a) ∧ (PIn w ((inP p L R B mm)) p b h aa mm) ∧ (PoolOk a) ∧ (PX q a) ∧ (NP p b h aa mm qv.ownBlock) ∧ (NP p b h aa mm y.ownBlock) ∧ (NP p b h aa mm (some t))) _ ⟨_, 0, u3, [], L, R, B, q, G, (pS 36 (pS 35 (pS 34 (pS 9 (pS 8 (pS 7 (pS 6 (pS 2 (pS 1 (pU 0)))))))))), rfl, bt, Pin.le_refl _, Nat.zero_le _, QOk.start, Nat.le_refl _, ea, ee, ec.symm, eb, ah, hpin, hok, (PX.refl _), d3, ed, d6⟩ ?_)
 rintro gr _ gs ⟨ay, j, qv, qs, b, h, aa, a, ac, rfl, gt, az, cz, hj, hqo, hbu, bu, bv, bw, bz, c0, a0, ab, ai, b0, b1, bb⟩
 have gu := ai.len
 have gv : (a.ns.map Nd.l).length = a.ns.length ∧ (a.ns.map Nd.r).length = a.ns.length := ⟨List.length_map .., List.length_map ..⟩
 have gw : a.bs.length = a.ns.length ∧ a.ns.length ≤ 1048576 := ⟨ab.ar.ok.len, ab.ar.ok.lim⟩
 have gx := hqo.len
 refine zB (zC ?_)
 refine qD rfl (yV rfl rfl) (qe (zA (zB ?_)))
 refine yA (p := ((j : Int) : Int) < (((q.ns.getD (f).toNat default).l).length : Int)) rfl rfl (fun ei => ?_) (fun ei => ?_)
 have hmj : (q.ns.getD (f).toNat default).l.getD j 0 ∈ (q.ns.getD (f).toNat default).l := yC (show j < (q.ns.getD (f).toNat default).l.length by omega)
 have hoj := (jM hok hf).1 _ hmj
 have gy := hoj.1
 have hoz := ((xC hok.ar.opts (show (f).toNat < q.ns.length by omega)).1 _ hmj).2
 refine wp_skip (zA (zB ?_))
 refine zX (zB (zC ?_))
 refine qD rfl (zF Tryz.underlying56 sz3 (v := aw) rfl rfl ax (by omega) (by omega)) (qD rfl (zE (r := ((q.ns.getD (f).toNat default).l).getD j 0) rfl ag3 (z := (j : Int)) rfl ax (Pins.of_le az.pins cz) (by omega) (by omega)) (qM (vJ (((q.ns.getD (f).toNat default).l).getD j 0)) ?_))
 refine qe (zA (zC ?_))
 refine qM qv ?_
 refine qM (.pointer (some ⟨p, 0, none⟩)) ?_
 refine qM (vJ (((q.ns.getD (f).toNat default).l).getD j 0)) ?_
 refine qI rfl (zH (vs := [(.pointer (some ⟨p, 0, none⟩)), (vJ (((q.ns.getD (f).toNat default).l).getD j 0))]) Tryz.func68 nm68 rfl rfl rfl ?_)
 refine Calls.mono (ih az.pins c0 ab (ai.place hoj) (by omega) (by omega) (by omega)) ?_
 rintro _ gz ⟨a1, ej, ek, el, ad, c1, rfl, em, bc, b2, bd, a2, eo, ep, eq, er⟩
 refine ⟨_, rfl, ?_⟩
 have b3 := az.trans a2 a0
 have es := bu.extS a2 b0
 have c2 := NP.call b0 bd (jH bu)
 have et := bv.extS a2 b1
 have eu := NP.call b1 bd (jH bv)
 have ev := bz.extS a2 (NP.notb bb)
 have ew := NP.call bb bd (fun j hj => by cases hj; exact bz.lt)
 have ex := PIn.call a0 bd az.size
 have g0 := b2.len
 have g1 : (ad.ns.map Nd.l).length = ad.ns.length ∧ (ad.ns.map Nd.r).length = ad.ns.length := ⟨List.length_map .., List.length_map ..⟩
 have g2 : ad.bs.length = ad.ns.length ∧ ad.ns.length ≤ 1048576 := ⟨bc.ar.ok.len, bc.ar.ok.lim⟩
 refine qI rfl (xA (E := eInt) (e := 3) [(vJ a1)] [a1] Tryz.underlying56 sz3 zr3 (by exact xZ (by rfl)) (xN (by rfl)) rfl rfl rfl rfl (by decide) b3.pins (fun c3 ey ez c4 a3 g3 => ?_))
 have b4 := b3.step c4 a3
 have b5 := es.below a3
 have c5 := et.below a3
 have c6 := ev.below a3
 have c7 := em.below a3 c4
 have e0 : Own eInt 3 c1 ey w.heap.size c3 ([a1]) := ez.weaken b3.size
 refine qI rfl (oA (E := eInt) (v := qv) (u := c3) 8 Tryz.underlying56 ap3 (by decide) rfl rfl b4.pins b5 e0.src (b4.size) (fun b6 g4 e1 c8 be c9 => ?_))
 have e2 := b4.write c8 be ((yN b5))
 have e3 := c5.keptA be bw.symm
 have e4 := c6.kept be (yR c6 b5)
 have e5 := c7.kept be c8 c2
 have e6 : Apart y.ownBlock b6.ownBlock := zG bw.symm c9 c5.lt
 have e7 := np_app c2 c7 c9
 have g5 : (qs ++ ([a1])).length = qs.length + 1 := List.length_append
 refine qM b6 ?_
 refine qe (yB (zA (zC ?_)))
 refine qD rfl (yJ rfl rfl (by omega)) (qM (vJ ((j : Int) + 1)) ?_)
 refine qe (zZ (⟨_, ?_, _, rfl, _, j + 1, b6, qs ++ ([a1]), ej, ek, el, ad, c1, (pS 36 (pS 35 (pS 34 (pS 9 (pS 8 (pS 7 (pS 6 (pS 2 (pS 1 (pU 0)))))))))), rfl, e2, (Pin.le_trans cz a2.le), (by omega), (hqo.step hok ab bc ai b2 hoj eo ep eq), (by have := er; omega), e1, e3, e6.symm, e4, e5, ex, bc, (PX.trans ai b2), e7, eu, ew⟩))
 omega
 refine wp_exit (zW (yO (yI (zA (zB ?_)))))
 refine zX ?_
 have hjn : j = (q.ns.getD (f).toNat default).l.length := by omega
 rw [hjn] at hqo
 have e8 : RdW a true (pd a f) qs [] [] := by rw [ai.pd hok ab hf]; exact hqo.rd (lf := true) hok hf (by unfold ol; rw [if_pos rfl])
 have hq2l := hqo.len
 have e9 := ai.place hf
 refine yT (fun (k : Nat) (en : Nat → Value) (W : World) => ∃ (ay : Nat → Value) (wv : Value) (wl : List Int) (kv : Value) (kept : List Int) (sn : List (Int × Bool)) (ss : List Int) (d : PSt) (aj : Pin), en = (upd (upd (upd (upd (upd (upd (upd ay 0 (.pointer (some ⟨p, 0, none⟩))) 1 (vJ f)) 2 (.bool true)) 6 (.slice none 0 0)) 7 wv) 8 (.map (some t))) 9 kv) ∧ k = (a.ns.length - ss.length) * 1048577 + wl.length ∧ Ext (inP p L R B mm) G w aj W ∧ Pin.le ac aj ∧ (RdW a true (pd a f) wl ss kept) ∧ (SnOk sn ss) ∧ (wl.length ≤ 1048576 + 1048576 * ss.length) ∧ (Own eInt 3 aj W w.heap.size wv (wl)) ∧ (Own eInt 3 aj W w.heap.size kv (kept)) ∧ (Apart wv.ownBlock kv.ownBlock) ∧ (Mp (fun k : Int => Value.int .i64 k) (fun v : Bool => Value.bool v) W t (sn)) ∧ (Pk 56 3 aj W p b h aa mm d) ∧ (PoolOk d) ∧ (PX a d) ∧ (d.ns = a.ns ∧ d.bs = a.bs) ∧ (NP p b h aa mm wv.ownBlock) ∧ (NP p b h aa mm kv.ownBlock)) _ ⟨_, qv, qs, y, [], [], [], a, ac, (pS 9 (pS 8 (pS 7 (pS 6 (pS 2 (pS 1 (pU 0))))))), rfl, az, Pin.le_refl _, e8, SnOk.start, (by simp; omega), bu, bv, bw, bz, c0, ab, (PX.refl _), ⟨rfl, rfl⟩, b0, b1⟩ ?_
 rintro g6 _ g7 ⟨ay, wv, wl, kv, kept, sn, ss, d, aj, rfl, g8, a4, b7, hrd, hsn, hwl, am, bf, fa, a5, b8, ak, an, s, fb, ao⟩
 have g9 := an.len
 have ha : (d.ns.map Nd.l).length = d.ns.length ∧ (d.ns.map Nd.r).length = d.ns.length := ⟨List.length_map .., List.length_map ..⟩
 have hb : d.bs.length = d.ns.length ∧ d.ns.length ≤ 1048576 := ⟨ak.ar.ok.len, ak.ar.ok.lim⟩
 have hrl := hrd.len
 refine zB (zB (zC ?_))
 refine qM wv ?_
 refine qD rfl (zM Tryz.underlying56 (v := wv) rfl am.read) (qD rfl (r_gtr rfl rfl) (qe (zA ?_)))
 refine yA (p := (0 : Int) < (wl.length : Int)) rfl rfl (fun fc => ?_) (fun fc => ?_)
 have hpm : ((wl.length : Int) - 1).toNat + 1 = wl.length := by omega
 have hpa := hrd.at_ hpm
 have hc := hpa.1
 have hd := hpa.2
 refine wp_skip (zA (zX (zB (zC ?_))))
 refine qM wv ?_
 refine qM wv ?_
 refine qD rfl (zM Tryz.underlying56 (v := wv) rfl am.read) (qD rfl (qE rfl rfl (by omega)) (qD rfl (zF Tryz.underlying56 sz3 (v := wv) rfl rfl am.read (by omega) (by omega)) (qD rfl (zE (r := wl.getD ((wl.length : Int) - 1).toNat 0) rfl ag3 (z := ((wl.length : Int) - 1)) rfl am.read (Gadd.pins a4.pins wv) (by omega) (by omega)) (qM (vJ (wl.getD ((wl.length : Int) - 1).toNat 0)) ?_))))
 refine qe (zA (zB (zC ?_)))
 refine qM wv ?_
 refine qM wv ?_
 refine qD rfl (zM Tryz.underlying56 (v := wv) rfl am.read) (qD rfl (qE rfl rfl (by omega)) ?_)
 obtain ⟨ae, b9, da, fd⟩ := own_cut am (((wl.length : Int) - 1).toNat) ((wl.length : Int) - 1) (by omega) rfl (by omega) (by omega)
 have a6 : Apart ae.ownBlock kv.ownBlock := by rw [da]; exact fa
 have a7 := (show NP _ _ _ _ _ ae.ownBlock by rw [da]; exact fb)
 refine qD rfl (fd Tryz.underlying56 sz3 rfl rfl rfl) (qM ae ?_)
 refine qe (zA (zB (zB (zC ?_))))
 refine qM (.map (some t)) ?_
 refine qM (vJ (wl.getD ((wl.length : Int) - 1).toNat 0)) ?_
 refine qD rfl (run_look1_bool (k := (wl.getD ((wl.length : Int) - 1).toNat 0)) (key_int Tryz.underlying3) Tryz.underlying130 zr4 a5 rfl rfl) (qe (zA ?_))
 refine c_if rfl rfl (fun bg => ?_) (fun bg => ?_)
 refine wp_exit (zW (yI (zZ ?_)))
 have htl : (wl.take ((wl.length : Int) - 1).toNat).length = ((wl.length : Int) - 1).toNat := by rw [List.length_take]; omega
 refine ⟨_, ?_, _, rfl, _, ae, wl.take ((wl.length : Int) - 1).toNat, kv, kept, sn, ss, d, aj, (pS 9 (pS 8 (pS 7 (pS 6 (pS 2 (pS 1 (pU 0))))))), rfl, a4, b7, ((hrd.pop hpm).seen (hsn.yes bg)), hsn, (by omega), b9, bf, a6, a5, b8, ak, an, s, a7, ao⟩
 omega
 refine wp_skip (zA (zB (zC ?_)))
 refine qM (.map (some t)) ?_
 refine qM (vJ (wl.getD ((wl.length : Int) - 1).toNat 0)) ?_
 refine q0 rfl rfl rfl (qT (val := (fun v : Bool => Value.bool v)) (k := (wl.getD ((wl.length : Int) - 1).toNat 0)) (v := true) (key_int Tryz.underlying3) Tryz.underlying130 rfl rfl rfl a4.pins a5 (fun he fe db bh hg => ?_))
 have bi := a4.write db bh ((zS d7))
 have ff := bf.keptA bh (yR a5 bf).symm
 have fg := b9.keptA bh (yR a5 b9).symm
 have al := b8.kept bh db bb
 refine qe (zA (zB (zC ?_)))
 refine qM (.pointer (some ⟨p, 0, none⟩)) ?_
 refine qD rfl (yW rfl) (qD rfl (zK (k := 0) rfl Tryz.underlying97 rfl nz95 rfl) (qD rfl (zL (u := b) ag95 rfl (al.bx.cell (o := 0) rfl)) (qM (vJ (wl.getD ((wl.length : Int) - 1).toNat 0)) ?_)))
 refine qD rfl (zF Tryz.underlying95 sz56 (v := b) rfl rfl al.ol.read (by omega) (by omega)) ?_
 obtain ⟨fh, dc, fi⟩ := nm_sl (al.ol.at (z := (wl.getD ((wl.length : Int) - 1).toNat 0)) (by omega) (by omega)) (j := (wl.getD ((wl.length : Int) - 1).toNat 0).toNat) rfl
 rw [jT] at dc
 have hh := dc.max
 refine qD rfl (fi ag56 rfl (Gadd.pins bi.pins b)) (qM fh ?_)
 refine qe (zA (zB (zB (zC ?_))))
 refine qM (.bool true) ?_
 refine qe (zA ?_)
 refine xY rfl rfl (zC (qM (.pointer (some ⟨p, 0, none⟩)) ?_))
 refine qD rfl (yW rfl) (qD rfl (zK (k := 1) rfl Tryz.underlying97 rfl nz95 rfl) (qD rfl (zL (u := h) ag95 rfl (al.bx.cell (o := 1) rfl)) (qM (vJ (wl.getD ((wl.length : Int) - 1).toNat 0)) ?_)))
 refine qD rfl (zF Tryz.underlying95 sz56 (v := h) rfl rfl al.rr.read (by omega) (by omega)) ?_
 obtain ⟨ca, cb, fj⟩ := nm_sl (al.rr.at (z := (wl.getD ((wl.length : Int) - 1).toNat 0)) (by omega) (by omega)) (j := (wl.getD ((wl.length : Int) - 1).toNat 0).toNat) rfl
 rw [jS] at cb
 have hl := cb.max
 refine qD rfl (fj ag56 rfl (Gadd.pins bi.pins h)) (qM ca ?_)
 refine qe (zA (zB (zC ?_)))
 refine qM (.pointer (some ⟨p, 0, none⟩)) ?_
 refine qM (vJ f) ?_
 refine qM (vJ (wl.getD ((wl.length : Int) - 1).toNat 0)) ?_
 refine qM (.bool true) ?_
 refine qM ca ?_
 refine qI rfl (zH (vs := [(.pointer (some ⟨p, 0, none⟩)), (vJ f), (vJ (wl.getD ((wl.length : Int) - 1).toNat 0)), (.bool true), ca]) Tryz.func109 nm109 rfl rfl rfl ?_)
 refine Calls.mono (through_spec bi.pins al ak (lf := true) (e9.same s) (hpa.same s) cb (by rw [if_pos rfl]) (jM ak (hpa.same s)).2) ?_
 rintro _ hn ⟨g, c, cc, rfl, fk, ap, bj, cd, bk, aq⟩
 refine ⟨_, rfl, ?_⟩
 have af := bi.trans aq (fun i hi => (PIn.o a0) i hi)
 have ce := ff.extS aq (notO (NP.ho ao))
 have bl := fg.extS aq (notO (NP.ho a7))
 have cf := fe.extS aq (xU (NP.ho bb))
 have hp := cd.len
 have hq : (c.ns.map Nd.l).length = c.ns.length ∧ (c.ns.map Nd.r).length = c.ns.length := ⟨List.length_map .., List.length_map ..⟩
 have hr : c.bs.length = c.ns.length ∧ c.ns.length ≤ 1048576 := ⟨bj.ar.ok.len, bj.ar.ok.lim⟩
 have hs := congrArg List.length bk.1
 have dd := thr_same s fk
 refine qM (vJ g) ?_
 refine qe (zA ?_)
 refine zX (zB (zC ?_))
 refine qM (vJ g) ?_
 refine qD rfl (yV rfl rfl) (qM (.bool (decide ((g : Int) < 0))) ?_)
 refine qe (zA ?_)
 refine yA (p := (g : Int) < 0) rfl rfl (fun de => ?_) (fun de => ?_)
 refine zC (qM kv ?_)
 refine qM (vJ (wl.getD ((wl.length : Int) - 1).toNat 0)) ?_
 refine qI rfl (xA (E := eInt) (e := 3) [(vJ (wl.getD ((wl.length : Int) - 1).toNat 0))] [wl.getD ((wl.length : Int) - 1).toNat 0] Tryz.underlying56 sz3 zr3 (by exact xZ (by rfl)) (xN (by rfl)) rfl rfl rfl rfl (by decide) af.pins (fun df fl fm dg a8 ht => ?_))
 have cg := af.step dg a8
 have ch := ce.below a8
 have dh := bl.below a8
 have di := cf.below a8
 have dj := ap.below a8 dg
 have fn : Own eInt 3 cc fl w.heap.size df ([wl.getD ((wl.length : Int) - 1).toNat 0]) := fm.weaken af.size
 refine qI rfl (oA (E := eInt) (v := kv) (u := df) 8 Tryz.underlying56 ap3 (by decide) rfl rfl cg.pins ch fn.src (cg.size) (fun ci hu fo dk bm dl => ?_))
 have fp := cg.write dk bm ((yN ch))
 have fq := dh.keptA bm a6
 have fr := di.kept bm (yR di ch)
 have fs := dj.kept bm dk ao
 have ft : Apart ae.ownBlock ci.ownBlock := zG a6 dl dh.lt
 have fu := np_app ao dj dl
 have hv : (kept ++ ([wl.getD ((wl.length : Int) - 1).toNat 0])).length = kept.length + 1 := List.length_append
 refine qM ci ?_
 refine qe (yB (yB (zZ ?_)))
 have htl : (wl.take ((wl.length : Int) - 1).toNat).length = ((wl.length : Int) - 1).toNat := by rw [List.length_take]; omega
 have au := (hrd.pop hpm).kept (hsn.no bg) (thr_no dd de)
 have hcl := au.len
 have hsl : (ss ++ [(wl.getD ((wl.length : Int) - 1).toNat 0)]).length = ss.length + 1 := by rw [List.length_append]; rfl
 refine ⟨_, ?_, _, rfl, _, ae, wl.take ((wl.length : Int) - 1).toNat, ci, kept ++ [(wl.getD ((wl.length : Int) - 1).toNat 0)], putE sn (wl.getD ((wl.length : Int) - 1).toNat 0) true, ss ++ [(wl.getD ((wl.length : Int) - 1).toNat 0)], c, cc, (pS 9 (pS 8 (pS 7 (pS 6 (pS 2 (pS 1 (pU 0))))))), rfl, fp, (Pin.le_trans b7 aq.le), au, hsn.put, (by omega), fq, fo, ft, fr, fs, bj, (PX.trans an cd), (zN s bk), a7, fu⟩
 omega
 refine zB (zC ?_)
 refine qM (.bool true) ?_
 refine qM (.bool true) ?_
 refine qe (zA ?_)
 refine xY rfl rfl (zC ?_)
 have hti := thr_info ab hpa dd (by omega)
 have hw := hti.1.1
 have hx := hti.1.2
 have hot := ol_len ab (lf := true) hti.1
 have hoe : (c.ns.getD (g).toNat default).l = ol a true g := by rw [(zN s bk).1]; unfold ol; rw [if_pos rfl]
 have hy : (c.ns.getD (g).toNat default).l.length ≤ 1048576 := by rw [hoe]; exact hot
 have h0 : (wl.take ((wl.length : Int) - 1).toNat).length = ((wl.length : Int) - 1).toNat := by rw [List.length_take]; omega
 refine qM ae ?_
 refine qM (.pointer (some ⟨p, 0, none⟩)) ?_
 refine qD rfl (yW rfl) (qD rfl (zK (k := 0) rfl Tryz.underlying97 rfl nz95 rfl) (qD rfl (zL (u := b) ag95 rfl (ap.bx.cell (o := 0) rfl)) (qM (vJ g) ?_)))
 refine qD rfl (zF Tryz.underlying95 sz56 (v := b) rfl rfl ap.ol.read (by omega) (by omega)) ?_
 obtain ⟨fv, cj, fw⟩ := nm_sl (ap.ol.at (z := g) (by omega) (by omega)) (j := (g).toNat) rfl
 rw [jT] at cj
 have h1 := cj.max
 refine qD rfl (fw ag56 rfl (Gadd.pins af.pins b)) (qI rfl (oA (E := eInt) (v := ae) (u := fv) 8 Tryz.underlying56 ap3 (by decide) rfl rfl af.pins bl ((cj.mono (Pin.le_refl _)).src af.pins (by decide)) (af.size) (fun ck h2 fx dm bn dn => ?_)))
 have fy := af.write dm bn ((yN bl))
 have fz := ce.keptA bn a6.symm
 have f0 := cf.kept bn (yR cf bl)
 have f1 := ap.kept bn dm a7
 have f2 : Apart kv.ownBlock ck.ownBlock := zG a6.symm dn ce.lt
 have f3 := np_app a7 ap dn
 have h3 : ((wl.take (((wl.length : Int) - 1).toNat)) ++ ((c.ns.getD (g).toNat default).l)).length = (wl.take (((wl.length : Int) - 1).toNat)).length + ((c.ns.getD (g).toNat default).l).length := List.length_append
 refine qM ck ?_
 refine qe (yB (yB (zZ ?_)))
 have htl : (wl.take ((wl.length : Int) - 1).toNat).length = ((wl.length : Int) - 1).toNat := by rw [List.length_take]; omega
 have au := (hrd.pop hpm).pass_on ab (hsn.no bg) hti.1 hti.2.1 hti.2.2
 have hcl := au.len
 have hsl : (ss ++ [(wl.getD ((wl.length : Int) - 1).toNat 0)]).length = ss.length + 1 := by rw [List.length_append]; rfl
 have hal : ((wl.take (((wl.length : Int) - 1).toNat)) ++ ((c.ns.getD (g).toNat default).l)).length = ((wl.length : Int) - 1).toNat + (c.ns.getD (g).toNat default).l.length := by rw [List.length_append, htl]
 rw [← hoe] at au
 refine ⟨_, ?_, _, rfl, _, ck, (wl.take (((wl.length : Int) - 1).toNat)) ++ ((c.ns.getD (g).toNat default).l), kv, kept, putE sn (wl.getD ((wl.length : Int) - 1).toNat 0) true, ss ++ [(wl.getD ((wl.length : Int) - 1).toNat 0)], c, cc, (pS 9 (pS 8 (pS 7 (pS 6 (pS 2 (pS 1 (pU 0))))))), rfl, fy, (Pin.le_trans b7 aq.le), au, hsn.put, (by omega), fx, fz, f2.symm, f0, f1, bj, (PX.trans an cd), (zN s bk), f3, ao⟩
 omega
 refine wp_exit (zW (yO (yI (zA (zB (zC ?_))))))
 refine qM kv ?_
 refine qM (.pointer (some ⟨p, 0, none⟩)) ?_
 refine qM kv ?_
 refine qM (.bool true) ?_
 obtain ⟨h4, f4, cl, dp, f5⟩ := bf.sealed a4
 have dq := b8.moreO f4 f5 ao
 refine qI rfl (zH (vs := [(.pointer (some ⟨p, 0, none⟩)), kv, (.bool true)]) Tryz.func111 nm111 rfl rfl rfl ?_)
 refine Calls.mono (idominated_spec cl.pins dq ak (lf := true) dp (by omega) (fun i hi => ((hrd.all _ (Or.inr ((hrd.keep _).1 (yC hi)).1)).1).same s)) ?_
 rintro _ h5 ⟨dr, ag, h6, rfl, ds, f6, cm, cn, co, dt⟩
 refine ⟨_, rfl, ?_⟩
 have f7 := dq.new (x := dr.ownBlock) (fun k hk => (ds.lt k hk).1)
 have f8 := cl.trans dt (fun i hi => (PIn.o a0) i hi)
 have h7 := cn.len
 have h8 : (ag.ns.map Nd.l).length = ag.ns.length ∧ (ag.ns.map Nd.r).length = ag.ns.length := ⟨List.length_map .., List.length_map ..⟩
 have h9 : ag.bs.length = ag.ns.length ∧ ag.ns.length ≤ 1048576 := ⟨cm.ar.ok.len, cm.ar.ok.lim⟩
 have ia := congrArg List.length co.1
 have f9 := ds.weaken cl.size
 obtain ⟨ib, du, cp, ga, gb⟩ := f9.sealed f8
 have dv := f6.moreO du gb f7
 refine qI rfl (zH (vs := [kv, dr]) Tryz.func110 nm110 rfl rfl rfl ?_)
 refine Calls.mono (without_spec cp.pins (dp.mono (Pin.le_trans dt.le du)) ga (by omega) (dom_pw _) (fun z hz => by obtain ⟨k, _, e, _⟩ := (dom_mem _).1 hz; omega)) ?_
 rintro _ gc ⟨a9, dw, rfl, dx, dy⟩
 refine ⟨_, rfl, ?_⟩
 have gd := cp.tr dy
 have ge := dv.ext dy
 have gf := dv.new (x := a9.ownBlock) (fun k hk => (dx.lt k hk).1)
 have gg : Own eInt 3 dw gc w.heap.size a9 (woL kept (domL (gX d kept) true kept.length kept.length) kept.length) := dx.weaken cp.size
 refine qM a9 ?_
 refine qe (zA ?_)
 refine wp_ret (zO (zP (v := a9) rfl rfl rfl ?_))
 have hwz : wl = [] := List.eq_nil_of_length_eq_zero (by omega)
 rw [hwz] at hrd
 have hre := (re_done ak (hrd.same s) (xJ s).symm).same co
 have hul := unc_px (PX.trans an cn) N
 exact ⟨a9, _, b, h, aa, ag, dw, rfl, ge, cm, (PX.trans (PX.trans ai an) cn), PIn.lo a0 rfl, gd, gg, gf, hre, (by have := congrArg List.length ((zN s co)).1; omega)⟩

end CN2
end Go.Proofs.YtakkjmlnmcemaaaGreatDoor

set_option maxRecDepth 20000
set_option maxHeartbeats 2000000
namespace Go.Proofs.YtakkjmlnmcemaaaGreatDoor
namespace CN3
open Go.RowKit Go.GL Go.Proofs
open B1 K1 PO1 PL1 DI1 RI1 CN1













theorem reduced_f {w : World} {G : Pin} {L R B : Value} {q : PSt} {f : Int} {p : Nat} {mm : PM} {N m : Nat} (hP : Pins G w) (hpk : Pk 56 3 G w p L R B mm q) (hok : PoolOk q) (hf : PlaceOk q f) (hfN : f < (N : Int)) (hbud : q.ns.length + unc q N < 1048576) (ih : CanP N m p mm) (hm : f.toNat < m + 1) :
  Calls Tryz.prog 94 [(.pointer (some ⟨p, 0, none⟩)), (vJ f), (.bool false)].toArray w fun e w' => ∃ (u : Value) (zs : List Int) (L' R' B' : Value) (q' : PSt) (G' : Pin), e = .returned u ∧ Pk 56 3 G' w' p L' R' B' mm q' ∧ PoolOk q' ∧ PX q q' ∧ PLo w p L R B mm L' R' B' ∧ Ext (inP p L R B mm) G w G' w' ∧ Own eInt 3 G' w' w.heap.size u zs ∧ NP p L' R' B' mm u.ownBlock ∧ ReOk q' false f zs ∧ q'.ns.length + unc q' N ≤ q.ns.length + unc q N := by
 refine zV (n := 120) Tryz.func94 Tryz.ntmps94 rfl rfl ?_
 have bn : Ext (inP p L R B mm) G w G w := Ext.refl hP
 have hpin : PIn w (inP p L R B mm) p L R B mm := PIn.self
 have gb : (q.ns.map Nd.l).length = q.ns.length ∧ (q.ns.map Nd.r).length = q.ns.length := ⟨List.length_map .., List.length_map ..⟩
 have gc : q.bs.length = q.ns.length ∧ q.ns.length ≤ 1048576 := ⟨hok.ar.ok.len, hok.ar.ok.lim⟩
 have gd := hf.1
 have ge := hf.2
 have dx := ol_len hok (lf := false) hf
 have gf : (q.ns.getD (f).toNat default).r.length ≤ 1048576 := dx
 refine zB (zC ?_)
 refine qM (.slice none 0 0) ?_
 refine qe (zA (zB (zC ?_)))
 refine qI rfl (xD (E := eInt) (e := 3) Tryz.underlying56 sz3 bn.pins (fun u3 w4 dz cp cq d0 => ?_))
 have bo := bn.step cp cq
 have cr := hpk.below cq cp
 have d1 := hpk.new (x := u3.ownBlock) (fun k hk => by rw [d0] at hk; cases hk; exact Nat.le_refl _)
 have d2 : Own eInt 3 G w4 w.heap.size u3 ([]) := dz.weaken bn.size
 refine qI rfl (o_makeMap (fun k : Int => Value.int .i64 k) (fun v : Bool => Value.bool v) bo.pins (fun t gg gh d3 cs bp => ?_))
 have bq := bo.step cs bp
 have ct := d2.below bp
 have cu := cr.below bp cs
 have d4 := cr.new (x := some t) (fun k hk => by cases hk; omega)
 have d5 : w.heap.size ≤ t := by have := bo.size; omega
 refine qI rfl (xD (E := eInt) (e := 3) Tryz.underlying56 sz3 bq.pins (fun y d6 d7 cv a8 cw => ?_))
 have cx := bq.step cv a8
 have d8 := ct.below a8
 have d9 := d3.below a8
 have a9 := cu.below a8 cv
 have ea : Apart y.ownBlock u3.ownBlock := zI cw ct.lt
 have eb := cu.new (x := y.ownBlock) (fun k hk => by rw [cw] at hk; cases hk; exact Nat.le_refl _)
 have ec : Own eInt 3 G d6 w.heap.size y ([]) := d7.weaken bq.size
 refine qM u3 ?_
 refine qM (.map (some t)) ?_
 refine qM y ?_
 refine qe (zA (zB (zC ?_)))
 refine qM (.pointer (some ⟨p, 0, none⟩)) ?_
 refine qD rfl (yW rfl) (qD rfl (zK (k := 1) rfl Tryz.underlying97 rfl nz95 rfl) (qD rfl (zL (u := R) ag95 rfl (a9.bx.cell (o := 1) rfl)) (qM (vJ f) ?_)))
 refine qD rfl (zF Tryz.underlying95 sz56 (v := R) rfl rfl a9.rr.read (by omega) (by omega)) ?_
 obtain ⟨au, av, ed⟩ := nm_sl (a9.rr.at (z := f) (by omega) (by omega)) (j := (f).toNat) rfl
 rw [jS] at av
 have gi := av.max
 refine qD rfl (ed ag56 rfl (Gadd.pins cx.pins R)) (qM au ?_)
 refine qe (zA (zB (zB (zC ?_))))
 refine qM (.bool false) ?_
 refine qe (zA ?_)
 refine qA rfl rfl (wp_skip (zA (zB (zB (zC ?_)))))
 refine qM au ?_
 refine qD rfl (zM Tryz.underlying56 (v := au) rfl av) (qM (vJ 0) ?_)
 refine qe (zA ?_)
 refine zX (yT (fun (k : Nat) (en : Nat → Value) (W : World) => ∃ (aw : Nat → Value) (j : Nat) (qv : Value) (qs : List Int) (g : Value) (h : Value) (aa : Value) (a : PSt) (ac : Pin), en = (upd (upd (upd (upd (upd (upd (upd (upd (upd (upd aw 0 (.pointer (some ⟨p, 0, none⟩))) 1 (vJ f)) 2 (.bool false)) 6 (.slice none 0 0)) 7 qv) 8 (.map (some t))) 9 y) 34 au) 35 (vJ (((q.ns.getD (f).toNat default).r).length : Int))) 36 (vJ (j : Int))) ∧ k = (q.ns.getD (f).toNat default).r.length - j ∧ Ext (inP p L R B mm) G w ac W ∧ Pin.le G ac ∧ (j ≤ (q.ns.getD (f).toNat default).r.length) ∧ (QOk q a (q.ns.getD (f).toNat default).r qs j) ∧ (a.ns.length + unc a N ≤ q.ns.length + unc q N) ∧ (Own eInt 3 ac W w.heap.size qv (qs)) ∧ (Own eInt 3 ac W w.heap.size y ([])) ∧ (Apart qv.ownBlock y.ownBlock) ∧ (Mp (fun k : Int => Value.int .i64 k) (fun v : Bool => Value.bool v) W t ([])) ∧ (Pk 56 3 ac W p g h aa mm a) ∧ (PIn w ((inP p L R B mm)) p g h aa mm) ∧ (PoolOk a) ∧ (PX q a) ∧ (NP p g h aa mm qv.ownBlock) ∧ (NP p g h aa mm y.ownBlock) ∧ (NP p g h aa mm (some t))) _ ⟨_, 0, u3, [], L, R, B, q, G, (pS 36 (pS 35 (pS 34 (pS 9 (pS 8 (pS 7 (pS 6 (pS 2 (pS 1 (pU 0)))))))))), rfl, cx, Pin.le_refl _, Nat.zero_le _, QOk.start, Nat.le_refl _, d8, ec, ea.symm, d9, a9, hpin, hok, (PX.refl _), d1, eb, d4⟩ ?_)
 rintro gj _ gk ⟨aw, j, qv, qs, g, h, aa, a, ac, rfl, gl, ax, cy, hj, hqo, hbu, br, bt, bu, bv, cz, ay, ab, ah, bw, bz, ba⟩
 have gm := ah.len
 have gn : (a.ns.map Nd.l).length = a.ns.length ∧ (a.ns.map Nd.r).length = a.ns.length := ⟨List.length_map .., List.length_map ..⟩
 have gp : a.bs.length = a.ns.length ∧ a.ns.length ≤ 1048576 := ⟨ab.ar.ok.len, ab.ar.ok.lim⟩
 have gq := hqo.len
 refine zB (zC ?_)
 refine qD rfl (yV rfl rfl) (qe (zA (zB ?_)))
 refine yA (p := ((j : Int) : Int) < (((q.ns.getD (f).toNat default).r).length : Int)) rfl rfl (fun ee => ?_) (fun ee => ?_)
 have hmj : (q.ns.getD (f).toNat default).r.getD j 0 ∈ (q.ns.getD (f).toNat default).r := yC (show j < (q.ns.getD (f).toNat default).r.length by omega)
 have hoj := (jM hok hf).2 _ hmj
 have gr := hoj.1
 have hoz := ((xC hok.ar.opts (show (f).toNat < q.ns.length by omega)).2 _ hmj).2
 refine wp_skip (zA (zB ?_))
 refine zX (zB (zC ?_))
 refine qD rfl (zF Tryz.underlying56 sz3 (v := au) rfl rfl av (by omega) (by omega)) (qD rfl (zE (r := ((q.ns.getD (f).toNat default).r).getD j 0) rfl ag3 (z := (j : Int)) rfl av (Pins.of_le ax.pins cy) (by omega) (by omega)) (qM (vJ (((q.ns.getD (f).toNat default).r).getD j 0)) ?_))
 refine qe (zA (zC ?_))
 refine qM qv ?_
 refine qM (.pointer (some ⟨p, 0, none⟩)) ?_
 refine qM (vJ (((q.ns.getD (f).toNat default).r).getD j 0)) ?_
 refine qI rfl (zH (vs := [(.pointer (some ⟨p, 0, none⟩)), (vJ (((q.ns.getD (f).toNat default).r).getD j 0))]) Tryz.func68 nm68 rfl rfl rfl ?_)
 refine Calls.mono (ih ax.pins cz ab (ah.place hoj) (by omega) (by omega) (by omega)) ?_
 rintro _ gs ⟨az, ef, eg, eh, ad, c0, rfl, ei, bb, b0, bc, a0, ej, ek, el, em⟩
 refine ⟨_, rfl, ?_⟩
 have b1 := ax.trans a0 ay
 have eo := br.extS a0 bw
 have c1 := NP.call bw bc (jH br)
 have ep := bt.extS a0 bz
 have eq := NP.call bz bc (jH bt)
 have er := bv.extS a0 (NP.notb ba)
 have es := NP.call ba bc (fun j hj => by cases hj; exact bv.lt)
 have et := PIn.call ay bc ax.size
 have gt := b0.len
 have gu : (ad.ns.map Nd.l).length = ad.ns.length ∧ (ad.ns.map Nd.r).length = ad.ns.length := ⟨List.length_map .., List.length_map ..⟩
 have gv : ad.bs.length = ad.ns.length ∧ ad.ns.length ≤ 1048576 := ⟨bb.ar.ok.len, bb.ar.ok.lim⟩
 refine qI rfl (xA (E := eInt) (e := 3) [(vJ az)] [az] Tryz.underlying56 sz3 zr3 (by exact xZ (by rfl)) (xN (by rfl)) rfl rfl rfl rfl (by decide) b1.pins (fun c2 eu ev c3 a1 gw => ?_))
 have b2 := b1.step c3 a1
 have b3 := eo.below a1
 have c4 := ep.below a1
 have c5 := er.below a1
 have c6 := ei.below a1 c3
 have ew : Own eInt 3 c0 eu w.heap.size c2 ([az]) := ev.weaken b1.size
 refine qI rfl (oA (E := eInt) (v := qv) (u := c2) 8 Tryz.underlying56 ap3 (by decide) rfl rfl b2.pins b3 ew.src (b2.size) (fun b4 gx ex c7 bd c8 => ?_))
 have ey := b2.write c7 bd ((yN b3))
 have ez := c4.keptA bd bu.symm
 have e0 := c5.kept bd (yR c5 b3)
 have e1 := c6.kept bd c7 c1
 have e2 : Apart y.ownBlock b4.ownBlock := zG bu.symm c8 c4.lt
 have e3 := np_app c1 c6 c8
 have gy : (qs ++ ([az])).length = qs.length + 1 := List.length_append
 refine qM b4 ?_
 refine qe (yB (zA (zC ?_)))
 refine qD rfl (yJ rfl rfl (by omega)) (qM (vJ ((j : Int) + 1)) ?_)
 refine qe (zZ (⟨_, ?_, _, rfl, _, j + 1, b4, qs ++ ([az]), ef, eg, eh, ad, c0, (pS 36 (pS 35 (pS 34 (pS 9 (pS 8 (pS 7 (pS 6 (pS 2 (pS 1 (pU 0)))))))))), rfl, ey, (Pin.le_trans cy a0.le), (by omega), (hqo.step hok ab bb ah b0 hoj ej ek el), (by have := em; omega), ex, ez, e2.symm, e0, e1, et, bb, (PX.trans ah b0), e3, eq, es⟩))
 omega
 refine wp_exit (zW (yO (yI (zA (zB ?_)))))
 refine zX ?_
 have hjn : j = (q.ns.getD (f).toNat default).r.length := by omega
 rw [hjn] at hqo
 have e4 : RdW a false (pd a f) qs [] [] := by rw [ah.pd hok ab hf]; exact hqo.rd (lf := false) hok hf (by unfold ol; rw [if_neg Bool.false_ne_true])
 have hq2l := hqo.len
 have e5 := ah.place hf
 refine yT (fun (k : Nat) (en : Nat → Value) (W : World) => ∃ (aw : Nat → Value) (wv : Value) (wl : List Int) (kv : Value) (kept : List Int) (sn : List (Int × Bool)) (ss : List Int) (c : PSt) (ai : Pin), en = (upd (upd (upd (upd (upd (upd (upd aw 0 (.pointer (some ⟨p, 0, none⟩))) 1 (vJ f)) 2 (.bool false)) 6 (.slice none 0 0)) 7 wv) 8 (.map (some t))) 9 kv) ∧ k = (a.ns.length - ss.length) * 1048577 + wl.length ∧ Ext (inP p L R B mm) G w ai W ∧ Pin.le ac ai ∧ (RdW a false (pd a f) wl ss kept) ∧ (SnOk sn ss) ∧ (wl.length ≤ 1048576 + 1048576 * ss.length) ∧ (Own eInt 3 ai W w.heap.size wv (wl)) ∧ (Own eInt 3 ai W w.heap.size kv (kept)) ∧ (Apart wv.ownBlock kv.ownBlock) ∧ (Mp (fun k : Int => Value.int .i64 k) (fun v : Bool => Value.bool v) W t (sn)) ∧ (Pk 56 3 ai W p g h aa mm c) ∧ (PoolOk c) ∧ (PX a c) ∧ (c.ns = a.ns ∧ c.bs = a.bs) ∧ (NP p g h aa mm wv.ownBlock) ∧ (NP p g h aa mm kv.ownBlock)) _ ⟨_, qv, qs, y, [], [], [], a, ac, (pS 9 (pS 8 (pS 7 (pS 6 (pS 2 (pS 1 (pU 0))))))), rfl, ax, Pin.le_refl _, e4, SnOk.start, (by simp; omega), br, bt, bu, bv, cz, ab, (PX.refl _), ⟨rfl, rfl⟩, bw, bz⟩ ?_
 rintro gz _ g0 ⟨aw, wv, wl, kv, kept, sn, ss, c, ai, rfl, g1, a2, b5, hrd, hsn, hwl, ak, be, e6, a3, b6, aj, al, s, e7, am⟩
 have g2 := al.len
 have g3 : (c.ns.map Nd.l).length = c.ns.length ∧ (c.ns.map Nd.r).length = c.ns.length := ⟨List.length_map .., List.length_map ..⟩
 have g4 : c.bs.length = c.ns.length ∧ c.ns.length ≤ 1048576 := ⟨aj.ar.ok.len, aj.ar.ok.lim⟩
 have hrl := hrd.len
 refine zB (zB (zC ?_))
 refine qM wv ?_
 refine qD rfl (zM Tryz.underlying56 (v := wv) rfl ak.read) (qD rfl (r_gtr rfl rfl) (qe (zA ?_)))
 refine yA (p := (0 : Int) < (wl.length : Int)) rfl rfl (fun e8 => ?_) (fun e8 => ?_)
 have hpm : ((wl.length : Int) - 1).toNat + 1 = wl.length := by omega
 have hpa := hrd.at_ hpm
 have g5 := hpa.1
 have g6 := hpa.2
 refine wp_skip (zA (zX (zB (zC ?_))))
 refine qM wv ?_
 refine qM wv ?_
 refine qD rfl (zM Tryz.underlying56 (v := wv) rfl ak.read) (qD rfl (qE rfl rfl (by omega)) (qD rfl (zF Tryz.underlying56 sz3 (v := wv) rfl rfl ak.read (by omega) (by omega)) (qD rfl (zE (r := wl.getD ((wl.length : Int) - 1).toNat 0) rfl ag3 (z := ((wl.length : Int) - 1)) rfl ak.read (Gadd.pins a2.pins wv) (by omega) (by omega)) (qM (vJ (wl.getD ((wl.length : Int) - 1).toNat 0)) ?_))))
 refine qe (zA (zB (zC ?_)))
 refine qM wv ?_
 refine qM wv ?_
 refine qD rfl (zM Tryz.underlying56 (v := wv) rfl ak.read) (qD rfl (qE rfl rfl (by omega)) ?_)
 obtain ⟨ae, b7, c9, e9⟩ := own_cut ak (((wl.length : Int) - 1).toNat) ((wl.length : Int) - 1) (by omega) rfl (by omega) (by omega)
 have a4 : Apart ae.ownBlock kv.ownBlock := by rw [c9]; exact e6
 have a5 := (show NP _ _ _ _ _ ae.ownBlock by rw [c9]; exact e7)
 refine qD rfl (e9 Tryz.underlying56 sz3 rfl rfl rfl) (qM ae ?_)
 refine qe (zA (zB (zB (zC ?_))))
 refine qM (.map (some t)) ?_
 refine qM (vJ (wl.getD ((wl.length : Int) - 1).toNat 0)) ?_
 refine qD rfl (run_look1_bool (k := (wl.getD ((wl.length : Int) - 1).toNat 0)) (key_int Tryz.underlying3) Tryz.underlying130 zr4 a3 rfl rfl) (qe (zA ?_))
 refine c_if rfl rfl (fun bf => ?_) (fun bf => ?_)
 refine wp_exit (zW (yI (zZ ?_)))
 have htl : (wl.take ((wl.length : Int) - 1).toNat).length = ((wl.length : Int) - 1).toNat := by rw [List.length_take]; omega
 refine ⟨_, ?_, _, rfl, _, ae, wl.take ((wl.length : Int) - 1).toNat, kv, kept, sn, ss, c, ai, (pS 9 (pS 8 (pS 7 (pS 6 (pS 2 (pS 1 (pU 0))))))), rfl, a2, b5, ((hrd.pop hpm).seen (hsn.yes bf)), hsn, (by omega), b7, be, a4, a3, b6, aj, al, s, a5, am⟩
 omega
 refine wp_skip (zA (zB (zC ?_)))
 refine qM (.map (some t)) ?_
 refine qM (vJ (wl.getD ((wl.length : Int) - 1).toNat 0)) ?_
 refine q0 rfl rfl rfl (qT (val := (fun v : Bool => Value.bool v)) (k := (wl.getD ((wl.length : Int) - 1).toNat 0)) (v := true) (key_int Tryz.underlying3) Tryz.underlying130 rfl rfl rfl a2.pins a3 (fun g7 fa da bg g8 => ?_))
 have b8 := a2.write da bg ((zS d5))
 have fb := be.keptA bg (yR a3 be).symm
 have fc := b7.keptA bg (yR a3 b7).symm
 have bh := b6.kept bg da ba
 refine qe (zA (zB (zC ?_)))
 refine qM (.pointer (some ⟨p, 0, none⟩)) ?_
 refine qD rfl (yW rfl) (qD rfl (zK (k := 0) rfl Tryz.underlying97 rfl nz95 rfl) (qD rfl (zL (u := g) ag95 rfl (bh.bx.cell (o := 0) rfl)) (qM (vJ (wl.getD ((wl.length : Int) - 1).toNat 0)) ?_)))
 refine qD rfl (zF Tryz.underlying95 sz56 (v := g) rfl rfl bh.ol.read (by omega) (by omega)) ?_
 obtain ⟨b9, ca, fd⟩ := nm_sl (bh.ol.at (z := (wl.getD ((wl.length : Int) - 1).toNat 0)) (by omega) (by omega)) (j := (wl.getD ((wl.length : Int) - 1).toNat 0).toNat) rfl
 rw [jT] at ca
 have g9 := ca.max
 refine qD rfl (fd ag56 rfl (Gadd.pins b8.pins g)) (qM b9 ?_)
 refine qe (zA (zB (zB (zC ?_))))
 refine qM (.bool false) ?_
 refine qe (zA ?_)
 refine qA rfl rfl (wp_skip (zA (zB (zC ?_))))
 refine qM (.pointer (some ⟨p, 0, none⟩)) ?_
 refine qM (vJ f) ?_
 refine qM (vJ (wl.getD ((wl.length : Int) - 1).toNat 0)) ?_
 refine qM (.bool false) ?_
 refine qM b9 ?_
 refine qI rfl (zH (vs := [(.pointer (some ⟨p, 0, none⟩)), (vJ f), (vJ (wl.getD ((wl.length : Int) - 1).toNat 0)), (.bool false), b9]) Tryz.func109 nm109 rfl rfl rfl ?_)
 refine Calls.mono (through_spec b8.pins bh aj (lf := false) (e5.same s) (hpa.same s) ca (by rw [if_neg Bool.false_ne_true]) (jM aj (hpa.same s)).1) ?_
 rintro _ ha ⟨d, b, cb, rfl, fe, an, bi, cc, bj, ao⟩
 refine ⟨_, rfl, ?_⟩
 have af := b8.trans ao (fun i hi => (PIn.o ay) i hi)
 have cd := fb.extS ao (notO (NP.ho am))
 have bk := fc.extS ao (notO (NP.ho a5))
 have ce := fa.extS ao (xU (NP.ho ba))
 have hb := cc.len
 have hc : (b.ns.map Nd.l).length = b.ns.length ∧ (b.ns.map Nd.r).length = b.ns.length := ⟨List.length_map .., List.length_map ..⟩
 have hd : b.bs.length = b.ns.length ∧ b.ns.length ≤ 1048576 := ⟨bi.ar.ok.len, bi.ar.ok.lim⟩
 have he := congrArg List.length bj.1
 have db := thr_same s fe
 refine qM (vJ d) ?_
 refine qe (zA ?_)
 refine zX (zB (zC ?_))
 refine qM (vJ d) ?_
 refine qD rfl (yV rfl rfl) (qM (.bool (decide ((d : Int) < 0))) ?_)
 refine qe (zA ?_)
 refine yA (p := (d : Int) < 0) rfl rfl (fun dc => ?_) (fun dc => ?_)
 refine zC (qM kv ?_)
 refine qM (vJ (wl.getD ((wl.length : Int) - 1).toNat 0)) ?_
 refine qI rfl (xA (E := eInt) (e := 3) [(vJ (wl.getD ((wl.length : Int) - 1).toNat 0))] [wl.getD ((wl.length : Int) - 1).toNat 0] Tryz.underlying56 sz3 zr3 (by exact xZ (by rfl)) (xN (by rfl)) rfl rfl rfl rfl (by decide) af.pins (fun dd ff fg de a6 hg => ?_))
 have cf := af.step de a6
 have cg := cd.below a6
 have df := bk.below a6
 have dg := ce.below a6
 have dh := an.below a6 de
 have fh : Own eInt 3 cb ff w.heap.size dd ([wl.getD ((wl.length : Int) - 1).toNat 0]) := fg.weaken af.size
 refine qI rfl (oA (E := eInt) (v := kv) (u := dd) 8 Tryz.underlying56 ap3 (by decide) rfl rfl cf.pins cg fh.src (cf.size) (fun ch hh fi di bl dj => ?_))
 have fj := cf.write di bl ((yN cg))
 have fk := df.keptA bl a4
 have fl := dg.kept bl (yR dg cg)
 have fm := dh.kept bl di am
 have fn : Apart ae.ownBlock ch.ownBlock := zG a4 dj df.lt
 have fo := np_app am dh dj
 have hl : (kept ++ ([wl.getD ((wl.length : Int) - 1).toNat 0])).length = kept.length + 1 := List.length_append
 refine qM ch ?_
 refine qe (yB (yB (zZ ?_)))
 have htl : (wl.take ((wl.length : Int) - 1).toNat).length = ((wl.length : Int) - 1).toNat := by rw [List.length_take]; omega
 have ap := (hrd.pop hpm).kept (hsn.no bf) (thr_no db dc)
 have hcl := ap.len
 have hsl : (ss ++ [(wl.getD ((wl.length : Int) - 1).toNat 0)]).length = ss.length + 1 := by rw [List.length_append]; rfl
 refine ⟨_, ?_, _, rfl, _, ae, wl.take ((wl.length : Int) - 1).toNat, ch, kept ++ [(wl.getD ((wl.length : Int) - 1).toNat 0)], putE sn (wl.getD ((wl.length : Int) - 1).toNat 0) true, ss ++ [(wl.getD ((wl.length : Int) - 1).toNat 0)], b, cb, (pS 9 (pS 8 (pS 7 (pS 6 (pS 2 (pS 1 (pU 0))))))), rfl, fj, (Pin.le_trans b5 ao.le), ap, hsn.put, (by omega), fk, fi, fn, fl, fm, bi, (PX.trans al cc), (zN s bj), a5, fo⟩
 omega
 refine zB (zC ?_)
 refine qM (.bool false) ?_
 refine qM (.bool false) ?_
 refine qe (zA ?_)
 refine qA rfl rfl (zC ?_)
 have hti := thr_info ab hpa db (by omega)
 have hn := hti.1.1
 have hp := hti.1.2
 have hot := ol_len ab (lf := false) hti.1
 have hoe : (b.ns.getD (d).toNat default).r = ol a false d := by rw [(zN s bj).1]; unfold ol; rw [if_neg Bool.false_ne_true]
 have hq : (b.ns.getD (d).toNat default).r.length ≤ 1048576 := by rw [hoe]; exact hot
 have hr : (wl.take ((wl.length : Int) - 1).toNat).length = ((wl.length : Int) - 1).toNat := by rw [List.length_take]; omega
 refine qM ae ?_
 refine qM (.pointer (some ⟨p, 0, none⟩)) ?_
 refine qD rfl (yW rfl) (qD rfl (zK (k := 1) rfl Tryz.underlying97 rfl nz95 rfl) (qD rfl (zL (u := h) ag95 rfl (an.bx.cell (o := 1) rfl)) (qM (vJ d) ?_)))
 refine qD rfl (zF Tryz.underlying95 sz56 (v := h) rfl rfl an.rr.read (by omega) (by omega)) ?_
 obtain ⟨fp, ci, fq⟩ := nm_sl (an.rr.at (z := d) (by omega) (by omega)) (j := (d).toNat) rfl
 rw [jS] at ci
 have hs := ci.max
 refine qD rfl (fq ag56 rfl (Gadd.pins af.pins h)) (qI rfl (oA (E := eInt) (v := ae) (u := fp) 8 Tryz.underlying56 ap3 (by decide) rfl rfl af.pins bk ((ci.mono (Pin.le_refl _)).src af.pins (by decide)) (af.size) (fun cj ht fr dk bm dl => ?_)))
 have fs := af.write dk bm ((yN bk))
 have ft := cd.keptA bm a4.symm
 have fu := ce.kept bm (yR ce bk)
 have fv := an.kept bm dk a5
 have fw : Apart kv.ownBlock cj.ownBlock := zG a4.symm dl cd.lt
 have fx := np_app a5 an dl
 have hu : ((wl.take (((wl.length : Int) - 1).toNat)) ++ ((b.ns.getD (d).toNat default).r)).length = (wl.take (((wl.length : Int) - 1).toNat)).length + ((b.ns.getD (d).toNat default).r).length := List.length_append
 refine qM cj ?_
 refine qe (yB (yB (zZ ?_)))
 have htl : (wl.take ((wl.length : Int) - 1).toNat).length = ((wl.length : Int) - 1).toNat := by rw [List.length_take]; omega
 have ap := (hrd.pop hpm).pass_on ab (hsn.no bf) hti.1 hti.2.1 hti.2.2
 have hcl := ap.len
 have hsl : (ss ++ [(wl.getD ((wl.length : Int) - 1).toNat 0)]).length = ss.length + 1 := by rw [List.length_append]; rfl
 have hal : ((wl.take (((wl.length : Int) - 1).toNat)) ++ ((b.ns.getD (d).toNat default).r)).length = ((wl.length : Int) - 1).toNat + (b.ns.getD (d).toNat default).r.length := by rw [List.length_append, htl]
 rw [← hoe] at ap
 refine ⟨_, ?_, _, rfl, _, cj, (wl.take (((wl.length : Int) - 1).toNat)) ++ ((b.ns.getD (d).toNat default).r), kv, kept, putE sn (wl.getD ((wl.length : Int) - 1).toNat 0) true, ss ++ [(wl.getD ((wl.length : Int) - 1).toNat 0)], b, cb, (pS 9 (pS 8 (pS 7 (pS 6 (pS 2 (pS 1 (pU 0))))))), rfl, fs, (Pin.le_trans b5 ao.le), ap, hsn.put, (by omega), fr, ft, fw.symm, fu, fv, bi, (PX.trans al cc), (zN s bj), fx, am⟩
 omega
 refine wp_exit (zW (yO (yI (zA (zB (zC ?_))))))
 refine qM kv ?_
 refine qM (.pointer (some ⟨p, 0, none⟩)) ?_
 refine qM kv ?_
 refine qM (.bool false) ?_
 obtain ⟨hv, fy, ck, dm, fz⟩ := be.sealed a2
 have dn := b6.moreO fy fz am
 refine qI rfl (zH (vs := [(.pointer (some ⟨p, 0, none⟩)), kv, (.bool false)]) Tryz.func111 nm111 rfl rfl rfl ?_)
 refine Calls.mono (idominated_spec ck.pins dn aj (lf := false) dm (by omega) (fun i hi => ((hrd.all _ (Or.inr ((hrd.keep _).1 (yC hi)).1)).1).same s)) ?_
 rintro _ hw ⟨dp, ag, hx, rfl, dq, f0, cl, cm, cn, dr⟩
 refine ⟨_, rfl, ?_⟩
 have f1 := dn.new (x := dp.ownBlock) (fun k hk => (dq.lt k hk).1)
 have f2 := ck.trans dr (fun i hi => (PIn.o ay) i hi)
 have hy := cm.len
 have h0 : (ag.ns.map Nd.l).length = ag.ns.length ∧ (ag.ns.map Nd.r).length = ag.ns.length := ⟨List.length_map .., List.length_map ..⟩
 have h1 : ag.bs.length = ag.ns.length ∧ ag.ns.length ≤ 1048576 := ⟨cl.ar.ok.len, cl.ar.ok.lim⟩
 have h2 := congrArg List.length cn.1
 have f3 := dq.weaken ck.size
 obtain ⟨h3, ds, co, f4, f5⟩ := f3.sealed f2
 have dt := f0.moreO ds f5 f1
 refine qI rfl (zH (vs := [kv, dp]) Tryz.func110 nm110 rfl rfl rfl ?_)
 refine Calls.mono (without_spec co.pins (dm.mono (Pin.le_trans dr.le ds)) f4 (by omega) (dom_pw _) (fun z hz => by obtain ⟨k, _, e, _⟩ := (dom_mem _).1 hz; omega)) ?_
 rintro _ f6 ⟨a7, du, rfl, dv, dw⟩
 refine ⟨_, rfl, ?_⟩
 have f7 := co.tr dw
 have f8 := dt.ext dw
 have f9 := dt.new (x := a7.ownBlock) (fun k hk => (dv.lt k hk).1)
 have ga : Own eInt 3 du f6 w.heap.size a7 (woL kept (domL (gX c kept) false kept.length kept.length) kept.length) := dv.weaken co.size
 refine qM a7 ?_
 refine qe (zA ?_)
 refine wp_ret (zO (zP (v := a7) rfl rfl rfl ?_))
 have hwz : wl = [] := List.eq_nil_of_length_eq_zero (by omega)
 rw [hwz] at hrd
 have hre := (re_done aj (hrd.same s) (xJ s).symm).same cn
 have hul := unc_px (PX.trans al cm) N
 exact ⟨a7, _, g, h, aa, ag, du, rfl, f8, cl, (PX.trans (PX.trans ah al) cm), PIn.lo ay rfl, f7, ga, f9, hre, (by have := congrArg List.length ((zN s cn)).1; omega)⟩

end CN3
end Go.Proofs.YtakkjmlnmcemaaaGreatDoor

set_option maxRecDepth 20000
set_option maxHeartbeats 2000000
namespace Go.Proofs.YtakkjmlnmcemaaaGreatDoor
namespace CN4
open Go.RowKit Go.GL Go.Proofs
open B1 K1 PO1 PL1 DI1 RI1 CN1 CN2 CN3





theorem canon_step {w : World} {G : Pin} {L R B : Value} {q : PSt} {f : Int} {p : Nat} {mm : PM} {N m : Nat} (hP : Pins G w) (hpk : Pk 56 3 G w p L R B mm q) (hok : PoolOk q) (hf : PlaceOk q f) (hfN : f < (N : Int)) (hbud : q.ns.length + unc q N < 1048576) (ih : CanP N m p mm) (hm : f.toNat < m + 1) :
  Calls Tryz.prog 68 [(.pointer (some ⟨p, 0, none⟩)), (vJ f)].toArray w fun e w' => ∃ (z : Int) (L' R' B' : Value) (q' : PSt) (G' : Pin), e = .returned (vJ z) ∧ Pk 56 3 G' w' p L' R' B' mm q' ∧ PoolOk q' ∧ PX q q' ∧ PLo w p L R B mm L' R' B' ∧ Ext (inP p L R B mm) G w G' w' ∧ PlaceOk q' z ∧ CanonG (pd q' z) ∧ eqG (pd q' z) (pd q' f) ∧ q'.ns.length + unc q' N ≤ q.ns.length + unc q N := by
 refine zV (n := 40) Tryz.func68 Tryz.ntmps68 rfl rfl ?_
 have ad : Ext (inP p L R B mm) G w G w := Ext.refl hP
 have hpin : PIn w (inP p L R B mm) p L R B mm := PIn.self
 have cq : (q.ns.map Nd.l).length = q.ns.length ∧ (q.ns.map Nd.r).length = q.ns.length := ⟨List.length_map .., List.length_map ..⟩
 have cr : q.bs.length = q.ns.length ∧ q.ns.length ≤ 1048576 := ⟨hok.ar.ok.len, hok.ar.ok.lim⟩
 have cs := hf.1
 have ct := hf.2
 refine zB (zC ?_)
 refine qM (vJ 0) ?_
 refine qe (zA (zB (zB (zC ?_))))
 refine qM (.pointer (some ⟨p, 0, none⟩)) ?_
 refine qD rfl (yW rfl) (qD rfl (zK (k := 5) rfl Tryz.underlying97 rfl nz93 rfl) (qD rfl (zL (u := (.map (some mm.c))) ag93 rfl (hpk.bx.cell (o := 5) rfl)) (qM (vJ f) ?_)))
 refine qD rfl (run_lookv_int (k := f) (key_int Tryz.underlying3) Tryz.underlying93 zr3 hpk.fc rfl rfl) (qM (.tuple #[(vJ ((Go.GL.look q.cm f).getD 0)), (.bool ((Go.GL.look q.cm f).isSome))]) ?_)
 refine qD rfl (yE (v := (vJ ((Go.GL.look q.cm f).getD 0))) rfl rfl) (qD rfl (yE (v := (.bool ((Go.GL.look q.cm f).isSome))) rfl rfl) (qM (vJ ((Go.GL.look q.cm f).getD 0)) ?_))
 refine qM (.bool ((Go.GL.look q.cm f).isSome)) ?_
 refine qe (zA (zB (zC ?_)))
 refine qM (.bool ((Go.GL.look q.cm f).isSome)) ?_
 refine qe (zA ?_)
 refine c_if rfl rfl (fun h3 => ?_) (fun h3 => ?_)
 refine zB (zC ?_)
 refine qM (vJ ((Go.GL.look q.cm f).getD 0)) ?_
 refine qM (vJ ((Go.GL.look q.cm f).getD 0)) ?_
 refine qe (zA ?_)
 refine wp_ret (zO (zP (v := (vJ ((Go.GL.look q.cm f).getD 0))) rfl rfl rfl ?_))
 obtain ⟨z, hz⟩ := Option.isSome_iff_exists.1 h3
 obtain ⟨_, f1, f2, f3⟩ := hok.can f z hz
 rw [hz]
 exact ⟨z, L, R, B, q, G, rfl, hpk, hok, (PX.refl _), PIn.lo hpin rfl, ad, f1, f2, f3, Nat.le_refl _⟩
 refine wp_skip (zA (zB (zC ?_)))
 refine qM (.pointer (some ⟨p, 0, none⟩)) ?_
 refine qM (.pointer (some ⟨p, 0, none⟩)) ?_
 refine qM (vJ f) ?_
 refine qI rfl (zH (vs := [(.pointer (some ⟨p, 0, none⟩)), (vJ f), (.bool true)]) Tryz.func94 nm94 rfl rfl rfl ?_)
 refine Calls.mono (reduced_t (N := N) (m := m) ad.pins hpk hok ((PX.refl _).place hf) hfN (by omega) ih hm) ?_
 rintro _ cu ⟨u4, cv, L6, R7, B8, x, cz, rfl, bo, ah, ae, bp, bq, br, ay, az, c0⟩
 refine ⟨_, rfl, ?_⟩
 have ai := ad.trans bq hpin
 have a0 := PIn.call hpin bp ad.size
 have c1 := ae.len
 have c2 : (x.ns.map Nd.l).length = x.ns.length ∧ (x.ns.map Nd.r).length = x.ns.length := ⟨List.length_map .., List.length_map ..⟩
 have c3 : x.bs.length = x.ns.length ∧ x.ns.length ≤ 1048576 := ⟨ah.ar.ok.len, ah.ar.ok.lim⟩
 have ao := br.weaken ad.size
 have c4 := az.len
 refine qM (.pointer (some ⟨p, 0, none⟩)) ?_
 refine qM (vJ f) ?_
 refine qI rfl (zH (vs := [(.pointer (some ⟨p, 0, none⟩)), (vJ f), (.bool false)]) Tryz.func94 nm94 rfl rfl rfl ?_)
 refine Calls.mono (reduced_f (N := N) (m := m) ai.pins bo ah (ae.place hf) hfN (by omega) ih hm) ?_
 rintro _ c5 ⟨bt, c6, c7, c8, c9, s, da, rfl, bu, aa, aj, a1, a2, a3, bv, a4, db⟩
 refine ⟨_, rfl, ?_⟩
 have bw := ai.trans a2 a0
 have bz := ao.extS a2 ay
 have b0 := NP.call ay a1 (jH ao)
 have a5 := PIn.call a0 a1 ai.size
 have dc := aj.len
 have dd : (s.ns.map Nd.l).length = s.ns.length ∧ (s.ns.map Nd.r).length = s.ns.length := ⟨List.length_map .., List.length_map ..⟩
 have de : s.bs.length = s.ns.length ∧ s.ns.length ≤ 1048576 := ⟨aa.ar.ok.len, aa.ar.ok.lim⟩
 have b1 := zT a3.lt ao.lt
 have b2 := a3.weaken ai.size
 have df := a4.len
 obtain ⟨dg, a6, b3, b4, a7⟩ := bz.sealed bw
 have b5 := b2.moreO a6 a7 b1
 have b6 := bu.moreO a6 a7 b0
 obtain ⟨dh, a8, ap, b7, b8⟩ := b5.sealed b3
 have b9 := b6.moreO a8 b8 bv
 have aq := az.px (ae.place hf) aj ah aa
 have au := a4
 refine qI rfl (zH (vs := [(.pointer (some ⟨p, 0, none⟩)), u4, bt]) Tryz.func93 nm93 rfl rfl rfl ?_)
 refine Calls.mono (node_spec ap.pins b9 aa (b4.mono a8) b7 (by omega) ⟨aq.len, au.len⟩ (jR aq.pl) (jR au.pl)) ?_
 rintro _ di ⟨d, ca, cb, cc, b, cd, rfl, av, ab, t, ce, cf, ac, cg, ch, a9⟩
 refine ⟨_, rfl, ?_⟩
 have ba := ap.trans cf a5
 have aw := PIn.call a5 ce ap.size
 have dj := t.len
 have dk : (b.ns.map Nd.l).length = b.ns.length ∧ (b.ns.map Nd.r).length = b.ns.length := ⟨List.length_map .., List.length_map ..⟩
 have dl : b.bs.length = b.ns.length ∧ b.ns.length ≤ 1048576 := ⟨ab.ar.ok.len, ab.ar.ok.lim⟩
 have hcd := canon_done aq au cg
 have bb := (PX.trans ae aj).place hf
 have ci := t.place bb
 have bc : eqG (pd b d) (pd b f) := by rw [t.pd aa ab bb]; exact hcd.2
 have hgrow : b.ns.length + unc { b with cm := putE b.cm f d } N ≤ s.ns.length + unc s N := by
  cases hlf : Go.GL.look s.cm f with
  | none =>
   have h1 := unc_put (q := b) (z := d) hf.1 (by rw [a9.1]; exact hlf) N hfN
   have h2 := unc_px t N
   have := ch
   omega
  | some y =>
   obtain ⟨_, h2, h3, h4⟩ := aa.can f y hlf
   have h5 : pd b y = pd b d := by
    rw [t.pd aa ab h2]
    exact canon_unique h3 hcd.1 ⟨xO h4.1 hcd.2.2, xO hcd.2.1 h4.2⟩
   have h6 := t.place h2
   have h7 := h2.1; have h8 := h2.2; have h9 := h6.2; have dr := ac.1; have ds := ac.2
   have dt := ab.ar.inj (i := y.toNat) (j := d.toNat) (by omega) (by omega) h5
   have du := unc_px (PX.trans t (PX.put (q := b) (a := f) (z := d))) N
   rcases a9.2 with cl | cl <;> omega
 refine qM (vJ d) ?_
 refine qe (zA (zB (zC ?_)))
 refine qM (.pointer (some ⟨p, 0, none⟩)) ?_
 refine qD rfl (yW rfl) (qD rfl (zK (k := 5) rfl Tryz.underlying97 rfl nz93 rfl) (qD rfl (zL (u := (.map (some mm.c))) ag93 rfl (av.bx.cell (o := 5) rfl)) (qM (vJ f) ?_)))
 refine qM (vJ d) ?_
 refine q0 rfl rfl rfl (qT (val := (fun v : Int => Value.int .i64 v)) (k := f) (v := d) (key_int Tryz.underlying3) Tryz.underlying93 rfl rfl rfl ba.pins av.fc (fun dv cn be bf dw => ?_))
 have bg := ba.trans (Ext.one be bf) (fun i hi => (PIn.c aw) i hi)
 have ak := av.setC (Ext.one be bf) cn
 have al := PoolOk.setC ab (ci.same ⟨rfl, rfl⟩) (ac.same ⟨rfl, rfl⟩) (by rw [xJ ⟨rfl, rfl⟩]; exact hcd.1) (by rw [xJ ⟨rfl, rfl⟩, xJ ⟨rfl, rfl⟩]; exact bc)
 obtain ⟨g, am⟩ : ∃ q, q = ({ b with cm := putE b.cm f d } : PSt) := ⟨_, rfl⟩
 rw [← am] at ak al
 have hq97n : g.ns = b.ns ∧ g.bs = b.bs := by rw [am]; exact ⟨rfl, rfl⟩
 have hq97x : PX b g := by rw [am]; exact PX.put
 have dx : (g.ns.map Nd.l).length = g.ns.length ∧ (g.ns.map Nd.r).length = g.ns.length := ⟨List.length_map .., List.length_map ..⟩
 have dy : g.bs.length = g.ns.length ∧ g.ns.length ≤ 1048576 := ⟨al.ar.ok.len, al.ar.ok.lim⟩
 have dz := hq97x.len
 refine qe (zA (zB (zC ?_)))
 refine qM (.pointer (some ⟨p, 0, none⟩)) ?_
 refine qD rfl (yW rfl) (qD rfl (zK (k := 5) rfl Tryz.underlying97 rfl nz93 rfl) (qD rfl (zL (u := (.map (some mm.c))) ag93 rfl (ak.bx.cell (o := 5) rfl)) (qM (vJ d) ?_)))
 refine qM (vJ d) ?_
 refine q0 rfl rfl rfl (qT (val := (fun v : Int => Value.int .i64 v)) (k := d) (v := d) (key_int Tryz.underlying3) Tryz.underlying93 rfl rfl rfl bg.pins ak.fc (fun d0 co bh bi d1 => ?_))
 have cp := bg.trans (Ext.one bh bi) (fun i hi => (PIn.c aw) i hi)
 have bj := ak.setC (Ext.one bh bi) co
 have an := PoolOk.setC al (ac.same hq97n) (ac.same hq97n) (by rw [xJ hq97n]; exact hcd.1) ⟨jK _, jK _⟩
 obtain ⟨h, ax⟩ : ∃ q, q = ({ g with cm := putE g.cm d d } : PSt) := ⟨_, rfl⟩
 rw [← ax] at bj an
 have hq110n : h.ns = g.ns ∧ h.bs = g.bs := by rw [ax]; exact ⟨rfl, rfl⟩
 have hq110x : PX g h := by rw [ax]; exact PX.put
 have d2 : (h.ns.map Nd.l).length = h.ns.length ∧ (h.ns.map Nd.r).length = h.ns.length := ⟨List.length_map .., List.length_map ..⟩
 have d3 : h.bs.length = h.ns.length ∧ h.ns.length ≤ 1048576 := ⟨an.ar.ok.len, an.ar.ok.lim⟩
 have d4 := hq110x.len
 refine qe (zA (zB (zC ?_)))
 refine qM (vJ d) ?_
 refine qM (vJ d) ?_
 refine qe (zA ?_)
 refine wp_ret (zO (zP (v := (vJ d)) rfl rfl rfl ?_))
 have hlast := unc_px hq110x N
 have hln := congrArg List.length ((zN hq97n hq110n)).1
 have hnew : h.ns.length + unc h N ≤ q.ns.length + unc q N := by rw [am] at hlast; omega
 exact ⟨_, ca, cb, cc, h, cd, rfl, bj, an, (PX.trans (PX.trans (PX.trans (PX.trans ae aj) t) hq97x) hq110x), PIn.lo aw rfl, cp, ac.same (zN hq97n hq110n), (by rw [xJ (zN hq97n hq110n)]; exact hcd.1), (by rw [xJ (zN hq97n hq110n), xJ (zN hq97n hq110n)]; exact bc), hnew⟩

theorem canon_all {p N : Nat} {mm : PM} : ∀ m, CanP N m p mm
 | 0 => fun _ _ _ _ _ _ h => absurd h (Nat.not_lt_zero _)
 | m + 1 => fun hP hpk hok hf hfN hb hm => canon_step hP hpk hok hf hfN hb (canon_all m) hm
theorem canon_spec {w : World} {G : Pin} {L R B : Value} {q : PSt} {f : Int} {p : Nat} {mm : PM} {N : Nat} (hP : Pins G w) (hpk : Pk 56 3 G w p L R B mm q) (hok : PoolOk q) (hf : PlaceOk q f) (hfN : f < (N : Int)) (hbud : q.ns.length + unc q N < 1048576) :
  Calls Tryz.prog 68 [(.pointer (some ⟨p, 0, none⟩)), (.int .i64 f)].toArray w fun e w' => ∃ (z : Int) (L' R' B' : Value) (q' : PSt) (G' : Pin), e = .returned (.int .i64 z) ∧ Pk 56 3 G' w' p L' R' B' mm q' ∧ PoolOk q' ∧ PX q q' ∧ PLo w p L R B mm L' R' B' ∧ Ext (inP p L R B mm) G w G' w' ∧ PlaceOk q' z ∧ CanonG (pd q' z) ∧ eqG (pd q' z) (pd q' f) ∧ q'.ns.length + unc q' N ≤ q.ns.length + unc q N :=
 canon_all _ hP hpk hok hf hfN hbud (Nat.lt_succ_self _)

end CN4
end Go.Proofs.YtakkjmlnmcemaaaGreatDoor

set_option maxRecDepth 20000
set_option maxHeartbeats 2000000
namespace Go.Proofs.YtakkjmlnmcemaaaGreatDoor
namespace AS2
open Go.RowKit Go.GL Go.Proofs
open B1 C1 D1 E1 K1 PO1 PL1 DI1 RI1 CN1 CN2 CN3 CN4




theorem canonOf_spec {w : World} {G : Pin} {p : Nat} {L R B : Value} {mm : PM} {q : PSt} (hP : Pins G w) (hpk : Pk 56 3 G w p L R B mm q) (hok : PoolOk q) {x : Value} {fs : List Nd} (hx : RSl eNode G x fs) (hf : FormOk fs) (hl : 2 * (q.ns.length + fs.length) < 1048576) (hf1 : 1 ≤ fs.length) :
  Calls Tryz.prog 41 [(.pointer (some ⟨p, 0, none⟩)), (.agg [x].toArray)].toArray w fun e w' => ∃ (z : Int) (L' R' B' : Value) (q' : PSt) (G' : Pin), e = .returned (vJ z) ∧ Pk 56 3 G' w' p L' R' B' mm q' ∧ PoolOk q' ∧ PX q q' ∧ PLo w p L R B mm L' R' B' ∧ Ext (inP p L R B mm) G w G' w' ∧ PlaceOk q' z ∧ CanonG (pd q' z) ∧ eqG (pd q' z) (gOf fs) ∧ q'.ns.length ≤ 2 * (q.ns.length + fs.length) := by
 refine zV (n := 10) Tryz.func41 Tryz.ntmps41 rfl rfl ?_
 have g : Ext (inP p L R B mm) G w G w := Ext.refl hP
 have hpin : PIn w (inP p L R B mm) p L R B mm := PIn.self
 have a6 : (q.ns.map Nd.l).length = q.ns.length ∧ (q.ns.map Nd.r).length = q.ns.length := ⟨List.length_map .., List.length_map ..⟩
 have a7 : q.bs.length = q.ns.length ∧ q.ns.length ≤ 1048576 := ⟨hok.ar.ok.len, hok.ar.ok.lim⟩
 have hfl := hf.len
 refine zB (zC ?_)
 refine qI rfl (xG [x] (v := (.agg [x].toArray)) rfl rfl g.pins (fun o w4 ad ae s t => ?_))
 have af := g.step s t
 have ag := hpk.below t s
 have ah := hpk.new (x := (some o)) (fun k hk => by rw [(congrArg some ad)] at hk; cases hk; exact Nat.le_refl _)
 have ai : w.heap.size ≤ o := by have := g.size; omega
 obtain ⟨a9, y, c, aj, ak⟩ := ae.shut af ai
 have al := ag.more y ak ah
 refine qM (vJ 0) ?_
 refine qe (zA (zB (zC ?_)))
 refine qM (.pointer (some ⟨p, 0, none⟩)) ?_
 refine qM (.pointer (some ⟨p, 0, none⟩)) ?_
 refine qD rfl (yH (cs := [x]) ag32 sz32 rfl (fun j u hj => c.pins _ _ _ (aj _ _ (by simpa using hj)))) (qI rfl (zH (vs := [(.pointer (some ⟨p, 0, none⟩)), (.agg [x].toArray)]) Tryz.func69 nm69 rfl rfl rfl ?_))
 refine Calls.mono (root_spec c.pins al hok (hx.mono y) hf (by omega) hf1) ?_
 rintro _ ba ⟨am, bb, bc, bd, a, be, rfl, an, d, aa, ao, ap, h, aq, bf⟩
 refine ⟨_, rfl, ?_⟩
 have i := c.trans ap hpin
 have ab := PIn.call hpin ao c.size
 have bg := aa.len
 have bh : (a.ns.map Nd.l).length = a.ns.length ∧ (a.ns.map Nd.r).length = a.ns.length := ⟨List.length_map .., List.length_map ..⟩
 have bi : a.bs.length = a.ns.length ∧ a.ns.length ≤ 1048576 := ⟨d.ar.ok.len, d.ar.ok.lim⟩
 refine qI rfl (zH (vs := [(.pointer (some ⟨p, 0, none⟩)), (vJ am)]) Tryz.func68 nm68 rfl rfl rfl ?_)
 refine Calls.mono (canon_spec i.pins an d (N := a.ns.length) h h.2 (by have := unc_le (q := a) a.ns.length; omega)) ?_
 rintro _ bj ⟨ac, au, av, aw, b, ax, rfl, ay, f, m, az, a0, a1, a2, a3, bk⟩
 refine ⟨_, rfl, ?_⟩
 have a4 := i.trans a0 ab
 have a5 := PIn.call ab az i.size
 have bl := m.len
 have bm : (b.ns.map Nd.l).length = b.ns.length ∧ (b.ns.map Nd.r).length = b.ns.length := ⟨List.length_map .., List.length_map ..⟩
 have bn : b.bs.length = b.ns.length ∧ b.ns.length ≤ 1048576 := ⟨f.ar.ok.len, f.ar.ok.lim⟩
 refine qM (vJ ac) ?_
 refine qe (zA ?_)
 refine wp_ret (zO (zP (v := (vJ ac)) rfl rfl rfl ?_))
 have hce := a3
 rw [((m.pd d f h).trans aq)] at hce
 have hun := unc_le (q := a) a.ns.length
 exact ⟨_, au, av, aw, b, ax, rfl, ay, f, (PX.trans aa m), PIn.lo a5 rfl, a4, a1, a2, hce, (by omega)⟩

end AS2
end Go.Proofs.YtakkjmlnmcemaaaGreatDoor

set_option maxRecDepth 20000
set_option maxHeartbeats 2000000
namespace Go.Proofs.YtakkjmlnmcemaaaGreatDoor
namespace SX1
open Go.RowKit Go.GL Go.Proofs
open B1 C1 D1 E1 K1 PO1 PL1 NU1 NU2 NU3 NB4 VA1 VA2 VA3 SW1







theorem pl27 : (Tryz.prog.underlying 27).bind (placesD Tryz.prog) = some [(0, 1), (1, 1)] := by kernel_rfl




theorem switchOf_spec {p : Nat} {L R B : Value} {mm : PM} {w : World} {G : Pin} {q : PSt} {a : Int} (hP : Pins G w) (hpk : Pk 56 3 G w p L R B mm q) (hok : PoolOk q) (ha : PlaceOk q a) (hc : CanonG (pd q a)) :
  Calls Tryz.prog 40 [(.pointer (some ⟨p, 0, none⟩)), (vJ a)].toArray w fun e w' => ∃ (q' : PSt) (G' : Pin), e = .returned (.tuple #[(.agg [.int .i64 (swL (pd q a)).1, .int .i64 (swL (pd q a)).2].toArray), (.agg [.int .i64 (swR (pd q a)).1, .int .i64 (swR (pd q a)).2].toArray), .bool (swcB (pd q a))]) ∧ Pk 56 3 G' w' p L R B mm q' ∧ PoolOk q' ∧ PX q q' ∧ (q'.ns = q.ns ∧ q'.bs = q.bs) ∧ Ext (inO (some mm.o)) G w G' w' := by
 refine zV (n := 79) Tryz.func40 Tryz.ntmps40 rfl rfl ?_
 have b4 : Ext (inO (some mm.o)) G w G w := Ext.refl hP
 have hpin : PIn w (inP p L R B mm) p L R B mm := PIn.self
 have g6 : (q.ns.map Nd.l).length = q.ns.length ∧ (q.ns.map Nd.r).length = q.ns.length := ⟨List.length_map .., List.length_map ..⟩
 have g7 : q.bs.length = q.ns.length ∧ q.ns.length ≤ 1048576 := ⟨hok.ar.ok.len, hok.ar.ok.lim⟩
 have g8 := ha.1
 have g9 := ha.2
 have hb := hok.ar.ok.lens (a).toNat (by omega)
 have hopl := (xC hok.ar.opts (show (a).toNat < q.ns.length by omega)).1
 have hopr := (xC hok.ar.opts (show (a).toNat < q.ns.length by omega)).2
 have hnp := num_pool hok ha hc
 refine zB (zC ?_)
 refine qI rfl (yM [(vJ 0), (vJ 0)] zr27 rfl b4.pins (fun b3 w4 em c3 c4 c5 => ?_))
 have b5 := b4.step c4 c5
 have c6 := hpk.below c5 c4
 have al := hpk.new (x := (some b3)) (fun k hk => by rw [(congrArg some em)] at hk; cases hk; exact Nat.le_refl _)
 have ay : w.heap.size ≤ b3 := by have := b4.size; omega
 refine qI rfl (yM [(vJ 0), (vJ 0)] zr27 rfl b5.pins (fun ba bb c7 en c8 b6 => ?_))
 have bo := b5.step c8 b6
 have eo := c3.below b6
 have bc := c6.below b6 c8
 have ae : Apart (some ba) (some b3) := zJ (congrArg some c7) c3.lt
 have am := c6.new (x := (some ba)) (fun k hk => by rw [(congrArg some c7)] at hk; cases hk; exact Nat.le_refl _)
 have az : w.heap.size ≤ ba := by have := b5.size; omega
 refine qM (.bool false) ?_
 refine qe (zA (zB ?_))
 have ep := Gadd.pins bo.pins L
 have eq := Gadd.pins bo.pins R
 have er := bc.ol.read
 have es := bc.rr.read
 refine yZ (S := fun wz => BxR wz p [L, R, B, (.map (some mm.f)), (.map (some mm.o)), (.map (some mm.c)), (.map (some mm.s)), (.map (some mm.n))] ∧ Pins (Gadd G bb L) wz ∧ Pins (Gadd G bb R) wz) (last := 16) (by kernel_rfl) rfl ?_
 have a0 : Below bb.heap.size bb bb.drew := (Below.refl _ _).drew
 have c9 := bo.pins.below a0
 have a1 := bo.step c9 a0
 have b7 := eo.below a0
 have b8 := en.below a0
 have ab := bc.below a0 c9
 have ac := ep.below a0
 have ad := eq.below a0
 refine dT (i := 0) rfl rfl (by kernel_rfl) (fun _ _ => zQ (v := (.pointer (some ⟨p, 0, none⟩))) rfl) ⟨ab.bx.reads, ac, ad⟩ ?_
 refine dT (i := 1) rfl rfl (by kernel_rfl) (fun _ _ => yW rfl) ⟨ab.bx.reads, ac, ad⟩ ?_
 refine dT (i := 2) rfl rfl (by kernel_rfl) (fun _ _ => zK (k := 0) rfl Tryz.underlying97 rfl nz95 rfl) ⟨ab.bx.reads, ac, ad⟩ ?_
 refine dT (i := 3) rfl rfl (by kernel_rfl) (fun _ hS => zL (u := L) ag95 rfl (hS.1 0 _ rfl)) ⟨ab.bx.reads, ac, ad⟩ ?_
 refine dT (i := 4) rfl rfl (by kernel_rfl) (fun _ _ => zQ (v := (vJ a)) rfl) ⟨ab.bx.reads, ac, ad⟩ ?_
 refine dT (i := 5) rfl rfl (by kernel_rfl) (fun _ _ => zF Tryz.underlying95 sz56 (v := L) rfl rfl er (by omega) (by omega)) ⟨ab.bx.reads, ac, ad⟩ ?_
 obtain ⟨bd, be, et⟩ := nm_sl (bc.ol.at (z := a) (by omega) (by omega)) (j := (a).toNat) rfl
 rw [jT] at be
 have he := be.max
 refine dT (i := 6) rfl rfl (by kernel_rfl) (fun _ hS => et ag56 rfl hS.2.1) ⟨ab.bx.reads, ac, ad⟩ ?_
 refine dT (i := 7) rfl rfl (by kernel_rfl) (fun _ _ => zQ (v := (.pointer (some ⟨p, 0, none⟩))) rfl) ⟨ab.bx.reads, ac, ad⟩ ?_
 refine dT (i := 8) rfl rfl (by kernel_rfl) (fun _ _ => yW rfl) ⟨ab.bx.reads, ac, ad⟩ ?_
 refine dT (i := 9) rfl rfl (by kernel_rfl) (fun _ _ => zK (k := 1) rfl Tryz.underlying97 rfl nz95 rfl) ⟨ab.bx.reads, ac, ad⟩ ?_
 refine dT (i := 10) rfl rfl (by kernel_rfl) (fun _ hS => zL (u := R) ag95 rfl (hS.1 1 _ rfl)) ⟨ab.bx.reads, ac, ad⟩ ?_
 refine dT (i := 11) rfl rfl (by kernel_rfl) (fun _ _ => zQ (v := (vJ a)) rfl) ⟨ab.bx.reads, ac, ad⟩ ?_
 refine dT (i := 12) rfl rfl (by kernel_rfl) (fun _ _ => zF Tryz.underlying95 sz56 (v := R) rfl rfl es (by omega) (by omega)) ⟨ab.bx.reads, ac, ad⟩ ?_
 obtain ⟨bf, bg, eu⟩ := nm_sl (bc.rr.at (z := a) (by omega) (by omega)) (j := (a).toNat) rfl
 rw [jS] at bg
 have hf := bg.max
 refine dT (i := 13) rfl rfl (by kernel_rfl) (fun _ hS => eu ag56 rfl hS.2.2) ⟨ab.bx.reads, ac, ad⟩ ?_
 refine dT (i := 14) rfl rfl (by kernel_rfl) (fun _ _ => xW (v := bd) rfl) ⟨ab.bx.reads, ac, ad⟩ ?_
 refine dT (i := 15) rfl rfl (by kernel_rfl) (fun _ _ => xW (v := bf) rfl) ⟨ab.bx.reads, ac, ad⟩ ?_
 refine yQ (by kernel_rfl) (zA (zB (zB (zC ?_))))
 refine qM bd ?_
 refine qD rfl (zM Tryz.underlying56 (v := bd) rfl be) (qD rfl (jG rfl rfl) (qM (.bool (decide (((((q.ns.getD (a).toNat default).l).length : Int) : Int) ≠ 1))) ?_))
 refine qbd (p := ((((q.ns.getD (a).toNat default).l).length : Int) : Int) ≠ 1) (t := 32) rfl (fun ev => ?_) (fun ev => ?_)
 refine qW ?_
 refine qW ?_
 refine qW ?_
 refine qD rfl (yD (v := (.bool true)) rfl rfl) (qe (zA ?_))
 refine xY rfl rfl (zB (zC ?_))
 refine qD rfl (yG [(vJ 0), (vJ 0)] [(vJ 0), (vJ 0)] [] Tryz.underlying27 zr27 rfl pl27 rfl (fun _ h => by cases h) rfl) (qD rfl (yG [(vJ 0), (vJ 0)] [(vJ 0), (vJ 0)] [] Tryz.underlying27 zr27 rfl pl27 rfl (fun _ h => by cases h) rfl) (q0 rfl rfl rfl (yF (cs' := [(vJ 0), (vJ 0)]) (us := [(vJ 0), (vJ 0)]) (v := (.agg [(vJ 0), (vJ 0)].toArray)) sz27 rfl rfl rfl (yK (by rfl) (by rfl)) a1.pins b7 (Nat.le_of_ble_eq_true rfl) rfl (fun hg ew da b9 hh => ?_))))
 have db := a1.write da b9 ((zS ay))
 have ex := b8.keptA b9 ae
 have ey := ab.kept b9 da al
 refine q0 rfl rfl rfl (yF (cs' := [(vJ 0), (vJ 0)]) (us := [(vJ 0), (vJ 0)]) (v := (.agg [(vJ 0), (vJ 0)].toArray)) sz27 rfl rfl rfl (yK (by rfl) (by rfl)) db.pins ex (Nat.le_of_ble_eq_true rfl) rfl (fun hl ez dc ca hm => ?_))
 have e0 := db.write dc ca ((zS az))
 have e4 := ew.keptA ca ae.symm
 have e5 := ey.kept ca dc am
 refine qM (.bool false) ?_
 refine qe (zA ?_)
 refine wp_ret (zO (xS (cs := [(vJ 0), (vJ 0)]) (ds := [(vJ 0), (vJ 0)]) (v := (.bool false)) rfl rfl rfl rfl rfl rfl rfl ag27 sz27 rfl (fun j u hj => by rw [Nat.zero_add]; exact e4.cell hj) (fun j u hj => by rw [Nat.zero_add]; exact ez.cell hj) ?_))
 obtain ⟨e1, e2, e3⟩ := swc_no (c := pd q a) (fun g => by have h9 := (sw_pool hok ha).1 g; omega)
 rw [e1, e2, e3]
 exact ⟨q, _, rfl, e5, hok, (PX.refl _), ⟨rfl, rfl⟩, e0⟩
 refine qN (zQ (v := bf) rfl) ?_
 refine qN (zM Tryz.underlying56 (v := bf) rfl bg) ?_
 refine qN (jG rfl rfl) ?_
 refine qD rfl (zY (v := (.bool (decide (((((q.ns.getD (a).toNat default).r).length : Int) : Int) ≠ 1)))) rfl rfl) (qe (zA ?_))
 refine yA (p := ((((q.ns.getD (a).toNat default).r).length : Int) : Int) ≠ 1) rfl rfl (fun e7 => ?_) (fun e7 => ?_)
 refine zB (zC ?_)
 refine qD rfl (yG [(vJ 0), (vJ 0)] [(vJ 0), (vJ 0)] [] Tryz.underlying27 zr27 rfl pl27 rfl (fun _ h => by cases h) rfl) (qD rfl (yG [(vJ 0), (vJ 0)] [(vJ 0), (vJ 0)] [] Tryz.underlying27 zr27 rfl pl27 rfl (fun _ h => by cases h) rfl) (q0 rfl rfl rfl (yF (cs' := [(vJ 0), (vJ 0)]) (us := [(vJ 0), (vJ 0)]) (v := (.agg [(vJ 0), (vJ 0)].toArray)) sz27 rfl rfl rfl (yK (by rfl) (by rfl)) a1.pins b7 (Nat.le_of_ble_eq_true rfl) rfl (fun hn e8 dd cb hp => ?_))))
 have de := a1.write dd cb ((zS ay))
 have e9 := b8.keptA cb ae
 have fa := ab.kept cb dd al
 refine q0 rfl rfl rfl (yF (cs' := [(vJ 0), (vJ 0)]) (us := [(vJ 0), (vJ 0)]) (v := (.agg [(vJ 0), (vJ 0)].toArray)) sz27 rfl rfl rfl (yK (by rfl) (by rfl)) de.pins e9 (Nat.le_of_ble_eq_true rfl) rfl (fun hq fb df cc hr => ?_))
 have fc := de.write df cc ((zS az))
 have fd := e8.keptA cc ae.symm
 have fe := fa.kept cc df am
 refine qM (.bool false) ?_
 refine qe (zA ?_)
 refine wp_ret (zO (xS (cs := [(vJ 0), (vJ 0)]) (ds := [(vJ 0), (vJ 0)]) (v := (.bool false)) rfl rfl rfl rfl rfl rfl rfl ag27 sz27 rfl (fun j u hj => by rw [Nat.zero_add]; exact fd.cell hj) (fun j u hj => by rw [Nat.zero_add]; exact fb.cell hj) ?_))
 obtain ⟨e1, e2, e3⟩ := swc_no (c := pd q a) (fun g => by have h9 := (sw_pool hok ha).1 g; omega)
 rw [e1, e2, e3]
 exact ⟨q, _, rfl, fe, hok, (PX.refl _), ⟨rfl, rfl⟩, fc⟩
 refine wp_skip (zA (zB (zC ?_)))
 refine qM (.pointer (some ⟨p, 0, none⟩)) ?_
 refine qM bd ?_
 refine qD rfl (zF Tryz.underlying56 sz3 (v := bd) rfl rfl be (by omega) (by omega)) (qD rfl (zE (r := ((q.ns.getD (a).toNat default).l).getD 0 0) rfl ag3 (z := 0) rfl be a1.pins (by omega) (by omega)) ?_)
 have dg : (q.ns.getD (a).toNat default).l.getD 0 0 ∈ (q.ns.getD (a).toNat default).l := yC (show 0 < (q.ns.getD (a).toNat default).l.length by omega)
 have hs := hopl _ dg
 refine qI rfl (zH (vs := [(.pointer (some ⟨p, 0, none⟩)), (vJ (((q.ns.getD (a).toNat default).l).getD 0 0))]) Tryz.func66 nm66 rfl rfl rfl ?_)
 refine Calls.mono (valueOf_spec a1.pins ab hok ⟨by omega, by rw [(show q.ns = q.ns ∧ q.bs = q.bs from ⟨rfl, rfl⟩).1]; omega⟩ (by rw [xJ (show q.ns = q.ns ∧ q.bs = q.bs from ⟨rfl, rfl⟩)]; exact hc.left ((lo_pd hok ha).2 ⟨_, dg, rfl⟩))) ?_
 rintro _ ht ⟨aj, hu, bp, dh, cd, a4, an, bq⟩
 obtain ⟨b, ap⟩ : ∃ x : Int, x = vgT (pd q (((q.ns.getD (a).toNat default).l).getD 0 0)) := ⟨_, rfl⟩
 rw [← ap] at bp
 obtain ⟨d, aq⟩ : ∃ x : Int, x = vgP (pd q (((q.ns.getD (a).toNat default).l).getD 0 0)) := ⟨_, rfl⟩
 rw [← aq] at bp
 obtain ⟨bh, ao⟩ : ∃ x : Bool, x = vgB (pd q (((q.ns.getD (a).toNat default).l).getD 0 0)) := ⟨_, rfl⟩
 rw [← ao] at bp
 subst bp
 refine ⟨_, rfl, ?_⟩
 have ce := a1.trans bq (fun i hi => xK i hi)
 have di := b7.extS bq (xU (NP.ho al))
 have dj := b8.extS bq (xU (NP.ho am))
 have hv := a4.len
 have hw : (aj.ns.map Nd.l).length = aj.ns.length ∧ (aj.ns.map Nd.r).length = aj.ns.length := ⟨List.length_map .., List.length_map ..⟩
 have hx : aj.bs.length = aj.ns.length ∧ aj.ns.length ≤ 1048576 := ⟨cd.ar.ok.len, cd.ar.ok.lim⟩
 have hy := congrArg List.length an.1
 have cf : pd q (((q.ns.getD (a).toNat default).l).getD 0 0) = pd q (((q.ns.getD (a).toNat default).l).getD 0 0) := xJ (show q.ns = q.ns ∧ q.bs = q.bs from ⟨rfl, rfl⟩)
 rw [cf] at ap
 rw [cf] at aq
 rw [cf] at ao
 refine qM (.tuple #[(.agg [(vJ b), (vJ d)].toArray), (.bool bh)]) ?_
 refine qD rfl (yE (v := (.agg [(vJ b), (vJ d)].toArray)) rfl rfl) (qD rfl (yE (v := (.bool bh)) rfl rfl) (qI rfl (yM [(vJ 0), (vJ 0)] zr27 rfl ce.pins (fun br hz cg ff dk bt => ?_))))
 have dl := ce.step dk bt
 have fg := di.below bt
 have fh := dj.below bt
 have fi := dh.below bt dk
 have dm : Apart (some br) (some b3) := zJ (congrArg some cg) di.lt
 have dn : Apart (some br) (some ba) := zJ (congrArg some cg) dj.lt
 have dp := dh.new (x := (some br)) (fun k hk => by rw [(congrArg some cg)] at hk; cases hk; exact Nat.le_refl _)
 have dq : w.heap.size ≤ br := by have := ce.size; omega
 refine q0 rfl rfl rfl (yF (cs' := [(vJ b), (vJ d)]) (us := [(vJ b), (vJ d)]) (v := (.agg [(vJ b), (vJ d)].toArray)) sz27 rfl rfl rfl (yK (by rfl) (by rfl)) dl.pins ff (Nat.le_of_ble_eq_true rfl) rfl (fun h0 fj dr bu h1 => ?_))
 have fk := dl.write dr bu ((zS dq))
 have fl := fg.keptA bu dm.symm
 have fm := fh.keptA bu dn.symm
 have fn := fi.kept bu dr dp
 obtain ⟨h2, dt, ch, du, ci⟩ := fj.shut fk dq
 have fo := fl.moreA ci dm.symm
 have fp := fm.moreA ci dn.symm
 have fq := fn.more dt ci dp
 refine qM (.bool bh) ?_
 refine qe (zA (zB (zC ?_)))
 refine qM (.pointer (some ⟨p, 0, none⟩)) ?_
 refine qM bf ?_
 refine qD rfl (zF Tryz.underlying56 sz3 (v := bf) rfl rfl bg (by omega) (by omega)) (qD rfl (zE (r := ((q.ns.getD (a).toNat default).r).getD 0 0) rfl ag3 (z := 0) rfl bg (Pins.of_le ch.pins (Pin.le_trans bq.le dt)) (by omega) (by omega)) ?_)
 have dv : (q.ns.getD (a).toNat default).r.getD 0 0 ∈ (q.ns.getD (a).toNat default).r := yC (show 0 < (q.ns.getD (a).toNat default).r.length by omega)
 have h3 := hopr _ dv
 refine qI rfl (zH (vs := [(.pointer (some ⟨p, 0, none⟩)), (vJ (((q.ns.getD (a).toNat default).r).getD 0 0))]) Tryz.func66 nm66 rfl rfl rfl ?_)
 refine Calls.mono (valueOf_spec ch.pins fq cd ⟨by omega, by rw [an.1]; omega⟩ (by rw [xJ an]; exact hc.right ((ro_pd hok ha).2 ⟨_, dv, rfl⟩))) ?_
 rintro _ h4 ⟨ai, h5, bv, dw, a2, a5, a6, bi⟩
 obtain ⟨m, au⟩ : ∃ x : Int, x = vgT (pd aj (((q.ns.getD (a).toNat default).r).getD 0 0)) := ⟨_, rfl⟩
 rw [← au] at bv
 obtain ⟨aa, av⟩ : ∃ x : Int, x = vgP (pd aj (((q.ns.getD (a).toNat default).r).getD 0 0)) := ⟨_, rfl⟩
 rw [← av] at bv
 obtain ⟨a7, aw⟩ : ∃ x : Bool, x = vgB (pd aj (((q.ns.getD (a).toNat default).r).getD 0 0)) := ⟨_, rfl⟩
 rw [← aw] at bv
 subst bv
 refine ⟨_, rfl, ?_⟩
 have cj := ch.trans bi (fun i hi => xK i hi)
 have dx := fo.extS bi (xU (NP.ho al))
 have dy := fp.extS bi (xU (NP.ho am))
 have h6 := a5.len
 have h7 : (ai.ns.map Nd.l).length = ai.ns.length ∧ (ai.ns.map Nd.r).length = ai.ns.length := ⟨List.length_map .., List.length_map ..⟩
 have h8 : ai.bs.length = ai.ns.length ∧ ai.ns.length ≤ 1048576 := ⟨a2.ar.ok.len, a2.ar.ok.lim⟩
 have ia := congrArg List.length a6.1
 have ck : pd aj (((q.ns.getD (a).toNat default).r).getD 0 0) = pd q (((q.ns.getD (a).toNat default).r).getD 0 0) := xJ an
 rw [ck] at au
 rw [ck] at av
 rw [ck] at aw
 refine qM (.tuple #[(.agg [(vJ m), (vJ aa)].toArray), (.bool a7)]) ?_
 refine qD rfl (yE (v := (.agg [(vJ m), (vJ aa)].toArray)) rfl rfl) (qD rfl (yE (v := (.bool a7)) rfl rfl) (qI rfl (yM [(vJ 0), (vJ 0)] zr27 rfl cj.pins (fun bw ib cl fr dz bz => ?_))))
 have d0 := cj.step dz bz
 have fs := dx.below bz
 have ft := dy.below bz
 have fu := dw.below bz dz
 have d1 : Apart (some bw) (some b3) := zJ (congrArg some cl) dx.lt
 have d2 : Apart (some bw) (some ba) := zJ (congrArg some cl) dy.lt
 have d3 := dw.new (x := (some bw)) (fun k hk => by rw [(congrArg some cl)] at hk; cases hk; exact Nat.le_refl _)
 have d4 : w.heap.size ≤ bw := by have := cj.size; omega
 refine q0 rfl rfl rfl (yF (cs' := [(vJ m), (vJ aa)]) (us := [(vJ m), (vJ aa)]) (v := (.agg [(vJ m), (vJ aa)].toArray)) sz27 rfl rfl rfl (yK (by rfl) (by rfl)) d0.pins fr (Nat.le_of_ble_eq_true rfl) rfl (fun ic fv d5 b0 ie => ?_))
 have fw := d0.write d5 b0 ((zS d4))
 have fx := fs.keptA b0 d1.symm
 have fy := ft.keptA b0 d2.symm
 have fz := fu.kept b0 d5 d3
 obtain ⟨ig, cm, b1, d6, cn⟩ := fv.shut fw d4
 have f0 := fx.moreA cn d1.symm
 have f1 := fy.moreA cn d2.symm
 have f2 := fz.more cm cn d3
 refine qM (.bool a7) ?_
 refine qe (zA (zB (zB (zC ?_))))
 refine qD rfl (yH (cs := [(vJ b), (vJ d)]) ag27 sz27 rfl (fun j u hj => (Pins.of_le b1.pins (Pin.le_trans bi.le cm)) _ _ _ (du _ _ (by simpa using hj)))) (qD rfl (yH (cs := [(vJ m), (vJ aa)]) ag27 sz27 rfl (fun j u hj => b1.pins _ _ _ (d6 _ _ (by simpa using hj)))) (qI rfl (zH (vs := [(.agg [(vJ b), (vJ d)].toArray), (.agg [(vJ m), (vJ aa)].toArray)]) Tryz.func67 nm67 rfl rfl rfl ?_)))
 refine Calls.mono (compareDyadic_spec (t := b) (z := d) (s := m) (y := aa) b1.pins) ?_
 rintro _ co ⟨f3, rfl, a8⟩
 refine ⟨_, rfl, ?_⟩
 have ak := b1.tr a8
 have bj := f0.ext a8
 have bk := f1.ext a8
 have bl := f2.ext a8
 refine qM (.tuple #[(vJ (cdI b d m aa)), (.bool (cdB b d m aa))]) ?_
 refine qD rfl (yE (v := (vJ (cdI b d m aa))) rfl rfl) (qD rfl (yE (v := (.bool (cdB b d m aa))) rfl rfl) (qM (vJ (cdI b d m aa)) ?_))
 refine qM (.bool (cdB b d m aa)) ?_
 refine qe (zA (zB (zC ?_)))
 refine qM (.bool bh) ?_
 refine qD rfl (xE rfl) (qM (.bool (!bh)) ?_)
 refine qbn (t := 63) rfl (fun ax => ?_) (fun ax => ?_)
 refine qN (zQ (v := (.bool a7)) rfl) ?_
 refine qN (xE rfl) ?_
 refine qD rfl (zY (v := (.bool (!a7))) rfl rfl) (qM (.bool (!a7)) ?_)
 refine qbn (t := 67) rfl (fun a3 => ?_) (fun a3 => ?_)
 refine qN (zQ (v := (.bool (cdB b d m aa))) rfl) ?_
 refine qN (xE rfl) ?_
 refine qD rfl (zY (v := (.bool (!(cdB b d m aa)))) rfl rfl) (qM (.bool (!(cdB b d m aa))) ?_)
 refine qbn (t := 71) rfl (fun cp => ?_) (fun cp => ?_)
 refine qN (zQ (v := (vJ (cdI b d m aa))) rfl) ?_
 refine qN (yV rfl rfl) ?_
 refine qD rfl (zY (v := (.bool (decide ((cdI b d m aa : Int) < 0)))) rfl rfl) (qe (zA ?_))
 refine yA (p := (cdI b d m aa : Int) < 0) rfl rfl (fun bm => ?_) (fun bm => ?_)
 refine zB (zC ?_)
 refine qD rfl (yG [(vJ 0), (vJ 0)] [(vJ 0), (vJ 0)] [] Tryz.underlying27 zr27 rfl pl27 rfl (fun _ h => by cases h) rfl) (qD rfl (yG [(vJ 0), (vJ 0)] [(vJ 0), (vJ 0)] [] Tryz.underlying27 zr27 rfl pl27 rfl (fun _ h => by cases h) rfl) (q0 rfl rfl rfl (yF (cs' := [(vJ 0), (vJ 0)]) (us := [(vJ 0), (vJ 0)]) (v := (.agg [(vJ 0), (vJ 0)].toArray)) sz27 rfl rfl rfl (yK (by rfl) (by rfl)) ak.pins bj (Nat.le_of_ble_eq_true rfl) rfl (fun ih f4 d7 cq ii => ?_))))
 have d8 := ak.write d7 cq ((zS ay))
 have f5 := bk.keptA cq ae
 have f6 := bl.kept cq d7 al
 refine q0 rfl rfl rfl (yF (cs' := [(vJ 0), (vJ 0)]) (us := [(vJ 0), (vJ 0)]) (v := (.agg [(vJ 0), (vJ 0)].toArray)) sz27 rfl rfl rfl (yK (by rfl) (by rfl)) d8.pins f5 (Nat.le_of_ble_eq_true rfl) rfl (fun ij f7 d9 cr ik => ?_))
 have f8 := d8.write d9 cr ((zS az))
 have f9 := f4.keptA cr ae.symm
 have ga := f6.kept cr d9 am
 refine qM (.bool false) ?_
 refine qe (zA ?_)
 refine wp_ret (zO (xS (cs := [(vJ 0), (vJ 0)]) (ds := [(vJ 0), (vJ 0)]) (v := (.bool false)) rfl rfl rfl rfl rfl rfl rfl ag27 sz27 rfl (fun j u hj => by rw [Nat.zero_add]; exact f9.cell hj) (fun j u hj => by rw [Nat.zero_add]; exact f7.cell hj) ?_))
 have hsh := pd_lr hok ha ⟨by omega, by omega⟩ (by omega) (by omega)
 have hgl : GoodD b d := by rw [ap, aq]; exact qQ (by rw [← ao]; exact ax)
 have hgr : GoodD m aa := by rw [au, av]; exact qQ (by rw [← aw]; exact a3)
 have hcd := cd_yes hgl hgr
 rw [hcd.2] at bm
 have hls : lsD (b, d) (m, aa) = true := decide_eq_true (cmp_lt.1 bm)
 have hsd : sdB (pd q ((q.ns.getD (a).toNat default).l.getD 0 0)) (pd q ((q.ns.getD (a).toNat default).r.getD 0 0)) = false := by unfold sdB; rw [← ao, ← aw, ← ap, ← aq, ← au, ← av]; rw [ax, a3, hls]; rfl
 obtain ⟨e1, e2, e3⟩ := swc_bad hsd
 rw [hsh, e1, e2, e3]
 exact ⟨ai, _, rfl, ga, a2, (PX.trans a4 a5), (zN an a6), f8⟩
 refine wp_skip (zA (zB ?_))
 refine yZ (S := fun wz => Pins f3 wz) (last := 5) (by kernel_rfl) rfl ?_
 have bn : Below co.heap.size co co.drew := (Below.refl _ _).drew
 have ea := ak.pins.below bn
 have b2 := ak.step ea bn
 have gb := bj.below bn
 have gc := bk.below bn
 have gd := bl.below bn ea
 refine dT (i := 0) rfl rfl (by kernel_rfl) (fun _ hS => yH (cs := [(vJ b), (vJ d)]) ag27 sz27 rfl (fun j u hj => (Pins.of_le hS (Pin.le_trans (Pin.le_trans bi.le cm) a8.le)) _ _ _ (du _ _ (by simpa using hj)))) b2.pins ?_
 refine dT (i := 1) rfl rfl (by kernel_rfl) (fun _ hS => yH (cs := [(vJ m), (vJ aa)]) ag27 sz27 rfl (fun j u hj => (Pins.of_le hS a8.le) _ _ _ (d6 _ _ (by simpa using hj)))) b2.pins ?_
 refine dO (i := 2) (qB (i := 2) rfl rfl rfl (zD rfl _) (yF (cs' := [(vJ b), (vJ d)]) (us := [(vJ b), (vJ d)]) (v := (.agg [(vJ b), (vJ d)].toArray)) sz27 rfl rfl rfl (yK (by rfl) (by rfl)) b2.pins gb (Nat.le_of_ble_eq_true rfl) rfl (fun il ge eb ct im => ?_)))
 have cu := b2.write eb ct ((zS ay))
 have gf := gc.keptA ct ae
 have gg := gd.kept ct eb al
 refine ⟨fun _ => cu.pins, ?_⟩
 refine dO (i := 3) (qB (i := 3) rfl rfl rfl (zD rfl _) (yF (cs' := [(vJ m), (vJ aa)]) (us := [(vJ m), (vJ aa)]) (v := (.agg [(vJ m), (vJ aa)].toArray)) sz27 rfl rfl rfl (yK (by rfl) (by rfl)) cu.pins gf (Nat.le_of_ble_eq_true rfl) rfl (fun io gh ec cv ip => ?_)))
 have cw := cu.write ec cv ((zS az))
 have gi := ge.keptA cv ae.symm
 have gj := gg.kept cv ec am
 refine ⟨fun _ => cw.pins, ?_⟩
 refine dM 4 (.bool true) cw.pins ?_
 refine yQ (by kernel_rfl) (zA (wp_ret (zO (xS (cs := [(vJ b), (vJ d)]) (ds := [(vJ m), (vJ aa)]) (v := (.bool true)) rfl rfl rfl rfl rfl rfl rfl ag27 sz27 rfl (fun j u hj => by rw [Nat.zero_add]; exact gi.cell hj) (fun j u hj => by rw [Nat.zero_add]; exact gh.cell hj) ?_))))
 have hsh := pd_lr hok ha ⟨by omega, by omega⟩ (by omega) (by omega)
 have hgl : GoodD b d := by rw [ap, aq]; exact qQ (by rw [← ao]; exact ax)
 have hgr : GoodD m aa := by rw [au, av]; exact qQ (by rw [← aw]; exact a3)
 have hcd := cd_yes hgl hgr
 rw [hcd.2] at bm
 have hls : lsD (b, d) (m, aa) = false := decide_eq_false (fun g => bm (cmp_lt.2 g))
 have hsd : sdB (pd q ((q.ns.getD (a).toNat default).l.getD 0 0)) (pd q ((q.ns.getD (a).toNat default).r.getD 0 0)) = true := by unfold sdB; rw [← ao, ← aw, ← ap, ← aq, ← au, ← av]; rw [ax, a3, hls]; rfl
 obtain ⟨e1, e2, e3⟩ := swc_yes hsd
 rw [hsh, e1, e2, e3]
 rw [← ap, ← aq, ← au, ← av]
 exact ⟨ai, _, rfl, gj, a2, (PX.trans a4 a5), (zN an a6), cw⟩
 refine qW ?_
 refine qW ?_
 refine qD rfl (yD (v := (.bool true)) rfl rfl) (qe (zA ?_))
 refine xY rfl rfl (zB (zC ?_))
 refine qD rfl (yG [(vJ 0), (vJ 0)] [(vJ 0), (vJ 0)] [] Tryz.underlying27 zr27 rfl pl27 rfl (fun _ h => by cases h) rfl) (qD rfl (yG [(vJ 0), (vJ 0)] [(vJ 0), (vJ 0)] [] Tryz.underlying27 zr27 rfl pl27 rfl (fun _ h => by cases h) rfl) (q0 rfl rfl rfl (yF (cs' := [(vJ 0), (vJ 0)]) (us := [(vJ 0), (vJ 0)]) (v := (.agg [(vJ 0), (vJ 0)].toArray)) sz27 rfl rfl rfl (yK (by rfl) (by rfl)) ak.pins bj (Nat.le_of_ble_eq_true rfl) rfl (fun iq gk ed cx ir => ?_))))
 have ee := ak.write ed cx ((zS ay))
 have gl := bk.keptA cx ae
 have gm := bl.kept cx ed al
 refine q0 rfl rfl rfl (yF (cs' := [(vJ 0), (vJ 0)]) (us := [(vJ 0), (vJ 0)]) (v := (.agg [(vJ 0), (vJ 0)].toArray)) sz27 rfl rfl rfl (yK (by rfl) (by rfl)) ee.pins gl (Nat.le_of_ble_eq_true rfl) rfl (fun it gn ef cy iu => ?_))
 have gp := ee.write ef cy ((zS az))
 have gq := gk.keptA cy ae.symm
 have gr := gm.kept cy ef am
 refine qM (.bool false) ?_
 refine qe (zA ?_)
 refine wp_ret (zO (xS (cs := [(vJ 0), (vJ 0)]) (ds := [(vJ 0), (vJ 0)]) (v := (.bool false)) rfl rfl rfl rfl rfl rfl rfl ag27 sz27 rfl (fun j u hj => by rw [Nat.zero_add]; exact gq.cell hj) (fun j u hj => by rw [Nat.zero_add]; exact gn.cell hj) ?_))
 have hsh := pd_lr hok ha ⟨by omega, by omega⟩ (by omega) (by omega)
 have hgl : GoodD b d := by rw [ap, aq]; exact qQ (by rw [← ao]; exact ax)
 have hgr : GoodD m aa := by rw [au, av]; exact qQ (by rw [← aw]; exact a3)
 have hcd := cd_yes hgl hgr
 have hsd : sdB (pd q ((q.ns.getD (a).toNat default).l.getD 0 0)) (pd q ((q.ns.getD (a).toNat default).r.getD 0 0)) = false := by rw [hcd.1] at cp; cases cp
 obtain ⟨e1, e2, e3⟩ := swc_bad hsd
 rw [hsh, e1, e2, e3]
 exact ⟨ai, _, rfl, gr, a2, (PX.trans a4 a5), (zN an a6), gp⟩
 refine qW ?_
 refine qW ?_
 refine qD rfl (yD (v := (.bool true)) rfl rfl) (qM (.bool true) ?_)
 refine qW ?_
 refine qW ?_
 refine qD rfl (yD (v := (.bool true)) rfl rfl) (qe (zA ?_))
 refine xY rfl rfl (zB (zC ?_))
 refine qD rfl (yG [(vJ 0), (vJ 0)] [(vJ 0), (vJ 0)] [] Tryz.underlying27 zr27 rfl pl27 rfl (fun _ h => by cases h) rfl) (qD rfl (yG [(vJ 0), (vJ 0)] [(vJ 0), (vJ 0)] [] Tryz.underlying27 zr27 rfl pl27 rfl (fun _ h => by cases h) rfl) (q0 rfl rfl rfl (yF (cs' := [(vJ 0), (vJ 0)]) (us := [(vJ 0), (vJ 0)]) (v := (.agg [(vJ 0), (vJ 0)].toArray)) sz27 rfl rfl rfl (yK (by rfl) (by rfl)) ak.pins bj (Nat.le_of_ble_eq_true rfl) rfl (fun iv gs eg cz iw => ?_))))
 have eh := ak.write eg cz ((zS ay))
 have gt := bk.keptA cz ae
 have gu := bl.kept cz eg al
 refine q0 rfl rfl rfl (yF (cs' := [(vJ 0), (vJ 0)]) (us := [(vJ 0), (vJ 0)]) (v := (.agg [(vJ 0), (vJ 0)].toArray)) sz27 rfl rfl rfl (yK (by rfl) (by rfl)) eh.pins gt (Nat.le_of_ble_eq_true rfl) rfl (fun ix gv ei c0 iy => ?_))
 have gw := eh.write ei c0 ((zS az))
 have gx := gs.keptA c0 ae.symm
 have gy := gu.kept c0 ei am
 refine qM (.bool false) ?_
 refine qe (zA ?_)
 refine wp_ret (zO (xS (cs := [(vJ 0), (vJ 0)]) (ds := [(vJ 0), (vJ 0)]) (v := (.bool false)) rfl rfl rfl rfl rfl rfl rfl ag27 sz27 rfl (fun j u hj => by rw [Nat.zero_add]; exact gx.cell hj) (fun j u hj => by rw [Nat.zero_add]; exact gv.cell hj) ?_))
 have hsh := pd_lr hok ha ⟨by omega, by omega⟩ (by omega) (by omega)
 have hsd : sdB (pd q ((q.ns.getD (a).toNat default).l.getD 0 0)) (pd q ((q.ns.getD (a).toNat default).r.getD 0 0)) = false := by unfold sdB; rw [← ao, ← aw, ax, a3]; rfl
 obtain ⟨e1, e2, e3⟩ := swc_bad hsd
 rw [hsh, e1, e2, e3]
 exact ⟨ai, _, rfl, gy, a2, (PX.trans a4 a5), (zN an a6), gw⟩
 refine qW ?_
 refine qW ?_
 refine qD rfl (yD (v := (.bool true)) rfl rfl) (qM (.bool true) ?_)
 refine qW ?_
 refine qW ?_
 refine qD rfl (yD (v := (.bool true)) rfl rfl) (qM (.bool true) ?_)
 refine qW ?_
 refine qW ?_
 refine qD rfl (yD (v := (.bool true)) rfl rfl) (qe (zA ?_))
 refine xY rfl rfl (zB (zC ?_))
 refine qD rfl (yG [(vJ 0), (vJ 0)] [(vJ 0), (vJ 0)] [] Tryz.underlying27 zr27 rfl pl27 rfl (fun _ h => by cases h) rfl) (qD rfl (yG [(vJ 0), (vJ 0)] [(vJ 0), (vJ 0)] [] Tryz.underlying27 zr27 rfl pl27 rfl (fun _ h => by cases h) rfl) (q0 rfl rfl rfl (yF (cs' := [(vJ 0), (vJ 0)]) (us := [(vJ 0), (vJ 0)]) (v := (.agg [(vJ 0), (vJ 0)].toArray)) sz27 rfl rfl rfl (yK (by rfl) (by rfl)) ak.pins bj (Nat.le_of_ble_eq_true rfl) rfl (fun iz gz ej c1 i0 => ?_))))
 have ek := ak.write ej c1 ((zS ay))
 have g0 := bk.keptA c1 ae
 have g1 := bl.kept c1 ej al
 refine q0 rfl rfl rfl (yF (cs' := [(vJ 0), (vJ 0)]) (us := [(vJ 0), (vJ 0)]) (v := (.agg [(vJ 0), (vJ 0)].toArray)) sz27 rfl rfl rfl (yK (by rfl) (by rfl)) ek.pins g0 (Nat.le_of_ble_eq_true rfl) rfl (fun i1 g2 el c2 i2 => ?_))
 have g3 := ek.write el c2 ((zS az))
 have g4 := gz.keptA c2 ae.symm
 have g5 := g1.kept c2 el am
 refine qM (.bool false) ?_
 refine qe (zA ?_)
 refine wp_ret (zO (xS (cs := [(vJ 0), (vJ 0)]) (ds := [(vJ 0), (vJ 0)]) (v := (.bool false)) rfl rfl rfl rfl rfl rfl rfl ag27 sz27 rfl (fun j u hj => by rw [Nat.zero_add]; exact g4.cell hj) (fun j u hj => by rw [Nat.zero_add]; exact g2.cell hj) ?_))
 have hsh := pd_lr hok ha ⟨by omega, by omega⟩ (by omega) (by omega)
 have hsd : sdB (pd q ((q.ns.getD (a).toNat default).l.getD 0 0)) (pd q ((q.ns.getD (a).toNat default).r.getD 0 0)) = false := by unfold sdB; rw [← ao, ax]; rfl
 obtain ⟨e1, e2, e3⟩ := swc_bad hsd
 rw [hsh, e1, e2, e3]
 exact ⟨ai, _, rfl, g5, a2, (PX.trans a4 a5), (zN an a6), g3⟩

end SX1
end Go.Proofs.YtakkjmlnmcemaaaGreatDoor

set_option maxRecDepth 20000
set_option maxHeartbeats 2000000
namespace Go.Proofs.YtakkjmlnmcemaaaGreatDoor
namespace SX3
open Go.RowKit Go.GL Go.Proofs
open B1 C1 D1 E1 K1 PO1 PL1 NU1 NU2 NU3 NB4 VA1 VA2 VA3 SW1 DI1 RI1 CN1 CN2 CN3 CN4 AS2 SX1






theorem pl27 : (Tryz.prog.underlying 27).bind (placesD Tryz.prog) = some [(0, 1), (1, 1)] := by kernel_rfl



theorem iSwitchOf_spec {w : World} {G : Pin} {v : Value} {fs : List Nd} (hP : Pins G w) (hv : RSl eNode G v fs) :
  Calls Tryz.prog 25 [(.agg [v].toArray)].toArray w fun e w' => ∃ G', e = .returned (.tuple #[(.agg [.int .i64 (fswL fs).1, .int .i64 (fswL fs).2].toArray), (.agg [.int .i64 (fswR fs).1, .int .i64 (fswR fs).2].toArray), .bool (fswB fs)]) ∧ Ext noS G w G' w' := by
 refine zV (n := 20) Tryz.func25 Tryz.ntmps25 rfl rfl ?_
 have ai : Ext noS G w G w := Ext.refl hP
 refine zB (zC ?_)
 refine qI rfl (xG [v] (v := (.agg [v].toArray)) rfl rfl ai.pins (fun b1 w2 cz bm bn bo => ?_))
 have bp := ai.step bn bo
 have bq : w.heap.size ≤ b1 := by have := ai.size; omega
 obtain ⟨G9, a1, aj, a2, c1⟩ := bm.shut bp bq
 refine qI rfl (yM [(vJ 0), (vJ 0)] zr27 rfl aj.pins (fun t c2 c3 a3 br bt => ?_))
 have ak := aj.step br bt
 have a4 : w.heap.size ≤ t := by have := aj.size; omega
 refine qI rfl (yM [(vJ 0), (vJ 0)] zr27 rfl ak.pins (fun y c4 bu bv bw a5 => ?_))
 have al := ak.step bw a5
 have bx := a3.below a5
 have z : Apart (some y) (some t) := zJ (congrArg some bu) a3.lt
 have a6 : w.heap.size ≤ y := by have := ak.size; omega
 refine qM (.bool false) ?_
 refine qe (zA (zB (zB (zC ?_))))
 refine qD rfl (yH (cs := [v]) ag32 sz32 rfl (fun j u hj => al.pins _ _ _ (a2 _ _ (by simpa using hj)))) (qI rfl (zH (vs := [(.agg [v].toArray)]) Tryz.func38 nm38 rfl rfl rfl ?_))
 refine Calls.mono (goodForm_spec al.pins (hv.mono a1)) ?_
 rintro _ c5 ⟨c6, rfl, k⟩
 refine ⟨_, rfl, ?_⟩
 have m := al.tr k
 have am := bx.ext k
 have an := bv.ext k
 refine qD rfl (xE rfl) (qe (zA ?_))
 refine xX rfl rfl (fun aa => ?_) (fun aa => ?_)
 refine wp_skip (zA (zB (zC ?_)))
 have hgb : goodB fs = true := aa
 have hga : GoodP fs := goodB_true.1 hgb
 have hla := hga.lo
 have hha := hga.hi
 have hlb := last_bounds hga
 refine qI rfl (zH (vs := []) Tryz.func39 nm39 rfl rfl rfl ?_)
 refine Calls.mono (newPool_spec m.pins) ?_
 rintro _ bz ⟨d, p, b0, rfl, a7, ao, s⟩
 refine ⟨_, rfl, ?_⟩
 have ab := m.tr s
 have a8 := am.ext s
 have a9 := an.ext s
 have b2 := np_fresh ao (x := (some t)) (box_lt am)
 have b3 := np_fresh ao (x := (some y)) (box_lt an)
 have b4 : PIn w (noS) d (.slice none 0 0) (.slice none 0 0) (.slice none 0 0) p := PIn.fresh ao m.size
 obtain ⟨f, ap⟩ : ∃ q, q = (⟨[], [], [], [], [], [], []⟩ : PSt) := ⟨_, rfl⟩
 rw [← ap] at a7
 have aq : PoolOk f := by rw [ap]; exact PoolOk.empty
 have hq47l : f.ns.length = 0 := by rw [ap]; rfl
 obtain ⟨ac, ad, ae, af, ag, ah⟩ : ∃ (l r b : Value), l = .slice none 0 0 ∧ r = .slice none 0 0 ∧ b = .slice none 0 0 := ⟨_, _, _, rfl, rfl, rfl⟩
 have b5 : Pk 56 3 b0 bz d ac ad ae p f := by rw [af, ag, ah]; exact a7
 have ba : PIn w (noS) d ac ad ae p := by rw [af, ag, ah]; exact b4
 have c7 : (f.ns.map Nd.l).length = f.ns.length ∧ (f.ns.map Nd.r).length = f.ns.length := ⟨List.length_map .., List.length_map ..⟩
 have c8 : f.bs.length = f.ns.length ∧ f.ns.length ≤ 1048576 := ⟨aq.ar.ok.len, aq.ar.ok.lim⟩
 have hnp52x : NP d ac ad ae p (some t) := by rw [af, ag, ah]; exact b2
 have hnp53x : NP d ac ad ae p (some y) := by rw [af, ag, ah]; exact b3
 refine qM (.pointer (some ⟨d, 0, none⟩)) ?_
 refine qe (zA (zB (zC ?_)))
 refine qM (.pointer (some ⟨d, 0, none⟩)) ?_
 refine qM (.pointer (some ⟨d, 0, none⟩)) ?_
 refine qD rfl (yH (cs := [v]) ag32 sz32 rfl (fun j u hj => (Pins.of_le ab.pins (Pin.le_trans k.le s.le)) _ _ _ (a2 _ _ (by simpa using hj)))) (qI rfl (zH (vs := [(.pointer (some ⟨d, 0, none⟩)), (.agg [v].toArray)]) Tryz.func41 nm41 rfl rfl rfl ?_))
 refine Calls.mono (canonOf_spec ab.pins b5 aq (hv.mono (Pin.le_trans (Pin.le_trans a1 k.le) s.le)) (good_form hga) (by omega) hla) ?_
 rintro _ c9 ⟨c, da, db, dc, a, dd, rfl, b6, au, b7, av, aw, b8, bb, b9, de⟩
 refine ⟨_, rfl, ?_⟩
 have bc := ab.trans aw ba
 have ca := a8.extS aw (NP.notb hnp52x)
 have cb := NP.call hnp52x av (box_lt a8)
 have cc := a9.extS aw (NP.notb hnp53x)
 have cd := NP.call hnp53x av (box_lt a9)
 have ce := PIn.call ba av ab.size
 have df := b7.len
 have dg : (a.ns.map Nd.l).length = a.ns.length ∧ (a.ns.map Nd.r).length = a.ns.length := ⟨List.length_map .., List.length_map ..⟩
 have dh : a.bs.length = a.ns.length ∧ a.ns.length ≤ 1048576 := ⟨au.ar.ok.len, au.ar.ok.lim⟩
 refine qI rfl (zH (vs := [(.pointer (some ⟨d, 0, none⟩)), (vJ c)]) Tryz.func40 nm40 rfl rfl rfl ?_)
 refine Calls.mono (switchOf_spec bc.pins b6 au b8 bb) ?_
 rintro _ di ⟨g, dj, rfl, dk, bd, cf, cg, ax⟩
 refine ⟨_, rfl, ?_⟩
 have be := bc.trans ax (fun i hi => (PIn.o ce) i hi)
 have ch := ca.extS ax (xU (NP.ho cb))
 have ci := cc.extS ax (xU (NP.ho cd))
 have dl := cf.len
 have dm : (g.ns.map Nd.l).length = g.ns.length ∧ (g.ns.map Nd.r).length = g.ns.length := ⟨List.length_map .., List.length_map ..⟩
 have dn : g.bs.length = g.ns.length ∧ g.ns.length ≤ 1048576 := ⟨bd.ar.ok.len, bd.ar.ok.lim⟩
 have dp := congrArg List.length cg.1
 refine qD rfl (yE (v := (.agg [(vJ ((swL (pd a c)).1)), (vJ ((swL (pd a c)).2))].toArray)) rfl rfl) (qD rfl (yE (v := (.agg [(vJ ((swR (pd a c)).1)), (vJ ((swR (pd a c)).2))].toArray)) rfl rfl) (qD rfl (yE (v := (.bool (swcB (pd a c)))) rfl rfl) (q0 rfl rfl rfl (yF (cs' := [(vJ ((swL (pd a c)).1)), (vJ ((swL (pd a c)).2))]) (us := [(vJ ((swL (pd a c)).1)), (vJ ((swL (pd a c)).2))]) (v := (.agg [(vJ ((swL (pd a c)).1)), (vJ ((swL (pd a c)).2))].toArray)) sz27 rfl rfl rfl (yK (by rfl) (by rfl)) be.pins ch (Nat.le_of_ble_eq_true rfl) rfl (fun dq cj ck bf dr => ?_)))))
 have bg := be.write ck bf ((zS a4))
 have cl := ci.keptA bf z
 refine q0 rfl rfl rfl (yF (cs' := [(vJ ((swR (pd a c)).1)), (vJ ((swR (pd a c)).2))]) (us := [(vJ ((swR (pd a c)).1)), (vJ ((swR (pd a c)).2))]) (v := (.agg [(vJ ((swR (pd a c)).1)), (vJ ((swR (pd a c)).2))].toArray)) sz27 rfl rfl rfl (yK (by rfl) (by rfl)) bg.pins cl (Nat.le_of_ble_eq_true rfl) rfl (fun dt cm cn bh du => ?_))
 have co := bg.write cn bh ((zS a6))
 have cp := cj.keptA bh z.symm
 refine qM (.bool (swcB (pd a c))) ?_
 refine qe (zA ?_)
 refine wp_ret (zO (xS (cs := [(vJ ((swL (pd a c)).1)), (vJ ((swL (pd a c)).2))]) (ds := [(vJ ((swR (pd a c)).1)), (vJ ((swR (pd a c)).2))]) (v := (.bool (swcB (pd a c)))) rfl rfl rfl rfl rfl rfl rfl ag27 sz27 rfl (fun j u hj => by rw [Nat.zero_add]; exact cp.cell hj) (fun j u hj => by rw [Nat.zero_add]; exact cm.cell hj) ?_))
 obtain ⟨e1, e2, e3⟩ := fsw_good aa bb b9
 rw [e1, e2, e3]
 exact ⟨_, rfl, co⟩
 refine zB (zC ?_)
 refine qD rfl (yG [(vJ 0), (vJ 0)] [(vJ 0), (vJ 0)] [] Tryz.underlying27 zr27 rfl pl27 rfl (fun _ h => by cases h) rfl) (qD rfl (yG [(vJ 0), (vJ 0)] [(vJ 0), (vJ 0)] [] Tryz.underlying27 zr27 rfl pl27 rfl (fun _ h => by cases h) rfl) (q0 rfl rfl rfl (yF (cs' := [(vJ 0), (vJ 0)]) (us := [(vJ 0), (vJ 0)]) (v := (.agg [(vJ 0), (vJ 0)].toArray)) sz27 rfl rfl rfl (yK (by rfl) (by rfl)) m.pins am (Nat.le_of_ble_eq_true rfl) rfl (fun dv cq cr bi dw => ?_))))
 have bj := m.write cr bi ((zS a4))
 have ct := an.keptA bi z
 refine q0 rfl rfl rfl (yF (cs' := [(vJ 0), (vJ 0)]) (us := [(vJ 0), (vJ 0)]) (v := (.agg [(vJ 0), (vJ 0)].toArray)) sz27 rfl rfl rfl (yK (by rfl) (by rfl)) bj.pins ct (Nat.le_of_ble_eq_true rfl) rfl (fun dx cu cv bk dy => ?_))
 have cw := bj.write cv bk ((zS a6))
 have cx := cq.keptA bk z.symm
 refine qM (.bool false) ?_
 refine qe (zA ?_)
 refine wp_ret (zO (xS (cs := [(vJ 0), (vJ 0)]) (ds := [(vJ 0), (vJ 0)]) (v := (.bool false)) rfl rfl rfl rfl rfl rfl rfl ag27 sz27 rfl (fun j u hj => by rw [Nat.zero_add]; exact cx.cell hj) (fun j u hj => by rw [Nat.zero_add]; exact cu.cell hj) ?_))
 obtain ⟨e1, e2, e3⟩ := fsw_bad aa
 rw [e1, e2, e3]
 exact ⟨_, rfl, cw⟩

end SX3
end Go.Proofs.YtakkjmlnmcemaaaGreatDoor

set_option maxRecDepth 20000
set_option maxHeartbeats 2000000
namespace Go.Proofs.YtakkjmlnmcemaaaGreatDoor
namespace OR1
open Go.RowKit Go.GL Go.Proofs
open B1 C1 D1 E1











def GeqC (m : Nat) (o b : Nat) (bu bv kv : Value) (ns : List Nd) (bs : List Int) : Prop := ∀ {w : World} {G : Pin} {ks : List Int} {x y : Int} (_ : Pins G w) (_ : Od 65 3 G w o b bu bv kv ns bs ks) (_ : 0 ≤ x ∧ x < ns.length) (_ : 0 ≤ y ∧ y < ns.length) (_ : ks.length = ns.length * ns.length), x.toNat + y.toNat < m → KOk ns ks (x.toNat + y.toNat + 1) →
  Calls Tryz.prog 95 [(.pointer (some ⟨o, 0, none⟩)), (.int .i64 x), (.int .i64 y)].toArray w fun e w' => ∃ (ks' : List Int) (G' : Pin), e = .returned (.bool (geB ns x y)) ∧ Od 65 3 G' w' o b bu bv kv ns bs ks' ∧ KRes ns ks ks' (x.toNat + y.toNat + 1) ∧ Ext (inO kv.ownBlock) G w G' w'

theorem look_spec {w : World} {G : Pin} {m : Nat} {o b : Nat} {bu bv kv : Value} {ns : List Nd} {bs : List Int} {ks : List Int} {x y : Int} (hP : Pins G w) (hO : Od 65 3 G w o b bu bv kv ns bs ks) (hx : 0 ≤ x ∧ x < ns.length) (hy : 0 ≤ y ∧ y < ns.length) (hkl : ks.length = ns.length * ns.length) (hok : BookOk ns bs) (ih : GeqC m o b bu bv kv ns bs) (hm : x.toNat + y.toNat ≤ m) (hkok : KOk ns ks (x.toNat + y.toNat)) :
  Calls Tryz.prog 112 [(.pointer (some ⟨o, 0, none⟩)), (vJ x), (vJ y)].toArray w fun e w' => ∃ (ks' : List Int) (G' : Pin), e = .returned (.bool (geB ns x y)) ∧ Od 65 3 G' w' o b bu bv kv ns bs ks' ∧ KRes ns ks ks' (x.toNat + y.toNat) ∧ Ext (inO kv.ownBlock) G w G' w' := by
 refine zV (n := 75) Tryz.func112 Tryz.ntmps112 rfl rfl ?_
 have a4 : Ext (inO kv.ownBlock) G w G w := Ext.refl hP
 have hB := hO.bk
 have hbx := hB.bx
 have hou := hB.ou
 have hov := hB.ov
 have habu := hB.abu
 have habv := hB.abv
 have hauv := hB.auv
 have hlen := hok.len
 have hlim := hok.lim
 have hox := hO.ox
 have a5 := hO.ok
 have haok := hO.aok
 have habk := hO.abk
 have hauk := hO.auk
 have havk := hO.avk
 have hlok : Lo w (inO kv.ownBlock) kv.ownBlock := xK
 have hoo : OptsOk ns := hok.optsOk
 have hlens := hok.lens
 refine zB (zC ?_)
 refine qM (.bool false) ?_
 refine qe (zA (zB (zB (zC ?_))))
 refine qM (vJ 0) ?_
 refine qe (zA ?_)
 refine zX (yT (fun (k : Nat) (en : Nat → Value) (W : World) => ∃ (t : Nat → Value) (i : Nat) (kqr : List Int) (GLr : Pin), en = (upd (upd (upd (upd t 0 (.pointer (some ⟨o, 0, none⟩))) 1 (vJ x)) 2 (vJ y)) 7 (vJ (i : Int))) ∧ k = (ns.getD (x).toNat default).r.length - i ∧ Ext (inO kv.ownBlock) G w GLr W ∧ Pin.le G GLr ∧ (i ≤ (ns.getD (x).toNat default).r.length) ∧ (KRes ns ks kqr (x.toNat + y.toNat)) ∧ (∀ q, q < i → geB ns y ((ns.getD (x).toNat default).r.getD q 0) = false) ∧ (Own eInt 3 GLr W 0 kv (kqr)) ∧ (Own eNode 65 GLr W 0 bu (ns)) ∧ (Own eInt 3 GLr W 0 bv (bs)) ∧ (Bx GLr W b [bu, bv]) ∧ (Bx GLr W o [(.pointer (some ⟨b, 0, none⟩)), kv])) _ ⟨_, 0, ks, G, (pS 7 (pS 2 (pS 1 (pU 0)))), rfl, a4, Pin.le_refl _, Nat.zero_le _, (KRes.refl hkok), (fun q hq => absurd hq (Nat.not_lt_zero q)), a5, hou, hov, hbx, hox⟩ ?_)
 rintro k1 _ w2 ⟨t, i, kqr, GLr, rfl, bp, f, a6, hji, hkrr, hpr, am, c, ae, aa, ab⟩
 have hklr := hkrr.len
 refine zB (zB (zC ?_))
 refine qM (vJ (i : Int)) ?_
 refine qM (.pointer (some ⟨o, 0, none⟩)) ?_
 refine qD rfl (yW rfl) (qD rfl (zK (k := 0) rfl Tryz.underlying126 rfl nz75 rfl) (qD rfl (zL (u := (.pointer (some ⟨b, 0, none⟩))) ag75 rfl (ab.cell (o := 0) rfl)) (qD rfl (yW rfl) (qD rfl (zK (k := 0) rfl Tryz.underlying77 rfl nz30 rfl) (qD rfl (zL (u := bu) ag30 rfl (aa.cell (o := 0) rfl)) (qM (vJ x) ?_))))))
 refine qD rfl (zF Tryz.underlying30 sz65 (v := bu) rfl rfl c.read (by omega) (by omega)) (qD rfl (xI (off := 1) Tryz.underlying65 rfl rfl nz56 (z := x) (k := 0) rfl c.read (by omega) (by omega)) ?_)
 obtain ⟨a7, an, a8⟩ := nm_nr (c.at (z := x) (by omega) (by omega)) (j := (x).toNat) rfl
 have bq := an.max
 refine qD rfl (a8 ag56 rfl (Gadd.pins f.pins bu)) (qD rfl (zM Tryz.underlying56 (v := a7) rfl an) (qD rfl (yV rfl rfl) (qe (zA ?_))))
 refine yA (p := ((i : Int) : Int) < (((ns.getD (x).toNat default).r).length : Int)) rfl rfl (fun a9 => ?_) (fun a9 => ?_)
 have hki := hoo.right (j := (x).toNat) (i := i) (by omega) (by omega)
 refine wp_skip (zA (zB ?_))
 refine zX (zB (zC ?_))
 refine qM (.pointer (some ⟨o, 0, none⟩)) ?_
 refine qM (vJ y) ?_
 refine qM (.pointer (some ⟨o, 0, none⟩)) ?_
 refine qD rfl (yW rfl) (qD rfl (zK (k := 0) rfl Tryz.underlying126 rfl nz75 rfl) (qD rfl (zL (u := (.pointer (some ⟨b, 0, none⟩))) ag75 rfl (ab.cell (o := 0) rfl)) (qD rfl (yW rfl) (qD rfl (zK (k := 0) rfl Tryz.underlying77 rfl nz30 rfl) (qD rfl (zL (u := bu) ag30 rfl (aa.cell (o := 0) rfl)) (qM (vJ x) ?_))))))
 refine qD rfl (zF Tryz.underlying30 sz65 (v := bu) rfl rfl c.read (by omega) (by omega)) (qD rfl (xI (off := 1) Tryz.underlying65 rfl rfl nz56 (z := x) (k := 0) rfl c.read (by omega) (by omega)) ?_)
 obtain ⟨ba, af, bb⟩ := nm_nr (c.at (z := x) (by omega) (by omega)) (j := (x).toNat) rfl
 have br := af.max
 refine qD rfl (bb ag56 rfl (Gadd.pins f.pins bu)) (qM (vJ (i : Int)) ?_)
 refine qD rfl (zF Tryz.underlying56 sz3 (v := ba) rfl rfl af (by omega) (by omega)) (qD rfl (zE (r := ((ns.getD (x).toNat default).r).getD i 0) rfl ag3 (z := (i : Int)) rfl af f.pins (by omega) (by omega)) (qI rfl (zH (vs := [(.pointer (some ⟨o, 0, none⟩)), (vJ y), (vJ (((ns.getD (x).toNat default).r).getD i 0))]) Tryz.func95 nm95 rfl rfl rfl ?_)))
 refine Calls.mono (ih f.pins ⟨⟨aa, c, ae, habu, habv, hauv⟩, ab, am, haok, habk, hauk, havk⟩ (by omega) (by omega) (by omega) (by omega) (hkrr.ok.mono (by omega))) ?_
 rintro _ bt ⟨bc, bd, rfl, ao, ag, g⟩
 refine ⟨_, rfl, ?_⟩
 have ap := f.trans g (fun i hi => hlok i hi)
 have aq := c.extS g (notO hauk)
 have ar := ae.extS g (notO havk)
 have au := aa.extS g (xU habk)
 have av := ab.extS g (xU haok)
 have bw := ag.len
 refine qe (zA ?_)
 refine c_if rfl rfl (fun ah => ?_) (fun ah => ?_)
 refine zB (zC ?_)
 refine qM (.bool false) ?_
 refine qe (zA ?_)
 exact wp_ret (zO (zP (v := (.bool false)) rfl rfl rfl (⟨_, _, congrArg (fun z => Ending.returned (Value.bool z)) (geB_no_right hoo hx (by omega) ah).symm, ⟨⟨au, aq, ar, habu, habv, hauv⟩, av, ao.ok, haok, habk, hauk, havk⟩, (hkrr.wide ag (by omega)), ap⟩)))
 refine wp_skip (yB (zA (zC ?_)))
 refine qM (vJ (i : Int)) ?_
 refine qD rfl (yJ rfl rfl (by omega)) (qM (vJ ((i : Int) + 1)) ?_)
 refine qe (zZ (⟨_, ?_, _, rfl, _, i + 1, bc, bd, (pS 7 (pS 2 (pS 1 (pU 0)))), rfl, ap, (Pin.le_trans a6 g.le), (by omega), (hkrr.wide ag (by omega)), (fun q hq => if h3 : q = i then h3 ▸ ah else hpr q (by omega)), ao.ok, aq, ar, au, av⟩))
 omega
 refine wp_exit (zW (yO (yI (zA (zB (zB (zC ?_)))))))
 refine qM (vJ 0) ?_
 refine qe (zA ?_)
 refine zX (yT (fun (k : Nat) (en : Nat → Value) (W : World) => ∃ (t : Nat → Value) (a : Nat) (kql : List Int) (GLl : Pin), en = (upd (upd (upd (upd t 0 (.pointer (some ⟨o, 0, none⟩))) 1 (vJ x)) 2 (vJ y)) 8 (vJ (a : Int))) ∧ k = (ns.getD (y).toNat default).l.length - a ∧ Ext (inO kv.ownBlock) G w GLl W ∧ Pin.le GLr GLl ∧ (a ≤ (ns.getD (y).toNat default).l.length) ∧ (KRes ns ks kql (x.toNat + y.toNat)) ∧ (∀ q, q < a → geB ns ((ns.getD (y).toNat default).l.getD q 0) x = false) ∧ (Own eInt 3 GLl W 0 kv (kql)) ∧ (Own eNode 65 GLl W 0 bu (ns)) ∧ (Own eInt 3 GLl W 0 bv (bs)) ∧ (Bx GLl W b [bu, bv]) ∧ (Bx GLl W o [(.pointer (some ⟨b, 0, none⟩)), kv])) _ ⟨_, 0, kqr, GLr, (pS 8 (pS 2 (pS 1 (pU 0)))), rfl, f, Pin.le_refl _, Nat.zero_le _, hkrr, (fun q hq => absurd hq (Nat.not_lt_zero q)), am, c, ae, aa, ab⟩ ?_)
 rintro bz _ b0 ⟨t, a, kql, GLl, rfl, b1, h, be, b2, hkrl, hpl, aw, d, ai, ac, ad⟩
 have hkll := hkrl.len
 refine zB (zB (zC ?_))
 refine qM (vJ (a : Int)) ?_
 refine qM (.pointer (some ⟨o, 0, none⟩)) ?_
 refine qD rfl (yW rfl) (qD rfl (zK (k := 0) rfl Tryz.underlying126 rfl nz75 rfl) (qD rfl (zL (u := (.pointer (some ⟨b, 0, none⟩))) ag75 rfl (ad.cell (o := 0) rfl)) (qD rfl (yW rfl) (qD rfl (zK (k := 0) rfl Tryz.underlying77 rfl nz30 rfl) (qD rfl (zL (u := bu) ag30 rfl (ac.cell (o := 0) rfl)) (qM (vJ y) ?_))))))
 refine qD rfl (zF Tryz.underlying30 sz65 (v := bu) rfl rfl d.read (by omega) (by omega)) (qD rfl (xI (off := 0) Tryz.underlying65 rfl rfl nz56 (z := y) (k := 0) rfl d.read (by omega) (by omega)) ?_)
 obtain ⟨bf, ax, bg⟩ := nm_nl (d.at (z := y) (by omega) (by omega)) (j := (y).toNat) rfl
 have b3 := ax.max
 refine qD rfl (bg ag56 rfl (Gadd.pins h.pins bu)) (qD rfl (zM Tryz.underlying56 (v := bf) rfl ax) (qD rfl (yV rfl rfl) (qe (zA ?_))))
 refine yA (p := ((a : Int) : Int) < (((ns.getD (y).toNat default).l).length : Int)) rfl rfl (fun bh => ?_) (fun bh => ?_)
 have hki := hoo.left (j := (y).toNat) (i := a) (by omega) (by omega)
 refine wp_skip (zA (zB ?_))
 refine zX (zB (zC ?_))
 refine qM (.pointer (some ⟨o, 0, none⟩)) ?_
 refine qM (.pointer (some ⟨o, 0, none⟩)) ?_
 refine qD rfl (yW rfl) (qD rfl (zK (k := 0) rfl Tryz.underlying126 rfl nz75 rfl) (qD rfl (zL (u := (.pointer (some ⟨b, 0, none⟩))) ag75 rfl (ad.cell (o := 0) rfl)) (qD rfl (yW rfl) (qD rfl (zK (k := 0) rfl Tryz.underlying77 rfl nz30 rfl) (qD rfl (zL (u := bu) ag30 rfl (ac.cell (o := 0) rfl)) (qM (vJ y) ?_))))))
 refine qD rfl (zF Tryz.underlying30 sz65 (v := bu) rfl rfl d.read (by omega) (by omega)) (qD rfl (xI (off := 0) Tryz.underlying65 rfl rfl nz56 (z := y) (k := 0) rfl d.read (by omega) (by omega)) ?_)
 obtain ⟨bi, aj, bj⟩ := nm_nl (d.at (z := y) (by omega) (by omega)) (j := (y).toNat) rfl
 have b4 := aj.max
 refine qD rfl (bj ag56 rfl (Gadd.pins h.pins bu)) (qM (vJ (a : Int)) ?_)
 refine qD rfl (zF Tryz.underlying56 sz3 (v := bi) rfl rfl aj (by omega) (by omega)) (qD rfl (zE (r := ((ns.getD (y).toNat default).l).getD a 0) rfl ag3 (z := (a : Int)) rfl aj h.pins (by omega) (by omega)) (qM (vJ x) ?_))
 refine qI rfl (zH (vs := [(.pointer (some ⟨o, 0, none⟩)), (vJ (((ns.getD (y).toNat default).l).getD a 0)), (vJ x)]) Tryz.func95 nm95 rfl rfl rfl ?_)
 refine Calls.mono (ih h.pins ⟨⟨ac, d, ai, habu, habv, hauv⟩, ad, aw, haok, habk, hauk, havk⟩ (by omega) (by omega) (by omega) (by omega) (hkrl.ok.mono (by omega))) ?_
 rintro _ b5 ⟨bl, bm, rfl, ay, ak, s⟩
 refine ⟨_, rfl, ?_⟩
 have az := h.trans s (fun i hi => hlok i hi)
 have a0 := d.extS s (notO hauk)
 have a1 := ai.extS s (notO havk)
 have a2 := ac.extS s (xU habk)
 have a3 := ad.extS s (xU haok)
 have b6 := ak.len
 refine qe (zA ?_)
 refine c_if rfl rfl (fun al => ?_) (fun al => ?_)
 refine zB (zC ?_)
 refine qM (.bool false) ?_
 refine qe (zA ?_)
 exact wp_ret (zO (zP (v := (.bool false)) rfl rfl rfl (⟨_, _, congrArg (fun z => Ending.returned (Value.bool z)) (geB_no_left hoo hy (by omega) al).symm, ⟨⟨a2, a0, a1, habu, habv, hauv⟩, a3, ay.ok, haok, habk, hauk, havk⟩, (hkrl.wide ak (by omega)), az⟩)))
 refine wp_skip (yB (zA (zC ?_)))
 refine qM (vJ (a : Int)) ?_
 refine qD rfl (yJ rfl rfl (by omega)) (qM (vJ ((a : Int) + 1)) ?_)
 refine qe (zZ (⟨_, ?_, _, rfl, _, a + 1, bl, bm, (pS 8 (pS 2 (pS 1 (pU 0)))), rfl, az, (Pin.le_trans be s.le), (by omega), (hkrl.wide ak (by omega)), (fun q hq => if h3 : q = a then h3 ▸ al else hpl q (by omega)), ay.ok, a0, a1, a2, a3⟩))
 omega
 refine wp_exit (zW (yO (yI (zA (zB (zC ?_))))))
 refine qM (.bool true) ?_
 refine qe (zA ?_)
 exact wp_ret (zO (zP (v := (.bool true)) rfl rfl rfl (⟨_, _, congrArg (fun z => Ending.returned (Value.bool z)) (geB_yes hoo hx hy (fun q hq => hpr q (by omega)) (fun q hq => hpl q (by omega))).symm, ⟨⟨ac, d, ai, habu, habv, hauv⟩, ad, aw, haok, habk, hauk, havk⟩, hkrl, h⟩)))

theorem geq_step {w : World} {G : Pin} {m : Nat} {o b : Nat} {bu bv kv : Value} {ns : List Nd} {bs : List Int} {ks : List Int} {x y : Int} (hP : Pins G w) (hO : Od 65 3 G w o b bu bv kv ns bs ks) (hx : 0 ≤ x ∧ x < ns.length) (hy : 0 ≤ y ∧ y < ns.length) (hkl : ks.length = ns.length * ns.length) (hok : BookOk ns bs) (ih : GeqC m o b bu bv kv ns bs) (hm : x.toNat + y.toNat < m + 1) (hkok : KOk ns ks (x.toNat + y.toNat + 1)) :
  Calls Tryz.prog 95 [(.pointer (some ⟨o, 0, none⟩)), (vJ x), (vJ y)].toArray w fun e w' => ∃ (ks' : List Int) (G' : Pin), e = .returned (.bool (geB ns x y)) ∧ Od 65 3 G' w' o b bu bv kv ns bs ks' ∧ KRes ns ks ks' (x.toNat + y.toNat + 1) ∧ Ext (inO kv.ownBlock) G w G' w' := by
 refine zV (n := 52) Tryz.func95 Tryz.ntmps95 rfl rfl ?_
 have d : Ext (inO kv.ownBlock) G w G w := Ext.refl hP
 have hB := hO.bk
 have hbx := hB.bx
 have hou := hB.ou
 have hov := hB.ov
 have habu := hB.abu
 have habv := hB.abv
 have hauv := hB.auv
 have hlen := hok.len
 have hlim := hok.lim
 have hox := hO.ox
 have c := hO.ok
 have haok := hO.aok
 have habk := hO.abk
 have hauk := hO.auk
 have havk := hO.avk
 have hlok : Lo w (inO kv.ownBlock) kv.ownBlock := xK
 have hoo : OptsOk ns := hok.optsOk
 have hlens := hok.lens
 have hib := idx_bd hx hy hok.lim
 refine zB (zC ?_)
 refine qM (.bool false) ?_
 refine qe (zA (zB (zC ?_)))
 refine qM (vJ x) ?_
 refine qM (.pointer (some ⟨o, 0, none⟩)) ?_
 refine qD rfl (yW rfl) (qD rfl (zK (k := 0) rfl Tryz.underlying126 rfl nz75 rfl) (qD rfl (zL (u := (.pointer (some ⟨b, 0, none⟩))) ag75 rfl (hox.cell (o := 0) rfl)) (qD rfl (yW rfl) (qD rfl (zK (k := 0) rfl Tryz.underlying77 rfl nz30 rfl) (qD rfl (zL (u := bu) ag30 rfl (hbx.cell (o := 0) rfl)) (qD rfl (zM Tryz.underlying30 (v := bu) rfl hou.read) (qD rfl (r_mul rfl rfl (by omega)) (qM (vJ y) ?_))))))))
 refine qD rfl (yJ rfl rfl (by omega)) (qM (vJ ((x * (ns.length : Int)) + y)) ?_)
 refine qe (zA (zB (zB (zC ?_))))
 refine qM (.pointer (some ⟨o, 0, none⟩)) ?_
 refine qD rfl (yW rfl) (qD rfl (zK (k := 1) rfl Tryz.underlying126 rfl nz56 rfl) (qD rfl (zL (u := kv) ag56 rfl (hox.cell (o := 1) rfl)) (qM (vJ ((x * (ns.length : Int)) + y)) ?_)))
 refine qD rfl (zF Tryz.underlying56 sz3 (v := kv) rfl rfl c.read (by omega) (by omega)) (qD rfl (zE (r := ks.getD ((x * (ns.length : Int)) + y).toNat 0) rfl ag3 (z := ((x * (ns.length : Int)) + y)) rfl c.read (Gadd.pins d.pins kv) (by omega) (by omega)) (qD rfl (xV rfl rfl) (qe (zA ?_))))
 refine yA (p := (ks.getD ((x * (ns.length : Int)) + y).toNat 0 : Int) = 0) rfl rfl (fun h1 => ?_) (fun h1 => ?_)
 refine zB (zC ?_)
 refine qM (.pointer (some ⟨o, 0, none⟩)) ?_
 refine qD rfl (yW rfl) (qD rfl (zK (k := 1) rfl Tryz.underlying126 rfl nz56 rfl) (qD rfl (zL (u := kv) ag56 rfl (hox.cell (o := 1) rfl)) (qM (vJ ((x * (ns.length : Int)) + y)) ?_)))
 refine qD rfl (zF Tryz.underlying56 sz3 (v := kv) rfl rfl c.read (by omega) (by omega)) (q0 rfl rfl rfl (o_set (E := eInt) (v := kv) (u := (vJ 2)) (z := ((x * (ns.length : Int)) + y)) (2) sz3 rfl rfl rfl rfl d.pins c (by omega) (by omega) (fun w2 an ao f az => ?_)))
 have ac := d.write ao f (hlok)
 have ad := hou.keptA f hauk
 have ae := hov.keptA f havk
 have af := hbx.keptA f habk
 have ag := hox.keptA f haok
 have ap : Own eInt 3 G w2 0 kv ((ks).set ((x * (ns.length : Int)) + y).toNat 2) := an
 have a0 : ((ks).set ((x * (ns.length : Int)) + y).toNat 2).length = ks.length := List.length_set ..
 refine qe (zA (zB (zC ?_)))
 refine qM (.pointer (some ⟨o, 0, none⟩)) ?_
 refine qM (vJ x) ?_
 refine qM (vJ y) ?_
 refine qI rfl (zH (vs := [(.pointer (some ⟨o, 0, none⟩)), (vJ x), (vJ y)]) Tryz.func112 nm112 rfl rfl rfl ?_)
 refine Calls.mono (look_spec ac.pins ⟨⟨af, ad, ae, habu, habv, hauv⟩, ag, ap, haok, habk, hauk, havk⟩ hx hy (by rw [List.length_set]; exact hkl) hok ih (by omega) (KRes.prov hx hy hkok).1) ?_
 rintro _ a1 ⟨a, aq, rfl, g, s, h⟩
 refine ⟨_, rfl, ?_⟩
 have l := ac.trans h (fun i hi => hlok i hi)
 have ah := ad.extS h (notO hauk)
 have ai := ae.extS h (notO havk)
 have aj := af.extS h (xU habk)
 have q := ag.extS h (xU haok)
 have a2 := s.len
 refine qe (zA ?_)
 refine c_if rfl rfl (fun t => ?_) (fun t => ?_)
 refine zC (qM (.pointer (some ⟨o, 0, none⟩)) ?_)
 refine qD rfl (yW rfl) (qD rfl (zK (k := 1) rfl Tryz.underlying126 rfl nz56 rfl) (qD rfl (zL (u := kv) ag56 rfl (q.cell (o := 1) rfl)) (qM (vJ ((x * (ns.length : Int)) + y)) ?_)))
 refine qD rfl (zF Tryz.underlying56 sz3 (v := kv) rfl rfl g.ok.read (by omega) (by omega)) (q0 rfl rfl rfl (o_set (E := eInt) (v := kv) (u := (vJ 1)) (z := ((x * (ns.length : Int)) + y)) (1) sz3 rfl rfl rfl rfl l.pins g.ok (by omega) (by omega) (fun ar au av j a3 => ?_)))
 have ak := l.write av j (hlok)
 have aw := ah.keptA j hauk
 have ax := ai.keptA j havk
 have ay := aj.keptA j habk
 have al := q.keptA j haok
 have aa : Own eInt 3 aq ar 0 kv ((a).set ((x * (ns.length : Int)) + y).toNat 1) := au
 have a4 : ((a).set ((x * (ns.length : Int)) + y).toNat 1).length = a.length := List.length_set ..
 refine qe (zA (zB (zC ?_)))
 refine qM (.pointer (some ⟨o, 0, none⟩)) ?_
 refine qD rfl (yW rfl) (qD rfl (zK (k := 1) rfl Tryz.underlying126 rfl nz56 rfl) (qD rfl (zL (u := kv) ag56 rfl (al.cell (o := 1) rfl)) (qM (vJ ((x * (ns.length : Int)) + y)) ?_)))
 refine qD rfl (zF Tryz.underlying56 sz3 (v := kv) rfl rfl aa.read (by omega) (by omega)) (qD rfl (zE (r := ((a).set ((x * (ns.length : Int)) + y).toNat 1).getD ((x * (ns.length : Int)) + y).toNat 0) rfl ag3 (z := ((x * (ns.length : Int)) + y)) rfl aa.read (Gadd.pins ak.pins kv) (by omega) (by omega)) (qD rfl (xV rfl rfl) (qM (.bool (decide ((((a).set ((x * (ns.length : Int)) + y).toNat 1).getD ((x * (ns.length : Int)) + y).toNat 0 : Int) = 1))) ?_)))
 refine qe (zA ?_)
 refine wp_ret (zO (zP (v := (.bool (decide ((((a).set ((x * (ns.length : Int)) + y).toNat 1).getD ((x * (ns.length : Int)) + y).toNat 0 : Int) = 1)))) rfl rfl rfl ?_))
 have htold := KRes.told hx hy hkl hkok s (if_pos t).symm
 exact ⟨_, _, congrArg (fun z => Ending.returned (Value.bool z)) htold.2, ⟨⟨ay, aw, ax, habu, habv, hauv⟩, al, aa, haok, habk, hauk, havk⟩, htold.1, ak⟩
 refine wp_skip (zA (zB (zC ?_)))
 refine qM (.pointer (some ⟨o, 0, none⟩)) ?_
 refine qD rfl (yW rfl) (qD rfl (zK (k := 1) rfl Tryz.underlying126 rfl nz56 rfl) (qD rfl (zL (u := kv) ag56 rfl (q.cell (o := 1) rfl)) (qM (vJ ((x * (ns.length : Int)) + y)) ?_)))
 refine qD rfl (zF Tryz.underlying56 sz3 (v := kv) rfl rfl g.ok.read (by omega) (by omega)) (qD rfl (zE (r := a.getD ((x * (ns.length : Int)) + y).toNat 0) rfl ag3 (z := ((x * (ns.length : Int)) + y)) rfl g.ok.read (Gadd.pins l.pins kv) (by omega) (by omega)) (qD rfl (xV rfl rfl) (qM (.bool (decide ((a.getD ((x * (ns.length : Int)) + y).toNat 0 : Int) = 1))) ?_)))
 refine qe (zA ?_)
 refine wp_ret (zO (zP (v := (.bool (decide ((a.getD ((x * (ns.length : Int)) + y).toNat 0 : Int) = 1)))) rfl rfl rfl ?_))
 have htold := KRes.told hx hy hkl hkok s (if_neg (by rw [t]; decide)).symm
 exact ⟨_, _, congrArg (fun z => Ending.returned (Value.bool z)) htold.2, ⟨⟨aj, ah, ai, habu, habv, hauv⟩, q, g.ok, haok, habk, hauk, havk⟩, htold.1, l⟩
 refine wp_skip (zA (zB (zC ?_)))
 refine qM (.pointer (some ⟨o, 0, none⟩)) ?_
 refine qD rfl (yW rfl) (qD rfl (zK (k := 1) rfl Tryz.underlying126 rfl nz56 rfl) (qD rfl (zL (u := kv) ag56 rfl (hox.cell (o := 1) rfl)) (qM (vJ ((x * (ns.length : Int)) + y)) ?_)))
 refine qD rfl (zF Tryz.underlying56 sz3 (v := kv) rfl rfl c.read (by omega) (by omega)) (qD rfl (zE (r := ks.getD ((x * (ns.length : Int)) + y).toNat 0) rfl ag3 (z := ((x * (ns.length : Int)) + y)) rfl c.read (Gadd.pins d.pins kv) (by omega) (by omega)) (qD rfl (xV rfl rfl) (qM (.bool (decide ((ks.getD ((x * (ns.length : Int)) + y).toNat 0 : Int) = 1))) ?_)))
 refine qe (zA ?_)
 exact wp_ret (zO (zP (v := (.bool (decide ((ks.getD ((x * (ns.length : Int)) + y).toNat 0 : Int) = 1)))) rfl rfl rfl (⟨_, _, congrArg (fun z => Ending.returned (Value.bool z)) (KOk.known hx hy hkok h1), ⟨⟨hbx, hou, hov, habu, habv, hauv⟩, hox, c, haok, habk, hauk, havk⟩, KRes.refl hkok, d⟩)))

theorem geq_all {o b : Nat} {bu bv kv : Value} {ns : List Nd} {bs : List Int} (hok : BookOk ns bs) : ∀ m, GeqC m o b bu bv kv ns bs
 | 0 => fun _ _ _ _ _ h _ => absurd h (Nat.not_lt_zero _)
 | m + 1 => fun hP hO hx hy hkl hm hk => geq_step hP hO hx hy hkl hok (geq_all hok m) hm hk
theorem geq_spec {w : World} {G : Pin} {o b : Nat} {bu bv kv : Value} {ns : List Nd} {bs : List Int} {ks : List Int} {x y : Int} (hP : Pins G w) (hO : Od 65 3 G w o b bu bv kv ns bs ks) (hx : 0 ≤ x ∧ x < ns.length) (hy : 0 ≤ y ∧ y < ns.length) (hkl : ks.length = ns.length * ns.length) (hok : BookOk ns bs) (hkok : KOk ns ks (x.toNat + y.toNat + 1)) :
  Calls Tryz.prog 95 [(.pointer (some ⟨o, 0, none⟩)), (.int .i64 x), (.int .i64 y)].toArray w fun e w' => ∃ (ks' : List Int) (G' : Pin), e = .returned (.bool (geB ns x y)) ∧ Od 65 3 G' w' o b bu bv kv ns bs ks' ∧ KRes ns ks ks' (x.toNat + y.toNat + 1) ∧ Ext (inO kv.ownBlock) G w G' w' :=
 geq_all hok _ hP hO hx hy hkl (Nat.lt_succ_self _) hkok

end OR1
end Go.Proofs.YtakkjmlnmcemaaaGreatDoor
