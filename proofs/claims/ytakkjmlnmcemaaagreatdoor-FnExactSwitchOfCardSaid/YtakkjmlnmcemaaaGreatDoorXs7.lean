/- Texts of this claim in one file: C61, C62, C63, VB1, VB2, VB3, VB4, N1, SX2, SX4, LXS. -/
import Derived.Test.YtakkjmlnmcemaaaGreatDoorXs6
import Derived.Test.YtakkjmlnmcemaaaGreatDoorChecked
set_option maxRecDepth 20000
set_option maxHeartbeats 2000000
namespace Go.Proofs.YtakkjmlnmcemaaaGreatDoor
namespace C61
open Go.RowKit Go.GL Go.Proofs
open B1 C1 D1 E1 OR1





theorem mk3 : (Tryz.prog.info? 3).map (fun i => (i.size, i.bytes, i.zero)) = some (1, 8, some (.int .i64 0)) := by kernel_rfl







theorem pl126 : (Tryz.prog.underlying 126).bind (placesD Tryz.prog) = some [(0, 1), (1, 1)] := by kernel_rfl




theorem l4Of_spec {w : World} {G : Pin} {b : Nat} {bu bv : Value} {ns : List Nd} {bs : List Int} (hP : Pins G w) (hB : Bk 65 3 G w b bu bv ns bs) (hok : BookOk ns bs) :
  Calls Tryz.prog 85 [(.pointer (some ⟨b, 0, none⟩))].toArray w fun e w' => ∃ (o : Nat) (kv : Value) (G' : Pin), e = .returned (.pointer (some ⟨o, 0, none⟩)) ∧ Bx G' w' o [.pointer (some ⟨b, 0, none⟩), kv] ∧ Own eInt 3 G' w' w.heap.size kv (List.replicate (ns.length * ns.length) 0) ∧ w.heap.size ≤ o ∧ Apart (some o) kv.ownBlock ∧ Ext noS G w G' w' := by
 refine zV (n := 18) Tryz.func85 Tryz.ntmps85 rfl rfl ?_
 have l : Ext noS G w G w := Ext.refl hP
 have hbx := hB.bx
 have hou := hB.ou
 have hov := hB.ov
 have habu := hB.abu
 have habv := hB.abv
 have hauv := hB.auv
 have hlen := hok.len
 have hlim := hok.lim
 have hsq := sq_bd hok.lim
 refine zB (zC ?_)
 refine qM (.pointer none) ?_
 refine qe (zA (zB ?_))
 have aa := Gadd.pins l.pins bu
 have x := hou.read
 refine yZ (S := fun wz => BxR wz b [bu, bv] ∧ Pins (Gadd G w bu) wz) (last := 16) (by kernel_rfl) rfl ?_
 have f : Below w.heap.size w w.drew := (Below.refl _ _).drew
 have ab := l.pins.below f
 have m := l.step ab f
 have a := hbx.below f
 have c := aa.below f
 refine dT (i := 0) rfl rfl (by kernel_rfl) (fun _ _ => zQ (v := (.pointer (some ⟨b, 0, none⟩))) rfl) ⟨a.reads, c⟩ ?_
 refine dT (i := 1) rfl rfl (by kernel_rfl) (fun _ _ => zQ (v := (.pointer (some ⟨b, 0, none⟩))) rfl) ⟨a.reads, c⟩ ?_
 refine dT (i := 2) rfl rfl (by kernel_rfl) (fun _ _ => yW rfl) ⟨a.reads, c⟩ ?_
 refine dT (i := 3) rfl rfl (by kernel_rfl) (fun _ _ => zK (k := 0) rfl Tryz.underlying77 rfl nz30 rfl) ⟨a.reads, c⟩ ?_
 refine dT (i := 4) rfl rfl (by kernel_rfl) (fun _ hS => zL (u := bu) ag30 rfl (hS.1 0 _ rfl)) ⟨a.reads, c⟩ ?_
 refine dT (i := 5) rfl rfl (by kernel_rfl) (fun _ _ => zM Tryz.underlying30 (v := bu) rfl x) ⟨a.reads, c⟩ ?_
 refine dT (i := 6) rfl rfl (by kernel_rfl) (fun _ _ => zQ (v := (.pointer (some ⟨b, 0, none⟩))) rfl) ⟨a.reads, c⟩ ?_
 refine dT (i := 7) rfl rfl (by kernel_rfl) (fun _ _ => yW rfl) ⟨a.reads, c⟩ ?_
 refine dT (i := 8) rfl rfl (by kernel_rfl) (fun _ _ => zK (k := 0) rfl Tryz.underlying77 rfl nz30 rfl) ⟨a.reads, c⟩ ?_
 refine dT (i := 9) rfl rfl (by kernel_rfl) (fun _ hS => zL (u := bu) ag30 rfl (hS.1 0 _ rfl)) ⟨a.reads, c⟩ ?_
 refine dT (i := 10) rfl rfl (by kernel_rfl) (fun _ _ => zM Tryz.underlying30 (v := bu) rfl x) ⟨a.reads, c⟩ ?_
 refine dT (i := 11) rfl rfl (by kernel_rfl) (fun _ _ => r_mul rfl rfl (by omega)) ⟨a.reads, c⟩ ?_
 refine dO (i := 12) (zU (i := 12) rfl rfl rfl (zD rfl _) (o_make (E := eInt) 0 8 (vJ 0) Tryz.underlying56 mk3 (fun _ => rfl) rfl rfl m.pins (by omega) (by omega) (by omega) (fun d ac ad ae p am => ?_)))
 have q := m.step ae p
 have r := a.below p
 have s : Own eInt 3 G ac w.heap.size d (List.replicate ((ns.length : Int) * (ns.length : Int)).toNat 0) := ad.weaken m.size
 have an : (List.replicate ((ns.length : Int) * (ns.length : Int)).toNat 0).length = ((ns.length : Int) * (ns.length : Int)).toNat := List.length_replicate ..
 have t := c.below p
 refine ⟨fun _ => ⟨r.reads, t⟩, ?_⟩
 refine dT (i := 13) rfl rfl (by kernel_rfl) (fun _ _ => yG [(.pointer none), (.slice none 0 0)] [(.pointer (some ⟨b, 0, none⟩)), d] [(0, (.pointer (some ⟨b, 0, none⟩)), [(.pointer (some ⟨b, 0, none⟩))]), (1, d, [d])] Tryz.underlying126 zr126 rfl pl126 rfl (List.forall_mem_cons.2 ⟨rfl, (List.forall_mem_cons.2 ⟨(xT s.one), (fun _ h => by cases h)⟩)⟩) rfl) ⟨r.reads, t⟩ ?_
 refine dO (i := 14) (zU (i := 14) rfl rfl rfl (zD rfl _) (xG [(.pointer (some ⟨b, 0, none⟩)), d] (v := (.agg [(.pointer (some ⟨b, 0, none⟩)), d].toArray)) rfl rfl q.pins (fun g ao af ag ah j => ?_)))
 have ai := q.step ah j
 have aj := s.below j
 have y := r.below j
 have ak : Apart (some g) d.ownBlock := zI (congrArg some af) s.lt
 have al : w.heap.size ≤ g := by have := q.size; omega
 have z := t.below j
 refine ⟨fun _ => ⟨y.reads, z⟩, ?_⟩
 refine dT (i := 15) rfl rfl (by kernel_rfl) (fun _ _ => xW (v := (.pointer (some ⟨g, 0, none⟩))) rfl) ⟨y.reads, z⟩ ?_
 refine yQ (by kernel_rfl) (zA (wp_ret (zO (zP (v := (.pointer (some ⟨g, 0, none⟩))) rfl rfl rfl ?_))))
 have hrow := aj
 rw [sq_nat] at hrow
 exact ⟨_, _, _, rfl, ag, hrow, al, ak, ai⟩

theorem l6Through_spec {w : World} {G : Pin} {o b : Nat} {bu bv kv : Value} {ns : List Nd} {bs : List Int} {ks : List Int} {y z : Int} {lf : Bool} (hP : Pins G w) (hO : Od 65 3 G w o b bu bv kv ns bs ks) (hy : 0 ≤ y ∧ y < ns.length) (hz : 0 ≤ z ∧ z < ns.length) (hok : BookOk ns bs) (hka : KAll ns ks) :
  Calls Tryz.prog 105 [(.pointer (some ⟨o, 0, none⟩)), (vJ y), (vJ z), (.bool lf)].toArray w fun e w' => ∃ (t : Int) (ks' : List Int) (G' : Pin), e = .returned (vJ t) ∧ thrP ns lf y z t ∧ Od 65 3 G' w' o b bu bv kv ns bs ks' ∧ KAll ns ks' ∧ Ext (inO kv.ownBlock) G w G' w' := by
 refine zV (n := 70) Tryz.func105 Tryz.ntmps105 rfl rfl ?_
 have ae : Ext (inO kv.ownBlock) G w G w := Ext.refl hP
 have hB := hO.bk
 have hbx := hB.bx
 have hou := hB.ou
 have hov := hB.ov
 have habu := hB.abu
 have habv := hB.abv
 have hauv := hB.auv
 have hlen := hok.len
 have hlim := hok.lim
 have hox := hO.ox
 have ax := hO.ok
 have haok := hO.aok
 have habk := hO.abk
 have hauk := hO.auk
 have havk := hO.avk
 have hlok : Lo w (inO kv.ownBlock) kv.ownBlock := xK
 have hoo : OptsOk ns := hok.optsOk
 have hlens := hok.lens
 refine zB (zC ?_)
 refine qM (vJ 0) ?_
 refine qe (zA (zB (zB (zC ?_))))
 refine qM (.bool lf) ?_
 refine qe (zA ?_)
 refine c_if rfl rfl (fun h1 => ?_) (fun h1 => ?_)
 refine zB (zC ?_)
 refine qM (.pointer (some ⟨o, 0, none⟩)) ?_
 refine qD rfl (yW rfl) (qD rfl (zK (k := 0) rfl Tryz.underlying126 rfl nz75 rfl) (qD rfl (zL (u := (.pointer (some ⟨b, 0, none⟩))) ag75 rfl (hox.cell (o := 0) rfl)) (qD rfl (yW rfl) (qD rfl (zK (k := 0) rfl Tryz.underlying77 rfl nz30 rfl) (qD rfl (zL (u := bu) ag30 rfl (hbx.cell (o := 0) rfl)) (qM (vJ z) ?_))))))
 refine qD rfl (zF Tryz.underlying30 sz65 (v := bu) rfl rfl hou.read (by omega) (by omega)) (qD rfl (xI (off := 1) Tryz.underlying65 rfl rfl nz56 (z := z) (k := 0) rfl hou.read (by omega) (by omega)) ?_)
 obtain ⟨g, aa, be⟩ := nm_nr (hou.at (z := z) (by omega) (by omega)) (j := (z).toNat) rfl
 have bo := aa.max
 refine qD rfl (be ag56 rfl (Gadd.pins ae.pins bu)) (qM g ?_)
 refine qe (zA (zB (zB (zC ?_))))
 refine qM (vJ 0) ?_
 refine qe (zA ?_)
 refine zX (yT (fun (k : Nat) (en : Nat → Value) (W : World) => ∃ (ad : Nat → Value) (i : Nat) (kq : List Int) (c : Pin), en = (upd (upd (upd (upd (upd ad 0 (.pointer (some ⟨o, 0, none⟩))) 1 (vJ y)) 2 (vJ z)) 9 g) 10 (vJ (i : Int))) ∧ k = (ns.getD (z).toNat default).r.length - i ∧ Ext (inO kv.ownBlock) G w c W ∧ Pin.le G c ∧ (i ≤ (ns.getD (z).toNat default).r.length) ∧ (KAll ns kq) ∧ (∀ x, x < i → geB ns y ((ns.getD (z).toNat default).r.getD x 0) = false) ∧ (Own eInt 3 c W 0 kv (kq)) ∧ (Own eNode 65 c W 0 bu (ns)) ∧ (Own eInt 3 c W 0 bv (bs)) ∧ (Bx c W b [bu, bv]) ∧ (Bx c W o [(.pointer (some ⟨b, 0, none⟩)), kv])) _ ⟨_, 0, ks, G, (pS 10 (pS 9 (pS 2 (pS 1 (pU 0))))), rfl, ae, Pin.le_refl _, Nat.zero_le _, hka, (fun x h => absurd h (Nat.not_lt_zero x)), ax, hou, hov, hbx, hox⟩ ?_)
 rintro k6 _ w7 ⟨ad, i, kq, c, rfl, br, af, ah, hj, f, hpp, ay, ai, aj, ak, al⟩
 refine zB (zB (zC ?_))
 refine qM (vJ (i : Int)) ?_
 refine qM g ?_
 refine qD rfl (zM Tryz.underlying56 (v := g) rfl aa) (qD rfl (yV rfl rfl) (qe (zA ?_)))
 refine yA (p := ((i : Int) : Int) < (((ns.getD (z).toNat default).r).length : Int)) rfl rfl (fun bf => ?_) (fun bf => ?_)
 have hki := (xC hok.optsOk (show (z).toNat < ns.length by omega)).2 _ (yC (d := (0 : Int)) (show i < (ns.getD (z).toNat default).r.length by omega))
 refine wp_skip (zA (zB ?_))
 refine zX (zB (zC ?_))
 refine qM (.pointer (some ⟨o, 0, none⟩)) ?_
 refine qM (vJ y) ?_
 refine qM g ?_
 refine qM (vJ (i : Int)) ?_
 refine qD rfl (zF Tryz.underlying56 sz3 (v := g) rfl rfl aa (by omega) (by omega)) (qD rfl (zE (r := ((ns.getD (z).toNat default).r).getD i 0) rfl ag3 (z := (i : Int)) rfl aa (Pins.of_le af.pins ah) (by omega) (by omega)) (qI rfl (zH (vs := [(.pointer (some ⟨o, 0, none⟩)), (vJ y), (vJ (((ns.getD (z).toNat default).r).getD i 0))]) Tryz.func95 nm95 rfl rfl rfl ?_)))
 refine Calls.mono (geq_spec af.pins ⟨⟨ak, ai, aj, habu, habv, hauv⟩, al, ay, haok, habk, hauk, havk⟩ ⟨by omega, by omega⟩ ⟨by omega, by omega⟩ f.1 hok (f.2 _)) ?_
 rintro _ bt ⟨bg, bh, rfl, az, a0, q⟩
 refine ⟨_, rfl, ?_⟩
 have am := af.trans q (fun i hi => hlok i hi)
 have a1 := ai.extS q (notO hauk)
 have a2 := aj.extS q (notO havk)
 have a3 := ak.extS q (xU habk)
 have a4 := al.extS q (xU haok)
 have bw := a0.len
 have a5 := KAll.res f a0
 refine qe (zA ?_)
 refine c_if rfl rfl (fun an => ?_) (fun an => ?_)
 refine zB (zC ?_)
 refine qM g ?_
 refine qM (vJ (i : Int)) ?_
 refine qD rfl (zF Tryz.underlying56 sz3 (v := g) rfl rfl aa (by omega) (by omega)) (qD rfl (zE (r := ((ns.getD (z).toNat default).r).getD i 0) rfl ag3 (z := (i : Int)) rfl aa (Pins.of_le am.pins (Pin.le_trans ah q.le)) (by omega) (by omega)) (qM (vJ (((ns.getD (z).toNat default).r).getD i 0)) ?_))
 refine qe (zA ?_)
 exact wp_ret (zO (zP (v := (vJ (((ns.getD (z).toNat default).r).getD i 0))) rfl rfl rfl (⟨_, _, _, rfl, thr_hit hok.optsOk hz (Or.inl ⟨h1, yC (by omega), an⟩), ⟨⟨a3, a1, a2, habu, habv, hauv⟩, a4, az.ok, haok, habk, hauk, havk⟩, a5, am⟩)))
 refine wp_skip (yB (zA (zC ?_)))
 refine qM (vJ (i : Int)) ?_
 refine qD rfl (yJ rfl rfl (by omega)) (qM (vJ ((i : Int) + 1)) ?_)
 refine qe (zZ (⟨_, ?_, _, rfl, _, i + 1, bg, bh, (pS 10 (pS 9 (pS 2 (pS 1 (pU 0))))), rfl, am, (Pin.le_trans ah q.le), (by omega), a5, (fun x h2 => if h3 : x = i then h3 ▸ an else hpp x (by omega)), az.ok, a1, a2, a3, a4⟩))
 omega
 refine wp_exit (zW (yO (yI (zA (zB (zC ?_))))))
 refine qM (vJ (-1)) ?_
 refine qe (zA ?_)
 exact wp_ret (zO (zP (v := (vJ (-1))) rfl rfl rfl (⟨_, _, _, rfl, (by rw [h1]; exact thr_none_t hok.optsOk hz (fun k hk => hpp k (by omega))), ⟨⟨ak, ai, aj, habu, habv, hauv⟩, al, ay, haok, habk, hauk, havk⟩, f, af⟩)))
 refine wp_skip (zA (zB (zC ?_)))
 refine qM (.pointer (some ⟨o, 0, none⟩)) ?_
 refine qD rfl (yW rfl) (qD rfl (zK (k := 0) rfl Tryz.underlying126 rfl nz75 rfl) (qD rfl (zL (u := (.pointer (some ⟨b, 0, none⟩))) ag75 rfl (hox.cell (o := 0) rfl)) (qD rfl (yW rfl) (qD rfl (zK (k := 0) rfl Tryz.underlying77 rfl nz30 rfl) (qD rfl (zL (u := bu) ag30 rfl (hbx.cell (o := 0) rfl)) (qM (vJ z) ?_))))))
 refine qD rfl (zF Tryz.underlying30 sz65 (v := bu) rfl rfl hou.read (by omega) (by omega)) (qD rfl (xI (off := 0) Tryz.underlying65 rfl rfl nz56 (z := z) (k := 0) rfl hou.read (by omega) (by omega)) ?_)
 obtain ⟨m, ab, bj⟩ := nm_nl (hou.at (z := z) (by omega) (by omega)) (j := (z).toNat) rfl
 have bz := ab.max
 refine qD rfl (bj ag56 rfl (Gadd.pins ae.pins bu)) (qM m ?_)
 refine qe (zA (zB (zB (zC ?_))))
 refine qM (vJ 0) ?_
 refine qe (zA ?_)
 refine zX (yT (fun (k : Nat) (en : Nat → Value) (W : World) => ∃ (ad : Nat → Value) (a : Nat) (kq : List Int) (c : Pin), en = (upd (upd (upd (upd ad 0 (.pointer (some ⟨o, 0, none⟩))) 1 (vJ y)) 11 m) 12 (vJ (a : Int))) ∧ k = (ns.getD (z).toNat default).l.length - a ∧ Ext (inO kv.ownBlock) G w c W ∧ Pin.le G c ∧ (a ≤ (ns.getD (z).toNat default).l.length) ∧ (KAll ns kq) ∧ (∀ x, x < a → geB ns ((ns.getD (z).toNat default).l.getD x 0) y = false) ∧ (Own eInt 3 c W 0 kv (kq)) ∧ (Own eNode 65 c W 0 bu (ns)) ∧ (Own eInt 3 c W 0 bv (bs)) ∧ (Bx c W b [bu, bv]) ∧ (Bx c W o [(.pointer (some ⟨b, 0, none⟩)), kv])) _ ⟨_, 0, ks, G, (pS 12 (pS 11 (pS 1 (pU 0)))), rfl, ae, Pin.le_refl _, Nat.zero_le _, hka, (fun x h => absurd h (Nat.not_lt_zero x)), ax, hou, hov, hbx, hox⟩ ?_)
 rintro b0 _ b1 ⟨ad, a, kq, c, rfl, b2, ag, ao, hj, f, hpp, a6, ap, aq, ar, au⟩
 refine zB (zB (zC ?_))
 refine qM (vJ (a : Int)) ?_
 refine qM m ?_
 refine qD rfl (zM Tryz.underlying56 (v := m) rfl ab) (qD rfl (yV rfl rfl) (qe (zA ?_)))
 refine yA (p := ((a : Int) : Int) < (((ns.getD (z).toNat default).l).length : Int)) rfl rfl (fun bl => ?_) (fun bl => ?_)
 have hki := (xC hok.optsOk (show (z).toNat < ns.length by omega)).1 _ (yC (d := (0 : Int)) (show a < (ns.getD (z).toNat default).l.length by omega))
 refine wp_skip (zA (zB ?_))
 refine zX (zB (zC ?_))
 refine qM (.pointer (some ⟨o, 0, none⟩)) ?_
 refine qM m ?_
 refine qM (vJ (a : Int)) ?_
 refine qD rfl (zF Tryz.underlying56 sz3 (v := m) rfl rfl ab (by omega) (by omega)) (qD rfl (zE (r := ((ns.getD (z).toNat default).l).getD a 0) rfl ag3 (z := (a : Int)) rfl ab (Pins.of_le ag.pins ao) (by omega) (by omega)) (qM (vJ y) ?_))
 refine qI rfl (zH (vs := [(.pointer (some ⟨o, 0, none⟩)), (vJ (((ns.getD (z).toNat default).l).getD a 0)), (vJ y)]) Tryz.func95 nm95 rfl rfl rfl ?_)
 refine Calls.mono (geq_spec ag.pins ⟨⟨ar, ap, aq, habu, habv, hauv⟩, au, a6, haok, habk, hauk, havk⟩ ⟨by omega, by omega⟩ ⟨by omega, by omega⟩ f.1 hok (f.2 _)) ?_
 rintro _ b3 ⟨bm, bn, rfl, a7, a8, s⟩
 refine ⟨_, rfl, ?_⟩
 have av := ag.trans s (fun i hi => hlok i hi)
 have a9 := ap.extS s (notO hauk)
 have ba := aq.extS s (notO havk)
 have bb := ar.extS s (xU habk)
 have bc := au.extS s (xU haok)
 have b4 := a8.len
 have bd := KAll.res f a8
 refine qe (zA ?_)
 refine c_if rfl rfl (fun aw => ?_) (fun aw => ?_)
 refine zB (zC ?_)
 refine qM m ?_
 refine qM (vJ (a : Int)) ?_
 refine qD rfl (zF Tryz.underlying56 sz3 (v := m) rfl rfl ab (by omega) (by omega)) (qD rfl (zE (r := ((ns.getD (z).toNat default).l).getD a 0) rfl ag3 (z := (a : Int)) rfl ab (Pins.of_le av.pins (Pin.le_trans ao s.le)) (by omega) (by omega)) (qM (vJ (((ns.getD (z).toNat default).l).getD a 0)) ?_))
 refine qe (zA ?_)
 exact wp_ret (zO (zP (v := (vJ (((ns.getD (z).toNat default).l).getD a 0))) rfl rfl rfl (⟨_, _, _, rfl, thr_hit hok.optsOk hz (Or.inr ⟨h1, yC (by omega), aw⟩), ⟨⟨bb, a9, ba, habu, habv, hauv⟩, bc, a7.ok, haok, habk, hauk, havk⟩, bd, av⟩)))
 refine wp_skip (yB (zA (zC ?_)))
 refine qM (vJ (a : Int)) ?_
 refine qD rfl (yJ rfl rfl (by omega)) (qM (vJ ((a : Int) + 1)) ?_)
 refine qe (zZ (⟨_, ?_, _, rfl, _, a + 1, bm, bn, (pS 12 (pS 11 (pS 1 (pU 0)))), rfl, av, (Pin.le_trans ao s.le), (by omega), bd, (fun x h2 => if h3 : x = a then h3 ▸ aw else hpp x (by omega)), a7.ok, a9, ba, bb, bc⟩))
 omega
 refine wp_exit (zW (yO (yI (zA (zB (zC ?_))))))
 refine qM (vJ (-1)) ?_
 refine qe (zA ?_)
 exact wp_ret (zO (zP (v := (vJ (-1))) rfl rfl rfl (⟨_, _, _, rfl, (by rw [h1]; exact thr_none_f hok.optsOk hz (fun k hk => hpp k (by omega))), ⟨⟨ar, ap, aq, habu, habv, hauv⟩, au, a6, haok, habk, hauk, havk⟩, f, ag⟩)))

theorem l6Dominated_spec {w : World} {G : Pin} {o b : Nat} {bu bv kv : Value} {ns : List Nd} {bs : List Int} {ks : List Int} {x : Value} {xs : List Int} {lf : Bool} (hP : Pins G w) (hO : Od 65 3 G w o b bu bv kv ns bs ks) (hx : RSl eInt G x xs) (hxl : xs.length ≤ 1048576) (hpl : ∀ i, i < xs.length → 0 ≤ xs.getD i 0 ∧ xs.getD i 0 < ns.length) (hok : BookOk ns bs) (hka : KAll ns ks) :
  Calls Tryz.prog 88 [(.pointer (some ⟨o, 0, none⟩)), x, (.bool lf)].toArray w fun e w' => ∃ (u : Value) (ks' : List Int) (G' : Pin), e = .returned u ∧ RSl eInt G' u (domL (gN ns xs) lf xs.length xs.length) ∧ Od 65 3 G' w' o b bu bv kv ns bs ks' ∧ KAll ns ks' ∧ Ext (inO kv.ownBlock) G w G' w' := by
 refine zV (n := 68) Tryz.func88 Tryz.ntmps88 rfl rfl ?_
 have a4 : Ext (inO kv.ownBlock) G w G w := Ext.refl hP
 have hB := hO.bk
 have hbx := hB.bx
 have hou := hB.ou
 have hov := hB.ov
 have habu := hB.abu
 have habv := hB.abv
 have hauv := hB.auv
 have hlen := hok.len
 have hlim := hok.lim
 have hox := hO.ox
 have bd := hO.ok
 have haok := hO.aok
 have habk := hO.abk
 have hauk := hO.auk
 have havk := hO.avk
 have hlok : Lo w (inO kv.ownBlock) kv.ownBlock := xK
 have hoo : OptsOk ns := hok.optsOk
 have hlens := hok.lens
 have hxm := hx.max
 refine zB (zC ?_)
 refine qM (.slice none 0 0) ?_
 refine qe (zA (zB (zC ?_)))
 refine qI rfl (xD (E := eInt) (e := 3) Tryz.underlying56 sz3 a4.pins (fun u1 w2 cd ce aq au => ?_))
 have cf := a4.step ce aq
 have cg := hou.below aq
 have ch := hov.below aq
 have ci := bd.below aq
 have cj := hbx.below aq
 have ck := hox.below aq
 have cl : Apart u1.ownBlock bu.ownBlock := zI au hou.lt
 have cm : Apart u1.ownBlock bv.ownBlock := zI au hov.lt
 have cn : Apart u1.ownBlock kv.ownBlock := zI au bd.lt
 have co : Apart u1.ownBlock (some b) := zJ au hbx.lt
 have cp : Apart u1.ownBlock (some o) := zJ au hox.lt
 have cq : Own eInt 3 G w2 w.heap.size u1 ([]) := cd.weaken a4.size
 refine qM u1 ?_
 refine qe (zA (zB (zB (zC ?_))))
 refine qM (vJ 0) ?_
 refine qe (zA ?_)
 refine zX ?_
 obtain ⟨be, ak, cr, cs, av⟩ := cq.sealed cf
 have ct := cg.moreO ak av cl.symm
 have cu := ch.moreO ak av cm.symm
 have cv := ci.moreO ak av cn.symm
 have cw := cj.moreO av co.symm
 have cx := ck.moreO av cp.symm
 refine yT (fun (k : Nat) (en : Nat → Value) (W : World) => ∃ (aw : Nat → Value) (i : Nat) (kq : List Int) (ov : Value) (out : List Int) (s : Pin), en = (upd (upd (upd (upd (upd (upd aw 0 (.pointer (some ⟨o, 0, none⟩))) 1 x) 2 (.bool lf)) 6 (.slice none 0 0)) 7 ov) 8 (vJ (i : Int))) ∧ k = xs.length - i ∧ Ext (inO kv.ownBlock) G w s W ∧ Pin.le be s ∧ (i ≤ xs.length) ∧ (KAll ns kq) ∧ (out = domL (gN ns xs) lf xs.length i) ∧ (Own eInt 3 s W 0 kv (kq)) ∧ (Own eNode 65 s W 0 bu (ns)) ∧ (Own eInt 3 s W 0 bv (bs)) ∧ (Bx s W b [bu, bv]) ∧ (Bx s W o [(.pointer (some ⟨b, 0, none⟩)), kv]) ∧ (RSl eInt s ov (out))) _ ⟨_, 0, ks, u1, [], be, (pS 8 (pS 7 (pS 6 (pS 2 (pS 1 (pU 0)))))), rfl, cr, Pin.le_refl _, Nat.zero_le _, hka, rfl, cv, ct, cu, cw, cx, cs⟩ ?_
 rintro d0 _ d1 ⟨aw, i, kq, ov, out, s, rfl, d2, bf, ax, hi, bg, hout, bh, bi, bj, bl, bm, bn⟩
 have hol : out.length ≤ i := by rw [hout]; exact (dom_len i).1
 refine zB (zB (zC ?_))
 refine qM (vJ (i : Int)) ?_
 refine qM x ?_
 refine qD rfl (zM Tryz.underlying56 (v := x) rfl hx) (qD rfl (yV rfl rfl) (qe (zA ?_)))
 refine yA (p := ((i : Int) : Int) < (xs.length : Int)) rfl rfl (fun cy => ?_) (fun cy => ?_)
 refine wp_skip (zA (zB ?_))
 refine zX (zB (zC ?_))
 refine qM (vJ 0) ?_
 refine qe (zA ?_)
 refine zX (yT (fun (k : Nat) (en : Nat → Value) (W : World) => ∃ (aw : Nat → Value) (j : Nat) (ay : List Int) (f : Value) (l : List Int) (y : Pin), en = (upd (upd (upd (upd (upd (upd (upd aw 0 (.pointer (some ⟨o, 0, none⟩))) 1 x) 2 (.bool lf)) 6 (.slice none 0 0)) 7 f) 8 (vJ (i : Int))) 9 (vJ (j : Int))) ∧ k = xs.length - j ∧ Ext (inO kv.ownBlock) G w y W ∧ Pin.le s y ∧ (j ≤ xs.length) ∧ (KAll ns ay) ∧ (l = domI out (domB (gN ns xs) lf i j) (i : Int)) ∧ (Own eInt 3 y W 0 kv (ay)) ∧ (Own eNode 65 y W 0 bu (ns)) ∧ (Own eInt 3 y W 0 bv (bs)) ∧ (Bx y W b [bu, bv]) ∧ (Bx y W o [(.pointer (some ⟨b, 0, none⟩)), kv]) ∧ (RSl eInt y f (l))) _ ⟨_, 0, kq, ov, out, s, (pS 9 (pS 8 (pS 7 (pS 6 (pS 2 (pS 1 (pU 0))))))), rfl, bf, Pin.le_refl _, Nat.zero_le _, bg, domI_start, bh, bi, bj, bl, bm, bn⟩ ?_)
 rintro d3 _ a5 ⟨aw, j, ay, f, l, y, rfl, d4, a6, m, hj, az, q, bo, bp, bq, br, bt, aa⟩
 have d5 : l.length ≤ out.length + 1 := by rw [q]; exact domI_len
 refine zB (zB (zC ?_))
 refine qM (vJ (j : Int)) ?_
 refine qM x ?_
 refine qD rfl (zM Tryz.underlying56 (v := x) rfl hx) (qD rfl (yV rfl rfl) (qe (zA ?_)))
 refine yA (p := ((j : Int) : Int) < (xs.length : Int)) rfl rfl (fun cz => ?_) (fun cz => ?_)
 refine wp_skip (zA (zB ?_))
 refine zX (zB (yZ (S := fun wz => Pins y wz) (last := 22) (by kernel_rfl) rfl ?_))
 have al : Below a5.heap.size a5 a5.drew := (Below.refl _ _).drew
 have c0 := a6.pins.below al
 have d := a6.step c0 al
 have c1 := bo.below al
 have bw := bp.below al
 have bz := bq.below al
 have b0 := br.below al
 have b1 := bt.below al
 refine dM 0 (.pointer (some ⟨o, 0, none⟩)) d.pins ?_
 refine dM 1 x d.pins ?_
 refine dM 2 (vJ (j : Int)) d.pins ?_
 refine dT (i := 3) rfl rfl (by kernel_rfl) (fun _ _ => zF Tryz.underlying56 sz3 (v := x) rfl rfl hx (by omega) (by omega)) d.pins ?_
 refine dT (i := 4) rfl rfl (by kernel_rfl) (fun _ hS => zE (r := xs.getD j 0) rfl ag3 (z := (j : Int)) rfl hx (Pins.of_le hS (Pin.le_trans (Pin.le_trans ak ax) m)) (by omega) (by omega)) d.pins ?_
 refine dM 5 x d.pins ?_
 refine dM 6 (vJ (i : Int)) d.pins ?_
 refine dT (i := 7) rfl rfl (by kernel_rfl) (fun _ _ => zF Tryz.underlying56 sz3 (v := x) rfl rfl hx (by omega) (by omega)) d.pins ?_
 refine dT (i := 8) rfl rfl (by kernel_rfl) (fun _ hS => zE (r := xs.getD i 0) rfl ag3 (z := (i : Int)) rfl hx (Pins.of_le hS (Pin.le_trans (Pin.le_trans ak ax) m)) (by omega) (by omega)) d.pins ?_
 refine dM 10 (.pointer (some ⟨o, 0, none⟩)) d.pins ?_
 refine dM 11 x d.pins ?_
 refine dM 12 (vJ (i : Int)) d.pins ?_
 refine dT (i := 13) rfl rfl (by kernel_rfl) (fun _ _ => zF Tryz.underlying56 sz3 (v := x) rfl rfl hx (by omega) (by omega)) d.pins ?_
 refine dT (i := 14) rfl rfl (by kernel_rfl) (fun _ hS => zE (r := xs.getD i 0) rfl ag3 (z := (i : Int)) rfl hx (Pins.of_le hS (Pin.le_trans (Pin.le_trans ak ax) m)) (by omega) (by omega)) d.pins ?_
 refine dM 15 x d.pins ?_
 refine dM 16 (vJ (j : Int)) d.pins ?_
 refine dT (i := 17) rfl rfl (by kernel_rfl) (fun _ _ => zF Tryz.underlying56 sz3 (v := x) rfl rfl hx (by omega) (by omega)) d.pins ?_
 refine dT (i := 18) rfl rfl (by kernel_rfl) (fun _ hS => zE (r := xs.getD j 0) rfl ag3 (z := (j : Int)) rfl hx (Pins.of_le hS (Pin.le_trans (Pin.le_trans ak ax) m)) (by omega) (by omega)) d.pins ?_
 refine dO (i := 9) (zU (i := 9) rfl rfl rfl (zD rfl _) (zH (vs := [(.pointer (some ⟨o, 0, none⟩)), (vJ (xs.getD j 0)), (vJ (xs.getD i 0))]) Tryz.func95 nm95 rfl rfl rfl ?_))
 refine Calls.mono (geq_spec d.pins ⟨⟨b0, bw, bz, habu, habv, hauv⟩, b1, c1, haok, habk, hauk, havk⟩ (hpl j (by omega)) (hpl i (by omega)) az.1 hok (az.2 _)) ?_
 rintro _ d6 ⟨d7, d8, rfl, c2, b2, a⟩
 refine ⟨_, rfl, ?_⟩
 have a7 := d.trans a (fun i hi => hlok i hi)
 have b3 := bw.extS a (notO hauk)
 have b4 := bz.extS a (notO havk)
 have b5 := b0.extS a (xU habk)
 have b6 := b1.extS a (xU haok)
 have d9 := b2.len
 have a8 := KAll.res az b2
 refine ⟨fun _ => (Pins.of_le a7.pins a.le), ?_⟩
 refine dO (i := 19) (zU (i := 19) rfl rfl rfl (zD rfl _) (zH (vs := [(.pointer (some ⟨o, 0, none⟩)), (vJ (xs.getD i 0)), (vJ (xs.getD j 0))]) Tryz.func95 nm95 rfl rfl rfl ?_))
 refine Calls.mono (geq_spec a7.pins ⟨⟨b5, b3, b4, habu, habv, hauv⟩, b6, c2.ok, haok, habk, hauk, havk⟩ (hpl i (by omega)) (hpl j (by omega)) a8.1 hok (a8.2 _)) ?_
 rintro _ ea ⟨ac, ar, rfl, ad, b7, c⟩
 refine ⟨_, rfl, ?_⟩
 have g := a7.trans c (fun i hi => hlok i hi)
 have ae := b3.extS c (notO hauk)
 have af := b4.extS c (notO havk)
 have ag := b5.extS c (xU habk)
 have ah := b6.extS c (xU haok)
 have eb := b7.len
 have ai := KAll.res a8 b7
 refine ⟨fun _ => (Pins.of_le g.pins (Pin.le_trans a.le c.le)), ?_⟩
 refine dM 20 (.bool (geB ns (xs.getD j 0) (xs.getD i 0))) (Pins.of_le g.pins (Pin.le_trans a.le c.le)) ?_
 refine dM 21 (.bool (geB ns (xs.getD i 0) (xs.getD j 0))) (Pins.of_le g.pins (Pin.le_trans a.le c.le)) ?_
 refine yQ (by kernel_rfl) (zA (zB (zB (zC ?_))))
 refine qM (.bool lf) ?_
 refine qD rfl (xE rfl) (qe (zA ?_))
 refine xX rfl rfl (fun ab => ?_) (fun ab => ?_)
 refine wp_skip (zA (zB (zC ?_)))
 refine qM (vJ (j : Int)) ?_
 refine qM (vJ (i : Int)) ?_
 refine qD rfl (jG rfl rfl) (qM (.bool (decide (((j : Int) : Int) ≠ (i : Int)))) ?_)
 refine qbd (p := ((j : Int) : Int) ≠ (i : Int)) (t := 52) rfl (fun a0 => ?_) (fun a0 => ?_)
 refine qN (zQ (v := (.bool (geB ns (xs.getD j 0) (xs.getD i 0)))) rfl) ?_
 refine qD rfl (yD (v := (.bool (geB ns (xs.getD j 0) (xs.getD i 0)))) rfl rfl) (qM (.bool (geB ns (xs.getD j 0) (xs.getD i 0))) ?_)
 refine qb (t := 55) rfl (fun a1 => ?_) (fun a1 => ?_)
 refine qN (zQ (v := (.bool (geB ns (xs.getD i 0) (xs.getD j 0)))) rfl) ?_
 refine qN (xE rfl) ?_
 refine qN (zQ (v := (.bool (!(geB ns (xs.getD i 0) (xs.getD j 0))))) rfl) ?_
 refine qbn (t := 58) rfl (fun a9 => ?_) (fun a9 => ?_)
 refine qN (zQ (v := (vJ (j : Int))) rfl) ?_
 refine qN (zQ (v := (vJ (i : Int))) rfl) ?_
 refine qN (yV rfl rfl) ?_
 refine qN (zY (v := (.bool (decide (((j : Int) : Int) < (i : Int))))) rfl rfl) ?_
 refine qD rfl (yD (v := (.bool (decide (((j : Int) : Int) < (i : Int))))) rfl rfl) (qe (zA ?_))
 refine yA (p := ((j : Int) : Int) < (i : Int)) rfl rfl (fun ba => ?_) (fun ba => ?_)
 refine zC (qM f ?_)
 refine qM (vJ (i : Int)) ?_
 refine qI rfl (zH (vs := [f, (vJ (i : Int))]) Tryz.func98 nm98 rfl rfl rfl ?_)
 refine Calls.mono (jD g.pins (aa.mono (Pin.le_trans a.le c.le)) (by omega)) ?_
 rintro _ ec ⟨b8, c3, rfl, c4, am⟩
 refine ⟨_, rfl, ?_⟩
 have c5 := g.tr am
 have c6 := ad.ok.ext am
 have c7 := ae.ext am
 have c8 := af.ext am
 have c9 := ag.ext am
 have da := ah.ext am
 refine qM b8 ?_
 refine qe (yB (zA (zC ?_)))
 refine qM (vJ (j : Int)) ?_
 refine qD rfl (yJ rfl rfl (by omega)) (qM (vJ ((j : Int) + 1)) ?_)
 refine qe (zZ (⟨_, ?_, _, rfl, _, j + 1, ac, b8, putL l (i : Int), c3, (pS 9 (pS 8 (pS 7 (pS 6 (pS 2 (pS 1 (pU 0))))))), rfl, c5, (Pin.le_trans (Pin.le_trans (Pin.le_trans m a.le) c.le) am.le), (by omega), ai, (domI_yes q (by rw [hout]; exact (dom_len i).2) ⟨a0, (geD_t ab).2 (decP_true.1 a1), Or.inr ba⟩), c6, c7, c8, c9, da, c4⟩))
 omega
 refine wp_skip (yB (zA (zC ?_)))
 refine qM (vJ (j : Int)) ?_
 refine qD rfl (yJ rfl rfl (by omega)) (qM (vJ ((j : Int) + 1)) ?_)
 refine qe (zZ (⟨_, ?_, _, rfl, _, j + 1, ac, f, l, ar, (pS 9 (pS 8 (pS 7 (pS 6 (pS 2 (pS 1 (pU 0))))))), rfl, g, (Pin.le_trans (Pin.le_trans m a.le) c.le), (by omega), ai, (domI_no q (fun p => p.2.2.elim (fun h => h ((geD_t ab).2 (decP_true.1 a9))) ba)), ad.ok, ae, af, ag, ah, (aa.mono (Pin.le_trans a.le c.le))⟩))
 omega
 refine qW ?_
 refine qW ?_
 refine qW ?_
 refine qN (yD (v := (.bool true)) rfl rfl) ?_
 refine qD rfl (yD (v := (.bool true)) rfl rfl) (qe (zA ?_))
 refine xY rfl rfl (zC (qM f ?_))
 refine qM (vJ (i : Int)) ?_
 refine qI rfl (zH (vs := [f, (vJ (i : Int))]) Tryz.func98 nm98 rfl rfl rfl ?_)
 refine Calls.mono (jD g.pins (aa.mono (Pin.le_trans a.le c.le)) (by omega)) ?_
 rintro _ ed ⟨b9, db, rfl, dc, an⟩
 refine ⟨_, rfl, ?_⟩
 have dd := g.tr an
 have de := ad.ok.ext an
 have df := ae.ext an
 have dg := af.ext an
 have dh := ag.ext an
 have di := ah.ext an
 refine qM b9 ?_
 refine qe (yB (zA (zC ?_)))
 refine qM (vJ (j : Int)) ?_
 refine qD rfl (yJ rfl rfl (by omega)) (qM (vJ ((j : Int) + 1)) ?_)
 refine qe (zZ (⟨_, ?_, _, rfl, _, j + 1, ac, b9, putL l (i : Int), db, (pS 9 (pS 8 (pS 7 (pS 6 (pS 2 (pS 1 (pU 0))))))), rfl, dd, (Pin.le_trans (Pin.le_trans (Pin.le_trans m a.le) c.le) an.le), (by omega), ai, (domI_yes q (by rw [hout]; exact (dom_len i).2) ⟨a0, (geD_t ab).2 (decP_true.1 a1), Or.inl (fun h => (decP_false.1 a9) ((geD_t ab).1 h))⟩), de, df, dg, dh, di, dc⟩))
 omega
 refine qW ?_
 refine qW ?_
 refine qW ?_
 refine qX ?_
 refine qX ?_
 refine qX ?_
 refine qW ?_
 refine qD rfl (zY (v := (.bool false)) rfl rfl) (qe (zA ?_))
 refine qA rfl rfl (wp_skip (yB (zA (zC ?_))))
 refine qM (vJ (j : Int)) ?_
 refine qD rfl (yJ rfl rfl (by omega)) (qM (vJ ((j : Int) + 1)) ?_)
 refine qe (zZ (⟨_, ?_, _, rfl, _, j + 1, ac, f, l, ar, (pS 9 (pS 8 (pS 7 (pS 6 (pS 2 (pS 1 (pU 0))))))), rfl, g, (Pin.le_trans (Pin.le_trans m a.le) c.le), (by omega), ai, (domI_no q (fun p => (decP_false.1 a1) ((geD_t ab).1 p.2.1))), ad.ok, ae, af, ag, ah, (aa.mono (Pin.le_trans a.le c.le))⟩))
 omega
 refine qW ?_
 refine qD rfl (zY (v := (.bool false)) rfl rfl) (qM (.bool false) ?_)
 refine qW ?_
 refine qW ?_
 refine qW ?_
 refine qX ?_
 refine qX ?_
 refine qX ?_
 refine qW ?_
 refine qD rfl (zY (v := (.bool false)) rfl rfl) (qe (zA ?_))
 refine qA rfl rfl (wp_skip (yB (zA (zC ?_))))
 refine qM (vJ (j : Int)) ?_
 refine qD rfl (yJ rfl rfl (by omega)) (qM (vJ ((j : Int) + 1)) ?_)
 refine qe (zZ (⟨_, ?_, _, rfl, _, j + 1, ac, f, l, ar, (pS 9 (pS 8 (pS 7 (pS 6 (pS 2 (pS 1 (pU 0))))))), rfl, g, (Pin.le_trans (Pin.le_trans m a.le) c.le), (by omega), ai, (domI_no q (fun p => a0 p.1)), ad.ok, ae, af, ag, ah, (aa.mono (Pin.le_trans a.le c.le))⟩))
 omega
 refine zC (qM (.bool (geB ns (xs.getD i 0) (xs.getD j 0))) ?_)
 refine qM (.bool (geB ns (xs.getD j 0) (xs.getD i 0))) ?_
 refine qM (.bool (geB ns (xs.getD i 0) (xs.getD j 0))) ?_
 refine qM (.bool (geB ns (xs.getD j 0) (xs.getD i 0))) ?_
 refine qe (zA (zB (zC ?_)))
 refine qM (vJ (j : Int)) ?_
 refine qM (vJ (i : Int)) ?_
 refine qD rfl (jG rfl rfl) (qM (.bool (decide (((j : Int) : Int) ≠ (i : Int)))) ?_)
 refine qbd (p := ((j : Int) : Int) ≠ (i : Int)) (t := 52) rfl (fun a2 => ?_) (fun a2 => ?_)
 refine qN (zQ (v := (.bool (geB ns (xs.getD i 0) (xs.getD j 0)))) rfl) ?_
 refine qD rfl (yD (v := (.bool (geB ns (xs.getD i 0) (xs.getD j 0)))) rfl rfl) (qM (.bool (geB ns (xs.getD i 0) (xs.getD j 0))) ?_)
 refine qb (t := 55) rfl (fun a3 => ?_) (fun a3 => ?_)
 refine qN (zQ (v := (.bool (geB ns (xs.getD j 0) (xs.getD i 0)))) rfl) ?_
 refine qN (xE rfl) ?_
 refine qN (zQ (v := (.bool (!(geB ns (xs.getD j 0) (xs.getD i 0))))) rfl) ?_
 refine qbn (t := 58) rfl (fun bb => ?_) (fun bb => ?_)
 refine qN (zQ (v := (vJ (j : Int))) rfl) ?_
 refine qN (zQ (v := (vJ (i : Int))) rfl) ?_
 refine qN (yV rfl rfl) ?_
 refine qN (zY (v := (.bool (decide (((j : Int) : Int) < (i : Int))))) rfl rfl) ?_
 refine qD rfl (yD (v := (.bool (decide (((j : Int) : Int) < (i : Int))))) rfl rfl) (qe (zA ?_))
 refine yA (p := ((j : Int) : Int) < (i : Int)) rfl rfl (fun bc => ?_) (fun bc => ?_)
 refine zC (qM f ?_)
 refine qM (vJ (i : Int)) ?_
 refine qI rfl (zH (vs := [f, (vJ (i : Int))]) Tryz.func98 nm98 rfl rfl rfl ?_)
 refine Calls.mono (jD g.pins (aa.mono (Pin.le_trans a.le c.le)) (by omega)) ?_
 rintro _ ee ⟨ca, dj, rfl, dk, ao⟩
 refine ⟨_, rfl, ?_⟩
 have dl := g.tr ao
 have dm := ad.ok.ext ao
 have dn := ae.ext ao
 have dp := af.ext ao
 have dq := ag.ext ao
 have dr := ah.ext ao
 refine qM ca ?_
 refine qe (yB (zA (zC ?_)))
 refine qM (vJ (j : Int)) ?_
 refine qD rfl (yJ rfl rfl (by omega)) (qM (vJ ((j : Int) + 1)) ?_)
 refine qe (zZ (⟨_, ?_, _, rfl, _, j + 1, ac, ca, putL l (i : Int), dj, (pS 9 (pS 8 (pS 7 (pS 6 (pS 2 (pS 1 (pU 0))))))), rfl, dl, (Pin.le_trans (Pin.le_trans (Pin.le_trans m a.le) c.le) ao.le), (by omega), ai, (domI_yes q (by rw [hout]; exact (dom_len i).2) ⟨a2, (geD_f ab).2 (decP_true.1 a3), Or.inr bc⟩), dm, dn, dp, dq, dr, dk⟩))
 omega
 refine wp_skip (yB (zA (zC ?_)))
 refine qM (vJ (j : Int)) ?_
 refine qD rfl (yJ rfl rfl (by omega)) (qM (vJ ((j : Int) + 1)) ?_)
 refine qe (zZ (⟨_, ?_, _, rfl, _, j + 1, ac, f, l, ar, (pS 9 (pS 8 (pS 7 (pS 6 (pS 2 (pS 1 (pU 0))))))), rfl, g, (Pin.le_trans (Pin.le_trans m a.le) c.le), (by omega), ai, (domI_no q (fun p => p.2.2.elim (fun h => h ((geD_f ab).2 (decP_true.1 bb))) bc)), ad.ok, ae, af, ag, ah, (aa.mono (Pin.le_trans a.le c.le))⟩))
 omega
 refine qW ?_
 refine qW ?_
 refine qW ?_
 refine qN (yD (v := (.bool true)) rfl rfl) ?_
 refine qD rfl (yD (v := (.bool true)) rfl rfl) (qe (zA ?_))
 refine xY rfl rfl (zC (qM f ?_))
 refine qM (vJ (i : Int)) ?_
 refine qI rfl (zH (vs := [f, (vJ (i : Int))]) Tryz.func98 nm98 rfl rfl rfl ?_)
 refine Calls.mono (jD g.pins (aa.mono (Pin.le_trans a.le c.le)) (by omega)) ?_
 rintro _ ef ⟨cb, ds, rfl, dt, ap⟩
 refine ⟨_, rfl, ?_⟩
 have du := g.tr ap
 have dv := ad.ok.ext ap
 have dw := ae.ext ap
 have dx := af.ext ap
 have dy := ag.ext ap
 have dz := ah.ext ap
 refine qM cb ?_
 refine qe (yB (zA (zC ?_)))
 refine qM (vJ (j : Int)) ?_
 refine qD rfl (yJ rfl rfl (by omega)) (qM (vJ ((j : Int) + 1)) ?_)
 refine qe (zZ (⟨_, ?_, _, rfl, _, j + 1, ac, cb, putL l (i : Int), ds, (pS 9 (pS 8 (pS 7 (pS 6 (pS 2 (pS 1 (pU 0))))))), rfl, du, (Pin.le_trans (Pin.le_trans (Pin.le_trans m a.le) c.le) ap.le), (by omega), ai, (domI_yes q (by rw [hout]; exact (dom_len i).2) ⟨a2, (geD_f ab).2 (decP_true.1 a3), Or.inl (fun h => (decP_false.1 bb) ((geD_f ab).1 h))⟩), dv, dw, dx, dy, dz, dt⟩))
 omega
 refine qW ?_
 refine qW ?_
 refine qW ?_
 refine qX ?_
 refine qX ?_
 refine qX ?_
 refine qW ?_
 refine qD rfl (zY (v := (.bool false)) rfl rfl) (qe (zA ?_))
 refine qA rfl rfl (wp_skip (yB (zA (zC ?_))))
 refine qM (vJ (j : Int)) ?_
 refine qD rfl (yJ rfl rfl (by omega)) (qM (vJ ((j : Int) + 1)) ?_)
 refine qe (zZ (⟨_, ?_, _, rfl, _, j + 1, ac, f, l, ar, (pS 9 (pS 8 (pS 7 (pS 6 (pS 2 (pS 1 (pU 0))))))), rfl, g, (Pin.le_trans (Pin.le_trans m a.le) c.le), (by omega), ai, (domI_no q (fun p => (decP_false.1 a3) ((geD_f ab).1 p.2.1))), ad.ok, ae, af, ag, ah, (aa.mono (Pin.le_trans a.le c.le))⟩))
 omega
 refine qW ?_
 refine qD rfl (zY (v := (.bool false)) rfl rfl) (qM (.bool false) ?_)
 refine qW ?_
 refine qW ?_
 refine qW ?_
 refine qX ?_
 refine qX ?_
 refine qX ?_
 refine qW ?_
 refine qD rfl (zY (v := (.bool false)) rfl rfl) (qe (zA ?_))
 refine qA rfl rfl (wp_skip (yB (zA (zC ?_))))
 refine qM (vJ (j : Int)) ?_
 refine qD rfl (yJ rfl rfl (by omega)) (qM (vJ ((j : Int) + 1)) ?_)
 refine qe (zZ (⟨_, ?_, _, rfl, _, j + 1, ac, f, l, ar, (pS 9 (pS 8 (pS 7 (pS 6 (pS 2 (pS 1 (pU 0))))))), rfl, g, (Pin.le_trans (Pin.le_trans m a.le) c.le), (by omega), ai, (domI_no q (fun p => a2 p.1)), ad.ok, ae, af, ag, ah, (aa.mono (Pin.le_trans a.le c.le))⟩))
 omega
 refine wp_exit (zW (yO (yI (yB (zA (zC ?_))))))
 refine qM (vJ (i : Int)) ?_
 refine qD rfl (yJ rfl rfl (by omega)) (qM (vJ ((i : Int) + 1)) ?_)
 refine qe (zZ ?_)
 have hjn : j = xs.length := by omega
 rw [hjn, hout] at q
 refine ⟨_, ?_, _, rfl, _, i + 1, ay, f, l, y, (pS 8 (pS 7 (pS 6 (pS 2 (pS 1 (pU 0)))))), rfl, a6, (Pin.le_trans ax m), (by omega), az, (domI_end q), bo, bp, bq, br, bt, aa⟩
 omega
 refine wp_exit (zW (yO (yI (zA (zB (zC ?_))))))
 refine qM ov ?_
 refine qM ov ?_
 refine qe (zA ?_)
 refine wp_ret (zO (zP (v := ov) rfl rfl rfl ?_))
 have hin : i = xs.length := by omega
 rw [hin] at hout
 exact ⟨_, _, _, rfl, (by rw [← hout]; exact bn), ⟨⟨bl, bi, bj, habu, habv, hauv⟩, bm, bh, haok, habk, hauk, havk⟩, bg, bf⟩

theorem l1Has_spec {w : World} {G : Pin} {v : Value} {xs : List Int} {n : Int} (hP : Pins G w) (hv : RSl eInt G v xs) :
  Calls Tryz.prog 106 [v, (.int .i64 n)].toArray w fun e w' => ∃ G', e = .returned (.bool (decide (n ∈ xs))) ∧ Ext noS G w G' w' := by
 refine zV (n := 18) Tryz.func106 Tryz.ntmps106 rfl rfl ?_
 have g : Ext noS G w G w := Ext.refl hP
 have hm := hv.max
 refine zB (zC ?_)
 refine qM (.bool false) ?_
 refine qe (zA (zB (zB (zC ?_))))
 refine qM (.int .i64 0) ?_
 refine qe (zA ?_)
 refine zX (yT (fun (k : Nat) (en : Nat → Value) (W : World) => ∃ (d : Nat → Value) (j : Nat) (a : Pin), en = (upd (upd (upd d 0 v) 1 (.int .i64 n)) 5 (.int .i64 (j : Int))) ∧ k = xs.length - j ∧ Ext noS G w a W ∧ Pin.le G a ∧ (j ≤ xs.length) ∧ (∀ i, i < j → xs.getD i 0 ≠ n)) _ ⟨_, 0, G, (pS 5 (pS 1 (pU 0))), rfl, g, Pin.le_refl _, Nat.zero_le _, (fun i hi => absurd hi (Nat.not_lt_zero i))⟩ ?_)
 rintro l _ m ⟨d, j, a, rfl, o, b, f, hj, hno⟩
 refine zB (zB (zC ?_))
 refine qM (.int .i64 (j : Int)) ?_
 refine qM v ?_
 refine qD rfl (zM Tryz.underlying56 (v := v) rfl hv) (qD rfl (yV rfl rfl) (qe (zA ?_)))
 refine yA (p := ((j : Int) : Int) < (xs.length : Int)) rfl rfl (fun h => ?_) (fun h => ?_)
 refine wp_skip (zA (zB ?_))
 refine zX (zB (zC ?_))
 refine qM v ?_
 refine qM (.int .i64 (j : Int)) ?_
 refine qD rfl (zF Tryz.underlying56 sz3 (v := v) rfl rfl hv (by omega) (by omega)) (qD rfl (zE (r := xs.getD j 0) rfl ag3 (z := (j : Int)) rfl hv (Pins.of_le b.pins f) (by omega) (by omega)) (qM (.int .i64 n) ?_))
 refine qD rfl (xV rfl rfl) (qe (zA ?_))
 refine yA (p := (xs.getD j 0 : Int) = n) rfl rfl (fun c => ?_) (fun c => ?_)
 refine zB (zC ?_)
 refine qM (.bool true) ?_
 refine qe (zA ?_)
 exact wp_ret (zO (zP (v := (.bool true)) rfl rfl rfl (⟨_, congrArg (fun z => Ending.returned (Value.bool z)) (has_yes (by omega) c).symm, b⟩)))
 refine wp_skip (yB (zA (zC ?_)))
 refine qM (.int .i64 (j : Int)) ?_
 refine qD rfl (yJ rfl rfl (by omega)) (qM (.int .i64 ((j : Int) + 1)) ?_)
 refine qe (zZ (⟨_, ?_, _, rfl, _, j + 1, a, (pS 5 (pS 1 (pU 0))), rfl, b, f, (by omega), (fun i hi => if h3 : i = j then h3 ▸ c else hno i (by omega))⟩))
 omega
 refine wp_exit (zW (yO (yI (zA (zB (zC ?_))))))
 refine qM (.bool false) ?_
 refine qe (zA ?_)
 exact wp_ret (zO (zP (v := (.bool false)) rfl rfl rfl (⟨_, congrArg (fun z => Ending.returned (Value.bool z)) (has_no (fun i hi => hno i (by omega))).symm, b⟩)))

theorem l6Without_spec {w : World} {G : Pin} {x y : Value} {xs D : List Int} (hP : Pins G w) (hx : RSl eInt G x xs) (hy : RSl eInt G y D) (hxl : xs.length ≤ 1048576) :
  Calls Tryz.prog 87 [x, y].toArray w fun e w' => ∃ (u : Value) (G' : Pin), e = .returned u ∧ Own eInt 3 G' w' w.heap.size u (woL xs D xs.length) ∧ Ext noS G w G' w' := by
 refine zV (n := 26) Tryz.func87 Tryz.ntmps87 rfl rfl ?_
 have g : Ext noS G w G w := Ext.refl hP
 refine zB (zC ?_)
 refine qM (.slice none 0 0) ?_
 refine qe (zA (zB (zC ?_)))
 refine qI rfl (xD (E := eInt) (e := 3) Tryz.underlying56 sz3 g.pins (fun h w2 ad ae af au => ?_))
 have ag := g.step ae af
 have ah : Own eInt 3 G w2 w.heap.size h ([]) := ad.weaken g.size
 refine qM h ?_
 refine qe (zA (zB (zB (zC ?_))))
 refine qM (vJ 0) ?_
 refine qe (zA ?_)
 refine zX (yT (fun (k : Nat) (en : Nat → Value) (W : World) => ∃ (m : Nat → Value) (i : Nat) (ov : Value) (out : List Int) (a : Pin), en = (upd (upd (upd (upd (upd m 0 x) 1 y) 4 (.slice none 0 0)) 5 ov) 6 (vJ (i : Int))) ∧ k = xs.length - i ∧ Ext noS G w a W ∧ Pin.le G a ∧ (i ≤ xs.length) ∧ (out = woL xs D i) ∧ (Own eInt 3 a W w.heap.size ov (out))) _ ⟨_, 0, h, [], G, (pS 6 (pS 5 (pS 4 (pS 1 (pU 0))))), rfl, ag, Pin.le_refl _, Nat.zero_le _, rfl, ah⟩ ?_)
 rintro k9 _ aw ⟨m, i, ov, out, a, rfl, ax, d, f, hi, hout, o⟩
 have hol : out.length ≤ i := by rw [hout]; exact wo_len i
 refine zB (zB (zC ?_))
 refine qM (vJ (i : Int)) ?_
 refine qM x ?_
 refine qD rfl (zM Tryz.underlying56 (v := x) rfl hx) (qD rfl (yV rfl rfl) (qe (zA ?_)))
 refine yA (p := ((i : Int) : Int) < (xs.length : Int)) rfl rfl (fun ai => ?_) (fun ai => ?_)
 refine wp_skip (zA (zB ?_))
 refine zX (zB (zC ?_))
 refine qM y ?_
 refine qM (vJ (i : Int)) ?_
 refine qI rfl (zH (vs := [y, (vJ (i : Int))]) Tryz.func106 nm106 rfl rfl rfl ?_)
 refine Calls.mono (l1Has_spec (n := (i : Int)) (d.pins) (hy.mono f)) ?_
 rintro _ ay ⟨az, rfl, aj⟩
 refine ⟨_, rfl, ?_⟩
 have j := deep_back d.pins aj
 have c := d.step j.pins j.below
 have q := o.below j.below
 refine qD rfl (xE rfl) (qe (zA ?_))
 refine xX rfl rfl (fun b => ?_) (fun b => ?_)
 replace b := of_decide_eq_true b
 refine wp_skip (yB (zA (zC ?_)))
 refine qM (vJ (i : Int)) ?_
 refine qD rfl (yJ rfl rfl (by omega)) (qM (vJ ((i : Int) + 1)) ?_)
 refine qe (zZ (⟨_, ?_, _, rfl, _, i + 1, ov, out, a, (pS 6 (pS 5 (pS 4 (pS 1 (pU 0))))), rfl, c, f, (by omega), (by rw [hout]; exact (if_pos b).symm), q⟩))
 omega
 replace b := of_decide_eq_false b
 refine zC (qM ov ?_)
 refine qM x ?_
 refine qM (vJ (i : Int)) ?_
 refine qD rfl (zF Tryz.underlying56 sz3 (v := x) rfl rfl hx (by omega) (by omega)) (qD rfl (zE (r := xs.getD i 0) rfl ag3 (z := (i : Int)) rfl hx (Pins.of_le c.pins f) (by omega) (by omega)) (qI rfl (xA (E := eInt) (e := 3) [(vJ (xs.getD i 0))] [xs.getD i 0] Tryz.underlying56 sz3 zr3 (by exact xZ (by rfl)) (xN (by rfl)) rfl rfl rfl rfl (by decide) c.pins (fun s ak al am t a0 => ?_))))
 have l := c.step am t
 have aa := q.below t
 have an : Own eInt 3 a ak w.heap.size s ([xs.getD i 0]) := al.weaken c.size
 refine qI rfl (oA (E := eInt) (v := ov) (u := s) 8 Tryz.underlying56 ap3 (by decide) rfl rfl l.pins aa an.src (l.size) (fun ab a1 ao ap aq a2 => ?_))
 have ar := l.write ap aq ((yN aa))
 have a3 : (out ++ ([xs.getD i 0])).length = out.length + 1 := List.length_append
 refine qM ab ?_
 refine qe (yB (zA (zC ?_)))
 refine qM (vJ (i : Int)) ?_
 refine qD rfl (yJ rfl rfl (by omega)) (qM (vJ ((i : Int) + 1)) ?_)
 refine qe (zZ (⟨_, ?_, _, rfl, _, i + 1, ab, out ++ ([xs.getD i 0]), a, (pS 6 (pS 5 (pS 4 (pS 1 (pU 0))))), rfl, ar, f, (by omega), (by rw [hout]; exact (if_neg b).symm), ao⟩))
 omega
 refine wp_exit (zW (yO (yI (zA (zB (zC ?_))))))
 refine qM ov ?_
 refine qM ov ?_
 refine qe (zA ?_)
 refine wp_ret (zO (zP (v := ov) rfl rfl rfl ?_))
 have hin : i = xs.length := by omega
 rw [hin] at hout
 exact ⟨_, _, rfl, (by rw [← hout]; exact o), d⟩

theorem l6Open_spec {w : World} {G : Pin} {o b : Nat} {bu bv kv : Value} {ns : List Nd} {bs : List Int} {ks : List Int} {y : Int} {x : Value} {xs : List Int} {lf : Bool} (hP : Pins G w) (hO : Od 65 3 G w o b bu bv kv ns bs ks) (hy : 0 ≤ y ∧ y < ns.length) (hx : RSl eInt G x xs) (hxl : xs.length ≤ 1048576) (hok : BookOk ns bs) (hka : KAll ns ks) (hpo : PoolOk (bkq ns bs)) (hl0 : LnOk (bkq ns bs) lf (den ns (y).toNat) xs 0 []) :
  Calls Tryz.prog 86 [(.pointer (some ⟨o, 0, none⟩)), (vJ y), x, (.bool lf)].toArray w fun e w' => ∃ (u : Value) (ln out : List Int) (ks' : List Int) (G' : Pin), e = .returned u ∧ RSl eInt G' u out ∧ RdW (bkq ns bs) lf (den ns (y).toNat) [] ln out ∧ Od 65 3 G' w' o b bu bv kv ns bs ks' ∧ KAll ns ks' ∧ Ext (inO kv.ownBlock) G w G' w' := by
 refine zV (n := 86) Tryz.func86 Tryz.ntmps86 rfl rfl ?_
 have b2 : Ext (inO kv.ownBlock) G w G w := Ext.refl hP
 have hB := hO.bk
 have hbx := hB.bx
 have hou := hB.ou
 have hov := hB.ov
 have habu := hB.abu
 have habv := hB.abv
 have hauv := hB.auv
 have hlen := hok.len
 have hlim := hok.lim
 have hox := hO.ox
 have cl := hO.ok
 have haok := hO.aok
 have habk := hO.abk
 have hauk := hO.auk
 have havk := hO.avk
 have hlok : Lo w (inO kv.ownBlock) kv.ownBlock := xK
 have hoo : OptsOk ns := hok.optsOk
 have hlens := hok.lens
 have hxm := hx.max
 refine zB (zC ?_)
 refine qM (.slice none 0 0) ?_
 refine qe (zA (zB (zC ?_)))
 refine qI rfl (xD (E := eInt) (e := 3) Tryz.underlying56 sz3 b2.pins (fun u1 w2 eb ec ar a3 => ?_))
 have bf := b2.step ec ar
 have cm := hou.below ar
 have cn := hov.below ar
 have co := cl.below ar
 have cp := hbx.below ar
 have cq := hox.below ar
 have cr : Apart u1.ownBlock bu.ownBlock := zI a3 hou.lt
 have cs : Apart u1.ownBlock bv.ownBlock := zI a3 hov.lt
 have ct : Apart u1.ownBlock kv.ownBlock := zI a3 cl.lt
 have cu : Apart u1.ownBlock (some b) := zJ a3 hbx.lt
 have cv : Apart u1.ownBlock (some o) := zJ a3 hox.lt
 have cw : Own eInt 3 G w2 w.heap.size u1 ([]) := eb.weaken b2.size
 refine qM x ?_
 refine qI rfl (oA (E := eInt) (v := u1) (u := x) 8 Tryz.underlying56 ap3 (by decide) rfl rfl bf.pins cw ((hx.mono (Pin.le_refl _)).src bf.pins (by decide)) (bf.size) (fun ab gr cx ed au a4 => ?_))
 have b3 := bf.write ed au ((yN cw))
 have cy := cm.keptA au cr.symm
 have cz := cn.keptA au cs.symm
 have c0 := co.keptA au ct.symm
 have c1 := cp.keptA au cu.symm
 have c2 := cq.keptA au cv.symm
 have ee : Apart bu.ownBlock ab.ownBlock := zG cr.symm a4 cm.lt
 have ef : Apart bv.ownBlock ab.ownBlock := zG cs.symm a4 cn.lt
 have eg : Apart kv.ownBlock ab.ownBlock := zG ct.symm a4 co.lt
 have eh : Apart (some b) ab.ownBlock := zR cu.symm a4 cp.lt
 have ei : Apart (some o) ab.ownBlock := zR cv.symm a4 cq.lt
 have gs : (([]) ++ xs).length = ([]).length + xs.length := List.length_append
 refine qI rfl (xD (E := eInt) (e := 3) Tryz.underlying56 sz3 b3.pins (fun s ej ek el aj av => ?_))
 have em := b3.step el aj
 have eo := cy.below aj
 have ep := cz.below aj
 have eq := c0.below aj
 have er := cx.below aj
 have es := c1.below aj
 have et := c2.below aj
 have eu : Apart s.ownBlock bu.ownBlock := zI av cy.lt
 have ev : Apart s.ownBlock bv.ownBlock := zI av cz.lt
 have ew : Apart s.ownBlock kv.ownBlock := zI av c0.lt
 have ex : Apart s.ownBlock ab.ownBlock := zI av cx.lt
 have ey : Apart s.ownBlock (some b) := zJ av c1.lt
 have ez : Apart s.ownBlock (some o) := zJ av c2.lt
 have e0 : Own eInt 3 G ej w.heap.size s ([]) := ek.weaken b3.size
 refine qM ab ?_
 refine qM s ?_
 refine qe (zA (zB (zB (zC ?_))))
 refine qM (vJ 0) ?_
 refine qe (zA ?_)
 refine zX ?_
 obtain ⟨c3, bg, e1, e2, aw⟩ := e0.sealed em
 have e3 := eo.moreO bg aw eu.symm
 have e4 := ep.moreO bg aw ev.symm
 have e5 := eq.moreO bg aw ew.symm
 have e6 := er.moreO bg aw ex.symm
 have e7 := es.moreO aw ey.symm
 have e8 := et.moreO aw ez.symm
 refine yT (fun (k : Nat) (en : Nat → Value) (W : World) => ∃ (ac : Nat → Value) (i : Nat) (kq : List Int) (lv : Value) (ln : List Int) (ov : Value) (out : List Int) (m : Pin), en = (upd (upd (upd (upd (upd (upd (upd ac 0 (.pointer (some ⟨o, 0, none⟩))) 1 (vJ y)) 3 (.bool lf)) 8 (.slice none 0 0)) 9 lv) 10 ov) 11 (vJ (i : Int))) ∧ k = ns.length - i ∧ Ext (inO kv.ownBlock) G w m W ∧ Pin.le c3 m ∧ (LnOk (bkq ns bs) lf (den ns (y).toNat) ln i out) ∧ (i ≤ ln.length) ∧ (KAll ns kq) ∧ (Own eInt 3 m W 0 kv (kq)) ∧ (Own eInt 3 m W w.heap.size lv (ln)) ∧ (Own eNode 65 m W 0 bu (ns)) ∧ (Own eInt 3 m W 0 bv (bs)) ∧ (Bx m W b [bu, bv]) ∧ (Bx m W o [(.pointer (some ⟨b, 0, none⟩)), kv]) ∧ (Apart kv.ownBlock lv.ownBlock) ∧ (Apart lv.ownBlock bu.ownBlock) ∧ (Apart lv.ownBlock bv.ownBlock) ∧ (Apart lv.ownBlock (some b)) ∧ (Apart lv.ownBlock (some o)) ∧ (RSl eInt m ov (out))) _ ⟨_, 0, ks, ab, ([]) ++ xs, s, [], c3, (pS 11 (pS 10 (pS 9 (pS 8 (pS 3 (pS 1 (pU 0))))))), rfl, e1, Pin.le_refl _, (by rw [List.nil_append]; exact hl0), Nat.zero_le _, hka, e5, e6, e3, e4, e7, e8, eg, ee.symm, ef.symm, eh.symm, ei.symm, e2⟩ ?_
 rintro gt _ gu ⟨ac, i, kq, lv, ln, ov, out, m, rfl, gv, bh, b4, hln, hiln, c4, c5, bi, b5, b6, b7, b8, bj, b9, ca, cb, cc, bl⟩
 have hll : ln.length ≤ ns.length := hln.len
 refine zB (zB (zC ?_))
 refine qM (vJ (i : Int)) ?_
 refine qM lv ?_
 refine qD rfl (zM Tryz.underlying56 (v := lv) rfl bi.read) (qD rfl (yV rfl rfl) (qe (zA ?_)))
 refine yA (p := ((i : Int) : Int) < (ln.length : Int)) rfl rfl (fun e9 => ?_) (fun e9 => ?_)
 have hpi : 0 ≤ ln.getD i 0 ∧ ln.getD i 0 < ns.length := hln.at_ (by omega)
 have hol : out.length ≤ ns.length := nodup_len _ _ hln.rd.ndk (fun x hx => (hln.rd.all x (Or.inr ((hln.rd.keep x).1 hx).1)).1)
 refine wp_skip (zA (zB ?_))
 refine zX (zB (zC ?_))
 refine qM (.pointer (some ⟨o, 0, none⟩)) ?_
 refine qM (vJ y) ?_
 refine qM lv ?_
 refine qM (vJ (i : Int)) ?_
 refine qD rfl (zF Tryz.underlying56 sz3 (v := lv) rfl rfl bi.read (by omega) (by omega)) (qD rfl (zE (r := ln.getD i 0) rfl ag3 (z := (i : Int)) rfl bi.read (Gadd.pins bh.pins lv) (by omega) (by omega)) (qM (.bool lf) ?_))
 refine qI rfl (zH (vs := [(.pointer (some ⟨o, 0, none⟩)), (vJ y), (vJ (ln.getD i 0)), (.bool lf)]) Tryz.func105 nm105 rfl rfl rfl ?_)
 refine Calls.mono (l6Through_spec (lf := lf) bh.pins ⟨⟨b7, b5, b6, habu, habv, hauv⟩, b8, c5, haok, habk, hauk, havk⟩ hy hpi hok c4) ?_
 rintro _ gw ⟨c, a5, bm, rfl, c6, cd, ce, h⟩
 refine ⟨_, rfl, ?_⟩
 have ak := bh.trans h (fun i hi => hlok i hi)
 have a6 := bi.extS h (notO bj.symm)
 have aa := b5.extS h (notO hauk)
 have cf := b6.extS h (notO havk)
 have a7 := b7.extS h (xU habk)
 have a8 := b8.extS h (xU haok)
 refine qM (vJ c) ?_
 refine qe (zA (zB (zB (zC ?_))))
 refine qM (vJ c) ?_
 refine qD rfl (yV rfl rfl) (qe (zA ?_))
 refine yA (p := (c : Int) < 0) rfl rfl (fun c7 => ?_) (fun c7 => ?_)
 refine zB (zC ?_)
 refine qM ov ?_
 refine qM lv ?_
 refine qM (vJ (i : Int)) ?_
 refine qD rfl (zF Tryz.underlying56 sz3 (v := lv) rfl rfl a6.read (by omega) (by omega)) (qD rfl (zE (r := ln.getD i 0) rfl ag3 (z := (i : Int)) rfl a6.read (Gadd.pins ak.pins lv) (by omega) (by omega)) (qI rfl (zH (vs := [ov, (vJ (ln.getD i 0))]) Tryz.func98 nm98 rfl rfl rfl ?_)))
 refine Calls.mono (jD ak.pins (bl.mono h.le) (by omega)) ?_
 rintro _ gx ⟨c8, fa, rfl, fb, ad⟩
 refine ⟨_, rfl, ?_⟩
 have fc := ak.tr ad
 have fd := cd.ok.ext ad
 have fe := a6.ext ad
 have ff := aa.ext ad
 have fg := cf.ext ad
 have fh := a7.ext ad
 have fi := a8.ext ad
 refine qM c8 ?_
 refine qe (zA ?_)
 refine wp_exit (zW (yI (zA (zC ?_))))
 refine qM (vJ (i : Int)) ?_
 refine qD rfl (yJ rfl rfl (by omega)) (qM (vJ ((i : Int) + 1)) ?_)
 refine qe (zZ (⟨_, ?_, _, rfl, _, i + 1, a5, lv, ln, c8, putL out (ln.getD i 0), fa, (pS 11 (pS 10 (pS 9 (pS 8 (pS 3 (pS 1 (pU 0))))))), rfl, fc, (Pin.le_trans (Pin.le_trans b4 h.le) ad.le), (hln.keep (by omega) (thr_no (q := (bkq ns bs)) c6 c7)), (by omega), ce, fd, fe, ff, fg, fh, fi, bj, b9, ca, cb, cc, fb⟩))
 omega
 refine wp_skip (zA (zB (zC ?_)))
 have hti := thr_info (q := (bkq ns bs)) hpo hpi c6 (by omega)
 have gy : 0 ≤ c ∧ c < ns.length := hti.1
 have hlt := hok.lens (c).toNat (by omega)
 refine qM (.pointer (some ⟨o, 0, none⟩)) ?_
 refine qD rfl (yW rfl) (qD rfl (zK (k := 0) rfl Tryz.underlying126 rfl nz75 rfl) (qD rfl (zL (u := (.pointer (some ⟨b, 0, none⟩))) ag75 rfl (a8.cell (o := 0) rfl)) (qD rfl (yW rfl) (qD rfl (zK (k := 0) rfl Tryz.underlying77 rfl nz30 rfl) (qD rfl (zL (u := bu) ag30 rfl (a7.cell (o := 0) rfl)) (qM (vJ c) ?_))))))
 refine qD rfl (zF Tryz.underlying30 sz65 (v := bu) rfl rfl aa.read (by omega) (by omega)) (qD rfl (xI (off := 0) Tryz.underlying65 rfl rfl nz56 (z := c) (k := 0) rfl aa.read (by omega) (by omega)) ?_)
 obtain ⟨ae, ax, fj⟩ := nm_nl (aa.at (z := c) (by omega) (by omega)) (j := (c).toNat) rfl
 have gz := ax.max
 refine qD rfl (fj ag56 rfl (Gadd.pins ak.pins bu)) (qM ae ?_)
 refine qe (zA (zB (zB (zC ?_))))
 refine qM (.bool lf) ?_
 refine qD rfl (xE rfl) (qe (zA ?_))
 refine xX rfl rfl (fun cg => ?_) (fun cg => ?_)
 refine wp_skip (zA (zB (zC ?_)))
 refine qM (vJ 0) ?_
 refine qe (zA ?_)
 refine zX (yT (fun (k : Nat) (en : Nat → Value) (W : World) => ∃ (ac : Nat → Value) (a : Nat) (d : Value) (g : List Int) (f : Pin), en = (upd (upd (upd (upd (upd (upd (upd (upd (upd ac 0 (.pointer (some ⟨o, 0, none⟩))) 1 (vJ y)) 3 (.bool lf)) 8 (.slice none 0 0)) 9 d) 10 ov) 11 (vJ (i : Int))) 13 ae) 14 (vJ (a : Int))) ∧ k = ((ns.getD (c).toNat default).l).length - a ∧ Ext (inO kv.ownBlock) G w f W ∧ Pin.le bm f ∧ (a ≤ ((ns.getD (c).toNat default).l).length) ∧ (ExOk ln g ((ns.getD (c).toNat default).l) a) ∧ (g.length ≤ ln.length + a) ∧ (ln.length ≤ g.length) ∧ (Own eInt 3 f W w.heap.size d (g)) ∧ (Own eInt 3 f W 0 kv (a5)) ∧ (Own eNode 65 f W 0 bu (ns)) ∧ (Own eInt 3 f W 0 bv (bs)) ∧ (Bx f W b [bu, bv]) ∧ (Bx f W o [(.pointer (some ⟨b, 0, none⟩)), kv]) ∧ (Apart d.ownBlock kv.ownBlock) ∧ (Apart d.ownBlock bu.ownBlock) ∧ (Apart d.ownBlock bv.ownBlock) ∧ (Apart d.ownBlock (some b)) ∧ (Apart d.ownBlock (some o))) _ ⟨_, 0, lv, ln, bm, (pS 14 (pS 13 (pS 11 (pS 10 (pS 9 (pS 8 (pS 3 (pS 1 (pU 0))))))))), rfl, ak, Pin.le_refl _, Nat.zero_le _, (ExOk.start hln.nd), Nat.le_refl _, Nat.le_refl _, a6, cd.ok, aa, cf, a7, a8, bj.symm, b9, ca, cb, cc⟩ ?_)
 rintro g0 _ g1 ⟨ac, a, d, g, f, rfl, g2, a9, ay, fk, hex, fl, fm, ch, c9, da, db, dc, dd, bn, bo, bp, bq, br⟩
 refine zB (zB (zC ?_))
 refine qM (vJ (a : Int)) ?_
 refine qM ae ?_
 refine qD rfl (zM Tryz.underlying56 (v := ae) rfl ax) (qD rfl (yV rfl rfl) (qe (zA ?_)))
 refine yA (p := ((a : Int) : Int) < (((ns.getD (c).toNat default).l).length : Int)) rfl rfl (fun fn => ?_) (fun fn => ?_)
 refine wp_skip (zA (zB ?_))
 refine zX (zB (zC ?_))
 refine qM d ?_
 refine qM ae ?_
 refine qM (vJ (a : Int)) ?_
 refine qD rfl (zF Tryz.underlying56 sz3 (v := ae) rfl rfl ax (by omega) (by omega)) (qD rfl (zE (r := ((ns.getD (c).toNat default).l).getD a 0) rfl ag3 (z := (a : Int)) rfl ax (Pins.of_le a9.pins ay) (by omega) (by omega)) (qI rfl (zH (vs := [d, (vJ (((ns.getD (c).toNat default).l).getD a 0))]) Tryz.func106 nm106 rfl rfl rfl ?_)))
 refine Calls.mono (l1Has_spec (n := ((ns.getD (c).toNat default).l).getD a 0) (Gadd.pins a9.pins d) ch.read) ?_
 rintro _ g3 ⟨g4, rfl, fo⟩
 refine ⟨_, rfl, ?_⟩
 have af := deep_back a9.pins fo
 have ba := a9.step af.pins af.below
 have de := ch.below af.below
 have df := c9.below af.below
 have dg := da.below af.below
 have dh := db.below af.below
 have di := dc.below af.below
 have dj := dd.below af.below
 refine qD rfl (xE rfl) (qe (zA ?_))
 refine xX rfl rfl (fun al => ?_) (fun al => ?_)
 replace al := of_decide_eq_true al
 refine wp_skip (yB (zA (zC ?_)))
 refine qM (vJ (a : Int)) ?_
 refine qD rfl (yJ rfl rfl (by omega)) (qM (vJ ((a : Int) + 1)) ?_)
 refine qe (zZ (⟨_, ?_, _, rfl, _, a + 1, d, g, f, (pS 14 (pS 13 (pS 11 (pS 10 (pS 9 (pS 8 (pS 3 (pS 1 (pU 0))))))))), rfl, ba, ay, (by omega), (hex.skip (by omega) al), (by omega), (by omega), de, df, dg, dh, di, dj, bn, bo, bp, bq, br⟩))
 omega
 replace al := of_decide_eq_false al
 refine zC (qM d ?_)
 refine qM ae ?_
 refine qM (vJ (a : Int)) ?_
 refine qD rfl (zF Tryz.underlying56 sz3 (v := ae) rfl rfl ax (by omega) (by omega)) (qD rfl (zE (r := ((ns.getD (c).toNat default).l).getD a 0) rfl ag3 (z := (a : Int)) rfl ax (Pins.of_le ba.pins ay) (by omega) (by omega)) (qI rfl (xA (E := eInt) (e := 3) [(vJ (((ns.getD (c).toNat default).l).getD a 0))] [((ns.getD (c).toNat default).l).getD a 0] Tryz.underlying56 sz3 zr3 (by exact xZ (by rfl)) (xN (by rfl)) rfl rfl rfl rfl (by decide) ba.pins (fun dk fp fq fr am g5 => ?_))))
 have ci := ba.step fr am
 have dl := de.below am
 have dm := df.below am
 have dn := dg.below am
 have dp := dh.below am
 have dq := di.below am
 have dr := dj.below am
 have fs : Own eInt 3 f fp w.heap.size dk ([((ns.getD (c).toNat default).l).getD a 0]) := fq.weaken ba.size
 refine qI rfl (oA (E := eInt) (v := d) (u := dk) 8 Tryz.underlying56 ap3 (by decide) rfl rfl ci.pins dl fs.src (ci.size) (fun an g6 ft fu az bb => ?_))
 have fv := ci.write fu az ((yN dl))
 have fw := dm.keptA az bn.symm
 have fx := dn.keptA az bo.symm
 have fy := dp.keptA az bp.symm
 have fz := dq.keptA az bq.symm
 have f0 := dr.keptA az br.symm
 have f1 : Apart kv.ownBlock an.ownBlock := zG bn.symm bb dm.lt
 have f2 : Apart bu.ownBlock an.ownBlock := zG bo.symm bb dn.lt
 have f3 : Apart bv.ownBlock an.ownBlock := zG bp.symm bb dp.lt
 have f4 : Apart (some b) an.ownBlock := zR bq.symm bb dq.lt
 have f5 : Apart (some o) an.ownBlock := zR br.symm bb dr.lt
 have g7 : (g ++ ([((ns.getD (c).toNat default).l).getD a 0])).length = g.length + 1 := List.length_append
 refine qM an ?_
 refine qe (yB (zA (zC ?_)))
 refine qM (vJ (a : Int)) ?_
 refine qD rfl (yJ rfl rfl (by omega)) (qM (vJ ((a : Int) + 1)) ?_)
 refine qe (zZ (⟨_, ?_, _, rfl, _, a + 1, an, g ++ ([((ns.getD (c).toNat default).l).getD a 0]), f, (pS 14 (pS 13 (pS 11 (pS 10 (pS 9 (pS 8 (pS 3 (pS 1 (pU 0))))))))), rfl, fv, ay, (by omega), (hex.add (by omega) al), (by rw [List.length_append, List.length_singleton]; omega), (by rw [List.length_append, List.length_singleton]; omega), ft, fw, fx, fy, fz, f0, f1.symm, f2.symm, f3.symm, f4.symm, f5.symm⟩))
 omega
 refine wp_exit (zW (yO (yI (yB (zA (zC ?_))))))
 refine qM (vJ (i : Int)) ?_
 refine qD rfl (yJ rfl rfl (by omega)) (qM (vJ ((i : Int) + 1)) ?_)
 refine qe (zZ (⟨_, ?_, _, rfl, _, i + 1, a5, d, g, ov, out, f, (pS 11 (pS 10 (pS 9 (pS 8 (pS 3 (pS 1 (pU 0))))))), rfl, a9, (Pin.le_trans (Pin.le_trans b4 h.le) ay), (hex.pass (by omega) (ol_yes (q := (bkq ns bs)) (t := c) cg) hpo hln (by omega) hti.1 hti.2.1 hti.2.2), (by omega), ce, c9, ch, da, db, dc, dd, bn.symm, bo, bp, bq, br, (bl.mono (Pin.le_trans h.le ay))⟩))
 omega
 refine zC (qM (.pointer (some ⟨o, 0, none⟩)) ?_)
 refine qD rfl (yW rfl) (qD rfl (zK (k := 0) rfl Tryz.underlying126 rfl nz75 rfl) (qD rfl (zL (u := (.pointer (some ⟨b, 0, none⟩))) ag75 rfl (a8.cell (o := 0) rfl)) (qD rfl (yW rfl) (qD rfl (zK (k := 0) rfl Tryz.underlying77 rfl nz30 rfl) (qD rfl (zL (u := bu) ag30 rfl (a7.cell (o := 0) rfl)) (qM (vJ c) ?_))))))
 refine qD rfl (zF Tryz.underlying30 sz65 (v := bu) rfl rfl aa.read (by omega) (by omega)) (qD rfl (xI (off := 1) Tryz.underlying65 rfl rfl nz56 (z := c) (k := 0) rfl aa.read (by omega) (by omega)) ?_)
 obtain ⟨ag, a0, f6⟩ := nm_nr (aa.at (z := c) (by omega) (by omega)) (j := (c).toNat) rfl
 have g8 := a0.max
 refine qD rfl (f6 ag56 rfl (Gadd.pins ak.pins bu)) (qM ag ?_)
 refine qe (zA (zB (zC ?_)))
 refine qM (vJ 0) ?_
 refine qe (zA ?_)
 refine zX (yT (fun (k : Nat) (en : Nat → Value) (W : World) => ∃ (ac : Nat → Value) (a : Nat) (d : Value) (g : List Int) (f : Pin), en = (upd (upd (upd (upd (upd (upd (upd (upd (upd ac 0 (.pointer (some ⟨o, 0, none⟩))) 1 (vJ y)) 3 (.bool lf)) 8 (.slice none 0 0)) 9 d) 10 ov) 11 (vJ (i : Int))) 13 ag) 14 (vJ (a : Int))) ∧ k = ((ns.getD (c).toNat default).r).length - a ∧ Ext (inO kv.ownBlock) G w f W ∧ Pin.le bm f ∧ (a ≤ ((ns.getD (c).toNat default).r).length) ∧ (ExOk ln g ((ns.getD (c).toNat default).r) a) ∧ (g.length ≤ ln.length + a) ∧ (ln.length ≤ g.length) ∧ (Own eInt 3 f W w.heap.size d (g)) ∧ (Own eInt 3 f W 0 kv (a5)) ∧ (Own eNode 65 f W 0 bu (ns)) ∧ (Own eInt 3 f W 0 bv (bs)) ∧ (Bx f W b [bu, bv]) ∧ (Bx f W o [(.pointer (some ⟨b, 0, none⟩)), kv]) ∧ (Apart d.ownBlock kv.ownBlock) ∧ (Apart d.ownBlock bu.ownBlock) ∧ (Apart d.ownBlock bv.ownBlock) ∧ (Apart d.ownBlock (some b)) ∧ (Apart d.ownBlock (some o))) _ ⟨_, 0, lv, ln, bm, (pS 14 (pS 13 (pS 11 (pS 10 (pS 9 (pS 8 (pS 3 (pS 1 (pU 0))))))))), rfl, ak, Pin.le_refl _, Nat.zero_le _, (ExOk.start hln.nd), Nat.le_refl _, Nat.le_refl _, a6, cd.ok, aa, cf, a7, a8, bj.symm, b9, ca, cb, cc⟩ ?_)
 rintro g9 _ ha ⟨ac, a, d, g, f, rfl, hb, bc, a1, fk, hex, fl, fm, cj, ds, dt, du, dv, dw, bt, bw, bz, b0, b1⟩
 refine zB (zB (zC ?_))
 refine qM (vJ (a : Int)) ?_
 refine qM ag ?_
 refine qD rfl (zM Tryz.underlying56 (v := ag) rfl a0) (qD rfl (yV rfl rfl) (qe (zA ?_)))
 refine yA (p := ((a : Int) : Int) < (((ns.getD (c).toNat default).r).length : Int)) rfl rfl (fun f7 => ?_) (fun f7 => ?_)
 refine wp_skip (zA (zB ?_))
 refine zX (zB (zC ?_))
 refine qM d ?_
 refine qM ag ?_
 refine qM (vJ (a : Int)) ?_
 refine qD rfl (zF Tryz.underlying56 sz3 (v := ag) rfl rfl a0 (by omega) (by omega)) (qD rfl (zE (r := ((ns.getD (c).toNat default).r).getD a 0) rfl ag3 (z := (a : Int)) rfl a0 (Pins.of_le bc.pins a1) (by omega) (by omega)) (qI rfl (zH (vs := [d, (vJ (((ns.getD (c).toNat default).r).getD a 0))]) Tryz.func106 nm106 rfl rfl rfl ?_)))
 refine Calls.mono (l1Has_spec (n := ((ns.getD (c).toNat default).r).getD a 0) (Gadd.pins bc.pins d) cj.read) ?_
 rintro _ hc ⟨hd, rfl, f8⟩
 refine ⟨_, rfl, ?_⟩
 have ah := deep_back bc.pins f8
 have bd := bc.step ah.pins ah.below
 have dx := cj.below ah.below
 have dy := ds.below ah.below
 have dz := dt.below ah.below
 have d0 := du.below ah.below
 have d1 := dv.below ah.below
 have d2 := dw.below ah.below
 refine qD rfl (xE rfl) (qe (zA ?_))
 refine xX rfl rfl (fun ao => ?_) (fun ao => ?_)
 replace ao := of_decide_eq_true ao
 refine wp_skip (yB (zA (zC ?_)))
 refine qM (vJ (a : Int)) ?_
 refine qD rfl (yJ rfl rfl (by omega)) (qM (vJ ((a : Int) + 1)) ?_)
 refine qe (zZ (⟨_, ?_, _, rfl, _, a + 1, d, g, f, (pS 14 (pS 13 (pS 11 (pS 10 (pS 9 (pS 8 (pS 3 (pS 1 (pU 0))))))))), rfl, bd, a1, (by omega), (hex.skip (by omega) ao), (by omega), (by omega), dx, dy, dz, d0, d1, d2, bt, bw, bz, b0, b1⟩))
 omega
 replace ao := of_decide_eq_false ao
 refine zC (qM d ?_)
 refine qM ag ?_
 refine qM (vJ (a : Int)) ?_
 refine qD rfl (zF Tryz.underlying56 sz3 (v := ag) rfl rfl a0 (by omega) (by omega)) (qD rfl (zE (r := ((ns.getD (c).toNat default).r).getD a 0) rfl ag3 (z := (a : Int)) rfl a0 (Pins.of_le bd.pins a1) (by omega) (by omega)) (qI rfl (xA (E := eInt) (e := 3) [(vJ (((ns.getD (c).toNat default).r).getD a 0))] [((ns.getD (c).toNat default).r).getD a 0] Tryz.underlying56 sz3 zr3 (by exact xZ (by rfl)) (xN (by rfl)) rfl rfl rfl rfl (by decide) bd.pins (fun d3 f9 ga gb ap he => ?_))))
 have ck := bd.step gb ap
 have d4 := dx.below ap
 have d5 := dy.below ap
 have d6 := dz.below ap
 have d7 := d0.below ap
 have d8 := d1.below ap
 have d9 := d2.below ap
 have gc : Own eInt 3 f f9 w.heap.size d3 ([((ns.getD (c).toNat default).r).getD a 0]) := ga.weaken bd.size
 refine qI rfl (oA (E := eInt) (v := d) (u := d3) 8 Tryz.underlying56 ap3 (by decide) rfl rfl ck.pins d4 gc.src (ck.size) (fun aq hf gd ge a2 be => ?_))
 have gf := ck.write ge a2 ((yN d4))
 have gg := d5.keptA a2 bt.symm
 have gh := d6.keptA a2 bw.symm
 have gi := d7.keptA a2 bz.symm
 have gj := d8.keptA a2 b0.symm
 have gk := d9.keptA a2 b1.symm
 have gl : Apart kv.ownBlock aq.ownBlock := zG bt.symm be d5.lt
 have gm : Apart bu.ownBlock aq.ownBlock := zG bw.symm be d6.lt
 have gn : Apart bv.ownBlock aq.ownBlock := zG bz.symm be d7.lt
 have gp : Apart (some b) aq.ownBlock := zR b0.symm be d8.lt
 have gq : Apart (some o) aq.ownBlock := zR b1.symm be d9.lt
 have hg : (g ++ ([((ns.getD (c).toNat default).r).getD a 0])).length = g.length + 1 := List.length_append
 refine qM aq ?_
 refine qe (yB (zA (zC ?_)))
 refine qM (vJ (a : Int)) ?_
 refine qD rfl (yJ rfl rfl (by omega)) (qM (vJ ((a : Int) + 1)) ?_)
 refine qe (zZ (⟨_, ?_, _, rfl, _, a + 1, aq, g ++ ([((ns.getD (c).toNat default).r).getD a 0]), f, (pS 14 (pS 13 (pS 11 (pS 10 (pS 9 (pS 8 (pS 3 (pS 1 (pU 0))))))))), rfl, gf, a1, (by omega), (hex.add (by omega) ao), (by rw [List.length_append, List.length_singleton]; omega), (by rw [List.length_append, List.length_singleton]; omega), gd, gg, gh, gi, gj, gk, gl.symm, gm.symm, gn.symm, gp.symm, gq.symm⟩))
 omega
 refine wp_exit (zW (yO (yI (yB (zA (zC ?_))))))
 refine qM (vJ (i : Int)) ?_
 refine qD rfl (yJ rfl rfl (by omega)) (qM (vJ ((i : Int) + 1)) ?_)
 refine qe (zZ (⟨_, ?_, _, rfl, _, i + 1, a5, d, g, ov, out, f, (pS 11 (pS 10 (pS 9 (pS 8 (pS 3 (pS 1 (pU 0))))))), rfl, bc, (Pin.le_trans (Pin.le_trans b4 h.le) a1), (hex.pass (by omega) (ol_no (q := (bkq ns bs)) (t := c) cg) hpo hln (by omega) hti.1 hti.2.1 hti.2.2), (by omega), ce, ds, cj, dt, du, dv, dw, bt.symm, bw, bz, b0, b1, (bl.mono (Pin.le_trans h.le a1))⟩))
 omega
 refine wp_exit (zW (yO (yI (zA (zB (zC ?_))))))
 refine qM ov ?_
 refine qM ov ?_
 refine qe (zA ?_)
 exact wp_ret (zO (zP (v := ov) rfl rfl rfl (⟨_, _, _, _, _, rfl, bl, hln.done (by omega), ⟨⟨b7, b5, b6, habu, habv, hauv⟩, b8, c5, haok, habk, hauk, havk⟩, c4, bh⟩)))

end C61
end Go.Proofs.YtakkjmlnmcemaaaGreatDoor

set_option maxRecDepth 20000
set_option maxHeartbeats 2000000
namespace Go.Proofs.YtakkjmlnmcemaaaGreatDoor
namespace C62
open Go.RowKit Go.GL Go.Proofs
open B1 C1 D1 E1 OR1 C61












theorem put6_spec {w : World} {G : Pin} {b : Nat} {bu bv : Value} {ns : List Nd} {bs : List Int} {x y : Value} {xs ys : List Int} (hP : Pins G w) (hB : Bk 65 3 G w b bu bv ns bs) (hpo : PoolOk (bkq ns bs)) (hx : RSl eInt G x xs) (hy : RSl eInt G y ys) (hl : ns.length + 1 ≤ 1048576) (hls : xs.length ≤ 1048576 ∧ ys.length ≤ 1048576) (h1 : ∀ z ∈ xs, PlaceOk (bkq ns bs) z) (h2 : ∀ z ∈ ys, PlaceOk (bkq ns bs) z) :
  Calls Tryz.prog 84 [(.pointer (some ⟨b, 0, none⟩)), x, y].toArray w fun e w' => ∃ (z : Int) (n1 : List Nd) (b1 : List Int) (u' v' : Value) (G' : Pin), e = .returned (.int .i64 z) ∧ Bk 65 3 G' w' b u' v' n1 b1 ∧ StepOk ns bs n1 b1 z 1 ∧ (pd (bkq n1 b1) z = mkG (xs.map (pd (bkq ns bs))) (ys.map (pd (bkq ns bs)))) ∧ Ext (inS b bu bv) G w G' w' ∧ Lo w (inS b bu bv) u'.ownBlock ∧ Lo w (inS b bu bv) v'.ownBlock := by
 have hpt := bk_put hpo hl hls h1 h2
 refine (put_spec hP hB hpo.ar.ok hx hy hls (jR h1) (jR h2)).mono ?_
 rintro e w' ⟨u, v, G', rfl, hbk, hxx, l1, l2⟩
 exact ⟨_, _, _, u, v, G', rfl, hbk, ⟨hpt.ok, hpt.px, hpt.pl, hpt.len⟩, hpt.pd, hxx, l1, l2⟩

theorem l6Node_spec {w : World} {G : Pin} {b : Nat} {bu bv : Value} {ns : List Nd} {bs : List Int} {x y : Value} {xs ys : List Int} (hP : Pins G w) (hB : Bk 65 3 G w b bu bv ns bs) (hpo : PoolOk (bkq ns bs)) (hx : RSl eInt G x xs) (hy : RSl eInt G y ys) (hl : ns.length + 3 ≤ 1048576) (hls : xs.length ≤ 1048576 ∧ ys.length ≤ 1048576) (h1 : ∀ z ∈ xs, PlaceOk (bkq ns bs) z ∧ CanonG (pd (bkq ns bs) z)) (h2 : ∀ z ∈ ys, PlaceOk (bkq ns bs) z ∧ CanonG (pd (bkq ns bs) z)) :
  Calls Tryz.prog 57 [(.pointer (some ⟨b, 0, none⟩)), x, y].toArray w fun e w' => ∃ (z : Int) (n1 : List Nd) (b1 : List Int) (u' v' : Value) (G' : Pin), e = .returned (vJ z) ∧ Bk 65 3 G' w' b u' v' n1 b1 ∧ StepOk ns bs n1 b1 z 3 ∧ (CanonG (pd (bkq n1 b1) z) ∧ eqG (pd (bkq n1 b1) z) (mkG (xs.map (pd (bkq ns bs))) (ys.map (pd (bkq ns bs))))) ∧ Ext (inS b bu bv) G w G' w' ∧ Lo w (inS b bu bv) u'.ownBlock ∧ Lo w (inS b bu bv) v'.ownBlock := by
 refine zV (n := 65) Tryz.func57 Tryz.ntmps57 rfl rfl ?_
 have bh : Ext (inS b bu bv) G w G w := Ext.refl hP
 have hok : BookOk ns bs := hpo.ar.ok
 have hbx := hB.bx
 have hou := hB.ou
 have hov := hB.ov
 have habu := hB.abu
 have habv := hB.abv
 have hauv := hB.auv
 have hlob : Lo w (inS b bu bv) (some b) := lo_b
 have hlou : Lo w (inS b bu bv) bu.ownBlock := lo_u
 have hlov : Lo w (inS b bu bv) bv.ownBlock := lo_v
 have hlen := hok.len
 have hlim := hok.lim
 refine zB (zC ?_)
 refine qM (vJ 0) ?_
 refine qe (zA (zB (zC ?_)))
 refine qM (.pointer (some ⟨b, 0, none⟩)) ?_
 refine qM x ?_
 refine qM y ?_
 refine qI rfl (zH (vs := [(.pointer (some ⟨b, 0, none⟩)), x, y]) Tryz.func84 nm84 rfl rfl rfl ?_)
 refine Calls.mono (put6_spec bh.pins ⟨hbx, hou, hov, habu, habv, hauv⟩ hpo hx hy (by omega) hls (fun z hz => (h1 z hz).1) (fun z hz => (h2 z hz).1)) ?_
 rintro _ w7 ⟨g, n2, b3, u4, v5, G6, rfl, aw, m, co, em, en, eo⟩
 refine ⟨_, rfl, ?_⟩
 have cp : ∀ i, inS b bu bv i → w.heap.size ≤ i ∨ (inS b bu bv) i := inS_lo hlob hlou hlov
 have bj := bh.trans em cp
 have bk := aw.bx
 have bl := aw.ou
 have bm := aw.ov
 have bn := aw.abu
 have bo := aw.abv
 have bp := aw.auv
 have ep := qR en cp bh.size
 have eq := qR eo cp bh.size
 have c9 : 0 ≤ g ∧ g < n2.length := m.pl
 have h3 := m.len
 have h4 := m.ok.ar.ok.lim
 have hpz24l : (n2.getD (g).toNat default).l.length ≤ 1048576 ∧ (n2.getD (g).toNat default).r.length ≤ 1048576 := m.ok.ar.ok.lens (g).toNat (show (g).toNat < n2.length by omega)
 refine qM (vJ g) ?_
 refine qe (zA (zB (zC ?_)))
 refine qM (.pointer (some ⟨b, 0, none⟩)) ?_
 refine qI rfl (zH (vs := [(.pointer (some ⟨b, 0, none⟩))]) Tryz.func85 nm85 rfl rfl rfl ?_)
 refine Calls.mono (l4Of_spec bj.pins ⟨bk, bl, bm, bn, bo, bp⟩ m.ok.ar.ok) ?_
 rintro _ bq ⟨am, cq, er, rfl, es, br, bt, bw, bz⟩
 refine ⟨_, rfl, ?_⟩
 have cr := bj.tr bz
 have b0 := bl.ext bz
 have et := bm.ext bz
 have eu := bk.ext bz
 have an := zT br.lt bl.lt
 have ev := made_box_own bt bl.lt
 have a4 := zT br.lt bm.lt
 have ew := made_box_own bt bm.lt
 have ax := yL br.lt bk.lt
 have da := made_box_box bt bk.lt
 have h5 := Nat.le_trans bj.size bt
 have ex := br.weaken bj.size
 have ey : KAll n2 (List.replicate (n2.length * n2.length) 0) := KAll.zero
 refine qM (.pointer (some ⟨am, 0, none⟩)) ?_
 refine qe (zA (zB ?_))
 have ez := Gadd.pins cr.pins u4
 have b2 := b0.read
 refine c_drawL (S := fun wz => BxR wz b [u4, v5] ∧ Pins (Gadd er bq u4) wz) (lt := [23, 24]) (by kernel_rfl) rfl ?_
 have ah : Below bq.heap.size bq bq.drew := (Below.refl _ _).drew
 have e0 := cr.pins.below ah
 have db := cr.step e0 ah
 have dc := b0.below ah
 have dd := et.below ah
 have cs := ex.below ah
 have a := eu.below ah
 have de := es.below ah
 have c := ez.below ah
 refine xP [23, 24] (i := 0) rfl rfl rfl (zD rfl _) (by kernel_rfl) (fun _ _ => zQ (v := (.pointer (some ⟨b, 0, none⟩))) rfl) ⟨a.reads, c⟩ (xP [11, 22, 23, 24] (i := 1) rfl rfl rfl (zD rfl _) (by kernel_rfl) (fun _ _ => zQ (v := (.pointer (some ⟨am, 0, none⟩))) rfl) ⟨a.reads, c⟩ (xP [11, 22, 23, 24] (i := 2) rfl rfl rfl (zD rfl _) (by kernel_rfl) (fun _ _ => zQ (v := (vJ g)) rfl) ⟨a.reads, c⟩ (xP [4, 5, 6, 8, 9, 10, 11, 22, 23, 24] (i := 3) rfl rfl rfl (zD rfl _) (by kernel_rfl) (fun _ _ => zQ (v := (.pointer (some ⟨b, 0, none⟩))) rfl) ⟨a.reads, c⟩ (xP [5, 6, 8, 9, 10, 11, 22, 23, 24] (i := 4) rfl rfl rfl (zD rfl _) (by kernel_rfl) (fun _ _ => yW rfl) ⟨a.reads, c⟩ (xP [6, 8, 9, 10, 11, 22, 23, 24] (i := 5) rfl rfl rfl (zD rfl _) (by kernel_rfl) (fun _ _ => zK (k := 0) rfl Tryz.underlying77 rfl nz30 rfl) ⟨a.reads, c⟩ (xP [8, 9, 10, 11, 22, 23, 24] (i := 6) rfl rfl rfl (zD rfl _) (by kernel_rfl) (fun _ hS => zL (u := u4) ag30 rfl (hS.1 0 _ rfl)) ⟨a.reads, c⟩ (xP [8, 9, 10, 11, 22, 23, 24] (i := 7) rfl rfl rfl (zD rfl _) (by kernel_rfl) (fun _ _ => zQ (v := (vJ g)) rfl) ⟨a.reads, c⟩ (xP [9, 10, 11, 22, 23, 24] (i := 8) rfl rfl rfl (zD rfl _) (by kernel_rfl) (fun _ _ => zF Tryz.underlying30 sz65 (v := u4) rfl rfl b2 (by omega) (by omega)) ⟨a.reads, c⟩ (xP [10, 11, 22, 23, 24] (i := 9) rfl rfl rfl (zD rfl _) (by kernel_rfl) (fun _ _ => xI (off := 0) Tryz.underlying65 rfl rfl nz56 (z := g) (k := 0) rfl b2 (by omega) (by omega)) ⟨a.reads, c⟩ ?_)))))))))
 obtain ⟨e1, df, e2⟩ := nm_nl (b0.at (z := g) (by omega) (by omega)) (j := (g).toNat) rfl
 have h6 := df.max
 refine xP [11, 22, 23, 24] (i := 10) rfl rfl rfl (zD rfl _) (by kernel_rfl) (fun _ hS => e2 ag56 rfl hS.2) ⟨a.reads, c⟩ (xP [22, 23, 24] (i := 12) rfl rfl rfl (zD rfl _) (by kernel_rfl) (fun _ _ => zQ (v := (.pointer (some ⟨am, 0, none⟩))) rfl) ⟨a.reads, c⟩ (xP [22, 23, 24] (i := 13) rfl rfl rfl (zD rfl _) (by kernel_rfl) (fun _ _ => zQ (v := (vJ g)) rfl) ⟨a.reads, c⟩ (xP [15, 16, 17, 19, 20, 21, 22, 23, 24] (i := 14) rfl rfl rfl (zD rfl _) (by kernel_rfl) (fun _ _ => zQ (v := (.pointer (some ⟨b, 0, none⟩))) rfl) ⟨a.reads, c⟩ (xP [16, 17, 19, 20, 21, 22, 23, 24] (i := 15) rfl rfl rfl (zD rfl _) (by kernel_rfl) (fun _ _ => yW rfl) ⟨a.reads, c⟩ (xP [17, 19, 20, 21, 22, 23, 24] (i := 16) rfl rfl rfl (zD rfl _) (by kernel_rfl) (fun _ _ => zK (k := 0) rfl Tryz.underlying77 rfl nz30 rfl) ⟨a.reads, c⟩ (xP [19, 20, 21, 22, 23, 24] (i := 17) rfl rfl rfl (zD rfl _) (by kernel_rfl) (fun _ hS => zL (u := u4) ag30 rfl (hS.1 0 _ rfl)) ⟨a.reads, c⟩ (xP [19, 20, 21, 22, 23, 24] (i := 18) rfl rfl rfl (zD rfl _) (by kernel_rfl) (fun _ _ => zQ (v := (vJ g)) rfl) ⟨a.reads, c⟩ (xP [20, 21, 22, 23, 24] (i := 19) rfl rfl rfl (zD rfl _) (by kernel_rfl) (fun _ _ => zF Tryz.underlying30 sz65 (v := u4) rfl rfl b2 (by omega) (by omega)) ⟨a.reads, c⟩ (xP [21, 22, 23, 24] (i := 20) rfl rfl rfl (zD rfl _) (by kernel_rfl) (fun _ _ => xI (off := 1) Tryz.underlying65 rfl rfl nz56 (z := g) (k := 0) rfl b2 (by omega) (by omega)) ⟨a.reads, c⟩ ?_)))))))))
 obtain ⟨e3, dg, e4⟩ := nm_nr (b0.at (z := g) (by omega) (by omega)) (j := (g).toNat) rfl
 have h7 := dg.max
 refine xP [22, 23, 24] (i := 21) rfl rfl rfl (zD rfl _) (by kernel_rfl) (fun _ hS => e4 ag56 rfl hS.2) ⟨a.reads, c⟩ (dr_oneL (i := 11) (by kernel_rfl) (drOp1L (i := 11) rfl rfl rfl (zD rfl _) (zH (vs := [(.pointer (some ⟨am, 0, none⟩)), (vJ g), e1, (.bool true)]) Tryz.func86 nm86 rfl rfl rfl ?_)))
 refine Calls.mono (l6Open_spec (lf := true) db.pins ⟨⟨a, dc, dd, bn, bo, bp⟩, de, (cs.weaken (Nat.zero_le _)), bw, ax.symm, an.symm, a4.symm⟩ c9 df hpz24l.1 m.ok.ar.ok ey m.ok (LnOk.start m.ok m.pl (can_opts h1 h2 co true))) ?_
 rintro _ h8 ⟨e5, h9, ia, ib, ic, rfl, e6, ct, e7, e8, af⟩
 refine ⟨_, rfl, ?_⟩
 have cu := db.trans af (fun i hi => (yN cs) i hi)
 have dh := dc.extS af (notO an.symm)
 have di := dd.extS af (notO a4.symm)
 have cv := a.extS af (xU ax.symm)
 have dj := de.extS af (xU bw)
 have e9 : Lo w ((inS b bu bv)) cq.ownBlock := (yN cs)
 have dk := Gadd.turn c (Pins.of_le cu.pins af.le) af (notO an.symm)
 refine ⟨fun _ => ⟨cv.reads, dk⟩, ?_⟩
 refine dr_oneL (i := 22) (by kernel_rfl) (drOp1L (i := 22) rfl rfl rfl (zD rfl _) (zH (vs := [(.pointer (some ⟨am, 0, none⟩)), (vJ g), e3, (.bool false)]) Tryz.func86 nm86 rfl rfl rfl ?_))
 refine Calls.mono (l6Open_spec (lf := false) cu.pins ⟨⟨cv, dh, di, bn, bo, bp⟩, dj, e7.ok, bw, ax.symm, an.symm, a4.symm⟩ c9 (dg.mono af.le) hpz24l.2 m.ok.ar.ok e8 m.ok (LnOk.start m.ok m.pl (can_opts h1 h2 co false))) ?_
 rintro _ ie ⟨fa, ig, ih, ii, ij, rfl, fb, cw, dl, ik, ai⟩
 refine ⟨_, rfl, ?_⟩
 have a5 := cu.trans ai (fun i hi => e9 i hi)
 have fc := dh.extS ai (notO an.symm)
 have fd := di.extS ai (notO a4.symm)
 have dm := cv.extS ai (xU ax.symm)
 have dn := dj.extS ai (xU bw)
 have fe := Gadd.turn dk (Pins.of_le a5.pins (Pin.le_trans af.le ai.le)) ai (notO an.symm)
 refine ⟨fun _ => ⟨dm.reads, fe⟩, ?_⟩
 refine dr_oneL (i := 23) (by kernel_rfl) (drOp1L (i := 23) rfl rfl rfl (zD rfl _) (zH (vs := [(.pointer (some ⟨b, 0, none⟩)), e5, fa]) Tryz.func84 nm84 rfl rfl rfl ?_))
 refine Calls.mono (put6_spec a5.pins ⟨dm, fc, fd, bn, bo, bp⟩ m.ok (e6.mono ai.le) fb (by omega) ⟨Nat.le_trans ct.len.2 m.ok.ar.ok.lim, Nat.le_trans cw.len.2 m.ok.ar.ok.lim⟩ ct.kpl cw.kpl) ?_
 rintro _ il ⟨d, f, dp, ac, aj, im, rfl, ay, p, ff, fg, cx, cy⟩
 refine ⟨_, rfl, ?_⟩
 have cz : ∀ i, inS b u4 v5 i → w.heap.size ≤ i ∨ (inS b bu bv) i := inS_lo hlob ep eq
 have b4 := a5.trans fg cz
 have dq := notS (u := u4) (v := v5) ax an a4
 have fh : Apart cq.ownBlock ac.ownBlock := ap_call cx dq (jH dl.ok)
 have fi : Apart cq.ownBlock aj.ownBlock := ap_call cy dq (jH dl.ok)
 have dr := notS (u := u4) (v := v5) da ev ew
 have fj : Apart (some am) ac.ownBlock := ap_call cx dr (box_lt dn)
 have fk : Apart (some am) aj.ownBlock := ap_call cy dr (box_lt dn)
 have b5 := ay.bx
 have b6 := ay.ou
 have b7 := ay.ov
 have b8 := ay.abu
 have b9 := ay.abv
 have ca := ay.auv
 have fl := qR cx cz a5.size
 have fm := qR cy cz a5.size
 have io : 0 ≤ d ∧ d < f.length := p.pl
 have ip := p.len
 have iq := p.ok.ar.ok.lim
 have hpz134l : (f.getD (d).toNat default).l.length ≤ 1048576 ∧ (f.getD (d).toNat default).r.length ≤ 1048576 := p.ok.ar.ok.lens (d).toNat (show (d).toNat < f.length by omega)
 refine ⟨fun h => absurd (by decide) h, ?_⟩
 refine dr_oneL (i := 24) (by kernel_rfl) (drOp1L (i := 24) rfl rfl rfl (zD rfl _) (EO.run (xW (v := (vJ d)) rfl) ⟨fun h => absurd (by decide) h, ?_⟩))
 refine dr_endL (by kernel_rfl) (zA (zB (zC ?_)))
 refine qM (.pointer (some ⟨b, 0, none⟩)) ?_
 refine qI rfl (zH (vs := [(.pointer (some ⟨b, 0, none⟩))]) Tryz.func85 nm85 rfl rfl rfl ?_)
 refine Calls.mono (l4Of_spec b4.pins ⟨b5, b6, b7, b8, b9, ca⟩ p.ok.ar.ok) ?_
 rintro _ ir ⟨az, ds, it, rfl, dt, cb, cc, c0, cd⟩
 refine ⟨_, rfl, ?_⟩
 have ce := b4.tr cd
 have cf := b6.ext cd
 have du := b7.ext cd
 have c1 := b5.ext cd
 have a6 := zT cb.lt b6.lt
 have fn := made_box_own cc b6.lt
 have a7 := zT cb.lt b7.lt
 have fo := made_box_own cc b7.lt
 have a8 := yL cb.lt b5.lt
 have fp := made_box_box cc b5.lt
 have iu := Nat.le_trans b4.size cc
 have dv := cb.weaken b4.size
 have fq : KAll f (List.replicate (f.length * f.length) 0) := KAll.zero
 have hokN := p.ok.ar.ok
 have hopN := jM p.ok p.pl
 refine qM (.pointer (some ⟨az, 0, none⟩)) ?_
 refine qe (zA (zB (zC ?_)))
 refine qM (.pointer (some ⟨b, 0, none⟩)) ?_
 refine qD rfl (yW rfl) (qD rfl (zK (k := 0) rfl Tryz.underlying77 rfl nz30 rfl) (qD rfl (zL (u := ac) ag30 rfl (c1.cell (o := 0) rfl)) (qM (vJ d) ?_)))
 refine qD rfl (zF Tryz.underlying30 sz65 (v := ac) rfl rfl cf.read (by omega) (by omega)) ?_
 obtain ⟨ao, ap, cg, ch, fr⟩ := jB (cf.at (z := d) (by omega) (by omega)) (j := (d).toNat) rfl
 have iv := cg.max
 have iw := ch.max
 refine qD rfl (fr ag65 sz65 rfl (Gadd.pins ce.pins ac)) (qI rfl (yM [(.slice none 0 0), (.slice none 0 0)] zr65 rfl ce.pins (fun a0 ix a9 fs ft a1 => ?_)))
 have dw := ce.step ft a1
 have fu := cf.below a1
 have fv := du.below a1
 have fw := dv.below a1
 have fx := c1.below a1
 have fy := dt.below a1
 have dx : Apart (some a0) ac.ownBlock := zI (congrArg some a9) cf.lt
 have dy : Apart (some a0) aj.ownBlock := zI (congrArg some a9) du.lt
 have dz : Apart (some a0) ds.ownBlock := zI (congrArg some a9) dv.lt
 have d0 : Apart (some a0) (some b) := zJ (congrArg some a9) c1.lt
 have d1 : Apart (some a0) (some az) := zJ (congrArg some a9) dt.lt
 have d2 : w.heap.size ≤ a0 := by have := ce.size; omega
 refine q0 rfl rfl rfl (yF (cs' := [ao, ap]) (us := [ao, ap]) (v := (.agg [ao, ap].toArray)) sz65 rfl rfl rfl (yK cg.one ch.one) dw.pins fs (Nat.le_of_ble_eq_true rfl) rfl (fun c2 fz f0 a2 iy => ?_))
 have f1 := dw.write f0 a2 ((zS d2))
 have f2 := fu.keptA a2 dx.symm
 have f3 := fv.keptA a2 dy.symm
 have f4 := fw.keptA a2 dz.symm
 have f5 := fx.keptA a2 d0.symm
 have f6 := fy.keptA a2 d1.symm
 obtain ⟨f7, aq, d3, ci, ba⟩ := fz.shut f1 d2
 have f8 := f2.moreA aq ba dx.symm
 have f9 := f3.moreA aq ba dy.symm
 have ga := f4.moreA aq ba dz.symm
 have gb := f5.moreA ba d0.symm
 have gc := f6.moreA ba d1.symm
 refine qe (zA (zB ?_))
 refine yZ (S := fun wz => Pins f7 wz) (last := 17) (by kernel_rfl) rfl ?_
 have au : Below c2.heap.size c2 c2.drew := (Below.refl _ _).drew
 have gd := d3.pins.below au
 have aa := d3.step gd au
 have d4 := f8.below au
 have d5 := f9.below au
 have c3 := ga.below au
 have d6 := gb.below au
 have d7 := gc.below au
 refine dM 0 (.pointer (some ⟨b, 0, none⟩)) aa.pins ?_
 refine dT (i := 1) rfl rfl (by kernel_rfl) (fun _ _ => zK (k := 0) rfl Tryz.underlying65 rfl nz56 rfl) aa.pins ?_
 refine dT (i := 2) rfl rfl (by kernel_rfl) (fun _ hS => zL (u := ao) ag56 rfl (hS _ _ _ (ci 0 _ rfl))) aa.pins ?_
 refine dM 3 (.pointer (some ⟨az, 0, none⟩)) aa.pins ?_
 refine dT (i := 4) rfl rfl (by kernel_rfl) (fun _ _ => zK (k := 0) rfl Tryz.underlying65 rfl nz56 rfl) aa.pins ?_
 refine dT (i := 5) rfl rfl (by kernel_rfl) (fun _ hS => zL (u := ao) ag56 rfl (hS _ _ _ (ci 0 _ rfl))) aa.pins ?_
 refine dT (i := 8) rfl rfl (by kernel_rfl) (fun _ _ => zK (k := 1) rfl Tryz.underlying65 rfl nz56 rfl) aa.pins ?_
 refine dT (i := 9) rfl rfl (by kernel_rfl) (fun _ hS => zL (u := ap) ag56 rfl (hS _ _ _ (ci 1 _ rfl))) aa.pins ?_
 refine dM 10 (.pointer (some ⟨az, 0, none⟩)) aa.pins ?_
 refine dT (i := 11) rfl rfl (by kernel_rfl) (fun _ _ => zK (k := 1) rfl Tryz.underlying65 rfl nz56 rfl) aa.pins ?_
 refine dT (i := 12) rfl rfl (by kernel_rfl) (fun _ hS => zL (u := ap) ag56 rfl (hS _ _ _ (ci 1 _ rfl))) aa.pins ?_
 refine dO (i := 6) (zU (i := 6) rfl rfl rfl (zD rfl _) (zH (vs := [(.pointer (some ⟨az, 0, none⟩)), ao, (.bool true)]) Tryz.func88 nm88 rfl rfl rfl ?_))
 refine Calls.mono (l6Dominated_spec aa.pins ⟨⟨d6, d4, d5, b8, b9, ca⟩, d7, (c3.weaken (Nat.zero_le _)), c0, a8.symm, a6.symm, a7.symm⟩ (lf := true) (cg.mono aq) hpz134l.1 (jR (q := bkq f dp) hopN.1) hokN fq) ?_
 rintro _ iz ⟨ge, i0, i1, rfl, gf, d8, gg, s⟩
 refine ⟨_, rfl, ?_⟩
 have cj := aa.trans s (fun i hi => (yN c3) i hi)
 have d9 := d4.extS s (notO a6.symm)
 have ea := d5.extS s (notO a7.symm)
 have eb := d6.extS s (xU a8.symm)
 have gh := d7.extS s (xU c0)
 have gi : Lo w ((inS b bu bv)) ds.ownBlock := (yN c3)
 refine ⟨fun _ => (Pins.of_le cj.pins s.le), ?_⟩
 refine dO (i := 7) (zU (i := 7) rfl rfl rfl (zD rfl _) (zH (vs := [ao, ge]) Tryz.func87 nm87 rfl rfl rfl ?_))
 refine Calls.mono (l6Without_spec cj.pins (cg.mono (Pin.le_trans aq s.le)) gf (by omega)) ?_
 rintro _ gj ⟨ec, gk, rfl, bb, ab⟩
 refine ⟨_, rfl, ?_⟩
 have c4 := cj.tr ab
 have ed := d9.ext ab
 have ee := ea.ext ab
 have gl := d8.ok.ext ab
 have ef := eb.ext ab
 have gm := gh.ext ab
 have gn := zT bb.lt d9.lt
 have gp := zT bb.lt ea.lt
 have gq := zT bb.lt d8.ok.lt
 have gr := yL bb.lt eb.lt
 have gs : Own eInt 3 gk gj w.heap.size ec (woL ((f.getD (d).toNat default).l) (domL (gN f ((f.getD (d).toNat default).l)) true ((f.getD (d).toNat default).l).length ((f.getD (d).toNat default).l).length) ((f.getD (d).toNat default).l).length) := bb.weaken cj.size
 refine ⟨fun _ => (Pins.of_le c4.pins (Pin.le_trans s.le ab.le)), ?_⟩
 refine dO (i := 13) (zU (i := 13) rfl rfl rfl (zD rfl _) (zH (vs := [(.pointer (some ⟨az, 0, none⟩)), ap, (.bool false)]) Tryz.func88 nm88 rfl rfl rfl ?_))
 refine Calls.mono (l6Dominated_spec c4.pins ⟨⟨ef, ed, ee, b8, b9, ca⟩, gm, gl, c0, a8.symm, a6.symm, a7.symm⟩ (lf := false) (ch.mono (Pin.le_trans (Pin.le_trans aq s.le) ab.le)) hpz134l.2 (jR (q := bkq f dp) hopN.2) hokN gg) ?_
 rintro _ i2 ⟨gt, i3, i4, rfl, gu, i5, i6, ae⟩
 refine ⟨_, rfl, ?_⟩
 have ck := c4.trans ae (fun i hi => gi i hi)
 have eg := ed.extS ae (notO a6.symm)
 have eh := ee.extS ae (notO a7.symm)
 have ei := gs.extS ae (notO gq)
 have ej := ef.extS ae (xU a8.symm)
 refine ⟨fun _ => (Pins.of_le ck.pins (Pin.le_trans (Pin.le_trans s.le ab.le) ae.le)), ?_⟩
 refine dO (i := 14) (zU (i := 14) rfl rfl rfl (zD rfl _) (zH (vs := [ap, gt]) Tryz.func87 nm87 rfl rfl rfl ?_))
 refine Calls.mono (l6Without_spec ck.pins (ch.mono (Pin.le_trans (Pin.le_trans (Pin.le_trans aq s.le) ab.le) ae.le)) gu (by omega)) ?_
 rintro _ gv ⟨ek, gw, rfl, bc, ak⟩
 refine ⟨_, rfl, ?_⟩
 have el := ck.tr ak
 have gx := eg.ext ak
 have gy := eh.ext ak
 have gz := ei.ext ak
 have g0 := ej.ext ak
 have g1 := zT bc.lt eg.lt
 have g2 := zT bc.lt eh.lt
 have g3 := zT bc.lt ei.lt
 have g4 := yL bc.lt ej.lt
 have g5 : Own eInt 3 gw gv w.heap.size ek (woL ((f.getD (d).toNat default).r) (domL (gN f ((f.getD (d).toNat default).r)) false ((f.getD (d).toNat default).r).length ((f.getD (d).toNat default).r).length) ((f.getD (d).toNat default).r).length) := bc.weaken ck.size
 refine ⟨fun _ => (Pins.of_le el.pins (Pin.le_trans (Pin.le_trans (Pin.le_trans s.le ab.le) ae.le) ak.le)), ?_⟩
 obtain ⟨i7, bd, g6, g7, cl⟩ := gz.sealed el
 have g8 := gx.moreO bd cl gn.symm
 have g9 := gy.moreO bd cl gp.symm
 have ha := g5.moreO bd cl g3
 have hb := g0.moreO cl gr.symm
 obtain ⟨i8, be, cm, hc, c5⟩ := ha.sealed g6
 have hd := g8.moreO be c5 g1.symm
 have he := g9.moreO be c5 g2.symm
 have hf := hb.moreO c5 g4.symm
 refine dO (i := 15) (zU (i := 15) rfl rfl rfl (zD rfl _) (zH (vs := [(.pointer (some ⟨b, 0, none⟩)), ec, ek]) Tryz.func84 nm84 rfl rfl rfl ?_))
 refine Calls.mono (put6_spec cm.pins ⟨hf, hd, he, b8, b9, ca⟩ p.ok (g7.mono be) hc (by omega) ⟨Nat.le_trans (wo_len _) hpz134l.1, Nat.le_trans (wo_len _) hpz134l.2⟩ (wo_pl (lf := true) (t := d) p.ok p.pl) (wo_pl (lf := false) (t := d) p.ok p.pl)) ?_
 rintro _ i9 ⟨al, cn, ja, hg, hh, jb, rfl, a3, av, hj, c6, hk, hm⟩
 refine ⟨_, rfl, ?_⟩
 have c7 : ∀ i, inS b ac aj i → w.heap.size ≤ i ∨ (inS b bu bv) i := inS_lo hlob fl fm
 have c8 := cm.trans c6 c7
 have jc := notS (u := ac) (v := aj) ax fh fi
 have jd := notS (u := ac) (v := aj) a8 a6 a7
 have je := notS (u := ac) (v := aj) da fj fk
 have jf := notS (u := ac) (v := aj) fp fn fo
 have hn := a3.bx
 have ho := a3.ou
 have hp := a3.ov
 have hq := a3.abu
 have hr := a3.abv
 have hs := a3.auv
 have ht := qR hk c7 cm.size
 have hu := qR hm c7 cm.size
 have jg : 0 ≤ al ∧ al < cn.length := av.pl
 have jh := av.len
 have ji := av.ok.ar.ok.lim
 have hpz369l : (cn.getD (al).toNat default).l.length ≤ 1048576 ∧ (cn.getD (al).toNat default).r.length ≤ 1048576 := av.ok.ar.ok.lens (al).toNat (show (al).toNat < cn.length by omega)
 refine ⟨fun _ => (Pins.of_le c8.pins (Pin.le_trans (Pin.le_trans (Pin.le_trans (Pin.le_trans (Pin.le_trans (Pin.le_trans s.le ab.le) ae.le) ak.le) bd) be) c6.le)), ?_⟩
 refine dM 16 (vJ al) (Pins.of_le c8.pins (Pin.le_trans (Pin.le_trans (Pin.le_trans (Pin.le_trans (Pin.le_trans (Pin.le_trans s.le ab.le) ae.le) ak.le) bd) be) c6.le)) ?_
 refine yQ (by kernel_rfl) (zA (wp_ret (zO (zP (v := (vJ al)) rfl rfl rfl ?_))))
 have hcn := can_node p.ok ct cw p.pl ff hj
 rw [show den n2 (g).toNat = _ from co] at hcn
 exact ⟨_, _, _, hg, hh, _, rfl, ⟨hn, ho, hp, hq, hr, hs⟩, ⟨av.ok, m.px.trans (p.px.trans av.px), av.pl, (by omega)⟩, hcn, c8, ht, hu⟩

end C62
end Go.Proofs.YtakkjmlnmcemaaaGreatDoor

set_option maxRecDepth 20000
set_option maxHeartbeats 2000000
namespace Go.Proofs.YtakkjmlnmcemaaaGreatDoor
namespace C63
open Go.RowKit Go.GL Go.Proofs
open B1 C1 D1 E1 OR1 C61 C62










theorem pl77 : (Tryz.prog.underlying 77).bind (placesD Tryz.prog) = some [(0, 1), (1, 1)] := by kernel_rfl






theorem l6Canon_spec {w : World} {G : Pin} {v : Value} {fs : List Nd} (hP : Pins G w) (hv : RSl eNode G v fs) (hf : FormOk fs) (h1 : 1 ≤ fs.length ∧ fs.length ≤ 300000) :
  Calls Tryz.prog 37 [(.agg [v].toArray)].toArray w fun e w' => ∃ (c : Nat) (u : Value) (G' : Pin), e = .returned (.agg [u].toArray) ∧ CanonG c ∧ eqG c (gOf fs) ∧ IsForm c (formG c) ∧ RSl eNode G' u (formG c) ∧ Ext noS G w G' w' := by
 refine zV (n := 45) Tryz.func37 Tryz.ntmps37 rfl rfl ?_
 have a1 : Ext noS G w G w := Ext.refl hP
 have hm := hv.max
 refine zB (zC ?_)
 refine qI rfl (xG [v] (v := (.agg [v].toArray)) rfl rfl a1.pins (fun b1 w2 fo cu cv cw => ?_))
 have cx := a1.step cv cw
 have cy : w.heap.size ≤ b1 := by have := a1.size; omega
 obtain ⟨G9, ap, a3, a4, fp⟩ := cu.shut cx cy
 refine qI rfl (yM [(.slice none 0 0)] zr32 rfl a3.pins (fun o fq fr bl cz c0 => ?_))
 have a5 := a3.step cz c0
 have c1 : w.heap.size ≤ o := by have := a3.size; omega
 refine qe (zA (zB (zC ?_)))
 refine qD rfl (yG [(.slice none 0 0), (.slice none 0 0)] [(.slice none 0 0), (.slice none 0 0)] [] Tryz.underlying77 zr77 rfl pl77 rfl (fun _ h => by cases h) rfl) (qI rfl (xG [(.slice none 0 0), (.slice none 0 0)] (v := (.agg [(.slice none 0 0), (.slice none 0 0)].toArray)) rfl rfl a5.pins (fun f ft c2 bm c3 bn => ?_)))
 have a6 := a5.step c3 bn
 have bo := bl.below bn
 have c4 : Apart (some f) (some o) := zJ (congrArg some c2) bl.lt
 have c5 : w.heap.size ≤ f := by have := a5.size; omega
 refine qM (.pointer (some ⟨f, 0, none⟩)) ?_
 refine qe (zA (zB (zC ?_)))
 refine qI rfl (xD (E := eInt) (e := 3) Tryz.underlying56 sz3 a6.pins (fun ak c6 c7 c8 a7 bp => ?_))
 have c9 := a6.step c8 a7
 have da := bo.below a7
 have db := bm.below a7
 have dc : Apart ak.ownBlock (some o) := zJ bp bo.lt
 have dd : Apart ak.ownBlock (some f) := zJ bp bm.lt
 have de : Own eInt 3 G9 c6 w.heap.size ak ([]) := c7.weaken a6.size
 refine qM ak ?_
 refine qe (zA (zB (zB (zC ?_))))
 refine qM (vJ 0) ?_
 refine qe (zA ?_)
 refine zX (yT (fun (k : Nat) (en : Nat → Value) (W : World) => ∃ (bq : Nat → Value) (a : Nat) (atB : Value) (atsB : List Int) (uB : Value) (vB : Value) (nsB : List Nd) (bsB : List Int) (s : Pin), en = (upd (upd (upd (upd (upd bq 1 (.pointer (some ⟨b1, 0, none⟩))) 2 (.pointer (some ⟨o, 0, none⟩))) 3 (.pointer (some ⟨f, 0, none⟩))) 4 atB) 5 (vJ (a : Int))) ∧ k = fs.length - a ∧ Ext noS G w s W ∧ Pin.le G9 s ∧ (a ≤ fs.length) ∧ (PoolOk (bkq nsB bsB)) ∧ (CnOk (bkq nsB bsB) atsB a fs) ∧ (nsB.length ≤ 3 * a) ∧ (Own eInt 3 s W w.heap.size atB (atsB)) ∧ (Own eNode 65 s W 0 uB (nsB)) ∧ (Own eInt 3 s W 0 vB (bsB)) ∧ (Bx s W o [(.slice none 0 0)]) ∧ (Bx s W f [uB, vB]) ∧ (Apart atB.ownBlock uB.ownBlock) ∧ (Apart atB.ownBlock vB.ownBlock) ∧ (Apart atB.ownBlock (some o)) ∧ (Apart atB.ownBlock (some f)) ∧ (Apart uB.ownBlock vB.ownBlock) ∧ (Apart uB.ownBlock (some o)) ∧ (Apart uB.ownBlock (some f)) ∧ (Apart vB.ownBlock (some o)) ∧ (Apart vB.ownBlock (some f)) ∧ (Lo w noS uB.ownBlock) ∧ (Lo w noS vB.ownBlock)) _ ⟨_, 0, ak, [], (.slice none 0 0), (.slice none 0 0), [], [], G9, (pS 5 (pS 4 (pS 3 (pS 2 (pU 1))))), rfl, c9, Pin.le_refl _, Nat.zero_le _, (bkq_ok Ar.empty), CnOk.start, Nat.le_refl 0, de, (Own.nil _ _ _ _ _), (Own.nil _ _ _ _ _), da, db, apart_none.symm, apart_none.symm, dc, dd, apart_none, apart_none, apart_none, apart_none, apart_none, (lo_none _ _), (lo_none _ _)⟩ ?_)
 rintro fu _ a8 ⟨bq, a, atB, atsB, uB, vB, nsB, bsB, s, rfl, fv, ae, aa, fw, hpoB, hcn, hblB, aq, br, bs, bt, bu, df, dg, bv, a9, bw, dh, bz, di, b0, dj, dk⟩
 have hcl := hcn.len
 refine zB (zB (zC ?_))
 refine qM (vJ (a : Int)) ?_
 refine qD rfl (zK (k := 0) rfl Tryz.underlying32 rfl nz30 rfl) (qD rfl (zL (u := v) ag30 rfl ((Pins.of_le ae.pins aa) _ _ _ (a4 0 _ rfl))) (qD rfl (zM Tryz.underlying30 (v := v) rfl hv) (qD rfl (yV rfl rfl) (qe (zA ?_)))))
 refine yA (p := ((a : Int) : Int) < (fs.length : Int)) rfl rfl (fun dl => ?_) (fun dl => ?_)
 have oo := xC hf.opts (show a < fs.length by omega)
 have hfe := hf.lens a (by omega)
 have hil : ∀ i, i < (fs.getD a default).l.length → 0 ≤ (fs.getD a default).l.getD i 0 ∧ (fs.getD a default).l.getD i 0 < atsB.length := fun i hi => by have h := oo.1 _ (yC (d := (0 : Int)) hi); omega
 have hir : ∀ i, i < (fs.getD a default).r.length → 0 ≤ (fs.getD a default).r.getD i 0 ∧ (fs.getD a default).r.getD i 0 < atsB.length := fun i hi => by have h := oo.2 _ (yC (d := (0 : Int)) hi); omega
 refine wp_skip (zA (zB ?_))
 refine zX (yZ (S := fun wz => Pins s wz) (last := 22) (by kernel_rfl) rfl ?_)
 have ac : Below a8.heap.size a8 a8.drew := (Below.refl _ _).drew
 have dm := ae.pins.below ac
 have b := ae.step dm ac
 have ba := aq.below ac
 have b2 := br.below ac
 have b3 := bs.below ac
 have b4 := bt.below ac
 have b5 := bu.below ac
 refine dM 0 atB b.pins ?_
 refine dM 1 (.pointer (some ⟨f, 0, none⟩)) b.pins ?_
 refine dM 2 atB b.pins ?_
 refine dT (i := 3) rfl rfl (by kernel_rfl) (fun _ _ => zK (k := 0) rfl Tryz.underlying32 rfl nz30 rfl) b.pins ?_
 refine dT (i := 4) rfl rfl (by kernel_rfl) (fun _ hS => zL (u := v) ag30 rfl ((Pins.of_le hS aa) _ _ _ (a4 0 _ rfl))) b.pins ?_
 refine dM 5 (vJ (a : Int)) b.pins ?_
 refine dT (i := 6) rfl rfl (by kernel_rfl) (fun _ _ => zF Tryz.underlying30 sz65 (v := v) rfl rfl hv (by omega) (by omega)) b.pins ?_
 refine dT (i := 7) rfl rfl (by kernel_rfl) (fun _ _ => xI (off := 0) Tryz.underlying65 rfl rfl nz56 (z := (a : Int)) (k := 0) rfl hv (by omega) (by omega)) b.pins ?_
 obtain ⟨dn, b6, dp⟩ := nm_nl (hv.at (z := (a : Int)) (by omega) (by omega)) (j := a) rfl
 have fx := b6.max
 refine dT (i := 8) rfl rfl (by kernel_rfl) (fun _ hS => dp ag56 rfl (Pins.of_le hS (Pin.le_trans ap aa))) b.pins ?_
 refine dM 10 atB b.pins ?_
 refine dT (i := 11) rfl rfl (by kernel_rfl) (fun _ _ => zK (k := 0) rfl Tryz.underlying32 rfl nz30 rfl) b.pins ?_
 refine dT (i := 12) rfl rfl (by kernel_rfl) (fun _ hS => zL (u := v) ag30 rfl ((Pins.of_le hS aa) _ _ _ (a4 0 _ rfl))) b.pins ?_
 refine dM 13 (vJ (a : Int)) b.pins ?_
 refine dT (i := 14) rfl rfl (by kernel_rfl) (fun _ _ => zF Tryz.underlying30 sz65 (v := v) rfl rfl hv (by omega) (by omega)) b.pins ?_
 refine dT (i := 15) rfl rfl (by kernel_rfl) (fun _ _ => xI (off := 1) Tryz.underlying65 rfl rfl nz56 (z := (a : Int)) (k := 0) rfl hv (by omega) (by omega)) b.pins ?_
 obtain ⟨dq, b7, dr⟩ := nm_nr (hv.at (z := (a : Int)) (by omega) (by omega)) (j := a) rfl
 have fy := b7.max
 refine dT (i := 16) rfl rfl (by kernel_rfl) (fun _ hS => dr ag56 rfl (Pins.of_le hS (Pin.le_trans ap aa))) b.pins ?_
 refine dO (i := 9) (zU (i := 9) rfl rfl rfl (zD rfl _) (zH (vs := [atB, dn]) Tryz.func58 nm58 rfl rfl rfl ?_))
 refine Calls.mono (qZ b.pins (Gadd.pins b.pins atB) ba.read (b6.mono (Pin.le_trans ap aa)) (by omega) hil) ?_
 rintro _ ds ⟨b8, dt, rfl, af, g⟩
 refine ⟨_, rfl, ?_⟩
 have al := b.tr g
 have bb := ba.ext g
 have b9 := b2.ext g
 have ca := b3.ext g
 have cb := b4.ext g
 have cc := b5.ext g
 have du := zT af.lt ba.lt
 have dv := zT af.lt b2.lt
 have dw := zT af.lt b3.lt
 have dx := yL af.lt b4.lt
 have dy := yL af.lt b5.lt
 have cd : Own eInt 3 dt ds w.heap.size b8 (atL atsB ((fs.getD a default).l)) := af.weaken b.size
 refine ⟨fun _ => (Pins.of_le al.pins g.le), ?_⟩
 refine dO (i := 17) (zU (i := 17) rfl rfl rfl (zD rfl _) (zH (vs := [atB, dq]) Tryz.func58 nm58 rfl rfl rfl ?_))
 refine Calls.mono (qZ al.pins (Gadd.pins al.pins atB) bb.read (b7.mono (Pin.le_trans (Pin.le_trans ap aa) g.le)) (by omega) hir) ?_
 rintro _ dz ⟨ce, d0, rfl, ad, m⟩
 refine ⟨_, rfl, ?_⟩
 have cf := al.tr m
 have d1 := bb.ext m
 have d2 := b9.ext m
 have d3 := ca.ext m
 have d4 := cd.ext m
 have d5 := cb.ext m
 have d6 := cc.ext m
 have d7 := zT ad.lt bb.lt
 have d8 := zT ad.lt b9.lt
 have d9 := zT ad.lt ca.lt
 have ea := zT ad.lt cd.lt
 have eb := yL ad.lt cb.lt
 have ec := yL ad.lt cc.lt
 have ed : Own eInt 3 d0 dz w.heap.size ce (atL atsB ((fs.getD a default).r)) := ad.weaken al.size
 refine ⟨fun _ => (Pins.of_le cf.pins (Pin.le_trans g.le m.le)), ?_⟩
 obtain ⟨fz, t, ee, ef, ag⟩ := d4.sealed cf
 have eg := d1.moreO t ag du.symm
 have eh := d2.moreO t ag dv.symm
 have ei := d3.moreO t ag dw.symm
 have ej := ed.moreO t ag ea
 have ek := d5.moreO ag dx.symm
 have el := d6.moreO ag dy.symm
 obtain ⟨f0, x, au, em, am⟩ := ej.sealed ee
 have bc := eg.moreO x am d7.symm
 have eo := eh.moreO x am d8.symm
 have ep := ei.moreO x am d9.symm
 have bd := ek.moreO am eb.symm
 have eq := el.moreO am ec.symm
 refine dO (i := 18) (zU (i := 18) rfl rfl rfl (zD rfl _) (zH (vs := [(.pointer (some ⟨f, 0, none⟩)), b8, ce]) Tryz.func57 nm57 rfl rfl rfl ?_))
 refine Calls.mono (l6Node_spec au.pins ⟨eq, eo, ep, bz.symm, b0.symm, bw⟩ hpoB (ef.mono x) em (by omega) ⟨by rw [xF]; omega, by rw [xF]; omega⟩ (hcn.pl oo.1) (hcn.pl oo.2)) ?_
 rintro _ f1 ⟨q, an, er, av, aw, cg, rfl, ah, y, ch, ab, be, bf⟩
 refine ⟨_, rfl, ?_⟩
 have bg : ∀ i, inS f uB vB i → w.heap.size ≤ i ∨ noS i := inS_lo (zS c5) dj dk
 have ax := au.trans ab bg
 have bh := notS (u := uB) (v := vB) a9 df dg
 have es := bc.extS ab bh
 have ci : Apart atB.ownBlock av.ownBlock := ap_call be bh (jH bc)
 have cj : Apart atB.ownBlock aw.ownBlock := ap_call bf bh (jH bc)
 have bi := notS (u := uB) (v := vB) c4.symm dh.symm di.symm
 have et := bd.extS ab (notSb bi)
 have eu : Apart (some o) av.ownBlock := ap_call be bi (box_lt bd)
 have ev : Apart (some o) aw.ownBlock := ap_call bf bi (box_lt bd)
 have ew := ah.bx
 have ex := ah.ou
 have ey := ah.ov
 have ez := ah.abu
 have e0 := ah.abv
 have e1 := ah.auv
 have e2 := qR be bg au.size
 have e3 := qR bf bg au.size
 have f2 : 0 ≤ q ∧ q < an.length := y.pl
 have f3 := y.len
 have f4 := y.ok.ar.ok.lim
 have hpz169l : (an.getD (q).toNat default).l.length ≤ 1048576 ∧ (an.getD (q).toNat default).r.length ≤ 1048576 := y.ok.ar.ok.lens (q).toNat (show (q).toNat < an.length by omega)
 refine ⟨fun _ => (Pins.of_le ax.pins (Pin.le_trans (Pin.le_trans (Pin.le_trans (Pin.le_trans g.le m.le) t) x) ab.le)), ?_⟩
 refine dO (i := 19) (zU (i := 19) rfl rfl rfl (zD rfl _) (xA (E := eInt) (e := 3) [(vJ q)] [q] Tryz.underlying56 sz3 zr3 (by exact xZ (by rfl)) (xN (by rfl)) rfl rfl rfl rfl (by decide) ax.pins (fun ck e4 e5 e6 ai f5 => ?_)))
 have ay := ax.step e6 ai
 have cl := es.below ai
 have cm := ex.below ai
 have cn := ey.below ai
 have co := et.below ai
 have cp := ew.below ai
 have e7 : Own eInt 3 cg e4 w.heap.size ck ([q]) := e5.weaken ax.size
 refine ⟨fun _ => (Pins.of_le ay.pins (Pin.le_trans (Pin.le_trans (Pin.le_trans (Pin.le_trans g.le m.le) t) x) ab.le)), ?_⟩
 refine dO (i := 20) (zU (i := 20) rfl rfl rfl (zD rfl _) (oA (E := eInt) (v := atB) (u := ck) 8 Tryz.underlying56 ap3 (by decide) rfl rfl ay.pins cl e7.src (ay.size) (fun aj f6 e8 e9 ao az => ?_)))
 have bj := ay.write e9 ao ((yN cl))
 have fa := cm.keptA ao ci.symm
 have fb := cn.keptA ao cj.symm
 have fc := co.keptA ao bv.symm
 have fd := cp.keptA ao a9.symm
 have fe : Apart av.ownBlock aj.ownBlock := zG ci.symm az cm.lt
 have ff : Apart aw.ownBlock aj.ownBlock := zG cj.symm az cn.lt
 have fg : Apart (some o) aj.ownBlock := zR bv.symm az co.lt
 have fh : Apart (some f) aj.ownBlock := zR a9.symm az cp.lt
 have f7 : (atsB ++ ([q])).length = atsB.length + 1 := List.length_append
 refine ⟨fun _ => (Pins.of_le bj.pins (Pin.le_trans (Pin.le_trans (Pin.le_trans (Pin.le_trans g.le m.le) t) x) ab.le)), ?_⟩
 refine dM 21 aj (Pins.of_le bj.pins (Pin.le_trans (Pin.le_trans (Pin.le_trans (Pin.le_trans g.le m.le) t) x) ab.le)) ?_
 refine yQ (by kernel_rfl) (yB (zA (zC ?_)))
 refine qM (vJ (a : Int)) ?_
 refine qD rfl (yJ rfl rfl (by omega)) (qM (vJ ((a : Int) + 1)) ?_)
 refine qe (zZ (⟨_, ?_, _, rfl, _, a + 1, aj, atsB ++ ([q]), av, aw, an, er, cg, (pS 5 (pS 4 (pS 3 (pS 2 (pU 1))))), rfl, bj, (Pin.le_trans (Pin.le_trans (Pin.le_trans (Pin.le_trans (Pin.le_trans aa g.le) m.le) t) x) ab.le), (by omega), y.ok, (hcn.step y.px hpoB y.ok y.pl ch.1 (ch.2.trans (hcn.node hf.opts (by omega)))), (by have := y.len; omega), e8, fa, fb, fc, fd, fe.symm, ff.symm, fg.symm, fh.symm, e1, eu.symm, ez.symm, ev.symm, e0.symm, e2, e3⟩))
 omega
 refine wp_exit (zW (yO (yI (zA (zB (zC ?_))))))
 have hkn : a = fs.length := by omega
 have hrt := hcn.at_ (fs.length - 1) (by omega)
 rw [show fs.length - 1 = ((atsB.length : Int) - 1).toNat by omega] at hrt
 have hgo : den fs ((atsB.length : Int) - 1).toNat = gOf fs := by unfold gOf; rw [show ((atsB.length : Int) - 1).toNat = fs.length - 1 by omega]
 rw [hgo] at hrt
 refine qM (.pointer (some ⟨f, 0, none⟩)) ?_
 refine qM atB ?_
 refine qM atB ?_
 refine qD rfl (zM Tryz.underlying56 (v := atB) rfl aq.read) (qD rfl (qE rfl rfl (by omega)) (qD rfl (zF Tryz.underlying56 sz3 (v := atB) rfl rfl aq.read (by omega) (by omega)) (qD rfl (zE (r := atsB.getD ((atsB.length : Int) - 1).toNat 0) rfl ag3 (z := ((atsB.length : Int) - 1)) rfl aq.read (Gadd.pins ae.pins atB) (by omega) (by omega)) (qI rfl (zH (vs := [(.pointer (some ⟨f, 0, none⟩)), (vJ (atsB.getD ((atsB.length : Int) - 1).toNat 0))]) Tryz.func53 nm53 rfl rfl rfl ?_)))))
 refine Calls.mono (form_spec ae.pins ⟨bu, br, bs, bz.symm, b0.symm, bw⟩ hpoB.ar.ok hrt.1) ?_
 rintro _ f8 ⟨a0, f9, rfl, cq, cr⟩
 refine ⟨_, rfl, ?_⟩
 have ct := ae.tr cr
 have fi := bt.ext cr
 refine q0 rfl rfl rfl (yF (cs' := [a0]) (us := [a0]) (v := (.agg [a0].toArray)) sz32 rfl rfl rfl (xN cq.one) ct.pins fi (Nat.le_of_ble_eq_true rfl) rfl (fun ga fj fk fl gb => ?_))
 have fm := ct.write fk fl ((zS c1))
 refine qe (zA ?_)
 exact wp_ret (zO (c_retc (cs := [a0]) rfl rfl rfl ag32 sz32 (fun j u hj => by rw [Nat.zero_add]; exact fj.cell hj) (⟨_, _, _, rfl, hrt.2.1, hrt.2.2, form_is hpoB hrt.1, (by rw [← book_form hpoB hrt.1]; exact cq), fm⟩)))

end C63
end Go.Proofs.YtakkjmlnmcemaaaGreatDoor

set_option maxRecDepth 20000
set_option maxHeartbeats 2000000
namespace Go.Proofs.YtakkjmlnmcemaaaGreatDoor
namespace VB1
open Go.RowKit Go.GL Go.Proofs
open B1 C1 D1 E1 K1 PO1 PL1 NU1 NU2 NU3 NB4

theorem eg27 : (Tryz.prog.eqGuardType Tryz.prog.depth 27) = false := by kernel_rfl





theorem pl27 : (Tryz.prog.underlying 27).bind (placesD Tryz.prog) = some [(0, 1), (1, 1)] := by kernel_rfl
theorem sh27 : (Tryz.prog.stoodInHeld 27) = false := by kernel_rfl


theorem jC {w : World} {G : Pin} {t z s y : Int} (hP : Pins G w) (ht : -10000000 ≤ t ∧ t ≤ 10000000) (hz : 0 ≤ z ∧ z ≤ 24) (hs : -10000000 ≤ s ∧ s ≤ 10000000) (hy : 0 ≤ y ∧ y ≤ 24) :
  Calls Tryz.prog 31 [(.agg [(.int .i64 t), (.int .i64 z)].toArray), (.agg [(.int .i64 s), (.int .i64 y)].toArray)].toArray w fun e w' => ∃ G', e = .returned (.bool (decide (scI 24 t z < scI 24 s y))) ∧ Ext noS G w G' w' := by
 refine zV (n := 10) Tryz.func31 Tryz.ntmps31 rfl rfl ?_
 have f : Ext noS G w G w := Ext.refl hP
 refine zB (zC ?_)
 refine qI rfl (xG [(.int .i64 t), (.int .i64 z)] (v := (.agg [(.int .i64 t), (.int .i64 z)].toArray)) rfl rfl f.pins (fun o w2 an p q r => ?_))
 have x := f.step q r
 have aa : w.heap.size ≤ o := by have := f.size; omega
 obtain ⟨G9, ap, g, ab, aq⟩ := p.shut x aa
 refine qI rfl (xG [(.int .i64 s), (.int .i64 y)] (v := (.agg [(.int .i64 s), (.int .i64 y)].toArray)) rfl rfl g.pins (fun ac h ar ad ae af => ?_))
 have ag := g.step ae af
 have ah : w.heap.size ≤ ac := by have := g.size; omega
 obtain ⟨ai, aj, l, ak, au⟩ := ad.shut ag ah
 refine qM (.bool false) ?_
 refine qe (zA (zB ?_))
 refine yZ (S := fun wz => Pins ai wz) (last := 6) (by kernel_rfl) rfl ?_
 have m : Below h.heap.size h h.drew := (Below.refl _ _).drew
 have al := l.pins.below m
 have b := l.step al m
 refine dT (i := 0) rfl rfl (by kernel_rfl) (fun _ hS => yH (cs := [(.int .i64 t), (.int .i64 z)]) ag27 sz27 rfl (fun j u hj => (Pins.of_le hS aj) _ _ _ (ab _ _ (by simpa using hj)))) b.pins ?_
 refine dT (i := 2) rfl rfl (by kernel_rfl) (fun _ hS => yH (cs := [(.int .i64 s), (.int .i64 y)]) ag27 sz27 rfl (fun j u hj => hS _ _ _ (ak _ _ (by simpa using hj)))) b.pins ?_
 refine dO (i := 1) (zU (i := 1) rfl rfl rfl (zD rfl _) (zH (vs := [(.agg [(.int .i64 t), (.int .i64 z)].toArray)]) Tryz.func47 nm47 rfl rfl rfl ?_))
 refine Calls.mono (qP (t := t) (z := z) b.pins (by omega) (by omega)) ?_
 rintro _ av ⟨aw, rfl, a⟩
 refine ⟨_, rfl, ?_⟩
 have k := b.tr a
 refine ⟨fun _ => (Pins.of_le k.pins a.le), ?_⟩
 refine dO (i := 3) (zU (i := 3) rfl rfl rfl (zD rfl _) (zH (vs := [(.agg [(.int .i64 s), (.int .i64 y)].toArray)]) Tryz.func47 nm47 rfl rfl rfl ?_))
 refine Calls.mono (qP (t := s) (z := y) k.pins (by omega) (by omega)) ?_
 rintro _ ax ⟨ay, rfl, c⟩
 refine ⟨_, rfl, ?_⟩
 have d := k.tr c
 refine ⟨fun _ => (Pins.of_le d.pins (Pin.le_trans a.le c.le)), ?_⟩
 refine dT (i := 4) rfl rfl (by kernel_rfl) (fun _ _ => yV rfl rfl) (Pins.of_le d.pins (Pin.le_trans a.le c.le)) ?_
 refine dM 5 (.bool (decide ((scI 24 t z : Int) < (scI 24 s y)))) (Pins.of_le d.pins (Pin.le_trans a.le c.le)) ?_
 exact yQ (by kernel_rfl) (zA (wp_ret (zO (zP (v := (.bool (decide ((scI 24 t z : Int) < (scI 24 s y))))) rfl rfl rfl (⟨_, rfl, d⟩)))))

theorem l2If_spec {w : World} {G : Pin} {t z : Int} (hP : Pins G w) :
  Calls Tryz.prog 100 [(.agg [(vJ t), (vJ z)].toArray)].toArray w fun e w' => ∃ G', e = .returned (.tuple #[.agg [.int .i64 (lowR (decP (GoodD t z)) t), .int .i64 (lowR (decP (GoodD t z)) z)].toArray, .bool (decP (GoodD t z))]) ∧ Ext noS G w G' w' := by
 refine zV (n := 9) Tryz.func100 Tryz.ntmps100 rfl rfl ?_
 have b : Ext noS G w G w := Ext.refl hP
 refine zB (zC ?_)
 refine qI rfl (xG [(vJ t), (vJ z)] (v := (.agg [(vJ t), (vJ z)].toArray)) rfl rfl b.pins (fun m w2 al o p q => ?_))
 have r := b.step p q
 have s : w.heap.size ≤ m := by have := b.size; omega
 obtain ⟨G9, an, c, i, ao⟩ := o.shut r s
 refine qI rfl (yM [(vJ 0), (vJ 0)] zr27 rfl c.pins (fun x ap aq y aa ab => ?_))
 have d := c.step aa ab
 have k : w.heap.size ≤ x := by have := c.size; omega
 refine qM (.bool false) ?_
 refine qe (zA (zB (zB (zC ?_))))
 refine qD rfl (yH (cs := [(vJ t), (vJ z)]) ag27 sz27 rfl (fun j u hj => d.pins _ _ _ (i _ _ (by simpa using hj)))) (qI rfl (zH (vs := [(.agg [(vJ t), (vJ z)].toArray)]) Tryz.func33 nm33 rfl rfl rfl ?_))
 refine Calls.mono (l2Good_spec (t := t) (z := z) d.pins) ?_
 rintro _ ar ⟨au, rfl, f⟩
 refine ⟨_, rfl, ?_⟩
 have a := d.tr f
 have l := y.ext f
 refine qD rfl (xE rfl) (qe (zA ?_))
 refine xX rfl rfl (fun g => ?_) (fun g => ?_)
 refine wp_skip (zA (zB (zC ?_)))
 refine qD rfl (yH (cs := [(vJ t), (vJ z)]) ag27 sz27 rfl (fun j u hj => (Pins.of_le a.pins f.le) _ _ _ (i _ _ (by simpa using hj)))) (q0 rfl rfl rfl (yF (cs' := [(vJ t), (vJ z)]) (us := [(vJ t), (vJ z)]) (v := (.agg [(vJ t), (vJ z)].toArray)) sz27 rfl rfl rfl (yK (by rfl) (by rfl)) a.pins l (Nat.le_of_ble_eq_true rfl) rfl (fun av ac ad ae aw => ?_)))
 have af := a.write ad ae ((zS k))
 refine qM (.bool true) ?_
 refine qe (zA ?_)
 exact wp_ret (zO (xL (cs := [(vJ t), (vJ z)]) (v := (.bool true)) rfl rfl rfl rfl rfl ag27 sz27 (fun j u hj => by rw [Nat.zero_add]; exact ac.cell hj) (⟨_, by rw [g]; rfl, af⟩)))
 refine zB (zC ?_)
 refine qD rfl (yG [(vJ 0), (vJ 0)] [(vJ 0), (vJ 0)] [] Tryz.underlying27 zr27 rfl pl27 rfl (fun _ h => by cases h) rfl) (q0 rfl rfl rfl (yF (cs' := [(vJ 0), (vJ 0)]) (us := [(vJ 0), (vJ 0)]) (v := (.agg [(vJ 0), (vJ 0)].toArray)) sz27 rfl rfl rfl (yK (by rfl) (by rfl)) a.pins l (Nat.le_of_ble_eq_true rfl) rfl (fun ax ag ah ai ay => ?_)))
 have aj := a.write ah ai ((zS k))
 refine qM (.bool false) ?_
 refine qe (zA ?_)
 exact wp_ret (zO (xL (cs := [(vJ 0), (vJ 0)]) (v := (.bool false)) rfl rfl rfl rfl rfl ag27 sz27 (fun j u hj => by rw [Nat.zero_add]; exact ag.cell hj) (⟨_, by rw [g]; rfl, aj⟩)))

theorem l2BetweenP_spec {w : World} {G : Pin} {t z s y u : Int} {p : Nat} (hP : Pins G w) (hp : p ≤ 16) (hA : scI 24 t z = u * 2 ^ (24 - p)) (hB : scI 24 s y = (u + 1) * 2 ^ (24 - p)) (hgt : GoodD t z) (hgs : GoodD s y) (hu : 0 ≤ u) :
  Calls Tryz.prog 103 [(.agg [(vJ t), (vJ z)].toArray), (.agg [(vJ s), (vJ y)].toArray)].toArray w fun e w' => ∃ G', e = .returned (.agg [.int .i64 (btT p u), .int .i64 (btP p)].toArray) ∧ Ext noS G w G' w' := by
 refine zV (n := 57) Tryz.func103 Tryz.ntmps103 rfl rfl ?_
 have x : Ext noS G w G w := Ext.refl hP
 have htt := hgt.top
 have hzz := hgt.pow
 have hss := hgs.top
 have hyy := hgs.pow
 have ci := scI_zero
 have hAl := scI_lim (D := 24) (t := t) (z := z) (by omega) (by omega)
 have hBl := scI_lim (D := 24) (t := s) (z := y) (by omega) (by omega)
 have am : 0 ≤ scI 24 t z := by rw [hA]; exact mul_nn hu
 have a9 : 0 < scI 24 s y := by rw [hB]; exact mul_ps (by omega)
 have hsy : ¬ ((s, y) : Int × Int) = (0, 0) := fun e => by have e1 := congrArg Prod.fst e; have e2 := congrArg Prod.snd e; simp only at e1 e2; rw [e1, e2] at a9; omega
 have hbn := bt_n (u := u) (p := p) (by omega)
 rw [← hA, ← hB] at hbn
 have hnt := bt_top (A := scI 24 t z) (pw := 0) am (by decide)
 rw [show (24 - ((0 : Nat) : Int)) = 24 from rfl] at hnt
 have cj := hnt.1
 have hfl := floor_lim (t := t) (z := z) htt hzz.1
 refine zB (zC ?_)
 refine qI rfl (xG [(vJ t), (vJ z)] (v := (.agg [(vJ t), (vJ z)].toArray)) rfl rfl x.pins (fun b1 w2 cl ba bb bc => ?_))
 have bd := x.step bb bc
 have be : w.heap.size ≤ b1 := by have := x.size; omega
 obtain ⟨G9, cn, aa, ab, co⟩ := ba.shut bd be
 refine qI rfl (xG [(vJ s), (vJ y)] (v := (.agg [(vJ s), (vJ y)].toArray)) rfl rfl aa.pins (fun aq cp cq bf bg bh => ?_))
 have bi := aa.step bg bh
 have bj : w.heap.size ≤ aq := by have := aa.size; omega
 obtain ⟨cr, ac, ad, f, ct⟩ := bf.shut bi bj
 refine qI rfl (yM [(vJ 0), (vJ 0)] zr27 rfl ad.pins (fun g cu cv bk bl bm => ?_))
 have ae := ad.step bl bm
 have ar : w.heap.size ≤ g := by have := ad.size; omega
 refine qe (zA (zB (zB (zC ?_))))
 refine qD rfl (yH (cs := [(vJ s), (vJ y)]) ag27 sz27 rfl (fun j u hj => ae.pins _ _ _ (f _ _ (by simpa using hj)))) (qD rfl (yG [(vJ 0), (vJ 0)] [(vJ 0), (vJ 0)] [] Tryz.underlying27 zr27 rfl pl27 rfl (fun _ h => by cases h) rfl) (qI rfl (zH (vs := [(.agg [(vJ s), (vJ y)].toArray), (.agg [(vJ 0), (vJ 0)].toArray)]) Tryz.func31 nm31 rfl rfl rfl ?_)))
 refine Calls.mono (jC (t := s) (z := y) (s := 0) (y := 0) ae.pins (by omega) (by omega) (by omega) (by omega)) ?_
 rintro _ cw ⟨cx, rfl, a⟩
 refine ⟨_, rfl, ?_⟩
 have i := ae.tr a
 have bn := bk.ext a
 refine qM (.bool (decide (scI 24 s y < scI 24 0 0))) ?_
 refine qbd (p := scI 24 s y < scI 24 0 0) (t := 11) rfl (fun bo => ?_) (fun bo => ?_)
 exfalso; omega
 refine qN (yH (cs := [(vJ s), (vJ y)]) ag27 sz27 rfl (fun j u hj => (Pins.of_le i.pins a.le) _ _ _ (f _ _ (by simpa using hj)))) ?_
 refine qN (yG [(vJ 0), (vJ 0)] [(vJ 0), (vJ 0)] [] Tryz.underlying27 zr27 rfl pl27 rfl (fun _ h => by cases h) rfl) ?_
 refine qN (r_eqlD Tryz.underlying27 (by decide) rfl rfl rfl rfl Tryz.underlying3 sh27 eg27 rfl rfl) ?_
 refine qD rfl (zY (v := (.bool (decide (((s, y) : Int × Int) = (0, 0))))) rfl rfl) (qe (zA ?_))
 refine yA (p := (((s, y) : Int × Int) = (0, 0))) rfl rfl (fun au => ?_) (fun au => ?_)
 exact absurd au hsy
 refine wp_skip (zA (zB (zB (zC ?_))))
 refine qD rfl (yH (cs := [(vJ t), (vJ z)]) ag27 sz27 rfl (fun j u hj => (Pins.of_le i.pins (Pin.le_trans ac a.le)) _ _ _ (ab _ _ (by simpa using hj)))) (qD rfl (yG [(vJ 0), (vJ 0)] [(vJ 0), (vJ 0)] [] Tryz.underlying27 zr27 rfl pl27 rfl (fun _ h => by cases h) rfl) (qI rfl (zH (vs := [(.agg [(vJ t), (vJ z)].toArray), (.agg [(vJ 0), (vJ 0)].toArray)]) Tryz.func31 nm31 rfl rfl rfl ?_)))
 refine Calls.mono (jC (t := t) (z := z) (s := 0) (y := 0) i.pins (by omega) (by omega) (by omega) (by omega)) ?_
 rintro _ cy ⟨cz, rfl, b⟩
 refine ⟨_, rfl, ?_⟩
 have af := i.tr b
 have bp := bn.ext b
 refine qe (zA ?_)
 refine yA (p := scI 24 t z < scI 24 0 0) rfl rfl (fun bq => ?_) (fun bq => ?_)
 exfalso; omega
 refine wp_skip (zA (zB (zC ?_)))
 refine qD rfl (yH (cs := [(vJ t), (vJ z)]) ag27 sz27 rfl (fun j u hj => (Pins.of_le af.pins (Pin.le_trans (Pin.le_trans ac a.le) b.le)) _ _ _ (ab _ _ (by simpa using hj)))) (qI rfl (zH (vs := [(.agg [(vJ t), (vJ z)].toArray)]) Tryz.func114 nm114 rfl rfl rfl ?_))
 refine Calls.mono (l2Floor_spec (t := t) (z := z) af.pins (by omega) (by omega)) ?_
 rintro _ c0 ⟨c1, rfl, c⟩
 refine ⟨_, rfl, ?_⟩
 have ag := af.tr c
 have av := bp.ext c
 refine qD rfl (yJ rfl rfl (by omega)) (qD rfl (yG [(vJ 0), (vJ 0)] [(vJ ((Int.fdiv (scI 24 t z) (2 ^ (min (24 : Int).toNat 64))) + 1)), (vJ 0)] [(0, (vJ ((Int.fdiv (scI 24 t z) (2 ^ (min (24 : Int).toNat 64))) + 1)), [(vJ ((Int.fdiv (scI 24 t z) (2 ^ (min (24 : Int).toNat 64))) + 1))])] Tryz.underlying27 zr27 rfl pl27 rfl (List.forall_mem_cons.2 ⟨rfl, (fun _ h => by cases h)⟩) rfl) (qI rfl (yM [(vJ 0), (vJ 0)] zr27 rfl ag.pins (fun aw c2 br bs bt ax => ?_))))
 have ay := ag.step bt ax
 have bu := av.below ax
 have az : Apart (some aw) (some g) := zJ (congrArg some br) av.lt
 have a0 : w.heap.size ≤ aw := by have := ag.size; omega
 refine q0 rfl rfl rfl (yF (cs' := [(vJ ((Int.fdiv (scI 24 t z) (2 ^ (min (24 : Int).toNat 64))) + 1)), (vJ 0)]) (us := [(vJ ((Int.fdiv (scI 24 t z) (2 ^ (min (24 : Int).toNat 64))) + 1)), (vJ 0)]) (v := (.agg [(vJ ((Int.fdiv (scI 24 t z) (2 ^ (min (24 : Int).toNat 64))) + 1)), (vJ 0)].toArray)) sz27 rfl rfl rfl (yK (by rfl) (by rfl)) ay.pins bs (Nat.le_of_ble_eq_true rfl) rfl (fun c3 bv bw a1 c4 => ?_))
 have bx := ay.write bw a1 ((zS a0))
 have bz := bu.keptA a1 az.symm
 obtain ⟨c5, ah, l, b0, b2⟩ := bv.shut bx a0
 have b3 := bz.moreA b2 az.symm
 refine qe (zA (zB (zB (zC ?_))))
 refine qD rfl (yH (cs := [(vJ ((Int.fdiv (scI 24 t z) (2 ^ (min (24 : Int).toNat 64))) + 1)), (vJ 0)]) ag27 sz27 rfl (fun j u hj => l.pins _ _ _ (b0 _ _ (by simpa using hj)))) (qD rfl (yH (cs := [(vJ s), (vJ y)]) ag27 sz27 rfl (fun j u hj => (Pins.of_le l.pins (Pin.le_trans (Pin.le_trans (Pin.le_trans a.le b.le) c.le) ah)) _ _ _ (f _ _ (by simpa using hj)))) (qI rfl (zH (vs := [(.agg [(vJ ((Int.fdiv (scI 24 t z) (2 ^ (min (24 : Int).toNat 64))) + 1)), (vJ 0)].toArray), (.agg [(vJ s), (vJ y)].toArray)]) Tryz.func31 nm31 rfl rfl rfl ?_)))
 refine Calls.mono (jC (t := (Int.fdiv (scI 24 t z) (2 ^ (min (24 : Int).toNat 64))) + 1) (z := 0) (s := s) (y := y) l.pins (by omega) (by omega) (by omega) (by omega)) ?_
 rintro _ c6 ⟨a2, rfl, m⟩
 refine ⟨_, rfl, ?_⟩
 have b4 := l.tr m
 have b5 := b3.ext m
 refine qe (zA ?_)
 refine yA (p := scI 24 ((Int.fdiv (scI 24 t z) (2 ^ (min (24 : Int).toNat 64))) + 1) 0 < scI 24 s y) rfl rfl (fun a3 => ?_) (fun a3 => ?_)
 exact absurd a3 hbn
 refine wp_skip (zA (zB (zB (zC ?_))))
 refine qM (vJ 1) ?_
 refine qe (zA ?_)
 refine zX (yT (fun (k : Nat) (en : Nat → Value) (W : World) => ∃ (a4 : Nat → Value) (pw : Nat) (o : Pin), en = (upd (upd (upd (upd a4 2 (.pointer (some ⟨b1, 0, none⟩))) 3 (.pointer (some ⟨aq, 0, none⟩))) 4 (.pointer (some ⟨g, 0, none⟩))) 6 (vJ (pw : Int))) ∧ k = 18 - pw ∧ Ext noS G w o W ∧ Pin.le a2 o ∧ (1 ≤ pw ∧ pw ≤ p + 1) ∧ (Bx o W g [(vJ 0), (vJ 0)])) _ ⟨_, 1, a2, (pS 6 (pS 4 (pS 3 (pU 2)))), rfl, b4, Pin.le_refl _, ⟨Nat.le_refl 1, by omega⟩, b5⟩ ?_)
 rintro c7 _ c8 ⟨a4, pw, o, rfl, c9, d, ai, hpw, a5⟩
 refine zB (zB (zC ?_))
 refine qM (vJ (pw : Int)) ?_
 refine qD rfl (r_leq rfl rfl) (qe (zA ?_))
 refine yA (p := ((pw : Int) : Int) ≤ 16) rfl rfl (fun b6 => ?_) (fun b6 => ?_)
 have hbt := bt_top (A := scI 24 t z) (pw := pw) am (by omega)
 have da := hbt.1
 have db := hbt.2
 refine wp_skip (zA (zB ?_))
 refine zX (zB (zC ?_))
 refine qD rfl (yH (cs := [(vJ t), (vJ z)]) ag27 sz27 rfl (fun j u hj => (Pins.of_le d.pins (Pin.le_trans (Pin.le_trans (Pin.le_trans (Pin.le_trans (Pin.le_trans (Pin.le_trans ac a.le) b.le) c.le) ah) m.le) ai)) _ _ _ (ab _ _ (by simpa using hj)))) (qI rfl (zH (vs := [(.agg [(vJ t), (vJ z)].toArray)]) Tryz.func47 nm47 rfl rfl rfl ?_))
 refine Calls.mono (qP (t := t) (z := z) d.pins (by omega) (by omega)) ?_
 rintro _ dc ⟨dd, rfl, q⟩
 refine ⟨_, rfl, ?_⟩
 have aj := d.tr q
 have b7 := a5.ext q
 refine qM (vJ (pw : Int)) ?_
 refine qD rfl (qE rfl rfl (by omega)) (qD rfl (r_conv (j := 24 - (pw : Int)) Tryz.underlying3 Tryz.underlying109 rfl (wrapU (by omega))) (qD rfl (r_shrI rfl rfl (by omega)) (qD rfl (yJ rfl rfl (by omega)) (qM (vJ ((Int.fdiv (scI 24 t z) (2 ^ (min (24 - (pw : Int) : Int).toNat 64))) + 1)) ?_))))
 refine qe (zA (zB (zC ?_)))
 refine qM (vJ ((Int.fdiv (scI 24 t z) (2 ^ (min (24 - (pw : Int) : Int).toNat 64))) + 1)) ?_
 refine qM (vJ (pw : Int)) ?_
 refine qD rfl (qE rfl rfl (by omega)) (qD rfl (r_conv (j := 24 - (pw : Int)) Tryz.underlying3 Tryz.underlying109 rfl (wrapU (by omega))) (qD rfl (r_shlI rfl rfl (by omega) (by omega)) (qD rfl (yH (cs := [(vJ s), (vJ y)]) ag27 sz27 rfl (fun j u hj => (Pins.of_le aj.pins (Pin.le_trans (Pin.le_trans (Pin.le_trans (Pin.le_trans (Pin.le_trans (Pin.le_trans a.le b.le) c.le) ah) m.le) ai) q.le)) _ _ _ (f _ _ (by simpa using hj)))) (qI rfl (zH (vs := [(.agg [(vJ s), (vJ y)].toArray)]) Tryz.func47 nm47 rfl rfl rfl ?_)))))
 refine Calls.mono (qP (t := s) (z := y) aj.pins (by omega) (by omega)) ?_
 rintro _ de ⟨b8, rfl, ak⟩
 refine ⟨_, rfl, ?_⟩
 have al := aj.tr ak
 have a6 := b7.ext ak
 refine qD rfl (yV rfl rfl) (qe (zA ?_))
 refine yA (p := (((Int.fdiv (scI 24 t z) (2 ^ (min (24 - (pw : Int) : Int).toNat 64))) + 1) * 2 ^ (24 - (pw : Int) : Int).toNat : Int) < (scI 24 s y)) rfl rfl (fun r => ?_) (fun r => ?_)
 refine zB (zC ?_)
 refine qM (vJ ((Int.fdiv (scI 24 t z) (2 ^ (min (24 - (pw : Int) : Int).toNat 64))) + 1)) ?_
 refine qM (vJ (pw : Int)) ?_
 refine qI rfl (zH (vs := [(vJ ((Int.fdiv (scI 24 t z) (2 ^ (min (24 - (pw : Int) : Int).toNat 64))) + 1)), (vJ (pw : Int))]) Tryz.func113 nm113 rfl rfl rfl ?_)
 refine Calls.mono (l2Make_spec (p := pw) al.pins (by omega) (by omega)) ?_
 rintro _ df ⟨dg, rfl, a7⟩
 refine ⟨_, rfl, ?_⟩
 have a8 := al.tr a7
 have b9 := a6.ext a7
 refine q0 rfl rfl rfl (yF (cs' := [(vJ ((lowD pw ((Int.fdiv (scI 24 t z) (2 ^ (min (24 - (pw : Int) : Int).toNat 64))) + 1)).1)), (vJ (((lowD pw ((Int.fdiv (scI 24 t z) (2 ^ (min (24 - (pw : Int) : Int).toNat 64))) + 1)).2 : Nat) : Int))]) (us := [(vJ ((lowD pw ((Int.fdiv (scI 24 t z) (2 ^ (min (24 - (pw : Int) : Int).toNat 64))) + 1)).1)), (vJ (((lowD pw ((Int.fdiv (scI 24 t z) (2 ^ (min (24 - (pw : Int) : Int).toNat 64))) + 1)).2 : Nat) : Int))]) (v := (.agg [(vJ ((lowD pw ((Int.fdiv (scI 24 t z) (2 ^ (min (24 - (pw : Int) : Int).toNat 64))) + 1)).1)), (vJ (((lowD pw ((Int.fdiv (scI 24 t z) (2 ^ (min (24 - (pw : Int) : Int).toNat 64))) + 1)).2 : Nat) : Int))].toArray)) sz27 rfl rfl rfl (yK (by rfl) (by rfl)) a8.pins b9 (Nat.le_of_ble_eq_true rfl) rfl (fun dh ca cb cc di => ?_))
 have cd := a8.write cb cc ((zS ar))
 refine qe (zA ?_)
 refine wp_ret (zO (c_retc (cs := [(vJ ((lowD pw ((Int.fdiv (scI 24 t z) (2 ^ (min (24 - (pw : Int) : Int).toNat 64))) + 1)).1)), (vJ (((lowD pw ((Int.fdiv (scI 24 t z) (2 ^ (min (24 - (pw : Int) : Int).toNat 64))) + 1)).2 : Nat) : Int))]) rfl rfl rfl ag27 sz27 (fun j u hj => by rw [Nat.zero_add]; exact ca.cell hj) ?_))
 have he : pw = p + 1 := Decidable.byContradiction fun hne => (bt_low (u := u) (p := p) (pw := pw) (by omega) (by omega)) (by rw [← hA, ← hB]; exact r)
 have hh := bt_hit (u := u) (p := p) (by omega)
 rw [← hA, ← he] at hh
 have hlo : lowD pw (2 * u + 1) = (2 * u + 1, pw) := by rw [he]; exact low_odd (by omega)
 exact ⟨_, by rw [hh.1, hlo]; unfold btT btP; rw [if_pos (by omega), if_pos (by omega), he]; rfl, cd⟩
 refine wp_skip (yB (zA (zC ?_)))
 refine qM (vJ (pw : Int)) ?_
 refine qD rfl (yJ rfl rfl (by omega)) (qM (vJ ((pw : Int) + 1)) ?_)
 refine qe (zZ (⟨_, ?_, _, rfl, _, pw + 1, b8, (pS 6 (pS 4 (pS 3 (pU 2)))), rfl, al, (Pin.le_trans (Pin.le_trans ai q.le) ak.le), (by by_cases he : pw = p + 1 <;> first | omega | (exfalso; subst he; have hh := bt_hit (u := u) (p := p) (by omega); rw [← hA, ← hB] at hh; rw [hh.1] at r; exact r hh.2)), a6⟩))
 omega
 refine wp_exit (zW (yO (yI (zA (zB (zC ?_))))))
 refine qD rfl (yG [(vJ 0), (vJ 0)] [(vJ 0), (vJ 17)] [(1, (vJ 17), [(vJ 17)])] Tryz.underlying27 zr27 rfl pl27 rfl (List.forall_mem_cons.2 ⟨rfl, (fun _ h => by cases h)⟩) rfl) (q0 rfl rfl rfl (yF (cs' := [(vJ 0), (vJ 17)]) (us := [(vJ 0), (vJ 17)]) (v := (.agg [(vJ 0), (vJ 17)].toArray)) sz27 rfl rfl rfl (yK (by rfl) (by rfl)) d.pins a5 (Nat.le_of_ble_eq_true rfl) rfl (fun dj ce cf cg dk => ?_)))
 have ch := d.write cf cg ((zS ar))
 refine qe (zA ?_)
 refine wp_ret (zO (c_retc (cs := [(vJ 0), (vJ 17)]) rfl rfl rfl ag27 sz27 (fun j u hj => by rw [Nat.zero_add]; exact ce.cell hj) ?_))
 have dl : p = 16 := by omega
 exact ⟨_, by unfold btT btP; rw [if_neg (by omega), if_neg (by omega)], ch⟩

end VB1
end Go.Proofs.YtakkjmlnmcemaaaGreatDoor

set_option maxRecDepth 20000
set_option maxHeartbeats 2000000
namespace Go.Proofs.YtakkjmlnmcemaaaGreatDoor
namespace VB2
open Go.RowKit Go.GL Go.Proofs
open B1 C1 D1 E1 K1 PO1 PL1 NU1 NU2 NU3 NB4 VB1

theorem eg27 : (Tryz.prog.eqGuardType Tryz.prog.depth 27) = false := by kernel_rfl



theorem pl27 : (Tryz.prog.underlying 27).bind (placesD Tryz.prog) = some [(0, 1), (1, 1)] := by kernel_rfl
theorem sh27 : (Tryz.prog.stoodInHeld 27) = false := by kernel_rfl


theorem l2BetweenN_spec {w : World} {G : Pin} {t z s y u : Int} {p : Nat} (hP : Pins G w) (hp : p ≤ 16) (hA : scI 24 t z = u * 2 ^ (24 - p)) (hB : scI 24 s y = (u + 1) * 2 ^ (24 - p)) (hgt : GoodD t z) (hgs : GoodD s y) (hu : u + 1 ≤ 0) :
  Calls Tryz.prog 103 [(.agg [(vJ t), (vJ z)].toArray), (.agg [(vJ s), (vJ y)].toArray)].toArray w fun e w' => ∃ G', e = .returned (.agg [.int .i64 (btT p u), .int .i64 (btP p)].toArray) ∧ Ext noS G w G' w' := by
 refine zV (n := 57) Tryz.func103 Tryz.ntmps103 rfl rfl ?_
 have x : Ext noS G w G w := Ext.refl hP
 have htt := hgt.top
 have hzz := hgt.pow
 have hss := hgs.top
 have hyy := hgs.pow
 have b2 := scI_zero
 have hAl := scI_lim (D := 24) (t := t) (z := z) (by omega) (by omega)
 have hBl := scI_lim (D := 24) (t := s) (z := y) (by omega) (by omega)
 have b3 : scI 24 s y ≤ 0 := by rw [hB]; exact Int.mul_nonpos_of_nonpos_of_nonneg (by omega) (Int.le_of_lt (Int.pow_pos (by decide)))
 have ap : scI 24 (-s) y = (-(u + 1)) * 2 ^ (24 - p) := by rw [scI_neg, hB, Int.neg_mul]
 have aq : scI 24 (-t) z = (-(u + 1) + 1) * 2 ^ (24 - p) := by rw [scI_neg, hA, ← Int.neg_mul, show -(u + 1) + 1 = -u by omega]
 have hul := u_lim hA htt hzz.1 hp
 have hbl := bt_lim p (-(u + 1))
 refine zB (zC ?_)
 refine qI rfl (xG [(vJ t), (vJ z)] (v := (.agg [(vJ t), (vJ z)].toArray)) rfl rfl x.pins (fun b1 w2 b5 a0 a1 a2 => ?_))
 have a3 := x.step a1 a2
 have a4 : w.heap.size ≤ b1 := by have := x.size; omega
 obtain ⟨G9, b7, aa, ar, b8⟩ := a0.shut a3 a4
 refine qI rfl (xG [(vJ s), (vJ y)] (v := (.agg [(vJ s), (vJ y)].toArray)) rfl rfl aa.pins (fun a5 b9 ca a6 a7 a8 => ?_))
 have a9 := aa.step a7 a8
 have ba : w.heap.size ≤ a5 := by have := aa.size; omega
 obtain ⟨cb, au, ab, l, cc⟩ := a6.shut a9 ba
 refine qI rfl (yM [(vJ 0), (vJ 0)] zr27 rfl ab.pins (fun bb cd ce bc bd be => ?_))
 have ac := ab.step bd be
 have av : w.heap.size ≤ bb := by have := ab.size; omega
 refine qe (zA (zB (zB (zC ?_))))
 refine qD rfl (yH (cs := [(vJ s), (vJ y)]) ag27 sz27 rfl (fun j u hj => ac.pins _ _ _ (l _ _ (by simpa using hj)))) (qD rfl (yG [(vJ 0), (vJ 0)] [(vJ 0), (vJ 0)] [] Tryz.underlying27 zr27 rfl pl27 rfl (fun _ h => by cases h) rfl) (qI rfl (zH (vs := [(.agg [(vJ s), (vJ y)].toArray), (.agg [(vJ 0), (vJ 0)].toArray)]) Tryz.func31 nm31 rfl rfl rfl ?_)))
 refine Calls.mono (jC (t := s) (z := y) (s := 0) (y := 0) ac.pins (by omega) (by omega) (by omega) (by omega)) ?_
 rintro _ b ⟨aw, rfl, a⟩
 refine ⟨_, rfl, ?_⟩
 have f := ac.tr a
 have ax := bc.ext a
 refine qM (.bool (decide (scI 24 s y < scI 24 0 0))) ?_
 refine qbd (p := scI 24 s y < scI 24 0 0) (t := 11) rfl (fun bf => ?_) (fun bf => ?_)
 refine qW ?_
 refine qW ?_
 refine qW ?_
 refine qD rfl (yD (v := (.bool true)) rfl rfl) (qe (zA ?_))
 refine xY rfl rfl (zB (yZ (S := fun wz => Pins aw wz) (last := 6) (by kernel_rfl) rfl ?_))
 have ad : Below b.heap.size b b.drew := (Below.refl _ _).drew
 have bg := f.pins.below ad
 have m := f.step bg ad
 have bh := ax.below ad
 refine dT (i := 0) rfl rfl (by kernel_rfl) (fun _ hS => yH (cs := [(vJ s), (vJ y)]) ag27 sz27 rfl (fun j u hj => (Pins.of_le hS a.le) _ _ _ (l _ _ (by simpa using hj)))) m.pins ?_
 refine dT (i := 2) rfl rfl (by kernel_rfl) (fun _ hS => yH (cs := [(vJ t), (vJ z)]) ag27 sz27 rfl (fun j u hj => (Pins.of_le hS (Pin.le_trans au a.le)) _ _ _ (ar _ _ (by simpa using hj)))) m.pins ?_
 refine dO (i := 1) (zU (i := 1) rfl rfl rfl (zD rfl _) (zH (vs := [(.agg [(vJ s), (vJ y)].toArray)]) Tryz.func102 nm102 rfl rfl rfl ?_))
 refine Calls.mono (jN (t := s) (z := y) m.pins (by omega)) ?_
 rintro _ cf ⟨cg, rfl, c⟩
 refine ⟨_, rfl, ?_⟩
 have ae := m.tr c
 have bi := bh.ext c
 refine ⟨fun _ => (Pins.of_le ae.pins c.le), ?_⟩
 refine dO (i := 3) (zU (i := 3) rfl rfl rfl (zD rfl _) (zH (vs := [(.agg [(vJ t), (vJ z)].toArray)]) Tryz.func102 nm102 rfl rfl rfl ?_))
 refine Calls.mono (jN (t := t) (z := z) ae.pins (by omega)) ?_
 rintro _ ch ⟨ci, rfl, g⟩
 refine ⟨_, rfl, ?_⟩
 have af := ae.tr g
 have bj := bi.ext g
 refine ⟨fun _ => (Pins.of_le af.pins (Pin.le_trans c.le g.le)), ?_⟩
 refine dO (i := 4) (zU (i := 4) rfl rfl rfl (zD rfl _) (zH (vs := [(.agg [(vJ (-s)), (vJ y)].toArray), (.agg [(vJ (-t)), (vJ z)].toArray)]) Tryz.func103 nm103 rfl rfl rfl ?_))
 refine Calls.mono (l2BetweenP_spec (t := -s) (z := y) (s := -t) (y := z) (u := -(u + 1)) (p := p) af.pins hp ap aq hgs.neg hgt.neg (by omega)) ?_
 rintro _ cj ⟨ck, rfl, o⟩
 refine ⟨_, rfl, ?_⟩
 have ag := af.tr o
 have bk := bj.ext o
 refine ⟨fun _ => (Pins.of_le ag.pins (Pin.le_trans (Pin.le_trans c.le g.le) o.le)), ?_⟩
 refine dO (i := 5) (zU (i := 5) rfl rfl rfl (zD rfl _) (zH (vs := [(.agg [(vJ (btT p (-(u + 1)))), (vJ (btP p))].toArray)]) Tryz.func102 nm102 rfl rfl rfl ?_))
 refine Calls.mono (jN (t := btT p (-(u + 1))) (z := btP p) ag.pins (by omega)) ?_
 rintro _ cl ⟨cm, rfl, ah⟩
 refine ⟨_, rfl, ?_⟩
 have ai := ag.tr ah
 have bl := bk.ext ah
 refine ⟨fun _ => (Pins.of_le ai.pins (Pin.le_trans (Pin.le_trans (Pin.le_trans c.le g.le) o.le) ah.le)), ?_⟩
 refine dO (i := 6) (qB (i := 6) rfl rfl rfl (zD rfl _) (yF (cs' := [(vJ (-(btT p (-(u + 1))))), (vJ (btP p))]) (us := [(vJ (-(btT p (-(u + 1))))), (vJ (btP p))]) (v := (.agg [(vJ (-(btT p (-(u + 1))))), (vJ (btP p))].toArray)) sz27 rfl rfl rfl (yK (by rfl) (by rfl)) ai.pins bl (Nat.le_of_ble_eq_true rfl) rfl (fun cn bm bn bo co => ?_)))
 have bp := ai.write bn bo ((zS av))
 refine ⟨fun h => absurd rfl h, ?_⟩
 exact yQ (by kernel_rfl) (zA (wp_ret (zO (c_retc (cs := [(vJ (-(btT p (-(u + 1))))), (vJ (btP p))]) rfl rfl rfl ag27 sz27 (fun j u hj => by rw [Nat.zero_add]; exact bm.cell hj) (⟨_, by rw [bt_neg], bp⟩)))))
 refine qN (yH (cs := [(vJ s), (vJ y)]) ag27 sz27 rfl (fun j u hj => (Pins.of_le f.pins a.le) _ _ _ (l _ _ (by simpa using hj)))) ?_
 refine qN (yG [(vJ 0), (vJ 0)] [(vJ 0), (vJ 0)] [] Tryz.underlying27 zr27 rfl pl27 rfl (fun _ h => by cases h) rfl) ?_
 refine qN (r_eqlD Tryz.underlying27 (by decide) rfl rfl rfl rfl Tryz.underlying3 sh27 eg27 rfl rfl) ?_
 refine qD rfl (zY (v := (.bool (decide (((s, y) : Int × Int) = (0, 0))))) rfl rfl) (qe (zA ?_))
 refine yA (p := (((s, y) : Int × Int) = (0, 0))) rfl rfl (fun ay => ?_) (fun ay => ?_)
 refine zB (yZ (S := fun wz => Pins aw wz) (last := 6) (by kernel_rfl) rfl ?_)
 have aj : Below b.heap.size b b.drew := (Below.refl _ _).drew
 have bq := f.pins.below aj
 have q := f.step bq aj
 have br := ax.below aj
 refine dT (i := 0) rfl rfl (by kernel_rfl) (fun _ hS => yH (cs := [(vJ s), (vJ y)]) ag27 sz27 rfl (fun j u hj => (Pins.of_le hS a.le) _ _ _ (l _ _ (by simpa using hj)))) q.pins ?_
 refine dT (i := 2) rfl rfl (by kernel_rfl) (fun _ hS => yH (cs := [(vJ t), (vJ z)]) ag27 sz27 rfl (fun j u hj => (Pins.of_le hS (Pin.le_trans au a.le)) _ _ _ (ar _ _ (by simpa using hj)))) q.pins ?_
 refine dO (i := 1) (zU (i := 1) rfl rfl rfl (zD rfl _) (zH (vs := [(.agg [(vJ s), (vJ y)].toArray)]) Tryz.func102 nm102 rfl rfl rfl ?_))
 refine Calls.mono (jN (t := s) (z := y) q.pins (by omega)) ?_
 rintro _ cp ⟨cq, rfl, d⟩
 refine ⟨_, rfl, ?_⟩
 have ak := q.tr d
 have bs := br.ext d
 refine ⟨fun _ => (Pins.of_le ak.pins d.le), ?_⟩
 refine dO (i := 3) (zU (i := 3) rfl rfl rfl (zD rfl _) (zH (vs := [(.agg [(vJ t), (vJ z)].toArray)]) Tryz.func102 nm102 rfl rfl rfl ?_))
 refine Calls.mono (jN (t := t) (z := z) ak.pins (by omega)) ?_
 rintro _ cr ⟨ct, rfl, k⟩
 refine ⟨_, rfl, ?_⟩
 have al := ak.tr k
 have bt := bs.ext k
 refine ⟨fun _ => (Pins.of_le al.pins (Pin.le_trans d.le k.le)), ?_⟩
 refine dO (i := 4) (zU (i := 4) rfl rfl rfl (zD rfl _) (zH (vs := [(.agg [(vJ (-s)), (vJ y)].toArray), (.agg [(vJ (-t)), (vJ z)].toArray)]) Tryz.func103 nm103 rfl rfl rfl ?_))
 refine Calls.mono (l2BetweenP_spec (t := -s) (z := y) (s := -t) (y := z) (u := -(u + 1)) (p := p) al.pins hp ap aq hgs.neg hgt.neg (by omega)) ?_
 rintro _ cu ⟨cv, rfl, r⟩
 refine ⟨_, rfl, ?_⟩
 have am := al.tr r
 have bu := bt.ext r
 refine ⟨fun _ => (Pins.of_le am.pins (Pin.le_trans (Pin.le_trans d.le k.le) r.le)), ?_⟩
 refine dO (i := 5) (zU (i := 5) rfl rfl rfl (zD rfl _) (zH (vs := [(.agg [(vJ (btT p (-(u + 1)))), (vJ (btP p))].toArray)]) Tryz.func102 nm102 rfl rfl rfl ?_))
 refine Calls.mono (jN (t := btT p (-(u + 1))) (z := btP p) am.pins (by omega)) ?_
 rintro _ cw ⟨cx, rfl, an⟩
 refine ⟨_, rfl, ?_⟩
 have ao := am.tr an
 have bv := bu.ext an
 refine ⟨fun _ => (Pins.of_le ao.pins (Pin.le_trans (Pin.le_trans (Pin.le_trans d.le k.le) r.le) an.le)), ?_⟩
 refine dO (i := 6) (qB (i := 6) rfl rfl rfl (zD rfl _) (yF (cs' := [(vJ (-(btT p (-(u + 1))))), (vJ (btP p))]) (us := [(vJ (-(btT p (-(u + 1))))), (vJ (btP p))]) (v := (.agg [(vJ (-(btT p (-(u + 1))))), (vJ (btP p))].toArray)) sz27 rfl rfl rfl (yK (by rfl) (by rfl)) ao.pins bv (Nat.le_of_ble_eq_true rfl) rfl (fun cy bw bx bz cz => ?_)))
 have b0 := ao.write bx bz ((zS av))
 refine ⟨fun h => absurd rfl h, ?_⟩
 exact yQ (by kernel_rfl) (zA (wp_ret (zO (c_retc (cs := [(vJ (-(btT p (-(u + 1))))), (vJ (btP p))]) rfl rfl rfl ag27 sz27 (fun j u hj => by rw [Nat.zero_add]; exact bw.cell hj) (⟨_, by rw [bt_neg], b0⟩)))))
 exact absurd (pair_zero hgs (scI_zero_iff (y := y) (by omega))) ay

theorem l2Between_spec {w : World} {G : Pin} {t z s y u : Int} {p : Nat} (hP : Pins G w) (hp : p ≤ 16) (hA : scI 24 t z = u * 2 ^ (24 - p)) (hB : scI 24 s y = (u + 1) * 2 ^ (24 - p)) (hgt : GoodD t z) (hgs : GoodD s y) :
  Calls Tryz.prog 103 [(.agg [.int .i64 t, .int .i64 z].toArray), (.agg [.int .i64 s, .int .i64 y].toArray)].toArray w fun e w' => ∃ G', e = .returned (.agg [.int .i64 (btT p u), .int .i64 (btP p)].toArray) ∧ Ext noS G w G' w' := by
 by_cases hu : 0 ≤ u
 ·exact l2BetweenP_spec hP hp hA hB hgt hgs hu
 ·exact l2BetweenN_spec hP hp hA hB hgt hgs (by omega)

end VB2
end Go.Proofs.YtakkjmlnmcemaaaGreatDoor

set_option maxRecDepth 20000
set_option maxHeartbeats 2000000
namespace Go.Proofs.YtakkjmlnmcemaaaGreatDoor
namespace VB3
open Go.RowKit Go.GL Go.Proofs
open B1 C1 D1 E1 K1 PO1 PL1 NU1 NU2 NU3 NB4 VB1 VB2










theorem pl27 : (Tryz.prog.underlying 27).bind (placesD Tryz.prog) = some [(0, 1), (1, 1)] := by kernel_rfl




theorem l7Node_spec {w : World} {G : Pin} {xl xr v bb : Value} {ns : List Nd} {c k : Nat} {xs ys : List Int} {vs : List (Int × Int)} {bs : List Bool} (hP : Pins G w) (hl : RSl eInt G xl xs) (hr : RSl eInt G xr ys) (hxs : xs = (ns.getD k default).l) (hys : ys = (ns.getD k default).r) (hv : RSl eP2 G v vs) (hb : RSl eBool G bb bs) (hf : IsForm c ns) (hc : CanonG c) (hk : k < ns.length) (hvs : VsOk ns vs bs k) :
  Calls Tryz.prog 83 [(.agg [xl, xr].toArray), v, bb].toArray w fun e w' => ∃ G', e = .returned (.tuple #[.agg [.int .i64 (vgT (den ns k)), .int .i64 (vgP (den ns k))].toArray, .bool (vgB (den ns k))]) ∧ Ext noS G w G' w' := by
 refine zV (n := 125) Tryz.func83 Tryz.ntmps83 rfl rfl ?_
 have bw : Ext noS G w G w := Ext.refl hP
 have hno := node_ok hf hc hk hxs hys
 have hoo := xC hf.1.wf.ok.opts hk
 have hlen := hf.1.wf.ok.lens k hk
 rw [← hxs, ← hys] at hoo hlen
 have hvl := hvs.vl
 have hbl := hvs.bl
 have hil : 0 < xs.length → 0 ≤ xs.getD 0 0 ∧ xs.getD 0 0 < (k : Int) := fun h => hoo.1 _ (yC h)
 have hir : 0 < ys.length → 0 ≤ ys.getD 0 0 ∧ ys.getD 0 0 < (k : Int) := fun h => hoo.2 _ (yC h)
 refine zB (zC ?_)
 refine qI rfl (xG [xl, xr] (v := (.agg [xl, xr].toArray)) rfl rfl bw.pins (fun b1 w2 ki e8 e9 fa => ?_))
 have fb := bw.step e9 fa
 have fc : w.heap.size ≤ b1 := by have := bw.size; omega
 obtain ⟨G9, q, bx, d, kk⟩ := e8.shut fb fc
 refine qI rfl (yM [(vJ 0), (vJ 0)] zr27 rfl bx.pins (fun aj kl km aa fd fe => ?_))
 have a := bx.step fd fe
 have ab : w.heap.size ≤ aj := by have := bx.size; omega
 refine qM (.bool false) ?_
 refine qe (zA (zB (zB (zC ?_))))
 refine qD rfl (zK (k := 0) rfl Tryz.underlying65 rfl nz56 rfl) (qD rfl (zL (u := xl) ag56 rfl (a.pins _ _ _ (d 0 _ rfl))) (qD rfl (zM Tryz.underlying56 (v := xl) rfl hl) (qD rfl (r_gtr rfl rfl) (qM (.bool (decide ((1 : Int) < (xs.length : Int)))) ?_))))
 refine qbd (p := (1 : Int) < (xs.length : Int)) (t := 15) rfl (fun ff => ?_) (fun ff => ?_)
 refine qW ?_
 refine qW ?_
 refine qW ?_
 refine qW ?_
 refine qD rfl (yD (v := (.bool true)) rfl rfl) (qM (.bool true) ?_)
 refine qW ?_
 refine qW ?_
 refine qW ?_
 refine qW ?_
 refine qW ?_
 refine qX ?_
 refine qX ?_
 refine qX ?_
 refine qX ?_
 refine qX ?_
 refine qX ?_
 refine qX ?_
 refine qX ?_
 refine qW ?_
 refine qD rfl (yD (v := (.bool true)) rfl rfl) (qM (.bool true) ?_)
 refine qW ?_
 refine qW ?_
 refine qW ?_
 refine qW ?_
 refine qW ?_
 refine qX ?_
 refine qX ?_
 refine qX ?_
 refine qX ?_
 refine qX ?_
 refine qX ?_
 refine qX ?_
 refine qX ?_
 refine qW ?_
 refine qD rfl (yD (v := (.bool true)) rfl rfl) (qe (zA ?_))
 refine xY rfl rfl (zB (zC ?_))
 refine qD rfl (yG [(vJ 0), (vJ 0)] [(vJ 0), (vJ 0)] [] Tryz.underlying27 zr27 rfl pl27 rfl (fun _ h => by cases h) rfl) (q0 rfl rfl rfl (yF (cs' := [(vJ 0), (vJ 0)]) (us := [(vJ 0), (vJ 0)]) (v := (.agg [(vJ 0), (vJ 0)].toArray)) sz27 rfl rfl rfl (yK (by rfl) (by rfl)) a.pins aa (Nat.le_of_ble_eq_true rfl) rfl (fun kn fg fh fi ko => ?_)))
 have fj := a.write fh fi ((zS ab))
 refine qM (.bool false) ?_
 refine qe (zA ?_)
 refine wp_ret (zO (xL (cs := [(vJ 0), (vJ 0)]) (v := (.bool false)) rfl rfl rfl rfl rfl ag27 sz27 (fun j u hj => by rw [Nat.zero_add]; exact fg.cell hj) ?_))
 have hvb : vgB (den ns k) = false := nd_many hno (by omega)
 obtain ⟨m, o⟩ := vg_no hvb
 rw [hvb, m, o]
 exact ⟨_, rfl, fj⟩
 refine qN (zK (k := 1) rfl Tryz.underlying65 rfl nz56 rfl) ?_
 refine qN (zL (u := xr) ag56 rfl (a.pins _ _ _ (d 1 _ rfl))) ?_
 refine qN (zM Tryz.underlying56 (v := xr) rfl hr) ?_
 refine qN (r_gtr rfl rfl) ?_
 refine qD rfl (zY (v := (.bool (decide ((1 : Int) < (ys.length : Int))))) rfl rfl) (qM (.bool (decide ((1 : Int) < (ys.length : Int)))) ?_)
 refine qbd (p := (1 : Int) < (ys.length : Int)) (t := 21) rfl (fun fk => ?_) (fun fk => ?_)
 refine qW ?_
 refine qW ?_
 refine qW ?_
 refine qW ?_
 refine qW ?_
 refine qX ?_
 refine qX ?_
 refine qX ?_
 refine qX ?_
 refine qX ?_
 refine qX ?_
 refine qX ?_
 refine qX ?_
 refine qW ?_
 refine qD rfl (yD (v := (.bool true)) rfl rfl) (qM (.bool true) ?_)
 refine qW ?_
 refine qW ?_
 refine qW ?_
 refine qW ?_
 refine qW ?_
 refine qX ?_
 refine qX ?_
 refine qX ?_
 refine qX ?_
 refine qX ?_
 refine qX ?_
 refine qX ?_
 refine qX ?_
 refine qW ?_
 refine qD rfl (yD (v := (.bool true)) rfl rfl) (qe (zA ?_))
 refine xY rfl rfl (zB (zC ?_))
 refine qD rfl (yG [(vJ 0), (vJ 0)] [(vJ 0), (vJ 0)] [] Tryz.underlying27 zr27 rfl pl27 rfl (fun _ h => by cases h) rfl) (q0 rfl rfl rfl (yF (cs' := [(vJ 0), (vJ 0)]) (us := [(vJ 0), (vJ 0)]) (v := (.agg [(vJ 0), (vJ 0)].toArray)) sz27 rfl rfl rfl (yK (by rfl) (by rfl)) a.pins aa (Nat.le_of_ble_eq_true rfl) rfl (fun kp fl fm fn kq => ?_)))
 have fo := a.write fm fn ((zS ab))
 refine qM (.bool false) ?_
 refine qe (zA ?_)
 refine wp_ret (zO (xL (cs := [(vJ 0), (vJ 0)]) (v := (.bool false)) rfl rfl rfl rfl rfl ag27 sz27 (fun j u hj => by rw [Nat.zero_add]; exact fl.cell hj) ?_))
 have hvb : vgB (den ns k) = false := nd_many hno (by omega)
 obtain ⟨m, o⟩ := vg_no hvb
 rw [hvb, m, o]
 exact ⟨_, rfl, fo⟩
 refine qN (zK (k := 0) rfl Tryz.underlying65 rfl nz56 rfl) ?_
 refine qN (zL (u := xl) ag56 rfl (a.pins _ _ _ (d 0 _ rfl))) ?_
 refine qN (zM Tryz.underlying56 (v := xl) rfl hl) ?_
 refine qN (xV rfl rfl) ?_
 refine qN (zQ (v := (.bool (decide (((xs.length : Int) : Int) = 1)))) rfl) ?_
 refine qbd (p := ((xs.length : Int) : Int) = 1) (t := 26) rfl (fun fp => ?_) (fun fp => ?_)
 have kr := hil (by omega)
 have hvL := hvs.v (xs.getD 0 0).toNat (by omega)
 have hbL := hvs.b (xs.getD 0 0).toNat (by omega)
 refine qN (zQ (v := bb) rfl) ?_
 refine qN (zK (k := 0) rfl Tryz.underlying65 rfl nz56 rfl) ?_
 refine qN (zL (u := xl) ag56 rfl (a.pins _ _ _ (d 0 _ rfl))) ?_
 refine qN (zF Tryz.underlying56 sz3 (v := xl) rfl rfl hl (by omega) (by omega)) ?_
 refine qN (zE (r := xs.getD 0 0) rfl ag3 (z := 0) rfl hl (Pins.of_le a.pins q) (by omega) (by omega)) ?_
 refine qN (zF Tryz.underlying60 sz4 (v := bb) rfl rfl hb (by omega) (by omega)) ?_
 refine qN (qC (r := bs.getD (xs.getD 0 0).toNat false) rfl ag4 (z := (xs.getD 0 0)) rfl hb (Pins.of_le a.pins q) (by omega) (by omega)) ?_
 refine qN (xE rfl) ?_
 refine qN (yD (v := (.bool (!(bs.getD (xs.getD 0 0).toNat false)))) rfl rfl) ?_
 refine qD rfl (zY (v := (.bool (!(bs.getD (xs.getD 0 0).toNat false)))) rfl rfl) (qM (.bool (!(bs.getD (xs.getD 0 0).toNat false))) ?_)
 refine qbn (t := 37) rfl (fun bh => ?_) (fun bh => ?_)
 refine qN (zK (k := 1) rfl Tryz.underlying65 rfl nz56 rfl) ?_
 refine qN (zL (u := xr) ag56 rfl (a.pins _ _ _ (d 1 _ rfl))) ?_
 refine qN (zM Tryz.underlying56 (v := xr) rfl hr) ?_
 refine qN (xV rfl rfl) ?_
 refine qN (zQ (v := (.bool (decide (((ys.length : Int) : Int) = 1)))) rfl) ?_
 refine qbd (p := ((ys.length : Int) : Int) = 1) (t := 42) rfl (fun fq => ?_) (fun fq => ?_)
 have fr := hir (by omega)
 have hvR := hvs.v (ys.getD 0 0).toNat (by omega)
 have hbR := hvs.b (ys.getD 0 0).toNat (by omega)
 refine qN (zQ (v := bb) rfl) ?_
 refine qN (zK (k := 1) rfl Tryz.underlying65 rfl nz56 rfl) ?_
 refine qN (zL (u := xr) ag56 rfl (a.pins _ _ _ (d 1 _ rfl))) ?_
 refine qN (zF Tryz.underlying56 sz3 (v := xr) rfl rfl hr (by omega) (by omega)) ?_
 refine qN (zE (r := ys.getD 0 0) rfl ag3 (z := 0) rfl hr (Pins.of_le a.pins q) (by omega) (by omega)) ?_
 refine qN (zF Tryz.underlying60 sz4 (v := bb) rfl rfl hb (by omega) (by omega)) ?_
 refine qN (qC (r := bs.getD (ys.getD 0 0).toNat false) rfl ag4 (z := (ys.getD 0 0)) rfl hb (Pins.of_le a.pins q) (by omega) (by omega)) ?_
 refine qN (xE rfl) ?_
 refine qN (yD (v := (.bool (!(bs.getD (ys.getD 0 0).toNat false)))) rfl rfl) ?_
 refine qD rfl (zY (v := (.bool (!(bs.getD (ys.getD 0 0).toNat false)))) rfl rfl) (qe (zA ?_))
 refine xX rfl rfl (fun bz => ?_) (fun bz => ?_)
 refine wp_skip (zA (zB (zC ?_)))
 refine qD rfl (yG [(vJ 0), (vJ 0)] [(vJ 1), (vJ 0)] [(0, (vJ 1), [(vJ 1)])] Tryz.underlying27 zr27 rfl pl27 rfl (List.forall_mem_cons.2 ⟨rfl, (fun _ h => by cases h)⟩) rfl) (qI rfl (yM [(vJ 0), (vJ 0)] zr27 rfl a.pins (fun cw ks fs ft fu cx => ?_)))
 have cy := a.step fu cx
 have fv := aa.below cx
 have cz : Apart (some cw) (some aj) := zJ (congrArg some fs) aa.lt
 have c0 : w.heap.size ≤ cw := by have := a.size; omega
 refine q0 rfl rfl rfl (yF (cs' := [(vJ 1), (vJ 0)]) (us := [(vJ 1), (vJ 0)]) (v := (.agg [(vJ 1), (vJ 0)].toArray)) sz27 rfl rfl rfl (yK (by rfl) (by rfl)) cy.pins ft (Nat.le_of_ble_eq_true rfl) rfl (fun b0 fw fx c1 kt => ?_))
 have fy := cy.write fx c1 ((zS c0))
 have fz := fv.keptA c1 cz.symm
 obtain ⟨f0, ac, aw, ku, f1⟩ := fw.shut fy c0
 have f2 := fz.moreA f1 cz.symm
 refine qe (zA (zB ?_))
 refine zX (zB (zC ?_))
 refine qD rfl (zK (k := 0) rfl Tryz.underlying65 rfl nz56 rfl) (qD rfl (zL (u := xl) ag56 rfl ((Pins.of_le aw.pins ac) _ _ _ (d 0 _ rfl))) (qD rfl (zM Tryz.underlying56 (v := xl) rfl hl) (qD rfl (zK (k := 1) rfl Tryz.underlying65 rfl nz56 rfl) (qD rfl (zL (u := xr) ag56 rfl ((Pins.of_le aw.pins ac) _ _ _ (d 1 _ rfl))) (qD rfl (zM Tryz.underlying56 (v := xr) rfl hr) (qD rfl (yJ rfl rfl (by omega)) (qD rfl (xV rfl rfl) (qM (.bool (decide (((xs.length : Int) + (ys.length : Int) : Int) = 0))) ?_))))))))
 refine qe (zA ?_)
 refine yA (p := ((xs.length : Int) + (ys.length : Int) : Int) = 0) rfl rfl (fun f3 => ?_) (fun f3 => ?_)
 exfalso; omega
 refine zB (zC ?_)
 refine qD rfl (zK (k := 1) rfl Tryz.underlying65 rfl nz56 rfl) (qD rfl (zL (u := xr) ag56 rfl ((Pins.of_le aw.pins ac) _ _ _ (d 1 _ rfl))) (qD rfl (zM Tryz.underlying56 (v := xr) rfl hr) (qD rfl (xV rfl rfl) (qM (.bool (decide (((ys.length : Int) : Int) = 0))) ?_))))
 refine qe (zA ?_)
 refine yA (p := ((ys.length : Int) : Int) = 0) rfl rfl (fun f4 => ?_) (fun f4 => ?_)
 exfalso; omega
 refine zB (zC ?_)
 refine qD rfl (zK (k := 0) rfl Tryz.underlying65 rfl nz56 rfl) (qD rfl (zL (u := xl) ag56 rfl ((Pins.of_le aw.pins ac) _ _ _ (d 0 _ rfl))) (qD rfl (zM Tryz.underlying56 (v := xl) rfl hl) (qD rfl (xV rfl rfl) (qM (.bool (decide (((xs.length : Int) : Int) = 0))) ?_))))
 refine qe (zA ?_)
 refine yA (p := ((xs.length : Int) : Int) = 0) rfl rfl (fun f5 => ?_) (fun f5 => ?_)
 exfalso; omega
 refine wp_skip (yB (zA (zB ?_)))
 have hvbL : vgB (den ns (xs.getD 0 0).toNat) = true := by rw [← hbL]; exact bh
 have ad : (vs.getD (xs.getD 0 0).toNat default).1 = vgT (den ns (xs.getD 0 0).toNat) := by rw [hvL]
 have ae : (vs.getD (xs.getD 0 0).toNat default).2 = vgP (den ns (xs.getD 0 0).toNat) := by rw [hvL]
 have hgL : GoodD (vs.getD (xs.getD 0 0).toNat default).1 (vs.getD (xs.getD 0 0).toNat default).2 := by rw [ad, ae]; exact qQ hvbL
 have hgLt := hgL.top
 have hgLp := hgL.pow
 have hvbR : vgB (den ns (ys.getD 0 0).toNat) = true := by rw [← hbR]; exact bz
 have af : (vs.getD (ys.getD 0 0).toNat default).1 = vgT (den ns (ys.getD 0 0).toNat) := by rw [hvR]
 have ag : (vs.getD (ys.getD 0 0).toNat default).2 = vgP (den ns (ys.getD 0 0).toNat) := by rw [hvR]
 have hgR : GoodD (vs.getD (ys.getD 0 0).toNat default).1 (vs.getD (ys.getD 0 0).toNat default).2 := by rw [af, ag]; exact qQ hvbR
 have hgRt := hgR.top
 have hgRp := hgR.pow
 refine yZ (S := fun wz => Pins f0 wz) (last := 17) (by kernel_rfl) rfl ?_
 have b2 : Below b0.heap.size b0 b0.drew := (Below.refl _ _).drew
 have f6 := aw.pins.below b2
 have f := aw.step f6 b2
 have bi := f2.below b2
 refine dM 0 v f.pins ?_
 refine dT (i := 1) rfl rfl (by kernel_rfl) (fun _ _ => zK (k := 0) rfl Tryz.underlying65 rfl nz56 rfl) f.pins ?_
 refine dT (i := 2) rfl rfl (by kernel_rfl) (fun _ hS => zL (u := xl) ag56 rfl ((Pins.of_le hS ac) _ _ _ (d 0 _ rfl))) f.pins ?_
 refine dT (i := 3) rfl rfl (by kernel_rfl) (fun _ _ => zF Tryz.underlying56 sz3 (v := xl) rfl rfl hl (by omega) (by omega)) f.pins ?_
 refine dT (i := 4) rfl rfl (by kernel_rfl) (fun _ hS => zE (r := xs.getD 0 0) rfl ag3 (z := 0) rfl hl (Pins.of_le hS (Pin.le_trans q ac)) (by omega) (by omega)) f.pins ?_
 refine dT (i := 5) rfl rfl (by kernel_rfl) (fun _ _ => zF Tryz.underlying59 sz27 (v := v) rfl rfl hv (by omega) (by omega)) f.pins ?_
 obtain ⟨kv, f7, f8, kw⟩ := nm_el (j := (xs.getD 0 0).toNat) default (hv.at (z := (xs.getD 0 0)) (by omega) (by omega)) rfl
 obtain rfl := f7
 refine dT (i := 6) rfl rfl (by kernel_rfl) (fun _ hS => f8 ag27 sz27 rfl (Pins.of_le hS (Pin.le_trans q ac))) f.pins ?_
 refine dM 7 v f.pins ?_
 refine dT (i := 8) rfl rfl (by kernel_rfl) (fun _ _ => zK (k := 1) rfl Tryz.underlying65 rfl nz56 rfl) f.pins ?_
 refine dT (i := 9) rfl rfl (by kernel_rfl) (fun _ hS => zL (u := xr) ag56 rfl ((Pins.of_le hS ac) _ _ _ (d 1 _ rfl))) f.pins ?_
 refine dT (i := 10) rfl rfl (by kernel_rfl) (fun _ _ => zF Tryz.underlying56 sz3 (v := xr) rfl rfl hr (by omega) (by omega)) f.pins ?_
 refine dT (i := 11) rfl rfl (by kernel_rfl) (fun _ hS => zE (r := ys.getD 0 0) rfl ag3 (z := 0) rfl hr (Pins.of_le hS (Pin.le_trans q ac)) (by omega) (by omega)) f.pins ?_
 refine dT (i := 12) rfl rfl (by kernel_rfl) (fun _ _ => zF Tryz.underlying59 sz27 (v := v) rfl rfl hv (by omega) (by omega)) f.pins ?_
 obtain ⟨kx, f9, ga, ky⟩ := nm_el (j := (ys.getD 0 0).toNat) default (hv.at (z := (ys.getD 0 0)) (by omega) (by omega)) rfl
 obtain rfl := f9
 refine dT (i := 13) rfl rfl (by kernel_rfl) (fun _ hS => ga ag27 sz27 rfl (Pins.of_le hS (Pin.le_trans q ac))) f.pins ?_
 refine dr_two (i := 14) (j := 15) (by kernel_rfl) ?_ ?_
 refine (zU (i := 14) rfl rfl rfl (zD rfl _) (yM [(vJ 0), (vJ 0)] zr27 rfl f.pins (fun b3 kz gb c2 gc c3 => ?_)))
 have bj := f.step gc c3
 have c4 := bi.below c3
 have c5 : Apart (some b3) (some aj) := zJ (congrArg some gb) bi.lt
 have c6 : w.heap.size ≤ b3 := by have := f.size; omega
 refine ⟨fun _ => bj.pins, ?_⟩
 refine dO (i := 15) (zU (i := 15) rfl rfl rfl (zD rfl _) (yM [(vJ 0), (vJ 0)] zr27 rfl bj.pins (fun b4 k0 c7 gd ge b5 => ?_)))
 have b6 := bj.step ge b5
 have gf := c4.below b5
 have gg := c2.below b5
 have c8 : Apart (some b4) (some aj) := zJ (congrArg some c7) c4.lt
 have c9 : Apart (some b4) (some b3) := zJ (congrArg some c7) c2.lt
 have da : w.heap.size ≤ b4 := by have := bj.size; omega
 refine ⟨fun _ => b6.pins, ?_⟩
 refine dO (i := 16) (qB (i := 16) rfl rfl rfl (zD rfl _) (yF (cs' := [(vJ ((vs.getD (xs.getD 0 0).toNat default).1)), (vJ ((vs.getD (xs.getD 0 0).toNat default).2))]) (us := [(vJ ((vs.getD (xs.getD 0 0).toNat default).1)), (vJ ((vs.getD (xs.getD 0 0).toNat default).2))]) (v := (.agg [(vJ ((vs.getD (xs.getD 0 0).toNat default).1)), (vJ ((vs.getD (xs.getD 0 0).toNat default).2))].toArray)) sz27 rfl rfl rfl (yK (by rfl) (by rfl)) b6.pins gg (Nat.le_of_ble_eq_true rfl) rfl (fun k1 gh gi b7 k2 => ?_)))
 have gj := b6.write gi b7 ((zS c6))
 have gk := gf.keptA b7 c5.symm
 have gl := gd.keptA b7 c9
 obtain ⟨k3, gm, b8, db, dc⟩ := gh.shut gj c6
 have gn := gk.moreA dc c5.symm
 have gp := gl.moreA dc c9
 refine ⟨fun _ => (Pins.of_le b8.pins gm), ?_⟩
 refine dO (i := 17) (qB (i := 17) rfl rfl rfl (zD rfl _) (yF (cs' := [(vJ ((vs.getD (ys.getD 0 0).toNat default).1)), (vJ ((vs.getD (ys.getD 0 0).toNat default).2))]) (us := [(vJ ((vs.getD (ys.getD 0 0).toNat default).1)), (vJ ((vs.getD (ys.getD 0 0).toNat default).2))]) (v := (.agg [(vJ ((vs.getD (ys.getD 0 0).toNat default).1)), (vJ ((vs.getD (ys.getD 0 0).toNat default).2))].toArray)) sz27 rfl rfl rfl (yK (by rfl) (by rfl)) b8.pins gp (Nat.le_of_ble_eq_true rfl) rfl (fun k4 gq gr dd k5 => ?_)))
 have gs := b8.write gr dd ((zS da))
 have gt := gn.keptA dd c8.symm
 obtain ⟨k6, de, bk, df, gu⟩ := gq.shut gs da
 have gv := gt.moreA gu c8.symm
 refine ⟨fun h => absurd rfl h, ?_⟩
 refine yQ (by kernel_rfl) (zA (zB (zB (zC ?_))))
 refine qD rfl (yH (cs := [(vJ ((vs.getD (xs.getD 0 0).toNat default).1)), (vJ ((vs.getD (xs.getD 0 0).toNat default).2))]) ag27 sz27 rfl (fun j u hj => (Pins.of_le bk.pins de) _ _ _ (db _ _ (by simpa using hj)))) (qD rfl (yH (cs := [(vJ ((vs.getD (ys.getD 0 0).toNat default).1)), (vJ ((vs.getD (ys.getD 0 0).toNat default).2))]) ag27 sz27 rfl (fun j u hj => bk.pins _ _ _ (df _ _ (by simpa using hj)))) (qI rfl (zH (vs := [(.agg [(vJ ((vs.getD (xs.getD 0 0).toNat default).1)), (vJ ((vs.getD (xs.getD 0 0).toNat default).2))].toArray), (.agg [(vJ ((vs.getD (ys.getD 0 0).toNat default).1)), (vJ ((vs.getD (ys.getD 0 0).toNat default).2))].toArray)]) Tryz.func31 nm31 rfl rfl rfl ?_)))
 refine Calls.mono (jC (t := (vs.getD (xs.getD 0 0).toNat default).1) (z := (vs.getD (xs.getD 0 0).toNat default).2) (s := (vs.getD (ys.getD 0 0).toNat default).1) (y := (vs.getD (ys.getD 0 0).toNat default).2) bk.pins (by omega) (by omega) (by omega) (by omega)) ?_
 rintro _ k7 ⟨k8, rfl, bm⟩
 refine ⟨_, rfl, ?_⟩
 have ax := bk.tr bm
 have dg := gv.ext bm
 refine qD rfl (xE rfl) (qe (zA ?_))
 refine xX rfl rfl (fun an => ?_) (fun an => ?_)
 replace an := of_decide_eq_true an
 refine wp_skip (zA (zB (zC ?_)))
 have hnd := nd_lr hno ⟨by omega, by omega⟩ hvbL hvbR ((less_ge hvbL hvbR).1 (by rw [← ad, ← ae, ← af, ← ag]; exact an))
 obtain ⟨pz, uz, hpz, hAz, hBz, ao⟩ := bt_val hnd.1 hvbL hvbR
 rw [← ad, ← ae] at hAz
 rw [← af, ← ag] at hBz
 refine qD rfl (yH (cs := [(vJ ((vs.getD (xs.getD 0 0).toNat default).1)), (vJ ((vs.getD (xs.getD 0 0).toNat default).2))]) ag27 sz27 rfl (fun j u hj => (Pins.of_le ax.pins (Pin.le_trans de bm.le)) _ _ _ (db _ _ (by simpa using hj)))) (qD rfl (yH (cs := [(vJ ((vs.getD (ys.getD 0 0).toNat default).1)), (vJ ((vs.getD (ys.getD 0 0).toNat default).2))]) ag27 sz27 rfl (fun j u hj => (Pins.of_le ax.pins bm.le) _ _ _ (df _ _ (by simpa using hj)))) (qI rfl (zH (vs := [(.agg [(vJ ((vs.getD (xs.getD 0 0).toNat default).1)), (vJ ((vs.getD (xs.getD 0 0).toNat default).2))].toArray), (.agg [(vJ ((vs.getD (ys.getD 0 0).toNat default).1)), (vJ ((vs.getD (ys.getD 0 0).toNat default).2))].toArray)]) Tryz.func103 nm103 rfl rfl rfl ?_)))
 refine Calls.mono (l2Between_spec ax.pins hpz hAz hBz hgL hgR) ?_
 rintro _ k9 ⟨la, rfl, dh⟩
 refine ⟨_, rfl, ?_⟩
 have di := ax.tr dh
 have gw := dg.ext dh
 refine qI rfl (zH (vs := [(.agg [(vJ (btT pz uz)), (vJ (btP pz))].toArray)]) Tryz.func100 nm100 rfl rfl rfl ?_)
 refine Calls.mono (l2If_spec (t := btT pz uz) (z := btP pz) di.pins) ?_
 rintro _ lb ⟨lc, bn, dj⟩
 obtain ⟨a5, dk⟩ : ∃ x : Int, x = lowR (decP (GoodD (btT pz uz) (btP pz))) (btT pz uz) := ⟨_, rfl⟩
 rw [← dk] at bn
 obtain ⟨a6, dl⟩ : ∃ x : Int, x = lowR (decP (GoodD (btT pz uz) (btP pz))) (btP pz) := ⟨_, rfl⟩
 rw [← dl] at bn
 obtain ⟨b9, dm⟩ : ∃ x : Bool, x = decP (GoodD (btT pz uz) (btP pz)) := ⟨_, rfl⟩
 rw [← dm] at bn
 subst bn
 refine ⟨_, rfl, ?_⟩
 have dn := di.tr dj
 have gx := gw.ext dj
 refine qD rfl (yE (v := (.agg [(vJ a5), (vJ a6)].toArray)) rfl rfl) (qD rfl (yE (v := (.bool b9)) rfl rfl) (q0 rfl rfl rfl (yF (cs' := [(vJ a5), (vJ a6)]) (us := [(vJ a5), (vJ a6)]) (v := (.agg [(vJ a5), (vJ a6)].toArray)) sz27 rfl rfl rfl (yK (by rfl) (by rfl)) dn.pins gx (Nat.le_of_ble_eq_true rfl) rfl (fun ld gy gz g0 lf => ?_))))
 have g1 := dn.write gz g0 ((zS ab))
 refine qM (.bool b9) ?_
 refine qe (zA ?_)
 refine wp_ret (zO (xL (cs := [(vJ a5), (vJ a6)]) (v := (.bool b9)) rfl rfl rfl rfl rfl ag27 sz27 (fun j u hj => by rw [Nat.zero_add]; exact gy.cell hj) ?_))
 subst dm
 subst dl
 subst dk
 rw [hnd.2, ao.1, ao.2.1, ao.2.2]
 exact ⟨_, rfl, g1⟩
 replace an := of_decide_eq_false an
 refine zB (zC ?_)
 refine qD rfl (yG [(vJ 0), (vJ 0)] [(vJ 0), (vJ 0)] [] Tryz.underlying27 zr27 rfl pl27 rfl (fun _ h => by cases h) rfl) (q0 rfl rfl rfl (yF (cs' := [(vJ 0), (vJ 0)]) (us := [(vJ 0), (vJ 0)]) (v := (.agg [(vJ 0), (vJ 0)].toArray)) sz27 rfl rfl rfl (yK (by rfl) (by rfl)) ax.pins dg (Nat.le_of_ble_eq_true rfl) rfl (fun lg g2 g3 g4 lh => ?_)))
 have g5 := ax.write g3 g4 ((zS ab))
 refine qM (.bool false) ?_
 refine qe (zA ?_)
 refine wp_ret (zO (xL (cs := [(vJ 0), (vJ 0)]) (v := (.bool false)) rfl rfl rfl rfl rfl ag27 sz27 (fun j u hj => by rw [Nat.zero_add]; exact g2.cell hj) ?_))
 have hvb : vgB (den ns k) = false := nd_ge hno ⟨by omega, by omega⟩ (Classical.byContradiction (fun g => an (by rw [ad, ae, af, ag]; exact (less_ge hvbL hvbR).2 g)))
 obtain ⟨m, o⟩ := vg_no hvb
 rw [hvb, m, o]
 exact ⟨_, rfl, g5⟩
 refine (zU (i := 15) rfl rfl rfl (zD rfl _) (yM [(vJ 0), (vJ 0)] zr27 rfl f.pins (fun ca li g6 dp g7 dq => ?_)))
 have bo := f.step g7 dq
 have dr := bi.below dq
 have ds : Apart (some ca) (some aj) := zJ (congrArg some g6) bi.lt
 have dt : w.heap.size ≤ ca := by have := f.size; omega
 refine ⟨fun _ => bo.pins, ?_⟩
 refine dO (i := 14) (zU (i := 14) rfl rfl rfl (zD rfl _) (yM [(vJ 0), (vJ 0)] zr27 rfl bo.pins (fun cb lj du g8 g9 cc => ?_)))
 have cd := bo.step g9 cc
 have ha := dr.below cc
 have hd := dp.below cc
 have dv : Apart (some cb) (some aj) := zJ (congrArg some du) dr.lt
 have dw : Apart (some cb) (some ca) := zJ (congrArg some du) dp.lt
 have dx : w.heap.size ≤ cb := by have := bo.size; omega
 refine ⟨fun _ => cd.pins, ?_⟩
 refine dO (i := 16) (qB (i := 16) rfl rfl rfl (zD rfl _) (yF (cs' := [(vJ ((vs.getD (xs.getD 0 0).toNat default).1)), (vJ ((vs.getD (xs.getD 0 0).toNat default).2))]) (us := [(vJ ((vs.getD (xs.getD 0 0).toNat default).1)), (vJ ((vs.getD (xs.getD 0 0).toNat default).2))]) (v := (.agg [(vJ ((vs.getD (xs.getD 0 0).toNat default).1)), (vJ ((vs.getD (xs.getD 0 0).toNat default).2))].toArray)) sz27 rfl rfl rfl (yK (by rfl) (by rfl)) cd.pins g8 (Nat.le_of_ble_eq_true rfl) rfl (fun lk he hg ce ll => ?_)))
 have hh := cd.write hg ce ((zS dx))
 have hi := ha.keptA ce dv.symm
 have hm := hd.keptA ce dw.symm
 obtain ⟨lm, hn, cf, dy, dz⟩ := he.shut hh dx
 have ho := hi.moreA dz dv.symm
 have hp := hm.moreA dz dw.symm
 refine ⟨fun _ => (Pins.of_le cf.pins hn), ?_⟩
 refine dO (i := 17) (qB (i := 17) rfl rfl rfl (zD rfl _) (yF (cs' := [(vJ ((vs.getD (ys.getD 0 0).toNat default).1)), (vJ ((vs.getD (ys.getD 0 0).toNat default).2))]) (us := [(vJ ((vs.getD (ys.getD 0 0).toNat default).1)), (vJ ((vs.getD (ys.getD 0 0).toNat default).2))]) (v := (.agg [(vJ ((vs.getD (ys.getD 0 0).toNat default).1)), (vJ ((vs.getD (ys.getD 0 0).toNat default).2))].toArray)) sz27 rfl rfl rfl (yK (by rfl) (by rfl)) cf.pins hp (Nat.le_of_ble_eq_true rfl) rfl (fun ln hq hs d0 lo => ?_)))
 have ht := cf.write hs d0 ((zS dt))
 have hu := ho.keptA d0 ds.symm
 obtain ⟨lp, d1, bp, d2, hw⟩ := hq.shut ht dt
 have hx := hu.moreA hw ds.symm
 refine ⟨fun h => absurd rfl h, ?_⟩
 refine yQ (by kernel_rfl) (zA (zB (zB (zC ?_))))
 refine qD rfl (yH (cs := [(vJ ((vs.getD (xs.getD 0 0).toNat default).1)), (vJ ((vs.getD (xs.getD 0 0).toNat default).2))]) ag27 sz27 rfl (fun j u hj => (Pins.of_le bp.pins d1) _ _ _ (dy _ _ (by simpa using hj)))) (qD rfl (yH (cs := [(vJ ((vs.getD (ys.getD 0 0).toNat default).1)), (vJ ((vs.getD (ys.getD 0 0).toNat default).2))]) ag27 sz27 rfl (fun j u hj => bp.pins _ _ _ (d2 _ _ (by simpa using hj)))) (qI rfl (zH (vs := [(.agg [(vJ ((vs.getD (xs.getD 0 0).toNat default).1)), (vJ ((vs.getD (xs.getD 0 0).toNat default).2))].toArray), (.agg [(vJ ((vs.getD (ys.getD 0 0).toNat default).1)), (vJ ((vs.getD (ys.getD 0 0).toNat default).2))].toArray)]) Tryz.func31 nm31 rfl rfl rfl ?_)))
 refine Calls.mono (jC (t := (vs.getD (xs.getD 0 0).toNat default).1) (z := (vs.getD (xs.getD 0 0).toNat default).2) (s := (vs.getD (ys.getD 0 0).toNat default).1) (y := (vs.getD (ys.getD 0 0).toNat default).2) bp.pins (by omega) (by omega) (by omega) (by omega)) ?_
 rintro _ lq ⟨lr, rfl, bq⟩
 refine ⟨_, rfl, ?_⟩
 have ay := bp.tr bq
 have d3 := hx.ext bq
 refine qD rfl (xE rfl) (qe (zA ?_))
 refine xX rfl rfl (fun ap => ?_) (fun ap => ?_)
 replace ap := of_decide_eq_true ap
 refine wp_skip (zA (zB (zC ?_)))
 have hnd := nd_lr hno ⟨by omega, by omega⟩ hvbL hvbR ((less_ge hvbL hvbR).1 (by rw [← ad, ← ae, ← af, ← ag]; exact ap))
 obtain ⟨pz, uz, hpz, hAz, hBz, ao⟩ := bt_val hnd.1 hvbL hvbR
 rw [← ad, ← ae] at hAz
 rw [← af, ← ag] at hBz
 refine qD rfl (yH (cs := [(vJ ((vs.getD (xs.getD 0 0).toNat default).1)), (vJ ((vs.getD (xs.getD 0 0).toNat default).2))]) ag27 sz27 rfl (fun j u hj => (Pins.of_le ay.pins (Pin.le_trans d1 bq.le)) _ _ _ (dy _ _ (by simpa using hj)))) (qD rfl (yH (cs := [(vJ ((vs.getD (ys.getD 0 0).toNat default).1)), (vJ ((vs.getD (ys.getD 0 0).toNat default).2))]) ag27 sz27 rfl (fun j u hj => (Pins.of_le ay.pins bq.le) _ _ _ (d2 _ _ (by simpa using hj)))) (qI rfl (zH (vs := [(.agg [(vJ ((vs.getD (xs.getD 0 0).toNat default).1)), (vJ ((vs.getD (xs.getD 0 0).toNat default).2))].toArray), (.agg [(vJ ((vs.getD (ys.getD 0 0).toNat default).1)), (vJ ((vs.getD (ys.getD 0 0).toNat default).2))].toArray)]) Tryz.func103 nm103 rfl rfl rfl ?_)))
 refine Calls.mono (l2Between_spec ay.pins hpz hAz hBz hgL hgR) ?_
 rintro _ ls ⟨lu, rfl, d4⟩
 refine ⟨_, rfl, ?_⟩
 have d5 := ay.tr d4
 have hy := d3.ext d4
 refine qI rfl (zH (vs := [(.agg [(vJ (btT pz uz)), (vJ (btP pz))].toArray)]) Tryz.func100 nm100 rfl rfl rfl ?_)
 refine Calls.mono (l2If_spec (t := btT pz uz) (z := btP pz) d5.pins) ?_
 rintro _ lv ⟨lw, br, d6⟩
 obtain ⟨a7, d7⟩ : ∃ x : Int, x = lowR (decP (GoodD (btT pz uz) (btP pz))) (btT pz uz) := ⟨_, rfl⟩
 rw [← d7] at br
 obtain ⟨a8, d8⟩ : ∃ x : Int, x = lowR (decP (GoodD (btT pz uz) (btP pz))) (btP pz) := ⟨_, rfl⟩
 rw [← d8] at br
 obtain ⟨cg, d9⟩ : ∃ x : Bool, x = decP (GoodD (btT pz uz) (btP pz)) := ⟨_, rfl⟩
 rw [← d9] at br
 subst br
 refine ⟨_, rfl, ?_⟩
 have ea := d5.tr d6
 have hz := hy.ext d6
 refine qD rfl (yE (v := (.agg [(vJ a7), (vJ a8)].toArray)) rfl rfl) (qD rfl (yE (v := (.bool cg)) rfl rfl) (q0 rfl rfl rfl (yF (cs' := [(vJ a7), (vJ a8)]) (us := [(vJ a7), (vJ a8)]) (v := (.agg [(vJ a7), (vJ a8)].toArray)) sz27 rfl rfl rfl (yK (by rfl) (by rfl)) ea.pins hz (Nat.le_of_ble_eq_true rfl) rfl (fun lx h0 h1 h2 ly => ?_))))
 have h3 := ea.write h1 h2 ((zS ab))
 refine qM (.bool cg) ?_
 refine qe (zA ?_)
 refine wp_ret (zO (xL (cs := [(vJ a7), (vJ a8)]) (v := (.bool cg)) rfl rfl rfl rfl rfl ag27 sz27 (fun j u hj => by rw [Nat.zero_add]; exact h0.cell hj) ?_))
 subst d9
 subst d8
 subst d7
 rw [hnd.2, ao.1, ao.2.1, ao.2.2]
 exact ⟨_, rfl, h3⟩
 replace ap := of_decide_eq_false ap
 refine zB (zC ?_)
 refine qD rfl (yG [(vJ 0), (vJ 0)] [(vJ 0), (vJ 0)] [] Tryz.underlying27 zr27 rfl pl27 rfl (fun _ h => by cases h) rfl) (q0 rfl rfl rfl (yF (cs' := [(vJ 0), (vJ 0)]) (us := [(vJ 0), (vJ 0)]) (v := (.agg [(vJ 0), (vJ 0)].toArray)) sz27 rfl rfl rfl (yK (by rfl) (by rfl)) ay.pins d3 (Nat.le_of_ble_eq_true rfl) rfl (fun lz h4 h5 h6 l0 => ?_)))
 have h7 := ay.write h5 h6 ((zS ab))
 refine qM (.bool false) ?_
 refine qe (zA ?_)
 refine wp_ret (zO (xL (cs := [(vJ 0), (vJ 0)]) (v := (.bool false)) rfl rfl rfl rfl rfl ag27 sz27 (fun j u hj => by rw [Nat.zero_add]; exact h4.cell hj) ?_))
 have hvb : vgB (den ns k) = false := nd_ge hno ⟨by omega, by omega⟩ (Classical.byContradiction (fun g => ap (by rw [ad, ae, af, ag]; exact (less_ge hvbL hvbR).2 g)))
 obtain ⟨m, o⟩ := vg_no hvb
 rw [hvb, m, o]
 exact ⟨_, rfl, h7⟩
 refine zB (zC ?_)
 refine qD rfl (yG [(vJ 0), (vJ 0)] [(vJ 0), (vJ 0)] [] Tryz.underlying27 zr27 rfl pl27 rfl (fun _ h => by cases h) rfl) (q0 rfl rfl rfl (yF (cs' := [(vJ 0), (vJ 0)]) (us := [(vJ 0), (vJ 0)]) (v := (.agg [(vJ 0), (vJ 0)].toArray)) sz27 rfl rfl rfl (yK (by rfl) (by rfl)) a.pins aa (Nat.le_of_ble_eq_true rfl) rfl (fun l1 h8 h9 ia l2 => ?_)))
 have ib := a.write h9 ia ((zS ab))
 refine qM (.bool false) ?_
 refine qe (zA ?_)
 refine wp_ret (zO (xL (cs := [(vJ 0), (vJ 0)]) (v := (.bool false)) rfl rfl rfl rfl rfl ag27 sz27 (fun j u hj => by rw [Nat.zero_add]; exact h8.cell hj) ?_))
 have hvb : vgB (den ns k) = false := nd_nor hno (by omega) (by rw [← hbR]; exact bz)
 obtain ⟨m, o⟩ := vg_no hvb
 rw [hvb, m, o]
 exact ⟨_, rfl, ib⟩
 refine qW ?_
 refine qW ?_
 refine qW ?_
 refine qW ?_
 refine qW ?_
 refine qW ?_
 refine qW ?_
 refine qW ?_
 refine qN (zY (v := (.bool false)) rfl rfl) ?_
 refine qD rfl (zY (v := (.bool false)) rfl rfl) (qe (zA ?_))
 refine qA rfl rfl (wp_skip (zA (zB (zC ?_))))
 refine qD rfl (yG [(vJ 0), (vJ 0)] [(vJ 1), (vJ 0)] [(0, (vJ 1), [(vJ 1)])] Tryz.underlying27 zr27 rfl pl27 rfl (List.forall_mem_cons.2 ⟨rfl, (fun _ h => by cases h)⟩) rfl) (qI rfl (yM [(vJ 0), (vJ 0)] zr27 rfl a.pins (fun eb l3 ic ie ig ec => ?_)))
 have ed := a.step ig ec
 have ih := aa.below ec
 have ee : Apart (some eb) (some aj) := zJ (congrArg some ic) aa.lt
 have ef : w.heap.size ≤ eb := by have := a.size; omega
 refine q0 rfl rfl rfl (yF (cs' := [(vJ 1), (vJ 0)]) (us := [(vJ 1), (vJ 0)]) (v := (.agg [(vJ 1), (vJ 0)].toArray)) sz27 rfl rfl rfl (yK (by rfl) (by rfl)) ed.pins ie (Nat.le_of_ble_eq_true rfl) rfl (fun ch ii ij eg l4 => ?_))
 have ik := ed.write ij eg ((zS ef))
 have il := ih.keptA eg ee.symm
 obtain ⟨im, az, a9, io, ip⟩ := ii.shut ik ef
 have iq := il.moreA ip ee.symm
 refine qe (zA (zB ?_))
 refine zX (zB (zC ?_))
 refine qD rfl (zK (k := 0) rfl Tryz.underlying65 rfl nz56 rfl) (qD rfl (zL (u := xl) ag56 rfl ((Pins.of_le a9.pins az) _ _ _ (d 0 _ rfl))) (qD rfl (zM Tryz.underlying56 (v := xl) rfl hl) (qD rfl (zK (k := 1) rfl Tryz.underlying65 rfl nz56 rfl) (qD rfl (zL (u := xr) ag56 rfl ((Pins.of_le a9.pins az) _ _ _ (d 1 _ rfl))) (qD rfl (zM Tryz.underlying56 (v := xr) rfl hr) (qD rfl (yJ rfl rfl (by omega)) (qD rfl (xV rfl rfl) (qM (.bool (decide (((xs.length : Int) + (ys.length : Int) : Int) = 0))) ?_))))))))
 refine qe (zA ?_)
 refine yA (p := ((xs.length : Int) + (ys.length : Int) : Int) = 0) rfl rfl (fun ir => ?_) (fun ir => ?_)
 exfalso; omega
 refine zB (zC ?_)
 refine qD rfl (zK (k := 1) rfl Tryz.underlying65 rfl nz56 rfl) (qD rfl (zL (u := xr) ag56 rfl ((Pins.of_le a9.pins az) _ _ _ (d 1 _ rfl))) (qD rfl (zM Tryz.underlying56 (v := xr) rfl hr) (qD rfl (xV rfl rfl) (qM (.bool (decide (((ys.length : Int) : Int) = 0))) ?_))))
 refine qe (zA ?_)
 refine yA (p := ((ys.length : Int) : Int) = 0) rfl rfl (fun it => ?_) (fun it => ?_)
 refine zB ?_
 have hvbL : vgB (den ns (xs.getD 0 0).toNat) = true := by rw [← hbL]; exact bh
 have ad : (vs.getD (xs.getD 0 0).toNat default).1 = vgT (den ns (xs.getD 0 0).toNat) := by rw [hvL]
 have ae : (vs.getD (xs.getD 0 0).toNat default).2 = vgP (den ns (xs.getD 0 0).toNat) := by rw [hvL]
 have hgL : GoodD (vs.getD (xs.getD 0 0).toNat default).1 (vs.getD (xs.getD 0 0).toNat default).2 := by rw [ad, ae]; exact qQ hvbL
 have hgLt := hgL.top
 have hgLp := hgL.pow
 have hnd := nd_l hno (by omega) (by omega) hvbL
 have aq := va_l (D := 24) hnd.1 hvbL
 refine yZ (S := fun wz => Pins im wz) (last := 14) (by kernel_rfl) rfl ?_
 have ci : Below ch.heap.size ch ch.drew := (Below.refl _ _).drew
 have iu := a9.pins.below ci
 have ah := a9.step iu ci
 have iv := iq.below ci
 refine dM 0 v ah.pins ?_
 refine dT (i := 1) rfl rfl (by kernel_rfl) (fun _ _ => zK (k := 0) rfl Tryz.underlying65 rfl nz56 rfl) ah.pins ?_
 refine dT (i := 2) rfl rfl (by kernel_rfl) (fun _ hS => zL (u := xl) ag56 rfl ((Pins.of_le hS az) _ _ _ (d 0 _ rfl))) ah.pins ?_
 refine dT (i := 3) rfl rfl (by kernel_rfl) (fun _ _ => zF Tryz.underlying56 sz3 (v := xl) rfl rfl hl (by omega) (by omega)) ah.pins ?_
 refine dT (i := 4) rfl rfl (by kernel_rfl) (fun _ hS => zE (r := xs.getD 0 0) rfl ag3 (z := 0) rfl hl (Pins.of_le hS (Pin.le_trans q az)) (by omega) (by omega)) ah.pins ?_
 refine dT (i := 5) rfl rfl (by kernel_rfl) (fun _ _ => zF Tryz.underlying59 sz27 (v := v) rfl rfl hv (by omega) (by omega)) ah.pins ?_
 obtain ⟨l5, iw, ix, l6⟩ := nm_el (j := (xs.getD 0 0).toNat) default (hv.at (z := (xs.getD 0 0)) (by omega) (by omega)) rfl
 obtain rfl := iw
 refine dT (i := 6) rfl rfl (by kernel_rfl) (fun _ hS => ix ag27 sz27 rfl (Pins.of_le hS (Pin.le_trans q az))) ah.pins ?_
 refine dT (i := 7) rfl rfl (by kernel_rfl) (fun _ hS => yH (cs := [(vJ 1), (vJ 0)]) ag27 sz27 rfl (fun j u hj => hS _ _ _ (io _ _ (by simpa using hj)))) ah.pins ?_
 refine dO (i := 8) (zU (i := 8) rfl rfl rfl (zD rfl _) (zH (vs := [(.agg [(vJ ((vs.getD (xs.getD 0 0).toNat default).1)), (vJ ((vs.getD (xs.getD 0 0).toNat default).2))].toArray), (.agg [(vJ 1), (vJ 0)].toArray)]) Tryz.func101 nm101 rfl rfl rfl ?_))
 refine Calls.mono (l2Add_spec (t := (vs.getD (xs.getD 0 0).toNat default).1) (z := (vs.getD (xs.getD 0 0).toNat default).2) (s := 1) (y := 0) ah.pins (by omega) (by omega) (by omega) (by omega)) ?_
 rintro _ l7 ⟨l8, cj, al⟩
 obtain ⟨a0, eh⟩ : ∃ x : Int, x = (((lowD 24 (scI 24 ((vs.getD (xs.getD 0 0).toNat default).1) ((vs.getD (xs.getD 0 0).toNat default).2) + scI 24 1 0)).2 : Nat) : Int) := ⟨_, rfl⟩
 rw [← eh] at cj
 obtain ⟨a1, ei⟩ : ∃ x : Int, x = (lowD 24 (scI 24 ((vs.getD (xs.getD 0 0).toNat default).1) ((vs.getD (xs.getD 0 0).toNat default).2) + scI 24 1 0)).1 := ⟨_, rfl⟩
 rw [← ei] at cj
 subst cj
 refine ⟨_, rfl, ?_⟩
 have ck := ah.tr al
 have iy := iv.ext al
 refine ⟨fun _ => (Pins.of_le ck.pins al.le), ?_⟩
 refine dO (i := 9) (zU (i := 9) rfl rfl rfl (zD rfl _) (zH (vs := [(.agg [(vJ a1), (vJ a0)].toArray)]) Tryz.func100 nm100 rfl rfl rfl ?_))
 refine Calls.mono (l2If_spec (t := a1) (z := a0) ck.pins) ?_
 rintro _ l9 ⟨ma, bt, ar⟩
 obtain ⟨ba, ej⟩ : ∃ x : Int, x = lowR (decP (GoodD a1 a0)) a1 := ⟨_, rfl⟩
 rw [← ej] at bt
 obtain ⟨bc, ek⟩ : ∃ x : Int, x = lowR (decP (GoodD a1 a0)) a0 := ⟨_, rfl⟩
 rw [← ek] at bt
 obtain ⟨cl, el⟩ : ∃ x : Bool, x = decP (GoodD a1 a0) := ⟨_, rfl⟩
 rw [← el] at bt
 subst bt
 refine ⟨_, rfl, ?_⟩
 have bd := ck.tr ar
 have iz := iy.ext ar
 refine ⟨fun _ => (Pins.of_le bd.pins (Pin.le_trans al.le ar.le)), ?_⟩
 refine dT (i := 10) rfl rfl (by kernel_rfl) (fun _ _ => yE (v := (.agg [(vJ ba), (vJ bc)].toArray)) rfl rfl) (Pins.of_le bd.pins (Pin.le_trans al.le ar.le)) ?_
 refine dT (i := 11) rfl rfl (by kernel_rfl) (fun _ _ => yE (v := (.bool cl)) rfl rfl) (Pins.of_le bd.pins (Pin.le_trans al.le ar.le)) ?_
 refine dO (i := 12) (qB (i := 12) rfl rfl rfl (zD rfl _) (yF (cs' := [(vJ ba), (vJ bc)]) (us := [(vJ ba), (vJ bc)]) (v := (.agg [(vJ ba), (vJ bc)].toArray)) sz27 rfl rfl rfl (yK (by rfl) (by rfl)) bd.pins iz (Nat.le_of_ble_eq_true rfl) rfl (fun mb i0 i1 i2 mc => ?_)))
 have cm := bd.write i1 i2 ((zS ab))
 refine ⟨fun _ => (Pins.of_le cm.pins (Pin.le_trans al.le ar.le)), ?_⟩
 refine dM 13 (.bool cl) (Pins.of_le cm.pins (Pin.le_trans al.le ar.le)) ?_
 refine yQ (by kernel_rfl) (zA (wp_ret (zO (xL (cs := [(vJ ba), (vJ bc)]) (v := (.bool cl)) rfl rfl rfl rfl rfl ag27 sz27 (fun j u hj => by rw [Nat.zero_add]; exact i0.cell hj) ?_))))
 subst el
 subst ek
 subst ej
 subst eh
 subst ei
 rw [hnd.2, aq.t, aq.p, aq.b, ← ad, ← ae]
 exact ⟨_, rfl, cm⟩
 exfalso; omega
 refine qW ?_
 refine qW ?_
 refine qW ?_
 refine qW ?_
 refine qW ?_
 refine qX ?_
 refine qX ?_
 refine qX ?_
 refine qX ?_
 refine qX ?_
 refine qX ?_
 refine qX ?_
 refine qX ?_
 refine qW ?_
 refine qD rfl (yD (v := (.bool true)) rfl rfl) (qe (zA ?_))
 refine xY rfl rfl (zB (zC ?_))
 refine qD rfl (yG [(vJ 0), (vJ 0)] [(vJ 0), (vJ 0)] [] Tryz.underlying27 zr27 rfl pl27 rfl (fun _ h => by cases h) rfl) (q0 rfl rfl rfl (yF (cs' := [(vJ 0), (vJ 0)]) (us := [(vJ 0), (vJ 0)]) (v := (.agg [(vJ 0), (vJ 0)].toArray)) sz27 rfl rfl rfl (yK (by rfl) (by rfl)) a.pins aa (Nat.le_of_ble_eq_true rfl) rfl (fun md i3 i4 i5 me => ?_)))
 have i6 := a.write i4 i5 ((zS ab))
 refine qM (.bool false) ?_
 refine qe (zA ?_)
 refine wp_ret (zO (xL (cs := [(vJ 0), (vJ 0)]) (v := (.bool false)) rfl rfl rfl rfl rfl ag27 sz27 (fun j u hj => by rw [Nat.zero_add]; exact i3.cell hj) ?_))
 have hvb : vgB (den ns k) = false := nd_nol hno (by omega) (by rw [← hbL]; exact bh)
 obtain ⟨m, o⟩ := vg_no hvb
 rw [hvb, m, o]
 exact ⟨_, rfl, i6⟩
 refine qW ?_
 refine qW ?_
 refine qW ?_
 refine qW ?_
 refine qW ?_
 refine qW ?_
 refine qW ?_
 refine qW ?_
 refine qN (zY (v := (.bool false)) rfl rfl) ?_
 refine qD rfl (zY (v := (.bool false)) rfl rfl) (qM (.bool false) ?_)
 refine qN (zK (k := 1) rfl Tryz.underlying65 rfl nz56 rfl) ?_
 refine qN (zL (u := xr) ag56 rfl (a.pins _ _ _ (d 1 _ rfl))) ?_
 refine qN (zM Tryz.underlying56 (v := xr) rfl hr) ?_
 refine qN (xV rfl rfl) ?_
 refine qN (zQ (v := (.bool (decide (((ys.length : Int) : Int) = 1)))) rfl) ?_
 refine qbd (p := ((ys.length : Int) : Int) = 1) (t := 42) rfl (fun i7 => ?_) (fun i7 => ?_)
 have fr := hir (by omega)
 have hvR := hvs.v (ys.getD 0 0).toNat (by omega)
 have hbR := hvs.b (ys.getD 0 0).toNat (by omega)
 refine qN (zQ (v := bb) rfl) ?_
 refine qN (zK (k := 1) rfl Tryz.underlying65 rfl nz56 rfl) ?_
 refine qN (zL (u := xr) ag56 rfl (a.pins _ _ _ (d 1 _ rfl))) ?_
 refine qN (zF Tryz.underlying56 sz3 (v := xr) rfl rfl hr (by omega) (by omega)) ?_
 refine qN (zE (r := ys.getD 0 0) rfl ag3 (z := 0) rfl hr (Pins.of_le a.pins q) (by omega) (by omega)) ?_
 refine qN (zF Tryz.underlying60 sz4 (v := bb) rfl rfl hb (by omega) (by omega)) ?_
 refine qN (qC (r := bs.getD (ys.getD 0 0).toNat false) rfl ag4 (z := (ys.getD 0 0)) rfl hb (Pins.of_le a.pins q) (by omega) (by omega)) ?_
 refine qN (xE rfl) ?_
 refine qN (yD (v := (.bool (!(bs.getD (ys.getD 0 0).toNat false)))) rfl rfl) ?_
 refine qD rfl (zY (v := (.bool (!(bs.getD (ys.getD 0 0).toNat false)))) rfl rfl) (qe (zA ?_))
 refine xX rfl rfl (fun cn => ?_) (fun cn => ?_)
 refine wp_skip (zA (zB (zC ?_)))
 refine qD rfl (yG [(vJ 0), (vJ 0)] [(vJ 1), (vJ 0)] [(0, (vJ 1), [(vJ 1)])] Tryz.underlying27 zr27 rfl pl27 rfl (List.forall_mem_cons.2 ⟨rfl, (fun _ h => by cases h)⟩) rfl) (qI rfl (yM [(vJ 0), (vJ 0)] zr27 rfl a.pins (fun em mf i8 i9 ja en => ?_)))
 have eo := a.step ja en
 have jb := aa.below en
 have ep : Apart (some em) (some aj) := zJ (congrArg some i8) aa.lt
 have eq : w.heap.size ≤ em := by have := a.size; omega
 refine q0 rfl rfl rfl (yF (cs' := [(vJ 1), (vJ 0)]) (us := [(vJ 1), (vJ 0)]) (v := (.agg [(vJ 1), (vJ 0)].toArray)) sz27 rfl rfl rfl (yK (by rfl) (by rfl)) eo.pins i9 (Nat.le_of_ble_eq_true rfl) rfl (fun co jc jd er mg => ?_))
 have je := eo.write jd er ((zS eq))
 have jf := jb.keptA er ep.symm
 obtain ⟨jg, au, a2, jh, ji⟩ := jc.shut je eq
 have jj := jf.moreA ji ep.symm
 refine qe (zA (zB ?_))
 refine zX (zB (zC ?_))
 refine qD rfl (zK (k := 0) rfl Tryz.underlying65 rfl nz56 rfl) (qD rfl (zL (u := xl) ag56 rfl ((Pins.of_le a2.pins au) _ _ _ (d 0 _ rfl))) (qD rfl (zM Tryz.underlying56 (v := xl) rfl hl) (qD rfl (zK (k := 1) rfl Tryz.underlying65 rfl nz56 rfl) (qD rfl (zL (u := xr) ag56 rfl ((Pins.of_le a2.pins au) _ _ _ (d 1 _ rfl))) (qD rfl (zM Tryz.underlying56 (v := xr) rfl hr) (qD rfl (yJ rfl rfl (by omega)) (qD rfl (xV rfl rfl) (qM (.bool (decide (((xs.length : Int) + (ys.length : Int) : Int) = 0))) ?_))))))))
 refine qe (zA ?_)
 refine yA (p := ((xs.length : Int) + (ys.length : Int) : Int) = 0) rfl rfl (fun jk => ?_) (fun jk => ?_)
 exfalso; omega
 refine zB (zC ?_)
 refine qD rfl (zK (k := 1) rfl Tryz.underlying65 rfl nz56 rfl) (qD rfl (zL (u := xr) ag56 rfl ((Pins.of_le a2.pins au) _ _ _ (d 1 _ rfl))) (qD rfl (zM Tryz.underlying56 (v := xr) rfl hr) (qD rfl (xV rfl rfl) (qM (.bool (decide (((ys.length : Int) : Int) = 0))) ?_))))
 refine qe (zA ?_)
 refine yA (p := ((ys.length : Int) : Int) = 0) rfl rfl (fun jl => ?_) (fun jl => ?_)
 exfalso; omega
 refine zB (zC ?_)
 refine qD rfl (zK (k := 0) rfl Tryz.underlying65 rfl nz56 rfl) (qD rfl (zL (u := xl) ag56 rfl ((Pins.of_le a2.pins au) _ _ _ (d 0 _ rfl))) (qD rfl (zM Tryz.underlying56 (v := xl) rfl hl) (qD rfl (xV rfl rfl) (qM (.bool (decide (((xs.length : Int) : Int) = 0))) ?_))))
 refine qe (zA ?_)
 refine yA (p := ((xs.length : Int) : Int) = 0) rfl rfl (fun jm => ?_) (fun jm => ?_)
 refine zB ?_
 have hvbR : vgB (den ns (ys.getD 0 0).toNat) = true := by rw [← hbR]; exact cn
 have af : (vs.getD (ys.getD 0 0).toNat default).1 = vgT (den ns (ys.getD 0 0).toNat) := by rw [hvR]
 have ag : (vs.getD (ys.getD 0 0).toNat default).2 = vgP (den ns (ys.getD 0 0).toNat) := by rw [hvR]
 have hgR : GoodD (vs.getD (ys.getD 0 0).toNat default).1 (vs.getD (ys.getD 0 0).toNat default).2 := by rw [af, ag]; exact qQ hvbR
 have hgRt := hgR.top
 have hgRp := hgR.pow
 have hnd := nd_r hno (by omega) (by omega) hvbR
 have aq := va_r (D := 24) hnd.1 hvbR
 refine yZ (S := fun wz => Pins jg wz) (last := 15) (by kernel_rfl) rfl ?_
 have cp : Below co.heap.size co co.drew := (Below.refl _ _).drew
 have jn := a2.pins.below cp
 have ai := a2.step jn cp
 have jo := jj.below cp
 refine dM 0 v ai.pins ?_
 refine dT (i := 1) rfl rfl (by kernel_rfl) (fun _ _ => zK (k := 1) rfl Tryz.underlying65 rfl nz56 rfl) ai.pins ?_
 refine dT (i := 2) rfl rfl (by kernel_rfl) (fun _ hS => zL (u := xr) ag56 rfl ((Pins.of_le hS au) _ _ _ (d 1 _ rfl))) ai.pins ?_
 refine dT (i := 3) rfl rfl (by kernel_rfl) (fun _ _ => zF Tryz.underlying56 sz3 (v := xr) rfl rfl hr (by omega) (by omega)) ai.pins ?_
 refine dT (i := 4) rfl rfl (by kernel_rfl) (fun _ hS => zE (r := ys.getD 0 0) rfl ag3 (z := 0) rfl hr (Pins.of_le hS (Pin.le_trans q au)) (by omega) (by omega)) ai.pins ?_
 refine dT (i := 5) rfl rfl (by kernel_rfl) (fun _ _ => zF Tryz.underlying59 sz27 (v := v) rfl rfl hv (by omega) (by omega)) ai.pins ?_
 obtain ⟨mh, jp, jq, mi⟩ := nm_el (j := (ys.getD 0 0).toNat) default (hv.at (z := (ys.getD 0 0)) (by omega) (by omega)) rfl
 obtain rfl := jp
 refine dT (i := 6) rfl rfl (by kernel_rfl) (fun _ hS => jq ag27 sz27 rfl (Pins.of_le hS (Pin.le_trans q au))) ai.pins ?_
 refine dT (i := 7) rfl rfl (by kernel_rfl) (fun _ hS => yH (cs := [(vJ 1), (vJ 0)]) ag27 sz27 rfl (fun j u hj => hS _ _ _ (jh _ _ (by simpa using hj)))) ai.pins ?_
 refine dO (i := 8) (zU (i := 8) rfl rfl rfl (zD rfl _) (zH (vs := [(.agg [(vJ 1), (vJ 0)].toArray)]) Tryz.func102 nm102 rfl rfl rfl ?_))
 refine Calls.mono (jN (t := 1) (z := 0) ai.pins (by omega)) ?_
 rintro _ mj ⟨mk, rfl, ak⟩
 refine ⟨_, rfl, ?_⟩
 have cq := ai.tr ak
 have jr := jo.ext ak
 refine ⟨fun _ => (Pins.of_le cq.pins ak.le), ?_⟩
 refine dO (i := 9) (zU (i := 9) rfl rfl rfl (zD rfl _) (zH (vs := [(.agg [(vJ ((vs.getD (ys.getD 0 0).toNat default).1)), (vJ ((vs.getD (ys.getD 0 0).toNat default).2))].toArray), (.agg [(vJ (-1)), (vJ 0)].toArray)]) Tryz.func101 nm101 rfl rfl rfl ?_))
 refine Calls.mono (l2Add_spec (t := (vs.getD (ys.getD 0 0).toNat default).1) (z := (vs.getD (ys.getD 0 0).toNat default).2) (s := -1) (y := 0) cq.pins (by omega) (by omega) (by omega) (by omega)) ?_
 rintro _ ml ⟨mm, cr, am⟩
 obtain ⟨a3, es⟩ : ∃ x : Int, x = (((lowD 24 (scI 24 ((vs.getD (ys.getD 0 0).toNat default).1) ((vs.getD (ys.getD 0 0).toNat default).2) + scI 24 (-1) 0)).2 : Nat) : Int) := ⟨_, rfl⟩
 rw [← es] at cr
 obtain ⟨a4, et⟩ : ∃ x : Int, x = (lowD 24 (scI 24 ((vs.getD (ys.getD 0 0).toNat default).1) ((vs.getD (ys.getD 0 0).toNat default).2) + scI 24 (-1) 0)).1 := ⟨_, rfl⟩
 rw [← et] at cr
 subst cr
 refine ⟨_, rfl, ?_⟩
 have ct := cq.tr am
 have js := jr.ext am
 refine ⟨fun _ => (Pins.of_le ct.pins (Pin.le_trans ak.le am.le)), ?_⟩
 refine dO (i := 10) (zU (i := 10) rfl rfl rfl (zD rfl _) (zH (vs := [(.agg [(vJ a4), (vJ a3)].toArray)]) Tryz.func100 nm100 rfl rfl rfl ?_))
 refine Calls.mono (l2If_spec (t := a4) (z := a3) ct.pins) ?_
 rintro _ mn ⟨mo, bu, av⟩
 obtain ⟨be, eu⟩ : ∃ x : Int, x = lowR (decP (GoodD a4 a3)) a4 := ⟨_, rfl⟩
 rw [← eu] at bu
 obtain ⟨bf, ev⟩ : ∃ x : Int, x = lowR (decP (GoodD a4 a3)) a3 := ⟨_, rfl⟩
 rw [← ev] at bu
 obtain ⟨cu, ew⟩ : ∃ x : Bool, x = decP (GoodD a4 a3) := ⟨_, rfl⟩
 rw [← ew] at bu
 subst bu
 refine ⟨_, rfl, ?_⟩
 have bg := ct.tr av
 have jt := js.ext av
 refine ⟨fun _ => (Pins.of_le bg.pins (Pin.le_trans (Pin.le_trans ak.le am.le) av.le)), ?_⟩
 refine dT (i := 11) rfl rfl (by kernel_rfl) (fun _ _ => yE (v := (.agg [(vJ be), (vJ bf)].toArray)) rfl rfl) (Pins.of_le bg.pins (Pin.le_trans (Pin.le_trans ak.le am.le) av.le)) ?_
 refine dT (i := 12) rfl rfl (by kernel_rfl) (fun _ _ => yE (v := (.bool cu)) rfl rfl) (Pins.of_le bg.pins (Pin.le_trans (Pin.le_trans ak.le am.le) av.le)) ?_
 refine dO (i := 13) (qB (i := 13) rfl rfl rfl (zD rfl _) (yF (cs' := [(vJ be), (vJ bf)]) (us := [(vJ be), (vJ bf)]) (v := (.agg [(vJ be), (vJ bf)].toArray)) sz27 rfl rfl rfl (yK (by rfl) (by rfl)) bg.pins jt (Nat.le_of_ble_eq_true rfl) rfl (fun mp ju jv jw mq => ?_)))
 have cv := bg.write jv jw ((zS ab))
 refine ⟨fun _ => (Pins.of_le cv.pins (Pin.le_trans (Pin.le_trans ak.le am.le) av.le)), ?_⟩
 refine dM 14 (.bool cu) (Pins.of_le cv.pins (Pin.le_trans (Pin.le_trans ak.le am.le) av.le)) ?_
 refine yQ (by kernel_rfl) (zA (wp_ret (zO (xL (cs := [(vJ be), (vJ bf)]) (v := (.bool cu)) rfl rfl rfl rfl rfl ag27 sz27 (fun j u hj => by rw [Nat.zero_add]; exact ju.cell hj) ?_))))
 subst ew
 subst ev
 subst eu
 subst es
 subst et
 rw [hnd.2, aq.t, aq.p, aq.b, ← af, ← ag]
 exact ⟨_, rfl, cv⟩
 exfalso; omega
 refine zB (zC ?_)
 refine qD rfl (yG [(vJ 0), (vJ 0)] [(vJ 0), (vJ 0)] [] Tryz.underlying27 zr27 rfl pl27 rfl (fun _ h => by cases h) rfl) (q0 rfl rfl rfl (yF (cs' := [(vJ 0), (vJ 0)]) (us := [(vJ 0), (vJ 0)]) (v := (.agg [(vJ 0), (vJ 0)].toArray)) sz27 rfl rfl rfl (yK (by rfl) (by rfl)) a.pins aa (Nat.le_of_ble_eq_true rfl) rfl (fun mr jx jy jz ms => ?_)))
 have j0 := a.write jy jz ((zS ab))
 refine qM (.bool false) ?_
 refine qe (zA ?_)
 refine wp_ret (zO (xL (cs := [(vJ 0), (vJ 0)]) (v := (.bool false)) rfl rfl rfl rfl rfl ag27 sz27 (fun j u hj => by rw [Nat.zero_add]; exact jx.cell hj) ?_))
 have hvb : vgB (den ns k) = false := nd_nor hno (by omega) (by rw [← hbR]; exact cn)
 obtain ⟨m, o⟩ := vg_no hvb
 rw [hvb, m, o]
 exact ⟨_, rfl, j0⟩
 refine qW ?_
 refine qW ?_
 refine qW ?_
 refine qW ?_
 refine qW ?_
 refine qW ?_
 refine qW ?_
 refine qW ?_
 refine qN (zY (v := (.bool false)) rfl rfl) ?_
 refine qD rfl (zY (v := (.bool false)) rfl rfl) (qe (zA ?_))
 refine qA rfl rfl (wp_skip (zA (zB (zC ?_))))
 refine qD rfl (yG [(vJ 0), (vJ 0)] [(vJ 1), (vJ 0)] [(0, (vJ 1), [(vJ 1)])] Tryz.underlying27 zr27 rfl pl27 rfl (List.forall_mem_cons.2 ⟨rfl, (fun _ h => by cases h)⟩) rfl) (qI rfl (yM [(vJ 0), (vJ 0)] zr27 rfl a.pins (fun ex mt j1 j2 j3 ey => ?_)))
 have ez := a.step j3 ey
 have j4 := aa.below ey
 have e0 : Apart (some ex) (some aj) := zJ (congrArg some j1) aa.lt
 have e4 : w.heap.size ≤ ex := by have := a.size; omega
 refine q0 rfl rfl rfl (yF (cs' := [(vJ 1), (vJ 0)]) (us := [(vJ 1), (vJ 0)]) (v := (.agg [(vJ 1), (vJ 0)].toArray)) sz27 rfl rfl rfl (yK (by rfl) (by rfl)) ez.pins j2 (Nat.le_of_ble_eq_true rfl) rfl (fun mu j5 j6 e5 mv => ?_))
 have j7 := ez.write j6 e5 ((zS e4))
 have j8 := j4.keptA e5 e0.symm
 obtain ⟨mw, e6, bv, mx, j9⟩ := j5.shut j7 e4
 have ka := j8.moreA j9 e0.symm
 refine qe (zA (zB ?_))
 refine zX (zB (zC ?_))
 refine qD rfl (zK (k := 0) rfl Tryz.underlying65 rfl nz56 rfl) (qD rfl (zL (u := xl) ag56 rfl ((Pins.of_le bv.pins e6) _ _ _ (d 0 _ rfl))) (qD rfl (zM Tryz.underlying56 (v := xl) rfl hl) (qD rfl (zK (k := 1) rfl Tryz.underlying65 rfl nz56 rfl) (qD rfl (zL (u := xr) ag56 rfl ((Pins.of_le bv.pins e6) _ _ _ (d 1 _ rfl))) (qD rfl (zM Tryz.underlying56 (v := xr) rfl hr) (qD rfl (yJ rfl rfl (by omega)) (qD rfl (xV rfl rfl) (qM (.bool (decide (((xs.length : Int) + (ys.length : Int) : Int) = 0))) ?_))))))))
 refine qe (zA ?_)
 refine yA (p := ((xs.length : Int) + (ys.length : Int) : Int) = 0) rfl rfl (fun kb => ?_) (fun kb => ?_)
 refine zB (zC ?_)
 refine qD rfl (yG [(vJ 0), (vJ 0)] [(vJ 0), (vJ 0)] [] Tryz.underlying27 zr27 rfl pl27 rfl (fun _ h => by cases h) rfl) (q0 rfl rfl rfl (yF (cs' := [(vJ 0), (vJ 0)]) (us := [(vJ 0), (vJ 0)]) (v := (.agg [(vJ 0), (vJ 0)].toArray)) sz27 rfl rfl rfl (yK (by rfl) (by rfl)) bv.pins ka (Nat.le_of_ble_eq_true rfl) rfl (fun my kc kd ke mz => ?_)))
 have kf := bv.write kd ke ((zS ab))
 refine qM (.bool true) ?_
 refine qe (zA ?_)
 refine wp_ret (zO (xL (cs := [(vJ 0), (vJ 0)]) (v := (.bool true)) rfl rfl rfl rfl rfl ag27 sz27 (fun j u hj => by rw [Nat.zero_add]; exact kc.cell hj) ?_))
 obtain ⟨e3, m, o⟩ := nd_nn hno (by omega) (by omega)
 rw [m, o, e3]
 exact ⟨_, rfl, kf⟩
 exfalso; omega

end VB3
end Go.Proofs.YtakkjmlnmcemaaaGreatDoor

set_option maxRecDepth 20000
set_option maxHeartbeats 2000000
namespace Go.Proofs.YtakkjmlnmcemaaaGreatDoor
namespace VB4
open Go.RowKit Go.GL Go.Proofs
open B1 C1 D1 E1 K1 PO1 PL1 NU1 NU2 NU3 NB4 VB1 VB2 VB3













theorem l7NodeO_spec {w : World} {G : Pin} {xl xr v bb : Value} {ns : List Nd} {c k ba bc e1 e2 : Nat} {vs : List (Int × Int)} {bs : List Bool} (hP : Pins G w) (hl : RSl eInt G xl (ns.getD k default).l) (hr : RSl eInt G xr (ns.getD k default).r) (hv : Own eP2 e1 G w ba v vs) (hb : Own eBool e2 G w bc bb bs) (hf : IsForm c ns) (hc : CanonG c) (hk : k < ns.length) (hvs : VsOk ns vs bs k) :
  Calls Tryz.prog 83 [(.agg [xl, xr].toArray), v, bb].toArray w fun e w' => ∃ G', e = .returned (.tuple #[.agg [.int .i64 (vgT (den ns k)), .int .i64 (vgP (den ns k))].toArray, .bool (vgB (den ns k))]) ∧ Ext noS G w G' w' := by
 have g := Gadd.pins hP v
 have i := Gadd.pins hP bb
 have j : ∃ a, Pin.le (Gadd G w v) a ∧ Pin.le (Gadd G w bb) a ∧ Pins a w := ⟨fun b o x => Gadd G w v b o x ∨ Gadd G w bb b o x, fun _ _ _ h => Or.inl h, fun _ _ _ h => Or.inr h, fun b o x h => h.elim (g b o x) (i b o x)⟩
 obtain ⟨a, d, m, n⟩ := j
 have f := Pin.le_trans (Gadd.le G w v) d
 refine (l7Node_spec n (hl.mono f) (hr.mono f) rfl rfl (hv.read.mono d) (hb.read.mono m) hf hc hk hvs).mono ?_
 rintro e w' ⟨G', rfl, hx⟩
 exact ⟨G, rfl, deep_back hP hx⟩

theorem l7Of_spec {w : World} {G : Pin} {v : Value} {ns : List Nd} {c : Nat} (hP : Pins G w) (hv : RSl eNode G v ns) (hf : IsForm c ns) (hc : CanonG c) :
  Calls Tryz.prog 56 [(.agg [v].toArray)].toArray w fun e w' => ∃ G', e = .returned (.tuple #[.agg [.int .i64 (vgT c), .int .i64 (vgP c)].toArray, .bool (vgB c)]) ∧ Ext noS G w G' w' := by
 refine zV (n := 49) Tryz.func56 Tryz.ntmps56 rfl rfl ?_
 have aj : Ext noS G w G w := Ext.refl hP
 have hnl := hf.1.wf.ok.len
 have hlo := hf.1.lo
 refine zB (zC ?_)
 refine qI rfl (xG [v] (v := (.agg [v].toArray)) rfl rfl aj.pins (fun b1 w2 eb cc cd ce => ?_))
 have cf := aj.step cd ce
 have cg : w.heap.size ≤ b1 := by have := aj.size; omega
 obtain ⟨G9, ak, al, a9, ec⟩ := cc.shut cf cg
 refine qI rfl (yM [(vJ 0), (vJ 0)] zr27 rfl al.pins (fun g ed ee ba ch ci => ?_))
 have am := al.step ch ci
 have cj : w.heap.size ≤ g := by have := al.size; omega
 refine qM (.bool false) ?_
 refine qe (zA (zB (zC ?_)))
 refine qI rfl (xD (E := eP2) (e := 27) Tryz.underlying59 sz27 am.pins (fun o ck cl cm bb cn => ?_))
 have an := am.step cm bb
 have bc := ba.below bb
 have co : Apart o.ownBlock (some g) := zJ cn ba.lt
 have bd : Own eP2 27 G9 ck w.heap.size o ([]) := cl.weaken am.size
 refine qI rfl (xD (E := eBool) (e := 4) Tryz.underlying60 sz4 an.pins (fun q cp cq cr ao be => ?_))
 have ct := an.step cr ao
 have cu := bd.below ao
 have cv := bc.below ao
 have cw : Apart q.ownBlock o.ownBlock := zI be bd.lt
 have cx : Apart q.ownBlock (some g) := zJ be bc.lt
 have cy : Own eBool 4 G9 cp w.heap.size q ([]) := cq.weaken an.size
 refine qM o ?_
 refine qM q ?_
 refine qe (zA (zB (zB (zC ?_))))
 refine qM (vJ 0) ?_
 refine qe (zA ?_)
 refine zX (yT (fun (k : Nat) (en : Nat → Value) (W : World) => ∃ (bf : Nat → Value) (a : Nat) (vv : Value) (vs : List (Int × Int)) (bv : Value) (bs : List Bool) (l : Pin), en = (upd (upd (upd (upd (upd (upd bf 1 (.pointer (some ⟨b1, 0, none⟩))) 2 (.pointer (some ⟨g, 0, none⟩))) 3 (.bool false)) 4 vv) 5 bv) 6 (vJ (a : Int))) ∧ k = ns.length - a ∧ Ext noS G w l W ∧ Pin.le G9 l ∧ (a ≤ ns.length) ∧ (VsOk ns vs bs a) ∧ (Own eP2 27 l W w.heap.size vv (vs)) ∧ (Own eBool 4 l W w.heap.size bv (bs)) ∧ (Bx l W g [(vJ 0), (vJ 0)]) ∧ (Apart vv.ownBlock bv.ownBlock) ∧ (Apart vv.ownBlock (some g)) ∧ (Apart bv.ownBlock (some g))) _ ⟨_, 0, o, [], q, [], G9, (pS 6 (pS 5 (pS 4 (pS 3 (pS 2 (pU 1)))))), rfl, ct, Pin.le_refl _, Nat.zero_le _, VsOk.start, cu, cy, cv, cw.symm, co, cx⟩ ?_)
 rintro ef _ s ⟨bf, a, vv, vs, bv, bs, l, rfl, eg, h, m, eh, hvs, ab, ap, bg, bh, aq, ar⟩
 have hvl := hvs.vl
 have hbl := hvs.bl
 refine zB (zB (zC ?_))
 refine qM (vJ (a : Int)) ?_
 refine qD rfl (zK (k := 0) rfl Tryz.underlying32 rfl nz30 rfl) (qD rfl (zL (u := v) ag30 rfl ((Pins.of_le h.pins m) _ _ _ (a9 0 _ rfl))) (qD rfl (zM Tryz.underlying30 (v := v) rfl hv) (qD rfl (yV rfl rfl) (qe (zA ?_)))))
 refine yA (p := ((a : Int) : Int) < (ns.length : Int)) rfl rfl (fun cz => ?_) (fun cz => ?_)
 refine wp_skip (zA (zB ?_))
 refine zX (zB (zC ?_))
 refine qD rfl (zK (k := 0) rfl Tryz.underlying32 rfl nz30 rfl) (qD rfl (zL (u := v) ag30 rfl ((Pins.of_le h.pins m) _ _ _ (a9 0 _ rfl))) (qM (vJ (a : Int)) ?_))
 refine qD rfl (zF Tryz.underlying30 sz65 (v := v) rfl rfl hv (by omega) (by omega)) ?_
 obtain ⟨c0, c1, bi, bj, c2⟩ := jB (hv.at (z := (a : Int)) (by omega) (by omega)) (j := a) rfl
 have ei := bi.max
 have ej := bj.max
 refine qD rfl (c2 ag65 sz65 rfl (Pins.of_le h.pins (Pin.le_trans ak m))) (qM vv ?_)
 refine qM bv ?_
 refine qI rfl (zH (vs := [(.agg [c0, c1].toArray), vv, bv]) Tryz.func83 nm83 rfl rfl rfl ?_)
 refine Calls.mono (l7NodeO_spec (k := a) h.pins (bi.mono (Pin.le_trans ak m)) (bj.mono (Pin.le_trans ak m)) ab ap hf hc (by omega) hvs) ?_
 rintro _ ek ⟨el, rfl, t⟩
 refine ⟨_, rfl, ?_⟩
 have au := h.tr t
 have bk := ab.ext t
 have bm := ap.ext t
 have bn := bg.ext t
 refine qM (.tuple #[(.agg [(vJ (vgT (den ns a))), (vJ (vgP (den ns a)))].toArray), (.bool (vgB (den ns a)))]) ?_
 refine qD rfl (yE (v := (.agg [(vJ (vgT (den ns a))), (vJ (vgP (den ns a)))].toArray)) rfl rfl) (qD rfl (yE (v := (.bool (vgB (den ns a)))) rfl rfl) (qI rfl (yM [(vJ 0), (vJ 0)] zr27 rfl au.pins (fun ac em av c3 c4 ad => ?_))))
 have bo := au.step c4 ad
 have c5 := bk.below ad
 have c6 := bm.below ad
 have c7 := bn.below ad
 have bp : Apart (some ac) vv.ownBlock := zI (congrArg some av) bk.lt
 have bq : Apart (some ac) bv.ownBlock := zI (congrArg some av) bm.lt
 have br : Apart (some ac) (some g) := zJ (congrArg some av) bn.lt
 have bt : w.heap.size ≤ ac := by have := au.size; omega
 refine q0 rfl rfl rfl (yF (cs' := [(vJ (vgT (den ns a))), (vJ (vgP (den ns a)))]) (us := [(vJ (vgT (den ns a))), (vJ (vgP (den ns a)))]) (v := (.agg [(vJ (vgT (den ns a))), (vJ (vgP (den ns a)))].toArray)) sz27 rfl rfl rfl (yK (by rfl) (by rfl)) bo.pins c3 (Nat.le_of_ble_eq_true rfl) rfl (fun eo c8 c9 ae ep => ?_))
 have da := bo.write c9 ae ((zS bt))
 have db := c5.keptA ae bp.symm
 have dc := c6.keptA ae bq.symm
 have dd := c7.keptA ae br.symm
 obtain ⟨aw, ax, af, de, ay⟩ := c8.shut da bt
 have df := db.moreA ax ay bp.symm
 have dg := dc.moreA ax ay bq.symm
 have dh := dd.moreA ay br.symm
 refine qM (.bool (vgB (den ns a))) ?_
 refine qe (zA (zB (zC ?_)))
 refine qM vv ?_
 refine qD rfl (yH (cs := [(vJ (vgT (den ns a))), (vJ (vgP (den ns a)))]) ag27 sz27 rfl (fun j u hj => af.pins _ _ _ (de _ _ (by simpa using hj)))) (qI rfl (o_build1 (E := eP2) (e := 27) [(vJ (vgT (den ns a))), (vJ (vgP (den ns a)))] (vgT (den ns a), vgP (den ns a)) Tryz.underlying59 sz27 zr27 rfl rfl (by decide) af.pins (fun bu di dj dk ag eq => ?_)))
 have az := af.step dk ag
 have bw := df.below ag
 have bx := dg.below ag
 have bz := dh.below ag
 have dl : Own eP2 27 aw di w.heap.size bu ([(vgT (den ns a), vgP (den ns a))]) := dj.weaken af.size
 refine qI rfl (oA (E := eP2) (v := vv) (u := bu) 16 Tryz.underlying59 ap27 (by decide) rfl rfl az.pins bw dl.src (az.size) (fun x er dm dn a0 b0 => ?_))
 have a1 := az.write dn a0 ((yN bw))
 have dp := bx.keptA a0 bh.symm
 have dq := bz.keptA a0 aq.symm
 have b2 : Apart bv.ownBlock x.ownBlock := zG bh.symm b0 bx.lt
 have dr : Apart (some g) x.ownBlock := zR aq.symm b0 bz.lt
 have es : (vs ++ ([(vgT (den ns a), vgP (den ns a))])).length = vs.length + 1 := List.length_append
 refine qM x ?_
 refine qe (zA (zC ?_))
 refine qM bv ?_
 refine qM (.bool (vgB (den ns a))) ?_
 refine qI rfl (xA (E := eBool) (e := 4) [(.bool (vgB (den ns a)))] [vgB (den ns a)] Tryz.underlying60 sz4 zr4 (by exact xZ (by rfl)) (xN (by rfl)) rfl rfl rfl rfl (by decide) a1.pins (fun b3 ds dt du ah et => ?_))
 have a2 := a1.step du ah
 have b4 := dp.below ah
 have b5 := dm.below ah
 have b6 := dq.below ah
 have dv : Own eBool 4 aw ds w.heap.size b3 ([vgB (den ns a)]) := dt.weaken a1.size
 refine qI rfl (oA (E := eBool) (v := bv) (u := b3) 1 Tryz.underlying60 ap4 (by decide) rfl rfl a2.pins b4 dv.src (a2.size) (fun ai eu dw dx a3 b7 => ?_))
 have dy := a2.write dx a3 ((yN b4))
 have dz := b5.keptA a3 b2.symm
 have d0 := b6.keptA a3 ar.symm
 have d1 : Apart x.ownBlock ai.ownBlock := zG b2.symm b7 b5.lt
 have d2 : Apart (some g) ai.ownBlock := zR ar.symm b7 b6.lt
 have ev : (bs ++ ([vgB (den ns a)])).length = bs.length + 1 := List.length_append
 refine qM ai ?_
 refine qe (yB (zA (zC ?_)))
 refine qM (vJ (a : Int)) ?_
 refine qD rfl (yJ rfl rfl (by omega)) (qM (vJ ((a : Int) + 1)) ?_)
 refine qe (zZ (⟨_, ?_, _, rfl, _, a + 1, x, vs ++ ([(vgT (den ns a), vgP (den ns a))]), ai, bs ++ ([vgB (den ns a)]), aw, (pS 6 (pS 5 (pS 4 (pS 3 (pS 2 (pU 1)))))), rfl, dy, (Pin.le_trans (Pin.le_trans m t.le) ax), (by omega), hvs.next, dz, dw, d0, d1, dr.symm, d2.symm⟩))
 omega
 refine wp_exit (zW (yO (yI (zA (zB ?_)))))
 have hkn : a = ns.length := by omega
 have hva := hvs.v (a - 1) (by omega)
 have hba := hvs.b (a - 1) (by omega)
 have hcg : den ns (a - 1) = c := by rw [hkn]; exact hf.2
 rw [hcg] at hva hba
 have hti : ((vs.length : Int) - 1).toNat = a - 1 := by omega
 have htb : ((bs.length : Int) - 1).toNat = a - 1 := by omega
 have d3 := Gadd.pins h.pins vv
 have d4 := Gadd.pins h.pins bv
 have b8 := ab.read
 have a4 := ap.read
 refine yZ (S := fun wz => Pins (Gadd l s vv) wz ∧ Pins (Gadd l s bv) wz) (last := 14) (by kernel_rfl) rfl ?_
 have y : Below s.heap.size s s.drew := (Below.refl _ _).drew
 have d5 := h.pins.below y
 have b9 := h.step d5 y
 have d6 := bg.below y
 have d := d3.below y
 have f := d4.below y
 refine dT (i := 0) rfl rfl (by kernel_rfl) (fun _ _ => zQ (v := vv) rfl) ⟨d, f⟩ ?_
 refine dT (i := 1) rfl rfl (by kernel_rfl) (fun _ _ => zQ (v := vv) rfl) ⟨d, f⟩ ?_
 refine dT (i := 2) rfl rfl (by kernel_rfl) (fun _ _ => zM Tryz.underlying59 (v := vv) rfl b8) ⟨d, f⟩ ?_
 refine dT (i := 3) rfl rfl (by kernel_rfl) (fun _ _ => qE rfl rfl (by omega)) ⟨d, f⟩ ?_
 refine dT (i := 4) rfl rfl (by kernel_rfl) (fun _ _ => zF Tryz.underlying59 sz27 (v := vv) rfl rfl b8 (by omega) (by omega)) ⟨d, f⟩ ?_
 obtain ⟨ew, d7, d8, ex⟩ := nm_el (j := ((vs.length : Int) - 1).toNat) default (ab.at (z := ((vs.length : Int) - 1)) (by omega) (by omega)) rfl
 obtain rfl := d7
 refine dT (i := 5) rfl rfl (by kernel_rfl) (fun _ hS => d8 ag27 sz27 rfl hS.1) ⟨d, f⟩ ?_
 refine dT (i := 6) rfl rfl (by kernel_rfl) (fun _ _ => zQ (v := bv) rfl) ⟨d, f⟩ ?_
 refine dT (i := 7) rfl rfl (by kernel_rfl) (fun _ _ => zQ (v := bv) rfl) ⟨d, f⟩ ?_
 refine dT (i := 8) rfl rfl (by kernel_rfl) (fun _ _ => zM Tryz.underlying60 (v := bv) rfl a4) ⟨d, f⟩ ?_
 refine dT (i := 9) rfl rfl (by kernel_rfl) (fun _ _ => qE rfl rfl (by omega)) ⟨d, f⟩ ?_
 refine dT (i := 10) rfl rfl (by kernel_rfl) (fun _ _ => zF Tryz.underlying60 sz4 (v := bv) rfl rfl a4 (by omega) (by omega)) ⟨d, f⟩ ?_
 refine dT (i := 11) rfl rfl (by kernel_rfl) (fun _ hS => qC (r := bs.getD ((bs.length : Int) - 1).toNat false) rfl ag4 (z := ((bs.length : Int) - 1)) rfl a4 hS.2 (by omega) (by omega)) ⟨d, f⟩ ?_
 refine dO (i := 12) (qB (i := 12) rfl rfl rfl (zD rfl _) (yF (cs' := [(vJ ((vs.getD ((vs.length : Int) - 1).toNat default).1)), (vJ ((vs.getD ((vs.length : Int) - 1).toNat default).2))]) (us := [(vJ ((vs.getD ((vs.length : Int) - 1).toNat default).1)), (vJ ((vs.getD ((vs.length : Int) - 1).toNat default).2))]) (v := (.agg [(vJ ((vs.getD ((vs.length : Int) - 1).toNat default).1)), (vJ ((vs.getD ((vs.length : Int) - 1).toNat default).2))].toArray)) sz27 rfl rfl rfl (yK (by rfl) (by rfl)) b9.pins d6 (Nat.le_of_ble_eq_true rfl) rfl (fun ey d9 a5 a6 ez => ?_)))
 have a7 := b9.write a5 a6 ((zS cj))
 have ca := Gadd.turn d (Pins.of_le a7.pins (Pin.le_refl _)) (Ext.one a5 a6) (notO aq)
 have cb := Gadd.turn f (Pins.of_le a7.pins (Pin.le_refl _)) (Ext.one a5 a6) (notO ar)
 refine ⟨fun _ => ⟨ca, cb⟩, ?_⟩
 refine dT (i := 13) rfl rfl (by kernel_rfl) (fun _ _ => xW (v := (.bool (bs.getD ((bs.length : Int) - 1).toNat false))) rfl) ⟨ca, cb⟩ ?_
 exact yQ (by kernel_rfl) (zA (wp_ret (zO (xL (cs := [(vJ ((vs.getD ((vs.length : Int) - 1).toNat default).1)), (vJ ((vs.getD ((vs.length : Int) - 1).toNat default).2))]) (v := (.bool (bs.getD ((bs.length : Int) - 1).toNat false))) rfl rfl rfl rfl rfl ag27 sz27 (fun j u hj => by rw [Nat.zero_add]; exact d9.cell hj) (⟨_, by rw [hti, htb, hva, hba], a7⟩)))))

end VB4
end Go.Proofs.YtakkjmlnmcemaaaGreatDoor

set_option maxRecDepth 20000
set_option maxHeartbeats 2000000
namespace Go.Proofs.YtakkjmlnmcemaaaGreatDoor
namespace N1
open Go.RowKit Go.GL Go.Proofs
open B1 C1 D1 E1











theorem pl77 : (Tryz.prog.underlying 77).bind (placesD Tryz.prog) = some [(0, 1), (1, 1)] := by kernel_rfl






theorem l3Part_spec {w : World} {G : Pin} {v : Value} {ns : List Nd} {z : Int} (hP : Pins G w) (hv : RSl eNode G v ns) (hf : FormOk ns) (hz : 0 ≤ z ∧ z < ns.length) :
  Calls Tryz.prog 71 [(.agg [v].toArray), (vJ z)].toArray w fun e w' => ∃ (u : Value) (G' : Pin), e = .returned (.agg [u].toArray) ∧ RSl eNode G' u (partS ns z) ∧ Ext noS G w G' w' := by
 refine zV (n := 18) Tryz.func71 Tryz.ntmps71 rfl rfl ?_
 have f : Ext noS G w G w := Ext.refl hP
 have hfl := hf.len
 have hao := addM_all jO hf (by simp; omega)
 have hal := hao.len
 refine zB (zC ?_)
 refine qI rfl (xG [v] (v := (.agg [v].toArray)) rfl rfl f.pins (fun b1 w2 bb ad ae af => ?_))
 have ag := f.step ae af
 have ah : w.heap.size ≤ b1 := by have := f.size; omega
 obtain ⟨G9, ai, g, aj, bd⟩ := ad.shut ag ah
 refine qI rfl (yM [(.slice none 0 0)] zr32 rfl g.pins (fun p be bf q ak al => ?_))
 have k := g.step ak al
 have am : w.heap.size ≤ p := by have := g.size; omega
 refine qe (zA (zB (zC ?_)))
 refine qD rfl (yG [(.slice none 0 0), (.slice none 0 0)] [(.slice none 0 0), (.slice none 0 0)] [] Tryz.underlying77 zr77 rfl pl77 rfl (fun _ h => by cases h) rfl) (qI rfl (xG [(.slice none 0 0), (.slice none 0 0)] (v := (.agg [(.slice none 0 0), (.slice none 0 0)].toArray)) rfl rfl k.pins (fun a bg an ao ap s => ?_)))
 have c := k.step ap s
 have aq := q.below s
 have ar : Apart (some a) (some p) := zJ (congrArg some an) q.lt
 have au : w.heap.size ≤ a := by have := k.size; omega
 refine qM (.pointer (some ⟨a, 0, none⟩)) ?_
 refine qe (zA (zB (zC ?_)))
 refine qM (.pointer (some ⟨a, 0, none⟩)) ?_
 refine qD rfl (yH (cs := [v]) ag32 sz32 rfl (fun j u hj => c.pins _ _ _ (aj _ _ (by simpa using hj)))) (qI rfl (zH (vs := [(.pointer (some ⟨a, 0, none⟩)), (.agg [v].toArray)]) Tryz.func82 nm82 rfl rfl rfl ?_))
 refine Calls.mono (add_spec c.pins ⟨ao, (Own.nil _ _ _ _ _), (Own.nil _ _ _ _ _), apart_none.symm, apart_none.symm, apart_none⟩ jO (hv.mono ai) hf (by first | omega | (simp; omega))) ?_
 rintro _ bh ⟨l, bi, bj, bk, rfl, t, b, x, av, aw⟩
 refine ⟨_, rfl, ?_⟩
 have m : ∀ i, inS a (.slice none 0 0) (.slice none 0 0) i → w.heap.size ≤ i ∨ noS i := inS_lo (zS au) (lo_none _ _) (lo_none _ _)
 have o := c.trans x m
 have ax := notS (u := (.slice none 0 0)) (v := (.slice none 0 0)) ar.symm apart_none.symm apart_none.symm
 have ay := aq.extS x (notSb ax)
 have az := b.bx
 have a0 := b.ou
 have a1 := b.ov
 have a2 := b.abu
 have a3 := b.abv
 have a4 := b.auv
 have bl := qR av m c.size
 have bm := qR aw m c.size
 refine qM l ?_
 refine qe (zA (zB (zC ?_)))
 refine qM (.pointer (some ⟨a, 0, none⟩)) ?_
 refine qM l ?_
 refine qM (vJ z) ?_
 refine qD rfl (zF Tryz.underlying56 sz3 (v := l) rfl rfl t (by omega) (by omega)) (qD rfl (zE (r := ((addM ([]) ([]) ns).1).getD (z).toNat 0) rfl ag3 (z := z) rfl t o.pins (by omega) (by omega)) (qI rfl (zH (vs := [(.pointer (some ⟨a, 0, none⟩)), (vJ (((addM ([]) ([]) ns).1).getD (z).toNat 0))]) Tryz.func53 nm53 rfl rfl rfl ?_)))
 refine Calls.mono (form_spec o.pins ⟨az, a0, a1, a2, a3, a4⟩ hao.book (hao.places _ (by omega))) ?_
 rintro _ bn ⟨d, bo, rfl, y, aa⟩
 refine ⟨_, rfl, ?_⟩
 have ab := o.tr aa
 have a5 := ay.ext aa
 refine q0 rfl rfl rfl (yF (cs' := [d]) (us := [d]) (v := (.agg [d].toArray)) sz32 rfl rfl rfl (xN y.one) ab.pins a5 (Nat.le_of_ble_eq_true rfl) rfl (fun bp a6 a7 a8 bq => ?_))
 have a9 := ab.write a7 a8 ((zS am))
 refine qe (zA ?_)
 exact wp_ret (zO (c_retc (cs := [d]) rfl rfl rfl ag32 sz32 (fun j u hj => by rw [Nat.zero_add]; exact a6.cell hj) (⟨_, _, rfl, y, a9⟩)))

theorem l3OptsF_spec {w : World} {G : Pin} {v : Value} {ns : List Nd} (hP : Pins G w) (hv : RSl eNode G v ns) (hf : FormOk ns) (hlo : 1 ≤ ns.length) :
  Calls Tryz.prog 55 [(.agg [v].toArray)].toArray w fun e w' => ∃ (u v : Value) (G' : Pin), e = .returned (.tuple #[u, v]) ∧ RSl (eSl eNode) G' u (optsS ns (lastN ns).l) ∧ RSl (eSl eNode) G' v (optsS ns (lastN ns).r) ∧ Ext noS G w G' w' := by
 refine zV (n := 55) Tryz.func55 Tryz.ntmps55 rfl rfl ?_
 have ap : Ext noS G w G w := Ext.refl hP
 have hhi := hf.len
 have hlast : ((ns.length : Int) - 1).toNat = ns.length - 1 := by omega
 have hoo := xC hf.opts (show ns.length - 1 < ns.length by omega)
 have hll := hf.lens (ns.length - 1) (by omega)
 have hL : ∀ i, i < (lastN ns).l.length → 0 ≤ (lastN ns).l.getD i 0 ∧ (lastN ns).l.getD i 0 < ns.length := fun i hi => by have h := hoo.1 _ (yC (d := (0 : Int)) hi); show 0 ≤ (lastN ns).l.getD i 0 ∧ (lastN ns).l.getD i 0 < ns.length; unfold lastN; omega
 have hR : ∀ i, i < (lastN ns).r.length → 0 ≤ (lastN ns).r.getD i 0 ∧ (lastN ns).r.getD i 0 < ns.length := fun i hi => by have h := hoo.2 _ (yC (d := (0 : Int)) hi); show 0 ≤ (lastN ns).r.getD i 0 ∧ (lastN ns).r.getD i 0 < ns.length; unfold lastN; omega
 have hLl : (lastN ns).l.length ≤ 1048576 := hll.1
 have hRl : (lastN ns).r.length ≤ 1048576 := hll.2
 have elast : lastN ns = ns.getD ((ns.length : Int) - 1).toNat default := by unfold lastN; rw [hlast]
 rw [elast] at hL hR hLl hRl
 refine zB (zC ?_)
 refine qI rfl (xG [v] (v := (.agg [v].toArray)) rfl rfl ap.pins (fun b1 w2 dz bx bz b0 => ?_))
 have b2 := ap.step bz b0
 have b3 : w.heap.size ≤ b1 := by have := ap.size; omega
 obtain ⟨G9, y, ar, af, d0⟩ := bx.shut b2 b3
 refine qM (.slice none 0 0) ?_
 refine qM (.slice none 0 0) ?_
 refine qe (zA (zB (zC ?_)))
 refine qI rfl (xD (E := (eSl eNode)) (e := 32) Tryz.underlying79 sz32 ar.pins (fun aa b4 b5 b6 b7 d1 => ?_))
 have au := ar.step b6 b7
 have a8 : Own (eSl eNode) 32 G9 b4 w.heap.size aa ([]) := b5.weaken ar.size
 refine qI rfl (xD (E := (eSl eNode)) (e := 32) Tryz.underlying79 sz32 au.pins (fun b b8 b9 ca a9 cb => ?_))
 have t := au.step ca a9
 have ba := a8.below a9
 have cc : Apart b.ownBlock aa.ownBlock := zI cb a8.lt
 have bb : Own (eSl eNode) 32 G9 b8 w.heap.size b ([]) := b9.weaken au.size
 refine qM aa ?_
 refine qM b ?_
 refine qe (zA (zB (zC ?_)))
 refine qD rfl (zK (k := 0) rfl Tryz.underlying32 rfl nz30 rfl) (qD rfl (zL (u := v) ag30 rfl (t.pins _ _ _ (af 0 _ rfl))) (qD rfl (zK (k := 0) rfl Tryz.underlying32 rfl nz30 rfl) (qD rfl (zL (u := v) ag30 rfl (t.pins _ _ _ (af 0 _ rfl))) (qD rfl (zM Tryz.underlying30 (v := v) rfl hv) (qD rfl (qE rfl rfl (by omega)) (qD rfl (zF Tryz.underlying30 sz65 (v := v) rfl rfl hv (by omega) (by omega)) ?_))))))
 obtain ⟨q, s, ab, ac, cd⟩ := jB (hv.at (z := ((ns.length : Int) - 1)) (by omega) (by omega)) (j := ((ns.length : Int) - 1).toNat) rfl
 have d2 := ab.max
 have d3 := ac.max
 refine qD rfl (cd ag65 sz65 rfl (Pins.of_le t.pins y)) (qI rfl (yM [(.slice none 0 0), (.slice none 0 0)] zr65 rfl t.pins (fun ad d4 bc ce cf av => ?_)))
 have bd := t.step cf av
 have cg := ba.below av
 have ch := bb.below av
 have be : Apart (some ad) aa.ownBlock := zI (congrArg some bc) ba.lt
 have bf : Apart (some ad) b.ownBlock := zI (congrArg some bc) bb.lt
 have bg : w.heap.size ≤ ad := by have := t.size; omega
 refine q0 rfl rfl rfl (yF (cs' := [q, s]) (us := [q, s]) (v := (.agg [q, s].toArray)) sz65 rfl rfl rfl (yK ab.one ac.one) bd.pins ce (Nat.le_of_ble_eq_true rfl) rfl (fun d5 ci cj aw d6 => ?_))
 have ck := bd.write cj aw ((zS bg))
 have cl := cg.keptA aw be.symm
 have cm := ch.keptA aw bf.symm
 obtain ⟨bh, g, cn, ag, bi⟩ := ci.shut ck bg
 have co := cl.moreA g bi be.symm
 have cp := cm.moreA g bi bf.symm
 refine qe (zA (zB (zB (zC ?_))))
 refine qM (vJ 0) ?_
 refine qe (zA ?_)
 refine zX (yT (fun (k : Nat) (en : Nat → Value) (W : World) => ∃ (ae : Nat → Value) (j : Nat) (ovA : Value) (osA : List (List Nd)) (GA : Pin), en = (upd (upd (upd (upd (upd (upd (upd ae 1 (.pointer (some ⟨b1, 0, none⟩))) 2 (.slice none 0 0)) 3 (.slice none 0 0)) 4 ovA) 5 b) 6 (.pointer (some ⟨ad, 0, none⟩))) 7 (vJ (j : Int))) ∧ k = (ns.getD ((ns.length : Int) - 1).toNat default).l.length - j ∧ Ext noS G w GA W ∧ Pin.le bh GA ∧ (j ≤ (ns.getD ((ns.length : Int) - 1).toNat default).l.length) ∧ (osA = optsS ns ((ns.getD ((ns.length : Int) - 1).toNat default).l.take j)) ∧ (osA.length = j) ∧ (Own (eSl eNode) 32 GA W w.heap.size ovA (osA)) ∧ (Own (eSl eNode) 32 GA W w.heap.size b ([])) ∧ (Apart ovA.ownBlock b.ownBlock)) _ ⟨_, 0, aa, [], bh, (pS 7 (pS 6 (pS 5 (pS 4 (pS 3 (pS 2 (pU 1))))))), rfl, cn, Pin.le_refl _, Nat.zero_le _, rfl, rfl, co, cp, cc.symm⟩ ?_)
 rintro d7 _ ax ⟨ae, j, ovA, osA, GA, rfl, d8, ah, a, hjA, hosA, holA, bj, bk, ay⟩
 refine zB (zB (zC ?_))
 refine qM (vJ (j : Int)) ?_
 refine qD rfl (zK (k := 0) rfl Tryz.underlying65 rfl nz56 rfl) (qD rfl (zL (u := q) ag56 rfl ((Pins.of_le ah.pins a) _ _ _ (ag 0 _ rfl))) (qD rfl (zM Tryz.underlying56 (v := q) rfl ab) (qD rfl (yV rfl rfl) (qe (zA ?_)))))
 refine yA (p := ((j : Int) : Int) < (((ns.getD ((ns.length : Int) - 1).toNat default).l).length : Int)) rfl rfl (fun cq => ?_) (fun cq => ?_)
 refine wp_skip (zA (zB ?_))
 refine zX (yZ (S := fun wz => Pins GA wz) (last := 11) (by kernel_rfl) rfl ?_)
 have ai : Below ax.heap.size ax ax.drew := (Below.refl _ _).drew
 have cr := ah.pins.below ai
 have c := ah.step cr ai
 have ct := bj.below ai
 have cu := bk.below ai
 refine dM 0 ovA c.pins ?_
 refine dT (i := 1) rfl rfl (by kernel_rfl) (fun _ hS => yH (cs := [v]) ag32 sz32 rfl (fun j u hj => (Pins.of_le hS (Pin.le_trans g a)) _ _ _ (af _ _ (by simpa using hj)))) c.pins ?_
 refine dT (i := 2) rfl rfl (by kernel_rfl) (fun _ _ => zK (k := 0) rfl Tryz.underlying65 rfl nz56 rfl) c.pins ?_
 refine dT (i := 3) rfl rfl (by kernel_rfl) (fun _ hS => zL (u := q) ag56 rfl ((Pins.of_le hS a) _ _ _ (ag 0 _ rfl))) c.pins ?_
 refine dM 4 (vJ (j : Int)) c.pins ?_
 refine dT (i := 5) rfl rfl (by kernel_rfl) (fun _ _ => zF Tryz.underlying56 sz3 (v := q) rfl rfl ab (by omega) (by omega)) c.pins ?_
 refine dT (i := 6) rfl rfl (by kernel_rfl) (fun _ hS => zE (r := ((ns.getD ((ns.length : Int) - 1).toNat default).l).getD j 0) rfl ag3 (z := (j : Int)) rfl ab (Pins.of_le hS (Pin.le_trans (Pin.le_trans y g) a)) (by omega) (by omega)) c.pins ?_
 refine dO (i := 7) (zU (i := 7) rfl rfl rfl (zD rfl _) (zH (vs := [(.agg [v].toArray), (vJ (((ns.getD ((ns.length : Int) - 1).toNat default).l).getD j 0))]) Tryz.func71 nm71 rfl rfl rfl ?_))
 refine Calls.mono (l3Part_spec c.pins (hv.mono (Pin.le_trans (Pin.le_trans y g) a)) hf (hL _ (by omega))) ?_
 rintro _ d9 ⟨cv, bl, rfl, cw, m⟩
 refine ⟨_, rfl, ?_⟩
 have aj := c.tr m
 have cx := ct.ext m
 have cy := cu.ext m
 refine ⟨fun _ => (Pins.of_le aj.pins m.le), ?_⟩
 refine dO (i := 8) (zU (i := 8) rfl rfl rfl (zD rfl _) (o_build1 (E := (eSl eNode)) (e := 32) [cv] (partS ns (((ns.getD ((ns.length : Int) - 1).toNat default).l).getD j 0)) Tryz.underlying79 sz32 zr32 ⟨_, rfl, cw⟩ rfl (by decide) aj.pins (fun bm cz c0 c1 az ea => ?_)))
 have ak := aj.step c1 az
 have bn := cx.below az
 have bo := cy.below az
 have c2 : Own (eSl eNode) 32 bl cz w.heap.size bm ([partS ns (((ns.getD ((ns.length : Int) - 1).toNat default).l).getD j 0)]) := c0.weaken aj.size
 refine ⟨fun _ => (Pins.of_le ak.pins m.le), ?_⟩
 refine dO (i := 9) (zU (i := 9) rfl rfl rfl (zD rfl _) (oA (E := (eSl eNode)) (v := ovA) (u := bm) 24 Tryz.underlying79 ap32 (by decide) rfl rfl ak.pins bn c2.src (ak.size) (fun a0 eb c3 c4 bp c5 => ?_)))
 have a1 := ak.write c4 bp ((yN bn))
 have c6 := bo.keptA bp ay.symm
 have c7 : Apart b.ownBlock a0.ownBlock := zG ay.symm c5 bo.lt
 have ec : (osA ++ ([partS ns (((ns.getD ((ns.length : Int) - 1).toNat default).l).getD j 0)])).length = osA.length + 1 := List.length_append
 refine ⟨fun _ => (Pins.of_le a1.pins m.le), ?_⟩
 refine dM 10 a0 (Pins.of_le a1.pins m.le) ?_
 refine yQ (by kernel_rfl) (yB (zA (zC ?_)))
 refine qM (vJ (j : Int)) ?_
 refine qD rfl (yJ rfl rfl (by omega)) (qM (vJ ((j : Int) + 1)) ?_)
 refine qe (zZ (⟨_, ?_, _, rfl, _, j + 1, a0, osA ++ [partS ns ((ns.getD ((ns.length : Int) - 1).toNat default).l.getD j 0)], bl, (pS 7 (pS 6 (pS 5 (pS 4 (pS 3 (pS 2 (pU 1))))))), rfl, a1, (Pin.le_trans a m.le), (by omega), (by rw [hosA]; exact optsS_next (by omega)), (by simp; omega), c3, c6, c7.symm⟩))
 omega
 refine wp_exit (zW (yO (yI (zA (zB (zB (zC ?_)))))))
 refine qM (vJ 0) ?_
 refine qe (zA ?_)
 refine zX (yT (fun (k : Nat) (en : Nat → Value) (W : World) => ∃ (ae : Nat → Value) (i : Nat) (ovB : Value) (osB : List (List Nd)) (GB : Pin), en = (upd (upd (upd (upd (upd (upd (upd ae 1 (.pointer (some ⟨b1, 0, none⟩))) 2 (.slice none 0 0)) 3 (.slice none 0 0)) 4 ovA) 5 ovB) 6 (.pointer (some ⟨ad, 0, none⟩))) 8 (vJ (i : Int))) ∧ k = (ns.getD ((ns.length : Int) - 1).toNat default).r.length - i ∧ Ext noS G w GB W ∧ Pin.le GA GB ∧ (i ≤ (ns.getD ((ns.length : Int) - 1).toNat default).r.length) ∧ (osB = optsS ns ((ns.getD ((ns.length : Int) - 1).toNat default).r.take i)) ∧ (osB.length = i) ∧ (Own (eSl eNode) 32 GB W w.heap.size ovB (osB)) ∧ (Own (eSl eNode) 32 GB W w.heap.size ovA (osA)) ∧ (Apart ovB.ownBlock ovA.ownBlock)) _ ⟨_, 0, b, [], GA, (pS 8 (pS 6 (pS 5 (pS 4 (pS 3 (pS 2 (pU 1))))))), rfl, ah, Pin.le_refl _, Nat.zero_le _, rfl, rfl, bk, bj, ay.symm⟩ ?_)
 rintro ed _ a2 ⟨ae, i, ovB, osB, GB, rfl, ee, al, x, hjB, hosB, holB, bq, br, a3⟩
 refine zB (zB (zC ?_))
 refine qM (vJ (i : Int)) ?_
 refine qD rfl (zK (k := 1) rfl Tryz.underlying65 rfl nz56 rfl) (qD rfl (zL (u := s) ag56 rfl ((Pins.of_le al.pins (Pin.le_trans a x)) _ _ _ (ag 1 _ rfl))) (qD rfl (zM Tryz.underlying56 (v := s) rfl ac) (qD rfl (yV rfl rfl) (qe (zA ?_)))))
 refine yA (p := ((i : Int) : Int) < (((ns.getD ((ns.length : Int) - 1).toNat default).r).length : Int)) rfl rfl (fun c8 => ?_) (fun c8 => ?_)
 refine wp_skip (zA (zB ?_))
 refine zX (yZ (S := fun wz => Pins GB wz) (last := 11) (by kernel_rfl) rfl ?_)
 have am : Below a2.heap.size a2 a2.drew := (Below.refl _ _).drew
 have c9 := al.pins.below am
 have f := al.step c9 am
 have da := bq.below am
 have db := br.below am
 refine dM 0 ovB f.pins ?_
 refine dT (i := 1) rfl rfl (by kernel_rfl) (fun _ hS => yH (cs := [v]) ag32 sz32 rfl (fun j u hj => (Pins.of_le hS (Pin.le_trans (Pin.le_trans g a) x)) _ _ _ (af _ _ (by simpa using hj)))) f.pins ?_
 refine dT (i := 2) rfl rfl (by kernel_rfl) (fun _ _ => zK (k := 1) rfl Tryz.underlying65 rfl nz56 rfl) f.pins ?_
 refine dT (i := 3) rfl rfl (by kernel_rfl) (fun _ hS => zL (u := s) ag56 rfl ((Pins.of_le hS (Pin.le_trans a x)) _ _ _ (ag 1 _ rfl))) f.pins ?_
 refine dM 4 (vJ (i : Int)) f.pins ?_
 refine dT (i := 5) rfl rfl (by kernel_rfl) (fun _ _ => zF Tryz.underlying56 sz3 (v := s) rfl rfl ac (by omega) (by omega)) f.pins ?_
 refine dT (i := 6) rfl rfl (by kernel_rfl) (fun _ hS => zE (r := ((ns.getD ((ns.length : Int) - 1).toNat default).r).getD i 0) rfl ag3 (z := (i : Int)) rfl ac (Pins.of_le hS (Pin.le_trans (Pin.le_trans (Pin.le_trans y g) a) x)) (by omega) (by omega)) f.pins ?_
 refine dO (i := 7) (zU (i := 7) rfl rfl rfl (zD rfl _) (zH (vs := [(.agg [v].toArray), (vJ (((ns.getD ((ns.length : Int) - 1).toNat default).r).getD i 0))]) Tryz.func71 nm71 rfl rfl rfl ?_))
 refine Calls.mono (l3Part_spec f.pins (hv.mono (Pin.le_trans (Pin.le_trans (Pin.le_trans y g) a) x)) hf (hR _ (by omega))) ?_
 rintro _ ef ⟨dc, bs, rfl, dd, o⟩
 refine ⟨_, rfl, ?_⟩
 have an := f.tr o
 have de := da.ext o
 have df := db.ext o
 refine ⟨fun _ => (Pins.of_le an.pins o.le), ?_⟩
 refine dO (i := 8) (zU (i := 8) rfl rfl rfl (zD rfl _) (o_build1 (E := (eSl eNode)) (e := 32) [dc] (partS ns (((ns.getD ((ns.length : Int) - 1).toNat default).r).getD i 0)) Tryz.underlying79 sz32 zr32 ⟨_, rfl, dd⟩ rfl (by decide) an.pins (fun bt dg dh di a4 eg => ?_)))
 have ao := an.step di a4
 have bu := de.below a4
 have bv := df.below a4
 have dj : Own (eSl eNode) 32 bs dg w.heap.size bt ([partS ns (((ns.getD ((ns.length : Int) - 1).toNat default).r).getD i 0)]) := dh.weaken an.size
 refine ⟨fun _ => (Pins.of_le ao.pins o.le), ?_⟩
 refine dO (i := 9) (zU (i := 9) rfl rfl rfl (zD rfl _) (oA (E := (eSl eNode)) (v := ovB) (u := bt) 24 Tryz.underlying79 ap32 (by decide) rfl rfl ao.pins bu dj.src (ao.size) (fun a5 eh dk dl bw dm => ?_)))
 have a6 := ao.write dl bw ((yN bu))
 have dn := bv.keptA bw a3.symm
 have dp : Apart ovA.ownBlock a5.ownBlock := zG a3.symm dm bv.lt
 have ei : (osB ++ ([partS ns (((ns.getD ((ns.length : Int) - 1).toNat default).r).getD i 0)])).length = osB.length + 1 := List.length_append
 refine ⟨fun _ => (Pins.of_le a6.pins o.le), ?_⟩
 refine dM 10 a5 (Pins.of_le a6.pins o.le) ?_
 refine yQ (by kernel_rfl) (yB (zA (zC ?_)))
 refine qM (vJ (i : Int)) ?_
 refine qD rfl (yJ rfl rfl (by omega)) (qM (vJ ((i : Int) + 1)) ?_)
 refine qe (zZ (⟨_, ?_, _, rfl, _, i + 1, a5, osB ++ [partS ns ((ns.getD ((ns.length : Int) - 1).toNat default).r.getD i 0)], bs, (pS 8 (pS 6 (pS 5 (pS 4 (pS 3 (pS 2 (pU 1))))))), rfl, a6, (Pin.le_trans x o.le), (by omega), (by rw [hosB]; exact optsS_next (by omega)), (by simp; omega), dk, dn, dp.symm⟩))
 omega
 refine wp_exit (zW (yO (yI (zA (zB (zC ?_))))))
 refine qM ovA ?_
 refine qM ovB ?_
 refine qM ovA ?_
 refine qM ovB ?_
 refine qe (zA ?_)
 refine wp_ret (zO (c_ret2 (v := ovA) (u := ovB) rfl rfl rfl rfl rfl ?_))
 obtain ⟨ej, dq, dr, ds, dt⟩ := br.sealed al
 have du := bq.moreO dq dt a3
 obtain ⟨ek, dv, dw, dx, el⟩ := du.sealed dr
 rw [take_all (by omega)] at hosA hosB
 rw [elast, ← hosA, ← hosB]
 exact ⟨_, _, _, rfl, (ds.mono dv), dx, dw⟩

end N1
end Go.Proofs.YtakkjmlnmcemaaaGreatDoor

set_option maxRecDepth 20000
set_option maxHeartbeats 2000000
namespace Go.Proofs.YtakkjmlnmcemaaaGreatDoor
namespace SX2
open Go.RowKit Go.GL Go.Proofs
open B1 C1 D1 E1 K1 PO1 PL1 NU1 NU2 NU3 NB4 VA1 VA2 VA3 SW1 VB1 VB2 VB3 VB4 N1






theorem pl27 : (Tryz.prog.underlying 27).bind (placesD Tryz.prog) = some [(0, 1), (1, 1)] := by kernel_rfl



theorem l8SwitchOf_spec {w : World} {G : Pin} {v : Value} {ns : List Nd} {c : Nat} (hP : Pins G w) (hv : RSl eNode G v ns) (hf : IsForm c ns) (hc : CanonG c) :
  Calls Tryz.prog 36 [(.agg [v].toArray)].toArray w fun e w' => ∃ G', e = .returned (.tuple #[(.agg [.int .i64 (swL (c)).1, .int .i64 (swL (c)).2].toArray), (.agg [.int .i64 (swR (c)).1, .int .i64 (swR (c)).2].toArray), .bool (swcB (c))]) ∧ Ext noS G w G' w' := by
 refine zV (n := 65) Tryz.func36 Tryz.ntmps36 rfl rfl ?_
 have a8 : Ext noS G w G w := Ext.refl hP
 have hnl := hf.1.wf.ok.len
 have hlo := hf.1.lo
 have hpk := sg_pool hf.1
 have hpz := last_place hf.1
 have hcz := last_pd hf
 have hlb := lastF_at hf.1.wf.ok hlo
 have hswp : (∃ a b, c = mkG [a] [b]) ↔ (lastN ns).l.length = 1 ∧ (lastN ns).r.length = 1 := by have h := sw_pool hpk hpz; rw [hcz] at h; exact h
 have gf := opts_len ns (lastN ns).l
 have gg := opts_len ns (lastN ns).r
 have hll := hf.1.wf.ok.lens (ns.length - 1) (by omega)
 refine zB (zC ?_)
 refine qI rfl (xG [v] (v := (.agg [v].toArray)) rfl rfl a8.pins (fun b1 w2 gi dh di dj => ?_))
 have dk := a8.step di dj
 have dl : w.heap.size ≤ b1 := by have := a8.size; omega
 obtain ⟨G9, dm, a9, dn, gk⟩ := dh.shut dk dl
 refine qI rfl (yM [(vJ 0), (vJ 0)] zr27 rfl a9.pins (fun a1 gl gm b0 dp dq => ?_))
 have ba := a9.step dp dq
 have ac : w.heap.size ≤ a1 := by have := a9.size; omega
 refine qI rfl (yM [(vJ 0), (vJ 0)] zr27 rfl ba.pins (fun a2 gn dr dt du b2 => ?_))
 have bb := ba.step du b2
 have dv := b0.below b2
 have o : Apart (some a2) (some a1) := zJ (congrArg some dr) b0.lt
 have ai : w.heap.size ≤ a2 := by have := ba.size; omega
 refine qM (.bool false) ?_
 refine qe (zA (zB (zC ?_)))
 refine qD rfl (yH (cs := [v]) ag32 sz32 rfl (fun j u hj => bb.pins _ _ _ (dn _ _ (by simpa using hj)))) (qI rfl (zH (vs := [(.agg [v].toArray)]) Tryz.func55 nm55 rfl rfl rfl ?_))
 refine Calls.mono (l3OptsF_spec bb.pins (hv.mono dm) hf.1.wf.ok hlo) ?_
 rintro _ gp ⟨ae, af, gq, rfl, bc, bd, be⟩
 refine ⟨_, rfl, ?_⟩
 have ag := bb.tr be
 have bf := dv.ext be
 have bg := dt.ext be
 refine qM (.tuple #[ae, af]) ?_
 refine qD rfl (yE (v := ae) rfl rfl) (qD rfl (yE (v := af) rfl rfl) (qM ae ?_))
 refine qM af ?_
 refine qe (zA (zB (zB (zC ?_))))
 refine qM ae ?_
 refine qD rfl (zM Tryz.underlying79 (v := ae) rfl bc) (qD rfl (jG rfl rfl) (qM (.bool (decide ((((optsS ns (lastN ns).l).length : Int) : Int) ≠ 1))) ?_))
 refine qbd (p := (((optsS ns (lastN ns).l).length : Int) : Int) ≠ 1) (t := 19) rfl (fun dw => ?_) (fun dw => ?_)
 refine qW ?_
 refine qW ?_
 refine qW ?_
 refine qD rfl (yD (v := (.bool true)) rfl rfl) (qe (zA ?_))
 refine xY rfl rfl (zB (zC ?_))
 refine qD rfl (yG [(vJ 0), (vJ 0)] [(vJ 0), (vJ 0)] [] Tryz.underlying27 zr27 rfl pl27 rfl (fun _ h => by cases h) rfl) (qD rfl (yG [(vJ 0), (vJ 0)] [(vJ 0), (vJ 0)] [] Tryz.underlying27 zr27 rfl pl27 rfl (fun _ h => by cases h) rfl) (q0 rfl rfl rfl (yF (cs' := [(vJ 0), (vJ 0)]) (us := [(vJ 0), (vJ 0)]) (v := (.agg [(vJ 0), (vJ 0)].toArray)) sz27 rfl rfl rfl (yK (by rfl) (by rfl)) ag.pins bf (Nat.le_of_ble_eq_true rfl) rfl (fun gr dx dy b3 gs => ?_))))
 have b4 := ag.write dy b3 ((zS ac))
 have dz := bg.keptA b3 o
 refine q0 rfl rfl rfl (yF (cs' := [(vJ 0), (vJ 0)]) (us := [(vJ 0), (vJ 0)]) (v := (.agg [(vJ 0), (vJ 0)].toArray)) sz27 rfl rfl rfl (yK (by rfl) (by rfl)) b4.pins dz (Nat.le_of_ble_eq_true rfl) rfl (fun gt d0 d1 b5 gu => ?_))
 have d2 := b4.write d1 b5 ((zS ai))
 have d3 := dx.keptA b5 o.symm
 refine qM (.bool false) ?_
 refine qe (zA ?_)
 refine wp_ret (zO (xS (cs := [(vJ 0), (vJ 0)]) (ds := [(vJ 0), (vJ 0)]) (v := (.bool false)) rfl rfl rfl rfl rfl rfl rfl ag27 sz27 rfl (fun j u hj => by rw [Nat.zero_add]; exact d3.cell hj) (fun j u hj => by rw [Nat.zero_add]; exact d0.cell hj) ?_))
 obtain ⟨q, e2, e3⟩ := swc_no (c := c) (fun g => by have h9 := hswp.1 g; omega)
 rw [q, e2, e3]
 exact ⟨_, rfl, d2⟩
 refine qN (zQ (v := af) rfl) ?_
 refine qN (zM Tryz.underlying79 (v := af) rfl bd) ?_
 refine qN (jG rfl rfl) ?_
 refine qD rfl (zY (v := (.bool (decide ((((optsS ns (lastN ns).r).length : Int) : Int) ≠ 1)))) rfl rfl) (qe (zA ?_))
 refine yA (p := (((optsS ns (lastN ns).r).length : Int) : Int) ≠ 1) rfl rfl (fun d5 => ?_) (fun d5 => ?_)
 refine zB (zC ?_)
 refine qD rfl (yG [(vJ 0), (vJ 0)] [(vJ 0), (vJ 0)] [] Tryz.underlying27 zr27 rfl pl27 rfl (fun _ h => by cases h) rfl) (qD rfl (yG [(vJ 0), (vJ 0)] [(vJ 0), (vJ 0)] [] Tryz.underlying27 zr27 rfl pl27 rfl (fun _ h => by cases h) rfl) (q0 rfl rfl rfl (yF (cs' := [(vJ 0), (vJ 0)]) (us := [(vJ 0), (vJ 0)]) (v := (.agg [(vJ 0), (vJ 0)].toArray)) sz27 rfl rfl rfl (yK (by rfl) (by rfl)) ag.pins bf (Nat.le_of_ble_eq_true rfl) rfl (fun gv d6 d7 b6 gw => ?_))))
 have b7 := ag.write d7 b6 ((zS ac))
 have d8 := bg.keptA b6 o
 refine q0 rfl rfl rfl (yF (cs' := [(vJ 0), (vJ 0)]) (us := [(vJ 0), (vJ 0)]) (v := (.agg [(vJ 0), (vJ 0)].toArray)) sz27 rfl rfl rfl (yK (by rfl) (by rfl)) b7.pins d8 (Nat.le_of_ble_eq_true rfl) rfl (fun gx d9 ea b8 gy => ?_))
 have eb := b7.write ea b8 ((zS ai))
 have ec := d6.keptA b8 o.symm
 refine qM (.bool false) ?_
 refine qe (zA ?_)
 refine wp_ret (zO (xS (cs := [(vJ 0), (vJ 0)]) (ds := [(vJ 0), (vJ 0)]) (v := (.bool false)) rfl rfl rfl rfl rfl rfl rfl ag27 sz27 rfl (fun j u hj => by rw [Nat.zero_add]; exact ec.cell hj) (fun j u hj => by rw [Nat.zero_add]; exact d9.cell hj) ?_))
 obtain ⟨q, e2, e3⟩ := swc_no (c := c) (fun g => by have h9 := hswp.1 g; omega)
 rw [q, e2, e3]
 exact ⟨_, rfl, eb⟩
 refine wp_skip (zA (zB (zC ?_)))
 refine qM ae ?_
 refine qD rfl (zF Tryz.underlying79 sz32 (v := ae) rfl rfl bc (by omega) (by omega)) ?_
 obtain ⟨ed, b9, ee⟩ := nm_form (bc.at (z := 0) (by omega) (by omega)) (j := 0) rfl
 have gz := b9.max
 refine qD rfl (ee ag32 sz32 rfl ag.pins) ?_
 have ca := last_part hf hc (show ((lastN ns).l.getD 0 0) ∈ (lastN ns).l ∨ ((lastN ns).l.getD 0 0) ∈ (lastN ns).r from Or.inl (yC (show 0 < (lastN ns).l.length by omega)))
 have ef := opts_at (ns := ns) (l := (lastN ns).l) (i := 0) (by omega)
 refine qI rfl (zH (vs := [(.agg [ed].toArray)]) Tryz.func56 nm56 rfl rfl rfl ?_)
 refine Calls.mono (l7Of_spec ag.pins b9 (by rw [ef]; exact ca.1) ca.2) ?_
 rintro _ g0 ⟨g1, a3, ao⟩
 obtain ⟨d, ap⟩ : ∃ x : Int, x = vgT (den ns ((lastN ns).l.getD 0 0).toNat) := ⟨_, rfl⟩
 rw [← ap] at a3
 obtain ⟨f, aq⟩ : ∃ x : Int, x = vgP (den ns ((lastN ns).l.getD 0 0).toNat) := ⟨_, rfl⟩
 rw [← aq] at a3
 obtain ⟨ar, aj⟩ : ∃ x : Bool, x = vgB (den ns ((lastN ns).l.getD 0 0).toNat) := ⟨_, rfl⟩
 rw [← aj] at a3
 subst a3
 refine ⟨_, rfl, ?_⟩
 have bh := ag.tr ao
 have cb := bf.ext ao
 have cc := bg.ext ao
 refine qM (.tuple #[(.agg [(vJ d), (vJ f)].toArray), (.bool ar)]) ?_
 refine qD rfl (yE (v := (.agg [(vJ d), (vJ f)].toArray)) rfl rfl) (qD rfl (yE (v := (.bool ar)) rfl rfl) (qI rfl (yM [(vJ 0), (vJ 0)] zr27 rfl bh.pins (fun bi g2 cd eg eh bj => ?_))))
 have ce := bh.step eh bj
 have ei := cb.below bj
 have ej := cc.below bj
 have cf : Apart (some bi) (some a1) := zJ (congrArg some cd) cb.lt
 have cg : Apart (some bi) (some a2) := zJ (congrArg some cd) cc.lt
 have ch : w.heap.size ≤ bi := by have := bh.size; omega
 refine q0 rfl rfl rfl (yF (cs' := [(vJ d), (vJ f)]) (us := [(vJ d), (vJ f)]) (v := (.agg [(vJ d), (vJ f)].toArray)) sz27 rfl rfl rfl (yK (by rfl) (by rfl)) ce.pins eg (Nat.le_of_ble_eq_true rfl) rfl (fun g3 ek el bk g4 => ?_))
 have em := ce.write el bk ((zS ch))
 have en := ei.keptA bk cf.symm
 have eo := ej.keptA bk cg.symm
 obtain ⟨g5, ci, bl, bm, cj⟩ := ek.shut em ch
 have ep := en.moreA cj cf.symm
 have eq := eo.moreA cj cg.symm
 refine qM (.bool ar) ?_
 refine qe (zA (zB (zC ?_)))
 refine qM af ?_
 refine qD rfl (zF Tryz.underlying79 sz32 (v := af) rfl rfl bd (by omega) (by omega)) ?_
 obtain ⟨er, ck, es⟩ := nm_form (bd.at (z := 0) (by omega) (by omega)) (j := 0) rfl
 have g6 := ck.max
 refine qD rfl (es ag32 sz32 rfl (Pins.of_le bl.pins (Pin.le_trans ao.le ci))) ?_
 have cl := last_part hf hc (show ((lastN ns).r.getD 0 0) ∈ (lastN ns).l ∨ ((lastN ns).r.getD 0 0) ∈ (lastN ns).r from Or.inr (yC (show 0 < (lastN ns).r.length by omega)))
 have et := opts_at (ns := ns) (l := (lastN ns).r) (i := 0) (by omega)
 refine qI rfl (zH (vs := [(.agg [er].toArray)]) Tryz.func56 nm56 rfl rfl rfl ?_)
 refine Calls.mono (l7Of_spec bl.pins (ck.mono (Pin.le_trans ao.le ci)) (by rw [et]; exact cl.1) cl.2) ?_
 rintro _ g7 ⟨g8, a4, ak⟩
 obtain ⟨k, au⟩ : ∃ x : Int, x = vgT (den ns ((lastN ns).r.getD 0 0).toNat) := ⟨_, rfl⟩
 rw [← au] at a4
 obtain ⟨m, av⟩ : ∃ x : Int, x = vgP (den ns ((lastN ns).r.getD 0 0).toNat) := ⟨_, rfl⟩
 rw [← av] at a4
 obtain ⟨al, aw⟩ : ∃ x : Bool, x = vgB (den ns ((lastN ns).r.getD 0 0).toNat) := ⟨_, rfl⟩
 rw [← aw] at a4
 subst a4
 refine ⟨_, rfl, ?_⟩
 have bn := bl.tr ak
 have cm := ep.ext ak
 have cn := eq.ext ak
 refine qM (.tuple #[(.agg [(vJ k), (vJ m)].toArray), (.bool al)]) ?_
 refine qD rfl (yE (v := (.agg [(vJ k), (vJ m)].toArray)) rfl rfl) (qD rfl (yE (v := (.bool al)) rfl rfl) (qI rfl (yM [(vJ 0), (vJ 0)] zr27 rfl bn.pins (fun bo g9 co eu ev bp => ?_))))
 have cp := bn.step ev bp
 have ew := cm.below bp
 have ex := cn.below bp
 have cq : Apart (some bo) (some a1) := zJ (congrArg some co) cm.lt
 have cr : Apart (some bo) (some a2) := zJ (congrArg some co) cn.lt
 have ct : w.heap.size ≤ bo := by have := bn.size; omega
 refine q0 rfl rfl rfl (yF (cs' := [(vJ k), (vJ m)]) (us := [(vJ k), (vJ m)]) (v := (.agg [(vJ k), (vJ m)].toArray)) sz27 rfl rfl rfl (yK (by rfl) (by rfl)) cp.pins eu (Nat.le_of_ble_eq_true rfl) rfl (fun ha ey ez bq hb => ?_))
 have e0 := cp.write ez bq ((zS ct))
 have e4 := ew.keptA bq cq.symm
 have e5 := ex.keptA bq cr.symm
 obtain ⟨hd, br, ad, bs, cu⟩ := ey.shut e0 ct
 have bt := e4.moreA cu cq.symm
 have bu := e5.moreA cu cr.symm
 refine qM (.bool al) ?_
 refine qe (zA (zB (zB (zC ?_))))
 refine qM (.bool ar) ?_
 refine qD rfl (xE rfl) (qM (.bool (!ar)) ?_)
 refine qbn (t := 42) rfl (fun am => ?_) (fun am => ?_)
 refine qN (zQ (v := (.bool al)) rfl) ?_
 refine qN (xE rfl) ?_
 refine qD rfl (zY (v := (.bool (!al))) rfl rfl) (qM (.bool (!al)) ?_)
 refine qbn (t := 46) rfl (fun ax => ?_) (fun ax => ?_)
 refine qN (yH (cs := [(vJ d), (vJ f)]) ag27 sz27 rfl (fun j u hj => (Pins.of_le ad.pins (Pin.le_trans ak.le br)) _ _ _ (bm _ _ (by simpa using hj)))) ?_
 refine qN (yH (cs := [(vJ k), (vJ m)]) ag27 sz27 rfl (fun j u hj => ad.pins _ _ _ (bs _ _ (by simpa using hj)))) ?_
 have hgl : GoodD d f := by rw [ap, aq]; exact qQ (by rw [← aj]; exact am)
 have hglt := hgl.top
 have hglp := hgl.pow
 have hgr : GoodD k m := by rw [au, av]; exact qQ (by rw [← aw]; exact ax)
 have hgrt := hgr.top
 have hgrp := hgr.pow
 refine q1g rfl rfl rfl rfl rfl rfl (zH (vs := [(.agg [(vJ d), (vJ f)].toArray), (.agg [(vJ k), (vJ m)].toArray)]) Tryz.func31 nm31 rfl rfl rfl ?_)
 refine Calls.mono (jC (t := d) (z := f) (s := k) (y := m) ad.pins (by omega) (by omega) (by omega) (by omega)) ?_
 rintro _ he ⟨hg, rfl, ah⟩
 refine ⟨_, rfl, ?_⟩
 have ay := ad.tr ah
 have cv := bt.ext ah
 have cw := bu.ext ah
 refine qD rfl (zY (v := (.bool (decide (scI 24 d f < scI 24 k m)))) rfl rfl) (qM (.bool (decide (scI 24 d f < scI 24 k m))) ?_)
 refine qbd (p := scI 24 d f < scI 24 k m) (t := 51) rfl (fun bv => ?_) (fun bv => ?_)
 refine qW ?_
 refine qW ?_
 refine qW ?_
 refine qD rfl (yD (v := (.bool true)) rfl rfl) (qM (.bool true) ?_)
 refine qW ?_
 refine qW ?_
 refine qW ?_
 refine qD rfl (yD (v := (.bool true)) rfl rfl) (qe (zA ?_))
 refine xY rfl rfl (zB (zC ?_))
 refine qD rfl (yG [(vJ 0), (vJ 0)] [(vJ 0), (vJ 0)] [] Tryz.underlying27 zr27 rfl pl27 rfl (fun _ h => by cases h) rfl) (qD rfl (yG [(vJ 0), (vJ 0)] [(vJ 0), (vJ 0)] [] Tryz.underlying27 zr27 rfl pl27 rfl (fun _ h => by cases h) rfl) (q0 rfl rfl rfl (yF (cs' := [(vJ 0), (vJ 0)]) (us := [(vJ 0), (vJ 0)]) (v := (.agg [(vJ 0), (vJ 0)].toArray)) sz27 rfl rfl rfl (yK (by rfl) (by rfl)) ay.pins cv (Nat.le_of_ble_eq_true rfl) rfl (fun hh e6 e7 cx hi => ?_))))
 have cy := ay.write e7 cx ((zS ac))
 have e8 := cw.keptA cx o
 refine q0 rfl rfl rfl (yF (cs' := [(vJ 0), (vJ 0)]) (us := [(vJ 0), (vJ 0)]) (v := (.agg [(vJ 0), (vJ 0)].toArray)) sz27 rfl rfl rfl (yK (by rfl) (by rfl)) cy.pins e8 (Nat.le_of_ble_eq_true rfl) rfl (fun hk e9 fa cz hl => ?_))
 have fb := cy.write fa cz ((zS ai))
 have fc := e6.keptA cz o.symm
 refine qM (.bool false) ?_
 refine qe (zA ?_)
 refine wp_ret (zO (xS (cs := [(vJ 0), (vJ 0)]) (ds := [(vJ 0), (vJ 0)]) (v := (.bool false)) rfl rfl rfl rfl rfl rfl rfl ag27 sz27 rfl (fun j u hj => by rw [Nat.zero_add]; exact fc.cell hj) (fun j u hj => by rw [Nat.zero_add]; exact e9.cell hj) ?_))
 have hsh : c = mkG [den ns ((lastN ns).l.getD 0 0).toNat] [den ns ((lastN ns).r.getD 0 0).toNat] := last_two hf (by omega) (by omega)
 have hls : lsD (d, f) (k, m) = true := decide_eq_true ((sc_cmp hgl.pow hgr.pow).1 bv)
 have hsd : sdB (den ns ((lastN ns).l.getD 0 0).toNat) (den ns ((lastN ns).r.getD 0 0).toNat) = false := by unfold sdB; rw [← aj, ← aw, ← ap, ← aq, ← au, ← av]; rw [am, ax, hls]; rfl
 obtain ⟨q, e2, e3⟩ := swc_bad hsd
 rw [hsh, q, e2, e3]
 exact ⟨_, rfl, fb⟩
 refine qN (yH (cs := [(vJ d), (vJ f)]) ag27 sz27 rfl (fun j u hj => (Pins.of_le ay.pins (Pin.le_trans (Pin.le_trans ak.le br) ah.le)) _ _ _ (bm _ _ (by simpa using hj)))) ?_
 refine q1g rfl rfl rfl rfl rfl rfl (zH (vs := [(.agg [(vJ d), (vJ f)].toArray)]) Tryz.func33 nm33 rfl rfl rfl ?_)
 refine Calls.mono (l2Good_spec (t := d) (z := f) ay.pins) ?_
 rintro _ hm ⟨hn, rfl, an⟩
 refine ⟨_, rfl, ?_⟩
 have az := ay.tr an
 have c0 := cv.ext an
 have c1 := cw.ext an
 refine qN (xE rfl) ?_
 refine qD rfl (zY (v := (.bool (!(decP (GoodD d f))))) rfl rfl) (qM (.bool (!(decP (GoodD d f)))) ?_)
 refine qbn (t := 56) rfl (fun c2 => ?_) (fun c2 => ?_)
 refine qN (yH (cs := [(vJ k), (vJ m)]) ag27 sz27 rfl (fun j u hj => (Pins.of_le az.pins (Pin.le_trans ah.le an.le)) _ _ _ (bs _ _ (by simpa using hj)))) ?_
 refine q1g rfl rfl rfl rfl rfl rfl (zH (vs := [(.agg [(vJ k), (vJ m)].toArray)]) Tryz.func33 nm33 rfl rfl rfl ?_)
 refine Calls.mono (l2Good_spec (t := k) (z := m) az.pins) ?_
 rintro _ bw ⟨fd, rfl, a0⟩
 refine ⟨_, rfl, ?_⟩
 have a5 := az.tr a0
 have c3 := c0.ext a0
 have c4 := c1.ext a0
 refine qN (xE rfl) ?_
 refine qD rfl (zY (v := (.bool (!(decP (GoodD k m))))) rfl rfl) (qe (zA ?_))
 refine xX rfl rfl (fun c5 => ?_) (fun c5 => ?_)
 refine wp_skip (zA (zB ?_))
 refine yZ (S := fun wz => Pins fd wz) (last := 5) (by kernel_rfl) rfl ?_
 have a6 : Below bw.heap.size bw bw.drew := (Below.refl _ _).drew
 have fe := a5.pins.below a6
 have a7 := a5.step fe a6
 have ff := c3.below a6
 have fg := c4.below a6
 refine dT (i := 0) rfl rfl (by kernel_rfl) (fun _ hS => yH (cs := [(vJ d), (vJ f)]) ag27 sz27 rfl (fun j u hj => (Pins.of_le hS (Pin.le_trans (Pin.le_trans (Pin.le_trans (Pin.le_trans ak.le br) ah.le) an.le) a0.le)) _ _ _ (bm _ _ (by simpa using hj)))) a7.pins ?_
 refine dT (i := 1) rfl rfl (by kernel_rfl) (fun _ hS => yH (cs := [(vJ k), (vJ m)]) ag27 sz27 rfl (fun j u hj => (Pins.of_le hS (Pin.le_trans (Pin.le_trans ah.le an.le) a0.le)) _ _ _ (bs _ _ (by simpa using hj)))) a7.pins ?_
 refine dO (i := 2) (qB (i := 2) rfl rfl rfl (zD rfl _) (yF (cs' := [(vJ d), (vJ f)]) (us := [(vJ d), (vJ f)]) (v := (.agg [(vJ d), (vJ f)].toArray)) sz27 rfl rfl rfl (yK (by rfl) (by rfl)) a7.pins ff (Nat.le_of_ble_eq_true rfl) rfl (fun ho fh fi c6 hp => ?_)))
 have bx := a7.write fi c6 ((zS ac))
 have fj := fg.keptA c6 o
 refine ⟨fun _ => bx.pins, ?_⟩
 refine dO (i := 3) (qB (i := 3) rfl rfl rfl (zD rfl _) (yF (cs' := [(vJ k), (vJ m)]) (us := [(vJ k), (vJ m)]) (v := (.agg [(vJ k), (vJ m)].toArray)) sz27 rfl rfl rfl (yK (by rfl) (by rfl)) bx.pins fj (Nat.le_of_ble_eq_true rfl) rfl (fun hq fk fl c7 hr => ?_)))
 have bz := bx.write fl c7 ((zS ai))
 have fm := fh.keptA c7 o.symm
 refine ⟨fun _ => bz.pins, ?_⟩
 refine dM 4 (.bool true) bz.pins ?_
 refine yQ (by kernel_rfl) (zA (wp_ret (zO (xS (cs := [(vJ d), (vJ f)]) (ds := [(vJ k), (vJ m)]) (v := (.bool true)) rfl rfl rfl rfl rfl rfl rfl ag27 sz27 rfl (fun j u hj => by rw [Nat.zero_add]; exact fm.cell hj) (fun j u hj => by rw [Nat.zero_add]; exact fk.cell hj) ?_))))
 have hsh : c = mkG [den ns ((lastN ns).l.getD 0 0).toNat] [den ns ((lastN ns).r.getD 0 0).toNat] := last_two hf (by omega) (by omega)
 have hls : lsD (d, f) (k, m) = false := decide_eq_false (fun g => bv ((sc_cmp hgl.pow hgr.pow).2 g))
 have hsd : sdB (den ns ((lastN ns).l.getD 0 0).toNat) (den ns ((lastN ns).r.getD 0 0).toNat) = true := by unfold sdB; rw [← aj, ← aw, ← ap, ← aq, ← au, ← av]; rw [am, ax, hls]; rfl
 obtain ⟨q, e2, e3⟩ := swc_yes hsd
 rw [hsh, q, e2, e3]
 rw [← ap, ← aq, ← au, ← av]
 exact ⟨_, rfl, bz⟩
 refine zB (zC ?_)
 refine qD rfl (yG [(vJ 0), (vJ 0)] [(vJ 0), (vJ 0)] [] Tryz.underlying27 zr27 rfl pl27 rfl (fun _ h => by cases h) rfl) (qD rfl (yG [(vJ 0), (vJ 0)] [(vJ 0), (vJ 0)] [] Tryz.underlying27 zr27 rfl pl27 rfl (fun _ h => by cases h) rfl) (q0 rfl rfl rfl (yF (cs' := [(vJ 0), (vJ 0)]) (us := [(vJ 0), (vJ 0)]) (v := (.agg [(vJ 0), (vJ 0)].toArray)) sz27 rfl rfl rfl (yK (by rfl) (by rfl)) a5.pins c3 (Nat.le_of_ble_eq_true rfl) rfl (fun hs fn fo c8 ht => ?_))))
 have fp := a5.write fo c8 ((zS ac))
 have fq := c4.keptA c8 o
 refine q0 rfl rfl rfl (yF (cs' := [(vJ 0), (vJ 0)]) (us := [(vJ 0), (vJ 0)]) (v := (.agg [(vJ 0), (vJ 0)].toArray)) sz27 rfl rfl rfl (yK (by rfl) (by rfl)) fp.pins fq (Nat.le_of_ble_eq_true rfl) rfl (fun hu fr hw fs hx => ?_))
 have ft := fn.keptA fs o.symm
 refine qM (.bool false) ?_
 refine qe (zA ?_)
 refine wp_ret (zO (xS (cs := [(vJ 0), (vJ 0)]) (ds := [(vJ 0), (vJ 0)]) (v := (.bool false)) rfl rfl rfl rfl rfl rfl rfl ag27 sz27 rfl (fun j u hj => by rw [Nat.zero_add]; exact ft.cell hj) (fun j u hj => by rw [Nat.zero_add]; exact fr.cell hj) ?_))
 have hsh : c = mkG [den ns ((lastN ns).l.getD 0 0).toNat] [den ns ((lastN ns).r.getD 0 0).toNat] := last_two hf (by omega) (by omega)
 exfalso
 exact decP_false.1 c5 hgr
 refine qW ?_
 refine qW ?_
 refine qW ?_
 refine qD rfl (yD (v := (.bool true)) rfl rfl) (qe (zA ?_))
 refine xY rfl rfl (zB (zC ?_))
 refine qD rfl (yG [(vJ 0), (vJ 0)] [(vJ 0), (vJ 0)] [] Tryz.underlying27 zr27 rfl pl27 rfl (fun _ h => by cases h) rfl) (qD rfl (yG [(vJ 0), (vJ 0)] [(vJ 0), (vJ 0)] [] Tryz.underlying27 zr27 rfl pl27 rfl (fun _ h => by cases h) rfl) (q0 rfl rfl rfl (yF (cs' := [(vJ 0), (vJ 0)]) (us := [(vJ 0), (vJ 0)]) (v := (.agg [(vJ 0), (vJ 0)].toArray)) sz27 rfl rfl rfl (yK (by rfl) (by rfl)) az.pins c0 (Nat.le_of_ble_eq_true rfl) rfl (fun hy fu fv c9 hz => ?_))))
 have fw := az.write fv c9 ((zS ac))
 have fx := c1.keptA c9 o
 refine q0 rfl rfl rfl (yF (cs' := [(vJ 0), (vJ 0)]) (us := [(vJ 0), (vJ 0)]) (v := (.agg [(vJ 0), (vJ 0)].toArray)) sz27 rfl rfl rfl (yK (by rfl) (by rfl)) fw.pins fx (Nat.le_of_ble_eq_true rfl) rfl (fun h0 fy h1 fz h2 => ?_))
 have f0 := fu.keptA fz o.symm
 refine qM (.bool false) ?_
 refine qe (zA ?_)
 refine wp_ret (zO (xS (cs := [(vJ 0), (vJ 0)]) (ds := [(vJ 0), (vJ 0)]) (v := (.bool false)) rfl rfl rfl rfl rfl rfl rfl ag27 sz27 rfl (fun j u hj => by rw [Nat.zero_add]; exact f0.cell hj) (fun j u hj => by rw [Nat.zero_add]; exact fy.cell hj) ?_))
 have hsh : c = mkG [den ns ((lastN ns).l.getD 0 0).toNat] [den ns ((lastN ns).r.getD 0 0).toNat] := last_two hf (by omega) (by omega)
 exfalso
 exact decP_false.1 c2 hgl
 refine qW ?_
 refine qW ?_
 refine qW ?_
 refine qD rfl (yD (v := (.bool true)) rfl rfl) (qM (.bool true) ?_)
 refine qW ?_
 refine qW ?_
 refine qW ?_
 refine qD rfl (yD (v := (.bool true)) rfl rfl) (qM (.bool true) ?_)
 refine qW ?_
 refine qW ?_
 refine qW ?_
 refine qD rfl (yD (v := (.bool true)) rfl rfl) (qe (zA ?_))
 refine xY rfl rfl (zB (zC ?_))
 refine qD rfl (yG [(vJ 0), (vJ 0)] [(vJ 0), (vJ 0)] [] Tryz.underlying27 zr27 rfl pl27 rfl (fun _ h => by cases h) rfl) (qD rfl (yG [(vJ 0), (vJ 0)] [(vJ 0), (vJ 0)] [] Tryz.underlying27 zr27 rfl pl27 rfl (fun _ h => by cases h) rfl) (q0 rfl rfl rfl (yF (cs' := [(vJ 0), (vJ 0)]) (us := [(vJ 0), (vJ 0)]) (v := (.agg [(vJ 0), (vJ 0)].toArray)) sz27 rfl rfl rfl (yK (by rfl) (by rfl)) ad.pins bt (Nat.le_of_ble_eq_true rfl) rfl (fun h3 f1 f2 da h4 => ?_))))
 have db := ad.write f2 da ((zS ac))
 have f3 := bu.keptA da o
 refine q0 rfl rfl rfl (yF (cs' := [(vJ 0), (vJ 0)]) (us := [(vJ 0), (vJ 0)]) (v := (.agg [(vJ 0), (vJ 0)].toArray)) sz27 rfl rfl rfl (yK (by rfl) (by rfl)) db.pins f3 (Nat.le_of_ble_eq_true rfl) rfl (fun h5 f4 f5 dc h6 => ?_))
 have f6 := db.write f5 dc ((zS ai))
 have f7 := f1.keptA dc o.symm
 refine qM (.bool false) ?_
 refine qe (zA ?_)
 refine wp_ret (zO (xS (cs := [(vJ 0), (vJ 0)]) (ds := [(vJ 0), (vJ 0)]) (v := (.bool false)) rfl rfl rfl rfl rfl rfl rfl ag27 sz27 rfl (fun j u hj => by rw [Nat.zero_add]; exact f7.cell hj) (fun j u hj => by rw [Nat.zero_add]; exact f4.cell hj) ?_))
 have hsh : c = mkG [den ns ((lastN ns).l.getD 0 0).toNat] [den ns ((lastN ns).r.getD 0 0).toNat] := last_two hf (by omega) (by omega)
 have hsd : sdB (den ns ((lastN ns).l.getD 0 0).toNat) (den ns ((lastN ns).r.getD 0 0).toNat) = false := by unfold sdB; rw [← aj, ← aw, am, ax]; rfl
 obtain ⟨q, e2, e3⟩ := swc_bad hsd
 rw [hsh, q, e2, e3]
 exact ⟨_, rfl, f6⟩
 refine qW ?_
 refine qW ?_
 refine qD rfl (yD (v := (.bool true)) rfl rfl) (qM (.bool true) ?_)
 refine qW ?_
 refine qW ?_
 refine qW ?_
 refine qD rfl (yD (v := (.bool true)) rfl rfl) (qM (.bool true) ?_)
 refine qW ?_
 refine qW ?_
 refine qW ?_
 refine qD rfl (yD (v := (.bool true)) rfl rfl) (qM (.bool true) ?_)
 refine qW ?_
 refine qW ?_
 refine qW ?_
 refine qD rfl (yD (v := (.bool true)) rfl rfl) (qe (zA ?_))
 refine xY rfl rfl (zB (zC ?_))
 refine qD rfl (yG [(vJ 0), (vJ 0)] [(vJ 0), (vJ 0)] [] Tryz.underlying27 zr27 rfl pl27 rfl (fun _ h => by cases h) rfl) (qD rfl (yG [(vJ 0), (vJ 0)] [(vJ 0), (vJ 0)] [] Tryz.underlying27 zr27 rfl pl27 rfl (fun _ h => by cases h) rfl) (q0 rfl rfl rfl (yF (cs' := [(vJ 0), (vJ 0)]) (us := [(vJ 0), (vJ 0)]) (v := (.agg [(vJ 0), (vJ 0)].toArray)) sz27 rfl rfl rfl (yK (by rfl) (by rfl)) ad.pins bt (Nat.le_of_ble_eq_true rfl) rfl (fun h7 f8 f9 dd h8 => ?_))))
 have de := ad.write f9 dd ((zS ac))
 have ga := bu.keptA dd o
 refine q0 rfl rfl rfl (yF (cs' := [(vJ 0), (vJ 0)]) (us := [(vJ 0), (vJ 0)]) (v := (.agg [(vJ 0), (vJ 0)].toArray)) sz27 rfl rfl rfl (yK (by rfl) (by rfl)) de.pins ga (Nat.le_of_ble_eq_true rfl) rfl (fun ia gb gc df ib => ?_))
 have gd := de.write gc df ((zS ai))
 have ge := f8.keptA df o.symm
 refine qM (.bool false) ?_
 refine qe (zA ?_)
 refine wp_ret (zO (xS (cs := [(vJ 0), (vJ 0)]) (ds := [(vJ 0), (vJ 0)]) (v := (.bool false)) rfl rfl rfl rfl rfl rfl rfl ag27 sz27 rfl (fun j u hj => by rw [Nat.zero_add]; exact ge.cell hj) (fun j u hj => by rw [Nat.zero_add]; exact gb.cell hj) ?_))
 have hsh : c = mkG [den ns ((lastN ns).l.getD 0 0).toNat] [den ns ((lastN ns).r.getD 0 0).toNat] := last_two hf (by omega) (by omega)
 have hsd : sdB (den ns ((lastN ns).l.getD 0 0).toNat) (den ns ((lastN ns).r.getD 0 0).toNat) = false := by unfold sdB; rw [← aj, am]; rfl
 obtain ⟨q, e2, e3⟩ := swc_bad hsd
 rw [hsh, q, e2, e3]
 exact ⟨_, rfl, gd⟩

end SX2
end Go.Proofs.YtakkjmlnmcemaaaGreatDoor

set_option maxRecDepth 20000
set_option maxHeartbeats 2000000
namespace Go.Proofs.YtakkjmlnmcemaaaGreatDoor
namespace SX4
open Go.RowKit Go.GL Go.Proofs
open B1 C1 D1 E1 K1 PO1 PL1 NU1 NU2 NU3 NB4 VA1 VA2 VA3 SW1 OR1 C61 C62 C63 VB1 VB2 VB3 VB4 N1 SX2





theorem pl27 : (Tryz.prog.underlying 27).bind (placesD Tryz.prog) = some [(0, 1), (1, 1)] := by kernel_rfl



theorem sSwitchOf_spec {w : World} {G : Pin} {v : Value} {fs : List Nd} (hP : Pins G w) (hv : RSl eNode G v fs) :
  Calls Tryz.prog 24 [(.agg [v].toArray)].toArray w fun e w' => ∃ G', e = .returned (.tuple #[(.agg [.int .i64 (fswL fs).1, .int .i64 (fswL fs).2].toArray), (.agg [.int .i64 (fswR fs).1, .int .i64 (fswR fs).2].toArray), .bool (fswB fs)]) ∧ Ext noS G w G' w' := by
 refine zV (n := 16) Tryz.func24 Tryz.ntmps24 rfl rfl ?_
 have f : Ext noS G w G w := Ext.refl hP
 refine zB (zC ?_)
 refine qI rfl (xG [v] (v := (.agg [v].toArray)) rfl rfl f.pins (fun b1 w2 bp ap aq ar => ?_))
 have au := f.step aq ar
 have av : w.heap.size ≤ b1 := by have := f.size; omega
 obtain ⟨G9, s, g, t, br⟩ := ap.shut au av
 refine qI rfl (yM [(vJ 0), (vJ 0)] zr27 rfl g.pins (fun x bs bt y aw ax => ?_))
 have i := g.step aw ax
 have z : w.heap.size ≤ x := by have := g.size; omega
 refine qI rfl (yM [(vJ 0), (vJ 0)] zr27 rfl i.pins (fun aa bu ay az a0 ab => ?_))
 have k := i.step a0 ab
 have a1 := y.below ab
 have d : Apart (some aa) (some x) := zJ (congrArg some ay) y.lt
 have ac : w.heap.size ≤ aa := by have := i.size; omega
 refine qM (.bool false) ?_
 refine qe (zA (zB (zB (zC ?_))))
 refine qD rfl (yH (cs := [v]) ag32 sz32 rfl (fun j u hj => k.pins _ _ _ (t _ _ (by simpa using hj)))) (qI rfl (zH (vs := [(.agg [v].toArray)]) Tryz.func35 nm35 rfl rfl rfl ?_))
 refine Calls.mono (l3Good_spec k.pins (hv.mono s)) ?_
 rintro _ bv ⟨bw, rfl, b⟩
 refine ⟨_, rfl, ?_⟩
 have c := k.tr b
 have ad := a1.ext b
 have ae := az.ext b
 refine qD rfl (xE rfl) (qe (zA ?_))
 refine xX rfl rfl (fun l => ?_) (fun l => ?_)
 refine wp_skip (zA (zB (zC ?_)))
 have hgb : goodB fs = true := (good_eq fs).symm.trans l
 have hga : GoodP fs := goodB_true.1 hgb
 have hla := hga.lo
 have hha := hga.hi
 refine qD rfl (yH (cs := [v]) ag32 sz32 rfl (fun j u hj => (Pins.of_le c.pins b.le) _ _ _ (t _ _ (by simpa using hj)))) (qI rfl (zH (vs := [(.agg [v].toArray)]) Tryz.func37 nm37 rfl rfl rfl ?_))
 refine Calls.mono (l6Canon_spec c.pins (hv.mono (Pin.le_trans s b.le)) (good_form hga) ⟨by omega, by omega⟩) ?_
 rintro _ bx ⟨a, a2, bz, rfl, af, a3, a4, a5, m⟩
 refine ⟨_, rfl, ?_⟩
 have ag := c.tr m
 have a6 := ad.ext m
 have a7 := ae.ext m
 refine qI rfl (zH (vs := [(.agg [a2].toArray)]) Tryz.func36 nm36 rfl rfl rfl ?_)
 refine Calls.mono (l8SwitchOf_spec ag.pins a5 a4 af) ?_
 rintro _ b0 ⟨b2, rfl, o⟩
 refine ⟨_, rfl, ?_⟩
 have ah := ag.tr o
 have a8 := a6.ext o
 have a9 := a7.ext o
 refine qD rfl (yE (v := (.agg [(vJ ((swL (a)).1)), (vJ ((swL (a)).2))].toArray)) rfl rfl) (qD rfl (yE (v := (.agg [(vJ ((swR (a)).1)), (vJ ((swR (a)).2))].toArray)) rfl rfl) (qD rfl (yE (v := (.bool (swcB (a)))) rfl rfl) (q0 rfl rfl rfl (yF (cs' := [(vJ ((swL (a)).1)), (vJ ((swL (a)).2))]) (us := [(vJ ((swL (a)).1)), (vJ ((swL (a)).2))]) (v := (.agg [(vJ ((swL (a)).1)), (vJ ((swL (a)).2))].toArray)) sz27 rfl rfl rfl (yK (by rfl) (by rfl)) ah.pins a8 (Nat.le_of_ble_eq_true rfl) rfl (fun b3 ba bb ai b4 => ?_)))))
 have aj := ah.write bb ai ((zS z))
 have bc := a9.keptA ai d
 refine q0 rfl rfl rfl (yF (cs' := [(vJ ((swR (a)).1)), (vJ ((swR (a)).2))]) (us := [(vJ ((swR (a)).1)), (vJ ((swR (a)).2))]) (v := (.agg [(vJ ((swR (a)).1)), (vJ ((swR (a)).2))].toArray)) sz27 rfl rfl rfl (yK (by rfl) (by rfl)) aj.pins bc (Nat.le_of_ble_eq_true rfl) rfl (fun b5 bd be ak b6 => ?_))
 have bf := aj.write be ak ((zS ac))
 have bg := ba.keptA ak d.symm
 refine qM (.bool (swcB (a))) ?_
 refine qe (zA ?_)
 refine wp_ret (zO (xS (cs := [(vJ ((swL (a)).1)), (vJ ((swL (a)).2))]) (ds := [(vJ ((swR (a)).1)), (vJ ((swR (a)).2))]) (v := (.bool (swcB (a)))) rfl rfl rfl rfl rfl rfl rfl ag27 sz27 rfl (fun j u hj => by rw [Nat.zero_add]; exact bg.cell hj) (fun j u hj => by rw [Nat.zero_add]; exact bd.cell hj) ?_))
 obtain ⟨p, q, r⟩ := fsw_good hgb af a3
 rw [p, q, r]
 exact ⟨_, rfl, bf⟩
 refine zB (zC ?_)
 refine qD rfl (yG [(vJ 0), (vJ 0)] [(vJ 0), (vJ 0)] [] Tryz.underlying27 zr27 rfl pl27 rfl (fun _ h => by cases h) rfl) (qD rfl (yG [(vJ 0), (vJ 0)] [(vJ 0), (vJ 0)] [] Tryz.underlying27 zr27 rfl pl27 rfl (fun _ h => by cases h) rfl) (q0 rfl rfl rfl (yF (cs' := [(vJ 0), (vJ 0)]) (us := [(vJ 0), (vJ 0)]) (v := (.agg [(vJ 0), (vJ 0)].toArray)) sz27 rfl rfl rfl (yK (by rfl) (by rfl)) c.pins ad (Nat.le_of_ble_eq_true rfl) rfl (fun b7 bh bi al b8 => ?_))))
 have am := c.write bi al ((zS z))
 have bj := ae.keptA al d
 refine q0 rfl rfl rfl (yF (cs' := [(vJ 0), (vJ 0)]) (us := [(vJ 0), (vJ 0)]) (v := (.agg [(vJ 0), (vJ 0)].toArray)) sz27 rfl rfl rfl (yK (by rfl) (by rfl)) am.pins bj (Nat.le_of_ble_eq_true rfl) rfl (fun b9 bk bl an ca => ?_))
 have bm := am.write bl an ((zS ac))
 have bn := bh.keptA an d.symm
 refine qM (.bool false) ?_
 refine qe (zA ?_)
 refine wp_ret (zO (xS (cs := [(vJ 0), (vJ 0)]) (ds := [(vJ 0), (vJ 0)]) (v := (.bool false)) rfl rfl rfl rfl rfl rfl rfl ag27 sz27 rfl (fun j u hj => by rw [Nat.zero_add]; exact bn.cell hj) (fun j u hj => by rw [Nat.zero_add]; exact bk.cell hj) ?_))
 obtain ⟨p, q, r⟩ := fsw_bad ((good_eq fs).symm.trans l)
 rw [p, q, r]
 exact ⟨_, rfl, bm⟩

end SX4
end Go.Proofs.YtakkjmlnmcemaaaGreatDoor

set_option maxRecDepth 20000
set_option maxHeartbeats 2000000
namespace Go.Proofs.YtakkjmlnmcemaaaGreatDoor
namespace LXS
open Go.RowKit Go.GL Go.Proofs
open L1 SX3 SX4
















theorem eqDyadic_spec {w : World} {G : Pin} {t z : Int} (hP : Pins G w) :
  Calls Tryz.prog 13 [(.agg [(.int .i64 t), (.int .i64 z)].toArray), (.agg [(.int .i64 t), (.int .i64 z)].toArray)].toArray w fun e w' => ∃ G', e = .returned (.bool true) ∧ Ext noS G w G' w' := by
 refine zV (n := 15) Tryz.func13 Tryz.ntmps13 rfl rfl ?_
 have b : Ext noS G w G w := Ext.refl hP
 refine zB (zC ?_)
 refine qI rfl (xG [(.int .i64 t), (.int .i64 z)] (v := (.agg [(.int .i64 t), (.int .i64 z)].toArray)) rfl rfl b.pins (fun j w2 ae l m o => ?_))
 have q := b.step m o
 have r : w.heap.size ≤ j := by have := b.size; omega
 obtain ⟨G9, ag, c, d, ah⟩ := l.shut q r
 refine qI rfl (xG [(.int .i64 t), (.int .i64 z)] (v := (.agg [(.int .i64 t), (.int .i64 z)].toArray)) rfl rfl c.pins (fun s ai aj x y aa => ?_))
 have ab := c.step y aa
 have ac : w.heap.size ≤ s := by have := c.size; omega
 obtain ⟨ak, f, a, g, al⟩ := x.shut ab ac
 refine qM (.bool false) ?_
 refine qe (zA (zB (zB (zC ?_))))
 refine qD rfl (zK (k := 0) rfl Tryz.underlying27 rfl nz3 rfl) (qD rfl (zL (u := (.int .i64 t)) ag3 rfl ((Pins.of_le a.pins f) _ _ _ (d 0 _ rfl))) (qD rfl (zK (k := 0) rfl Tryz.underlying27 rfl nz3 rfl) (qD rfl (zL (u := (.int .i64 t)) ag3 rfl (a.pins _ _ _ (g 0 _ rfl))) (qD rfl (jG rfl rfl) (qe (zA ?_))))))
 refine yA (p := (t : Int) ≠ t) rfl rfl (fun h => ?_) (fun h => ?_)
 refine zB (zC ?_)
 refine qM (.bool false) ?_
 refine qe (zA ?_)
 exact wp_ret (zO (zP (v := (.bool false)) rfl rfl rfl (absurd rfl h)))
 refine wp_skip (zA (zB (zB (zC ?_))))
 refine qD rfl (zK (k := 1) rfl Tryz.underlying27 rfl nz3 rfl) (qD rfl (zL (u := (.int .i64 z)) ag3 rfl ((Pins.of_le a.pins f) _ _ _ (d 1 _ rfl))) (qD rfl (zK (k := 1) rfl Tryz.underlying27 rfl nz3 rfl) (qD rfl (zL (u := (.int .i64 z)) ag3 rfl (a.pins _ _ _ (g 1 _ rfl))) (qD rfl (jG rfl rfl) (qe (zA ?_))))))
 refine yA (p := (z : Int) ≠ z) rfl rfl (fun i => ?_) (fun i => ?_)
 refine zB (zC ?_)
 refine qM (.bool false) ?_
 refine qe (zA ?_)
 exact wp_ret (zO (zP (v := (.bool false)) rfl rfl rfl (absurd rfl i)))
 refine wp_skip (zA (zB (zC ?_)))
 refine qM (.bool true) ?_
 refine qe (zA ?_)
 exact wp_ret (zO (zP (v := (.bool true)) rfl rfl rfl (⟨_, rfl, a⟩)))

theorem law {w : World} {G : Pin} {v : Value} {ns : List Nd} (hP : Pins G w) (hv : RSl eNode G v ns) :
  Calls Tryz.prog 8 [(.agg [v].toArray)].toArray w fun e w' => ∃ G', e = .returned (.bool true) ∧ Ext noS G w G' w' := by
 refine zV (n := 51) Tryz.func8 Tryz.ntmps8 rfl rfl ?_
 have af : Ext noS G w G w := Ext.refl hP
 refine zB (zC ?_)
 refine qI rfl (xG [v] (v := (.agg [v].toArray)) rfl rfl af.pins (fun b1 w2 db bn bo bp => ?_))
 have bq := af.step bo bp
 have br : w.heap.size ≤ b1 := by have := af.size; omega
 obtain ⟨G9, x, ag, y, dd⟩ := bn.shut bq br
 refine qM (.bool false) ?_
 refine qe (zA (zB (zC ?_)))
 refine qM (vJ 1048576) ?_
 refine qe (zA (zB (zC ?_)))
 refine qD rfl (yH (cs := [v]) ag24 sz24 rfl (fun j u hj => ag.pins _ _ _ (y _ _ (by simpa using hj)))) (qM (vJ 1048576) ?_)
 refine qI rfl (zH (vs := [(.agg [v].toArray), (vJ 1048576)]) Tryz.func9 nm9 rfl rfl rfl ?_)
 refine Calls.mono (szForm_spec ag.pins (hv.mono x) (by omega)) ?_
 rintro _ de ⟨ah, df, rfl, dg, a⟩
 refine ⟨_, rfl, ?_⟩
 have aa := ag.tr a
 refine qM (vJ ah) ?_
 refine qe (zA (zB (zB (zC ?_))))
 refine qM (vJ ah) ?_
 refine qD rfl (yV rfl rfl) (qe (zA ?_))
 refine yA (p := (ah : Int) < 0) rfl rfl (fun bs => ?_) (fun bs => ?_)
 refine zB (zC ?_)
 refine qM (.bool true) ?_
 refine qe (zA ?_)
 exact wp_ret (zO (zP (v := (.bool true)) rfl rfl rfl (⟨_, rfl, aa⟩)))
 refine wp_skip (zA (zB (zC ?_)))
 have hsm : Small ns := small_of (by omega)
 refine qD rfl (yH (cs := [v]) ag24 sz24 rfl (fun j u hj => (Pins.of_le aa.pins a.le) _ _ _ (y _ _ (by simpa using hj)))) (qI rfl (zH (vs := [(.agg [v].toArray)]) Tryz.func11 nm11 rfl rfl rfl ?_))
 refine Calls.mono (toForm_spec aa.pins (hv.mono (Pin.le_trans x a.le)) hsm) ?_
 rintro _ dh ⟨bt, di, rfl, bu, l⟩
 refine ⟨_, rfl, ?_⟩
 have aw := aa.tr l
 refine qI rfl (zH (vs := [(.agg [bt].toArray)]) Tryz.func24 nm24 rfl rfl rfl ?_)
 refine Calls.mono (sSwitchOf_spec aw.pins bu) ?_
 rintro _ dj ⟨dk, rfl, m⟩
 refine ⟨_, rfl, ?_⟩
 have ai := aw.tr m
 refine qM (.tuple #[(.agg [(vJ ((fswL ns).1)), (vJ ((fswL ns).2))].toArray), (.agg [(vJ ((fswR ns).1)), (vJ ((fswR ns).2))].toArray), (.bool (fswB ns))]) ?_
 refine qD rfl (yE (v := (.agg [(vJ ((fswL ns).1)), (vJ ((fswL ns).2))].toArray)) rfl rfl) (qD rfl (yE (v := (.agg [(vJ ((fswR ns).1)), (vJ ((fswR ns).2))].toArray)) rfl rfl) (qD rfl (yE (v := (.bool (fswB ns))) rfl rfl) (qI rfl (yM [(vJ 0), (vJ 0)] zr27 rfl ai.pins (fun ax dl dm ay bv bw => ?_)))))
 have aj := ai.step bv bw
 have az : w.heap.size ≤ ax := by have := ai.size; omega
 refine qI rfl (yM [(vJ 0), (vJ 0)] zr27 rfl aj.pins (fun a0 dn bx bz b0 a1 => ?_))
 have a2 := aj.step b0 a1
 have b2 := ay.below a1
 have a3 : Apart (some a0) (some ax) := zJ (congrArg some bx) ay.lt
 have a4 : w.heap.size ≤ a0 := by have := aj.size; omega
 refine q0 rfl rfl rfl (yF (cs' := [(vJ ((fswL ns).1)), (vJ ((fswL ns).2))]) (us := [(vJ ((fswL ns).1)), (vJ ((fswL ns).2))]) (v := (.agg [(vJ ((fswL ns).1)), (vJ ((fswL ns).2))].toArray)) sz27 rfl rfl rfl (yK (by rfl) (by rfl)) a2.pins b2 (Nat.le_of_ble_eq_true rfl) rfl (fun dp b3 b4 a5 dq => ?_))
 have b5 := a2.write b4 a5 ((zS az))
 have b6 := bz.keptA a5 a3
 obtain ⟨dr, ab, a6, b7, b8⟩ := b3.shut b5 az
 have b9 := b6.moreA b8 a3
 refine q0 rfl rfl rfl (yF (cs' := [(vJ ((fswR ns).1)), (vJ ((fswR ns).2))]) (us := [(vJ ((fswR ns).1)), (vJ ((fswR ns).2))]) (v := (.agg [(vJ ((fswR ns).1)), (vJ ((fswR ns).2))].toArray)) sz27 rfl rfl rfl (yK (by rfl) (by rfl)) a6.pins b9 (Nat.le_of_ble_eq_true rfl) rfl (fun ds ca cb cc dt => ?_))
 have cd := a6.write cb cc ((zS a4))
 obtain ⟨du, o, ak, ce, dv⟩ := ca.shut cd a4
 refine qM (.bool (fswB ns)) ?_
 refine qe (zA (zB (zC ?_)))
 refine qD rfl (yH (cs := [v]) ag24 sz24 rfl (fun j u hj => (Pins.of_le ak.pins (Pin.le_trans (Pin.le_trans (Pin.le_trans (Pin.le_trans a.le l.le) m.le) ab) o)) _ _ _ (y _ _ (by simpa using hj)))) (qI rfl (zH (vs := [(.agg [v].toArray)]) Tryz.func11 nm11 rfl rfl rfl ?_))
 refine Calls.mono (toForm_spec ak.pins (hv.mono (Pin.le_trans (Pin.le_trans (Pin.le_trans (Pin.le_trans (Pin.le_trans x a.le) l.le) m.le) ab) o)) hsm) ?_
 rintro _ dw ⟨b, dx, rfl, al, q⟩
 refine ⟨_, rfl, ?_⟩
 have am := ak.tr q
 refine qI rfl (yM [(.slice none 0 0)] zr32 rfl am.pins (fun cf dy dz cg ch ci => ?_))
 have a7 := am.step ch ci
 have a8 : w.heap.size ≤ cf := by have := am.size; omega
 refine q0 rfl rfl rfl (yF (cs' := [b]) (us := [b]) (v := (.agg [b].toArray)) sz32 rfl rfl rfl (xN al.one) a7.pins cg (Nat.le_of_ble_eq_true rfl) rfl (fun d0 cj ck cl d1 => ?_))
 have cm := a7.write ck cl ((zS a8))
 obtain ⟨d2, g, an, a9, d3⟩ := cj.shut cm a8
 refine qe (zA (zB (zC ?_)))
 refine qD rfl (yH (cs := [b]) ag32 sz32 rfl (fun j u hj => an.pins _ _ _ (a9 _ _ (by simpa using hj)))) (qI rfl (zH (vs := [(.agg [b].toArray)]) Tryz.func25 nm25 rfl rfl rfl ?_))
 refine Calls.mono (iSwitchOf_spec an.pins (al.mono g)) ?_
 rintro _ d4 ⟨d5, rfl, c⟩
 refine ⟨_, rfl, ?_⟩
 have ao := an.tr c
 refine qM (.tuple #[(.agg [(vJ ((fswL ns).1)), (vJ ((fswL ns).2))].toArray), (.agg [(vJ ((fswR ns).1)), (vJ ((fswR ns).2))].toArray), (.bool (fswB ns))]) ?_
 refine qD rfl (yE (v := (.agg [(vJ ((fswL ns).1)), (vJ ((fswL ns).2))].toArray)) rfl rfl) (qD rfl (yE (v := (.agg [(vJ ((fswR ns).1)), (vJ ((fswR ns).2))].toArray)) rfl rfl) (qD rfl (yE (v := (.bool (fswB ns))) rfl rfl) (qI rfl (yM [(vJ 0), (vJ 0)] zr27 rfl ao.pins (fun ba d6 d7 bb cn co => ?_)))))
 have ap := ao.step cn co
 have bc : w.heap.size ≤ ba := by have := ao.size; omega
 refine qI rfl (yM [(vJ 0), (vJ 0)] zr27 rfl ap.pins (fun bd d8 cp cq cr be => ?_))
 have bf := ap.step cr be
 have ct := bb.below be
 have bg : Apart (some bd) (some ba) := zJ (congrArg some cp) bb.lt
 have bh : w.heap.size ≤ bd := by have := ap.size; omega
 refine q0 rfl rfl rfl (yF (cs' := [(vJ ((fswL ns).1)), (vJ ((fswL ns).2))]) (us := [(vJ ((fswL ns).1)), (vJ ((fswL ns).2))]) (v := (.agg [(vJ ((fswL ns).1)), (vJ ((fswL ns).2))].toArray)) sz27 rfl rfl rfl (yK (by rfl) (by rfl)) bf.pins ct (Nat.le_of_ble_eq_true rfl) rfl (fun d9 cu cv bi ea => ?_))
 have cw := bf.write cv bi ((zS bc))
 have cx := cq.keptA bi bg
 obtain ⟨eb, k, bj, cy, cz⟩ := cu.shut cw bc
 have c0 := cx.moreA cz bg
 refine q0 rfl rfl rfl (yF (cs' := [(vJ ((fswR ns).1)), (vJ ((fswR ns).2))]) (us := [(vJ ((fswR ns).1)), (vJ ((fswR ns).2))]) (v := (.agg [(vJ ((fswR ns).1)), (vJ ((fswR ns).2))].toArray)) sz27 rfl rfl rfl (yK (by rfl) (by rfl)) bj.pins c0 (Nat.le_of_ble_eq_true rfl) rfl (fun ec c1 c2 c3 ed => ?_))
 have c4 := bj.write c2 c3 ((zS bh))
 obtain ⟨ee, d, ac, c5, ef⟩ := c1.shut c4 bh
 refine qM (.bool (fswB ns)) ?_
 refine qe (zA (zB (zB (zC ?_))))
 refine qD rfl (yH (cs := [(vJ ((fswL ns).1)), (vJ ((fswL ns).2))]) ag27 sz27 rfl (fun j u hj => (Pins.of_le ac.pins d) _ _ _ (cy _ _ (by simpa using hj)))) (qD rfl (yH (cs := [(vJ ((fswL ns).1)), (vJ ((fswL ns).2))]) ag27 sz27 rfl (fun j u hj => (Pins.of_le ac.pins (Pin.le_trans (Pin.le_trans (Pin.le_trans (Pin.le_trans (Pin.le_trans o q.le) g) c.le) k) d)) _ _ _ (b7 _ _ (by simpa using hj)))) (qI rfl (zH (vs := [(.agg [(vJ ((fswL ns).1)), (vJ ((fswL ns).2))].toArray), (.agg [(vJ ((fswL ns).1)), (vJ ((fswL ns).2))].toArray)]) Tryz.func13 nm13 rfl rfl rfl ?_)))
 refine Calls.mono (eqDyadic_spec (t := (fswL ns).1) (z := (fswL ns).2) ac.pins) ?_
 rintro _ eg ⟨eh, rfl, f⟩
 refine ⟨_, rfl, ?_⟩
 have ad := ac.tr f
 refine qD rfl (xE rfl) (qM (.bool false) ?_)
 refine qN (yH (cs := [(vJ ((fswR ns).1)), (vJ ((fswR ns).2))]) ag27 sz27 rfl (fun j u hj => (Pins.of_le ad.pins f.le) _ _ _ (c5 _ _ (by simpa using hj)))) ?_
 refine qN (yH (cs := [(vJ ((fswR ns).1)), (vJ ((fswR ns).2))]) ag27 sz27 rfl (fun j u hj => (Pins.of_le ad.pins (Pin.le_trans (Pin.le_trans (Pin.le_trans (Pin.le_trans (Pin.le_trans q.le g) c.le) k) d) f.le)) _ _ _ (ce _ _ (by simpa using hj)))) ?_
 refine q1g rfl rfl rfl rfl rfl rfl (zH (vs := [(.agg [(vJ ((fswR ns).1)), (vJ ((fswR ns).2))].toArray), (.agg [(vJ ((fswR ns).1)), (vJ ((fswR ns).2))].toArray)]) Tryz.func13 nm13 rfl rfl rfl ?_)
 refine Calls.mono (eqDyadic_spec (t := (fswR ns).1) (z := (fswR ns).2) ad.pins) ?_
 rintro _ aq ⟨c6, rfl, r⟩
 refine ⟨_, rfl, ?_⟩
 have bk := ad.tr r
 refine qN (xE rfl) ?_
 refine qD rfl (zY (v := (.bool false)) rfl rfl) (qM (.bool false) ?_)
 refine qN (zQ (v := (.bool (fswB ns))) rfl) ?_
 refine qN (zQ (v := (.bool (fswB ns))) rfl) ?_
 refine qN (r_neqB_same Tryz.underlying4 rfl rfl) ?_
 refine qD rfl (zY (v := (.bool false)) rfl rfl) (qe (zA ?_))
 refine qA rfl rfl (wp_skip (zA (zB (zB ?_))))
 refine yZ (S := fun wz => Pins c6 wz) (last := 5) (by kernel_rfl) rfl ?_
 have bl : Below aq.heap.size aq aq.drew := (Below.refl _ _).drew
 have c7 := bk.pins.below bl
 have ae := bk.step c7 bl
 refine dT (i := 0) rfl rfl (by kernel_rfl) (fun _ hS => yH (cs := [b]) ag32 sz32 rfl (fun j u hj => (Pins.of_le hS (Pin.le_trans (Pin.le_trans (Pin.le_trans (Pin.le_trans c.le k) d) f.le) r.le)) _ _ _ (a9 _ _ (by simpa using hj)))) ae.pins ?_
 refine dT (i := 1) rfl rfl (by kernel_rfl) (fun _ hS => yH (cs := [v]) ag24 sz24 rfl (fun j u hj => (Pins.of_le hS (Pin.le_trans (Pin.le_trans (Pin.le_trans (Pin.le_trans (Pin.le_trans (Pin.le_trans (Pin.le_trans (Pin.le_trans (Pin.le_trans (Pin.le_trans (Pin.le_trans a.le l.le) m.le) ab) o) q.le) g) c.le) k) d) f.le) r.le)) _ _ _ (y _ _ (by simpa using hj)))) ae.pins ?_
 refine dO (i := 2) (zU (i := 2) rfl rfl rfl (zD rfl _) (zH (vs := [(.agg [v].toArray)]) Tryz.func11 nm11 rfl rfl rfl ?_))
 refine Calls.mono (toForm_spec ae.pins (hv.mono (Pin.le_trans (Pin.le_trans (Pin.le_trans (Pin.le_trans (Pin.le_trans (Pin.le_trans (Pin.le_trans (Pin.le_trans (Pin.le_trans (Pin.le_trans (Pin.le_trans (Pin.le_trans x a.le) l.le) m.le) ab) o) q.le) g) c.le) k) d) f.le) r.le)) hsm) ?_
 rintro _ ei ⟨c8, ej, rfl, c9, s⟩
 refine ⟨_, rfl, ?_⟩
 have ar := ae.tr s
 refine ⟨fun _ => (Pins.of_le ar.pins s.le), ?_⟩
 refine dO (i := 3) (zU (i := 3) rfl rfl rfl (zD rfl _) (zH (vs := [(.agg [b].toArray), (.agg [c8].toArray)]) Tryz.func14 nm14 rfl rfl rfl ?_))
 refine Calls.mono (eqForm_spec ar.pins (al.mono (Pin.le_trans (Pin.le_trans (Pin.le_trans (Pin.le_trans (Pin.le_trans (Pin.le_trans g c.le) k) d) f.le) r.le) s.le)) c9) ?_
 rintro _ ek ⟨el, rfl, au⟩
 refine ⟨_, rfl, ?_⟩
 have av := ar.tr au
 refine ⟨fun _ => (Pins.of_le av.pins (Pin.le_trans s.le au.le)), ?_⟩
 refine dT (i := 4) rfl rfl (by kernel_rfl) (fun _ _ => xE rfl) (Pins.of_le av.pins (Pin.le_trans s.le au.le)) ?_
 refine yQ (by kernel_rfl) (zA (xX rfl rfl (fun _ => ?_) (fun h => absurd rfl (of_decide_eq_false h))))
 refine wp_skip (zA (zB (zC ?_)))
 refine qM (.bool true) ?_
 refine qe (zA ?_)
 exact wp_ret (zO (zP (v := (.bool true)) rfl rfl rfl (⟨_, rfl, av⟩)))

end LXS
end Go.Proofs.YtakkjmlnmcemaaaGreatDoor
