/- Texts of this claim in one file: C61, C62, C63, AS1, Shelf, K1, PO1, PL1. -/
import Derived.Test.YtpknebplcmgnkaaGreatDoorAf5
import Derived.Test.YtpknebplcmgnkaaGreatDoorChecked
import Derived.Shelf.Sort.Plain
import Derived.Ground.Names2Prog
import Derived.Shelf.Slices.CompactI
import Derived.Shelf.Slices.In.SortNone
import Derived.Ground.SlsfProg
import Derived.Shelf.SlSortCmp.Whole1
import Derived.Shelf.SlSortCmp.NoneTotal
import Derived.Shelf.SlSortCmp.WholeK
import Derived.Test.YtpknebplcmgnkaaGreatDoorProg
set_option maxRecDepth 20000
set_option maxHeartbeats 2000000
namespace Go.Proofs.YtpknebplcmgnkaaGreatDoor
namespace C61
open Go.RowKit Go.GL Go.Proofs
open Go.Proofs.YtpknebplcmgnkaaGreatDoor.B1
open Go.Proofs.YtpknebplcmgnkaaGreatDoor.C1
open Go.Proofs.YtpknebplcmgnkaaGreatDoor.D1
open Go.Proofs.YtpknebplcmgnkaaGreatDoor.E1
open Go.Proofs.YtpknebplcmgnkaaGreatDoor.OR1





theorem mk3 : (Tryz.prog.info? 3).map (fun i => (i.size, i.bytes, i.zero)) = some (1, 8, some (.int .i64 0)) := by kernel_rfl







theorem pl156 : (Tryz.prog.underlying 156).bind (placesD Tryz.prog) = some [(0, 1), (1, 1)] := by kernel_rfl




theorem l4Of_spec {w : World} {G : Pin} {b : Nat} {bu bv : Value} {ns : List Nd} {bs : List Int} (hP : Pins G w) (hB : Bk 103 3 G w b bu bv ns bs) (hok : BookOk ns bs) :
  Calls Tryz.prog 135 [(.pointer (some ⟨b, 0, none⟩))].toArray w fun e w' => ∃ (o : Nat) (kv : Value) (G' : Pin), e = .returned (.pointer (some ⟨o, 0, none⟩)) ∧ Bx G' w' o [.pointer (some ⟨b, 0, none⟩), kv] ∧ Own eInt 3 G' w' w.heap.size kv (List.replicate (ns.length * ns.length) 0) ∧ w.heap.size ≤ o ∧ Apart (some o) kv.ownBlock ∧ Ext noS G w G' w' := by
 refine yD (n := 18) Tryz.func135 Tryz.ntmps135 rfl rfl ?_
 have hX0 : Ext noS G w G w := Ext.refl hP
 have hbx := hB.bx
 have hou := hB.ou
 have hov := hB.ov
 have habu := hB.abu
 have habv := hB.abv
 have hauv := hB.auv
 have hlen := hok.len
 have hlim := hok.lim
 have hsq := sq_bd hok.lim
 refine zE (zF ?_)
 refine qD rfl (zD (v := (.pointer none)) rfl) ?_
 refine qe (zB (zE ?_))
 have hq1 := Gadd.pins hX0.pins bu
 have hr2 := hou.read
 refine xE (S := fun wz => BxR wz b [bu, bv] ∧ Pins (Gadd G w bu) wz) (last := 16) (by kernel_rfl) rfl ?_
 have hl3 : Below w.heap.size w w.drew := (Below.refl _ _).drew
 have hp4 := hX0.pins.below hl3
 have hX5 := hX0.step hp4 hl3
 have hb8 := hbx.below hl3
 have hq9 := hq1.below hl3
 refine dT (i := 0) rfl rfl (by kernel_rfl) (fun _ _ => zA (v := (.pointer (some ⟨b, 0, none⟩))) rfl) ⟨hb8.reads, hq9⟩ ?_
 refine dT (i := 1) rfl rfl (by kernel_rfl) (fun _ _ => zA (v := (.pointer (some ⟨b, 0, none⟩))) rfl) ⟨hb8.reads, hq9⟩ ?_
 refine dT (i := 2) rfl rfl (by kernel_rfl) (fun _ _ => yP rfl) ⟨hb8.reads, hq9⟩ ?_
 refine dT (i := 3) rfl rfl (by kernel_rfl) (fun _ _ => zM (k := 0) rfl Tryz.underlying106 rfl nz30 rfl) ⟨hb8.reads, hq9⟩ ?_
 refine dT (i := 4) rfl rfl (by kernel_rfl) (fun _ hS => zO (u := bu) ag30 rfl (hS.1 0 _ rfl)) ⟨hb8.reads, hq9⟩ ?_
 refine dT (i := 5) rfl rfl (by kernel_rfl) (fun _ _ => zL Tryz.underlying30 (v := bu) rfl hr2) ⟨hb8.reads, hq9⟩ ?_
 refine dT (i := 6) rfl rfl (by kernel_rfl) (fun _ _ => zA (v := (.pointer (some ⟨b, 0, none⟩))) rfl) ⟨hb8.reads, hq9⟩ ?_
 refine dT (i := 7) rfl rfl (by kernel_rfl) (fun _ _ => yP rfl) ⟨hb8.reads, hq9⟩ ?_
 refine dT (i := 8) rfl rfl (by kernel_rfl) (fun _ _ => zM (k := 0) rfl Tryz.underlying106 rfl nz30 rfl) ⟨hb8.reads, hq9⟩ ?_
 refine dT (i := 9) rfl rfl (by kernel_rfl) (fun _ hS => zO (u := bu) ag30 rfl (hS.1 0 _ rfl)) ⟨hb8.reads, hq9⟩ ?_
 refine dT (i := 10) rfl rfl (by kernel_rfl) (fun _ _ => zL Tryz.underlying30 (v := bu) rfl hr2) ⟨hb8.reads, hq9⟩ ?_
 refine dT (i := 11) rfl rfl (by kernel_rfl) (fun _ _ => r_mul rfl rfl (by omega)) ⟨hb8.reads, hq9⟩ ?_
 refine zV (i := 12) (by kernel_rfl) (yC (i := 12) rfl rfl rfl (zG rfl _) (o_make (E := eInt) 0 8 (.int .i64 0) Tryz.underlying67 mk3 (fun _ => rfl) rfl rfl hX5.pins (by omega) (by omega) (by omega) (fun u10 w11 ho12 hp13 hl14 hk15 => ?_)))
 have hX16 := hX5.step hp13 hl14
 have hb19 := hb8.below hl14
 have ho23 : Own eInt 3 G w11 w.heap.size u10 (List.replicate ((ns.length : Int) * (ns.length : Int)).toNat 0) := ho12.weaken hX5.size
 have hm24 : (List.replicate ((ns.length : Int) * (ns.length : Int)).toNat 0).length = ((ns.length : Int) * (ns.length : Int)).toNat := List.length_replicate ..
 have hq25 := hq9.below hl14
 refine ⟨fun _ => ⟨hb19.reads, hq25⟩, ?_⟩
 refine dT (i := 13) rfl rfl (by kernel_rfl) (fun _ _ => r_build [(.pointer none), (.slice none 0 0)] [(.pointer (some ⟨b, 0, none⟩)), u10] [(0, (.pointer (some ⟨b, 0, none⟩)), [(.pointer (some ⟨b, 0, none⟩))]), (1, u10, [u10])] Tryz.underlying156 zr156 rfl pl156 rfl (List.forall_mem_cons.2 ⟨rfl, (List.forall_mem_cons.2 ⟨(xI ho23.one), (fun _ h => by cases h)⟩)⟩) rfl) ⟨hb19.reads, hq25⟩ ?_
 refine zV (i := 14) (by kernel_rfl) (yC (i := 14) rfl rfl rfl (zG rfl _) (qC [(.pointer (some ⟨b, 0, none⟩)), u10] (v := (.agg [(.pointer (some ⟨b, 0, none⟩)), u10].toArray)) rfl rfl hX16.pins (fun b26 w27 hk28 hb29 hp30 hl31 => ?_)))
 have hX32 := hX16.step hp30 hl31
 have ho35 := ho23.below hl31
 have hb36 := hb19.below hl31
 have ha39 : Apart (some b26) u10.ownBlock := zK (congrArg some hk28) ho23.lt
 have hlo41 : w.heap.size ≤ b26 := by have := hX16.size; omega
 have hq42 := hq25.below hl31
 refine ⟨fun _ => ⟨hb36.reads, hq42⟩, ?_⟩
 refine dT (i := 15) rfl rfl (by kernel_rfl) (fun _ _ => zD (v := (.pointer (some ⟨b26, 0, none⟩))) rfl) ⟨hb36.reads, hq42⟩ ?_
 refine yT (by kernel_rfl) ?_
 refine zB ?_
 refine wp_ret ?_
 refine zW ?_
 refine zS (v := (.pointer (some ⟨b26, 0, none⟩))) rfl rfl rfl ?_
 have hrow := ho35
 rw [sq_nat] at hrow
 exact ⟨_, _, _, rfl, hb29, hrow, hlo41, ha39, hX32⟩

theorem l6Through_spec {w : World} {G : Pin} {o b : Nat} {bu bv kv : Value} {ns : List Nd} {bs : List Int} {ks : List Int} {y z : Int} {lf : Bool} (hP : Pins G w) (hO : Od 103 3 G w o b bu bv kv ns bs ks) (hy : 0 ≤ y ∧ y < ns.length) (hz : 0 ≤ z ∧ z < ns.length) (hok : BookOk ns bs) (hka : KAll ns ks) :
  Calls Tryz.prog 160 [(.pointer (some ⟨o, 0, none⟩)), (.int .i64 y), (.int .i64 z), (.bool lf)].toArray w fun e w' => ∃ (t : Int) (ks' : List Int) (G' : Pin), e = .returned (.int .i64 t) ∧ thrP ns lf y z t ∧ Od 103 3 G' w' o b bu bv kv ns bs ks' ∧ KAll ns ks' ∧ Ext (inO kv.ownBlock) G w G' w' := by
 refine yD (n := 70) Tryz.func160 Tryz.ntmps160 rfl rfl ?_
 have hX0 : Ext (inO kv.ownBlock) G w G w := Ext.refl hP
 have hB := hO.bk
 have hbx := hB.bx
 have hou := hB.ou
 have hov := hB.ov
 have habu := hB.abu
 have habv := hB.abv
 have hauv := hB.auv
 have hlen := hok.len
 have hlim := hok.lim
 have hox := hO.ox
 have hok2 := hO.ok
 have haok := hO.aok
 have habk := hO.abk
 have hauk := hO.auk
 have havk := hO.avk
 have hlok : Lo w (inO kv.ownBlock) kv.ownBlock := xP
 have hoo : OptsOk ns := hok.optsOk
 have hlens := hok.lens
 refine zE (zF ?_)
 refine qD rfl (zD (v := (.int .i64 0)) rfl) ?_
 refine qe (zB (zE (zE (zF ?_))))
 refine qD rfl (zA (v := (.bool lf)) rfl) ?_
 refine qe (zB ?_)
 refine c_if rfl rfl (fun h1 => ?_) (fun h1 => ?_)
 ·skip
  refine zE (zF ?_)
  refine qD rfl (zA (v := (.pointer (some ⟨o, 0, none⟩))) rfl) ?_
  refine qD rfl (yP rfl) ?_
  refine qD rfl (zM (k := 0) rfl Tryz.underlying156 rfl nz104 rfl) ?_
  refine qD rfl (zO (u := (.pointer (some ⟨b, 0, none⟩))) ag104 rfl (hox.cell (o := 0) rfl)) ?_
  refine qD rfl (yP rfl) ?_
  refine qD rfl (zM (k := 0) rfl Tryz.underlying106 rfl nz30 rfl) ?_
  refine qD rfl (zO (u := bu) ag30 rfl (hbx.cell (o := 0) rfl)) ?_
  refine qD rfl (zA (v := (.int .i64 z)) rfl) ?_
  refine qD rfl (zJ Tryz.underlying30 yO (v := bu) rfl rfl hou.read (by omega) (by omega)) ?_
  refine qD rfl (xA (off := 1) Tryz.underlying103 rfl rfl nz67 (z := z) (k := 0) rfl hou.read (by omega) (by omega)) ?_
  obtain ⟨u2, hr3, hl4⟩ := nm_nr (hou.at (z := z) (by omega) (by omega)) (j := (z).toNat) rfl
  have hm5 := hr3.max
  refine qD rfl (hl4 ag67 rfl (Gadd.pins hX0.pins bu)) ?_
  refine qD rfl (zD (v := u2) rfl) ?_
  refine qe (zB (zE (zE (zF ?_))))
  refine qD rfl (zD (v := (.int .i64 0)) rfl) ?_
  refine qe (zB ?_)
  refine zZ ?_
  refine yM (fun (k : Nat) (en : Nat → Value) (W : World) => ∃ (env1 : Nat → Value) (i : Nat) (kq : List Int) (GL1 : Pin), en = (upd (upd (upd (upd (upd env1 0 (.pointer (some ⟨o, 0, none⟩))) 1 (.int .i64 y)) 2 (.int .i64 z)) 9 u2) 10 (.int .i64 (i : Int))) ∧ k = (ns.getD (z).toNat default).r.length - i ∧ Ext (inO kv.ownBlock) G w GL1 W ∧ Pin.le G GL1 ∧ (i ≤ (ns.getD (z).toNat default).r.length) ∧ (KAll ns kq) ∧ (∀ x, x < i → geB ns y ((ns.getD (z).toNat default).r.getD x 0) = false) ∧ (Own eInt 3 GL1 W 0 kv (kq)) ∧ (Own eNode 103 GL1 W 0 bu (ns)) ∧ (Own eInt 3 GL1 W 0 bv (bs)) ∧ (Bx GL1 W b [bu, bv]) ∧ (Bx GL1 W o [(.pointer (some ⟨b, 0, none⟩)), kv])) _ ⟨_, 0, ks, G, (zC (x := 10) (zC (x := 9) (zC (x := 2) (zC (x := 1) (zN (x := 0) rfl) rfl) rfl) rfl) rfl), rfl, hX0, Pin.le_refl _, Nat.zero_le _, hka, (fun x h => absurd h (Nat.not_lt_zero x)), hok2, hou, hov, hbx, hox⟩ ?_
  rintro k6 _ w7 ⟨env1, i, kq, GL1, rfl, hk8, hX9, hlek6, hj, hka1, hpp, hw10, hw11, hw12, hw13, hw14⟩
  refine zE (zE (zF ?_))
  refine qD rfl (zA (v := (.int .i64 (i : Int))) rfl) ?_
  refine qD rfl (zA (v := u2) rfl) ?_
  refine qD rfl (zL Tryz.underlying67 (v := u2) rfl hr3) ?_
  refine qD rfl (yN rfl rfl) ?_
  refine qe (zB ?_)
  refine yE (p := ((i : Int) : Int) < (((ns.getD (z).toNat default).r).length : Int)) rfl rfl (fun h15 => ?_) (fun h15 => ?_)
  ·skip
   have hki := (xD hok.optsOk (show (z).toNat < ns.length by omega)).2 _ (yG (d := (0 : Int)) (show i < (ns.getD (z).toNat default).r.length by omega))
   refine wp_skip ?_
   refine zB (zE ?_)
   refine zZ ?_
   refine zE (zF ?_)
   refine qD rfl (zA (v := (.pointer (some ⟨o, 0, none⟩))) rfl) ?_
   refine qD rfl (zA (v := (.int .i64 y)) rfl) ?_
   refine qD rfl (zA (v := u2) rfl) ?_
   refine qD rfl (zA (v := (.int .i64 (i : Int))) rfl) ?_
   refine qD rfl (zJ Tryz.underlying67 sz3 (v := u2) rfl rfl hr3 (by omega) (by omega)) ?_
   refine qD rfl (zI (r := ((ns.getD (z).toNat default).r).getD i 0) rfl ag3 (z := (i : Int)) rfl hr3 (Pins.of_le hX9.pins hlek6) (by omega) (by omega)) ?_
   refine qI rfl (zP (vs := [(.pointer (some ⟨o, 0, none⟩)), (.int .i64 y), (.int .i64 (((ns.getD (z).toNat default).r).getD i 0))]) Tryz.func136 nm136 rfl rfl rfl ?_)
   refine Calls.mono (geq_spec hX9.pins ⟨⟨hw13, hw11, hw12, habu, habv, hauv⟩, hw14, hw10, haok, habk, hauk, havk⟩ ⟨by omega, by omega⟩ ⟨by omega, by omega⟩ hka1.1 hok (hka1.2 _)) ?_
   rintro _ w18 ⟨ks16, G17, rfl, hd19, hr20, hx21⟩
   refine ⟨_, rfl, ?_⟩
   have hX22 := hX9.trans hx21 (fun i hi => hlok i hi)
   have ho23 := hw11.extS hx21 (notO hauk)
   have ho24 := hw12.extS hx21 (notO havk)
   have hb25 := hw13.extS hx21 (qG habk)
   have hb26 := hw14.extS hx21 (qG haok)
   have hkl28 := hr20.len
   have hka29 := KAll.res hka1 hr20
   refine qe (zB ?_)
   refine c_if rfl rfl (fun h30 => ?_) (fun h30 => ?_)
   ·skip
    refine zE (zF ?_)
    refine qD rfl (zA (v := u2) rfl) ?_
    refine qD rfl (zA (v := (.int .i64 (i : Int))) rfl) ?_
    refine qD rfl (zJ Tryz.underlying67 sz3 (v := u2) rfl rfl hr3 (by omega) (by omega)) ?_
    refine qD rfl (zI (r := ((ns.getD (z).toNat default).r).getD i 0) rfl ag3 (z := (i : Int)) rfl hr3 (Pins.of_le hX22.pins (Pin.le_trans hlek6 hx21.le)) (by omega) (by omega)) ?_
    refine qD rfl (zD (v := (.int .i64 (((ns.getD (z).toNat default).r).getD i 0))) rfl) ?_
    refine qe (zB ?_)
    refine wp_ret ?_
    refine zW ?_
    refine zS (v := (.int .i64 (((ns.getD (z).toNat default).r).getD i 0))) rfl rfl rfl ?_
    exact ⟨_, _, _, rfl, thr_hit hok.optsOk hz (Or.inl ⟨h1, yG (by omega), h30⟩), ⟨⟨hb25, ho23, ho24, habu, habv, hauv⟩, hb26, hd19.ok, haok, habk, hauk, havk⟩, hka29, hX22⟩
   refine wp_skip ?_
   refine yA ?_
   refine zB (zF ?_)
   refine qD rfl (zA (v := (.int .i64 (i : Int))) rfl) ?_
   refine qD rfl (yJ rfl rfl (by omega)) ?_
   refine qD rfl (zD (v := (.int .i64 ((i : Int) + 1))) rfl) ?_
   refine qe ?_
   refine zY ?_
   refine ⟨_, ?_, _, rfl, _, i + 1, ks16, G17, (zC (x := 10) (zC (x := 9) (zC (x := 2) (zC (x := 1) (zN (x := 0) rfl) rfl) rfl) rfl) rfl), rfl, hX22, (Pin.le_trans hlek6 hx21.le), (by omega), hka29, (fun x h2 => if h3 : x = i then h3 ▸ h30 else hpp x (by omega)), hd19.ok, ho23, ho24, hb25, hb26⟩
   omega
  refine wp_exit ?_
  refine zX ?_
  refine yL ?_
  refine yF ?_
  refine zB (zE (zF ?_))
  refine qD rfl (zD (v := (.int .i64 (-1))) rfl) ?_
  refine qe (zB ?_)
  refine wp_ret ?_
  refine zW ?_
  refine zS (v := (.int .i64 (-1))) rfl rfl rfl ?_
  exact ⟨_, _, _, rfl, (by rw [h1]; exact thr_none_t hok.optsOk hz (fun k hk => hpp k (by omega))), ⟨⟨hw13, hw11, hw12, habu, habv, hauv⟩, hw14, hw10, haok, habk, hauk, havk⟩, hka1, hX9⟩
 refine wp_skip ?_
 refine zB (zE (zF ?_))
 refine qD rfl (zA (v := (.pointer (some ⟨o, 0, none⟩))) rfl) ?_
 refine qD rfl (yP rfl) ?_
 refine qD rfl (zM (k := 0) rfl Tryz.underlying156 rfl nz104 rfl) ?_
 refine qD rfl (zO (u := (.pointer (some ⟨b, 0, none⟩))) ag104 rfl (hox.cell (o := 0) rfl)) ?_
 refine qD rfl (yP rfl) ?_
 refine qD rfl (zM (k := 0) rfl Tryz.underlying106 rfl nz30 rfl) ?_
 refine qD rfl (zO (u := bu) ag30 rfl (hbx.cell (o := 0) rfl)) ?_
 refine qD rfl (zA (v := (.int .i64 z)) rfl) ?_
 refine qD rfl (zJ Tryz.underlying30 yO (v := bu) rfl rfl hou.read (by omega) (by omega)) ?_
 refine qD rfl (xA (off := 0) Tryz.underlying103 rfl rfl nz67 (z := z) (k := 0) rfl hou.read (by omega) (by omega)) ?_
 obtain ⟨u31, hr32, hl33⟩ := nm_nl (hou.at (z := z) (by omega) (by omega)) (j := (z).toNat) rfl
 have hm34 := hr32.max
 refine qD rfl (hl33 ag67 rfl (Gadd.pins hX0.pins bu)) ?_
 refine qD rfl (zD (v := u31) rfl) ?_
 refine qe (zB (zE (zE (zF ?_))))
 refine qD rfl (zD (v := (.int .i64 0)) rfl) ?_
 refine qe (zB ?_)
 refine zZ ?_
 refine yM (fun (k : Nat) (en : Nat → Value) (W : World) => ∃ (env1 : Nat → Value) (i2 : Nat) (kq : List Int) (GL1 : Pin), en = (upd (upd (upd (upd env1 0 (.pointer (some ⟨o, 0, none⟩))) 1 (.int .i64 y)) 11 u31) 12 (.int .i64 (i2 : Int))) ∧ k = (ns.getD (z).toNat default).l.length - i2 ∧ Ext (inO kv.ownBlock) G w GL1 W ∧ Pin.le G GL1 ∧ (i2 ≤ (ns.getD (z).toNat default).l.length) ∧ (KAll ns kq) ∧ (∀ x, x < i2 → geB ns ((ns.getD (z).toNat default).l.getD x 0) y = false) ∧ (Own eInt 3 GL1 W 0 kv (kq)) ∧ (Own eNode 103 GL1 W 0 bu (ns)) ∧ (Own eInt 3 GL1 W 0 bv (bs)) ∧ (Bx GL1 W b [bu, bv]) ∧ (Bx GL1 W o [(.pointer (some ⟨b, 0, none⟩)), kv])) _ ⟨_, 0, ks, G, (zC (x := 12) (zC (x := 11) (zC (x := 1) (zN (x := 0) rfl) rfl) rfl) rfl), rfl, hX0, Pin.le_refl _, Nat.zero_le _, hka, (fun x h => absurd h (Nat.not_lt_zero x)), hok2, hou, hov, hbx, hox⟩ ?_
 rintro k35 _ w36 ⟨env1, i2, kq, GL1, rfl, hk37, hX38, hlek35, hj, hka1, hpp, hw39, hw40, hw41, hw42, hw43⟩
 refine zE (zE (zF ?_))
 refine qD rfl (zA (v := (.int .i64 (i2 : Int))) rfl) ?_
 refine qD rfl (zA (v := u31) rfl) ?_
 refine qD rfl (zL Tryz.underlying67 (v := u31) rfl hr32) ?_
 refine qD rfl (yN rfl rfl) ?_
 refine qe (zB ?_)
 refine yE (p := ((i2 : Int) : Int) < (((ns.getD (z).toNat default).l).length : Int)) rfl rfl (fun h44 => ?_) (fun h44 => ?_)
 ·skip
  have hki := (xD hok.optsOk (show (z).toNat < ns.length by omega)).1 _ (yG (d := (0 : Int)) (show i2 < (ns.getD (z).toNat default).l.length by omega))
  refine wp_skip ?_
  refine zB (zE ?_)
  refine zZ ?_
  refine zE (zF ?_)
  refine qD rfl (zA (v := (.pointer (some ⟨o, 0, none⟩))) rfl) ?_
  refine qD rfl (zA (v := u31) rfl) ?_
  refine qD rfl (zA (v := (.int .i64 (i2 : Int))) rfl) ?_
  refine qD rfl (zJ Tryz.underlying67 sz3 (v := u31) rfl rfl hr32 (by omega) (by omega)) ?_
  refine qD rfl (zI (r := ((ns.getD (z).toNat default).l).getD i2 0) rfl ag3 (z := (i2 : Int)) rfl hr32 (Pins.of_le hX38.pins hlek35) (by omega) (by omega)) ?_
  refine qD rfl (zA (v := (.int .i64 y)) rfl) ?_
  refine qI rfl (zP (vs := [(.pointer (some ⟨o, 0, none⟩)), (.int .i64 (((ns.getD (z).toNat default).l).getD i2 0)), (.int .i64 y)]) Tryz.func136 nm136 rfl rfl rfl ?_)
  refine Calls.mono (geq_spec hX38.pins ⟨⟨hw42, hw40, hw41, habu, habv, hauv⟩, hw43, hw39, haok, habk, hauk, havk⟩ ⟨by omega, by omega⟩ ⟨by omega, by omega⟩ hka1.1 hok (hka1.2 _)) ?_
  rintro _ w47 ⟨ks45, G46, rfl, hd48, hr49, hx50⟩
  refine ⟨_, rfl, ?_⟩
  have hX51 := hX38.trans hx50 (fun i hi => hlok i hi)
  have ho52 := hw40.extS hx50 (notO hauk)
  have ho53 := hw41.extS hx50 (notO havk)
  have hb54 := hw42.extS hx50 (qG habk)
  have hb55 := hw43.extS hx50 (qG haok)
  have hkl57 := hr49.len
  have hka58 := KAll.res hka1 hr49
  refine qe (zB ?_)
  refine c_if rfl rfl (fun h59 => ?_) (fun h59 => ?_)
  ·skip
   refine zE (zF ?_)
   refine qD rfl (zA (v := u31) rfl) ?_
   refine qD rfl (zA (v := (.int .i64 (i2 : Int))) rfl) ?_
   refine qD rfl (zJ Tryz.underlying67 sz3 (v := u31) rfl rfl hr32 (by omega) (by omega)) ?_
   refine qD rfl (zI (r := ((ns.getD (z).toNat default).l).getD i2 0) rfl ag3 (z := (i2 : Int)) rfl hr32 (Pins.of_le hX51.pins (Pin.le_trans hlek35 hx50.le)) (by omega) (by omega)) ?_
   refine qD rfl (zD (v := (.int .i64 (((ns.getD (z).toNat default).l).getD i2 0))) rfl) ?_
   refine qe (zB ?_)
   refine wp_ret ?_
   refine zW ?_
   refine zS (v := (.int .i64 (((ns.getD (z).toNat default).l).getD i2 0))) rfl rfl rfl ?_
   exact ⟨_, _, _, rfl, thr_hit hok.optsOk hz (Or.inr ⟨h1, yG (by omega), h59⟩), ⟨⟨hb54, ho52, ho53, habu, habv, hauv⟩, hb55, hd48.ok, haok, habk, hauk, havk⟩, hka58, hX51⟩
  refine wp_skip ?_
  refine yA ?_
  refine zB (zF ?_)
  refine qD rfl (zA (v := (.int .i64 (i2 : Int))) rfl) ?_
  refine qD rfl (yJ rfl rfl (by omega)) ?_
  refine qD rfl (zD (v := (.int .i64 ((i2 : Int) + 1))) rfl) ?_
  refine qe ?_
  refine zY ?_
  refine ⟨_, ?_, _, rfl, _, i2 + 1, ks45, G46, (zC (x := 12) (zC (x := 11) (zC (x := 1) (zN (x := 0) rfl) rfl) rfl) rfl), rfl, hX51, (Pin.le_trans hlek35 hx50.le), (by omega), hka58, (fun x h2 => if h3 : x = i2 then h3 ▸ h59 else hpp x (by omega)), hd48.ok, ho52, ho53, hb54, hb55⟩
  omega
 refine wp_exit ?_
 refine zX ?_
 refine yL ?_
 refine yF ?_
 refine zB (zE (zF ?_))
 refine qD rfl (zD (v := (.int .i64 (-1))) rfl) ?_
 refine qe (zB ?_)
 refine wp_ret ?_
 refine zW ?_
 refine zS (v := (.int .i64 (-1))) rfl rfl rfl ?_
 exact ⟨_, _, _, rfl, (by rw [h1]; exact thr_none_f hok.optsOk hz (fun k hk => hpp k (by omega))), ⟨⟨hw42, hw40, hw41, habu, habv, hauv⟩, hw43, hw39, haok, habk, hauk, havk⟩, hka1, hX38⟩

theorem l6Dominated_spec {w : World} {G : Pin} {o b : Nat} {bu bv kv : Value} {ns : List Nd} {bs : List Int} {ks : List Int} {x : Value} {xs : List Int} {lf : Bool} (hP : Pins G w) (hO : Od 103 3 G w o b bu bv kv ns bs ks) (hx : RSl eInt G x xs) (hxl : xs.length ≤ 1048576) (hpl : ∀ i, i < xs.length → 0 ≤ xs.getD i 0 ∧ xs.getD i 0 < ns.length) (hok : BookOk ns bs) (hka : KAll ns ks) :
  Calls Tryz.prog 143 [(.pointer (some ⟨o, 0, none⟩)), x, (.bool lf)].toArray w fun e w' => ∃ (u : Value) (ks' : List Int) (G' : Pin), e = .returned u ∧ RSl eInt G' u (domL (gN ns xs) lf xs.length xs.length) ∧ Od 103 3 G' w' o b bu bv kv ns bs ks' ∧ KAll ns ks' ∧ Ext (inO kv.ownBlock) G w G' w' := by
 refine yD (n := 68) Tryz.func143 Tryz.ntmps143 rfl rfl ?_
 have hX0 : Ext (inO kv.ownBlock) G w G w := Ext.refl hP
 have hB := hO.bk
 have hbx := hB.bx
 have hou := hB.ou
 have hov := hB.ov
 have habu := hB.abu
 have habv := hB.abv
 have hauv := hB.auv
 have hlen := hok.len
 have hlim := hok.lim
 have hox := hO.ox
 have hok2 := hO.ok
 have haok := hO.aok
 have habk := hO.abk
 have hauk := hO.auk
 have havk := hO.avk
 have hlok : Lo w (inO kv.ownBlock) kv.ownBlock := xP
 have hoo : OptsOk ns := hok.optsOk
 have hlens := hok.lens
 have hxm := hx.max
 refine zE (zF ?_)
 refine qD rfl (zD (v := (.slice none 0 0)) rfl) ?_
 refine qe (zB (zE (zF ?_)))
 refine qI rfl (yZ (E := eInt) (e := 3) Tryz.underlying67 sz3 hX0.pins (fun u1 w2 ho3 hp4 hl5 hk6 => ?_))
 have hX7 := hX0.step hp4 hl5
 have ho8 := hou.below hl5
 have ho9 := hov.below hl5
 have ho10 := hok2.below hl5
 have hb11 := hbx.below hl5
 have hb12 := hox.below hl5
 have ha13 : Apart u1.ownBlock bu.ownBlock := zK hk6 hou.lt
 have ha14 : Apart u1.ownBlock bv.ownBlock := zK hk6 hov.lt
 have ha15 : Apart u1.ownBlock kv.ownBlock := zK hk6 hok2.lt
 have ha16 : Apart u1.ownBlock (some b) := zR hk6 hbx.lt
 have ha17 : Apart u1.ownBlock (some o) := zR hk6 hox.lt
 have ho18 : Own eInt 3 G w2 w.heap.size u1 ([]) := ho3.weaken hX0.size
 refine qD rfl (zD (v := u1) rfl) ?_
 refine qe (zB (zE (zE (zF ?_))))
 refine qD rfl (zD (v := (.int .i64 0)) rfl) ?_
 refine qe (zB ?_)
 refine zZ ?_
 obtain ⟨G23, hle26, hX25, hr24, hf27⟩ := ho18.sealed hX7
 have ho28 := ho8.moreO hle26 hf27 ha13.symm
 have ho29 := ho9.moreO hle26 hf27 ha14.symm
 have ho30 := ho10.moreO hle26 hf27 ha15.symm
 have hb31 := hb11.moreO hf27 ha16.symm
 have hb32 := hb12.moreO hf27 ha17.symm
 refine yM (fun (k : Nat) (en : Nat → Value) (W : World) => ∃ (env1 : Nat → Value) (i : Nat) (kq : List Int) (ov : Value) (out : List Int) (GL1 : Pin), en = (upd (upd (upd (upd (upd (upd env1 0 (.pointer (some ⟨o, 0, none⟩))) 1 x) 2 (.bool lf)) 6 (.slice none 0 0)) 7 ov) 8 (.int .i64 (i : Int))) ∧ k = xs.length - i ∧ Ext (inO kv.ownBlock) G w GL1 W ∧ Pin.le G23 GL1 ∧ (i ≤ xs.length) ∧ (KAll ns kq) ∧ (out = domL (gN ns xs) lf xs.length i) ∧ (Own eInt 3 GL1 W 0 kv (kq)) ∧ (Own eNode 103 GL1 W 0 bu (ns)) ∧ (Own eInt 3 GL1 W 0 bv (bs)) ∧ (Bx GL1 W b [bu, bv]) ∧ (Bx GL1 W o [(.pointer (some ⟨b, 0, none⟩)), kv]) ∧ (RSl eInt GL1 ov (out))) _ ⟨_, 0, ks, u1, [], G23, (zC (x := 8) (zC (x := 7) (zC (x := 6) (zC (x := 2) (zC (x := 1) (zN (x := 0) rfl) rfl) rfl) rfl) rfl) rfl), rfl, hX25, Pin.le_refl _, Nat.zero_le _, hka, rfl, ho30, ho28, ho29, hb31, hb32, hr24⟩ ?_
 rintro k19 _ w20 ⟨env1, i, kq, ov, out, GL1, rfl, hk21, hX22, hlek19, hi, hka1, hout, hw33, hw34, hw35, hw36, hw37, hr38⟩
 have hol : out.length ≤ i := by rw [hout]; exact (dom_len i).1
 refine zE (zE (zF ?_))
 refine qD rfl (zA (v := (.int .i64 (i : Int))) rfl) ?_
 refine qD rfl (zA (v := x) rfl) ?_
 refine qD rfl (zL Tryz.underlying67 (v := x) rfl hx) ?_
 refine qD rfl (yN rfl rfl) ?_
 refine qe (zB ?_)
 refine yE (p := ((i : Int) : Int) < (xs.length : Int)) rfl rfl (fun h39 => ?_) (fun h39 => ?_)
 ·skip
  refine wp_skip ?_
  refine zB (zE ?_)
  refine zZ ?_
  refine zE (zF ?_)
  refine qD rfl (zD (v := (.int .i64 0)) rfl) ?_
  refine qe (zB ?_)
  refine zZ ?_
  refine yM (fun (k : Nat) (en : Nat → Value) (W : World) => ∃ (env1 : Nat → Value) (j : Nat) (kq2 : List Int) (ov2 : Value) (out2 : List Int) (GL2 : Pin), en = (upd (upd (upd (upd (upd (upd (upd env1 0 (.pointer (some ⟨o, 0, none⟩))) 1 x) 2 (.bool lf)) 6 (.slice none 0 0)) 7 ov2) 8 (.int .i64 (i : Int))) 9 (.int .i64 (j : Int))) ∧ k = xs.length - j ∧ Ext (inO kv.ownBlock) G w GL2 W ∧ Pin.le GL1 GL2 ∧ (j ≤ xs.length) ∧ (KAll ns kq2) ∧ (out2 = domI out (domB (gN ns xs) lf i j) (i : Int)) ∧ (Own eInt 3 GL2 W 0 kv (kq2)) ∧ (Own eNode 103 GL2 W 0 bu (ns)) ∧ (Own eInt 3 GL2 W 0 bv (bs)) ∧ (Bx GL2 W b [bu, bv]) ∧ (Bx GL2 W o [(.pointer (some ⟨b, 0, none⟩)), kv]) ∧ (RSl eInt GL2 ov2 (out2))) _ ⟨_, 0, kq, ov, out, GL1, (zC (x := 9) (zC (x := 8) (zC (x := 7) (zC (x := 6) (zC (x := 2) (zC (x := 1) (zN (x := 0) rfl) rfl) rfl) rfl) rfl) rfl) rfl), rfl, hX22, Pin.le_refl _, Nat.zero_le _, hka1, domI_start, hw33, hw34, hw35, hw36, hw37, hr38⟩ ?_
  rintro k40 _ w41 ⟨env1, j, kq2, ov2, out2, GL2, rfl, hk42, hX43, hlek40, hj, hka2, hout2, hw44, hw45, hw46, hw47, hw48, hr49⟩
  have hol2 : out2.length ≤ out.length + 1 := by rw [hout2]; exact domI_len
  refine zE (zE (zF ?_))
  refine qD rfl (zA (v := (.int .i64 (j : Int))) rfl) ?_
  refine qD rfl (zA (v := x) rfl) ?_
  refine qD rfl (zL Tryz.underlying67 (v := x) rfl hx) ?_
  refine qD rfl (yN rfl rfl) ?_
  refine qe (zB ?_)
  refine yE (p := ((j : Int) : Int) < (xs.length : Int)) rfl rfl (fun h50 => ?_) (fun h50 => ?_)
  ·skip
   refine wp_skip ?_
   refine zB (zE ?_)
   refine zZ ?_
   refine zE ?_
   refine xE (S := fun wz => Pins GL2 wz) (last := 22) (by kernel_rfl) rfl ?_
   have hl51 : Below w41.heap.size w41 w41.drew := (Below.refl _ _).drew
   have hp52 := hX43.pins.below hl51
   have hX53 := hX43.step hp52 hl51
   have ho54 := hw44.below hl51
   have ho55 := hw45.below hl51
   have ho56 := hw46.below hl51
   have hb57 := hw47.below hl51
   have hb58 := hw48.below hl51
   refine dT (i := 0) rfl rfl (by kernel_rfl) (fun _ _ => zA (v := (.pointer (some ⟨o, 0, none⟩))) rfl) hX53.pins ?_
   refine dT (i := 1) rfl rfl (by kernel_rfl) (fun _ _ => zA (v := x) rfl) hX53.pins ?_
   refine dT (i := 2) rfl rfl (by kernel_rfl) (fun _ _ => zA (v := (.int .i64 (j : Int))) rfl) hX53.pins ?_
   refine dT (i := 3) rfl rfl (by kernel_rfl) (fun _ _ => zJ Tryz.underlying67 sz3 (v := x) rfl rfl hx (by omega) (by omega)) hX53.pins ?_
   refine dT (i := 4) rfl rfl (by kernel_rfl) (fun _ hS => zI (r := xs.getD j 0) rfl ag3 (z := (j : Int)) rfl hx (Pins.of_le hS (Pin.le_trans (Pin.le_trans hle26 hlek19) hlek40)) (by omega) (by omega)) hX53.pins ?_
   refine dT (i := 5) rfl rfl (by kernel_rfl) (fun _ _ => zA (v := x) rfl) hX53.pins ?_
   refine dT (i := 6) rfl rfl (by kernel_rfl) (fun _ _ => zA (v := (.int .i64 (i : Int))) rfl) hX53.pins ?_
   refine dT (i := 7) rfl rfl (by kernel_rfl) (fun _ _ => zJ Tryz.underlying67 sz3 (v := x) rfl rfl hx (by omega) (by omega)) hX53.pins ?_
   refine dT (i := 8) rfl rfl (by kernel_rfl) (fun _ hS => zI (r := xs.getD i 0) rfl ag3 (z := (i : Int)) rfl hx (Pins.of_le hS (Pin.le_trans (Pin.le_trans hle26 hlek19) hlek40)) (by omega) (by omega)) hX53.pins ?_
   refine dT (i := 10) rfl rfl (by kernel_rfl) (fun _ _ => zA (v := (.pointer (some ⟨o, 0, none⟩))) rfl) hX53.pins ?_
   refine dT (i := 11) rfl rfl (by kernel_rfl) (fun _ _ => zA (v := x) rfl) hX53.pins ?_
   refine dT (i := 12) rfl rfl (by kernel_rfl) (fun _ _ => zA (v := (.int .i64 (i : Int))) rfl) hX53.pins ?_
   refine dT (i := 13) rfl rfl (by kernel_rfl) (fun _ _ => zJ Tryz.underlying67 sz3 (v := x) rfl rfl hx (by omega) (by omega)) hX53.pins ?_
   refine dT (i := 14) rfl rfl (by kernel_rfl) (fun _ hS => zI (r := xs.getD i 0) rfl ag3 (z := (i : Int)) rfl hx (Pins.of_le hS (Pin.le_trans (Pin.le_trans hle26 hlek19) hlek40)) (by omega) (by omega)) hX53.pins ?_
   refine dT (i := 15) rfl rfl (by kernel_rfl) (fun _ _ => zA (v := x) rfl) hX53.pins ?_
   refine dT (i := 16) rfl rfl (by kernel_rfl) (fun _ _ => zA (v := (.int .i64 (j : Int))) rfl) hX53.pins ?_
   refine dT (i := 17) rfl rfl (by kernel_rfl) (fun _ _ => zJ Tryz.underlying67 sz3 (v := x) rfl rfl hx (by omega) (by omega)) hX53.pins ?_
   refine dT (i := 18) rfl rfl (by kernel_rfl) (fun _ hS => zI (r := xs.getD j 0) rfl ag3 (z := (j : Int)) rfl hx (Pins.of_le hS (Pin.le_trans (Pin.le_trans hle26 hlek19) hlek40)) (by omega) (by omega)) hX53.pins ?_
   refine zV (i := 9) (by kernel_rfl) (yC (i := 9) rfl rfl rfl (zG rfl _) (zP (vs := [(.pointer (some ⟨o, 0, none⟩)), (.int .i64 (xs.getD j 0)), (.int .i64 (xs.getD i 0))]) Tryz.func136 nm136 rfl rfl rfl ?_))
   refine Calls.mono (geq_spec hX53.pins ⟨⟨hb57, ho55, ho56, habu, habv, hauv⟩, hb58, ho54, haok, habk, hauk, havk⟩ (hpl j (by omega)) (hpl i (by omega)) hka2.1 hok (hka2.2 _)) ?_
   rintro _ w61 ⟨ks59, G60, rfl, hd62, hr63, hx64⟩
   refine ⟨_, rfl, ?_⟩
   have hX65 := hX53.trans hx64 (fun i hi => hlok i hi)
   have ho66 := ho55.extS hx64 (notO hauk)
   have ho67 := ho56.extS hx64 (notO havk)
   have hb68 := hb57.extS hx64 (qG habk)
   have hb69 := hb58.extS hx64 (qG haok)
   have hkl71 := hr63.len
   have hka72 := KAll.res hka2 hr63
   refine ⟨fun _ => (Pins.of_le hX65.pins hx64.le), ?_⟩
   refine zV (i := 19) (by kernel_rfl) (yC (i := 19) rfl rfl rfl (zG rfl _) (zP (vs := [(.pointer (some ⟨o, 0, none⟩)), (.int .i64 (xs.getD i 0)), (.int .i64 (xs.getD j 0))]) Tryz.func136 nm136 rfl rfl rfl ?_))
   refine Calls.mono (geq_spec hX65.pins ⟨⟨hb68, ho66, ho67, habu, habv, hauv⟩, hb69, hd62.ok, haok, habk, hauk, havk⟩ (hpl i (by omega)) (hpl j (by omega)) hka72.1 hok (hka72.2 _)) ?_
   rintro _ w75 ⟨ks73, G74, rfl, hd76, hr77, hx78⟩
   refine ⟨_, rfl, ?_⟩
   have hX79 := hX65.trans hx78 (fun i hi => hlok i hi)
   have ho80 := ho66.extS hx78 (notO hauk)
   have ho81 := ho67.extS hx78 (notO havk)
   have hb82 := hb68.extS hx78 (qG habk)
   have hb83 := hb69.extS hx78 (qG haok)
   have hkl85 := hr77.len
   have hka86 := KAll.res hka72 hr77
   refine ⟨fun _ => (Pins.of_le hX79.pins (Pin.le_trans hx64.le hx78.le)), ?_⟩
   refine dT (i := 20) rfl rfl (by kernel_rfl) (fun _ _ => zD (v := (.bool (geB ns (xs.getD j 0) (xs.getD i 0)))) rfl) (Pins.of_le hX79.pins (Pin.le_trans hx64.le hx78.le)) ?_
   refine dT (i := 21) rfl rfl (by kernel_rfl) (fun _ _ => zD (v := (.bool (geB ns (xs.getD i 0) (xs.getD j 0)))) rfl) (Pins.of_le hX79.pins (Pin.le_trans hx64.le hx78.le)) ?_
   refine yT (by kernel_rfl) ?_
   refine zB (zE (zE (zF ?_)))
   refine qD rfl (zA (v := (.bool lf)) rfl) ?_
   refine qD rfl (xS rfl) ?_
   refine qe (zB ?_)
   refine qW rfl rfl (fun h87 => ?_) (fun h87 => ?_)
   ·skip
    refine wp_skip ?_
    refine zB (zE (zF ?_))
    refine qD rfl (zA (v := (.int .i64 (j : Int))) rfl) ?_
    refine qD rfl (zA (v := (.int .i64 (i : Int))) rfl) ?_
    refine qD rfl (r_neq rfl rfl) ?_
    refine qD rfl (zA (v := (.bool (decide (((j : Int) : Int) ≠ (i : Int))))) rfl) ?_
    refine qbd (p := ((j : Int) : Int) ≠ (i : Int)) (t := 52) rfl (fun h88 => ?_) (fun h88 => ?_)
    ·skip
     refine qdg rfl rfl rfl rfl rfl rfl (zA (v := (.bool (geB ns (xs.getD j 0) (xs.getD i 0)))) rfl) ?_
     refine qD rfl (yX (v := (.bool (geB ns (xs.getD j 0) (xs.getD i 0)))) rfl rfl) ?_
     refine qD rfl (zA (v := (.bool (geB ns (xs.getD j 0) (xs.getD i 0)))) rfl) ?_
     refine qb (t := 55) rfl (fun h89 => ?_) (fun h89 => ?_)
     ·skip
      refine qdg rfl rfl rfl rfl rfl rfl (zA (v := (.bool (geB ns (xs.getD i 0) (xs.getD j 0)))) rfl) ?_
      refine qdg rfl rfl rfl rfl rfl rfl (xS rfl) ?_
      refine qdg rfl rfl rfl rfl rfl rfl (zA (v := (.bool (!(geB ns (xs.getD i 0) (xs.getD j 0))))) rfl) ?_
      refine qbn (t := 58) rfl (fun h90 => ?_) (fun h90 => ?_)
      ·skip
       refine qdg rfl rfl rfl rfl rfl rfl (zA (v := (.int .i64 (j : Int))) rfl) ?_
       refine qdg rfl rfl rfl rfl rfl rfl (zA (v := (.int .i64 (i : Int))) rfl) ?_
       refine qdg rfl rfl rfl rfl rfl rfl (yN rfl rfl) ?_
       refine qdg rfl rfl rfl rfl rfl rfl (yV (v := (.bool (decide (((j : Int) : Int) < (i : Int))))) rfl rfl) ?_
       refine qD rfl (yX (v := (.bool (decide (((j : Int) : Int) < (i : Int))))) rfl rfl) ?_
       refine qe (zB ?_)
       refine yE (p := ((j : Int) : Int) < (i : Int)) rfl rfl (fun h91 => ?_) (fun h91 => ?_)
       ·skip
        refine zF ?_
        refine qD rfl (zA (v := ov2) rfl) ?_
        refine qD rfl (zA (v := (.int .i64 (i : Int))) rfl) ?_
        refine qI rfl (zP (vs := [ov2, (.int .i64 (i : Int))]) Tryz.func149 nm149 rfl rfl rfl ?_)
        refine Calls.mono (qQ hX79.pins (hr49.mono (Pin.le_trans hx64.le hx78.le)) (by omega)) ?_
        rintro _ w94 ⟨u92, G93, rfl, hr95, hx96⟩
        refine ⟨_, rfl, ?_⟩
        have hX97 := hX79.tr hx96
        have ho98 := hd76.ok.ext hx96
        have ho99 := ho80.ext hx96
        have ho100 := ho81.ext hx96
        have hb101 := hb82.ext hx96
        have hb102 := hb83.ext hx96
        refine qD rfl (zD (v := u92) rfl) ?_
        refine qe ?_
        refine yA ?_
        refine zB (zF ?_)
        refine qD rfl (zA (v := (.int .i64 (j : Int))) rfl) ?_
        refine qD rfl (yJ rfl rfl (by omega)) ?_
        refine qD rfl (zD (v := (.int .i64 ((j : Int) + 1))) rfl) ?_
        refine qe ?_
        refine zY ?_
        refine ⟨_, ?_, _, rfl, _, j + 1, ks73, u92, putL out2 (i : Int), G93, (zC (x := 9) (zC (x := 8) (zC (x := 7) (zC (x := 6) (zC (x := 2) (zC (x := 1) (zN (x := 0) rfl) rfl) rfl) rfl) rfl) rfl) rfl), rfl, hX97, (Pin.le_trans (Pin.le_trans (Pin.le_trans hlek40 hx64.le) hx78.le) hx96.le), (by omega), hka86, (domI_yes hout2 (by rw [hout]; exact (dom_len i).2) ⟨h88, (geD_t h87).2 (decP_true.1 h89), Or.inr h91⟩), ho98, ho99, ho100, hb101, hb102, hr95⟩
        omega
       refine wp_skip ?_
       refine yA ?_
       refine zB (zF ?_)
       refine qD rfl (zA (v := (.int .i64 (j : Int))) rfl) ?_
       refine qD rfl (yJ rfl rfl (by omega)) ?_
       refine qD rfl (zD (v := (.int .i64 ((j : Int) + 1))) rfl) ?_
       refine qe ?_
       refine zY ?_
       refine ⟨_, ?_, _, rfl, _, j + 1, ks73, ov2, out2, G74, (zC (x := 9) (zC (x := 8) (zC (x := 7) (zC (x := 6) (zC (x := 2) (zC (x := 1) (zN (x := 0) rfl) rfl) rfl) rfl) rfl) rfl) rfl), rfl, hX79, (Pin.le_trans (Pin.le_trans hlek40 hx64.le) hx78.le), (by omega), hka86, (domI_no hout2 (fun p => p.2.2.elim (fun h => h ((geD_t h87).2 (decP_true.1 h90))) h91)), hd76.ok, ho80, ho81, hb82, hb83, (hr49.mono (Pin.le_trans hx64.le hx78.le))⟩
       omega
      refine qs rfl rfl rfl rfl rfl rfl ?_
      refine qs rfl rfl rfl rfl rfl rfl ?_
      refine qs rfl rfl rfl rfl rfl rfl ?_
      refine qdg rfl rfl rfl rfl rfl rfl (yX (v := (.bool true)) rfl rfl) ?_
      refine qD rfl (yX (v := (.bool true)) rfl rfl) ?_
      refine qe (zB ?_)
      refine c_ifT rfl rfl ?_
      refine zF ?_
      refine qD rfl (zA (v := ov2) rfl) ?_
      refine qD rfl (zA (v := (.int .i64 (i : Int))) rfl) ?_
      refine qI rfl (zP (vs := [ov2, (.int .i64 (i : Int))]) Tryz.func149 nm149 rfl rfl rfl ?_)
      refine Calls.mono (qQ hX79.pins (hr49.mono (Pin.le_trans hx64.le hx78.le)) (by omega)) ?_
      rintro _ w105 ⟨u103, G104, rfl, hr106, hx107⟩
      refine ⟨_, rfl, ?_⟩
      have hX108 := hX79.tr hx107
      have ho109 := hd76.ok.ext hx107
      have ho110 := ho80.ext hx107
      have ho111 := ho81.ext hx107
      have hb112 := hb82.ext hx107
      have hb113 := hb83.ext hx107
      refine qD rfl (zD (v := u103) rfl) ?_
      refine qe ?_
      refine yA ?_
      refine zB (zF ?_)
      refine qD rfl (zA (v := (.int .i64 (j : Int))) rfl) ?_
      refine qD rfl (yJ rfl rfl (by omega)) ?_
      refine qD rfl (zD (v := (.int .i64 ((j : Int) + 1))) rfl) ?_
      refine qe ?_
      refine zY ?_
      refine ⟨_, ?_, _, rfl, _, j + 1, ks73, u103, putL out2 (i : Int), G104, (zC (x := 9) (zC (x := 8) (zC (x := 7) (zC (x := 6) (zC (x := 2) (zC (x := 1) (zN (x := 0) rfl) rfl) rfl) rfl) rfl) rfl) rfl), rfl, hX108, (Pin.le_trans (Pin.le_trans (Pin.le_trans hlek40 hx64.le) hx78.le) hx107.le), (by omega), hka86, (domI_yes hout2 (by rw [hout]; exact (dom_len i).2) ⟨h88, (geD_t h87).2 (decP_true.1 h89), Or.inl (fun h => (decP_false.1 h90) ((geD_t h87).1 h))⟩), ho109, ho110, ho111, hb112, hb113, hr106⟩
      omega
     refine qs rfl rfl rfl rfl rfl rfl ?_
     refine qs rfl rfl rfl rfl rfl rfl ?_
     refine qs rfl rfl rfl rfl rfl rfl ?_
     refine qsu rfl rfl rfl rfl rfl ?_
     refine qsu rfl rfl rfl rfl rfl ?_
     refine qsu rfl rfl rfl rfl rfl ?_
     refine qs rfl rfl rfl rfl rfl rfl ?_
     refine qD rfl (yV (v := (.bool false)) rfl rfl) ?_
     refine qe (zB ?_)
     refine qE rfl rfl ?_
     refine wp_skip ?_
     refine yA ?_
     refine zB (zF ?_)
     refine qD rfl (zA (v := (.int .i64 (j : Int))) rfl) ?_
     refine qD rfl (yJ rfl rfl (by omega)) ?_
     refine qD rfl (zD (v := (.int .i64 ((j : Int) + 1))) rfl) ?_
     refine qe ?_
     refine zY ?_
     refine ⟨_, ?_, _, rfl, _, j + 1, ks73, ov2, out2, G74, (zC (x := 9) (zC (x := 8) (zC (x := 7) (zC (x := 6) (zC (x := 2) (zC (x := 1) (zN (x := 0) rfl) rfl) rfl) rfl) rfl) rfl) rfl), rfl, hX79, (Pin.le_trans (Pin.le_trans hlek40 hx64.le) hx78.le), (by omega), hka86, (domI_no hout2 (fun p => (decP_false.1 h89) ((geD_t h87).1 p.2.1))), hd76.ok, ho80, ho81, hb82, hb83, (hr49.mono (Pin.le_trans hx64.le hx78.le))⟩
     omega
    refine qs rfl rfl rfl rfl rfl rfl ?_
    refine qD rfl (yV (v := (.bool false)) rfl rfl) ?_
    refine qD rfl (zA (v := (.bool false)) rfl) ?_
    refine qs rfl rfl rfl rfl rfl rfl ?_
    refine qs rfl rfl rfl rfl rfl rfl ?_
    refine qs rfl rfl rfl rfl rfl rfl ?_
    refine qsu rfl rfl rfl rfl rfl ?_
    refine qsu rfl rfl rfl rfl rfl ?_
    refine qsu rfl rfl rfl rfl rfl ?_
    refine qs rfl rfl rfl rfl rfl rfl ?_
    refine qD rfl (yV (v := (.bool false)) rfl rfl) ?_
    refine qe (zB ?_)
    refine qE rfl rfl ?_
    refine wp_skip ?_
    refine yA ?_
    refine zB (zF ?_)
    refine qD rfl (zA (v := (.int .i64 (j : Int))) rfl) ?_
    refine qD rfl (yJ rfl rfl (by omega)) ?_
    refine qD rfl (zD (v := (.int .i64 ((j : Int) + 1))) rfl) ?_
    refine qe ?_
    refine zY ?_
    refine ⟨_, ?_, _, rfl, _, j + 1, ks73, ov2, out2, G74, (zC (x := 9) (zC (x := 8) (zC (x := 7) (zC (x := 6) (zC (x := 2) (zC (x := 1) (zN (x := 0) rfl) rfl) rfl) rfl) rfl) rfl) rfl), rfl, hX79, (Pin.le_trans (Pin.le_trans hlek40 hx64.le) hx78.le), (by omega), hka86, (domI_no hout2 (fun p => h88 p.1)), hd76.ok, ho80, ho81, hb82, hb83, (hr49.mono (Pin.le_trans hx64.le hx78.le))⟩
    omega
   refine zF ?_
   refine qD rfl (zA (v := (.bool (geB ns (xs.getD i 0) (xs.getD j 0)))) rfl) ?_
   refine qD rfl (zA (v := (.bool (geB ns (xs.getD j 0) (xs.getD i 0)))) rfl) ?_
   refine qD rfl (zD (v := (.bool (geB ns (xs.getD i 0) (xs.getD j 0)))) rfl) ?_
   refine qD rfl (zD (v := (.bool (geB ns (xs.getD j 0) (xs.getD i 0)))) rfl) ?_
   refine qe (zB (zE (zF ?_)))
   refine qD rfl (zA (v := (.int .i64 (j : Int))) rfl) ?_
   refine qD rfl (zA (v := (.int .i64 (i : Int))) rfl) ?_
   refine qD rfl (r_neq rfl rfl) ?_
   refine qD rfl (zA (v := (.bool (decide (((j : Int) : Int) ≠ (i : Int))))) rfl) ?_
   refine qbd (p := ((j : Int) : Int) ≠ (i : Int)) (t := 52) rfl (fun h114 => ?_) (fun h114 => ?_)
   ·skip
    refine qdg rfl rfl rfl rfl rfl rfl (zA (v := (.bool (geB ns (xs.getD i 0) (xs.getD j 0)))) rfl) ?_
    refine qD rfl (yX (v := (.bool (geB ns (xs.getD i 0) (xs.getD j 0)))) rfl rfl) ?_
    refine qD rfl (zA (v := (.bool (geB ns (xs.getD i 0) (xs.getD j 0)))) rfl) ?_
    refine qb (t := 55) rfl (fun h115 => ?_) (fun h115 => ?_)
    ·skip
     refine qdg rfl rfl rfl rfl rfl rfl (zA (v := (.bool (geB ns (xs.getD j 0) (xs.getD i 0)))) rfl) ?_
     refine qdg rfl rfl rfl rfl rfl rfl (xS rfl) ?_
     refine qdg rfl rfl rfl rfl rfl rfl (zA (v := (.bool (!(geB ns (xs.getD j 0) (xs.getD i 0))))) rfl) ?_
     refine qbn (t := 58) rfl (fun h116 => ?_) (fun h116 => ?_)
     ·skip
      refine qdg rfl rfl rfl rfl rfl rfl (zA (v := (.int .i64 (j : Int))) rfl) ?_
      refine qdg rfl rfl rfl rfl rfl rfl (zA (v := (.int .i64 (i : Int))) rfl) ?_
      refine qdg rfl rfl rfl rfl rfl rfl (yN rfl rfl) ?_
      refine qdg rfl rfl rfl rfl rfl rfl (yV (v := (.bool (decide (((j : Int) : Int) < (i : Int))))) rfl rfl) ?_
      refine qD rfl (yX (v := (.bool (decide (((j : Int) : Int) < (i : Int))))) rfl rfl) ?_
      refine qe (zB ?_)
      refine yE (p := ((j : Int) : Int) < (i : Int)) rfl rfl (fun h117 => ?_) (fun h117 => ?_)
      ·skip
       refine zF ?_
       refine qD rfl (zA (v := ov2) rfl) ?_
       refine qD rfl (zA (v := (.int .i64 (i : Int))) rfl) ?_
       refine qI rfl (zP (vs := [ov2, (.int .i64 (i : Int))]) Tryz.func149 nm149 rfl rfl rfl ?_)
       refine Calls.mono (qQ hX79.pins (hr49.mono (Pin.le_trans hx64.le hx78.le)) (by omega)) ?_
       rintro _ w120 ⟨u118, G119, rfl, hr121, hx122⟩
       refine ⟨_, rfl, ?_⟩
       have hX123 := hX79.tr hx122
       have ho124 := hd76.ok.ext hx122
       have ho125 := ho80.ext hx122
       have ho126 := ho81.ext hx122
       have hb127 := hb82.ext hx122
       have hb128 := hb83.ext hx122
       refine qD rfl (zD (v := u118) rfl) ?_
       refine qe ?_
       refine yA ?_
       refine zB (zF ?_)
       refine qD rfl (zA (v := (.int .i64 (j : Int))) rfl) ?_
       refine qD rfl (yJ rfl rfl (by omega)) ?_
       refine qD rfl (zD (v := (.int .i64 ((j : Int) + 1))) rfl) ?_
       refine qe ?_
       refine zY ?_
       refine ⟨_, ?_, _, rfl, _, j + 1, ks73, u118, putL out2 (i : Int), G119, (zC (x := 9) (zC (x := 8) (zC (x := 7) (zC (x := 6) (zC (x := 2) (zC (x := 1) (zN (x := 0) rfl) rfl) rfl) rfl) rfl) rfl) rfl), rfl, hX123, (Pin.le_trans (Pin.le_trans (Pin.le_trans hlek40 hx64.le) hx78.le) hx122.le), (by omega), hka86, (domI_yes hout2 (by rw [hout]; exact (dom_len i).2) ⟨h114, (geD_f h87).2 (decP_true.1 h115), Or.inr h117⟩), ho124, ho125, ho126, hb127, hb128, hr121⟩
       omega
      refine wp_skip ?_
      refine yA ?_
      refine zB (zF ?_)
      refine qD rfl (zA (v := (.int .i64 (j : Int))) rfl) ?_
      refine qD rfl (yJ rfl rfl (by omega)) ?_
      refine qD rfl (zD (v := (.int .i64 ((j : Int) + 1))) rfl) ?_
      refine qe ?_
      refine zY ?_
      refine ⟨_, ?_, _, rfl, _, j + 1, ks73, ov2, out2, G74, (zC (x := 9) (zC (x := 8) (zC (x := 7) (zC (x := 6) (zC (x := 2) (zC (x := 1) (zN (x := 0) rfl) rfl) rfl) rfl) rfl) rfl) rfl), rfl, hX79, (Pin.le_trans (Pin.le_trans hlek40 hx64.le) hx78.le), (by omega), hka86, (domI_no hout2 (fun p => p.2.2.elim (fun h => h ((geD_f h87).2 (decP_true.1 h116))) h117)), hd76.ok, ho80, ho81, hb82, hb83, (hr49.mono (Pin.le_trans hx64.le hx78.le))⟩
      omega
     refine qs rfl rfl rfl rfl rfl rfl ?_
     refine qs rfl rfl rfl rfl rfl rfl ?_
     refine qs rfl rfl rfl rfl rfl rfl ?_
     refine qdg rfl rfl rfl rfl rfl rfl (yX (v := (.bool true)) rfl rfl) ?_
     refine qD rfl (yX (v := (.bool true)) rfl rfl) ?_
     refine qe (zB ?_)
     refine c_ifT rfl rfl ?_
     refine zF ?_
     refine qD rfl (zA (v := ov2) rfl) ?_
     refine qD rfl (zA (v := (.int .i64 (i : Int))) rfl) ?_
     refine qI rfl (zP (vs := [ov2, (.int .i64 (i : Int))]) Tryz.func149 nm149 rfl rfl rfl ?_)
     refine Calls.mono (qQ hX79.pins (hr49.mono (Pin.le_trans hx64.le hx78.le)) (by omega)) ?_
     rintro _ w131 ⟨u129, G130, rfl, hr132, hx133⟩
     refine ⟨_, rfl, ?_⟩
     have hX134 := hX79.tr hx133
     have ho135 := hd76.ok.ext hx133
     have ho136 := ho80.ext hx133
     have ho137 := ho81.ext hx133
     have hb138 := hb82.ext hx133
     have hb139 := hb83.ext hx133
     refine qD rfl (zD (v := u129) rfl) ?_
     refine qe ?_
     refine yA ?_
     refine zB (zF ?_)
     refine qD rfl (zA (v := (.int .i64 (j : Int))) rfl) ?_
     refine qD rfl (yJ rfl rfl (by omega)) ?_
     refine qD rfl (zD (v := (.int .i64 ((j : Int) + 1))) rfl) ?_
     refine qe ?_
     refine zY ?_
     refine ⟨_, ?_, _, rfl, _, j + 1, ks73, u129, putL out2 (i : Int), G130, (zC (x := 9) (zC (x := 8) (zC (x := 7) (zC (x := 6) (zC (x := 2) (zC (x := 1) (zN (x := 0) rfl) rfl) rfl) rfl) rfl) rfl) rfl), rfl, hX134, (Pin.le_trans (Pin.le_trans (Pin.le_trans hlek40 hx64.le) hx78.le) hx133.le), (by omega), hka86, (domI_yes hout2 (by rw [hout]; exact (dom_len i).2) ⟨h114, (geD_f h87).2 (decP_true.1 h115), Or.inl (fun h => (decP_false.1 h116) ((geD_f h87).1 h))⟩), ho135, ho136, ho137, hb138, hb139, hr132⟩
     omega
    refine qs rfl rfl rfl rfl rfl rfl ?_
    refine qs rfl rfl rfl rfl rfl rfl ?_
    refine qs rfl rfl rfl rfl rfl rfl ?_
    refine qsu rfl rfl rfl rfl rfl ?_
    refine qsu rfl rfl rfl rfl rfl ?_
    refine qsu rfl rfl rfl rfl rfl ?_
    refine qs rfl rfl rfl rfl rfl rfl ?_
    refine qD rfl (yV (v := (.bool false)) rfl rfl) ?_
    refine qe (zB ?_)
    refine qE rfl rfl ?_
    refine wp_skip ?_
    refine yA ?_
    refine zB (zF ?_)
    refine qD rfl (zA (v := (.int .i64 (j : Int))) rfl) ?_
    refine qD rfl (yJ rfl rfl (by omega)) ?_
    refine qD rfl (zD (v := (.int .i64 ((j : Int) + 1))) rfl) ?_
    refine qe ?_
    refine zY ?_
    refine ⟨_, ?_, _, rfl, _, j + 1, ks73, ov2, out2, G74, (zC (x := 9) (zC (x := 8) (zC (x := 7) (zC (x := 6) (zC (x := 2) (zC (x := 1) (zN (x := 0) rfl) rfl) rfl) rfl) rfl) rfl) rfl), rfl, hX79, (Pin.le_trans (Pin.le_trans hlek40 hx64.le) hx78.le), (by omega), hka86, (domI_no hout2 (fun p => (decP_false.1 h115) ((geD_f h87).1 p.2.1))), hd76.ok, ho80, ho81, hb82, hb83, (hr49.mono (Pin.le_trans hx64.le hx78.le))⟩
    omega
   refine qs rfl rfl rfl rfl rfl rfl ?_
   refine qD rfl (yV (v := (.bool false)) rfl rfl) ?_
   refine qD rfl (zA (v := (.bool false)) rfl) ?_
   refine qs rfl rfl rfl rfl rfl rfl ?_
   refine qs rfl rfl rfl rfl rfl rfl ?_
   refine qs rfl rfl rfl rfl rfl rfl ?_
   refine qsu rfl rfl rfl rfl rfl ?_
   refine qsu rfl rfl rfl rfl rfl ?_
   refine qsu rfl rfl rfl rfl rfl ?_
   refine qs rfl rfl rfl rfl rfl rfl ?_
   refine qD rfl (yV (v := (.bool false)) rfl rfl) ?_
   refine qe (zB ?_)
   refine qE rfl rfl ?_
   refine wp_skip ?_
   refine yA ?_
   refine zB (zF ?_)
   refine qD rfl (zA (v := (.int .i64 (j : Int))) rfl) ?_
   refine qD rfl (yJ rfl rfl (by omega)) ?_
   refine qD rfl (zD (v := (.int .i64 ((j : Int) + 1))) rfl) ?_
   refine qe ?_
   refine zY ?_
   refine ⟨_, ?_, _, rfl, _, j + 1, ks73, ov2, out2, G74, (zC (x := 9) (zC (x := 8) (zC (x := 7) (zC (x := 6) (zC (x := 2) (zC (x := 1) (zN (x := 0) rfl) rfl) rfl) rfl) rfl) rfl) rfl), rfl, hX79, (Pin.le_trans (Pin.le_trans hlek40 hx64.le) hx78.le), (by omega), hka86, (domI_no hout2 (fun p => h114 p.1)), hd76.ok, ho80, ho81, hb82, hb83, (hr49.mono (Pin.le_trans hx64.le hx78.le))⟩
   omega
  refine wp_exit ?_
  refine zX ?_
  refine yL ?_
  refine yF ?_
  refine yA ?_
  refine zB (zF ?_)
  refine qD rfl (zA (v := (.int .i64 (i : Int))) rfl) ?_
  refine qD rfl (yJ rfl rfl (by omega)) ?_
  refine qD rfl (zD (v := (.int .i64 ((i : Int) + 1))) rfl) ?_
  refine qe ?_
  refine zY ?_
  have hjn : j = xs.length := by omega
  rw [hjn, hout] at hout2
  refine ⟨_, ?_, _, rfl, _, i + 1, kq2, ov2, out2, GL2, (zC (x := 8) (zC (x := 7) (zC (x := 6) (zC (x := 2) (zC (x := 1) (zN (x := 0) rfl) rfl) rfl) rfl) rfl) rfl), rfl, hX43, (Pin.le_trans hlek19 hlek40), (by omega), hka2, (domI_end hout2), hw44, hw45, hw46, hw47, hw48, hr49⟩
  omega
 refine wp_exit ?_
 refine zX ?_
 refine yL ?_
 refine yF ?_
 refine zB (zE (zF ?_))
 refine qD rfl (zA (v := ov) rfl) ?_
 refine qD rfl (zD (v := ov) rfl) ?_
 refine qe (zB ?_)
 refine wp_ret ?_
 refine zW ?_
 refine zS (v := ov) rfl rfl rfl ?_
 have hin : i = xs.length := by omega
 rw [hin] at hout
 exact ⟨_, _, _, rfl, (by rw [← hout]; exact hr38), ⟨⟨hw36, hw34, hw35, habu, habv, hauv⟩, hw37, hw33, haok, habk, hauk, havk⟩, hka1, hX22⟩

theorem l1Has_spec {w : World} {G : Pin} {v : Value} {xs : List Int} {n : Int} (hP : Pins G w) (hv : RSl eInt G v xs) :
  Calls Tryz.prog 161 [v, (.int .i64 n)].toArray w fun e w' => ∃ G', e = .returned (.bool (decide (n ∈ xs))) ∧ Ext noS G w G' w' := by
 refine yD (n := 18) Tryz.func161 Tryz.ntmps161 rfl rfl ?_
 have hX0 : Ext noS G w G w := Ext.refl hP
 have hm := hv.max
 refine zE (zF ?_)
 refine qD rfl (zD (v := (.bool false)) rfl) ?_
 refine qe (zB (zE (zE (zF ?_))))
 refine qD rfl (zD (v := (.int .i64 0)) rfl) ?_
 refine qe (zB ?_)
 refine zZ ?_
 refine yM (fun (k : Nat) (en : Nat → Value) (W : World) => ∃ (env1 : Nat → Value) (j : Nat) (GL1 : Pin), en = (upd (upd (upd env1 0 v) 1 (.int .i64 n)) 5 (.int .i64 (j : Int))) ∧ k = xs.length - j ∧ Ext noS G w GL1 W ∧ Pin.le G GL1 ∧ (j ≤ xs.length) ∧ (∀ i, i < j → xs.getD i 0 ≠ n)) _ ⟨_, 0, G, (zC (x := 5) (zC (x := 1) (zN (x := 0) rfl) rfl) rfl), rfl, hX0, Pin.le_refl _, Nat.zero_le _, (fun i hi => absurd hi (Nat.not_lt_zero i))⟩ ?_
 rintro k1 _ w2 ⟨env1, j, GL1, rfl, hk3, hX4, hlek1, hj, hno⟩
 refine zE (zE (zF ?_))
 refine qD rfl (zA (v := (.int .i64 (j : Int))) rfl) ?_
 refine qD rfl (zA (v := v) rfl) ?_
 refine qD rfl (zL Tryz.underlying67 (v := v) rfl hv) ?_
 refine qD rfl (yN rfl rfl) ?_
 refine qe (zB ?_)
 refine yE (p := ((j : Int) : Int) < (xs.length : Int)) rfl rfl (fun h5 => ?_) (fun h5 => ?_)
 ·skip
  refine wp_skip ?_
  refine zB (zE ?_)
  refine zZ ?_
  refine zE (zF ?_)
  refine qD rfl (zA (v := v) rfl) ?_
  refine qD rfl (zA (v := (.int .i64 (j : Int))) rfl) ?_
  refine qD rfl (zJ Tryz.underlying67 sz3 (v := v) rfl rfl hv (by omega) (by omega)) ?_
  refine qD rfl (zI (r := xs.getD j 0) rfl ag3 (z := (j : Int)) rfl hv (Pins.of_le hX4.pins hlek1) (by omega) (by omega)) ?_
  refine qD rfl (zA (v := (.int .i64 n)) rfl) ?_
  refine qD rfl (r_eql rfl rfl) ?_
  refine qe (zB ?_)
  refine yE (p := (xs.getD j 0 : Int) = n) rfl rfl (fun h6 => ?_) (fun h6 => ?_)
  ·skip
   refine zE (zF ?_)
   refine qD rfl (zD (v := (.bool true)) rfl) ?_
   refine qe (zB ?_)
   refine wp_ret ?_
   refine zW ?_
   refine zS (v := (.bool true)) rfl rfl rfl ?_
   exact ⟨_, congrArg (fun z => Ending.returned (Value.bool z)) (has_yes (by omega) h6).symm, hX4⟩
  refine wp_skip ?_
  refine yA ?_
  refine zB (zF ?_)
  refine qD rfl (zA (v := (.int .i64 (j : Int))) rfl) ?_
  refine qD rfl (yJ rfl rfl (by omega)) ?_
  refine qD rfl (zD (v := (.int .i64 ((j : Int) + 1))) rfl) ?_
  refine qe ?_
  refine zY ?_
  refine ⟨_, ?_, _, rfl, _, j + 1, GL1, (zC (x := 5) (zC (x := 1) (zN (x := 0) rfl) rfl) rfl), rfl, hX4, hlek1, (by omega), (fun i hi => if h3 : i = j then h3 ▸ h6 else hno i (by omega))⟩
  omega
 refine wp_exit ?_
 refine zX ?_
 refine yL ?_
 refine yF ?_
 refine zB (zE (zF ?_))
 refine qD rfl (zD (v := (.bool false)) rfl) ?_
 refine qe (zB ?_)
 refine wp_ret ?_
 refine zW ?_
 refine zS (v := (.bool false)) rfl rfl rfl ?_
 exact ⟨_, congrArg (fun z => Ending.returned (Value.bool z)) (has_no (fun i hi => hno i (by omega))).symm, hX4⟩

theorem l6Without_spec {w : World} {G : Pin} {x y : Value} {xs D : List Int} (hP : Pins G w) (hx : RSl eInt G x xs) (hy : RSl eInt G y D) (hxl : xs.length ≤ 1048576) :
  Calls Tryz.prog 142 [x, y].toArray w fun e w' => ∃ (u : Value) (G' : Pin), e = .returned u ∧ Own eInt 3 G' w' w.heap.size u (woL xs D xs.length) ∧ Ext noS G w G' w' := by
 refine yD (n := 26) Tryz.func142 Tryz.ntmps142 rfl rfl ?_
 have hX0 : Ext noS G w G w := Ext.refl hP
 refine zE (zF ?_)
 refine qD rfl (zD (v := (.slice none 0 0)) rfl) ?_
 refine qe (zB (zE (zF ?_)))
 refine qI rfl (yZ (E := eInt) (e := 3) Tryz.underlying67 sz3 hX0.pins (fun u1 w2 ho3 hp4 hl5 hk6 => ?_))
 have hX7 := hX0.step hp4 hl5
 have ho8 : Own eInt 3 G w2 w.heap.size u1 ([]) := ho3.weaken hX0.size
 refine qD rfl (zD (v := u1) rfl) ?_
 refine qe (zB (zE (zE (zF ?_))))
 refine qD rfl (zD (v := (.int .i64 0)) rfl) ?_
 refine qe (zB ?_)
 refine zZ ?_
 refine yM (fun (k : Nat) (en : Nat → Value) (W : World) => ∃ (env1 : Nat → Value) (i : Nat) (ov : Value) (out : List Int) (GL1 : Pin), en = (upd (upd (upd (upd (upd env1 0 x) 1 y) 4 (.slice none 0 0)) 5 ov) 6 (.int .i64 (i : Int))) ∧ k = xs.length - i ∧ Ext noS G w GL1 W ∧ Pin.le G GL1 ∧ (i ≤ xs.length) ∧ (out = woL xs D i) ∧ (Own eInt 3 GL1 W w.heap.size ov (out))) _ ⟨_, 0, u1, [], G, (zC (x := 6) (zC (x := 5) (zC (x := 4) (zC (x := 1) (zN (x := 0) rfl) rfl) rfl) rfl) rfl), rfl, hX7, Pin.le_refl _, Nat.zero_le _, rfl, ho8⟩ ?_
 rintro k9 _ w10 ⟨env1, i, ov, out, GL1, rfl, hk11, hX12, hlek9, hi, hout, hw13⟩
 have hol : out.length ≤ i := by rw [hout]; exact wo_len i
 refine zE (zE (zF ?_))
 refine qD rfl (zA (v := (.int .i64 (i : Int))) rfl) ?_
 refine qD rfl (zA (v := x) rfl) ?_
 refine qD rfl (zL Tryz.underlying67 (v := x) rfl hx) ?_
 refine qD rfl (yN rfl rfl) ?_
 refine qe (zB ?_)
 refine yE (p := ((i : Int) : Int) < (xs.length : Int)) rfl rfl (fun h14 => ?_) (fun h14 => ?_)
 ·skip
  refine wp_skip ?_
  refine zB (zE ?_)
  refine zZ ?_
  refine zE (zF ?_)
  refine qD rfl (zA (v := y) rfl) ?_
  refine qD rfl (zA (v := (.int .i64 (i : Int))) rfl) ?_
  refine qI rfl (zP (vs := [y, (.int .i64 (i : Int))]) Tryz.func161 nm161 rfl rfl rfl ?_)
  refine Calls.mono (l1Has_spec (n := (i : Int)) (hX12.pins) (hy.mono hlek9)) ?_
  rintro _ w16 ⟨G15, rfl, hx17⟩
  refine ⟨_, rfl, ?_⟩
  have hx18 := deep_back hX12.pins hx17
  have hX19 := hX12.step hx18.pins hx18.below
  have ho20 := hw13.below hx18.below
  refine qD rfl (xS rfl) ?_
  refine qe (zB ?_)
  refine qW rfl rfl (fun h21 => ?_) (fun h21 => ?_)
  ·skip
   replace h21 := of_decide_eq_true h21
   refine wp_skip ?_
   refine yA ?_
   refine zB (zF ?_)
   refine qD rfl (zA (v := (.int .i64 (i : Int))) rfl) ?_
   refine qD rfl (yJ rfl rfl (by omega)) ?_
   refine qD rfl (zD (v := (.int .i64 ((i : Int) + 1))) rfl) ?_
   refine qe ?_
   refine zY ?_
   refine ⟨_, ?_, _, rfl, _, i + 1, ov, out, GL1, (zC (x := 6) (zC (x := 5) (zC (x := 4) (zC (x := 1) (zN (x := 0) rfl) rfl) rfl) rfl) rfl), rfl, hX19, hlek9, (by omega), (by rw [hout]; exact (if_pos h21).symm), ho20⟩
   omega
  replace h21 := of_decide_eq_false h21
  refine zF ?_
  refine qD rfl (zA (v := ov) rfl) ?_
  refine qD rfl (zA (v := x) rfl) ?_
  refine qD rfl (zA (v := (.int .i64 (i : Int))) rfl) ?_
  refine qD rfl (zJ Tryz.underlying67 sz3 (v := x) rfl rfl hx (by omega) (by omega)) ?_
  refine qD rfl (zI (r := xs.getD i 0) rfl ag3 (z := (i : Int)) rfl hx (Pins.of_le hX19.pins hlek9) (by omega) (by omega)) ?_
  refine qI rfl (yQ (E := eInt) (e := 3) [(.int .i64 (xs.getD i 0))] [xs.getD i 0] Tryz.underlying67 sz3 zr3 (by exact xO (by rfl)) (xG (by rfl)) rfl rfl rfl rfl (by decide) hX19.pins (fun u22 w23 ho24 hp25 hl26 hk27 => ?_))
  have hX28 := hX19.step hp25 hl26
  have ho29 := ho20.below hl26
  have ho31 : Own eInt 3 GL1 w23 w.heap.size u22 ([xs.getD i 0]) := ho24.weaken hX19.size
  refine qI rfl (yB (E := eInt) (v := ov) (u := u22) 8 Tryz.underlying67 ap3 (by decide) rfl rfl hX28.pins ho29 ho31.src (by first | omega | (rw [List.nil_append]; omega) | (rw [List.length_nil]; omega) | (rw [List.length_append]; omega) | (simp; done) | (simp; omega) | (simp only [List.length_append, List.length_cons, List.length_nil]; omega)) (by first | omega | (rw [List.nil_append]; omega) | (rw [List.length_nil]; omega) | (rw [List.length_append]; omega) | (simp; done) | (simp; omega) | (simp only [List.length_append, List.length_cons, List.length_nil]; omega)) (hX28.size) (fun u32 w33 ho34 hp35 hg36 hw37 => ?_))
  have hX38 := hX28.write hp35 hg36 ((yI ho29))
  have hm41 : (out ++ ([xs.getD i 0])).length = out.length + 1 := List.length_append
  refine qD rfl (zD (v := u32) rfl) ?_
  refine qe ?_
  refine yA ?_
  refine zB (zF ?_)
  refine qD rfl (zA (v := (.int .i64 (i : Int))) rfl) ?_
  refine qD rfl (yJ rfl rfl (by omega)) ?_
  refine qD rfl (zD (v := (.int .i64 ((i : Int) + 1))) rfl) ?_
  refine qe ?_
  refine zY ?_
  refine ⟨_, ?_, _, rfl, _, i + 1, u32, out ++ ([xs.getD i 0]), GL1, (zC (x := 6) (zC (x := 5) (zC (x := 4) (zC (x := 1) (zN (x := 0) rfl) rfl) rfl) rfl) rfl), rfl, hX38, hlek9, (by omega), (by rw [hout]; exact (if_neg h21).symm), ho34⟩
  omega
 refine wp_exit ?_
 refine zX ?_
 refine yL ?_
 refine yF ?_
 refine zB (zE (zF ?_))
 refine qD rfl (zA (v := ov) rfl) ?_
 refine qD rfl (zD (v := ov) rfl) ?_
 refine qe (zB ?_)
 refine wp_ret ?_
 refine zW ?_
 refine zS (v := ov) rfl rfl rfl ?_
 have hin : i = xs.length := by omega
 rw [hin] at hout
 exact ⟨_, _, rfl, (by rw [← hout]; exact hw13), hX12⟩

theorem l6Open_spec {w : World} {G : Pin} {o b : Nat} {bu bv kv : Value} {ns : List Nd} {bs : List Int} {ks : List Int} {y : Int} {x : Value} {xs : List Int} {lf : Bool} (hP : Pins G w) (hO : Od 103 3 G w o b bu bv kv ns bs ks) (hy : 0 ≤ y ∧ y < ns.length) (hx : RSl eInt G x xs) (hxl : xs.length ≤ 1048576) (hok : BookOk ns bs) (hka : KAll ns ks) (hpo : PoolOk (bkq ns bs)) (hl0 : LnOk (bkq ns bs) lf (den ns (y).toNat) xs 0 []) :
  Calls Tryz.prog 141 [(.pointer (some ⟨o, 0, none⟩)), (.int .i64 y), x, (.bool lf)].toArray w fun e w' => ∃ (u : Value) (ln out : List Int) (ks' : List Int) (G' : Pin), e = .returned u ∧ RSl eInt G' u out ∧ RdW (bkq ns bs) lf (den ns (y).toNat) [] ln out ∧ Od 103 3 G' w' o b bu bv kv ns bs ks' ∧ KAll ns ks' ∧ Ext (inO kv.ownBlock) G w G' w' := by
 refine yD (n := 86) Tryz.func141 Tryz.ntmps141 rfl rfl ?_
 have hX0 : Ext (inO kv.ownBlock) G w G w := Ext.refl hP
 have hB := hO.bk
 have hbx := hB.bx
 have hou := hB.ou
 have hov := hB.ov
 have habu := hB.abu
 have habv := hB.abv
 have hauv := hB.auv
 have hlen := hok.len
 have hlim := hok.lim
 have hox := hO.ox
 have hok2 := hO.ok
 have haok := hO.aok
 have habk := hO.abk
 have hauk := hO.auk
 have havk := hO.avk
 have hlok : Lo w (inO kv.ownBlock) kv.ownBlock := xP
 have hoo : OptsOk ns := hok.optsOk
 have hlens := hok.lens
 have hxm := hx.max
 refine zE (zF ?_)
 refine qD rfl (zD (v := (.slice none 0 0)) rfl) ?_
 refine qe (zB (zE (zF ?_)))
 refine qI rfl (yZ (E := eInt) (e := 3) Tryz.underlying67 sz3 hX0.pins (fun u1 w2 ho3 hp4 hl5 hk6 => ?_))
 have hX7 := hX0.step hp4 hl5
 have ho8 := hou.below hl5
 have ho9 := hov.below hl5
 have ho10 := hok2.below hl5
 have hb11 := hbx.below hl5
 have hb12 := hox.below hl5
 have ha13 : Apart u1.ownBlock bu.ownBlock := zK hk6 hou.lt
 have ha14 : Apart u1.ownBlock bv.ownBlock := zK hk6 hov.lt
 have ha15 : Apart u1.ownBlock kv.ownBlock := zK hk6 hok2.lt
 have ha16 : Apart u1.ownBlock (some b) := zR hk6 hbx.lt
 have ha17 : Apart u1.ownBlock (some o) := zR hk6 hox.lt
 have ho18 : Own eInt 3 G w2 w.heap.size u1 ([]) := ho3.weaken hX0.size
 refine qD rfl (zA (v := x) rfl) ?_
 refine qI rfl (yB (E := eInt) (v := u1) (u := x) 8 Tryz.underlying67 ap3 (by decide) rfl rfl hX7.pins ho18 ((hx.mono (Pin.le_refl _)).src hX7.pins (by decide)) (by first | omega | (rw [List.nil_append]; omega) | (rw [List.length_nil]; omega) | (rw [List.length_append]; omega) | (simp; done) | (simp; omega) | (simp only [List.length_append, List.length_cons, List.length_nil]; omega)) (by first | omega | (rw [List.nil_append]; omega) | (rw [List.length_nil]; omega) | (rw [List.length_append]; omega) | (simp; done) | (simp; omega) | (simp only [List.length_append, List.length_cons, List.length_nil]; omega)) (hX7.size) (fun u19 w20 ho21 hp22 hg23 hw24 => ?_))
 have hX25 := hX7.write hp22 hg23 ((yI ho18))
 have ho26 := ho8.keptA hg23 ha13.symm
 have ho27 := ho9.keptA hg23 ha14.symm
 have ho28 := ho10.keptA hg23 ha15.symm
 have hb29 := hb11.keptA hg23 ha16.symm
 have hb30 := hb12.keptA hg23 ha17.symm
 have ha31 : Apart bu.ownBlock u19.ownBlock := zH ha13.symm hw24 ho8.lt
 have ha32 : Apart bv.ownBlock u19.ownBlock := zH ha14.symm hw24 ho9.lt
 have ha33 : Apart kv.ownBlock u19.ownBlock := zH ha15.symm hw24 ho10.lt
 have ha34 : Apart (some b) u19.ownBlock := zQ ha16.symm hw24 hb11.lt
 have ha35 : Apart (some o) u19.ownBlock := zQ ha17.symm hw24 hb12.lt
 have hm36 : (([]) ++ xs).length = ([]).length + xs.length := List.length_append
 refine qI rfl (yZ (E := eInt) (e := 3) Tryz.underlying67 sz3 hX25.pins (fun u37 w38 ho39 hp40 hl41 hk42 => ?_))
 have hX43 := hX25.step hp40 hl41
 have ho44 := ho26.below hl41
 have ho45 := ho27.below hl41
 have ho46 := ho28.below hl41
 have ho47 := ho21.below hl41
 have hb48 := hb29.below hl41
 have hb49 := hb30.below hl41
 have ha50 : Apart u37.ownBlock bu.ownBlock := zK hk42 ho26.lt
 have ha51 : Apart u37.ownBlock bv.ownBlock := zK hk42 ho27.lt
 have ha52 : Apart u37.ownBlock kv.ownBlock := zK hk42 ho28.lt
 have ha53 : Apart u37.ownBlock u19.ownBlock := zK hk42 ho21.lt
 have ha54 : Apart u37.ownBlock (some b) := zR hk42 hb29.lt
 have ha55 : Apart u37.ownBlock (some o) := zR hk42 hb30.lt
 have ho56 : Own eInt 3 G w38 w.heap.size u37 ([]) := ho39.weaken hX25.size
 refine qD rfl (zD (v := u19) rfl) ?_
 refine qD rfl (zD (v := u37) rfl) ?_
 refine qe (zB (zE (zE (zF ?_))))
 refine qD rfl (zD (v := (.int .i64 0)) rfl) ?_
 refine qe (zB ?_)
 refine zZ ?_
 obtain ⟨G57, hle60, hX59, hr58, hf61⟩ := ho56.sealed hX43
 have ho62 := ho44.moreO hle60 hf61 ha50.symm
 have ho63 := ho45.moreO hle60 hf61 ha51.symm
 have ho64 := ho46.moreO hle60 hf61 ha52.symm
 have ho65 := ho47.moreO hle60 hf61 ha53.symm
 have hb66 := hb48.moreO hf61 ha54.symm
 have hb67 := hb49.moreO hf61 ha55.symm
 refine yM (fun (k : Nat) (en : Nat → Value) (W : World) => ∃ (env1 : Nat → Value) (i : Nat) (kq : List Int) (lv : Value) (ln : List Int) (ov : Value) (out : List Int) (GL1 : Pin), en = (upd (upd (upd (upd (upd (upd (upd env1 0 (.pointer (some ⟨o, 0, none⟩))) 1 (.int .i64 y)) 3 (.bool lf)) 8 (.slice none 0 0)) 9 lv) 10 ov) 11 (.int .i64 (i : Int))) ∧ k = ns.length - i ∧ Ext (inO kv.ownBlock) G w GL1 W ∧ Pin.le G57 GL1 ∧ (LnOk (bkq ns bs) lf (den ns (y).toNat) ln i out) ∧ (i ≤ ln.length) ∧ (KAll ns kq) ∧ (Own eInt 3 GL1 W 0 kv (kq)) ∧ (Own eInt 3 GL1 W w.heap.size lv (ln)) ∧ (Own eNode 103 GL1 W 0 bu (ns)) ∧ (Own eInt 3 GL1 W 0 bv (bs)) ∧ (Bx GL1 W b [bu, bv]) ∧ (Bx GL1 W o [(.pointer (some ⟨b, 0, none⟩)), kv]) ∧ (Apart kv.ownBlock lv.ownBlock) ∧ (Apart lv.ownBlock bu.ownBlock) ∧ (Apart lv.ownBlock bv.ownBlock) ∧ (Apart lv.ownBlock (some b)) ∧ (Apart lv.ownBlock (some o)) ∧ (RSl eInt GL1 ov (out))) _ ⟨_, 0, ks, u19, ([]) ++ xs, u37, [], G57, (zC (x := 11) (zC (x := 10) (zC (x := 9) (zC (x := 8) (zC (x := 3) (zC (x := 1) (zN (x := 0) rfl) rfl) rfl) rfl) rfl) rfl) rfl), rfl, hX59, Pin.le_refl _, (by rw [List.nil_append]; exact hl0), Nat.zero_le _, hka, ho64, ho65, ho62, ho63, hb66, hb67, ha33, ha31.symm, ha32.symm, ha34.symm, ha35.symm, hr58⟩ ?_
 rintro k68 _ w69 ⟨env1, i, kq, lv, ln, ov, out, GL1, rfl, hk70, hX71, hlek68, hln, hiln, hka1, hw72, hw73, hw74, hw75, hw76, hw77, ha78, ha79, ha80, ha81, ha82, hr83⟩
 have hll : ln.length ≤ ns.length := hln.len
 refine zE (zE (zF ?_))
 refine qD rfl (zA (v := (.int .i64 (i : Int))) rfl) ?_
 refine qD rfl (zA (v := lv) rfl) ?_
 refine qD rfl (zL Tryz.underlying67 (v := lv) rfl hw73.read) ?_
 refine qD rfl (yN rfl rfl) ?_
 refine qe (zB ?_)
 refine yE (p := ((i : Int) : Int) < (ln.length : Int)) rfl rfl (fun h84 => ?_) (fun h84 => ?_)
 ·skip
  have hpi : 0 ≤ ln.getD i 0 ∧ ln.getD i 0 < ns.length := hln.at_ (by omega)
  have hol : out.length ≤ ns.length := jC _ _ hln.rd.ndk (fun x hx => (hln.rd.all x (Or.inr ((hln.rd.keep x).1 hx).1)).1)
  refine wp_skip ?_
  refine zB (zE ?_)
  refine zZ ?_
  refine zE (zF ?_)
  refine qD rfl (zA (v := (.pointer (some ⟨o, 0, none⟩))) rfl) ?_
  refine qD rfl (zA (v := (.int .i64 y)) rfl) ?_
  refine qD rfl (zA (v := lv) rfl) ?_
  refine qD rfl (zA (v := (.int .i64 (i : Int))) rfl) ?_
  refine qD rfl (zJ Tryz.underlying67 sz3 (v := lv) rfl rfl hw73.read (by omega) (by omega)) ?_
  refine qD rfl (zI (r := ln.getD i 0) rfl ag3 (z := (i : Int)) rfl hw73.read (Gadd.pins hX71.pins lv) (by omega) (by omega)) ?_
  refine qD rfl (zA (v := (.bool lf)) rfl) ?_
  refine qI rfl (zP (vs := [(.pointer (some ⟨o, 0, none⟩)), (.int .i64 y), (.int .i64 (ln.getD i 0)), (.bool lf)]) Tryz.func160 nm160 rfl rfl rfl ?_)
  refine Calls.mono (l6Through_spec (lf := lf) hX71.pins ⟨⟨hw76, hw74, hw75, habu, habv, hauv⟩, hw77, hw72, haok, habk, hauk, havk⟩ hy hpi hok hka1) ?_
  rintro _ w88 ⟨t85, ks86, G87, rfl, hthr89, hd90, hka91, hx92⟩
  refine ⟨_, rfl, ?_⟩
  have hX93 := hX71.trans hx92 (fun i hi => hlok i hi)
  have ho94 := hw73.extS hx92 (notO ha78.symm)
  have ho95 := hw74.extS hx92 (notO hauk)
  have ho96 := hw75.extS hx92 (notO havk)
  have hb97 := hw76.extS hx92 (qG habk)
  have hb98 := hw77.extS hx92 (qG haok)
  refine qD rfl (zD (v := (.int .i64 t85)) rfl) ?_
  refine qe (zB (zE (zE (zF ?_))))
  refine qD rfl (zA (v := (.int .i64 t85)) rfl) ?_
  refine qD rfl (yN rfl rfl) ?_
  refine qe (zB ?_)
  refine yE (p := (t85 : Int) < 0) rfl rfl (fun h99 => ?_) (fun h99 => ?_)
  ·skip
   refine zE (zF ?_)
   refine qD rfl (zA (v := ov) rfl) ?_
   refine qD rfl (zA (v := lv) rfl) ?_
   refine qD rfl (zA (v := (.int .i64 (i : Int))) rfl) ?_
   refine qD rfl (zJ Tryz.underlying67 sz3 (v := lv) rfl rfl ho94.read (by omega) (by omega)) ?_
   refine qD rfl (zI (r := ln.getD i 0) rfl ag3 (z := (i : Int)) rfl ho94.read (Gadd.pins hX93.pins lv) (by omega) (by omega)) ?_
   refine qI rfl (zP (vs := [ov, (.int .i64 (ln.getD i 0))]) Tryz.func149 nm149 rfl rfl rfl ?_)
   refine Calls.mono (qQ hX93.pins (hr83.mono hx92.le) (by omega)) ?_
   rintro _ w102 ⟨u100, G101, rfl, hr103, hx104⟩
   refine ⟨_, rfl, ?_⟩
   have hX105 := hX93.tr hx104
   have ho106 := hd90.ok.ext hx104
   have ho107 := ho94.ext hx104
   have ho108 := ho95.ext hx104
   have ho109 := ho96.ext hx104
   have hb110 := hb97.ext hx104
   have hb111 := hb98.ext hx104
   refine qD rfl (zD (v := u100) rfl) ?_
   refine qe (zB ?_)
   refine wp_exit ?_
   refine zX ?_
   refine yF ?_
   refine zB (zF ?_)
   refine qD rfl (zA (v := (.int .i64 (i : Int))) rfl) ?_
   refine qD rfl (yJ rfl rfl (by omega)) ?_
   refine qD rfl (zD (v := (.int .i64 ((i : Int) + 1))) rfl) ?_
   refine qe ?_
   refine zY ?_
   refine ⟨_, ?_, _, rfl, _, i + 1, ks86, lv, ln, u100, putL out (ln.getD i 0), G101, (zC (x := 11) (zC (x := 10) (zC (x := 9) (zC (x := 8) (zC (x := 3) (zC (x := 1) (zN (x := 0) rfl) rfl) rfl) rfl) rfl) rfl) rfl), rfl, hX105, (Pin.le_trans (Pin.le_trans hlek68 hx92.le) hx104.le), (hln.keep (by omega) (thr_no (q := (bkq ns bs)) hthr89 h99)), (by omega), hka91, ho106, ho107, ho108, ho109, hb110, hb111, ha78, ha79, ha80, ha81, ha82, hr103⟩
   omega
  refine wp_skip ?_
  refine zB (zE (zF ?_))
  have hti := thr_info (q := (bkq ns bs)) hpo hpi hthr89 (by omega)
  have hti0 : 0 ≤ t85 ∧ t85 < ns.length := hti.1
  have hlt := hok.lens (t85).toNat (by omega)
  refine qD rfl (zA (v := (.pointer (some ⟨o, 0, none⟩))) rfl) ?_
  refine qD rfl (yP rfl) ?_
  refine qD rfl (zM (k := 0) rfl Tryz.underlying156 rfl nz104 rfl) ?_
  refine qD rfl (zO (u := (.pointer (some ⟨b, 0, none⟩))) ag104 rfl (hb98.cell (o := 0) rfl)) ?_
  refine qD rfl (yP rfl) ?_
  refine qD rfl (zM (k := 0) rfl Tryz.underlying106 rfl nz30 rfl) ?_
  refine qD rfl (zO (u := bu) ag30 rfl (hb97.cell (o := 0) rfl)) ?_
  refine qD rfl (zA (v := (.int .i64 t85)) rfl) ?_
  refine qD rfl (zJ Tryz.underlying30 yO (v := bu) rfl rfl ho95.read (by omega) (by omega)) ?_
  refine qD rfl (xA (off := 0) Tryz.underlying103 rfl rfl nz67 (z := t85) (k := 0) rfl ho95.read (by omega) (by omega)) ?_
  obtain ⟨u112, hr113, hl114⟩ := nm_nl (ho95.at (z := t85) (by omega) (by omega)) (j := (t85).toNat) rfl
  have hm115 := hr113.max
  refine qD rfl (hl114 ag67 rfl (Gadd.pins hX93.pins bu)) ?_
  refine qD rfl (zD (v := u112) rfl) ?_
  refine qe (zB (zE (zE (zF ?_))))
  refine qD rfl (zA (v := (.bool lf)) rfl) ?_
  refine qD rfl (xS rfl) ?_
  refine qe (zB ?_)
  refine qW rfl rfl (fun h116 => ?_) (fun h116 => ?_)
  ·skip
   refine wp_skip ?_
   refine zB (zE (zF ?_))
   refine qD rfl (zD (v := (.int .i64 0)) rfl) ?_
   refine qe (zB ?_)
   refine zZ ?_
   refine yM (fun (k : Nat) (en : Nat → Value) (W : World) => ∃ (env1 : Nat → Value) (k2 : Nat) (lv2 : Value) (ln2 : List Int) (GL2 : Pin), en = (upd (upd (upd (upd (upd (upd (upd (upd (upd env1 0 (.pointer (some ⟨o, 0, none⟩))) 1 (.int .i64 y)) 3 (.bool lf)) 8 (.slice none 0 0)) 9 lv2) 10 ov) 11 (.int .i64 (i : Int))) 13 u112) 14 (.int .i64 (k2 : Int))) ∧ k = ((ns.getD (t85).toNat default).l).length - k2 ∧ Ext (inO kv.ownBlock) G w GL2 W ∧ Pin.le G87 GL2 ∧ (k2 ≤ ((ns.getD (t85).toNat default).l).length) ∧ (ExOk ln ln2 ((ns.getD (t85).toNat default).l) k2) ∧ (ln2.length ≤ ln.length + k2) ∧ (ln.length ≤ ln2.length) ∧ (Own eInt 3 GL2 W w.heap.size lv2 (ln2)) ∧ (Own eInt 3 GL2 W 0 kv (ks86)) ∧ (Own eNode 103 GL2 W 0 bu (ns)) ∧ (Own eInt 3 GL2 W 0 bv (bs)) ∧ (Bx GL2 W b [bu, bv]) ∧ (Bx GL2 W o [(.pointer (some ⟨b, 0, none⟩)), kv]) ∧ (Apart lv2.ownBlock kv.ownBlock) ∧ (Apart lv2.ownBlock bu.ownBlock) ∧ (Apart lv2.ownBlock bv.ownBlock) ∧ (Apart lv2.ownBlock (some b)) ∧ (Apart lv2.ownBlock (some o))) _ ⟨_, 0, lv, ln, G87, (zC (x := 14) (zC (x := 13) (zC (x := 11) (zC (x := 10) (zC (x := 9) (zC (x := 8) (zC (x := 3) (zC (x := 1) (zN (x := 0) rfl) rfl) rfl) rfl) rfl) rfl) rfl) rfl) rfl), rfl, hX93, Pin.le_refl _, Nat.zero_le _, (ExOk.start hln.nd), Nat.le_refl _, Nat.le_refl _, ho94, hd90.ok, ho95, ho96, hb97, hb98, ha78.symm, ha79, ha80, ha81, ha82⟩ ?_
   rintro k117 _ w118 ⟨env1, k2, lv2, ln2, GL2, rfl, hk119, hX120, hlek117, hk2, hex, hl2, hl3, hw121, hw122, hw123, hw124, hw125, hw126, ha127, ha128, ha129, ha130, ha131⟩
   refine zE (zE (zF ?_))
   refine qD rfl (zA (v := (.int .i64 (k2 : Int))) rfl) ?_
   refine qD rfl (zA (v := u112) rfl) ?_
   refine qD rfl (zL Tryz.underlying67 (v := u112) rfl hr113) ?_
   refine qD rfl (yN rfl rfl) ?_
   refine qe (zB ?_)
   refine yE (p := ((k2 : Int) : Int) < (((ns.getD (t85).toNat default).l).length : Int)) rfl rfl (fun h132 => ?_) (fun h132 => ?_)
   ·skip
    refine wp_skip ?_
    refine zB (zE ?_)
    refine zZ ?_
    refine zE (zF ?_)
    refine qD rfl (zA (v := lv2) rfl) ?_
    refine qD rfl (zA (v := u112) rfl) ?_
    refine qD rfl (zA (v := (.int .i64 (k2 : Int))) rfl) ?_
    refine qD rfl (zJ Tryz.underlying67 sz3 (v := u112) rfl rfl hr113 (by omega) (by omega)) ?_
    refine qD rfl (zI (r := ((ns.getD (t85).toNat default).l).getD k2 0) rfl ag3 (z := (k2 : Int)) rfl hr113 (Pins.of_le hX120.pins hlek117) (by omega) (by omega)) ?_
    refine qI rfl (zP (vs := [lv2, (.int .i64 (((ns.getD (t85).toNat default).l).getD k2 0))]) Tryz.func161 nm161 rfl rfl rfl ?_)
    refine Calls.mono (l1Has_spec (n := ((ns.getD (t85).toNat default).l).getD k2 0) (Gadd.pins hX120.pins lv2) hw121.read) ?_
    rintro _ w134 ⟨G133, rfl, hx135⟩
    refine ⟨_, rfl, ?_⟩
    have hx136 := deep_back hX120.pins hx135
    have hX137 := hX120.step hx136.pins hx136.below
    have ho138 := hw121.below hx136.below
    have ho139 := hw122.below hx136.below
    have ho140 := hw123.below hx136.below
    have ho141 := hw124.below hx136.below
    have hb142 := hw125.below hx136.below
    have hb143 := hw126.below hx136.below
    refine qD rfl (xS rfl) ?_
    refine qe (zB ?_)
    refine qW rfl rfl (fun h144 => ?_) (fun h144 => ?_)
    ·skip
     replace h144 := of_decide_eq_true h144
     refine wp_skip ?_
     refine yA ?_
     refine zB (zF ?_)
     refine qD rfl (zA (v := (.int .i64 (k2 : Int))) rfl) ?_
     refine qD rfl (yJ rfl rfl (by omega)) ?_
     refine qD rfl (zD (v := (.int .i64 ((k2 : Int) + 1))) rfl) ?_
     refine qe ?_
     refine zY ?_
     refine ⟨_, ?_, _, rfl, _, k2 + 1, lv2, ln2, GL2, (zC (x := 14) (zC (x := 13) (zC (x := 11) (zC (x := 10) (zC (x := 9) (zC (x := 8) (zC (x := 3) (zC (x := 1) (zN (x := 0) rfl) rfl) rfl) rfl) rfl) rfl) rfl) rfl) rfl), rfl, hX137, hlek117, (by omega), (hex.skip (by omega) h144), (by omega), (by omega), ho138, ho139, ho140, ho141, hb142, hb143, ha127, ha128, ha129, ha130, ha131⟩
     omega
    replace h144 := of_decide_eq_false h144
    refine zF ?_
    refine qD rfl (zA (v := lv2) rfl) ?_
    refine qD rfl (zA (v := u112) rfl) ?_
    refine qD rfl (zA (v := (.int .i64 (k2 : Int))) rfl) ?_
    refine qD rfl (zJ Tryz.underlying67 sz3 (v := u112) rfl rfl hr113 (by omega) (by omega)) ?_
    refine qD rfl (zI (r := ((ns.getD (t85).toNat default).l).getD k2 0) rfl ag3 (z := (k2 : Int)) rfl hr113 (Pins.of_le hX137.pins hlek117) (by omega) (by omega)) ?_
    refine qI rfl (yQ (E := eInt) (e := 3) [(.int .i64 (((ns.getD (t85).toNat default).l).getD k2 0))] [((ns.getD (t85).toNat default).l).getD k2 0] Tryz.underlying67 sz3 zr3 (by exact xO (by rfl)) (xG (by rfl)) rfl rfl rfl rfl (by decide) hX137.pins (fun u145 w146 ho147 hp148 hl149 hk150 => ?_))
    have hX151 := hX137.step hp148 hl149
    have ho152 := ho138.below hl149
    have ho153 := ho139.below hl149
    have ho154 := ho140.below hl149
    have ho155 := ho141.below hl149
    have hb156 := hb142.below hl149
    have hb157 := hb143.below hl149
    have ho164 : Own eInt 3 GL2 w146 w.heap.size u145 ([((ns.getD (t85).toNat default).l).getD k2 0]) := ho147.weaken hX137.size
    refine qI rfl (yB (E := eInt) (v := lv2) (u := u145) 8 Tryz.underlying67 ap3 (by decide) rfl rfl hX151.pins ho152 ho164.src (by first | omega | (rw [List.nil_append]; omega) | (rw [List.length_nil]; omega) | (rw [List.length_append]; omega) | (simp; done) | (simp; omega) | (simp only [List.length_append, List.length_cons, List.length_nil]; omega)) (by first | omega | (rw [List.nil_append]; omega) | (rw [List.length_nil]; omega) | (rw [List.length_append]; omega) | (simp; done) | (simp; omega) | (simp only [List.length_append, List.length_cons, List.length_nil]; omega)) (hX151.size) (fun u165 w166 ho167 hp168 hg169 hw170 => ?_))
    have hX171 := hX151.write hp168 hg169 ((yI ho152))
    have ho172 := ho153.keptA hg169 ha127.symm
    have ho173 := ho154.keptA hg169 ha128.symm
    have ho174 := ho155.keptA hg169 ha129.symm
    have hb176 := hb156.keptA hg169 ha130.symm
    have hb177 := hb157.keptA hg169 ha131.symm
    have ha178 : Apart kv.ownBlock u165.ownBlock := zH ha127.symm hw170 ho153.lt
    have ha179 : Apart bu.ownBlock u165.ownBlock := zH ha128.symm hw170 ho154.lt
    have ha180 : Apart bv.ownBlock u165.ownBlock := zH ha129.symm hw170 ho155.lt
    have ha182 : Apart (some b) u165.ownBlock := zQ ha130.symm hw170 hb156.lt
    have ha183 : Apart (some o) u165.ownBlock := zQ ha131.symm hw170 hb157.lt
    have hm184 : (ln2 ++ ([((ns.getD (t85).toNat default).l).getD k2 0])).length = ln2.length + 1 := List.length_append
    refine qD rfl (zD (v := u165) rfl) ?_
    refine qe ?_
    refine yA ?_
    refine zB (zF ?_)
    refine qD rfl (zA (v := (.int .i64 (k2 : Int))) rfl) ?_
    refine qD rfl (yJ rfl rfl (by omega)) ?_
    refine qD rfl (zD (v := (.int .i64 ((k2 : Int) + 1))) rfl) ?_
    refine qe ?_
    refine zY ?_
    refine ⟨_, ?_, _, rfl, _, k2 + 1, u165, ln2 ++ ([((ns.getD (t85).toNat default).l).getD k2 0]), GL2, (zC (x := 14) (zC (x := 13) (zC (x := 11) (zC (x := 10) (zC (x := 9) (zC (x := 8) (zC (x := 3) (zC (x := 1) (zN (x := 0) rfl) rfl) rfl) rfl) rfl) rfl) rfl) rfl) rfl), rfl, hX171, hlek117, (by omega), (hex.add (by omega) h144), (by rw [List.length_append, List.length_singleton]; omega), (by rw [List.length_append, List.length_singleton]; omega), ho167, ho172, ho173, ho174, hb176, hb177, ha178.symm, ha179.symm, ha180.symm, ha182.symm, ha183.symm⟩
    omega
   refine wp_exit ?_
   refine zX ?_
   refine yL ?_
   refine yF ?_
   refine yA ?_
   refine zB (zF ?_)
   refine qD rfl (zA (v := (.int .i64 (i : Int))) rfl) ?_
   refine qD rfl (yJ rfl rfl (by omega)) ?_
   refine qD rfl (zD (v := (.int .i64 ((i : Int) + 1))) rfl) ?_
   refine qe ?_
   refine zY ?_
   refine ⟨_, ?_, _, rfl, _, i + 1, ks86, lv2, ln2, ov, out, GL2, (zC (x := 11) (zC (x := 10) (zC (x := 9) (zC (x := 8) (zC (x := 3) (zC (x := 1) (zN (x := 0) rfl) rfl) rfl) rfl) rfl) rfl) rfl), rfl, hX120, (Pin.le_trans (Pin.le_trans hlek68 hx92.le) hlek117), (hex.pass (by omega) (ol_yes (q := (bkq ns bs)) (t := t85) h116) hpo hln (by omega) hti.1 hti.2.1 hti.2.2), (by omega), hka91, hw122, hw121, hw123, hw124, hw125, hw126, ha127.symm, ha128, ha129, ha130, ha131, (hr83.mono (Pin.le_trans hx92.le hlek117))⟩
   omega
  refine zF ?_
  refine qD rfl (zA (v := (.pointer (some ⟨o, 0, none⟩))) rfl) ?_
  refine qD rfl (yP rfl) ?_
  refine qD rfl (zM (k := 0) rfl Tryz.underlying156 rfl nz104 rfl) ?_
  refine qD rfl (zO (u := (.pointer (some ⟨b, 0, none⟩))) ag104 rfl (hb98.cell (o := 0) rfl)) ?_
  refine qD rfl (yP rfl) ?_
  refine qD rfl (zM (k := 0) rfl Tryz.underlying106 rfl nz30 rfl) ?_
  refine qD rfl (zO (u := bu) ag30 rfl (hb97.cell (o := 0) rfl)) ?_
  refine qD rfl (zA (v := (.int .i64 t85)) rfl) ?_
  refine qD rfl (zJ Tryz.underlying30 yO (v := bu) rfl rfl ho95.read (by omega) (by omega)) ?_
  refine qD rfl (xA (off := 1) Tryz.underlying103 rfl rfl nz67 (z := t85) (k := 0) rfl ho95.read (by omega) (by omega)) ?_
  obtain ⟨u185, hr186, hl187⟩ := nm_nr (ho95.at (z := t85) (by omega) (by omega)) (j := (t85).toNat) rfl
  have hm188 := hr186.max
  refine qD rfl (hl187 ag67 rfl (Gadd.pins hX93.pins bu)) ?_
  refine qD rfl (zD (v := u185) rfl) ?_
  refine qe (zB (zE (zF ?_)))
  refine qD rfl (zD (v := (.int .i64 0)) rfl) ?_
  refine qe (zB ?_)
  refine zZ ?_
  refine yM (fun (k : Nat) (en : Nat → Value) (W : World) => ∃ (env1 : Nat → Value) (k2 : Nat) (lv2 : Value) (ln2 : List Int) (GL2 : Pin), en = (upd (upd (upd (upd (upd (upd (upd (upd (upd env1 0 (.pointer (some ⟨o, 0, none⟩))) 1 (.int .i64 y)) 3 (.bool lf)) 8 (.slice none 0 0)) 9 lv2) 10 ov) 11 (.int .i64 (i : Int))) 13 u185) 14 (.int .i64 (k2 : Int))) ∧ k = ((ns.getD (t85).toNat default).r).length - k2 ∧ Ext (inO kv.ownBlock) G w GL2 W ∧ Pin.le G87 GL2 ∧ (k2 ≤ ((ns.getD (t85).toNat default).r).length) ∧ (ExOk ln ln2 ((ns.getD (t85).toNat default).r) k2) ∧ (ln2.length ≤ ln.length + k2) ∧ (ln.length ≤ ln2.length) ∧ (Own eInt 3 GL2 W w.heap.size lv2 (ln2)) ∧ (Own eInt 3 GL2 W 0 kv (ks86)) ∧ (Own eNode 103 GL2 W 0 bu (ns)) ∧ (Own eInt 3 GL2 W 0 bv (bs)) ∧ (Bx GL2 W b [bu, bv]) ∧ (Bx GL2 W o [(.pointer (some ⟨b, 0, none⟩)), kv]) ∧ (Apart lv2.ownBlock kv.ownBlock) ∧ (Apart lv2.ownBlock bu.ownBlock) ∧ (Apart lv2.ownBlock bv.ownBlock) ∧ (Apart lv2.ownBlock (some b)) ∧ (Apart lv2.ownBlock (some o))) _ ⟨_, 0, lv, ln, G87, (zC (x := 14) (zC (x := 13) (zC (x := 11) (zC (x := 10) (zC (x := 9) (zC (x := 8) (zC (x := 3) (zC (x := 1) (zN (x := 0) rfl) rfl) rfl) rfl) rfl) rfl) rfl) rfl) rfl), rfl, hX93, Pin.le_refl _, Nat.zero_le _, (ExOk.start hln.nd), Nat.le_refl _, Nat.le_refl _, ho94, hd90.ok, ho95, ho96, hb97, hb98, ha78.symm, ha79, ha80, ha81, ha82⟩ ?_
  rintro k189 _ w190 ⟨env1, k2, lv2, ln2, GL2, rfl, hk191, hX192, hlek189, hk2, hex, hl2, hl3, hw193, hw194, hw195, hw196, hw197, hw198, ha199, ha200, ha201, ha202, ha203⟩
  refine zE (zE (zF ?_))
  refine qD rfl (zA (v := (.int .i64 (k2 : Int))) rfl) ?_
  refine qD rfl (zA (v := u185) rfl) ?_
  refine qD rfl (zL Tryz.underlying67 (v := u185) rfl hr186) ?_
  refine qD rfl (yN rfl rfl) ?_
  refine qe (zB ?_)
  refine yE (p := ((k2 : Int) : Int) < (((ns.getD (t85).toNat default).r).length : Int)) rfl rfl (fun h204 => ?_) (fun h204 => ?_)
  ·skip
   refine wp_skip ?_
   refine zB (zE ?_)
   refine zZ ?_
   refine zE (zF ?_)
   refine qD rfl (zA (v := lv2) rfl) ?_
   refine qD rfl (zA (v := u185) rfl) ?_
   refine qD rfl (zA (v := (.int .i64 (k2 : Int))) rfl) ?_
   refine qD rfl (zJ Tryz.underlying67 sz3 (v := u185) rfl rfl hr186 (by omega) (by omega)) ?_
   refine qD rfl (zI (r := ((ns.getD (t85).toNat default).r).getD k2 0) rfl ag3 (z := (k2 : Int)) rfl hr186 (Pins.of_le hX192.pins hlek189) (by omega) (by omega)) ?_
   refine qI rfl (zP (vs := [lv2, (.int .i64 (((ns.getD (t85).toNat default).r).getD k2 0))]) Tryz.func161 nm161 rfl rfl rfl ?_)
   refine Calls.mono (l1Has_spec (n := ((ns.getD (t85).toNat default).r).getD k2 0) (Gadd.pins hX192.pins lv2) hw193.read) ?_
   rintro _ w206 ⟨G205, rfl, hx207⟩
   refine ⟨_, rfl, ?_⟩
   have hx208 := deep_back hX192.pins hx207
   have hX209 := hX192.step hx208.pins hx208.below
   have ho210 := hw193.below hx208.below
   have ho211 := hw194.below hx208.below
   have ho212 := hw195.below hx208.below
   have ho213 := hw196.below hx208.below
   have hb214 := hw197.below hx208.below
   have hb215 := hw198.below hx208.below
   refine qD rfl (xS rfl) ?_
   refine qe (zB ?_)
   refine qW rfl rfl (fun h216 => ?_) (fun h216 => ?_)
   ·skip
    replace h216 := of_decide_eq_true h216
    refine wp_skip ?_
    refine yA ?_
    refine zB (zF ?_)
    refine qD rfl (zA (v := (.int .i64 (k2 : Int))) rfl) ?_
    refine qD rfl (yJ rfl rfl (by omega)) ?_
    refine qD rfl (zD (v := (.int .i64 ((k2 : Int) + 1))) rfl) ?_
    refine qe ?_
    refine zY ?_
    refine ⟨_, ?_, _, rfl, _, k2 + 1, lv2, ln2, GL2, (zC (x := 14) (zC (x := 13) (zC (x := 11) (zC (x := 10) (zC (x := 9) (zC (x := 8) (zC (x := 3) (zC (x := 1) (zN (x := 0) rfl) rfl) rfl) rfl) rfl) rfl) rfl) rfl) rfl), rfl, hX209, hlek189, (by omega), (hex.skip (by omega) h216), (by omega), (by omega), ho210, ho211, ho212, ho213, hb214, hb215, ha199, ha200, ha201, ha202, ha203⟩
    omega
   replace h216 := of_decide_eq_false h216
   refine zF ?_
   refine qD rfl (zA (v := lv2) rfl) ?_
   refine qD rfl (zA (v := u185) rfl) ?_
   refine qD rfl (zA (v := (.int .i64 (k2 : Int))) rfl) ?_
   refine qD rfl (zJ Tryz.underlying67 sz3 (v := u185) rfl rfl hr186 (by omega) (by omega)) ?_
   refine qD rfl (zI (r := ((ns.getD (t85).toNat default).r).getD k2 0) rfl ag3 (z := (k2 : Int)) rfl hr186 (Pins.of_le hX209.pins hlek189) (by omega) (by omega)) ?_
   refine qI rfl (yQ (E := eInt) (e := 3) [(.int .i64 (((ns.getD (t85).toNat default).r).getD k2 0))] [((ns.getD (t85).toNat default).r).getD k2 0] Tryz.underlying67 sz3 zr3 (by exact xO (by rfl)) (xG (by rfl)) rfl rfl rfl rfl (by decide) hX209.pins (fun u217 w218 ho219 hp220 hl221 hk222 => ?_))
   have hX223 := hX209.step hp220 hl221
   have ho224 := ho210.below hl221
   have ho225 := ho211.below hl221
   have ho226 := ho212.below hl221
   have ho227 := ho213.below hl221
   have hb228 := hb214.below hl221
   have hb229 := hb215.below hl221
   have ho236 : Own eInt 3 GL2 w218 w.heap.size u217 ([((ns.getD (t85).toNat default).r).getD k2 0]) := ho219.weaken hX209.size
   refine qI rfl (yB (E := eInt) (v := lv2) (u := u217) 8 Tryz.underlying67 ap3 (by decide) rfl rfl hX223.pins ho224 ho236.src (by first | omega | (rw [List.nil_append]; omega) | (rw [List.length_nil]; omega) | (rw [List.length_append]; omega) | (simp; done) | (simp; omega) | (simp only [List.length_append, List.length_cons, List.length_nil]; omega)) (by first | omega | (rw [List.nil_append]; omega) | (rw [List.length_nil]; omega) | (rw [List.length_append]; omega) | (simp; done) | (simp; omega) | (simp only [List.length_append, List.length_cons, List.length_nil]; omega)) (hX223.size) (fun u237 w238 ho239 hp240 hg241 hw242 => ?_))
   have hX243 := hX223.write hp240 hg241 ((yI ho224))
   have ho244 := ho225.keptA hg241 ha199.symm
   have ho245 := ho226.keptA hg241 ha200.symm
   have ho246 := ho227.keptA hg241 ha201.symm
   have hb248 := hb228.keptA hg241 ha202.symm
   have hb249 := hb229.keptA hg241 ha203.symm
   have ha250 : Apart kv.ownBlock u237.ownBlock := zH ha199.symm hw242 ho225.lt
   have ha251 : Apart bu.ownBlock u237.ownBlock := zH ha200.symm hw242 ho226.lt
   have ha252 : Apart bv.ownBlock u237.ownBlock := zH ha201.symm hw242 ho227.lt
   have ha254 : Apart (some b) u237.ownBlock := zQ ha202.symm hw242 hb228.lt
   have ha255 : Apart (some o) u237.ownBlock := zQ ha203.symm hw242 hb229.lt
   have hm256 : (ln2 ++ ([((ns.getD (t85).toNat default).r).getD k2 0])).length = ln2.length + 1 := List.length_append
   refine qD rfl (zD (v := u237) rfl) ?_
   refine qe ?_
   refine yA ?_
   refine zB (zF ?_)
   refine qD rfl (zA (v := (.int .i64 (k2 : Int))) rfl) ?_
   refine qD rfl (yJ rfl rfl (by omega)) ?_
   refine qD rfl (zD (v := (.int .i64 ((k2 : Int) + 1))) rfl) ?_
   refine qe ?_
   refine zY ?_
   refine ⟨_, ?_, _, rfl, _, k2 + 1, u237, ln2 ++ ([((ns.getD (t85).toNat default).r).getD k2 0]), GL2, (zC (x := 14) (zC (x := 13) (zC (x := 11) (zC (x := 10) (zC (x := 9) (zC (x := 8) (zC (x := 3) (zC (x := 1) (zN (x := 0) rfl) rfl) rfl) rfl) rfl) rfl) rfl) rfl) rfl), rfl, hX243, hlek189, (by omega), (hex.add (by omega) h216), (by rw [List.length_append, List.length_singleton]; omega), (by rw [List.length_append, List.length_singleton]; omega), ho239, ho244, ho245, ho246, hb248, hb249, ha250.symm, ha251.symm, ha252.symm, ha254.symm, ha255.symm⟩
   omega
  refine wp_exit ?_
  refine zX ?_
  refine yL ?_
  refine yF ?_
  refine yA ?_
  refine zB (zF ?_)
  refine qD rfl (zA (v := (.int .i64 (i : Int))) rfl) ?_
  refine qD rfl (yJ rfl rfl (by omega)) ?_
  refine qD rfl (zD (v := (.int .i64 ((i : Int) + 1))) rfl) ?_
  refine qe ?_
  refine zY ?_
  refine ⟨_, ?_, _, rfl, _, i + 1, ks86, lv2, ln2, ov, out, GL2, (zC (x := 11) (zC (x := 10) (zC (x := 9) (zC (x := 8) (zC (x := 3) (zC (x := 1) (zN (x := 0) rfl) rfl) rfl) rfl) rfl) rfl) rfl), rfl, hX192, (Pin.le_trans (Pin.le_trans hlek68 hx92.le) hlek189), (hex.pass (by omega) (ol_no (q := (bkq ns bs)) (t := t85) h116) hpo hln (by omega) hti.1 hti.2.1 hti.2.2), (by omega), hka91, hw194, hw193, hw195, hw196, hw197, hw198, ha199.symm, ha200, ha201, ha202, ha203, (hr83.mono (Pin.le_trans hx92.le hlek189))⟩
  omega
 refine wp_exit ?_
 refine zX ?_
 refine yL ?_
 refine yF ?_
 refine zB (zE (zF ?_))
 refine qD rfl (zA (v := ov) rfl) ?_
 refine qD rfl (zD (v := ov) rfl) ?_
 refine qe (zB ?_)
 refine wp_ret ?_
 refine zW ?_
 refine zS (v := ov) rfl rfl rfl ?_
 exact ⟨_, _, _, _, _, rfl, hr83, hln.done (by omega), ⟨⟨hw76, hw74, hw75, habu, habv, hauv⟩, hw77, hw72, haok, habk, hauk, havk⟩, hka1, hX71⟩

end C61
end Go.Proofs.YtpknebplcmgnkaaGreatDoor

set_option maxRecDepth 20000
set_option maxHeartbeats 2000000
namespace Go.Proofs.YtpknebplcmgnkaaGreatDoor
namespace C62
open Go.RowKit Go.GL Go.Proofs
open Go.Proofs.YtpknebplcmgnkaaGreatDoor.B1
open Go.Proofs.YtpknebplcmgnkaaGreatDoor.C1
open Go.Proofs.YtpknebplcmgnkaaGreatDoor.D1
open Go.Proofs.YtpknebplcmgnkaaGreatDoor.E1
open Go.Proofs.YtpknebplcmgnkaaGreatDoor.OR1
open Go.Proofs.YtpknebplcmgnkaaGreatDoor.C61












theorem put6_spec {w : World} {G : Pin} {b : Nat} {bu bv : Value} {ns : List Nd} {bs : List Int} {x y : Value} {xs ys : List Int} (hP : Pins G w) (hB : Bk 103 3 G w b bu bv ns bs) (hpo : PoolOk (bkq ns bs)) (hx : RSl eInt G x xs) (hy : RSl eInt G y ys) (hl : ns.length + 1 ≤ 1048576) (hls : xs.length ≤ 1048576 ∧ ys.length ≤ 1048576) (h1 : ∀ z ∈ xs, PlaceOk (bkq ns bs) z) (h2 : ∀ z ∈ ys, PlaceOk (bkq ns bs) z) :
  Calls Tryz.prog 115 [(.pointer (some ⟨b, 0, none⟩)), x, y].toArray w fun e w' => ∃ (z : Int) (n1 : List Nd) (b1 : List Int) (u' v' : Value) (G' : Pin), e = .returned (.int .i64 z) ∧ Bk 103 3 G' w' b u' v' n1 b1 ∧ StepOk ns bs n1 b1 z 1 ∧ (pd (bkq n1 b1) z = mkG (xs.map (pd (bkq ns bs))) (ys.map (pd (bkq ns bs)))) ∧ Ext (inS b bu bv) G w G' w' ∧ Lo w (inS b bu bv) u'.ownBlock ∧ Lo w (inS b bu bv) v'.ownBlock := by
 have hpt := bk_put hpo hl hls h1 h2
 refine (put_spec hP hB hpo.ar.ok hx hy hls (jA h1) (jA h2)).mono ?_
 rintro e w' ⟨u, v, G', rfl, hbk, hxx, l1, l2⟩
 exact ⟨_, _, _, u, v, G', rfl, hbk, ⟨hpt.ok, hpt.px, hpt.pl, hpt.len⟩, hpt.pd, hxx, l1, l2⟩

theorem l6Node_spec {w : World} {G : Pin} {b : Nat} {bu bv : Value} {ns : List Nd} {bs : List Int} {x y : Value} {xs ys : List Int} (hP : Pins G w) (hB : Bk 103 3 G w b bu bv ns bs) (hpo : PoolOk (bkq ns bs)) (hx : RSl eInt G x xs) (hy : RSl eInt G y ys) (hl : ns.length + 3 ≤ 1048576) (hls : xs.length ≤ 1048576 ∧ ys.length ≤ 1048576) (h1 : ∀ z ∈ xs, PlaceOk (bkq ns bs) z ∧ CanonG (pd (bkq ns bs) z)) (h2 : ∀ z ∈ ys, PlaceOk (bkq ns bs) z ∧ CanonG (pd (bkq ns bs) z)) :
  Calls Tryz.prog 105 [(.pointer (some ⟨b, 0, none⟩)), x, y].toArray w fun e w' => ∃ (z : Int) (n1 : List Nd) (b1 : List Int) (u' v' : Value) (G' : Pin), e = .returned (.int .i64 z) ∧ Bk 103 3 G' w' b u' v' n1 b1 ∧ StepOk ns bs n1 b1 z 3 ∧ (CanonG (pd (bkq n1 b1) z) ∧ eqG (pd (bkq n1 b1) z) (mkG (xs.map (pd (bkq ns bs))) (ys.map (pd (bkq ns bs))))) ∧ Ext (inS b bu bv) G w G' w' ∧ Lo w (inS b bu bv) u'.ownBlock ∧ Lo w (inS b bu bv) v'.ownBlock := by
 refine yD (n := 65) Tryz.func105 Tryz.ntmps105 rfl rfl ?_
 have hX0 : Ext (inS b bu bv) G w G w := Ext.refl hP
 have hok : BookOk ns bs := hpo.ar.ok
 have hbx := hB.bx
 have hou := hB.ou
 have hov := hB.ov
 have habu := hB.abu
 have habv := hB.abv
 have hauv := hB.auv
 have hlob : Lo w (inS b bu bv) (some b) := lo_b
 have hlou : Lo w (inS b bu bv) bu.ownBlock := lo_u
 have hlov : Lo w (inS b bu bv) bv.ownBlock := lo_v
 have hlen := hok.len
 have hlim := hok.lim
 refine zE (zF ?_)
 refine qD rfl (zD (v := (.int .i64 0)) rfl) ?_
 refine qe (zB (zE (zF ?_)))
 refine qD rfl (zA (v := (.pointer (some ⟨b, 0, none⟩))) rfl) ?_
 refine qD rfl (zA (v := x) rfl) ?_
 refine qD rfl (zA (v := y) rfl) ?_
 refine qI rfl (zP (vs := [(.pointer (some ⟨b, 0, none⟩)), x, y]) Tryz.func115 nm115 rfl rfl rfl ?_)
 refine Calls.mono (put6_spec hX0.pins ⟨hbx, hou, hov, habu, habv, hauv⟩ hpo hx hy (by omega) hls (fun z hz => (h1 z hz).1) (fun z hz => (h2 z hz).1)) ?_
 rintro _ w7 ⟨z1, n2, b3, u4, v5, G6, rfl, hbk8, hso9, hsd10, hx11, hlu12, hlv13⟩
 refine ⟨_, rfl, ?_⟩
 have hin14 : ∀ i, inS b bu bv i → w.heap.size ≤ i ∨ (inS b bu bv) i := inS_lo hlob hlou hlov
 have hX15 := hX0.trans hx11 hin14
 have hb16 := hbk8.bx
 have ho17 := hbk8.ou
 have ho18 := hbk8.ov
 have ha19 := hbk8.abu
 have ha20 := hbk8.abv
 have ha21 := hbk8.auv
 have hlo22 := qO hlu12 hin14 hX0.size
 have hlo23 := qO hlv13 hin14 hX0.size
 have hpz24 : 0 ≤ z1 ∧ z1 < n2.length := hso9.pl
 have hnl25 := hso9.len
 have hnm26 := hso9.ok.ar.ok.lim
 have hpz24l : (n2.getD (z1).toNat default).l.length ≤ 1048576 ∧ (n2.getD (z1).toNat default).r.length ≤ 1048576 := hso9.ok.ar.ok.lens (z1).toNat (show (z1).toNat < n2.length by omega)
 refine qD rfl (zD (v := (.int .i64 z1)) rfl) ?_
 refine qe (zB (zE (zF ?_)))
 refine qD rfl (zA (v := (.pointer (some ⟨b, 0, none⟩))) rfl) ?_
 refine qI rfl (zP (vs := [(.pointer (some ⟨b, 0, none⟩))]) Tryz.func135 nm135 rfl rfl rfl ?_)
 refine Calls.mono (l4Of_spec hX15.pins ⟨hb16, ho17, ho18, ha19, ha20, ha21⟩ hso9.ok.ar.ok) ?_
 rintro _ w30 ⟨b27, u28, G29, rfl, hb31, ho32, hlo33, ha34, hx35⟩
 refine ⟨_, rfl, ?_⟩
 have hX36 := hX15.tr hx35
 have ho37 := ho17.ext hx35
 have ho38 := ho18.ext hx35
 have hb39 := hb16.ext hx35
 have ha40 : Apart u28.ownBlock u4.ownBlock := zU ho32.lt ho17.lt
 have ha41 : Apart (some b27) u4.ownBlock := made_box_own hlo33 ho17.lt
 have ha42 : Apart u28.ownBlock v5.ownBlock := zU ho32.lt ho18.lt
 have ha43 : Apart (some b27) v5.ownBlock := made_box_own hlo33 ho18.lt
 have ha44 : Apart u28.ownBlock (some b) := yH ho32.lt hb16.lt
 have ha45 : Apart (some b27) (some b) := made_box_box hlo33 hb16.lt
 have hlo46 := Nat.le_trans hX15.size hlo33
 have ho47 := ho32.weaken hX15.size
 have hka48 : KAll n2 (List.replicate (n2.length * n2.length) 0) := KAll.zero
 refine qD rfl (zD (v := (.pointer (some ⟨b27, 0, none⟩))) rfl) ?_
 refine qe (zB (zE ?_))
 have hq49 := Gadd.pins hX36.pins u4
 have hr50 := ho37.read
 refine c_drawL (S := fun wz => BxR wz b [u4, v5] ∧ Pins (Gadd G29 w30 u4) wz) (lt := [23, 24]) (by kernel_rfl) rfl ?_
 have hl51 : Below w30.heap.size w30 w30.drew := (Below.refl _ _).drew
 have hp52 := hX36.pins.below hl51
 have hX53 := hX36.step hp52 hl51
 have ho54 := ho37.below hl51
 have ho55 := ho38.below hl51
 have ho56 := ho47.below hl51
 have hb57 := hb39.below hl51
 have hb58 := hb31.below hl51
 have hq59 := hq49.below hl51
 refine xK [23, 24] (i := 0) rfl rfl rfl (zG rfl _) (by kernel_rfl) (fun _ _ => zA (v := (.pointer (some ⟨b, 0, none⟩))) rfl) ⟨hb57.reads, hq59⟩ ?_
 refine xK [11, 22, 23, 24] (i := 1) rfl rfl rfl (zG rfl _) (by kernel_rfl) (fun _ _ => zA (v := (.pointer (some ⟨b27, 0, none⟩))) rfl) ⟨hb57.reads, hq59⟩ ?_
 refine xK [11, 22, 23, 24] (i := 2) rfl rfl rfl (zG rfl _) (by kernel_rfl) (fun _ _ => zA (v := (.int .i64 z1)) rfl) ⟨hb57.reads, hq59⟩ ?_
 refine xK [4, 5, 6, 8, 9, 10, 11, 22, 23, 24] (i := 3) rfl rfl rfl (zG rfl _) (by kernel_rfl) (fun _ _ => zA (v := (.pointer (some ⟨b, 0, none⟩))) rfl) ⟨hb57.reads, hq59⟩ ?_
 refine xK [5, 6, 8, 9, 10, 11, 22, 23, 24] (i := 4) rfl rfl rfl (zG rfl _) (by kernel_rfl) (fun _ _ => yP rfl) ⟨hb57.reads, hq59⟩ ?_
 refine xK [6, 8, 9, 10, 11, 22, 23, 24] (i := 5) rfl rfl rfl (zG rfl _) (by kernel_rfl) (fun _ _ => zM (k := 0) rfl Tryz.underlying106 rfl nz30 rfl) ⟨hb57.reads, hq59⟩ ?_
 refine xK [8, 9, 10, 11, 22, 23, 24] (i := 6) rfl rfl rfl (zG rfl _) (by kernel_rfl) (fun _ hS => zO (u := u4) ag30 rfl (hS.1 0 _ rfl)) ⟨hb57.reads, hq59⟩ ?_
 refine xK [8, 9, 10, 11, 22, 23, 24] (i := 7) rfl rfl rfl (zG rfl _) (by kernel_rfl) (fun _ _ => zA (v := (.int .i64 z1)) rfl) ⟨hb57.reads, hq59⟩ ?_
 refine xK [9, 10, 11, 22, 23, 24] (i := 8) rfl rfl rfl (zG rfl _) (by kernel_rfl) (fun _ _ => zJ Tryz.underlying30 yO (v := u4) rfl rfl hr50 (by omega) (by omega)) ⟨hb57.reads, hq59⟩ ?_
 refine xK [10, 11, 22, 23, 24] (i := 9) rfl rfl rfl (zG rfl _) (by kernel_rfl) (fun _ _ => xA (off := 0) Tryz.underlying103 rfl rfl nz67 (z := z1) (k := 0) rfl hr50 (by omega) (by omega)) ⟨hb57.reads, hq59⟩ ?_
 obtain ⟨u60, hr61, hl62⟩ := nm_nl (ho37.at (z := z1) (by omega) (by omega)) (j := (z1).toNat) rfl
 have hm63 := hr61.max
 refine xK [11, 22, 23, 24] (i := 10) rfl rfl rfl (zG rfl _) (by kernel_rfl) (fun _ hS => hl62 ag67 rfl hS.2) ⟨hb57.reads, hq59⟩ ?_
 refine xK [22, 23, 24] (i := 12) rfl rfl rfl (zG rfl _) (by kernel_rfl) (fun _ _ => zA (v := (.pointer (some ⟨b27, 0, none⟩))) rfl) ⟨hb57.reads, hq59⟩ ?_
 refine xK [22, 23, 24] (i := 13) rfl rfl rfl (zG rfl _) (by kernel_rfl) (fun _ _ => zA (v := (.int .i64 z1)) rfl) ⟨hb57.reads, hq59⟩ ?_
 refine xK [15, 16, 17, 19, 20, 21, 22, 23, 24] (i := 14) rfl rfl rfl (zG rfl _) (by kernel_rfl) (fun _ _ => zA (v := (.pointer (some ⟨b, 0, none⟩))) rfl) ⟨hb57.reads, hq59⟩ ?_
 refine xK [16, 17, 19, 20, 21, 22, 23, 24] (i := 15) rfl rfl rfl (zG rfl _) (by kernel_rfl) (fun _ _ => yP rfl) ⟨hb57.reads, hq59⟩ ?_
 refine xK [17, 19, 20, 21, 22, 23, 24] (i := 16) rfl rfl rfl (zG rfl _) (by kernel_rfl) (fun _ _ => zM (k := 0) rfl Tryz.underlying106 rfl nz30 rfl) ⟨hb57.reads, hq59⟩ ?_
 refine xK [19, 20, 21, 22, 23, 24] (i := 17) rfl rfl rfl (zG rfl _) (by kernel_rfl) (fun _ hS => zO (u := u4) ag30 rfl (hS.1 0 _ rfl)) ⟨hb57.reads, hq59⟩ ?_
 refine xK [19, 20, 21, 22, 23, 24] (i := 18) rfl rfl rfl (zG rfl _) (by kernel_rfl) (fun _ _ => zA (v := (.int .i64 z1)) rfl) ⟨hb57.reads, hq59⟩ ?_
 refine xK [20, 21, 22, 23, 24] (i := 19) rfl rfl rfl (zG rfl _) (by kernel_rfl) (fun _ _ => zJ Tryz.underlying30 yO (v := u4) rfl rfl hr50 (by omega) (by omega)) ⟨hb57.reads, hq59⟩ ?_
 refine xK [21, 22, 23, 24] (i := 20) rfl rfl rfl (zG rfl _) (by kernel_rfl) (fun _ _ => xA (off := 1) Tryz.underlying103 rfl rfl nz67 (z := z1) (k := 0) rfl hr50 (by omega) (by omega)) ⟨hb57.reads, hq59⟩ ?_
 obtain ⟨u64, hr65, hl66⟩ := nm_nr (ho37.at (z := z1) (by omega) (by omega)) (j := (z1).toNat) rfl
 have hm67 := hr65.max
 refine xK [22, 23, 24] (i := 21) rfl rfl rfl (zG rfl _) (by kernel_rfl) (fun _ hS => hl66 ag67 rfl hS.2) ⟨hb57.reads, hq59⟩ ?_
 refine dr_oneL (i := 11) (by kernel_rfl) (drOp1L (i := 11) rfl rfl rfl (zG rfl _) (zP (vs := [(.pointer (some ⟨b27, 0, none⟩)), (.int .i64 z1), u60, (.bool true)]) Tryz.func141 nm141 rfl rfl rfl ?_))
 refine Calls.mono (l6Open_spec (lf := true) hX53.pins ⟨⟨hb57, ho54, ho55, ha19, ha20, ha21⟩, hb58, (ho56.weaken (Nat.zero_le _)), ha34, ha44.symm, ha40.symm, ha42.symm⟩ hpz24 hr61 hpz24l.1 hso9.ok.ar.ok hka48 hso9.ok (LnOk.start hso9.ok hso9.pl (can_opts h1 h2 hsd10 true))) ?_
 rintro _ w73 ⟨u68, ln69, out70, ks71, G72, rfl, hr74, hrd75, hd76, hka77, hx78⟩
 refine ⟨_, rfl, ?_⟩
 have hX79 := hX53.trans hx78 (fun i hi => (yI ho56) i hi)
 have ho80 := ho54.extS hx78 (notO ha40.symm)
 have ho81 := ho55.extS hx78 (notO ha42.symm)
 have hb82 := hb57.extS hx78 (qG ha44.symm)
 have hb83 := hb58.extS hx78 (qG ha34)
 have hlo84 : Lo w ((inS b bu bv)) u28.ownBlock := (yI ho56)
 have hq85 := Gadd.turn hq59 (Pins.of_le hX79.pins hx78.le) hx78 (notO ha40.symm)
 refine ⟨fun _ => ⟨hb82.reads, hq85⟩, ?_⟩
 refine dr_oneL (i := 22) (by kernel_rfl) (drOp1L (i := 22) rfl rfl rfl (zG rfl _) (zP (vs := [(.pointer (some ⟨b27, 0, none⟩)), (.int .i64 z1), u64, (.bool false)]) Tryz.func141 nm141 rfl rfl rfl ?_))
 refine Calls.mono (l6Open_spec (lf := false) hX79.pins ⟨⟨hb82, ho80, ho81, ha19, ha20, ha21⟩, hb83, hd76.ok, ha34, ha44.symm, ha40.symm, ha42.symm⟩ hpz24 (hr65.mono hx78.le) hpz24l.2 hso9.ok.ar.ok hka77 hso9.ok (LnOk.start hso9.ok hso9.pl (can_opts h1 h2 hsd10 false))) ?_
 rintro _ w91 ⟨u86, ln87, out88, ks89, G90, rfl, hr92, hrd93, hd94, hka95, hx96⟩
 refine ⟨_, rfl, ?_⟩
 have hX97 := hX79.trans hx96 (fun i hi => hlo84 i hi)
 have ho98 := ho80.extS hx96 (notO ha40.symm)
 have ho99 := ho81.extS hx96 (notO ha42.symm)
 have hb100 := hb82.extS hx96 (qG ha44.symm)
 have hb101 := hb83.extS hx96 (qG ha34)
 have hq102 := Gadd.turn hq85 (Pins.of_le hX97.pins (Pin.le_trans hx78.le hx96.le)) hx96 (notO ha40.symm)
 refine ⟨fun _ => ⟨hb100.reads, hq102⟩, ?_⟩
 refine dr_oneL (i := 23) (by kernel_rfl) (drOp1L (i := 23) rfl rfl rfl (zG rfl _) (zP (vs := [(.pointer (some ⟨b, 0, none⟩)), u68, u86]) Tryz.func115 nm115 rfl rfl rfl ?_))
 refine Calls.mono (put6_spec hX97.pins ⟨hb100, ho98, ho99, ha19, ha20, ha21⟩ hso9.ok (hr74.mono hx96.le) hr92 (by omega) ⟨Nat.le_trans hrd75.len.2 hso9.ok.ar.ok.lim, Nat.le_trans hrd93.len.2 hso9.ok.ar.ok.lim⟩ hrd75.kpl hrd93.kpl) ?_
 rintro _ w109 ⟨z103, n104, b105, u106, v107, G108, rfl, hbk110, hso111, hsd112, hx113, hlu114, hlv115⟩
 refine ⟨_, rfl, ?_⟩
 have hin116 : ∀ i, inS b u4 v5 i → w.heap.size ≤ i ∨ (inS b bu bv) i := inS_lo hlob hlo22 hlo23
 have hX117 := hX97.trans hx113 hin116
 have hn118 := notS (u := u4) (v := v5) ha44 ha40 ha42
 have ha120 : Apart u28.ownBlock u106.ownBlock := ap_call hlu114 hn118 (qS hd94.ok)
 have ha121 : Apart u28.ownBlock v107.ownBlock := ap_call hlv115 hn118 (qS hd94.ok)
 have hn122 := notS (u := u4) (v := v5) ha45 ha41 ha43
 have ha124 : Apart (some b27) u106.ownBlock := ap_call hlu114 hn122 (box_lt hb101)
 have ha125 : Apart (some b27) v107.ownBlock := ap_call hlv115 hn122 (box_lt hb101)
 have hb126 := hbk110.bx
 have ho127 := hbk110.ou
 have ho128 := hbk110.ov
 have ha129 := hbk110.abu
 have ha130 := hbk110.abv
 have ha131 := hbk110.auv
 have hlo132 := qO hlu114 hin116 hX97.size
 have hlo133 := qO hlv115 hin116 hX97.size
 have hpz134 : 0 ≤ z103 ∧ z103 < n104.length := hso111.pl
 have hnl135 := hso111.len
 have hnm136 := hso111.ok.ar.ok.lim
 have hpz134l : (n104.getD (z103).toNat default).l.length ≤ 1048576 ∧ (n104.getD (z103).toNat default).r.length ≤ 1048576 := hso111.ok.ar.ok.lens (z103).toNat (show (z103).toNat < n104.length by omega)
 refine ⟨fun h => absurd (by decide) h, ?_⟩
 refine dr_oneL (i := 24) (by kernel_rfl) (drOp1L (i := 24) rfl rfl rfl (zG rfl _) (EO.run (zD (v := (.int .i64 z103)) rfl) ⟨fun h => absurd (by decide) h, ?_⟩))
 refine dr_endL (by kernel_rfl) ?_
 refine zB (zE (zF ?_))
 refine qD rfl (zA (v := (.pointer (some ⟨b, 0, none⟩))) rfl) ?_
 refine qI rfl (zP (vs := [(.pointer (some ⟨b, 0, none⟩))]) Tryz.func135 nm135 rfl rfl rfl ?_)
 refine Calls.mono (l4Of_spec hX117.pins ⟨hb126, ho127, ho128, ha129, ha130, ha131⟩ hso111.ok.ar.ok) ?_
 rintro _ w140 ⟨b137, u138, G139, rfl, hb141, ho142, hlo143, ha144, hx145⟩
 refine ⟨_, rfl, ?_⟩
 have hX146 := hX117.tr hx145
 have ho148 := ho127.ext hx145
 have ho149 := ho128.ext hx145
 have hb150 := hb126.ext hx145
 have ha154 : Apart u138.ownBlock u106.ownBlock := zU ho142.lt ho127.lt
 have ha155 : Apart (some b137) u106.ownBlock := made_box_own hlo143 ho127.lt
 have ha156 : Apart u138.ownBlock v107.ownBlock := zU ho142.lt ho128.lt
 have ha157 : Apart (some b137) v107.ownBlock := made_box_own hlo143 ho128.lt
 have ha158 : Apart u138.ownBlock (some b) := yH ho142.lt hb126.lt
 have ha159 : Apart (some b137) (some b) := made_box_box hlo143 hb126.lt
 have hlo162 := Nat.le_trans hX117.size hlo143
 have ho163 := ho142.weaken hX117.size
 have hka164 : KAll n104 (List.replicate (n104.length * n104.length) 0) := KAll.zero
 have hokN := hso111.ok.ar.ok
 have hopN := qY hso111.ok hso111.pl
 refine qD rfl (zD (v := (.pointer (some ⟨b137, 0, none⟩))) rfl) ?_
 refine qe (zB (zE (zF ?_)))
 refine qD rfl (zA (v := (.pointer (some ⟨b, 0, none⟩))) rfl) ?_
 refine qD rfl (yP rfl) ?_
 refine qD rfl (zM (k := 0) rfl Tryz.underlying106 rfl nz30 rfl) ?_
 refine qD rfl (zO (u := u106) ag30 rfl (hb150.cell (o := 0) rfl)) ?_
 refine qD rfl (zA (v := (.int .i64 z103)) rfl) ?_
 refine qD rfl (zJ Tryz.underlying30 yO (v := u106) rfl rfl ho148.read (by omega) (by omega)) ?_
 obtain ⟨u165, u166, hr167, hr168, hl169⟩ := qX (ho148.at (z := z103) (by omega) (by omega)) (j := (z103).toNat) rfl
 have hm170 := hr167.max
 have hm171 := hr168.max
 refine qD rfl (hl169 ag103 yO rfl (Gadd.pins hX146.pins u106)) ?_
 refine qI rfl (xM [(.slice none 0 0), (.slice none 0 0)] qJ rfl hX146.pins (fun b172 w173 hk174 hb175 hp176 hl177 => ?_))
 have hX178 := hX146.step hp176 hl177
 have ho180 := ho148.below hl177
 have ho181 := ho149.below hl177
 have ho182 := ho163.below hl177
 have hb183 := hb150.below hl177
 have hb185 := hb141.below hl177
 have ha187 : Apart (some b172) u106.ownBlock := zK (congrArg some hk174) ho148.lt
 have ha188 : Apart (some b172) v107.ownBlock := zK (congrArg some hk174) ho149.lt
 have ha189 : Apart (some b172) u138.ownBlock := zK (congrArg some hk174) ho163.lt
 have ha190 : Apart (some b172) (some b) := zR (congrArg some hk174) hb150.lt
 have ha192 : Apart (some b172) (some b137) := zR (congrArg some hk174) hb141.lt
 have hlo193 : w.heap.size ≤ b172 := by have := hX146.size; omega
 refine q0 rfl rfl rfl (xZ (cs' := [u165, u166]) (us := [u165, u166]) (v := (.agg [u165, u166].toArray)) yO rfl rfl rfl (ones2 hr167.one hr168.one) hX178.pins hb175 (Nat.le_of_ble_eq_true rfl) rfl (fun w194 hb195 hp196 hg197 hz198 => ?_))
 have hX199 := hX178.write hp196 hg197 ((xJ hlo193))
 have ho201 := ho180.keptA hg197 ha187.symm
 have ho202 := ho181.keptA hg197 ha188.symm
 have ho203 := ho182.keptA hg197 ha189.symm
 have hb204 := hb183.keptA hg197 ha190.symm
 have hb206 := hb185.keptA hg197 ha192.symm
 obtain ⟨G207, hle208, hX209, hbp210, hf211⟩ := hb195.shut hX199 hlo193
 have ho213 := ho201.moreA hle208 hf211 ha187.symm
 have ho214 := ho202.moreA hle208 hf211 ha188.symm
 have ho215 := ho203.moreA hle208 hf211 ha189.symm
 have hb216 := hb204.moreA hf211 ha190.symm
 have hb218 := hb206.moreA hf211 ha192.symm
 refine qe (zB (zE ?_))
 refine xE (S := fun wz => Pins G207 wz) (last := 17) (by kernel_rfl) rfl ?_
 have hl219 : Below w194.heap.size w194 w194.drew := (Below.refl _ _).drew
 have hp220 := hX209.pins.below hl219
 have hX221 := hX209.step hp220 hl219
 have ho223 := ho213.below hl219
 have ho224 := ho214.below hl219
 have ho225 := ho215.below hl219
 have hb226 := hb216.below hl219
 have hb228 := hb218.below hl219
 refine dT (i := 0) rfl rfl (by kernel_rfl) (fun _ _ => zA (v := (.pointer (some ⟨b, 0, none⟩))) rfl) hX221.pins ?_
 refine dT (i := 1) rfl rfl (by kernel_rfl) (fun _ _ => zM (k := 0) rfl Tryz.underlying103 rfl nz67 rfl) hX221.pins ?_
 refine dT (i := 2) rfl rfl (by kernel_rfl) (fun _ hS => zO (u := u165) ag67 rfl (hS _ _ _ (hbp210 0 _ rfl))) hX221.pins ?_
 refine dT (i := 3) rfl rfl (by kernel_rfl) (fun _ _ => zA (v := (.pointer (some ⟨b137, 0, none⟩))) rfl) hX221.pins ?_
 refine dT (i := 4) rfl rfl (by kernel_rfl) (fun _ _ => zM (k := 0) rfl Tryz.underlying103 rfl nz67 rfl) hX221.pins ?_
 refine dT (i := 5) rfl rfl (by kernel_rfl) (fun _ hS => zO (u := u165) ag67 rfl (hS _ _ _ (hbp210 0 _ rfl))) hX221.pins ?_
 refine dT (i := 8) rfl rfl (by kernel_rfl) (fun _ _ => zM (k := 1) rfl Tryz.underlying103 rfl nz67 rfl) hX221.pins ?_
 refine dT (i := 9) rfl rfl (by kernel_rfl) (fun _ hS => zO (u := u166) ag67 rfl (hS _ _ _ (hbp210 1 _ rfl))) hX221.pins ?_
 refine dT (i := 10) rfl rfl (by kernel_rfl) (fun _ _ => zA (v := (.pointer (some ⟨b137, 0, none⟩))) rfl) hX221.pins ?_
 refine dT (i := 11) rfl rfl (by kernel_rfl) (fun _ _ => zM (k := 1) rfl Tryz.underlying103 rfl nz67 rfl) hX221.pins ?_
 refine dT (i := 12) rfl rfl (by kernel_rfl) (fun _ hS => zO (u := u166) ag67 rfl (hS _ _ _ (hbp210 1 _ rfl))) hX221.pins ?_
 refine zV (i := 6) (by kernel_rfl) (yC (i := 6) rfl rfl rfl (zG rfl _) (zP (vs := [(.pointer (some ⟨b137, 0, none⟩)), u165, (.bool true)]) Tryz.func143 nm143 rfl rfl rfl ?_))
 refine Calls.mono (l6Dominated_spec hX221.pins ⟨⟨hb226, ho223, ho224, ha129, ha130, ha131⟩, hb228, (ho225.weaken (Nat.zero_le _)), ha144, ha158.symm, ha154.symm, ha156.symm⟩ (lf := true) (hr167.mono hle208) hpz134l.1 (jA (q := bkq n104 b105) hopN.1) hokN hka164) ?_
 rintro _ w232 ⟨u229, ks230, G231, rfl, hr233, hd234, hka235, hx236⟩
 refine ⟨_, rfl, ?_⟩
 have hX237 := hX221.trans hx236 (fun i hi => (yI ho225) i hi)
 have ho239 := ho223.extS hx236 (notO ha154.symm)
 have ho240 := ho224.extS hx236 (notO ha156.symm)
 have hb241 := hb226.extS hx236 (qG ha158.symm)
 have hb243 := hb228.extS hx236 (qG ha144)
 have hlo244 : Lo w ((inS b bu bv)) u138.ownBlock := (yI ho225)
 refine ⟨fun _ => (Pins.of_le hX237.pins hx236.le), ?_⟩
 refine zV (i := 7) (by kernel_rfl) (yC (i := 7) rfl rfl rfl (zG rfl _) (zP (vs := [u165, u229]) Tryz.func142 nm142 rfl rfl rfl ?_))
 refine Calls.mono (l6Without_spec hX237.pins (hr167.mono (Pin.le_trans hle208 hx236.le)) hr233 (by omega)) ?_
 rintro _ w247 ⟨u245, G246, rfl, ho248, hx249⟩
 refine ⟨_, rfl, ?_⟩
 have hX250 := hX237.tr hx249
 have ho252 := ho239.ext hx249
 have ho253 := ho240.ext hx249
 have ho254 := hd234.ok.ext hx249
 have hb255 := hb241.ext hx249
 have hb257 := hb243.ext hx249
 have ha259 : Apart u245.ownBlock u106.ownBlock := zU ho248.lt ho239.lt
 have ha260 : Apart u245.ownBlock v107.ownBlock := zU ho248.lt ho240.lt
 have ha261 : Apart u245.ownBlock u138.ownBlock := zU ho248.lt hd234.ok.lt
 have ha262 : Apart u245.ownBlock (some b) := yH ho248.lt hb241.lt
 have ho265 : Own eInt 3 G246 w247 w.heap.size u245 (woL ((n104.getD (z103).toNat default).l) (domL (gN n104 ((n104.getD (z103).toNat default).l)) true ((n104.getD (z103).toNat default).l).length ((n104.getD (z103).toNat default).l).length) ((n104.getD (z103).toNat default).l).length) := ho248.weaken hX237.size
 refine ⟨fun _ => (Pins.of_le hX250.pins (Pin.le_trans hx236.le hx249.le)), ?_⟩
 refine zV (i := 13) (by kernel_rfl) (yC (i := 13) rfl rfl rfl (zG rfl _) (zP (vs := [(.pointer (some ⟨b137, 0, none⟩)), u166, (.bool false)]) Tryz.func143 nm143 rfl rfl rfl ?_))
 refine Calls.mono (l6Dominated_spec hX250.pins ⟨⟨hb255, ho252, ho253, ha129, ha130, ha131⟩, hb257, ho254, ha144, ha158.symm, ha154.symm, ha156.symm⟩ (lf := false) (hr168.mono (Pin.le_trans (Pin.le_trans hle208 hx236.le) hx249.le)) hpz134l.2 (jA (q := bkq n104 b105) hopN.2) hokN hka235) ?_
 rintro _ w269 ⟨u266, ks267, G268, rfl, hr270, hd271, hka272, hx273⟩
 refine ⟨_, rfl, ?_⟩
 have hX274 := hX250.trans hx273 (fun i hi => hlo244 i hi)
 have ho276 := ho252.extS hx273 (notO ha154.symm)
 have ho277 := ho253.extS hx273 (notO ha156.symm)
 have ho278 := ho265.extS hx273 (notO ha261)
 have hb279 := hb255.extS hx273 (qG ha158.symm)
 refine ⟨fun _ => (Pins.of_le hX274.pins (Pin.le_trans (Pin.le_trans hx236.le hx249.le) hx273.le)), ?_⟩
 refine zV (i := 14) (by kernel_rfl) (yC (i := 14) rfl rfl rfl (zG rfl _) (zP (vs := [u166, u266]) Tryz.func142 nm142 rfl rfl rfl ?_))
 refine Calls.mono (l6Without_spec hX274.pins (hr168.mono (Pin.le_trans (Pin.le_trans (Pin.le_trans hle208 hx236.le) hx249.le) hx273.le)) hr270 (by omega)) ?_
 rintro _ w284 ⟨u282, G283, rfl, ho285, hx286⟩
 refine ⟨_, rfl, ?_⟩
 have hX287 := hX274.tr hx286
 have ho289 := ho276.ext hx286
 have ho290 := ho277.ext hx286
 have ho292 := ho278.ext hx286
 have hb293 := hb279.ext hx286
 have ha297 : Apart u282.ownBlock u106.ownBlock := zU ho285.lt ho276.lt
 have ha298 : Apart u282.ownBlock v107.ownBlock := zU ho285.lt ho277.lt
 have ha300 : Apart u282.ownBlock u245.ownBlock := zU ho285.lt ho278.lt
 have ha301 : Apart u282.ownBlock (some b) := yH ho285.lt hb279.lt
 have ho304 : Own eInt 3 G283 w284 w.heap.size u282 (woL ((n104.getD (z103).toNat default).r) (domL (gN n104 ((n104.getD (z103).toNat default).r)) false ((n104.getD (z103).toNat default).r).length ((n104.getD (z103).toNat default).r).length) ((n104.getD (z103).toNat default).r).length) := ho285.weaken hX274.size
 refine ⟨fun _ => (Pins.of_le hX287.pins (Pin.le_trans (Pin.le_trans (Pin.le_trans hx236.le hx249.le) hx273.le) hx286.le)), ?_⟩
 obtain ⟨G305, hle308, hX307, hr306, hf309⟩ := ho292.sealed hX287
 have ho311 := ho289.moreO hle308 hf309 ha259.symm
 have ho312 := ho290.moreO hle308 hf309 ha260.symm
 have ho314 := ho304.moreO hle308 hf309 ha300
 have hb315 := hb293.moreO hf309 ha262.symm
 obtain ⟨G318, hle321, hX320, hr319, hf322⟩ := ho314.sealed hX307
 have ho324 := ho311.moreO hle321 hf322 ha297.symm
 have ho325 := ho312.moreO hle321 hf322 ha298.symm
 have hb327 := hb315.moreO hf322 ha301.symm
 refine zV (i := 15) (by kernel_rfl) (yC (i := 15) rfl rfl rfl (zG rfl _) (zP (vs := [(.pointer (some ⟨b, 0, none⟩)), u245, u282]) Tryz.func115 nm115 rfl rfl rfl ?_))
 refine Calls.mono (put6_spec hX320.pins ⟨hb327, ho324, ho325, ha129, ha130, ha131⟩ hso111.ok (hr306.mono hle321) hr319 (by omega) ⟨Nat.le_trans (wo_len _) hpz134l.1, Nat.le_trans (wo_len _) hpz134l.2⟩ (wo_pl (lf := true) (t := z103) hso111.ok hso111.pl) (wo_pl (lf := false) (t := z103) hso111.ok hso111.pl)) ?_
 rintro _ w336 ⟨z330, n331, b332, u333, v334, G335, rfl, hbk337, hso338, hsd339, hx340, hlu341, hlv342⟩
 refine ⟨_, rfl, ?_⟩
 have hin343 : ∀ i, inS b u106 v107 i → w.heap.size ≤ i ∨ (inS b bu bv) i := inS_lo hlob hlo132 hlo133
 have hX344 := hX320.trans hx340 hin343
 have hn345 := notS (u := u106) (v := v107) ha44 ha120 ha121
 have hn349 := notS (u := u106) (v := v107) ha158 ha154 ha156
 have hn353 := notS (u := u106) (v := v107) ha45 ha124 ha125
 have hn357 := notS (u := u106) (v := v107) ha159 ha155 ha157
 have hb361 := hbk337.bx
 have ho362 := hbk337.ou
 have ho363 := hbk337.ov
 have ha364 := hbk337.abu
 have ha365 := hbk337.abv
 have ha366 := hbk337.auv
 have hlo367 := qO hlu341 hin343 hX320.size
 have hlo368 := qO hlv342 hin343 hX320.size
 have hpz369 : 0 ≤ z330 ∧ z330 < n331.length := hso338.pl
 have hnl370 := hso338.len
 have hnm371 := hso338.ok.ar.ok.lim
 have hpz369l : (n331.getD (z330).toNat default).l.length ≤ 1048576 ∧ (n331.getD (z330).toNat default).r.length ≤ 1048576 := hso338.ok.ar.ok.lens (z330).toNat (show (z330).toNat < n331.length by omega)
 refine ⟨fun _ => (Pins.of_le hX344.pins (Pin.le_trans (Pin.le_trans (Pin.le_trans (Pin.le_trans (Pin.le_trans (Pin.le_trans hx236.le hx249.le) hx273.le) hx286.le) hle308) hle321) hx340.le)), ?_⟩
 refine dT (i := 16) rfl rfl (by kernel_rfl) (fun _ _ => zD (v := (.int .i64 z330)) rfl) (Pins.of_le hX344.pins (Pin.le_trans (Pin.le_trans (Pin.le_trans (Pin.le_trans (Pin.le_trans (Pin.le_trans hx236.le hx249.le) hx273.le) hx286.le) hle308) hle321) hx340.le)) ?_
 refine yT (by kernel_rfl) ?_
 refine zB ?_
 refine wp_ret ?_
 refine zW ?_
 refine zS (v := (.int .i64 z330)) rfl rfl rfl ?_
 have hcn := can_node hso111.ok hrd75 hrd93 hso111.pl hsd112 hsd339
 rw [show den n2 (z1).toNat = _ from hsd10] at hcn
 exact ⟨_, _, _, u333, v334, _, rfl, ⟨hb361, ho362, ho363, ha364, ha365, ha366⟩, ⟨hso338.ok, hso9.px.trans (hso111.px.trans hso338.px), hso338.pl, (by omega)⟩, hcn, hX344, hlo367, hlo368⟩

end C62
end Go.Proofs.YtpknebplcmgnkaaGreatDoor

set_option maxRecDepth 20000
set_option maxHeartbeats 2000000
namespace Go.Proofs.YtpknebplcmgnkaaGreatDoor
namespace C63
open Go.RowKit Go.GL Go.Proofs
open Go.Proofs.YtpknebplcmgnkaaGreatDoor.B1
open Go.Proofs.YtpknebplcmgnkaaGreatDoor.C1
open Go.Proofs.YtpknebplcmgnkaaGreatDoor.D1
open Go.Proofs.YtpknebplcmgnkaaGreatDoor.E1
open Go.Proofs.YtpknebplcmgnkaaGreatDoor.OR1
open Go.Proofs.YtpknebplcmgnkaaGreatDoor.C61
open Go.Proofs.YtpknebplcmgnkaaGreatDoor.C62










theorem pl106 : (Tryz.prog.underlying 106).bind (placesD Tryz.prog) = some [(0, 1), (1, 1)] := by kernel_rfl






theorem l6Canon_spec {w : World} {G : Pin} {v : Value} {fs : List Nd} (hP : Pins G w) (hv : RSl eNode G v fs) (hf : FormOk fs) (h1 : 1 ≤ fs.length ∧ fs.length ≤ 300000) :
  Calls Tryz.prog 61 [(.agg [v].toArray)].toArray w fun e w' => ∃ (c : Nat) (u : Value) (G' : Pin), e = .returned (.agg [u].toArray) ∧ CanonG c ∧ eqG c (gOf fs) ∧ IsForm c (formG c) ∧ RSl eNode G' u (formG c) ∧ Ext noS G w G' w' := by
 refine yD (n := 45) Tryz.func61 Tryz.ntmps61 rfl rfl ?_
 have hX0 : Ext noS G w G w := Ext.refl hP
 have hm := hv.max
 refine zE (zF ?_)
 refine qI rfl (qC [v] (v := (.agg [v].toArray)) rfl rfl hX0.pins (fun b1 w2 hk3 hb4 hp5 hl6 => ?_))
 have hX7 := hX0.step hp5 hl6
 have hlo8 : w.heap.size ≤ b1 := by have := hX0.size; omega
 obtain ⟨G9, hle10, hX11, hbp12, hf13⟩ := hb4.shut hX7 hlo8
 refine qI rfl (xM [(.slice none 0 0)] zr32 rfl hX11.pins (fun b14 w15 hk16 hb17 hp18 hl19 => ?_))
 have hX20 := hX11.step hp18 hl19
 have hlo21 : w.heap.size ≤ b14 := by have := hX11.size; omega
 refine qe (zB (zE (zF ?_)))
 refine qD rfl (r_build [(.slice none 0 0), (.slice none 0 0)] [(.slice none 0 0), (.slice none 0 0)] [] Tryz.underlying106 zr106 rfl pl106 rfl (fun _ h => by cases h) rfl) ?_
 refine qI rfl (qC [(.slice none 0 0), (.slice none 0 0)] (v := (.agg [(.slice none 0 0), (.slice none 0 0)].toArray)) rfl rfl hX20.pins (fun b22 w23 hk24 hb25 hp26 hl27 => ?_))
 have hX28 := hX20.step hp26 hl27
 have hb29 := hb17.below hl27
 have ha30 : Apart (some b22) (some b14) := zR (congrArg some hk24) hb17.lt
 have hlo31 : w.heap.size ≤ b22 := by have := hX20.size; omega
 refine qD rfl (zD (v := (.pointer (some ⟨b22, 0, none⟩))) rfl) ?_
 refine qe (zB (zE (zF ?_)))
 refine qI rfl (yZ (E := eInt) (e := 3) Tryz.underlying67 sz3 hX28.pins (fun u32 w33 ho34 hp35 hl36 hk37 => ?_))
 have hX38 := hX28.step hp35 hl36
 have hb39 := hb29.below hl36
 have hb40 := hb25.below hl36
 have ha41 : Apart u32.ownBlock (some b14) := zR hk37 hb29.lt
 have ha42 : Apart u32.ownBlock (some b22) := zR hk37 hb25.lt
 have ho43 : Own eInt 3 G9 w33 w.heap.size u32 ([]) := ho34.weaken hX28.size
 refine qD rfl (zD (v := u32) rfl) ?_
 refine qe (zB (zE (zE (zF ?_))))
 refine qD rfl (zD (v := (.int .i64 0)) rfl) ?_
 refine qe (zB ?_)
 refine zZ ?_
 refine yM (fun (k : Nat) (en : Nat → Value) (W : World) => ∃ (env1 : Nat → Value) (k5 : Nat) (atB : Value) (atsB : List Int) (uB : Value) (vB : Value) (nsB : List Nd) (bsB : List Int) (GL1 : Pin), en = (upd (upd (upd (upd (upd env1 1 (.pointer (some ⟨b1, 0, none⟩))) 2 (.pointer (some ⟨b14, 0, none⟩))) 3 (.pointer (some ⟨b22, 0, none⟩))) 4 atB) 5 (.int .i64 (k5 : Int))) ∧ k = fs.length - k5 ∧ Ext noS G w GL1 W ∧ Pin.le G9 GL1 ∧ (k5 ≤ fs.length) ∧ (PoolOk (bkq nsB bsB)) ∧ (CnOk (bkq nsB bsB) atsB k5 fs) ∧ (nsB.length ≤ 3 * k5) ∧ (Own eInt 3 GL1 W w.heap.size atB (atsB)) ∧ (Own eNode 103 GL1 W 0 uB (nsB)) ∧ (Own eInt 3 GL1 W 0 vB (bsB)) ∧ (Bx GL1 W b14 [(.slice none 0 0)]) ∧ (Bx GL1 W b22 [uB, vB]) ∧ (Apart atB.ownBlock uB.ownBlock) ∧ (Apart atB.ownBlock vB.ownBlock) ∧ (Apart atB.ownBlock (some b14)) ∧ (Apart atB.ownBlock (some b22)) ∧ (Apart uB.ownBlock vB.ownBlock) ∧ (Apart uB.ownBlock (some b14)) ∧ (Apart uB.ownBlock (some b22)) ∧ (Apart vB.ownBlock (some b14)) ∧ (Apart vB.ownBlock (some b22)) ∧ (Lo w noS uB.ownBlock) ∧ (Lo w noS vB.ownBlock)) _ ⟨_, 0, u32, [], (.slice none 0 0), (.slice none 0 0), [], [], G9, (zC (x := 5) (zC (x := 4) (zC (x := 3) (zC (x := 2) (zN (x := 1) rfl) rfl) rfl) rfl) rfl), rfl, hX38, Pin.le_refl _, Nat.zero_le _, (bkq_ok Ar.empty), CnOk.start, Nat.le_refl 0, ho43, (Own.nil _ _ _ _ _), (Own.nil _ _ _ _ _), hb39, hb40, apart_none.symm, apart_none.symm, ha41, ha42, apart_none, apart_none, apart_none, apart_none, apart_none, (lo_none _ _), (lo_none _ _)⟩ ?_
 rintro k44 _ w45 ⟨env1, k5, atB, atsB, uB, vB, nsB, bsB, GL1, rfl, hk46, hX47, hlek44, hk5, hpoB, hcn, hblB, hw48, hw49, hw50, hw51, hw52, ha53, ha54, ha55, ha56, ha57, ha58, ha59, ha60, ha61, hlo62, hlo63⟩
 have hcl := hcn.len
 refine zE (zE (zF ?_))
 refine qD rfl (zA (v := (.int .i64 (k5 : Int))) rfl) ?_
 refine qD rfl (zM (k := 0) rfl Tryz.underlying32 rfl nz30 rfl) ?_
 refine qD rfl (zO (u := v) ag30 rfl ((Pins.of_le hX47.pins hlek44) _ _ _ (hbp12 0 _ rfl))) ?_
 refine qD rfl (zL Tryz.underlying30 (v := v) rfl hv) ?_
 refine qD rfl (yN rfl rfl) ?_
 refine qe (zB ?_)
 refine yE (p := ((k5 : Int) : Int) < (fs.length : Int)) rfl rfl (fun h64 => ?_) (fun h64 => ?_)
 ·skip
  have oo := xD hf.opts (show k5 < fs.length by omega)
  have hfe := hf.lens k5 (by omega)
  have hil : ∀ i, i < (fs.getD k5 default).l.length → 0 ≤ (fs.getD k5 default).l.getD i 0 ∧ (fs.getD k5 default).l.getD i 0 < atsB.length := fun i hi => by have h := oo.1 _ (yG (d := (0 : Int)) hi); omega
  have hir : ∀ i, i < (fs.getD k5 default).r.length → 0 ≤ (fs.getD k5 default).r.getD i 0 ∧ (fs.getD k5 default).r.getD i 0 < atsB.length := fun i hi => by have h := oo.2 _ (yG (d := (0 : Int)) hi); omega
  refine wp_skip ?_
  refine zB (zE ?_)
  refine zZ ?_
  refine xE (S := fun wz => Pins GL1 wz) (last := 22) (by kernel_rfl) rfl ?_
  have hl65 : Below w45.heap.size w45 w45.drew := (Below.refl _ _).drew
  have hp66 := hX47.pins.below hl65
  have hX67 := hX47.step hp66 hl65
  have ho68 := hw48.below hl65
  have ho69 := hw49.below hl65
  have ho70 := hw50.below hl65
  have hb71 := hw51.below hl65
  have hb72 := hw52.below hl65
  refine dT (i := 0) rfl rfl (by kernel_rfl) (fun _ _ => zA (v := atB) rfl) hX67.pins ?_
  refine dT (i := 1) rfl rfl (by kernel_rfl) (fun _ _ => zA (v := (.pointer (some ⟨b22, 0, none⟩))) rfl) hX67.pins ?_
  refine dT (i := 2) rfl rfl (by kernel_rfl) (fun _ _ => zA (v := atB) rfl) hX67.pins ?_
  refine dT (i := 3) rfl rfl (by kernel_rfl) (fun _ _ => zM (k := 0) rfl Tryz.underlying32 rfl nz30 rfl) hX67.pins ?_
  refine dT (i := 4) rfl rfl (by kernel_rfl) (fun _ hS => zO (u := v) ag30 rfl ((Pins.of_le hS hlek44) _ _ _ (hbp12 0 _ rfl))) hX67.pins ?_
  refine dT (i := 5) rfl rfl (by kernel_rfl) (fun _ _ => zA (v := (.int .i64 (k5 : Int))) rfl) hX67.pins ?_
  refine dT (i := 6) rfl rfl (by kernel_rfl) (fun _ _ => zJ Tryz.underlying30 yO (v := v) rfl rfl hv (by omega) (by omega)) hX67.pins ?_
  refine dT (i := 7) rfl rfl (by kernel_rfl) (fun _ _ => xA (off := 0) Tryz.underlying103 rfl rfl nz67 (z := (k5 : Int)) (k := 0) rfl hv (by omega) (by omega)) hX67.pins ?_
  obtain ⟨u73, hr74, hl75⟩ := nm_nl (hv.at (z := (k5 : Int)) (by omega) (by omega)) (j := k5) rfl
  have hm76 := hr74.max
  refine dT (i := 8) rfl rfl (by kernel_rfl) (fun _ hS => hl75 ag67 rfl (Pins.of_le hS (Pin.le_trans hle10 hlek44))) hX67.pins ?_
  refine dT (i := 10) rfl rfl (by kernel_rfl) (fun _ _ => zA (v := atB) rfl) hX67.pins ?_
  refine dT (i := 11) rfl rfl (by kernel_rfl) (fun _ _ => zM (k := 0) rfl Tryz.underlying32 rfl nz30 rfl) hX67.pins ?_
  refine dT (i := 12) rfl rfl (by kernel_rfl) (fun _ hS => zO (u := v) ag30 rfl ((Pins.of_le hS hlek44) _ _ _ (hbp12 0 _ rfl))) hX67.pins ?_
  refine dT (i := 13) rfl rfl (by kernel_rfl) (fun _ _ => zA (v := (.int .i64 (k5 : Int))) rfl) hX67.pins ?_
  refine dT (i := 14) rfl rfl (by kernel_rfl) (fun _ _ => zJ Tryz.underlying30 yO (v := v) rfl rfl hv (by omega) (by omega)) hX67.pins ?_
  refine dT (i := 15) rfl rfl (by kernel_rfl) (fun _ _ => xA (off := 1) Tryz.underlying103 rfl rfl nz67 (z := (k5 : Int)) (k := 0) rfl hv (by omega) (by omega)) hX67.pins ?_
  obtain ⟨u77, hr78, hl79⟩ := nm_nr (hv.at (z := (k5 : Int)) (by omega) (by omega)) (j := k5) rfl
  have hm80 := hr78.max
  refine dT (i := 16) rfl rfl (by kernel_rfl) (fun _ hS => hl79 ag67 rfl (Pins.of_le hS (Pin.le_trans hle10 hlek44))) hX67.pins ?_
  refine zV (i := 9) (by kernel_rfl) (yC (i := 9) rfl rfl rfl (zG rfl _) (zP (vs := [atB, u73]) Tryz.func106 nm106 rfl rfl rfl ?_))
  refine Calls.mono (qM hX67.pins (Gadd.pins hX67.pins atB) ho68.read (hr74.mono (Pin.le_trans hle10 hlek44)) (by omega) hil) ?_
  rintro _ w83 ⟨u81, G82, rfl, ho84, hx85⟩
  refine ⟨_, rfl, ?_⟩
  have hX86 := hX67.tr hx85
  have ho87 := ho68.ext hx85
  have ho88 := ho69.ext hx85
  have ho89 := ho70.ext hx85
  have hb90 := hb71.ext hx85
  have hb91 := hb72.ext hx85
  have ha92 : Apart u81.ownBlock atB.ownBlock := zU ho84.lt ho68.lt
  have ha93 : Apart u81.ownBlock uB.ownBlock := zU ho84.lt ho69.lt
  have ha94 : Apart u81.ownBlock vB.ownBlock := zU ho84.lt ho70.lt
  have ha95 : Apart u81.ownBlock (some b14) := yH ho84.lt hb71.lt
  have ha96 : Apart u81.ownBlock (some b22) := yH ho84.lt hb72.lt
  have ho97 : Own eInt 3 G82 w83 w.heap.size u81 (atL atsB ((fs.getD k5 default).l)) := ho84.weaken hX67.size
  refine ⟨fun _ => (Pins.of_le hX86.pins hx85.le), ?_⟩
  refine zV (i := 17) (by kernel_rfl) (yC (i := 17) rfl rfl rfl (zG rfl _) (zP (vs := [atB, u77]) Tryz.func106 nm106 rfl rfl rfl ?_))
  refine Calls.mono (qM hX86.pins (Gadd.pins hX86.pins atB) ho87.read (hr78.mono (Pin.le_trans (Pin.le_trans hle10 hlek44) hx85.le)) (by omega) hir) ?_
  rintro _ w100 ⟨u98, G99, rfl, ho101, hx102⟩
  refine ⟨_, rfl, ?_⟩
  have hX103 := hX86.tr hx102
  have ho104 := ho87.ext hx102
  have ho105 := ho88.ext hx102
  have ho106 := ho89.ext hx102
  have ho107 := ho97.ext hx102
  have hb108 := hb90.ext hx102
  have hb109 := hb91.ext hx102
  have ha110 : Apart u98.ownBlock atB.ownBlock := zU ho101.lt ho87.lt
  have ha111 : Apart u98.ownBlock uB.ownBlock := zU ho101.lt ho88.lt
  have ha112 : Apart u98.ownBlock vB.ownBlock := zU ho101.lt ho89.lt
  have ha113 : Apart u98.ownBlock u81.ownBlock := zU ho101.lt ho97.lt
  have ha114 : Apart u98.ownBlock (some b14) := yH ho101.lt hb90.lt
  have ha115 : Apart u98.ownBlock (some b22) := yH ho101.lt hb91.lt
  have ho116 : Own eInt 3 G99 w100 w.heap.size u98 (atL atsB ((fs.getD k5 default).r)) := ho101.weaken hX86.size
  refine ⟨fun _ => (Pins.of_le hX103.pins (Pin.le_trans hx85.le hx102.le)), ?_⟩
  obtain ⟨G117, hle120, hX119, hr118, hf121⟩ := ho107.sealed hX103
  have ho122 := ho104.moreO hle120 hf121 ha92.symm
  have ho123 := ho105.moreO hle120 hf121 ha93.symm
  have ho124 := ho106.moreO hle120 hf121 ha94.symm
  have ho125 := ho116.moreO hle120 hf121 ha113
  have hb126 := hb108.moreO hf121 ha95.symm
  have hb127 := hb109.moreO hf121 ha96.symm
  obtain ⟨G128, hle131, hX130, hr129, hf132⟩ := ho125.sealed hX119
  have ho133 := ho122.moreO hle131 hf132 ha110.symm
  have ho134 := ho123.moreO hle131 hf132 ha111.symm
  have ho135 := ho124.moreO hle131 hf132 ha112.symm
  have hb136 := hb126.moreO hf132 ha114.symm
  have hb137 := hb127.moreO hf132 ha115.symm
  refine zV (i := 18) (by kernel_rfl) (yC (i := 18) rfl rfl rfl (zG rfl _) (zP (vs := [(.pointer (some ⟨b22, 0, none⟩)), u81, u98]) Tryz.func105 nm105 rfl rfl rfl ?_))
  refine Calls.mono (l6Node_spec hX130.pins ⟨hb137, ho134, ho135, ha59.symm, ha61.symm, ha57⟩ hpoB (hr118.mono hle131) hr129 (by omega) ⟨by rw [xC]; omega, by rw [xC]; omega⟩ (hcn.pl oo.1) (hcn.pl oo.2)) ?_
  rintro _ w144 ⟨z138, n139, b140, u141, v142, G143, rfl, hbk145, hso146, hsd147, hx148, hlu149, hlv150⟩
  refine ⟨_, rfl, ?_⟩
  have hin151 : ∀ i, inS b22 uB vB i → w.heap.size ≤ i ∨ noS i := inS_lo (xJ hlo31) hlo62 hlo63
  have hX152 := hX130.trans hx148 hin151
  have hn153 := notS (u := uB) (v := vB) ha56 ha53 ha54
  have ho154 := ho133.extS hx148 hn153
  have ha155 : Apart atB.ownBlock u141.ownBlock := ap_call hlu149 hn153 (qS ho133)
  have ha156 : Apart atB.ownBlock v142.ownBlock := ap_call hlv150 hn153 (qS ho133)
  have hn157 := notS (u := uB) (v := vB) ha30.symm ha58.symm ha60.symm
  have ho158 := hb136.extS hx148 (notSb hn157)
  have ha159 : Apart (some b14) u141.ownBlock := ap_call hlu149 hn157 (box_lt hb136)
  have ha160 : Apart (some b14) v142.ownBlock := ap_call hlv150 hn157 (box_lt hb136)
  have hb161 := hbk145.bx
  have ho162 := hbk145.ou
  have ho163 := hbk145.ov
  have ha164 := hbk145.abu
  have ha165 := hbk145.abv
  have ha166 := hbk145.auv
  have hlo167 := qO hlu149 hin151 hX130.size
  have hlo168 := qO hlv150 hin151 hX130.size
  have hpz169 : 0 ≤ z138 ∧ z138 < n139.length := hso146.pl
  have hnl170 := hso146.len
  have hnm171 := hso146.ok.ar.ok.lim
  have hpz169l : (n139.getD (z138).toNat default).l.length ≤ 1048576 ∧ (n139.getD (z138).toNat default).r.length ≤ 1048576 := hso146.ok.ar.ok.lens (z138).toNat (show (z138).toNat < n139.length by omega)
  refine ⟨fun _ => (Pins.of_le hX152.pins (Pin.le_trans (Pin.le_trans (Pin.le_trans (Pin.le_trans hx85.le hx102.le) hle120) hle131) hx148.le)), ?_⟩
  refine zV (i := 19) (by kernel_rfl) (yC (i := 19) rfl rfl rfl (zG rfl _) (yQ (E := eInt) (e := 3) [(.int .i64 z138)] [z138] Tryz.underlying67 sz3 zr3 (by exact xO (by rfl)) (xG (by rfl)) rfl rfl rfl rfl (by decide) hX152.pins (fun u172 w173 ho174 hp175 hl176 hk177 => ?_)))
  have hX178 := hX152.step hp175 hl176
  have ho179 := ho154.below hl176
  have ho180 := ho162.below hl176
  have ho181 := ho163.below hl176
  have hb182 := ho158.below hl176
  have hb183 := hb161.below hl176
  have ho189 : Own eInt 3 G143 w173 w.heap.size u172 ([z138]) := ho174.weaken hX152.size
  refine ⟨fun _ => (Pins.of_le hX178.pins (Pin.le_trans (Pin.le_trans (Pin.le_trans (Pin.le_trans hx85.le hx102.le) hle120) hle131) hx148.le)), ?_⟩
  refine zV (i := 20) (by kernel_rfl) (yC (i := 20) rfl rfl rfl (zG rfl _) (yB (E := eInt) (v := atB) (u := u172) 8 Tryz.underlying67 ap3 (by decide) rfl rfl hX178.pins ho179 ho189.src (by first | omega | (rw [List.nil_append]; omega) | (rw [List.length_nil]; omega) | (rw [List.length_append]; omega) | (simp; done) | (simp; omega) | (simp only [List.length_append, List.length_cons, List.length_nil]; omega)) (by first | omega | (rw [List.nil_append]; omega) | (rw [List.length_nil]; omega) | (rw [List.length_append]; omega) | (simp; done) | (simp; omega) | (simp only [List.length_append, List.length_cons, List.length_nil]; omega)) (hX178.size) (fun u190 w191 ho192 hp193 hg194 hw195 => ?_)))
  have hX196 := hX178.write hp193 hg194 ((yI ho179))
  have ho197 := ho180.keptA hg194 ha155.symm
  have ho198 := ho181.keptA hg194 ha156.symm
  have hb200 := hb182.keptA hg194 ha55.symm
  have hb201 := hb183.keptA hg194 ha56.symm
  have ha202 : Apart u141.ownBlock u190.ownBlock := zH ha155.symm hw195 ho180.lt
  have ha203 : Apart v142.ownBlock u190.ownBlock := zH ha156.symm hw195 ho181.lt
  have ha205 : Apart (some b14) u190.ownBlock := zQ ha55.symm hw195 hb182.lt
  have ha206 : Apart (some b22) u190.ownBlock := zQ ha56.symm hw195 hb183.lt
  have hm207 : (atsB ++ ([z138])).length = atsB.length + 1 := List.length_append
  refine ⟨fun _ => (Pins.of_le hX196.pins (Pin.le_trans (Pin.le_trans (Pin.le_trans (Pin.le_trans hx85.le hx102.le) hle120) hle131) hx148.le)), ?_⟩
  refine dT (i := 21) rfl rfl (by kernel_rfl) (fun _ _ => zD (v := u190) rfl) (Pins.of_le hX196.pins (Pin.le_trans (Pin.le_trans (Pin.le_trans (Pin.le_trans hx85.le hx102.le) hle120) hle131) hx148.le)) ?_
  refine yT (by kernel_rfl) ?_
  refine yA ?_
  refine zB (zF ?_)
  refine qD rfl (zA (v := (.int .i64 (k5 : Int))) rfl) ?_
  refine qD rfl (yJ rfl rfl (by omega)) ?_
  refine qD rfl (zD (v := (.int .i64 ((k5 : Int) + 1))) rfl) ?_
  refine qe ?_
  refine zY ?_
  refine ⟨_, ?_, _, rfl, _, k5 + 1, u190, atsB ++ ([z138]), u141, v142, n139, b140, G143, (zC (x := 5) (zC (x := 4) (zC (x := 3) (zC (x := 2) (zN (x := 1) rfl) rfl) rfl) rfl) rfl), rfl, hX196, (Pin.le_trans (Pin.le_trans (Pin.le_trans (Pin.le_trans (Pin.le_trans hlek44 hx85.le) hx102.le) hle120) hle131) hx148.le), (by omega), hso146.ok, (hcn.step hso146.px hpoB hso146.ok hso146.pl hsd147.1 (hsd147.2.trans (hcn.node hf.opts (by omega)))), (by have := hso146.len; omega), ho192, ho197, ho198, hb200, hb201, ha202.symm, ha203.symm, ha205.symm, ha206.symm, ha166, ha159.symm, ha164.symm, ha160.symm, ha165.symm, hlo167, hlo168⟩
  omega
 refine wp_exit ?_
 refine zX ?_
 refine yL ?_
 refine yF ?_
 refine zB (zE (zF ?_))
 have hkn : k5 = fs.length := by omega
 have hrt := hcn.at_ (fs.length - 1) (by omega)
 rw [show fs.length - 1 = ((atsB.length : Int) - 1).toNat by omega] at hrt
 have hgo : den fs ((atsB.length : Int) - 1).toNat = gOf fs := by unfold gOf; rw [show ((atsB.length : Int) - 1).toNat = fs.length - 1 by omega]
 rw [hgo] at hrt
 refine qD rfl (zA (v := (.pointer (some ⟨b22, 0, none⟩))) rfl) ?_
 refine qD rfl (zA (v := atB) rfl) ?_
 refine qD rfl (zA (v := atB) rfl) ?_
 refine qD rfl (zL Tryz.underlying67 (v := atB) rfl hw48.read) ?_
 refine qD rfl (qP rfl rfl (by omega)) ?_
 refine qD rfl (zJ Tryz.underlying67 sz3 (v := atB) rfl rfl hw48.read (by omega) (by omega)) ?_
 refine qD rfl (zI (r := atsB.getD ((atsB.length : Int) - 1).toNat 0) rfl ag3 (z := ((atsB.length : Int) - 1)) rfl hw48.read (Gadd.pins hX47.pins atB) (by omega) (by omega)) ?_
 refine qI rfl (zP (vs := [(.pointer (some ⟨b22, 0, none⟩)), (.int .i64 (atsB.getD ((atsB.length : Int) - 1).toNat 0))]) Tryz.func91 nm91 rfl rfl rfl ?_)
 refine Calls.mono (form_spec hX47.pins ⟨hw52, hw49, hw50, ha59.symm, ha61.symm, ha57⟩ hpoB.ar.ok hrt.1) ?_
 rintro _ w210 ⟨u208, G209, rfl, hr211, hx212⟩
 refine ⟨_, rfl, ?_⟩
 have hX213 := hX47.tr hx212
 have hb217 := hw51.ext hx212
 refine q0 rfl rfl rfl (xZ (cs' := [u208]) (us := [u208]) (v := (.agg [u208].toArray)) sz32 rfl rfl rfl (xG hr211.one) hX213.pins hb217 (Nat.le_of_ble_eq_true rfl) rfl (fun w219 hb220 hp221 hg222 hz223 => ?_))
 have hX224 := hX213.write hp221 hg222 ((xJ hlo21))
 refine qe (zB ?_)
 refine wp_ret ?_
 refine zW ?_
 refine c_retc (cs := [u208]) rfl rfl rfl ag32 sz32 (fun j u hj => by rw [Nat.zero_add]; exact hb220.cell hj) ?_
 exact ⟨_, _, _, rfl, hrt.2.1, hrt.2.2, form_is hpoB hrt.1, (by rw [← book_form hpoB hrt.1]; exact hr211), hX224⟩

end C63
end Go.Proofs.YtpknebplcmgnkaaGreatDoor

set_option maxRecDepth 20000
set_option maxHeartbeats 2000000
namespace Go.Proofs.YtpknebplcmgnkaaGreatDoor
namespace AS1
open Go.RowKit Go.GL Go.Proofs
open Go.Proofs.YtpknebplcmgnkaaGreatDoor.B1
open Go.Proofs.YtpknebplcmgnkaaGreatDoor.C1
open Go.Proofs.YtpknebplcmgnkaaGreatDoor.D1
open Go.Proofs.YtpknebplcmgnkaaGreatDoor.E1
open Go.Proofs.YtpknebplcmgnkaaGreatDoor.OR1
open Go.Proofs.YtpknebplcmgnkaaGreatDoor.C61
open Go.Proofs.YtpknebplcmgnkaaGreatDoor.C62
open Go.Proofs.YtpknebplcmgnkaaGreatDoor.C63










theorem l8AllSmall_spec {w : World} {G : Pin} {v : Value} {fs : List Nd} (hP : Pins G w) (hv : RSl eNode G v fs) :
  Calls Tryz.prog 60 [(.agg [v].toArray)].toArray w fun e w' => ∃ G', e = .returned (.bool (decP (SmP fs))) ∧ Ext noS G w G' w' := by
 refine yD (n := 28) Tryz.func60 Tryz.ntmps60 rfl rfl ?_
 have hX0 : Ext noS G w G w := Ext.refl hP
 have hm := hv.max
 refine zE (zF ?_)
 refine qI rfl (qC [v] (v := (.agg [v].toArray)) rfl rfl hX0.pins (fun b1 w2 hk3 hb4 hp5 hl6 => ?_))
 have hX7 := hX0.step hp5 hl6
 have hlo8 : w.heap.size ≤ b1 := by have := hX0.size; omega
 obtain ⟨G9, hle10, hX11, hbp12, hf13⟩ := hb4.shut hX7 hlo8
 refine qD rfl (zD (v := (.bool false)) rfl) ?_
 refine qe (zB (zE (zE (zF ?_))))
 refine qD rfl (zD (v := (.int .i64 0)) rfl) ?_
 refine qe (zB ?_)
 refine zZ ?_
 refine yM (fun (k : Nat) (en : Nat → Value) (W : World) => ∃ (env1 : Nat → Value) (j : Nat) (GL1 : Pin), en = (upd (upd env1 1 (.pointer (some ⟨b1, 0, none⟩))) 3 (.int .i64 (j : Int))) ∧ k = fs.length - j ∧ Ext noS G w GL1 W ∧ Pin.le G9 GL1 ∧ (j ≤ fs.length) ∧ (∀ i, i < j → SmN (fs.getD i default))) _ ⟨_, 0, G9, (zC (x := 3) (zN (x := 1) rfl) rfl), rfl, hX11, Pin.le_refl _, Nat.zero_le _, (fun i hi => absurd hi (Nat.not_lt_zero i))⟩ ?_
 rintro k14 _ w15 ⟨env1, j, GL1, rfl, hk16, hX17, hlek14, hj, hall⟩
 refine zE (zE (zF ?_))
 refine qD rfl (zA (v := (.int .i64 (j : Int))) rfl) ?_
 refine qD rfl (zM (k := 0) rfl Tryz.underlying32 rfl nz30 rfl) ?_
 refine qD rfl (zO (u := v) ag30 rfl ((Pins.of_le hX17.pins hlek14) _ _ _ (hbp12 0 _ rfl))) ?_
 refine qD rfl (zL Tryz.underlying30 (v := v) rfl hv) ?_
 refine qD rfl (yN rfl rfl) ?_
 refine qe (zB ?_)
 refine yE (p := ((j : Int) : Int) < (fs.length : Int)) rfl rfl (fun h18 => ?_) (fun h18 => ?_)
 ·skip
  refine wp_skip ?_
  refine zB (zE ?_)
  refine zZ ?_
  refine zE ?_
  refine xE (S := fun wz => Pins GL1 wz) (last := 17) (by kernel_rfl) rfl ?_
  have hl19 : Below w15.heap.size w15 w15.drew := (Below.refl _ _).drew
  have hp20 := hX17.pins.below hl19
  have hX21 := hX17.step hp20 hl19
  refine dT (i := 0) rfl rfl (by kernel_rfl) (fun _ _ => zM (k := 0) rfl Tryz.underlying32 rfl nz30 rfl) hX21.pins ?_
  refine dT (i := 1) rfl rfl (by kernel_rfl) (fun _ hS => zO (u := v) ag30 rfl ((Pins.of_le hS hlek14) _ _ _ (hbp12 0 _ rfl))) hX21.pins ?_
  refine dT (i := 2) rfl rfl (by kernel_rfl) (fun _ _ => zA (v := (.int .i64 (j : Int))) rfl) hX21.pins ?_
  refine dT (i := 3) rfl rfl (by kernel_rfl) (fun _ _ => zJ Tryz.underlying30 yO (v := v) rfl rfl hv (by omega) (by omega)) hX21.pins ?_
  refine dT (i := 4) rfl rfl (by kernel_rfl) (fun _ _ => xA (off := 0) Tryz.underlying103 rfl rfl nz67 (z := (j : Int)) (k := 0) rfl hv (by omega) (by omega)) hX21.pins ?_
  obtain ⟨u22, hr23, hl24⟩ := nm_nl (hv.at (z := (j : Int)) (by omega) (by omega)) (j := j) rfl
  have hm25 := hr23.max
  refine dT (i := 5) rfl rfl (by kernel_rfl) (fun _ hS => hl24 ag67 rfl (Pins.of_le hS (Pin.le_trans hle10 hlek14))) hX21.pins ?_
  refine dT (i := 6) rfl rfl (by kernel_rfl) (fun _ _ => zL Tryz.underlying67 (v := u22) rfl hr23) hX21.pins ?_
  refine dT (i := 7) rfl rfl (by kernel_rfl) (fun _ _ => r_eql rfl rfl) hX21.pins ?_
  refine dT (i := 8) rfl rfl (by kernel_rfl) (fun _ _ => zM (k := 0) rfl Tryz.underlying32 rfl nz30 rfl) hX21.pins ?_
  refine dT (i := 9) rfl rfl (by kernel_rfl) (fun _ hS => zO (u := v) ag30 rfl ((Pins.of_le hS hlek14) _ _ _ (hbp12 0 _ rfl))) hX21.pins ?_
  refine dT (i := 10) rfl rfl (by kernel_rfl) (fun _ _ => zA (v := (.int .i64 (j : Int))) rfl) hX21.pins ?_
  refine dT (i := 11) rfl rfl (by kernel_rfl) (fun _ _ => zJ Tryz.underlying30 yO (v := v) rfl rfl hv (by omega) (by omega)) hX21.pins ?_
  refine dT (i := 12) rfl rfl (by kernel_rfl) (fun _ _ => xA (off := 1) Tryz.underlying103 rfl rfl nz67 (z := (j : Int)) (k := 0) rfl hv (by omega) (by omega)) hX21.pins ?_
  obtain ⟨u26, hr27, hl28⟩ := nm_nr (hv.at (z := (j : Int)) (by omega) (by omega)) (j := j) rfl
  have hm29 := hr27.max
  refine dT (i := 13) rfl rfl (by kernel_rfl) (fun _ hS => hl28 ag67 rfl (Pins.of_le hS (Pin.le_trans hle10 hlek14))) hX21.pins ?_
  refine dT (i := 14) rfl rfl (by kernel_rfl) (fun _ _ => zL Tryz.underlying67 (v := u26) rfl hr27) hX21.pins ?_
  refine dT (i := 15) rfl rfl (by kernel_rfl) (fun _ _ => r_eql rfl rfl) hX21.pins ?_
  refine dT (i := 16) rfl rfl (by kernel_rfl) (fun _ _ => r_neqB Tryz.underlying4 rfl rfl) hX21.pins ?_
  refine yT (by kernel_rfl) ?_
  refine zB ?_
  refine c_if rfl rfl (fun h30 => ?_) (fun h30 => ?_)
  ·skip
   refine zE (zF ?_)
   refine qD rfl (zD (v := (.bool false)) rfl) ?_
   refine qe (zB ?_)
   refine wp_ret ?_
   refine zW ?_
   refine zS (v := (.bool false)) rfl rfl rfl ?_
   exact ⟨_, congrArg (fun z => Ending.returned (Value.bool z)) (decP_false.2 (fun g => ne_dec_t h30 (g j (by omega)))).symm, hX21⟩
  refine wp_skip ?_
  refine yA ?_
  refine zB (zF ?_)
  refine qD rfl (zA (v := (.int .i64 (j : Int))) rfl) ?_
  refine qD rfl (yJ rfl rfl (by omega)) ?_
  refine qD rfl (zD (v := (.int .i64 ((j : Int) + 1))) rfl) ?_
  refine qe ?_
  refine zY ?_
  refine ⟨_, ?_, _, rfl, _, j + 1, GL1, (zC (x := 3) (zN (x := 1) rfl) rfl), rfl, hX21, hlek14, (by omega), (fun i hi => if h3 : i = j then h3 ▸ ne_dec_f h30 else hall i (by omega))⟩
  omega
 refine wp_exit ?_
 refine zX ?_
 refine yL ?_
 refine yF ?_
 refine zB (zE (zF ?_))
 refine qD rfl (zD (v := (.bool true)) rfl) ?_
 refine qe (zB ?_)
 refine wp_ret ?_
 refine zW ?_
 refine zS (v := (.bool true)) rfl rfl rfl ?_
 exact ⟨_, congrArg (fun z => Ending.returned (Value.bool z)) (decP_true.2 (fun k hk => hall k (by omega))).symm, hX17⟩

theorem sIsAllSmall_spec {w : World} {G : Pin} {v : Value} {fs : List Nd} (hP : Pins G w) (hv : RSl eNode G v fs) :
  Calls Tryz.prog 21 [(.agg [v].toArray)].toArray w fun e w' => ∃ G', e = .returned (.tuple #[.bool (alF fs), .bool (goodB fs)]) ∧ Ext noS G w G' w' := by
 refine yD (n := 10) Tryz.func21 Tryz.ntmps21 rfl rfl ?_
 have hX0 : Ext noS G w G w := Ext.refl hP
 refine zE (zF ?_)
 refine qI rfl (qC [v] (v := (.agg [v].toArray)) rfl rfl hX0.pins (fun b1 w2 hk3 hb4 hp5 hl6 => ?_))
 have hX7 := hX0.step hp5 hl6
 have hlo8 : w.heap.size ≤ b1 := by have := hX0.size; omega
 obtain ⟨G9, hle10, hX11, hbp12, hf13⟩ := hb4.shut hX7 hlo8
 refine qD rfl (zD (v := (.bool false)) rfl) ?_
 refine qD rfl (zD (v := (.bool false)) rfl) ?_
 refine qe (zB (zE (zE (zF ?_))))
 refine qD rfl (xQ (cs := [v]) ag32 sz32 rfl (fun j u hj => hX11.pins _ _ _ (hbp12 _ _ (by simpa using hj)))) ?_
 refine qI rfl (zP (vs := [(.agg [v].toArray)]) Tryz.func51 nm51 rfl rfl rfl ?_)
 refine Calls.mono (l3Good_spec hX11.pins (hv.mono hle10)) ?_
 rintro _ w15 ⟨G14, rfl, hx16⟩
 refine ⟨_, rfl, ?_⟩
 have hX17 := hX11.tr hx16
 refine qD rfl (xS rfl) ?_
 refine qe (zB ?_)
 refine qW rfl rfl (fun h18 => ?_) (fun h18 => ?_)
 ·skip
  refine wp_skip ?_
  refine zB (zE (zF ?_))
  have hgb : goodB fs = true := (good_eq fs).symm.trans h18
  have hga : GoodP fs := goodB_true.1 hgb
  have hla := hga.lo
  have hha := hga.hi
  refine qD rfl (xQ (cs := [v]) ag32 sz32 rfl (fun j u hj => (Pins.of_le hX17.pins hx16.le) _ _ _ (hbp12 _ _ (by simpa using hj)))) ?_
  refine qI rfl (zP (vs := [(.agg [v].toArray)]) Tryz.func61 nm61 rfl rfl rfl ?_)
  refine Calls.mono (l6Canon_spec hX17.pins (hv.mono (Pin.le_trans hle10 hx16.le)) (good_form hga) ⟨by omega, by omega⟩) ?_
  rintro _ w22 ⟨c19, u20, G21, rfl, hcg23, hce24, hcf25, hr26, hx27⟩
  refine ⟨_, rfl, ?_⟩
  have hX28 := hX17.tr hx27
  refine qI rfl (zP (vs := [(.agg [u20].toArray)]) Tryz.func60 nm60 rfl rfl rfl ?_)
  refine Calls.mono (l8AllSmall_spec hX28.pins hr26) ?_
  rintro _ w30 ⟨G29, rfl, hx31⟩
  refine ⟨_, rfl, ?_⟩
  have hX32 := hX28.tr hx31
  refine qD rfl (zD (v := (.bool (decP (SmP (formG c19))))) rfl) ?_
  refine qD rfl (zD (v := (.bool true)) rfl) ?_
  refine qe (zB ?_)
  refine wp_ret ?_
  refine zW ?_
  refine c_ret2 (v := (.bool (decP (SmP (formG c19))))) (u := (.bool true)) rfl rfl rfl rfl rfl ?_
  rw [hgb, al_good hgb, as_eq hcg23 hce24]
  exact ⟨_, congrArg (fun z => Ending.returned (Value.tuple #[Value.bool z, Value.bool true])) (decP_iff (smP_form hcf25)), hX32⟩
 refine zE (zF ?_)
 refine qD rfl (zD (v := (.bool false)) rfl) ?_
 refine qD rfl (zD (v := (.bool false)) rfl) ?_
 refine qe (zB ?_)
 refine wp_ret ?_
 refine zW ?_
 refine c_ret2 (v := (.bool false)) (u := (.bool false)) rfl rfl rfl rfl rfl ?_
 have hgb : goodB fs = false := (good_eq fs).symm.trans h18
 rw [hgb, al_bad hgb]
 exact ⟨_, rfl, hX17⟩

end AS1
end Go.Proofs.YtpknebplcmgnkaaGreatDoor

namespace Go.Proofs
open Go.Shelf
def Tryz.lays189_ren : Go.Shelf.Ren := ⟨fun | 189 => 153 | 125 => 152 | 257 => 179 | 128 => 177 | 129 => 178 | 294 => 194 | 295 => 195 | 296 => 196 | 297 => 197 | 298 => 198 | 299 => 199 | 216 => 200 | 300 => 201 | 301 => 202 | 328 => 211 | 329 => 190 | 330 => 191 | 331 => 212 | 332 => 213 | 215 => 138 | 343 => 219 | n => n, fun | 28 => 67 | 3 => 3 | 46 => 152 | 0 => 0 | 51 => 169 | 53 => 171 | 4 => 4 | 183 => 163 | 182 => 162 | 131 => 64 | 5 => 5 | 9 => 9 | 218 => 179 | 222 => 183 | 228 => 196 | 229 => 197 | n => n, fun | n => n⟩
theorem Tryz.lays189 : Go.Proofs.Lays.n189 Tryz.prog Tryz.lays189_ren := {
 mixed := by kernel_rfl
 f125 := Tryz.func152.trans (congrArg some (by kernel_rfl))
 f128 := Tryz.func177.trans (congrArg some (by kernel_rfl))
 f129 := Tryz.func178.trans (congrArg some (by kernel_rfl))
 f189 := Tryz.func153.trans (congrArg some (by kernel_rfl))
 f215 := Tryz.func138.trans (congrArg some (by kernel_rfl))
 f216 := Tryz.func200.trans (congrArg some (by kernel_rfl))
 f257 := Tryz.func179.trans (congrArg some (by kernel_rfl))
 f294 := Tryz.func194.trans (congrArg some (by kernel_rfl))
 f295 := Tryz.func195.trans (congrArg some (by kernel_rfl))
 f296 := Tryz.func196.trans (congrArg some (by kernel_rfl))
 f297 := Tryz.func197.trans (congrArg some (by kernel_rfl))
 f298 := Tryz.func198.trans (congrArg some (by kernel_rfl))
 f299 := Tryz.func199.trans (congrArg some (by kernel_rfl))
 f300 := Tryz.func201.trans (congrArg some (by kernel_rfl))
 f301 := Tryz.func202.trans (congrArg some (by kernel_rfl))
 f328 := Tryz.func211.trans (congrArg some (by kernel_rfl))
 f329 := Tryz.func190.trans (congrArg some (by kernel_rfl))
 f330 := Tryz.func191.trans (congrArg some (by kernel_rfl))
 f331 := Tryz.func212.trans (congrArg some (by kernel_rfl))
 f332 := Tryz.func213.trans (congrArg some (by kernel_rfl))
 f343 := Tryz.func219.trans (congrArg some (by kernel_rfl))
 t0 := Tryz.underlying0
 a0 := Tryz.isAgg0
 z0 := Tryz.sizeOf0
 v0 := Tryz.zeroValue0
 t3 := Tryz.underlying3
 a3 := Tryz.isAgg3
 z3 := Tryz.sizeOf3
 v3 := Tryz.zeroValue3
 t4 := Tryz.underlying4
 a4 := Tryz.isAgg4
 z4 := Tryz.sizeOf4
 v4 := Tryz.zeroValue4
 t5 := Tryz.underlying5
 a5 := Tryz.isAgg5
 z5 := Tryz.sizeOf5
 v5 := Tryz.zeroValue5
 t9 := Tryz.underlying9
 a9 := Tryz.isAgg9
 z9 := Tryz.sizeOf9
 v9 := Tryz.zeroValue9
 t28 := Tryz.underlying67
 a28 := Tryz.isAgg67
 z28 := Tryz.sizeOf67
 v28 := Tryz.zeroValue67
 t46 := Tryz.underlying152
 a46 := Tryz.isAgg152
 z46 := Tryz.sizeOf152
 v46 := Tryz.zeroValue152
 t51 := Tryz.underlying169
 a51 := Tryz.isAgg169
 z51 := Tryz.sizeOf169
 v51 := Tryz.zeroValue169
 t53 := Tryz.underlying171
 a53 := Tryz.isAgg171
 z53 := Tryz.sizeOf171
 v53 := Tryz.zeroValue171
 t131 := Tryz.underlying64
 a131 := Tryz.isAgg64
 z131 := Tryz.sizeOf64
 v131 := Tryz.zeroValue64
 t182 := Tryz.underlying162
 a182 := Tryz.isAgg162
 z182 := Tryz.sizeOf162
 v182 := Tryz.zeroValue162
 t183 := Tryz.underlying163
 a183 := Tryz.isAgg163
 z183 := Tryz.sizeOf163
 v183 := Tryz.zeroValue163
 t218 := Tryz.underlying179
 a218 := Tryz.isAgg179
 z218 := Tryz.sizeOf179
 v218 := Tryz.zeroValue179
 t222 := Tryz.underlying183
 a222 := Tryz.isAgg183
 z222 := Tryz.sizeOf183
 v222 := Tryz.zeroValue183
 t228 := Tryz.underlying196
 a228 := Tryz.isAgg196
 z228 := Tryz.sizeOf196
 v228 := Tryz.zeroValue196
 t229 := Tryz.underlying197
 a229 := Tryz.isAgg197
 z229 := Tryz.sizeOf197
 v229 := Tryz.zeroValue197 }
open Go.Sort Go.RowKit in
theorem Tryz.slices_Sort_int (blk off cap : Nat) (zs : List Int) (w : World) (hH : Holds (Value.int .i64) w blk off zs.toArray) (hblk : blk < w.heap.size) (hsz : zs.length < 4611686018427387904) :
  Calls Tryz.prog 153 #[.slice (some ⟨blk, off, none⟩) zs.length cap] w fun e w' =>
   e = .returned (.tuple #[]) ∧ ∃ n os, w' = grow (putRow (Value.int .i64) (Sort.ahead w n) blk off (zs.mergeSort fun x y => decide (x ≤ y)).toArray) os := Any.slices_Sort_int Tryz.lays189 blk off cap zs w hH hblk hsz
def Tryz.laysNm220_ren : Go.Shelf.Ren := ⟨fun | 20 => 156 | n => n, fun | 22 => 67 | 3 => 3 | 4 => 4 | 0 => 0 | n => n, fun | n => n⟩
theorem Tryz.laysNm220 : Go.Proofs.Lays2.n20 Tryz.prog Tryz.laysNm220_ren := {
 mixed := by kernel_rfl
 f20 := Tryz.func156.trans (congrArg some (by kernel_rfl))
 t0 := Tryz.underlying0
 a0 := Tryz.isAgg0
 z0 := Tryz.sizeOf0
 v0 := Tryz.zeroValue0
 t3 := Tryz.underlying3
 a3 := Tryz.isAgg3
 z3 := Tryz.sizeOf3
 v3 := Tryz.zeroValue3
 t4 := Tryz.underlying4
 a4 := Tryz.isAgg4
 z4 := Tryz.sizeOf4
 v4 := Tryz.zeroValue4
 t22 := Tryz.underlying67
 a22 := Tryz.isAgg67
 z22 := Tryz.sizeOf67
 v22 := Tryz.zeroValue67
 i3 := by kernel_rfl }
open Go.RowKit Go.Lib Go.Sort in
theorem Tryz.slices_Compact_int (blk off cap : Nat) (zs : List Int) (w : World) (hH : Holds (Value.int .i64) w blk off zs.toArray) (hsz : zs.length ≤ 9223372036854775807) (hcap : zs.length ≤ cap) :
  Calls Tryz.prog 156 #[.slice (some ⟨blk, off, none⟩) zs.length cap] w fun e w' => e = .returned (.slice (some ⟨blk, off, none⟩) (Lib.compact zs).length cap) ∧ ∃ q, w' = putRow (Value.int .i64) (Sort.ahead w q) blk off (Lib.compact zs ++ List.replicate (zs.length - (Lib.compact zs).length) 0).toArray := Any.slices_Compact_int Tryz.laysNm220 blk off cap zs w hH hsz hcap
open Go.RowKit Go.Lib Go.Sort in
theorem Tryz.slices_Compact_int_empty (a : Option Addr) (cap : Nat) (w : World) :
  Calls Tryz.prog 156 #[.slice a 0 cap] w fun e w' => e = .returned (.slice a 0 cap) ∧ w' = w := Any.slices_Compact_int_empty Tryz.laysNm220 a cap w
open Go.RowKit Go.Sort in
theorem Tryz.slices_Sort_int_none (p : Option Addr) (cap : Nat) (w : World) :
  Calls Tryz.prog 153 #[.slice p 0 cap] w fun e w' => e = .returned (.tuple #[]) ∧ w' = w := Any.slices_Sort_int_none Tryz.lays189 p cap w
end Go.Proofs

set_option maxRecDepth 20000
set_option maxHeartbeats 2000000
namespace Go.Proofs.YtpknebplcmgnkaaGreatDoor
namespace K1
open Go.RowKit Go.GL Go.Proofs







theorem isPow_spec {w : World} {G : Pin} (hP : Pins G w) :
  Calls Tryz.prog 217 [(.int .i64 36)].toArray w fun e w' => e = .returned (.bool false) ∧ w' = w := by
 refine yD (n := 8) Tryz.func217 Tryz.ntmps217 rfl rfl ?_
 have hX0 : Ext noS G w G w := Ext.refl hP
 refine zE (zF ?_)
 refine qD rfl (zD (v := (.bool false)) rfl) ?_
 refine qe (zB (zE (zF ?_)))
 refine qD rfl (zA (v := (.int .i64 36)) rfl) ?_
 refine qD rfl (zA (v := (.int .i64 36)) rfl) ?_
 refine qD rfl (qP rfl rfl (by omega)) ?_
 refine qD rfl (r_and rfl rfl) ?_
 refine qD rfl (r_eql rfl rfl) ?_
 refine qD rfl (zD (v := (.bool (decide ((andW .i64 36 (36 - 1) : Int) = 0)))) rfl) ?_
 refine qe (zB ?_)
 refine wp_ret ?_
 refine zW ?_
 refine zS (v := (.bool (decide ((andW .i64 36 (36 - 1) : Int) = 0)))) rfl rfl rfl ?_
 exact ⟨congrArg (fun z => Ending.returned (Value.bool z)) not_pow36, rfl⟩

theorem formatBits_spec {w : World} {G : Pin} {v : Value} {xs : List UInt8} {i : Int} (hP : Pins G w) (hv : Own eByte 5 G w 0 v xs) (hxl : xs.length ≤ 1099511627776) (hi : 0 ≤ i ∧ i ≤ 9223372036854775807) :
  Calls Tryz.prog 209 [v, (.int .u64 i), (.int .i64 36), (.bool false), (.bool true)].toArray w fun e w' => ∃ (u : Value) (G' : Pin), e = .returned (.tuple #[u, .string (⟨#[]⟩ : ByteArray)]) ∧ Own eByte 5 G' w' 0 u (xs ++ dig36 i.toNat) ∧ Lo w (inO v.ownBlock) u.ownBlock ∧ Ext (inO v.ownBlock) G w G' w' := by
 refine yD (n := 102) Tryz.func209 Tryz.ntmps209 rfl rfl ?_
 have hX0 : Ext (inO v.ownBlock) G w G w := Ext.refl hP
 have hlov : Lo w (inO v.ownBlock) v.ownBlock := xP
 refine zE (zF ?_)
 refine qD rfl (zD (v := (.slice none 0 0)) rfl) ?_
 refine qD rfl (zD (v := (.string (⟨#[]⟩ : ByteArray))) rfl) ?_
 refine qe (zB (zE (zE (zF ?_))))
 refine qD rfl (zA (v := (.int .i64 36)) rfl) ?_
 refine qD rfl (yN rfl rfl) ?_
 refine qD rfl (zA (v := (.bool false)) rfl) ?_
 refine qdg rfl rfl rfl rfl rfl rfl (zA (v := (.int .i64 36)) rfl) ?_
 refine qdg rfl rfl rfl rfl rfl rfl (r_eql rfl rfl) ?_
 refine qD rfl (yV (v := (.bool false)) rfl rfl) ?_
 refine qD rfl (zA (v := (.bool false)) rfl) ?_
 refine qdg rfl rfl rfl rfl rfl rfl (zA (v := (.int .i64 36)) rfl) ?_
 refine qdg rfl rfl rfl rfl rfl rfl (r_gtr rfl rfl) ?_
 refine qD rfl (yV (v := (.bool false)) rfl rfl) ?_
 refine qe (zB ?_)
 refine qE rfl rfl ?_
 refine wp_skip ?_
 refine zB (zE (zF ?_))
 refine qI rfl (xM (arrV (List.replicate 65 0)) zr204 rfl hX0.pins (fun b1 w2 hk3 hb4 hp5 hl6 => ?_))
 have hX7 := hX0.step hp5 hl6
 have ho8 := hv.below hl6
 have ha9 : Apart (some b1) v.ownBlock := zK (congrArg some hk3) hv.lt
 have hlo10 : w.heap.size ≤ b1 := by have := hX0.size; omega
 refine qe (zB (zE (zF ?_)))
 refine qD rfl (zD (v := (.int .i64 65)) rfl) ?_
 refine qe (zB (zE (zE (zF ?_))))
 refine qD rfl (zA (v := (.bool false)) rfl) ?_
 refine qe (zB ?_)
 refine qE rfl rfl ?_
 refine wp_skip ?_
 refine zB (zE (zE (zF ?_)))
 refine qD rfl (zA (v := (.int .i64 36)) rfl) ?_
 refine qI rfl (zP (vs := [(.int .i64 36)]) Tryz.func217 nm217 rfl rfl rfl ?_)
 refine Calls.mono (isPow_spec hX7.pins ) ?_
 rintro _ _ ⟨rfl, rfl⟩
 refine ⟨_, rfl, ?_⟩
 refine qe (zB ?_)
 refine qE rfl rfl ?_
 refine zE (zF ?_)
 refine qD rfl (zA (v := (.int .i64 36)) rfl) ?_
 refine qD rfl (r_conv (j := 36) Tryz.underlying3 Tryz.underlying171 rfl (wrapU (by omega))) ?_
 refine qD rfl (zD (v := (.int .u64 36)) rfl) ?_
 refine qe (zB (zE ?_))
 refine zZ ?_
 refine yM (fun (k : Nat) (en : Nat → Value) (W : World) => ∃ (env1 : Nat → Value) (uz : Int) (iz : Int) (L : List UInt8), en = (upd (upd (upd (upd (upd (upd (upd (upd (upd env1 0 v) 1 (.int .u64 uz)) 3 (.bool false)) 4 (.bool true)) 10 (.slice none 0 0)) 11 (.string (⟨#[]⟩ : ByteArray))) 12 (.pointer (some ⟨b1, 0, none⟩))) 13 (.int .i64 iz)) 17 (.int .u64 36)) ∧ k = uz.toNat ∧ Ext (inO v.ownBlock) G w G W ∧ (L.length = 65) ∧ (0 ≤ uz ∧ uz ≤ 9223372036854775807) ∧ (iz ≤ 65) ∧ (dig36 i.toNat = dig36 uz.toNat ++ L.drop iz.toNat) ∧ (Own eByte 5 G W 0 v (xs)) ∧ (Bx G W b1 (arrV (L)))) _ ⟨_, i, 65, List.replicate 65 0, (zC (x := 17) (zC (x := 13) (zC (x := 12) (zC (x := 11) (zC (x := 10) (zC (x := 4) (zC (x := 3) (zC (x := 1) (zN (x := 0) rfl) rfl) rfl) rfl) rfl) rfl) rfl) rfl) rfl), rfl, hX7, List.length_replicate, hi, (Int.le_refl _), (by simp), ho8, hb4⟩ ?_
 rintro k11 _ w12 ⟨env1, uz, iz, L, rfl, hk13, hX14, hL, hu, hiz, hd, hw15, hw16⟩
 have hpl := dig_place hd hL (by omega)
 refine zE (zE (zF ?_))
 refine qD rfl (zA (v := (.int .u64 uz)) rfl) ?_
 refine qD rfl (zA (v := (.int .u64 36)) rfl) ?_
 refine qD rfl (r_geq rfl rfl) ?_
 refine qe (zB ?_)
 refine yE (p := (36 : Int) ≤ uz) rfl rfl (fun h17 => ?_) (fun h17 => ?_)
 ·skip
  refine wp_skip ?_
  refine zB ?_
  refine zZ ?_
  refine zE (zF ?_)
  refine qD rfl (zA (v := (.int .i64 iz)) rfl) ?_
  refine qD rfl (qP rfl rfl (by omega)) ?_
  refine qD rfl (zD (v := (.int .i64 (iz - 1))) rfl) ?_
  refine qe (zB (zE (zF ?_)))
  refine qD rfl (zA (v := (.int .u64 uz)) rfl) ?_
  refine qD rfl (zA (v := (.int .u64 36)) rfl) ?_
  refine qD rfl (r_quoX rfl rfl (by omega) (by omega) (by omega)) ?_
  refine qD rfl (zD (v := (.int .u64 (uz / 36))) rfl) ?_
  refine qe (zB (zE (zF ?_)))
  refine qD rfl (zA (v := (.int .i64 (iz - 1))) rfl) ?_
  refine qD rfl (zA (v := (.int .u64 uz)) rfl) ?_
  refine qD rfl (zA (v := (.int .u64 (uz / 36))) rfl) ?_
  refine qD rfl (zA (v := (.int .u64 36)) rfl) ?_
  refine qD rfl (r_mulX rfl rfl (by omega)) ?_
  refine qD rfl (r_subX rfl rfl (by omega)) ?_
  refine qD rfl (r_digit Tryz.underlying9 rfl rfl (by omega)) ?_
  refine qD rfl (r_idxb (k := (iz - 1).toNat) Tryz.underlying204 sz5 rfl rfl (by omega) (by omega) (by omega)) ?_
  refine q0 rfl rfl rfl (o_stpk (k := (iz - 1).toNat) (x0 := digC (uz - ((uz / 36) * 36)).toNat) sz5 rfl rfl (by first | omega | (simp only [List.length_set]; omega)) hX14.pins hw16 (fun w18 hb19 hp20 hg21 hz22 => ?_))
  have hX23 := hX14.write hp20 hg21 ((xJ hlo10))
  have ho24 := hw15.keptA hg21 ha9.symm
  refine qe (zB (zF ?_))
  refine qD rfl (zA (v := (.int .u64 (uz / 36))) rfl) ?_
  refine qD rfl (zD (v := (.int .u64 (uz / 36))) rfl) ?_
  refine qe ?_
  refine yA ?_
  refine zY ?_
  refine ⟨_, ?_, _, rfl, _, uz / 36, iz - 1, L.set (iz - 1).toNat (digC (uz - ((uz / 36) * 36)).toNat), (zC (x := 17) (zC (x := 13) (zC (x := 12) (zC (x := 11) (zC (x := 10) (zC (x := 4) (zC (x := 3) (zC (x := 1) (zN (x := 0) rfl) rfl) rfl) rfl) rfl) rfl) rfl) rfl) rfl), rfl, hX23, (by rw [List.length_set]; exact hL), (by omega), (by omega), (dig_step hd hL (by omega) (by omega)), ho24, hb19⟩
  omega
 refine wp_exit ?_
 refine zX ?_
 refine yL ?_
 refine yF ?_
 refine zB (zE (zF ?_))
 refine qD rfl (zA (v := (.int .i64 iz)) rfl) ?_
 refine qD rfl (qP rfl rfl (by omega)) ?_
 refine qD rfl (zD (v := (.int .i64 (iz - 1))) rfl) ?_
 refine qe (zB (zF ?_))
 refine qD rfl (zA (v := (.int .i64 (iz - 1))) rfl) ?_
 refine qD rfl (zA (v := (.int .u64 uz)) rfl) ?_
 refine qD rfl (r_digit Tryz.underlying9 rfl rfl (by omega)) ?_
 refine qD rfl (r_idxb (k := (iz - 1).toNat) Tryz.underlying204 sz5 rfl rfl (by omega) (by omega) (by omega)) ?_
 refine q0 rfl rfl rfl (o_stpk (k := (iz - 1).toNat) (x0 := digC (uz).toNat) sz5 rfl rfl (by first | omega | (simp only [List.length_set]; omega)) hX14.pins hw16 (fun w25 hb26 hp27 hg28 hz29 => ?_))
 have hX30 := hX14.write hp27 hg28 ((xJ hlo10))
 have ho31 := hw15.keptA hg28 ha9.symm
 refine qe (zB (zE (zE (zF ?_))))
 refine qD rfl (zA (v := (.bool false)) rfl) ?_
 refine qe (zB ?_)
 refine qE rfl rfl ?_
 refine wp_skip ?_
 refine zB (zE (zE (zF ?_)))
 refine qD rfl (zA (v := (.bool true)) rfl) ?_
 refine qe (zB ?_)
 refine c_ifT rfl rfl ?_
 refine zE (zF ?_)
 refine qD rfl (zA (v := v) rfl) ?_
 refine qD rfl (zA (v := (.int .i64 (iz - 1))) rfl) ?_
 obtain ⟨G32, hle33, hX34, hbp35, hf36⟩ := hb26.shut hX30 hlo10
 have ho37 := ho31.moreA hle33 hf36 ha9.symm
 obtain ⟨u38, hr39, hl40⟩ := name_arr (z := iz - 1) (n := 65) hbp35 (by rw [List.length_set]; exact hL) (by omega) (by decide)
 refine qD rfl (hl40 Tryz.underlying204 sz5 rfl rfl) ?_
 refine qI rfl (yB (E := eByte) (v := v) (u := u38) 1 Tryz.underlying136 ap5 (by decide) rfl rfl hX34.pins ho37 ((hr39.mono (Pin.le_refl _)).src hX34.pins (by decide)) (by first | omega | (rw [List.nil_append]; omega) | (rw [List.length_nil]; omega) | (rw [List.length_append]; omega) | (simp; done) | (simp; omega) | (simp only [List.length_append, List.length_cons, List.length_nil]; omega)) (by first | omega | (rw [List.nil_append]; omega) | (rw [List.length_nil]; omega) | (rw [List.length_append]; omega) | (simp; done) | (simp; omega) | (simp only [List.length_append, List.length_cons, List.length_nil]; omega)) (Nat.zero_le _) (fun u41 w42 ho43 hp44 hg45 hw46 => ?_))
 have hX47 := hX34.write hp44 hg45 (hlov)
 have hlo48 : Lo w (inO v.ownBlock) u41.ownBlock := lo_app hlov hw46 hX34.size
 have hm49 : (xs ++ ((L.set (iz - 1).toNat (digC (uz).toNat)).drop (iz - 1).toNat)).length = xs.length + ((L.set (iz - 1).toNat (digC (uz).toNat)).drop (iz - 1).toNat).length := List.length_append
 refine qD rfl (zD (v := u41) rfl) ?_
 refine qe (zB ?_)
 refine wp_ret ?_
 refine zW ?_
 refine c_ret2 (v := u41) (u := (.string (⟨#[]⟩ : ByteArray))) rfl rfl rfl rfl rfl ?_
 have hown := ho43
 rw [dig_last hd hL (by omega) (by omega)] at hown
 exact ⟨_, _, rfl, hown, hlo48, hX47⟩

theorem appendUint_spec {w : World} {G : Pin} {v : Value} {xs : List UInt8} {i : Int} (hP : Pins G w) (hv : Own eByte 5 G w 0 v xs) (hxl : xs.length ≤ 1099511627776) (hi : 0 ≤ i ∧ i ≤ 9223372036854775807) :
  Calls Tryz.prog 188 [v, (.int .u64 i), (.int .i64 36)].toArray w fun e w' => ∃ (u : Value) (G' : Pin), e = .returned u ∧ Own eByte 5 G' w' 0 u (xs ++ dig36 i.toNat) ∧ Lo w (inO v.ownBlock) u.ownBlock ∧ Ext (inO v.ownBlock) G w G' w' := by
 refine yD (n := 36) Tryz.func188 Tryz.ntmps188 rfl rfl ?_
 have hX0 : Ext (inO v.ownBlock) G w G w := Ext.refl hP
 have hlov : Lo w (inO v.ownBlock) v.ownBlock := xP
 refine zE (zF ?_)
 refine qD rfl (zD (v := (.slice none 0 0)) rfl) ?_
 refine qe (zB (zE (zE (zF ?_))))
 refine qD rfl (zA (v := (.int .i64 36)) rfl) ?_
 refine qD rfl (r_eql rfl rfl) ?_
 refine qe (zB ?_)
 refine qE rfl rfl ?_
 refine wp_skip ?_
 refine zB (zE (zF ?_))
 refine qD rfl (zA (v := v) rfl) ?_
 refine qD rfl (zA (v := (.int .u64 i)) rfl) ?_
 refine qD rfl (zA (v := (.int .i64 36)) rfl) ?_
 refine qI rfl (zP (vs := [v, (.int .u64 i), (.int .i64 36), (.bool false), (.bool true)]) Tryz.func209 nm209 rfl rfl rfl ?_)
 refine Calls.mono (formatBits_spec (i := i) hX0.pins hv (by omega) (by omega)) ?_
 rintro _ w3 ⟨u1, G2, rfl, ho4, hlo5, hx6⟩
 refine ⟨_, rfl, ?_⟩
 have hX7 := hX0.trans hx6 (fun i hi => hlov i hi)
 have hlo8 := lo_turn hlo5 hlov hX0.size
 have hm9 : (xs ++ dig36 (i).toNat).length = xs.length + (dig36 (i).toNat).length := List.length_append
 refine qD rfl (zA (v := (.tuple #[u1, (.string (⟨#[]⟩ : ByteArray))])) rfl) ?_
 refine qD rfl (qA (v := u1) rfl rfl) ?_
 refine qD rfl (qA (v := (.string (⟨#[]⟩ : ByteArray))) rfl rfl) ?_
 refine qD rfl (zD (v := u1) rfl) ?_
 refine qe (zB (zE (zF ?_)))
 refine qD rfl (zA (v := u1) rfl) ?_
 refine qD rfl (zD (v := u1) rfl) ?_
 refine qe (zB ?_)
 refine wp_ret ?_
 refine zW ?_
 refine zS (v := u1) rfl rfl rfl ?_
 exact ⟨_, _, rfl, ho4, hlo8, hX7⟩

theorem iAppendInt_spec {w : World} {G : Pin} {v : Value} {xs : List UInt8} {i : Int} (hP : Pins G w) (hv : Own eByte 5 G w 0 v xs) (hxl : xs.length ≤ 1099511627776) (hi : 0 ≤ i ∧ i ≤ 9223372036854775807) :
  Calls Tryz.prog 157 [v, (.int .i64 i), (.int .i64 36)].toArray w fun e w' => ∃ (u : Value) (G' : Pin), e = .returned u ∧ Own eByte 5 G' w' 0 u (xs ++ dig36 i.toNat) ∧ Lo w (inO v.ownBlock) u.ownBlock ∧ Ext (inO v.ownBlock) G w G' w' := by
 refine yD (n := 21) Tryz.func157 Tryz.ntmps157 rfl rfl ?_
 have hX0 : Ext (inO v.ownBlock) G w G w := Ext.refl hP
 have hlov : Lo w (inO v.ownBlock) v.ownBlock := xP
 refine zE (zF ?_)
 refine qD rfl (zD (v := (.slice none 0 0)) rfl) ?_
 refine qe (zB (zE (zF ?_)))
 refine qD rfl (zA (v := (.int .i64 i)) rfl) ?_
 refine qD rfl (r_conv (j := i) Tryz.underlying2 Tryz.underlying171 rfl (wrapU (by omega))) ?_
 refine qD rfl (zD (v := (.int .u64 i)) rfl) ?_
 refine qe (zB (zE (zE (zF ?_))))
 refine qD rfl (zA (v := (.int .i64 i)) rfl) ?_
 refine qD rfl (yN rfl rfl) ?_
 refine qe (zB ?_)
 refine yE (p := (i : Int) < 0) rfl rfl (fun h1 => ?_) (fun h1 => ?_)
 ·skip
  exfalso; omega
 refine wp_skip ?_
 refine zB (zE (zF ?_))
 refine qD rfl (zA (v := v) rfl) ?_
 refine qD rfl (zA (v := (.int .u64 i)) rfl) ?_
 refine qD rfl (zA (v := (.int .i64 36)) rfl) ?_
 refine qI rfl (zP (vs := [v, (.int .u64 i), (.int .i64 36)]) Tryz.func188 nm188 rfl rfl rfl ?_)
 refine Calls.mono (appendUint_spec (i := i) hX0.pins hv (by omega) (by omega)) ?_
 rintro _ w4 ⟨u2, G3, rfl, ho5, hlo6, hx7⟩
 refine ⟨_, rfl, ?_⟩
 have hX8 := hX0.trans hx7 (fun i hi => hlov i hi)
 have hlo9 := lo_turn hlo6 hlov hX0.size
 have hm10 : (xs ++ dig36 (i).toNat).length = xs.length + (dig36 (i).toNat).length := List.length_append
 refine qD rfl (zD (v := u2) rfl) ?_
 refine qe (zB ?_)
 refine wp_ret ?_
 refine zW ?_
 refine zS (v := u2) rfl rfl rfl ?_
 exact ⟨_, _, rfl, ho5, hlo9, hX8⟩

theorem appendInt_spec {w : World} {G : Pin} {v : Value} {xs : List UInt8} {i : Int} (hP : Pins G w) (hv : Own eByte 5 G w 0 v xs) (hxl : xs.length ≤ 1099511627776) (hi : 0 ≤ i ∧ i ≤ 9223372036854775807) :
  Calls Tryz.prog 130 [v, (.int .i64 i), (.int .i64 36)].toArray w fun e w' => ∃ (u : Value) (G' : Pin), e = .returned u ∧ Own eByte 5 G' w' 0 u (xs ++ dig36 i.toNat) ∧ Lo w (inO v.ownBlock) u.ownBlock ∧ Ext (inO v.ownBlock) G w G' w' := by
 refine yD (n := 11) Tryz.func130 Tryz.ntmps130 rfl rfl ?_
 have hX0 : Ext (inO v.ownBlock) G w G w := Ext.refl hP
 have hlov : Lo w (inO v.ownBlock) v.ownBlock := xP
 refine zE (zF ?_)
 refine qD rfl (zD (v := (.slice none 0 0)) rfl) ?_
 refine qe (zB (zE (zF ?_)))
 refine qD rfl (zA (v := v) rfl) ?_
 refine qD rfl (zA (v := (.int .i64 i)) rfl) ?_
 refine qD rfl (zA (v := (.int .i64 36)) rfl) ?_
 refine qI rfl (zP (vs := [v, (.int .i64 i), (.int .i64 36)]) Tryz.func157 nm157 rfl rfl rfl ?_)
 refine Calls.mono (iAppendInt_spec (i := i) hX0.pins hv (by omega) (by omega)) ?_
 rintro _ w3 ⟨u1, G2, rfl, ho4, hlo5, hx6⟩
 refine ⟨_, rfl, ?_⟩
 have hX7 := hX0.trans hx6 (fun i hi => hlov i hi)
 have hlo8 := lo_turn hlo5 hlov hX0.size
 have hm9 : (xs ++ dig36 (i).toNat).length = xs.length + (dig36 (i).toNat).length := List.length_append
 refine qD rfl (zD (v := u1) rfl) ?_
 refine qe (zB ?_)
 refine wp_ret ?_
 refine zW ?_
 refine zS (v := u1) rfl rfl rfl ?_
 exact ⟨_, _, rfl, ho4, hlo8, hX7⟩

end K1
end Go.Proofs.YtpknebplcmgnkaaGreatDoor

set_option maxRecDepth 20000
set_option maxHeartbeats 2000000
namespace Go.Proofs.YtpknebplcmgnkaaGreatDoor
namespace PO1
open Go.RowKit Go.GL Go.Proofs
open Go.Proofs.YtpknebplcmgnkaaGreatDoor.B1
open Go.Proofs.YtpknebplcmgnkaaGreatDoor.K1







theorem mk5 : (Tryz.prog.info? 5).map (fun i => (i.size, i.bytes, i.zero)) = some (1, 1, some (.int .u8 0)) := by kernel_rfl















theorem clone_spec {w : World} {G : Pin} {v : Value} {xs : List Int} (hP : Pins G w) (hv : RSl eInt G v xs) (hs : xs.length ≤ 1048576) :
  Calls Tryz.prog 155 [v].toArray w fun e w' => ∃ (u : Value) (G' : Pin), e = .returned u ∧ Own eInt 3 G' w' w.heap.size u xs ∧ Ext noS G w G' w' := by
 refine yD (n := 8) Tryz.func155 Tryz.ntmps155 rfl rfl ?_
 have hX0 : Ext noS G w G w := Ext.refl hP
 refine zE (zF ?_)
 refine qD rfl (zD (v := (.slice none 0 0)) rfl) ?_
 refine qe (zB (zE (zE (zF ?_))))
 refine qD rfl (zA (v := v) rfl) ?_
 refine qD rfl (r_eqlNil Tryz.underlying67 hv rfl rfl) ?_
 refine qe (zB ?_)
 refine c_if rfl rfl (fun h1 => ?_) (fun h1 => ?_)
 ·skip
  refine zE (zF ?_)
  refine qD rfl (zD (v := (.slice none 0 0)) rfl) ?_
  refine qe (zB ?_)
  refine wp_ret ?_
  refine zW ?_
  refine zS (v := (.slice none 0 0)) rfl rfl rfl ?_
  have hx0 := nil_of hv h1
  subst hx0
  exact ⟨_, _, rfl, Own.nil _ _ _ _ _, hX0⟩
 refine wp_skip ?_
 refine zB (zE (zF ?_))
 refine qI rfl (yZ (E := eInt) (e := 3) Tryz.underlying67 sz3 hX0.pins (fun u2 w3 ho4 hp5 hl6 hk7 => ?_))
 have hX8 := hX0.step hp5 hl6
 have ho9 : Own eInt 3 G w3 w.heap.size u2 ([]) := ho4.weaken hX0.size
 refine qD rfl (zA (v := v) rfl) ?_
 refine qI rfl (yB (E := eInt) (v := u2) (u := v) 8 Tryz.underlying67 ap3 (by decide) rfl rfl hX8.pins ho9 ((hv.mono (Pin.le_refl _)).src hX8.pins (by decide)) (by first | omega | (rw [List.nil_append]; omega) | (rw [List.length_nil]; omega) | (rw [List.length_append]; omega) | (simp; done) | (simp; omega) | (simp only [List.length_append, List.length_cons, List.length_nil]; omega)) (by first | omega | (rw [List.nil_append]; omega) | (rw [List.length_nil]; omega) | (rw [List.length_append]; omega) | (simp; done) | (simp; omega) | (simp only [List.length_append, List.length_cons, List.length_nil]; omega)) (hX8.size) (fun u10 w11 ho12 hp13 hg14 hw15 => ?_))
 have hX16 := hX8.write hp13 hg14 ((yI ho9))
 have hm17 : (([]) ++ xs).length = ([]).length + xs.length := List.length_append
 refine qD rfl (zD (v := u10) rfl) ?_
 refine qe (zB ?_)
 refine wp_ret ?_
 refine zW ?_
 refine zS (v := u10) rfl rfl rfl ?_
 exact ⟨_, _, rfl, ho12, hX16⟩

theorem sortI_spec {w : World} {G : Pin} {e base : Nat} {v : Value} {xs : List Int} (hP : Pins G w) (hv : Own eInt e G w base v xs) (hl : xs.length ≤ 1073741824) :
  Calls Tryz.prog 153 [v].toArray w fun en w' => ∃ G', en = .returned (.tuple #[]) ∧ Own eInt e G' w' base v (sortM xs) ∧ Ext (inO v.ownBlock) G w G' w' := by
 rcases own_cases hv with ⟨rfl, rfl⟩ | ⟨g, cap, rfl⟩
 ·refine (Tryz.slices_Sort_int_none none 0 w).mono ?_
  rintro en w' ⟨rfl, rfl⟩
  exact ⟨G, rfl, by simpa [sortM] using hv, Ext.refl hP⟩
 ·obtain ⟨_, h1, h2, h3⟩ := own_holds hv
  refine (Tryz.slices_Sort_int g 0 cap xs w h3 h1 (by omega)).mono ?_
  rintro en w' ⟨rfl, m, os, hw⟩
  obtain ⟨a, b, c⟩ := own_put (ys := sortM xs) hv hP hw (sortM_length xs) (List.take_length ..)
  rw [sortM_length] at a
  exact ⟨G, rfl, a, Ext.one b c⟩
theorem compactI_spec {w : World} {G : Pin} {e base : Nat} {v : Value} {xs : List Int} (hP : Pins G w) (hv : Own eInt e G w base v xs) (hl : xs.length ≤ 1073741824) :
  Calls Tryz.prog 156 [v].toArray w fun en w' => ∃ (u : Value) (G' : Pin), en = .returned u ∧ Own eInt e G' w' base u (Go.Lib.compact xs) ∧ Lo w (inO v.ownBlock) u.ownBlock ∧ Ext (inO v.ownBlock) G w G' w' := by
 rcases own_cases hv with ⟨rfl, rfl⟩ | ⟨g, cap, rfl⟩
 ·refine (Tryz.slices_Compact_int_empty none 0 w).mono ?_
  rintro en w' ⟨rfl, rfl⟩
  exact ⟨_, G, rfl, hv, xP, Ext.refl hP⟩
 ·obtain ⟨_, h1, h2, h3⟩ := own_holds hv
  refine (Tryz.slices_Compact_int g 0 cap xs w h3 (by omega) h2).mono ?_
  rintro en w' ⟨rfl, m, hw⟩
  have hcl := compact_len xs
  obtain ⟨a, b, c⟩ := own_put (os := #[]) (ys := Go.Lib.compact xs) hv hP (hw.trans (Go.Sort.grow_empty _).symm) (by simp; omega) (List.take_left ..)
  exact ⟨_, G, rfl, a, xP, Ext.one b c⟩

theorem distinct_spec {w : World} {G : Pin} {v : Value} {xs : List Int} (hP : Pins G w) (hv : RSl eInt G v xs) (hs : xs.length ≤ 1048576) :
  Calls Tryz.prog 129 [v].toArray w fun e w' => ∃ (u : Value) (G' : Pin), e = .returned u ∧ Own eInt 3 G' w' w.heap.size u (sortL xs) ∧ Ext noS G w G' w' := by
 refine yD (n := 10) Tryz.func129 Tryz.ntmps129 rfl rfl ?_
 have hX0 : Ext noS G w G w := Ext.refl hP
 refine zE (zF ?_)
 refine qD rfl (zD (v := (.slice none 0 0)) rfl) ?_
 refine qe (zB (zE (zF ?_)))
 refine qD rfl (zA (v := v) rfl) ?_
 refine qI rfl (zP (vs := [v]) Tryz.func155 nm155 rfl rfl rfl ?_)
 refine Calls.mono (clone_spec hX0.pins hv (by omega)) ?_
 rintro _ w3 ⟨u1, G2, rfl, ho4, hx5⟩
 refine ⟨_, rfl, ?_⟩
 have hX6 := hX0.tr hx5
 have ho7 : Own eInt 3 G2 w3 w.heap.size u1 xs := ho4.weaken hX0.size
 refine qD rfl (zD (v := u1) rfl) ?_
 refine qe (zB (zE (zF ?_)))
 refine qD rfl (zA (v := u1) rfl) ?_
 refine qI rfl (zP (vs := [u1]) Tryz.func153 nm153 rfl rfl rfl ?_)
 refine Calls.mono (sortI_spec hX6.pins ho7 (by omega)) ?_
 rintro _ w9 ⟨G8, rfl, ho10, hx11⟩
 refine ⟨_, rfl, ?_⟩
 have hX12 := hX6.trans hx11 (fun i hi => (yI ho7) i hi)
 have hm13 := sortM_length xs
 refine qe (zB (zE (zF ?_)))
 refine qD rfl (zA (v := u1) rfl) ?_
 refine qI rfl (zP (vs := [u1]) Tryz.func156 nm156 rfl rfl rfl ?_)
 refine Calls.mono (compactI_spec hX12.pins (ho10.weaken (Nat.zero_le _)) (by omega)) ?_
 rintro _ w16 ⟨u14, G15, rfl, ho17, hlo18, hx19⟩
 refine ⟨_, rfl, ?_⟩
 have hX20 := hX12.trans hx19 (fun i hi => (yI ho10) i hi)
 have ho21 := ho17.up (lo := w.heap.size) (fun k hk => (hlo18 k hk).elim (fun h => Nat.le_trans hX12.size h) (fun h => (ho10.lt k h).1))
 refine qD rfl (zD (v := u14) rfl) ?_
 refine qe (zB ?_)
 refine wp_ret ?_
 refine zW ?_
 refine zS (v := u14) rfl rfl rfl ?_
 exact ⟨_, _, rfl, (by rw [← distinct_eq]; simpa using ho21), hX20⟩

theorem node_spec {w : World} {G : Pin} {p : Nat} {L R B : Value} {mm : PM} {q : PSt} (hP : Pins G w) (hpk : Pk 67 3 G w p L R B mm q) (hok : PoolOk q) {x y : Value} {xs ys : List Int} (hx : RSl eInt G x xs) (hy : RSl eInt G y ys) (hlim : q.ns.length + 1 ≤ 1048576) (hls : xs.length ≤ 1048576 ∧ ys.length ≤ 1048576) (hk1 : ∀ i, i < xs.length → 0 ≤ xs.getD i 0 ∧ xs.getD i 0 < q.ns.length) (hk2 : ∀ i, i < ys.length → 0 ≤ ys.getD i 0 ∧ ys.getD i 0 < q.ns.length) :
  Calls Tryz.prog 87 [(.pointer (some ⟨p, 0, none⟩)), x, y].toArray w fun e w' => ∃ (z : Int) (L' R' B' : Value) (q' : PSt) (G' : Pin), e = .returned (.int .i64 z) ∧ Pk 67 3 G' w' p L' R' B' mm q' ∧ PoolOk q' ∧ PX q q' ∧ PLo w p L R B mm L' R' B' ∧ Ext (inP p L R B mm) G w G' w' ∧ PlaceOk q' z ∧ pd q' z = mkG (xs.map (pd q)) (ys.map (pd q)) ∧ q'.ns.length ≤ q.ns.length + 1 ∧ (q'.cm = q.cm ∧ (q'.ns.length = q.ns.length ∨ z = q.ns.length)) := by
 refine yD (n := 130) Tryz.func87 Tryz.ntmps87 rfl rfl ?_
 have hX0 : Ext (inP p L R B mm) G w G w := Ext.refl hP
 have hpin : PIn w (inP p L R B mm) p L R B mm := PIn.self
 have hml1 : (q.ns.map Nd.l).length = q.ns.length ∧ (q.ns.map Nd.r).length = q.ns.length := ⟨List.length_map .., List.length_map ..⟩
 have hml2 : q.bs.length = q.ns.length ∧ q.ns.length ≤ 1048576 := ⟨hok.ar.ok.len, hok.ar.ok.lim⟩
 obtain ⟨xs2, hxs2⟩ : ∃ l, l = sortL xs := ⟨_, rfl⟩
 obtain ⟨ys2, hys2⟩ : ∃ l, l = sortL ys := ⟨_, rfl⟩
 have hb1 := sort_bounds hk1
 have hb2 := sort_bounds hk2
 rw [← hxs2] at hb1
 rw [← hys2] at hb2
 have hsl1 : xs2.length ≤ 1048576 := by rw [hxs2]; exact Nat.le_trans qZ hls.1
 have hsl2 : ys2.length ≤ 1048576 := by rw [hys2]; exact Nat.le_trans qZ hls.2
 refine zE (zF ?_)
 refine qD rfl (zD (v := (.int .i64 0)) rfl) ?_
 refine qe (zB (zE (zF ?_)))
 refine qD rfl (zA (v := x) rfl) ?_
 refine qI rfl (zP (vs := [x]) Tryz.func129 nm129 rfl rfl rfl ?_)
 refine Calls.mono (distinct_spec hX0.pins hx (by omega)) ?_
 rintro _ w5 ⟨u3, G4, rfl, ho6, hx7⟩
 refine ⟨_, rfl, ?_⟩
 rw [← hxs2] at ho6
 have hX8 := hX0.tr hx7
 have hpk9 := hpk.ext hx7
 have hnp10 := hpk.new (x := u3.ownBlock) (fun k hk => (ho6.lt k hk).1)
 have ho11 : Own eInt 3 G4 w5 w.heap.size u3 xs2 := ho6.weaken hX0.size
 refine qD rfl (zA (v := y) rfl) ?_
 refine qI rfl (zP (vs := [y]) Tryz.func129 nm129 rfl rfl rfl ?_)
 refine Calls.mono (distinct_spec hX8.pins (hy.mono hx7.le) (by omega)) ?_
 rintro _ w14 ⟨u12, G13, rfl, ho15, hx16⟩
 refine ⟨_, rfl, ?_⟩
 rw [← hys2] at ho15
 have hX17 := hX8.tr hx16
 have ho18 := ho11.ext hx16
 have hpk19 := hpk9.ext hx16
 have ha20 : Apart u12.ownBlock u3.ownBlock := zU ho15.lt ho11.lt
 have hnp21 := hpk9.new (x := u12.ownBlock) (fun k hk => (ho15.lt k hk).1)
 have ho22 : Own eInt 3 G13 w14 w.heap.size u12 ys2 := ho15.weaken hX8.size
 refine qD rfl (zD (v := u3) rfl) ?_
 refine qD rfl (zD (v := u12) rfl) ?_
 refine qe (zB (zE (zF ?_)))
 refine qD rfl (zA (v := u3) rfl) ?_
 refine qD rfl (zL Tryz.underlying67 (v := u3) rfl ho18.read) ?_
 refine qD rfl (zA (v := u12) rfl) ?_
 refine qD rfl (zL Tryz.underlying67 (v := u12) rfl ho22.read) ?_
 refine qD rfl (yJ rfl rfl (by omega)) ?_
 refine qD rfl (r_mul rfl rfl (by omega)) ?_
 refine qD rfl (yJ rfl rfl (by omega)) ?_
 refine qI rfl (o_make0 (E := eByte) Tryz.underlying136 mk5 rfl rfl hX17.pins (by omega) (by omega) (by omega) (fun u23 w24 ho25 hp26 hl27 hk28 => ?_))
 have hX29 := hX17.step hp26 hl27
 have ho30 := ho18.below hl27
 have ho31 := ho22.below hl27
 have hpk32 := hpk19.below hl27 hp26
 have ha33 : Apart u23.ownBlock u3.ownBlock := zK hk28 ho18.lt
 have ha37 : Apart u23.ownBlock u12.ownBlock := zK hk28 ho22.lt
 have ha39 := hpk19.new (x := u23.ownBlock) (fun k hk => by rw [hk28] at hk; cases hk; exact Nat.le_refl _)
 have ho40 : Own eByte 5 G13 w24 w.heap.size u23 ([]) := ho25.weaken hX17.size
 refine qD rfl (zD (v := u23) rfl) ?_
 refine qe (zB (zE (zF ?_)))
 refine qD rfl (zD (v := (.int .i64 0)) rfl) ?_
 refine qe (zB (zE (zE (zF ?_))))
 refine qD rfl (zA (v := u3) rfl) ?_
 refine qD rfl (zL Tryz.underlying67 (v := u3) rfl ho30.read) ?_
 refine qD rfl (zA (v := (.int .i64 0)) rfl) ?_
 refine qe (zB ?_)
 refine zZ ?_
 refine yM (fun (k : Nat) (en : Nat → Value) (W : World) => ∃ (env1 : Nat → Value) (i : Nat) (kva : Value) (kxa : List UInt8) (bn : Int) (GLa : Pin), en = (upd (upd (upd (upd (upd (upd (upd (upd (upd env1 0 (.pointer (some ⟨p, 0, none⟩))) 1 u3) 2 u12) 6 (.int .i64 0)) 7 kva) 8 (.int .i64 bn)) 28 u3) 29 (.int .i64 (xs2.length : Int))) 30 (.int .i64 (i : Int))) ∧ k = xs2.length - i ∧ Ext (inP p L R B mm) G w GLa W ∧ Pin.le G13 GLa ∧ (i ≤ xs2.length) ∧ (kxa = keyL (xs2.take i)) ∧ (bn = bornOf q.bs (xs2.take i) 0) ∧ (0 ≤ bn ∧ bn ≤ q.ns.length) ∧ (Own eByte 5 GLa W w.heap.size kva (kxa)) ∧ (Own eInt 3 GLa W w.heap.size u3 (xs2)) ∧ (Own eInt 3 GLa W w.heap.size u12 (ys2)) ∧ (Apart kva.ownBlock u3.ownBlock) ∧ (Apart kva.ownBlock u12.ownBlock) ∧ (Pk 67 3 GLa W p L R B mm q) ∧ (NP p L R B mm kva.ownBlock)) _ ⟨_, 0, u23, [], 0, G13, (zC (x := 30) (zC (x := 29) (zC (x := 28) (zC (x := 8) (zC (x := 7) (zC (x := 6) (zC (x := 2) (zC (x := 1) (zN (x := 0) rfl) rfl) rfl) rfl) rfl) rfl) rfl) rfl) rfl), rfl, hX29, Pin.le_refl _, Nat.zero_le _, (by simp [keyL]), rfl, (by omega), ho40, ho30, ho31, ha33, ha37, hpk32, ha39⟩ ?_
 rintro k45 _ w46 ⟨env1, i, kva, kxa, bn, GLa, rfl, hk47, hX48, hlek45, hji, hka, hbbn, hlbn, hw49, hw50, hw51, ha52, ha53, hpk54, hnp55⟩
 have hkla : kxa.length ≤ 117440640 := by
  have := key_bound (j := i) hb1 hok.ar.ok.lim
  rw [hka]; omega
 refine zE (zF ?_)
 refine qD rfl (yN rfl rfl) ?_
 refine qe (zB (zE ?_))
 refine yE (p := ((i : Int) : Int) < (xs2.length : Int)) rfl rfl (fun h56 => ?_) (fun h56 => ?_)
 ·skip
  have hki := hb1 i (by omega)
  have hbk := hok.ar.ok.born (xs2.getD i 0).toNat (by omega)
  have hd13 := dig13 (n := (xs2.getD i 0).toNat) (by omega)
  refine wp_skip ?_
  refine zB (zE ?_)
  refine zZ ?_
  refine zE (zF ?_)
  refine qD rfl (zJ Tryz.underlying67 sz3 (v := u3) rfl rfl hw50.read (by omega) (by omega)) ?_
  refine qD rfl (zI (r := xs2.getD i 0) rfl ag3 (z := (i : Int)) rfl hw50.read (Gadd.pins hX48.pins u3) (by omega) (by omega)) ?_
  refine qD rfl (zD (v := (.int .i64 (xs2.getD i 0))) rfl) ?_
  refine qe (zB (zE (zF ?_)))
  refine qD rfl (zA (v := kva) rfl) ?_
  refine qD rfl (zA (v := (.int .i64 (xs2.getD i 0))) rfl) ?_
  refine qI rfl (zP (vs := [kva, (.int .i64 (xs2.getD i 0)), (.int .i64 36)]) Tryz.func130 nm130 rfl rfl rfl ?_)
  refine Calls.mono (appendInt_spec (i := xs2.getD i 0) hX48.pins (hw49.weaken (Nat.zero_le _)) (by omega) (by omega)) ?_
  rintro _ w59 ⟨u57, G58, rfl, ho60, hlo61, hx62⟩
  refine ⟨_, rfl, ?_⟩
  have hnp63 := np_turn hnp55 hpk54 hlo61
  have hX64 := hX48.trans hx62 (fun i hi => (yI hw49) i hi)
  have ho65 := hw50.extS hx62 (notO ha52.symm)
  have ho66 := hw51.extS hx62 (notO ha53.symm)
  have hpk67 := hpk54.extS hx62 (fun k hk hx => hnp55 k hx hk)
  have ha68 : Apart u3.ownBlock u57.ownBlock := ap_turn hlo61 ha52.symm (qS hw50)
  have ha69 : Apart u12.ownBlock u57.ownBlock := ap_turn hlo61 ha53.symm (qS hw51)
  have ho70 := ho60.up (lo := w.heap.size) (fun k hk => (hlo61 k hk).elim (fun h => Nat.le_trans hX48.size h) (fun h => (hw49.lt k h).1))
  have hm71 : (kxa ++ dig36 (xs2.getD i 0).toNat).length = kxa.length + (dig36 (xs2.getD i 0).toNat).length := List.length_append
  refine qI rfl (yQ (E := eByte) (e := 5) [(.int .u8 44)] [44] Tryz.underlying136 sz5 zr5 (by exact xO (by rfl)) (xG (by rfl)) rfl rfl rfl rfl (by decide) hX64.pins (fun u72 w73 ho74 hp75 hl76 hk77 => ?_))
  have hX78 := hX64.step hp75 hl76
  have ho79 := ho65.below hl76
  have ho80 := ho66.below hl76
  have ho81 := ho70.below hl76
  have hpk82 := hpk67.below hl76 hp75
  have ho91 : Own eByte 5 G58 w73 w.heap.size u72 ([44]) := ho74.weaken hX64.size
  refine qI rfl (yB (E := eByte) (v := u57) (u := u72) 1 Tryz.underlying136 ap5 (by decide) rfl rfl hX78.pins ho81 ho91.src (by first | omega | (rw [List.nil_append]; omega) | (rw [List.length_nil]; omega) | (rw [List.length_append]; omega) | (simp; done) | (simp; omega) | (simp only [List.length_append, List.length_cons, List.length_nil]; omega)) (by first | omega | (rw [List.nil_append]; omega) | (rw [List.length_nil]; omega) | (rw [List.length_append]; omega) | (simp; done) | (simp; omega) | (simp only [List.length_append, List.length_cons, List.length_nil]; omega)) (hX78.size) (fun u92 w93 ho94 hp95 hg96 hw97 => ?_))
  have hX98 := hX78.write hp95 hg96 ((yI ho81))
  have ho99 := ho79.keptA hg96 ha68
  have ho100 := ho80.keptA hg96 ha69
  have hpk102 := hpk82.kept hg96 hp95 hnp63
  have ha103 : Apart u3.ownBlock u92.ownBlock := zH ha68 hw97 ho79.lt
  have ha104 : Apart u12.ownBlock u92.ownBlock := zH ha69 hw97 ho80.lt
  have hnp106 := qT hnp63 hpk82 hw97
  have hm107 : ((kxa ++ dig36 (xs2.getD i 0).toNat) ++ ([44])).length = (kxa ++ dig36 (xs2.getD i 0).toNat).length + 1 := List.length_append
  refine qD rfl (zD (v := u92) rfl) ?_
  refine qe (zB (zF ?_))
  refine qD rfl (zA (v := (.int .i64 bn)) rfl) ?_
  refine qD rfl (zA (v := (.pointer (some ⟨p, 0, none⟩))) rfl) ?_
  refine qD rfl (yP rfl) ?_
  refine qD rfl (zM (k := 2) rfl Tryz.underlying74 rfl nz67 rfl) ?_
  refine qD rfl (zO (u := B) ag67 rfl (hpk102.bx.cell (o := 2) rfl)) ?_
  refine qD rfl (zA (v := (.int .i64 (xs2.getD i 0))) rfl) ?_
  refine qD rfl (zJ Tryz.underlying67 sz3 (v := B) rfl rfl hpk102.ob.read (by omega) (by omega)) ?_
  refine qD rfl (zI (r := q.bs.getD (xs2.getD i 0).toNat 0) rfl ag3 (z := (xs2.getD i 0)) rfl hpk102.ob.read (Gadd.pins hX98.pins B) (by omega) (by omega)) ?_
  refine qD rfl (yJ rfl rfl (by omega)) ?_
  refine qD rfl (r_max rfl rfl) ?_
  refine qD rfl (zD (v := (.int .i64 (max bn ((q.bs.getD (xs2.getD i 0).toNat 0) + 1)))) rfl) ?_
  refine qe ?_
  refine yA ?_
  refine zB (zF ?_)
  refine qD rfl (yJ rfl rfl (by omega)) ?_
  refine qD rfl (zA (v := (.int .i64 ((i : Int) + 1))) rfl) ?_
  refine qe ?_
  refine zY ?_
  refine ⟨_, ?_, _, rfl, _, i + 1, u92, (kxa ++ dig36 (xs2.getD i 0).toNat) ++ ([44]), max bn ((q.bs.getD (xs2.getD i 0).toNat 0) + 1), G58, (zC (x := 30) (zC (x := 29) (zC (x := 28) (zC (x := 8) (zC (x := 7) (zC (x := 6) (zC (x := 2) (zC (x := 1) (zN (x := 0) rfl) rfl) rfl) rfl) rfl) rfl) rfl) rfl) rfl), rfl, hX98, (Pin.le_trans hlek45 hx62.le), (by omega), (by rw [key_next (by omega), hka]), (by rw [hbbn, born_next (by omega)]), (by omega), ho94, ho99, ho100, ha103.symm, ha104.symm, hpk102, hnp106⟩
  omega
 refine wp_exit ?_
 refine zX ?_
 refine yL ?_
 refine yF ?_
 refine zB (zE (zF ?_))
 refine qD rfl (zA (v := kva) rfl) ?_
 refine qI rfl (yQ (E := eByte) (e := 5) [(.int .u8 124)] [124] Tryz.underlying136 sz5 zr5 (by exact xO (by rfl)) (xG (by rfl)) rfl rfl rfl rfl (by decide) hX48.pins (fun u108 w109 ho110 hp111 hl112 hk113 => ?_))
 have hX114 := hX48.step hp111 hl112
 have ho115 := hw49.below hl112
 have ho116 := hw50.below hl112
 have ho117 := hw51.below hl112
 have hpk118 := hpk54.below hl112 hp111
 have ho127 : Own eByte 5 GLa w109 w.heap.size u108 ([124]) := ho110.weaken hX48.size
 refine qI rfl (yB (E := eByte) (v := kva) (u := u108) 1 Tryz.underlying136 ap5 (by decide) rfl rfl hX114.pins ho115 ho127.src (by first | omega | (rw [List.nil_append]; omega) | (rw [List.length_nil]; omega) | (rw [List.length_append]; omega) | (simp; done) | (simp; omega) | (simp only [List.length_append, List.length_cons, List.length_nil]; omega)) (by first | omega | (rw [List.nil_append]; omega) | (rw [List.length_nil]; omega) | (rw [List.length_append]; omega) | (simp; done) | (simp; omega) | (simp only [List.length_append, List.length_cons, List.length_nil]; omega)) (hX114.size) (fun u128 w129 ho130 hp131 hg132 hw133 => ?_))
 have hX134 := hX114.write hp131 hg132 ((yI ho115))
 have ho135 := ho116.keptA hg132 ha52.symm
 have ho136 := ho117.keptA hg132 ha53.symm
 have hpk138 := hpk118.kept hg132 hp131 hnp55
 have ha139 : Apart u3.ownBlock u128.ownBlock := zH ha52.symm hw133 ho116.lt
 have ha140 : Apart u12.ownBlock u128.ownBlock := zH ha53.symm hw133 ho117.lt
 have hnp142 := qT hnp55 hpk118 hw133
 have hm143 : (kxa ++ ([124])).length = kxa.length + 1 := List.length_append
 refine qD rfl (zD (v := u128) rfl) ?_
 refine qe (zB (zE (zE (zF ?_))))
 rw [take_all (by omega)] at hka hbbn
 have hkk : keyL xs2 ++ [124] = kxa ++ [124] := by rw [hka]
 refine qD rfl (zA (v := u12) rfl) ?_
 refine qD rfl (zL Tryz.underlying67 (v := u12) rfl ho136.read) ?_
 refine qD rfl (zA (v := (.int .i64 0)) rfl) ?_
 refine qe (zB ?_)
 refine zZ ?_
 refine yM (fun (k : Nat) (en : Nat → Value) (W : World) => ∃ (env1 : Nat → Value) (i2 : Nat) (kvb : Value) (kxb : List UInt8) (bm : Int) (GLb : Pin), en = (upd (upd (upd (upd (upd (upd (upd (upd (upd env1 0 (.pointer (some ⟨p, 0, none⟩))) 1 u3) 2 u12) 6 (.int .i64 0)) 7 kvb) 8 (.int .i64 bm)) 53 u12) 54 (.int .i64 (ys2.length : Int))) 55 (.int .i64 (i2 : Int))) ∧ k = ys2.length - i2 ∧ Ext (inP p L R B mm) G w GLb W ∧ Pin.le GLa GLb ∧ (i2 ≤ ys2.length) ∧ (kxb = keyL xs2 ++ [124] ++ keyL (ys2.take i2)) ∧ (bm = bornOf q.bs (ys2.take i2) bn) ∧ (0 ≤ bm ∧ bm ≤ q.ns.length) ∧ (Own eByte 5 GLb W w.heap.size kvb (kxb)) ∧ (Own eInt 3 GLb W w.heap.size u3 (xs2)) ∧ (Own eInt 3 GLb W w.heap.size u12 (ys2)) ∧ (Apart kvb.ownBlock u3.ownBlock) ∧ (Apart kvb.ownBlock u12.ownBlock) ∧ (Pk 67 3 GLb W p L R B mm q) ∧ (NP p L R B mm kvb.ownBlock)) _ ⟨_, 0, u128, kxa ++ ([124]), bn, GLa, (zC (x := 55) (zC (x := 54) (zC (x := 53) (zC (x := 8) (zC (x := 7) (zC (x := 6) (zC (x := 2) (zC (x := 1) (zN (x := 0) rfl) rfl) rfl) rfl) rfl) rfl) rfl) rfl) rfl), rfl, hX134, Pin.le_refl _, Nat.zero_le _, (by rw [← hkk]; simp [keyL]), rfl, (by omega), ho130, ho135, ho136, ha139.symm, ha140.symm, hpk138, hnp142⟩ ?_
 rintro k148 _ w149 ⟨env1, i2, kvb, kxb, bm, GLb, rfl, hk150, hX151, hlek148, hji2, hkb, hbbm, hlbm, hw152, hw153, hw154, ha155, ha156, hpk157, hnp158⟩
 have hklb : kxb.length ≤ 117440640 := by
  have := key_bound (j := i2) hb2 hok.ar.ok.lim
  have h2 := key_bound (j := xs2.length) hb1 hok.ar.ok.lim; rw [hkb, List.length_append, List.length_append]; simp only [List.length_cons, List.length_nil]; rw [take_all (Nat.le_refl _)] at h2; omega
 refine zE (zF ?_)
 refine qD rfl (yN rfl rfl) ?_
 refine qe (zB (zE ?_))
 refine yE (p := ((i2 : Int) : Int) < (ys2.length : Int)) rfl rfl (fun h159 => ?_) (fun h159 => ?_)
 ·skip
  have hki := hb2 i2 (by omega)
  have hbk := hok.ar.ok.born (ys2.getD i2 0).toNat (by omega)
  have hd13 := dig13 (n := (ys2.getD i2 0).toNat) (by omega)
  refine wp_skip ?_
  refine zB (zE ?_)
  refine zZ ?_
  refine zE (zF ?_)
  refine qD rfl (zJ Tryz.underlying67 sz3 (v := u12) rfl rfl hw154.read (by omega) (by omega)) ?_
  refine qD rfl (zI (r := ys2.getD i2 0) rfl ag3 (z := (i2 : Int)) rfl hw154.read (Gadd.pins hX151.pins u12) (by omega) (by omega)) ?_
  refine qD rfl (zD (v := (.int .i64 (ys2.getD i2 0))) rfl) ?_
  refine qe (zB (zE (zF ?_)))
  refine qD rfl (zA (v := kvb) rfl) ?_
  refine qD rfl (zA (v := (.int .i64 (ys2.getD i2 0))) rfl) ?_
  refine qI rfl (zP (vs := [kvb, (.int .i64 (ys2.getD i2 0)), (.int .i64 36)]) Tryz.func130 nm130 rfl rfl rfl ?_)
  refine Calls.mono (appendInt_spec (i := ys2.getD i2 0) hX151.pins (hw152.weaken (Nat.zero_le _)) (by omega) (by omega)) ?_
  rintro _ w162 ⟨u160, G161, rfl, ho163, hlo164, hx165⟩
  refine ⟨_, rfl, ?_⟩
  have hnp166 := np_turn hnp158 hpk157 hlo164
  have hX167 := hX151.trans hx165 (fun i hi => (yI hw152) i hi)
  have ho168 := hw153.extS hx165 (notO ha155.symm)
  have ho169 := hw154.extS hx165 (notO ha156.symm)
  have hpk170 := hpk157.extS hx165 (fun k hk hx => hnp158 k hx hk)
  have ha171 : Apart u3.ownBlock u160.ownBlock := ap_turn hlo164 ha155.symm (qS hw153)
  have ha172 : Apart u12.ownBlock u160.ownBlock := ap_turn hlo164 ha156.symm (qS hw154)
  have ho173 := ho163.up (lo := w.heap.size) (fun k hk => (hlo164 k hk).elim (fun h => Nat.le_trans hX151.size h) (fun h => (hw152.lt k h).1))
  have hm174 : (kxb ++ dig36 (ys2.getD i2 0).toNat).length = kxb.length + (dig36 (ys2.getD i2 0).toNat).length := List.length_append
  refine qI rfl (yQ (E := eByte) (e := 5) [(.int .u8 44)] [44] Tryz.underlying136 sz5 zr5 (by exact xO (by rfl)) (xG (by rfl)) rfl rfl rfl rfl (by decide) hX167.pins (fun u175 w176 ho177 hp178 hl179 hk180 => ?_))
  have hX181 := hX167.step hp178 hl179
  have ho182 := ho168.below hl179
  have ho183 := ho169.below hl179
  have ho184 := ho173.below hl179
  have hpk185 := hpk170.below hl179 hp178
  have ho194 : Own eByte 5 G161 w176 w.heap.size u175 ([44]) := ho177.weaken hX167.size
  refine qI rfl (yB (E := eByte) (v := u160) (u := u175) 1 Tryz.underlying136 ap5 (by decide) rfl rfl hX181.pins ho184 ho194.src (by first | omega | (rw [List.nil_append]; omega) | (rw [List.length_nil]; omega) | (rw [List.length_append]; omega) | (simp; done) | (simp; omega) | (simp only [List.length_append, List.length_cons, List.length_nil]; omega)) (by first | omega | (rw [List.nil_append]; omega) | (rw [List.length_nil]; omega) | (rw [List.length_append]; omega) | (simp; done) | (simp; omega) | (simp only [List.length_append, List.length_cons, List.length_nil]; omega)) (hX181.size) (fun u195 w196 ho197 hp198 hg199 hw200 => ?_))
  have hX201 := hX181.write hp198 hg199 ((yI ho184))
  have ho202 := ho182.keptA hg199 ha171
  have ho203 := ho183.keptA hg199 ha172
  have hpk205 := hpk185.kept hg199 hp198 hnp166
  have ha206 : Apart u3.ownBlock u195.ownBlock := zH ha171 hw200 ho182.lt
  have ha207 : Apart u12.ownBlock u195.ownBlock := zH ha172 hw200 ho183.lt
  have hnp209 := qT hnp166 hpk185 hw200
  have hm210 : ((kxb ++ dig36 (ys2.getD i2 0).toNat) ++ ([44])).length = (kxb ++ dig36 (ys2.getD i2 0).toNat).length + 1 := List.length_append
  refine qD rfl (zD (v := u195) rfl) ?_
  refine qe (zB (zF ?_))
  refine qD rfl (zA (v := (.int .i64 bm)) rfl) ?_
  refine qD rfl (zA (v := (.pointer (some ⟨p, 0, none⟩))) rfl) ?_
  refine qD rfl (yP rfl) ?_
  refine qD rfl (zM (k := 2) rfl Tryz.underlying74 rfl nz67 rfl) ?_
  refine qD rfl (zO (u := B) ag67 rfl (hpk205.bx.cell (o := 2) rfl)) ?_
  refine qD rfl (zA (v := (.int .i64 (ys2.getD i2 0))) rfl) ?_
  refine qD rfl (zJ Tryz.underlying67 sz3 (v := B) rfl rfl hpk205.ob.read (by omega) (by omega)) ?_
  refine qD rfl (zI (r := q.bs.getD (ys2.getD i2 0).toNat 0) rfl ag3 (z := (ys2.getD i2 0)) rfl hpk205.ob.read (Gadd.pins hX201.pins B) (by omega) (by omega)) ?_
  refine qD rfl (yJ rfl rfl (by omega)) ?_
  refine qD rfl (r_max rfl rfl) ?_
  refine qD rfl (zD (v := (.int .i64 (max bm ((q.bs.getD (ys2.getD i2 0).toNat 0) + 1)))) rfl) ?_
  refine qe ?_
  refine yA ?_
  refine zB (zF ?_)
  refine qD rfl (yJ rfl rfl (by omega)) ?_
  refine qD rfl (zA (v := (.int .i64 ((i2 : Int) + 1))) rfl) ?_
  refine qe ?_
  refine zY ?_
  refine ⟨_, ?_, _, rfl, _, i2 + 1, u195, (kxb ++ dig36 (ys2.getD i2 0).toNat) ++ ([44]), max bm ((q.bs.getD (ys2.getD i2 0).toNat 0) + 1), G161, (zC (x := 55) (zC (x := 54) (zC (x := 53) (zC (x := 8) (zC (x := 7) (zC (x := 6) (zC (x := 2) (zC (x := 1) (zN (x := 0) rfl) rfl) rfl) rfl) rfl) rfl) rfl) rfl) rfl), rfl, hX201, (Pin.le_trans hlek148 hx165.le), (by omega), (by rw [key_next (by omega), hkb]; simp only [List.append_assoc]), (by rw [hbbm, born_next (by omega)]), (by omega), ho197, ho202, ho203, ha206.symm, ha207.symm, hpk205, hnp209⟩
  omega
 refine wp_exit ?_
 refine zX ?_
 refine yL ?_
 refine yF ?_
 refine zB (zE (zE ?_))
 rw [take_all (by omega)] at hkb hbbm
 have hkey : kxb = keyN xs2 ys2 := by rw [hkb]; rfl
 have hq211 := Gadd.pins hX151.pins kvb
 have hr212 := hw152.read
 refine xE (S := fun wz => BxR wz p [L, R, B, (.map (some mm.f)), (.map (some mm.o)), (.map (some mm.c)), (.map (some mm.s)), (.map (some mm.n))] ∧ Pins (Gadd GLb w149 kvb) wz) (last := 12) (by kernel_rfl) rfl ?_
 have hl213 : Below w149.heap.size w149 w149.drew := (Below.refl _ _).drew
 have hp214 := hX151.pins.below hl213
 have hX215 := hX151.step hp214 hl213
 have ho216 := hw152.below hl213
 have ho217 := hw153.below hl213
 have ho218 := hw154.below hl213
 have hpk219 := hpk157.below hl213 hp214
 have hq220 := hq211.below hl213
 refine dT (i := 0) rfl rfl (by kernel_rfl) (fun _ _ => zA (v := (.pointer (some ⟨p, 0, none⟩))) rfl) ⟨hpk219.bx.reads, hq220⟩ ?_
 refine dT (i := 1) rfl rfl (by kernel_rfl) (fun _ _ => yP rfl) ⟨hpk219.bx.reads, hq220⟩ ?_
 refine dT (i := 2) rfl rfl (by kernel_rfl) (fun _ _ => zM (k := 3) rfl Tryz.underlying74 rfl nz69 rfl) ⟨hpk219.bx.reads, hq220⟩ ?_
 refine dT (i := 3) rfl rfl (by kernel_rfl) (fun _ hS => zO (u := (.map (some mm.f))) ag69 rfl (hS.1 3 _ rfl)) ⟨hpk219.bx.reads, hq220⟩ ?_
 refine dT (i := 4) rfl rfl (by kernel_rfl) (fun _ _ => zA (v := kvb) rfl) ⟨hpk219.bx.reads, hq220⟩ ?_
 refine zV (i := 5) (by kernel_rfl) (yC (i := 5) rfl rfl rfl (zG rfl _) (EO.run (r_b2s Tryz.underlying136 Tryz.underlying5 Tryz.underlying9 rfl ho216.read (Gadd.pins hX215.pins kvb)) ?_))
 refine ⟨fun _ => ⟨hpk219.bx.reads, hq220⟩, ?_⟩
 refine zV (i := 6) (by kernel_rfl) (yC (i := 6) rfl rfl rfl (zG rfl _) (EO.run (run_lookv_int (k := (b2s kxb)) (key_str Tryz.underlying9) Tryz.underlying69 zr3 hpk219.ff rfl rfl) ?_))
 refine ⟨fun _ => ⟨hpk219.bx.reads, hq220⟩, ?_⟩
 refine dT (i := 7) rfl rfl (by kernel_rfl) (fun _ _ => zA (v := (.tuple #[(.int .i64 ((Go.GL.look q.fl (b2s kxb)).getD 0)), (.bool ((Go.GL.look q.fl (b2s kxb)).isSome))])) rfl) ⟨hpk219.bx.reads, hq220⟩ ?_
 refine dT (i := 8) rfl rfl (by kernel_rfl) (fun _ _ => qA (v := (.int .i64 ((Go.GL.look q.fl (b2s kxb)).getD 0))) rfl rfl) ⟨hpk219.bx.reads, hq220⟩ ?_
 refine dT (i := 9) rfl rfl (by kernel_rfl) (fun _ _ => qA (v := (.bool ((Go.GL.look q.fl (b2s kxb)).isSome))) rfl rfl) ⟨hpk219.bx.reads, hq220⟩ ?_
 refine dT (i := 10) rfl rfl (by kernel_rfl) (fun _ _ => zD (v := (.int .i64 ((Go.GL.look q.fl (b2s kxb)).getD 0))) rfl) ⟨hpk219.bx.reads, hq220⟩ ?_
 refine dT (i := 11) rfl rfl (by kernel_rfl) (fun _ _ => zD (v := (.bool ((Go.GL.look q.fl (b2s kxb)).isSome))) rfl) ⟨hpk219.bx.reads, hq220⟩ ?_
 refine yT (by kernel_rfl) ?_
 refine zB (zE (zF ?_))
 refine qD rfl (zA (v := (.bool ((Go.GL.look q.fl (b2s kxb)).isSome))) rfl) ?_
 refine qe (zB ?_)
 refine c_if rfl rfl (fun h221 => ?_) (fun h221 => ?_)
 ·skip
  refine zE (zF ?_)
  refine qD rfl (zA (v := (.int .i64 ((Go.GL.look q.fl (b2s kxb)).getD 0))) rfl) ?_
  refine qD rfl (zD (v := (.int .i64 ((Go.GL.look q.fl (b2s kxb)).getD 0))) rfl) ?_
  refine qe (zB ?_)
  refine wp_ret ?_
  refine zW ?_
  refine zS (v := (.int .i64 ((Go.GL.look q.fl (b2s kxb)).getD 0))) rfl rfl rfl ?_
  obtain ⟨z, hz⟩ := Option.isSome_iff_exists.1 h221
  have hlk := hz
  rw [hkey, hxs2, hys2] at hlk
  obtain ⟨f1, f2⟩ := lookF hok hk1 hk2 hlk
  rw [hz]
  exact ⟨z, L, R, B, q, GLb, rfl, hpk219, hok, (PX.refl _), PIn.lo hpin rfl, hX215, f1, f2, by omega, rfl, Or.inl rfl⟩
 refine wp_skip ?_
 refine zB (zE (zF ?_))
 refine qD rfl (zA (v := (.pointer (some ⟨p, 0, none⟩))) rfl) ?_
 refine qD rfl (yP rfl) ?_
 refine qD rfl (zM (k := 2) rfl Tryz.underlying74 rfl nz67 rfl) ?_
 refine qD rfl (zO (u := B) ag67 rfl (hpk219.bx.cell (o := 2) rfl)) ?_
 refine qD rfl (zL Tryz.underlying67 (v := B) rfl hpk219.ob.read) ?_
 refine qD rfl (zD (v := (.int .i64 (q.bs.length : Int))) rfl) ?_
 refine qe (zB (zE ?_))
 have hnone : Go.GL.look q.fl (b2s kxb) = none := by simpa using h221
 rw [hkey, hxs2, hys2] at hnone
 have hadd := hok.add (b := bm) hlim hls hk1 hk2 hnone (by rw [hbbm, hbbn, hxs2, hys2])
 have hq222 := Gadd.pins hX215.pins kvb
 have hr223 := ho216.read
 refine xE (S := fun wz => BxR wz p [L, R, B, (.map (some mm.f)), (.map (some mm.o)), (.map (some mm.c)), (.map (some mm.s)), (.map (some mm.n))] ∧ Pins (Gadd GLb w149.drew kvb) wz) (last := 7) (by kernel_rfl) rfl ?_
 have hl224 : Below w149.drew.heap.size w149.drew w149.drew.drew := (Below.refl _ _).drew
 have hp225 := hX215.pins.below hl224
 have hX226 := hX215.step hp225 hl224
 have ho227 := ho216.below hl224
 have ho228 := ho217.below hl224
 have ho229 := ho218.below hl224
 have ho230 := hpk219.ol.below hl224
 have ho231 := hpk219.rr.below hl224
 have ho232 := hpk219.ob.below hl224
 have hb233 := hpk219.bx.below hl224
 have hm234 := hpk219.ff.below hl224
 have hm235 := hpk219.fo.below hl224
 have hm236 := hpk219.fc.below hl224
 have hm237 := hpk219.fs.below hl224
 have hm238 := hpk219.fn.below hl224
 have hq239 := hq222.below hl224
 refine dT (i := 0) rfl rfl (by kernel_rfl) (fun _ _ => zA (v := (.pointer (some ⟨p, 0, none⟩))) rfl) ⟨hb233.reads, hq239⟩ ?_
 refine dT (i := 1) rfl rfl (by kernel_rfl) (fun _ _ => yP rfl) ⟨hb233.reads, hq239⟩ ?_
 refine dT (i := 2) rfl rfl (by kernel_rfl) (fun _ _ => zM (k := 3) rfl Tryz.underlying74 rfl nz69 rfl) ⟨hb233.reads, hq239⟩ ?_
 refine dT (i := 3) rfl rfl (by kernel_rfl) (fun _ hS => zO (u := (.map (some mm.f))) ag69 rfl (hS.1 3 _ rfl)) ⟨hb233.reads, hq239⟩ ?_
 refine dT (i := 4) rfl rfl (by kernel_rfl) (fun _ _ => zA (v := kvb) rfl) ⟨hb233.reads, hq239⟩ ?_
 refine dT (i := 6) rfl rfl (by kernel_rfl) (fun _ _ => zA (v := (.int .i64 (q.bs.length : Int))) rfl) ⟨hb233.reads, hq239⟩ ?_
 refine zV (i := 5) (by kernel_rfl) (yC (i := 5) rfl rfl rfl (zG rfl _) (EO.run (r_b2s Tryz.underlying136 Tryz.underlying5 Tryz.underlying9 rfl ho227.read (Gadd.pins hX226.pins kvb)) ?_))
 refine ⟨fun _ => ⟨hb233.reads, hq239⟩, ?_⟩
 refine zV (i := 7) (by kernel_rfl) (drOp0 (i := 7) rfl rfl rfl (zG rfl _) (xV (val := (fun v : Int => Value.int .i64 v)) (k := (b2s kxb)) (v := (q.bs.length : Int)) (key_str Tryz.underlying9) Tryz.underlying69 rfl rfl rfl hX226.pins hm234 (fun w240 hm241 hp242 hg243 hz244 => ?_)))
 have hX245 := hX226.write hp242 hg243 ((PIn.f hpin))
 have ho247 := ho228.keptA hg243 (yK hm234 ho228).symm
 have ho248 := ho229.keptA hg243 (yK hm234 ho229).symm
 have ho249 := ho230.keptA hg243 (yK hm234 ho230).symm
 have ho250 := ho231.keptA hg243 (yK hm234 ho231).symm
 have ho251 := ho232.keptA hg243 (yK hm234 ho232).symm
 have hb252 := hb233.keptA hg243 (xH hm234 hb233).symm
 have hm253 := hm235.kept hg243 (apart_maps hpk219.df.fo).symm
 have hm254 := hm236.kept hg243 (apart_maps hpk219.df.fc).symm
 have hm255 := hm237.kept hg243 (apart_maps hpk219.df.fs).symm
 have hm256 := hm238.kept hg243 (apart_maps hpk219.df.fn).symm
 refine ⟨fun h => absurd rfl h, ?_⟩
 refine yT (by kernel_rfl) ?_
 refine zB (zE (zF ?_))
 refine qD rfl (zA (v := (.pointer (some ⟨p, 0, none⟩))) rfl) ?_
 refine qD rfl (zA (v := (.pointer (some ⟨p, 0, none⟩))) rfl) ?_
 refine qD rfl (yP rfl) ?_
 refine qD rfl (zM (k := 0) rfl Tryz.underlying74 rfl nz68 rfl) ?_
 refine qD rfl (zO (u := L) ag68 rfl (hb252.cell (o := 0) rfl)) ?_
 refine qD rfl (zA (v := u3) rfl) ?_
 obtain ⟨G257, hle260, hX259, hr258, hf261⟩ := ho247.sealed hX245
 have ho263 := ho248.moreO hle260 hf261 ha20
 have ho264 := ho249.moreO hle260 hf261 (NP.hl hnp10).symm
 have ho265 := ho250.moreO hle260 hf261 (NP.hr hnp10).symm
 have ho266 := ho251.moreO hle260 hf261 (NP.hb hnp10).symm
 have hb267 := hb252.moreO hf261 (NP.hp hnp10).symm
 refine qI rfl (yQ (E := (eSl eInt)) (e := 67) [u3] [xs2] Tryz.underlying68 sz67 zr67 (by exact xO (⟨_, rfl, hr258⟩)) (xG hr258.one) rfl rfl rfl rfl (by decide) hX259.pins (fun u268 w269 ho270 hp271 hl272 hk273 => ?_))
 have hX274 := hX259.step hp271 hl272
 have ho276 := ho263.below hl272
 have ho277 := ho264.below hl272
 have ho278 := ho265.below hl272
 have ho279 := ho266.below hl272
 have hb280 := hb267.below hl272
 have hm281 := hm241.below hl272
 have hm282 := hm253.below hl272
 have hm283 := hm254.below hl272
 have hm284 := hm255.below hl272
 have hm285 := hm256.below hl272
 have ho292 : Own (eSl eInt) 67 G257 w269 w.heap.size u268 ([xs2]) := ho270.weaken hX259.size
 refine qI rfl (yB (E := (eSl eInt)) (v := L) (u := u268) 24 Tryz.underlying68 ap67 (by decide) rfl rfl hX274.pins ho277 ho292.src (by first | omega | (rw [List.nil_append]; omega) | (rw [List.length_nil]; omega) | (rw [List.length_append]; omega) | (simp; done) | (simp; omega) | (simp only [List.length_append, List.length_cons, List.length_nil]; omega)) (by first | omega | (rw [List.nil_append]; omega) | (rw [List.length_nil]; omega) | (rw [List.length_append]; omega) | (simp; done) | (simp; omega) | (simp only [List.length_append, List.length_cons, List.length_nil]; omega)) (Nat.zero_le _) (fun u293 w294 ho295 hp296 hg297 hw298 => ?_))
 have hX299 := hX274.write hp296 hg297 ((PIn.ll hpin))
 have ho301 := ho276.keptA hg297 (NP.hl hnp21)
 have ho302 := ho278.keptA hg297 hpk219.alr.symm
 have ho303 := ho279.keptA hg297 hpk219.alb.symm
 have hb305 := hb280.keptA hg297 hpk219.apl
 have hm306 := hm281.kept hg297 (yK hm281 ho277)
 have hm307 := hm282.kept hg297 (yK hm282 ho277)
 have hm308 := hm283.kept hg297 (yK hm283 ho277)
 have hm309 := hm284.kept hg297 (yK hm284 ho277)
 have hm310 := hm285.kept hg297 (yK hm285 ho277)
 have ha312 : Apart u12.ownBlock u293.ownBlock := zH (NP.hl hnp21) hw298 ho276.lt
 have ha313 : Apart R.ownBlock u293.ownBlock := zH hpk219.alr.symm hw298 ho278.lt
 have ha314 : Apart B.ownBlock u293.ownBlock := zH hpk219.alb.symm hw298 ho279.lt
 have ha316 : Apart (some p) u293.ownBlock := zQ hpk219.apl hw298 hb280.lt
 have hlo317 : Lo w (inP p L R B mm) u293.ownBlock := lo_app (PIn.ll hpin) hw298 hX274.size
 have hm318 : ((q.ns.map Nd.l) ++ ([xs2])).length = (q.ns.map Nd.l).length + 1 := List.length_append
 refine qD rfl (yP rfl) ?_
 refine qD rfl (zM (k := 0) rfl Tryz.underlying74 rfl nz68 rfl) ?_
 refine q0 rfl rfl rfl (xZ (cs' := [u293, R, B, (.map (some mm.f)), (.map (some mm.o)), (.map (some mm.c)), (.map (some mm.s)), (.map (some mm.n))]) (us := [u293]) (v := u293) sz68 rfl rfl (cells1 ho295.one) (xG ho295.one) hX299.pins hb305 (Nat.le_of_ble_eq_true rfl) rfl (fun w319 hb320 hp321 hg322 hz323 => ?_))
 have hX324 := hX299.write hp321 hg322 ((PIn.lp hpin))
 have ho326 := ho301.keptA hg322 (NP.hp hnp21)
 have ho327 := ho302.keptA hg322 hpk219.apr.symm
 have ho328 := ho303.keptA hg322 hpk219.apb.symm
 have ho329 := ho295.keptA hg322 ha316.symm
 have hm330 := hm306.kept hg322 (xH hm306 hb305)
 have hm331 := hm307.kept hg322 (xH hm307 hb305)
 have hm332 := hm308.kept hg322 (xH hm308 hb305)
 have hm333 := hm309.kept hg322 (xH hm309 hb305)
 have hm334 := hm310.kept hg322 (xH hm310 hb305)
 refine qe (zB (zE (zF ?_)))
 refine qD rfl (zA (v := (.pointer (some ⟨p, 0, none⟩))) rfl) ?_
 refine qD rfl (zA (v := (.pointer (some ⟨p, 0, none⟩))) rfl) ?_
 refine qD rfl (yP rfl) ?_
 refine qD rfl (zM (k := 1) rfl Tryz.underlying74 rfl nz68 rfl) ?_
 refine qD rfl (zO (u := R) ag68 rfl (hb320.cell (o := 1) rfl)) ?_
 refine qD rfl (zA (v := u12) rfl) ?_
 obtain ⟨G335, hle338, hX337, hr336, hf339⟩ := ho326.sealed hX324
 have ho341 := ho327.moreO hle338 hf339 (NP.hr hnp21).symm
 have ho342 := ho328.moreO hle338 hf339 (NP.hb hnp21).symm
 have ho343 := ho329.moreO hle338 hf339 ha312.symm
 have hb344 := hb320.moreO hf339 (NP.hp hnp21).symm
 refine qI rfl (yQ (E := (eSl eInt)) (e := 67) [u12] [ys2] Tryz.underlying68 sz67 zr67 (by exact xO (⟨_, rfl, hr336⟩)) (xG hr336.one) rfl rfl rfl rfl (by decide) hX337.pins (fun u345 w346 ho347 hp348 hl349 hk350 => ?_))
 have hX351 := hX337.step hp348 hl349
 have ho353 := ho341.below hl349
 have ho354 := ho342.below hl349
 have ho355 := ho343.below hl349
 have hb356 := hb344.below hl349
 have hm357 := hm330.below hl349
 have hm358 := hm331.below hl349
 have hm359 := hm332.below hl349
 have hm360 := hm333.below hl349
 have hm361 := hm334.below hl349
 have ho367 : Own (eSl eInt) 67 G335 w346 w.heap.size u345 ([ys2]) := ho347.weaken hX337.size
 refine qI rfl (yB (E := (eSl eInt)) (v := R) (u := u345) 24 Tryz.underlying68 ap67 (by decide) rfl rfl hX351.pins ho353 ho367.src (by first | omega | (rw [List.nil_append]; omega) | (rw [List.length_nil]; omega) | (rw [List.length_append]; omega) | (simp; done) | (simp; omega) | (simp only [List.length_append, List.length_cons, List.length_nil]; omega)) (by first | omega | (rw [List.nil_append]; omega) | (rw [List.length_nil]; omega) | (rw [List.length_append]; omega) | (simp; done) | (simp; omega) | (simp only [List.length_append, List.length_cons, List.length_nil]; omega)) (Nat.zero_le _) (fun u368 w369 ho370 hp371 hg372 hw373 => ?_))
 have hX374 := hX351.write hp371 hg372 ((PIn.lr hpin))
 have ho376 := ho354.keptA hg372 hpk219.arb.symm
 have ho377 := ho355.keptA hg372 ha313.symm
 have hb379 := hb356.keptA hg372 hpk219.apr
 have hm380 := hm357.kept hg372 (yK hm357 ho353)
 have hm381 := hm358.kept hg372 (yK hm358 ho353)
 have hm382 := hm359.kept hg372 (yK hm359 ho353)
 have hm383 := hm360.kept hg372 (yK hm360 ho353)
 have hm384 := hm361.kept hg372 (yK hm361 ho353)
 have ha386 : Apart B.ownBlock u368.ownBlock := zH hpk219.arb.symm hw373 ho354.lt
 have ha387 : Apart u293.ownBlock u368.ownBlock := zH ha313.symm hw373 ho355.lt
 have ha389 : Apart (some p) u368.ownBlock := zQ hpk219.apr hw373 hb356.lt
 have hlo390 : Lo w (inP p L R B mm) u368.ownBlock := lo_app (PIn.lr hpin) hw373 hX351.size
 have hm391 : ((q.ns.map Nd.r) ++ ([ys2])).length = (q.ns.map Nd.r).length + 1 := List.length_append
 refine qD rfl (yP rfl) ?_
 refine qD rfl (zM (k := 1) rfl Tryz.underlying74 rfl nz68 rfl) ?_
 refine q0 rfl rfl rfl (xZ (cs' := [u293, u368, B, (.map (some mm.f)), (.map (some mm.o)), (.map (some mm.c)), (.map (some mm.s)), (.map (some mm.n))]) (us := [u368]) (v := u368) sz68 rfl rfl (cells1 ho370.one) (xG ho370.one) hX374.pins hb379 (Nat.le_of_ble_eq_true rfl) rfl (fun w392 hb393 hp394 hg395 hz396 => ?_))
 have hX397 := hX374.write hp394 hg395 ((PIn.lp hpin))
 have ho399 := ho376.keptA hg395 hpk219.apb.symm
 have ho400 := ho377.keptA hg395 ha316.symm
 have ho401 := ho370.keptA hg395 ha389.symm
 have hm402 := hm380.kept hg395 (xH hm380 hb379)
 have hm403 := hm381.kept hg395 (xH hm381 hb379)
 have hm404 := hm382.kept hg395 (xH hm382 hb379)
 have hm405 := hm383.kept hg395 (xH hm383 hb379)
 have hm406 := hm384.kept hg395 (xH hm384 hb379)
 refine qe (zB (zE (zF ?_)))
 refine qD rfl (zA (v := (.pointer (some ⟨p, 0, none⟩))) rfl) ?_
 refine qD rfl (zA (v := (.pointer (some ⟨p, 0, none⟩))) rfl) ?_
 refine qD rfl (yP rfl) ?_
 refine qD rfl (zM (k := 2) rfl Tryz.underlying74 rfl nz67 rfl) ?_
 refine qD rfl (zO (u := B) ag67 rfl (hb393.cell (o := 2) rfl)) ?_
 refine qD rfl (zA (v := (.int .i64 bm)) rfl) ?_
 refine qI rfl (yQ (E := eInt) (e := 3) [(.int .i64 bm)] [bm] Tryz.underlying67 sz3 zr3 (by exact xO (by rfl)) (xG (by rfl)) rfl rfl rfl rfl (by decide) hX397.pins (fun u407 w408 ho409 hp410 hl411 hk412 => ?_))
 have hX413 := hX397.step hp410 hl411
 have ho415 := ho399.below hl411
 have ho416 := ho400.below hl411
 have ho417 := ho401.below hl411
 have hb418 := hb393.below hl411
 have hm419 := hm402.below hl411
 have hm420 := hm403.below hl411
 have hm421 := hm404.below hl411
 have hm422 := hm405.below hl411
 have hm423 := hm406.below hl411
 have ho429 : Own eInt 3 G335 w408 w.heap.size u407 ([bm]) := ho409.weaken hX397.size
 refine qI rfl (yB (E := eInt) (v := B) (u := u407) 8 Tryz.underlying67 ap3 (by decide) rfl rfl hX413.pins ho415 ho429.src (by first | omega | (rw [List.nil_append]; omega) | (rw [List.length_nil]; omega) | (rw [List.length_append]; omega) | (simp; done) | (simp; omega) | (simp only [List.length_append, List.length_cons, List.length_nil]; omega)) (by first | omega | (rw [List.nil_append]; omega) | (rw [List.length_nil]; omega) | (rw [List.length_append]; omega) | (simp; done) | (simp; omega) | (simp only [List.length_append, List.length_cons, List.length_nil]; omega)) (Nat.zero_le _) (fun u430 w431 ho432 hp433 hg434 hw435 => ?_))
 have hX436 := hX413.write hp433 hg434 ((PIn.lb hpin))
 have ho438 := ho416.keptA hg434 ha314.symm
 have ho439 := ho417.keptA hg434 ha386.symm
 have hb441 := hb418.keptA hg434 hpk219.apb
 have hm442 := hm419.kept hg434 (yK hm419 ho415)
 have hm443 := hm420.kept hg434 (yK hm420 ho415)
 have hm444 := hm421.kept hg434 (yK hm421 ho415)
 have hm445 := hm422.kept hg434 (yK hm422 ho415)
 have hm446 := hm423.kept hg434 (yK hm423 ho415)
 have ha448 : Apart u293.ownBlock u430.ownBlock := zH ha314.symm hw435 ho416.lt
 have ha449 : Apart u368.ownBlock u430.ownBlock := zH ha386.symm hw435 ho417.lt
 have ha451 : Apart (some p) u430.ownBlock := zQ hpk219.apb hw435 hb418.lt
 have hlo452 : Lo w (inP p L R B mm) u430.ownBlock := lo_app (PIn.lb hpin) hw435 hX413.size
 have hm453 : (q.bs ++ ([bm])).length = q.bs.length + 1 := List.length_append
 refine qD rfl (yP rfl) ?_
 refine qD rfl (zM (k := 2) rfl Tryz.underlying74 rfl nz67 rfl) ?_
 refine q0 rfl rfl rfl (xZ (cs' := [u293, u368, u430, (.map (some mm.f)), (.map (some mm.o)), (.map (some mm.c)), (.map (some mm.s)), (.map (some mm.n))]) (us := [u430]) (v := u430) sz67 rfl rfl (cells1 ho432.one) (xG ho432.one) hX436.pins hb441 (Nat.le_of_ble_eq_true rfl) rfl (fun w454 hb455 hp456 hg457 hz458 => ?_))
 have hX459 := hX436.write hp456 hg457 ((PIn.lp hpin))
 have ho461 := ho438.keptA hg457 ha316.symm
 have ho462 := ho439.keptA hg457 ha389.symm
 have ho463 := ho432.keptA hg457 ha451.symm
 have hm464 := hm442.kept hg457 (xH hm442 hb441)
 have hm465 := hm443.kept hg457 (xH hm443 hb441)
 have hm466 := hm444.kept hg457 (xH hm444 hb441)
 have hm467 := hm445.kept hg457 (xH hm445 hb441)
 have hm468 := hm446.kept hg457 (xH hm446 hb441)
 refine qe (zB (zE (zF ?_)))
 refine qD rfl (zA (v := (.int .i64 (q.bs.length : Int))) rfl) ?_
 refine qD rfl (zD (v := (.int .i64 (q.bs.length : Int))) rfl) ?_
 refine qe (zB ?_)
 refine wp_ret ?_
 refine zW ?_
 refine zS (v := (.int .i64 (q.bs.length : Int))) rfl rfl rfl ?_
 have el : (q.ns.map Nd.l) ++ [xs2] = (addQ q xs ys bm).ns.map Nd.l := by rw [hxs2]; simp [addQ]
 have er : (q.ns.map Nd.r) ++ [ys2] = (addQ q xs ys bm).ns.map Nd.r := by rw [hys2]; simp [addQ]
 have ef : putE q.fl (b2s kxb) (q.bs.length : Int) = (addQ q xs ys bm).fl := by rw [hkey, hxs2, hys2, hok.ar.ok.len]; rfl
 have hol := ho461
 have hor := ho462
 have hff := hm464
 rw [el] at hol
 rw [er] at hor
 rw [ef] at hff
 exact ⟨(q.bs.length : Int), u293, u368, u430, addQ q xs ys bm, G335, rfl, ⟨hb455, hol, hor, ho463, hff, hm465, hm466, hm467, hm468, ha316, ha389, ha451, ha387, ha448, ha449, hpk219.df⟩, hadd.1, hadd.2.1, ⟨hlo317, hlo390, hlo452⟩, hX459, by rw [hok.ar.ok.len]; exact hadd.2.2.1, by rw [hok.ar.ok.len]; exact hadd.2.2.2.1, hadd.2.2.2.2, rfl, Or.inr (by omega)⟩

end PO1
end Go.Proofs.YtpknebplcmgnkaaGreatDoor

set_option maxRecDepth 20000
set_option maxHeartbeats 2000000
namespace Go.Proofs.YtpknebplcmgnkaaGreatDoor
namespace PL1
open Go.RowKit Go.GL Go.Proofs
open Go.Proofs.YtpknebplcmgnkaaGreatDoor.B1
open Go.Proofs.YtpknebplcmgnkaaGreatDoor.K1
open Go.Proofs.YtpknebplcmgnkaaGreatDoor.PO1









theorem mk3 : (Tryz.prog.info? 3).map (fun i => (i.size, i.bytes, i.zero)) = some (1, 8, some (.int .i64 0)) := by kernel_rfl








theorem pl74 : (Tryz.prog.underlying 74).bind (placesD Tryz.prog) = some [(0, 1), (1, 1), (2, 1), (3, 1), (4, 1), (5, 1), (6, 1), (7, 1)] := by kernel_rfl










theorem newPool_spec {w : World} {G : Pin} (hP : Pins G w) :
  Calls Tryz.prog 55 [].toArray w fun e w' => ∃ (p : Nat) (mm : PM) (G' : Pin), e = .returned (.pointer (some ⟨p, 0, none⟩)) ∧ Pk 67 3 G' w' p (.slice none 0 0) (.slice none 0 0) (.slice none 0 0) mm ⟨[], [], [], [], [], [], []⟩ ∧ (∀ k, inP p (.slice none 0 0) (.slice none 0 0) (.slice none 0 0) mm k → w.heap.size ≤ k) ∧ Ext noS G w G' w' := by
 refine yD (n := 8) Tryz.func55 Tryz.ntmps55 rfl rfl ?_
 have hX0 : Ext noS G w G w := Ext.refl hP
 refine zE (zF ?_)
 refine qD rfl (zD (v := (.pointer none)) rfl) ?_
 refine qe (zB (zE (zF ?_)))
 refine qI rfl (jB (fun k : ByteArray => Value.string k) (fun v : Int => Value.int .i64 v) hX0.pins (fun m1 w2 hk3 hm4 hp5 hl6 => ?_))
 have hX7 := hX0.step hp5 hl6
 have hlo8 : w.heap.size ≤ m1 := by have := hX0.size; omega
 refine qI rfl (jB encP2 (fun v : Bool => Value.bool v) hX7.pins (fun m9 w10 hk11 hm12 hp13 hl14 => ?_))
 have hX15 := hX7.step hp13 hl14
 have hm16 := hm4.below hl14
 have ha17 : Apart (some m9) (some m1) := zR (congrArg some hk11) hm4.lt
 have hlo18 : w.heap.size ≤ m9 := by have := hX7.size; omega
 refine qI rfl (jB (fun k : Int => Value.int .i64 k) (fun v : Int => Value.int .i64 v) hX15.pins (fun m19 w20 hk21 hm22 hp23 hl24 => ?_))
 have hX25 := hX15.step hp23 hl24
 have hm26 := hm16.below hl24
 have hm27 := hm12.below hl24
 have ha28 : Apart (some m19) (some m1) := zR (congrArg some hk21) hm16.lt
 have ha29 : Apart (some m19) (some m9) := zR (congrArg some hk21) hm12.lt
 have hlo30 : w.heap.size ≤ m19 := by have := hX15.size; omega
 refine qI rfl (jB encP2 (fun v : Int => Value.int .i64 v) hX25.pins (fun m31 w32 hk33 hm34 hp35 hl36 => ?_))
 have hX37 := hX25.step hp35 hl36
 have hm38 := hm26.below hl36
 have hm39 := hm27.below hl36
 have hm40 := hm22.below hl36
 have ha41 : Apart (some m31) (some m1) := zR (congrArg some hk33) hm26.lt
 have ha42 : Apart (some m31) (some m9) := zR (congrArg some hk33) hm27.lt
 have ha43 : Apart (some m31) (some m19) := zR (congrArg some hk33) hm22.lt
 have hlo44 : w.heap.size ≤ m31 := by have := hX25.size; omega
 refine qI rfl (jB (fun k : Int => Value.int .i64 k) (fun v : Int => Value.int .i64 v) hX37.pins (fun m45 w46 hk47 hm48 hp49 hl50 => ?_))
 have hX51 := hX37.step hp49 hl50
 have hm52 := hm38.below hl50
 have hm53 := hm39.below hl50
 have hm54 := hm40.below hl50
 have hm55 := hm34.below hl50
 have ha56 : Apart (some m45) (some m1) := zR (congrArg some hk47) hm38.lt
 have ha57 : Apart (some m45) (some m9) := zR (congrArg some hk47) hm39.lt
 have ha58 : Apart (some m45) (some m19) := zR (congrArg some hk47) hm40.lt
 have ha59 : Apart (some m45) (some m31) := zR (congrArg some hk47) hm34.lt
 have hlo60 : w.heap.size ≤ m45 := by have := hX37.size; omega
 refine qD rfl (r_build [(.slice none 0 0), (.slice none 0 0), (.slice none 0 0), (.map none), (.map none), (.map none), (.map none), (.map none)] [(.slice none 0 0), (.slice none 0 0), (.slice none 0 0), (.map (some m1)), (.map (some m9)), (.map (some m19)), (.map (some m31)), (.map (some m45))] [(3, (.map (some m1)), [(.map (some m1))]), (4, (.map (some m9)), [(.map (some m9))]), (5, (.map (some m19)), [(.map (some m19))]), (6, (.map (some m31)), [(.map (some m31))]), (7, (.map (some m45)), [(.map (some m45))])] Tryz.underlying74 zr74 rfl pl74 rfl (List.forall_mem_cons.2 ⟨rfl, (List.forall_mem_cons.2 ⟨rfl, (List.forall_mem_cons.2 ⟨rfl, (List.forall_mem_cons.2 ⟨rfl, (List.forall_mem_cons.2 ⟨rfl, (fun _ h => by cases h)⟩)⟩)⟩)⟩)⟩) rfl) ?_
 refine qI rfl (qC [(.slice none 0 0), (.slice none 0 0), (.slice none 0 0), (.map (some m1)), (.map (some m9)), (.map (some m19)), (.map (some m31)), (.map (some m45))] (v := (.agg [(.slice none 0 0), (.slice none 0 0), (.slice none 0 0), (.map (some m1)), (.map (some m9)), (.map (some m19)), (.map (some m31)), (.map (some m45))].toArray)) rfl rfl hX51.pins (fun b61 w62 hk63 hb64 hp65 hl66 => ?_))
 have hX67 := hX51.step hp65 hl66
 have hm68 := hm52.below hl66
 have hm69 := hm53.below hl66
 have hm70 := hm54.below hl66
 have hm71 := hm55.below hl66
 have hm72 := hm48.below hl66
 have hlo73 : w.heap.size ≤ b61 := by have := hX51.size; omega
 refine qD rfl (zD (v := (.pointer (some ⟨b61, 0, none⟩))) rfl) ?_
 refine qe (zB ?_)
 refine wp_ret ?_
 refine zW ?_
 refine zS (v := (.pointer (some ⟨b61, 0, none⟩))) rfl rfl rfl ?_
 have hdf : PDiff ⟨m1, m9, m19, m31, m45⟩ := ⟨fun e => ha17.symm _ rfl (congrArg some e.symm), fun e => ha28.symm _ rfl (congrArg some e.symm), fun e => ha41.symm _ rfl (congrArg some e.symm), fun e => ha56.symm _ rfl (congrArg some e.symm), fun e => ha29.symm _ rfl (congrArg some e.symm), fun e => ha42.symm _ rfl (congrArg some e.symm), fun e => ha57.symm _ rfl (congrArg some e.symm), fun e => ha43.symm _ rfl (congrArg some e.symm), fun e => ha58.symm _ rfl (congrArg some e.symm), fun e => ha59.symm _ rfl (congrArg some e.symm)⟩
 have hfr : ∀ k, inP b61 (.slice none 0 0) (.slice none 0 0) (.slice none 0 0) ⟨m1, m9, m19, m31, m45⟩ k → w.heap.size ≤ k := by rintro k (rfl | hk | hk | hk | rfl | rfl | rfl | rfl | rfl) <;> first | (cases hk; done) | exact hlo73 | exact hlo8 | exact hlo18 | exact hlo30 | exact hlo44 | exact hlo60
 exact ⟨b61, ⟨m1, m9, m19, m31, m45⟩, _, rfl, ⟨hb64, (Own.nil _ _ _ _ _), (Own.nil _ _ _ _ _), (Own.nil _ _ _ _ _), hm68, hm69, hm70, hm71, hm72, apart_none.symm, apart_none.symm, apart_none.symm, apart_none, apart_none, apart_none, hdf⟩, hfr, hX67⟩

theorem renamed_spec {w : World} {G : Pin} {u v : Value} {xs ys : List Int} (hP : Pins G w) (hu : RSl eInt G u xs) (hv : RSl eInt G v ys) (hs : xs.length ≤ 1048576) (hb : ∀ i, i < xs.length → 0 ≤ xs.getD i 0 ∧ xs.getD i 0 < ys.length) :
  Calls Tryz.prog 128 [u, v].toArray w fun e w' => ∃ (u : Value) (G' : Pin), e = .returned u ∧ Own eInt 3 G' w' w.heap.size u (atL ys xs) ∧ Ext noS G w G' w' := by
 refine yD (n := 27) Tryz.func128 Tryz.ntmps128 rfl rfl ?_
 have hX0 : Ext noS G w G w := Ext.refl hP
 have hm := hu.max
 have hal : (atL ys xs).length = xs.length := xC
 have hrl : (List.replicate xs.length (0 : Int)).length = xs.length := List.length_replicate
 refine zE (zF ?_)
 refine qD rfl (zD (v := (.slice none 0 0)) rfl) ?_
 refine qe (zB (zE (zF ?_)))
 refine qD rfl (zA (v := u) rfl) ?_
 refine qD rfl (zL Tryz.underlying67 (v := u) rfl hu) ?_
 refine qI rfl (o_make (E := eInt) 0 8 (.int .i64 0) Tryz.underlying67 mk3 (fun _ => rfl) rfl rfl hX0.pins (by omega) (by omega) (by omega) (fun u1 w2 ho3 hp4 hl5 hk6 => ?_))
 have hX7 := hX0.step hp4 hl5
 have ho8 : Own eInt 3 G w2 w.heap.size u1 (List.replicate xs.length 0) := ho3.weaken hX0.size
 have hm9 : (List.replicate xs.length 0).length = xs.length := List.length_replicate ..
 refine qD rfl (zD (v := u1) rfl) ?_
 refine qe (zB (zE (zE (zF ?_))))
 refine qD rfl (zA (v := u) rfl) ?_
 refine qD rfl (zL Tryz.underlying67 (v := u) rfl hu) ?_
 refine qD rfl (zA (v := (.int .i64 0)) rfl) ?_
 refine qe (zB ?_)
 refine zZ ?_
 refine yM (fun (k : Nat) (en : Nat → Value) (W : World) => ∃ (env1 : Nat → Value) (j : Nat) (os : List Int), en = (upd (upd (upd (upd (upd (upd env1 1 v) 4 (.slice none 0 0)) 5 u1) 11 u) 12 (.int .i64 (xs.length : Int))) 13 (.int .i64 (j : Int))) ∧ k = xs.length - j ∧ Ext noS G w G W ∧ (j ≤ xs.length) ∧ (os = (atL ys xs).take j ++ (List.replicate xs.length 0).drop j) ∧ (os.length = xs.length) ∧ (Own eInt 3 G W w.heap.size u1 (os))) _ ⟨_, 0, List.replicate xs.length 0, (zC (x := 13) (zC (x := 12) (zC (x := 11) (zC (x := 5) (zC (x := 4) (zN (x := 1) rfl) rfl) rfl) rfl) rfl) rfl), rfl, hX7, Nat.zero_le _, rfl, hrl, ho8⟩ ?_
 rintro k10 _ w11 ⟨env1, j, os, rfl, hk12, hX13, hj, hr, hol, hw14⟩
 refine zE (zF ?_)
 refine qD rfl (yN rfl rfl) ?_
 refine qe (zB (zE ?_))
 refine yE (p := ((j : Int) : Int) < (xs.length : Int)) rfl rfl (fun h15 => ?_) (fun h15 => ?_)
 ·skip
  have hbj := hb j (by omega)
  refine wp_skip ?_
  refine zB (zE ?_)
  refine zZ ?_
  refine zE (zF ?_)
  refine qD rfl (zA (v := (.int .i64 (j : Int))) rfl) ?_
  refine qD rfl (zJ Tryz.underlying67 sz3 (v := u) rfl rfl hu (by omega) (by omega)) ?_
  refine qD rfl (zI (r := xs.getD j 0) rfl ag3 (z := (j : Int)) rfl hu hX13.pins (by omega) (by omega)) ?_
  refine qD rfl (zD (v := (.int .i64 (j : Int))) rfl) ?_
  refine qD rfl (zD (v := (.int .i64 (xs.getD j 0))) rfl) ?_
  refine qe (zB (zF ?_))
  refine qD rfl (zA (v := u1) rfl) ?_
  refine qD rfl (zA (v := (.int .i64 (j : Int))) rfl) ?_
  refine qD rfl (zA (v := v) rfl) ?_
  refine qD rfl (zA (v := (.int .i64 (xs.getD j 0))) rfl) ?_
  refine qD rfl (zJ Tryz.underlying67 sz3 (v := v) rfl rfl hv (by omega) (by omega)) ?_
  refine qD rfl (zI (r := ys.getD (xs.getD j 0).toNat 0) rfl ag3 (z := (xs.getD j 0)) rfl hv hX13.pins (by omega) (by omega)) ?_
  refine qD rfl (zJ Tryz.underlying67 sz3 (v := u1) rfl rfl hw14.read (by omega) (by omega)) ?_
  refine q0 rfl rfl rfl (o_set (E := eInt) (v := u1) (u := (.int .i64 (ys.getD (xs.getD j 0).toNat 0))) (z := (j : Int)) (ys.getD (xs.getD j 0).toNat 0) sz3 rfl rfl rfl rfl hX13.pins hw14 (by omega) (by omega) (fun w16 ho17 hp18 hg19 hz20 => ?_))
  have hX21 := hX13.write hp18 hg19 ((yI hw14))
  refine qe ?_
  refine yA ?_
  refine zB (zF ?_)
  refine qD rfl (yJ rfl rfl (by omega)) ?_
  refine qD rfl (zA (v := (.int .i64 ((j : Int) + 1))) rfl) ?_
  refine qe ?_
  refine zY ?_
  refine ⟨_, ?_, _, rfl, _, j + 1, os.set j (ys.getD (xs.getD j 0).toNat 0), (zC (x := 13) (zC (x := 12) (zC (x := 11) (zC (x := 5) (zC (x := 4) (zN (x := 1) rfl) rfl) rfl) rfl) rfl) rfl), rfl, hX21, (by omega), (by rw [hr]; exact cur_set 0 (by omega) (by omega) (at_getD (by omega))), ((List.length_set ..).trans hol), ho17⟩
  omega
 refine wp_exit ?_
 refine zX ?_
 refine yL ?_
 refine yF ?_
 refine zB (zE (zF ?_))
 refine qD rfl (zA (v := u1) rfl) ?_
 refine qD rfl (zD (v := u1) rfl) ?_
 refine qe (zB ?_)
 refine wp_ret ?_
 refine zW ?_
 refine zS (v := u1) rfl rfl rfl ?_
 rw [cur_end (by omega) (by omega)] at hr
 exact ⟨_, _, rfl, (by rw [← hr]; exact hw14), hX13⟩

theorem load_spec {w : World} {G : Pin} {p : Nat} {L R B : Value} {mm : PM} {q : PSt} (hP : Pins G w) (hpk : Pk 67 3 G w p L R B mm q) (hok : PoolOk q) {x : Value} {fs : List Nd} (hx : RSl eNode G x fs) (hf : FormOk fs) (hl : q.ns.length + fs.length ≤ 1048576) :
  Calls Tryz.prog 83 [(.pointer (some ⟨p, 0, none⟩)), (.agg [x].toArray)].toArray w fun e w' => ∃ (u : Value) (ats : List Int) (L' R' B' : Value) (q' : PSt) (G' : Pin), e = .returned u ∧ Pk 67 3 G' w' p L' R' B' mm q' ∧ PoolOk q' ∧ PX q q' ∧ PLo w p L R B mm L' R' B' ∧ Ext (inP p L R B mm) G w G' w' ∧ Own eInt 3 G' w' w.heap.size u ats ∧ NP p L' R' B' mm u.ownBlock ∧ LdOk fs q q' fs.length ats := by
 refine yD (n := 34) Tryz.func83 Tryz.ntmps83 rfl rfl ?_
 have hX0 : Ext (inP p L R B mm) G w G w := Ext.refl hP
 have hpin : PIn w (inP p L R B mm) p L R B mm := PIn.self
 have hml1 : (q.ns.map Nd.l).length = q.ns.length ∧ (q.ns.map Nd.r).length = q.ns.length := ⟨List.length_map .., List.length_map ..⟩
 have hml2 : q.bs.length = q.ns.length ∧ q.ns.length ≤ 1048576 := ⟨hok.ar.ok.len, hok.ar.ok.lim⟩
 refine zE (zF ?_)
 refine qI rfl (qC [x] (v := (.agg [x].toArray)) rfl rfl hX0.pins (fun b3 w4 hk5 hb6 hp7 hl8 => ?_))
 have hX9 := hX0.step hp7 hl8
 have hpk10 := hpk.below hl8 hp7
 have ha15 := hpk.new (x := (some b3)) (fun k hk => by rw [(congrArg some hk5)] at hk; cases hk; exact Nat.le_refl _)
 have hlo16 : w.heap.size ≤ b3 := by have := hX0.size; omega
 obtain ⟨G17, hle18, hX19, hbp20, hf21⟩ := hb6.shut hX9 hlo16
 have hpk22 := hpk10.more hle18 hf21 ha15
 refine qD rfl (zD (v := (.slice none 0 0)) rfl) ?_
 refine qe (zB (zE (zF ?_)))
 refine qD rfl (zM (k := 0) rfl Tryz.underlying32 rfl nz30 rfl) ?_
 refine qD rfl (zO (u := x) ag30 rfl (hX19.pins _ _ _ (hbp20 0 _ rfl))) ?_
 refine qD rfl (zL Tryz.underlying30 (v := x) rfl hx) ?_
 refine qI rfl (o_make0 (E := eInt) Tryz.underlying67 mk3 rfl rfl hX19.pins (by omega) (by omega) (by omega) (fun u23 w24 ho25 hp26 hl27 hk28 => ?_))
 have hX29 := hX19.step hp26 hl27
 have hpk30 := hpk22.below hl27 hp26
 have ha35 := hpk22.new (x := u23.ownBlock) (fun k hk => by rw [hk28] at hk; cases hk; exact Nat.le_refl _)
 have ho36 : Own eInt 3 G17 w24 w.heap.size u23 ([]) := ho25.weaken hX19.size
 refine qD rfl (zD (v := u23) rfl) ?_
 refine qe (zB (zE (zE (zF ?_))))
 refine qD rfl (zM (k := 0) rfl Tryz.underlying32 rfl nz30 rfl) ?_
 refine qD rfl (zO (u := x) ag30 rfl (hX29.pins _ _ _ (hbp20 0 _ rfl))) ?_
 refine qD rfl (zL Tryz.underlying30 (v := x) rfl hx) ?_
 refine qD rfl (zA (v := (.int .i64 0)) rfl) ?_
 refine qe (zB ?_)
 refine zZ ?_
 refine yM (fun (k : Nat) (en : Nat → Value) (W : World) => ∃ (env1 : Nat → Value) (k4 : Nat) (at_ : Value) (ats : List Int) (L37 : Value) (R38 : Value) (B39 : Value) (q40 : PSt) (GL1 : Pin), en = (upd (upd (upd (upd (upd (upd env1 0 (.pointer (some ⟨p, 0, none⟩))) 4 (.slice none 0 0)) 5 at_) 13 x) 14 (.int .i64 (fs.length : Int))) 15 (.int .i64 (k4 : Int))) ∧ k = fs.length - k4 ∧ Ext (inP p L R B mm) G w GL1 W ∧ Pin.le G17 GL1 ∧ (k4 ≤ fs.length) ∧ (LdOk fs q q40 k4 ats) ∧ (Own eInt 3 GL1 W w.heap.size at_ (ats)) ∧ (Pk 67 3 GL1 W p L37 R38 B39 mm q40) ∧ (PIn w ((inP p L R B mm)) p L37 R38 B39 mm) ∧ (PoolOk q40) ∧ (PX q q40) ∧ (NP p L37 R38 B39 mm at_.ownBlock)) _ ⟨_, 0, u23, [], L, R, B, q, G17, (zC (x := 15) (zC (x := 14) (zC (x := 13) (zC (x := 5) (zC (x := 4) (zN (x := 0) rfl) rfl) rfl) rfl) rfl) rfl), rfl, hX29, Pin.le_refl _, Nat.zero_le _, LdOk.start, ho36, hpk30, hpin, hok, (PX.refl _), ha35⟩ ?_
 rintro k41 _ w42 ⟨env1, k4, at_, ats, L37, R38, B39, q40, GL1, rfl, hk43, hX44, hlek41, hk, hld, hw45, hpk46, hpin47, hok48, hpx49, hnp50⟩
 have hql51 := hpx49.len
 have hml52 : (q40.ns.map Nd.l).length = q40.ns.length ∧ (q40.ns.map Nd.r).length = q40.ns.length := ⟨List.length_map .., List.length_map ..⟩
 have hml53 : q40.bs.length = q40.ns.length ∧ q40.ns.length ≤ 1048576 := ⟨hok48.ar.ok.len, hok48.ar.ok.lim⟩
 have hal := hld.len
 have hah := hld.hi
 have hfl := hf.len
 refine zE (zF ?_)
 refine qD rfl (yN rfl rfl) ?_
 refine qe (zB (zE ?_))
 refine yE (p := ((k4 : Int) : Int) < (fs.length : Int)) rfl rfl (fun h54 => ?_) (fun h54 => ?_)
 ·skip
  have oo := xD hf.opts (show k4 < fs.length by omega)
  have hfe := hf.lens k4 (by omega)
  refine wp_skip ?_
  refine zB (zE ?_)
  refine zZ ?_
  refine zE (zF ?_)
  refine qD rfl (zJ Tryz.underlying30 yO (v := x) rfl rfl hx (by omega) (by omega)) ?_
  obtain ⟨u55, u56, hr57, hr58, hl59⟩ := qX (hx.at (z := (k4 : Int)) (by omega) (by omega)) (j := k4) rfl
  have hm60 := hr57.max
  have hm61 := hr58.max
  refine qD rfl (hl59 ag103 yO rfl (Pins.of_le hX44.pins (Pin.le_trans hle18 hlek41))) ?_
  refine qI rfl (xM [(.slice none 0 0), (.slice none 0 0)] qJ rfl hX44.pins (fun b62 w63 hk64 hb65 hp66 hl67 => ?_))
  have hX68 := hX44.step hp66 hl67
  have ho69 := hw45.below hl67
  have hpk70 := hpk46.below hl67 hp66
  have ha71 : Apart (some b62) at_.ownBlock := zK (congrArg some hk64) hw45.lt
  have ha76 := hpk46.new (x := (some b62)) (fun k hk => by rw [(congrArg some hk64)] at hk; cases hk; exact Nat.le_refl _)
  have hlo77 : w.heap.size ≤ b62 := by have := hX44.size; omega
  refine q0 rfl rfl rfl (xZ (cs' := [u55, u56]) (us := [u55, u56]) (v := (.agg [u55, u56].toArray)) yO rfl rfl rfl (ones2 hr57.one hr58.one) hX68.pins hb65 (Nat.le_of_ble_eq_true rfl) rfl (fun w78 hb79 hp80 hg81 hz82 => ?_))
  have hX83 := hX68.write hp80 hg81 ((xJ hlo77))
  have ho84 := ho69.keptA hg81 ha71.symm
  have hpk85 := hpk70.kept hg81 hp80 ha76
  obtain ⟨G86, hle87, hX88, hbp89, hf90⟩ := hb79.shut hX83 hlo77
  have ho91 := ho84.moreA hle87 hf90 ha71.symm
  have hpk92 := hpk85.more hle87 hf90 ha76
  refine qe (zB ?_)
  refine xE (S := fun wz => Pins G86 wz) (last := 14) (by kernel_rfl) rfl ?_
  have hl93 : Below w78.heap.size w78 w78.drew := (Below.refl _ _).drew
  have hp94 := hX88.pins.below hl93
  have hX95 := hX88.step hp94 hl93
  have ho96 := ho91.below hl93
  have hpk97 := hpk92.below hl93 hp94
  refine dT (i := 0) rfl rfl (by kernel_rfl) (fun _ _ => zA (v := at_) rfl) hX95.pins ?_
  refine dT (i := 1) rfl rfl (by kernel_rfl) (fun _ _ => zA (v := (.pointer (some ⟨p, 0, none⟩))) rfl) hX95.pins ?_
  refine dT (i := 2) rfl rfl (by kernel_rfl) (fun _ _ => zM (k := 0) rfl Tryz.underlying103 rfl nz67 rfl) hX95.pins ?_
  refine dT (i := 3) rfl rfl (by kernel_rfl) (fun _ hS => zO (u := u55) ag67 rfl (hS _ _ _ (hbp89 0 _ rfl))) hX95.pins ?_
  refine dT (i := 4) rfl rfl (by kernel_rfl) (fun _ _ => zA (v := at_) rfl) hX95.pins ?_
  refine dT (i := 6) rfl rfl (by kernel_rfl) (fun _ _ => zM (k := 1) rfl Tryz.underlying103 rfl nz67 rfl) hX95.pins ?_
  refine dT (i := 7) rfl rfl (by kernel_rfl) (fun _ hS => zO (u := u56) ag67 rfl (hS _ _ _ (hbp89 1 _ rfl))) hX95.pins ?_
  refine dT (i := 8) rfl rfl (by kernel_rfl) (fun _ _ => zA (v := at_) rfl) hX95.pins ?_
  refine zV (i := 5) (by kernel_rfl) (yC (i := 5) rfl rfl rfl (zG rfl _) (zP (vs := [u55, at_]) Tryz.func128 nm128 rfl rfl rfl ?_))
  refine Calls.mono (renamed_spec (Gadd.pins hX95.pins at_) ((hr57.mono (Pin.le_trans (Pin.le_trans hle18 hlek41) hle87)).mono (Gadd.le _ _ _)) ho96.read (by omega) (fun i hi => by have h7 := oo.1 _ (yG (d := (0 : Int)) hi); omega)) ?_
  rintro _ w100 ⟨u98, G99, rfl, ho101, hx102⟩
  refine ⟨_, rfl, ?_⟩
  have hx103 := deep_back hX95.pins hx102
  have ho104 := ho101.anti flat_int (Pin.le_trans (Gadd.le G86 w78.drew at_) hx102.le)
  have hX105 := hX95.step hx103.pins hx103.below
  have ho106 := ho96.below hx103.below
  have hpk107 := hpk97.below hx103.below hx103.pins
  have ha108 : Apart u98.ownBlock at_.ownBlock := zU ho104.lt ho96.lt
  have ha109 := hpk97.new (x := u98.ownBlock) (fun k hk => (ho104.lt k hk).1)
  have ho110 : Own eInt 3 G86 w100 w.heap.size u98 (atL ats ((fs.getD k4 default).l)) := ho104.weaken hX95.size
  have hm111 : (atL ats ((fs.getD k4 default).l)).length = ((fs.getD k4 default).l).length := xC
  refine ⟨fun _ => hX105.pins, ?_⟩
  refine zV (i := 9) (by kernel_rfl) (yC (i := 9) rfl rfl rfl (zG rfl _) (zP (vs := [u56, at_]) Tryz.func128 nm128 rfl rfl rfl ?_))
  refine Calls.mono (renamed_spec (Gadd.pins hX105.pins at_) ((hr58.mono (Pin.le_trans (Pin.le_trans hle18 hlek41) hle87)).mono (Gadd.le _ _ _)) ho106.read (by omega) (fun i hi => by have h7 := oo.2 _ (yG (d := (0 : Int)) hi); omega)) ?_
  rintro _ w114 ⟨u112, G113, rfl, ho115, hx116⟩
  refine ⟨_, rfl, ?_⟩
  have hx117 := deep_back hX105.pins hx116
  have ho118 := ho115.anti flat_int (Pin.le_trans (Gadd.le G86 w100 at_) hx116.le)
  have hX119 := hX105.step hx117.pins hx117.below
  have ho120 := ho106.below hx117.below
  have ho121 := ho110.below hx117.below
  have hpk122 := hpk107.below hx117.below hx117.pins
  have ha123 : Apart u112.ownBlock at_.ownBlock := zU ho118.lt ho106.lt
  have ha124 : Apart u112.ownBlock u98.ownBlock := zU ho118.lt ho110.lt
  have ha125 := hpk107.new (x := u112.ownBlock) (fun k hk => (ho118.lt k hk).1)
  have ho126 : Own eInt 3 G86 w114 w.heap.size u112 (atL ats ((fs.getD k4 default).r)) := ho118.weaken hX105.size
  have hm127 : (atL ats ((fs.getD k4 default).r)).length = ((fs.getD k4 default).r).length := xC
  refine ⟨fun _ => hX119.pins, ?_⟩
  obtain ⟨G128, hle131, hX130, hr129, hf132⟩ := ho121.sealed hX119
  have ho133 := ho120.moreO hle131 hf132 ha108.symm
  have ho134 := ho126.moreO hle131 hf132 ha124
  have hpk135 := hpk122.moreO hle131 hf132 ha109
  obtain ⟨G136, hle139, hX138, hr137, hf140⟩ := ho134.sealed hX130
  have ho141 := ho133.moreO hle139 hf140 ha123.symm
  have hpk142 := hpk135.moreO hle139 hf140 ha125
  refine zV (i := 10) (by kernel_rfl) (yC (i := 10) rfl rfl rfl (zG rfl _) (zP (vs := [(.pointer (some ⟨p, 0, none⟩)), u98, u112]) Tryz.func87 nm87 rfl rfl rfl ?_))
  refine Calls.mono (node_spec hX138.pins hpk142 hok48 (hr129.mono hle139) hr137 (by omega) ⟨by rw [xC]; omega, by rw [xC]; omega⟩ (hld.opt oo.1) (hld.opt oo.2)) ?_
  rintro _ w153 ⟨z143, L148, R149, B150, q151, G152, rfl, hpk154, hok155, hpx156, hlo157, hx158, hpl144, hpd145, hqn146, hcm147⟩
  refine ⟨_, rfl, ?_⟩
  have hX159 := hX138.trans hx158 hpin47
  have ho160 := ho141.extS hx158 hnp50
  have hnp161 := NP.call hnp50 hlo157 (qS ho141)
  have hpin162 := PIn.call hpin47 hlo157 hX138.size
  have hql163 := hpx156.len
  have hml164 : (q151.ns.map Nd.l).length = q151.ns.length ∧ (q151.ns.map Nd.r).length = q151.ns.length := ⟨List.length_map .., List.length_map ..⟩
  have hml165 : q151.bs.length = q151.ns.length ∧ q151.ns.length ≤ 1048576 := ⟨hok155.ar.ok.len, hok155.ar.ok.lim⟩
  refine ⟨fun _ => (Pins.of_le hX159.pins (Pin.le_trans (Pin.le_trans hle131 hle139) hx158.le)), ?_⟩
  refine zV (i := 11) (by kernel_rfl) (yC (i := 11) rfl rfl rfl (zG rfl _) (yQ (E := eInt) (e := 3) [(.int .i64 z143)] [z143] Tryz.underlying67 sz3 zr3 (by exact xO (by rfl)) (xG (by rfl)) rfl rfl rfl rfl (by decide) hX159.pins (fun u166 w167 ho168 hp169 hl170 hk171 => ?_)))
  have hX172 := hX159.step hp169 hl170
  have ho173 := ho160.below hl170
  have hpk174 := hpk154.below hl170 hp169
  have ho181 : Own eInt 3 G152 w167 w.heap.size u166 ([z143]) := ho168.weaken hX159.size
  refine ⟨fun _ => (Pins.of_le hX172.pins (Pin.le_trans (Pin.le_trans hle131 hle139) hx158.le)), ?_⟩
  refine zV (i := 12) (by kernel_rfl) (yC (i := 12) rfl rfl rfl (zG rfl _) (yB (E := eInt) (v := at_) (u := u166) 8 Tryz.underlying67 ap3 (by decide) rfl rfl hX172.pins ho173 ho181.src (by first | omega | (rw [List.nil_append]; omega) | (rw [List.length_nil]; omega) | (rw [List.length_append]; omega) | (simp; done) | (simp; omega) | (simp only [List.length_append, List.length_cons, List.length_nil]; omega)) (by first | omega | (rw [List.nil_append]; omega) | (rw [List.length_nil]; omega) | (rw [List.length_append]; omega) | (simp; done) | (simp; omega) | (simp only [List.length_append, List.length_cons, List.length_nil]; omega)) (hX172.size) (fun u182 w183 ho184 hp185 hg186 hw187 => ?_)))
  have hX188 := hX172.write hp185 hg186 ((yI ho173))
  have hpk190 := hpk174.kept hg186 hp185 hnp161
  have hnp192 := qT hnp161 hpk174 hw187
  have hm193 : (ats ++ ([z143])).length = ats.length + 1 := List.length_append
  refine ⟨fun _ => (Pins.of_le hX188.pins (Pin.le_trans (Pin.le_trans hle131 hle139) hx158.le)), ?_⟩
  refine dT (i := 13) rfl rfl (by kernel_rfl) (fun _ _ => zD (v := u182) rfl) (Pins.of_le hX188.pins (Pin.le_trans (Pin.le_trans hle131 hle139) hx158.le)) ?_
  refine yT (by kernel_rfl) ?_
  refine yA ?_
  refine zB (zF ?_)
  refine qD rfl (yJ rfl rfl (by omega)) ?_
  refine qD rfl (zA (v := (.int .i64 ((k4 : Int) + 1))) rfl) ?_
  refine qe ?_
  refine zY ?_
  refine ⟨_, ?_, _, rfl, _, k4 + 1, u182, ats ++ ([z143]), L148, R149, B150, q151, G152, (zC (x := 15) (zC (x := 14) (zC (x := 13) (zC (x := 5) (zC (x := 4) (zN (x := 0) rfl) rfl) rfl) rfl) rfl) rfl), rfl, hX188, (Pin.le_trans (Pin.le_trans (Pin.le_trans (Pin.le_trans hlek41 hle87) hle131) hle139) hx158.le), (by omega), (hld.step hf (by omega) hok48 hok155 hpx156 hpl144 hpd145 hqn146), ho184, hpk190, hpin162, hok155, (PX.trans hpx49 hpx156), hnp192⟩
  omega
 refine wp_exit ?_
 refine zX ?_
 refine yL ?_
 refine yF ?_
 refine zB (zE (zF ?_))
 refine qD rfl (zA (v := at_) rfl) ?_
 refine qD rfl (zD (v := at_) rfl) ?_
 refine qe (zB ?_)
 refine wp_ret ?_
 refine zW ?_
 refine zS (v := at_) rfl rfl rfl ?_
 have hkf : k4 = fs.length := by omega
 rw [hkf] at hld
 exact ⟨at_, ats, L37, R38, B39, q40, GL1, rfl, hpk46, hok48, hpx49, PIn.lo hpin47 rfl, hX44, hw45, hnp50, hld⟩

theorem root_spec {w : World} {G : Pin} {p : Nat} {L R B : Value} {mm : PM} {q : PSt} (hP : Pins G w) (hpk : Pk 67 3 G w p L R B mm q) (hok : PoolOk q) {x : Value} {fs : List Nd} (hx : RSl eNode G x fs) (hf : FormOk fs) (hl : q.ns.length + fs.length ≤ 1048576) (hf1 : 1 ≤ fs.length) :
  Calls Tryz.prog 57 [(.pointer (some ⟨p, 0, none⟩)), (.agg [x].toArray)].toArray w fun e w' => ∃ (z : Int) (L' R' B' : Value) (q' : PSt) (G' : Pin), e = .returned (.int .i64 z) ∧ Pk 67 3 G' w' p L' R' B' mm q' ∧ PoolOk q' ∧ PX q q' ∧ PLo w p L R B mm L' R' B' ∧ Ext (inP p L R B mm) G w G' w' ∧ PlaceOk q' z ∧ pd q' z = gOf fs ∧ q'.ns.length ≤ q.ns.length + fs.length := by
 refine yD (n := 15) Tryz.func57 Tryz.ntmps57 rfl rfl ?_
 have hX0 : Ext (inP p L R B mm) G w G w := Ext.refl hP
 have hpin : PIn w (inP p L R B mm) p L R B mm := PIn.self
 have hml1 : (q.ns.map Nd.l).length = q.ns.length ∧ (q.ns.map Nd.r).length = q.ns.length := ⟨List.length_map .., List.length_map ..⟩
 have hml2 : q.bs.length = q.ns.length ∧ q.ns.length ≤ 1048576 := ⟨hok.ar.ok.len, hok.ar.ok.lim⟩
 have hfl := hf.len
 refine zE (zF ?_)
 refine qI rfl (qC [x] (v := (.agg [x].toArray)) rfl rfl hX0.pins (fun b3 w4 hk5 hb6 hp7 hl8 => ?_))
 have hX9 := hX0.step hp7 hl8
 have hpk10 := hpk.below hl8 hp7
 have ha15 := hpk.new (x := (some b3)) (fun k hk => by rw [(congrArg some hk5)] at hk; cases hk; exact Nat.le_refl _)
 have hlo16 : w.heap.size ≤ b3 := by have := hX0.size; omega
 obtain ⟨G17, hle18, hX19, hbp20, hf21⟩ := hb6.shut hX9 hlo16
 have hpk22 := hpk10.more hle18 hf21 ha15
 refine qD rfl (zD (v := (.int .i64 0)) rfl) ?_
 refine qe (zB (zE (zF ?_)))
 refine qD rfl (zA (v := (.pointer (some ⟨p, 0, none⟩))) rfl) ?_
 refine qD rfl (xQ (cs := [x]) ag32 sz32 rfl (fun j u hj => hX19.pins _ _ _ (hbp20 _ _ (by simpa using hj)))) ?_
 refine qI rfl (zP (vs := [(.pointer (some ⟨p, 0, none⟩)), (.agg [x].toArray)]) Tryz.func83 nm83 rfl rfl rfl ?_)
 refine Calls.mono (load_spec hX19.pins hpk22 hok (hx.mono hle18) hf hl) ?_
 rintro _ w29 ⟨u23, ats, L24, R25, B26, q27, G28, rfl, hpk31, hok32, hpx33, hlo34, hx35, ho30, hnp37, hld36⟩
 refine ⟨_, rfl, ?_⟩
 have hX38 := hX19.trans hx35 hpin
 have hpin39 := PIn.call hpin hlo34 hX19.size
 have hql40 := hpx33.len
 have hml41 : (q27.ns.map Nd.l).length = q27.ns.length ∧ (q27.ns.map Nd.r).length = q27.ns.length := ⟨List.length_map .., List.length_map ..⟩
 have hml42 : q27.bs.length = q27.ns.length ∧ q27.ns.length ≤ 1048576 := ⟨hok32.ar.ok.len, hok32.ar.ok.lim⟩
 have ho43 := ho30.weaken hX19.size
 have hll44 := hld36.len
 refine qD rfl (zD (v := u23) rfl) ?_
 refine qe (zB (zE (zF ?_)))
 refine qD rfl (zA (v := u23) rfl) ?_
 refine qD rfl (zA (v := u23) rfl) ?_
 refine qD rfl (zL Tryz.underlying67 (v := u23) rfl ho43.read) ?_
 refine qD rfl (qP rfl rfl (by omega)) ?_
 refine qD rfl (zJ Tryz.underlying67 sz3 (v := u23) rfl rfl ho43.read (by omega) (by omega)) ?_
 refine qD rfl (zI (r := ats.getD ((ats.length : Int) - 1).toNat 0) rfl ag3 (z := ((ats.length : Int) - 1)) rfl ho43.read (Gadd.pins hX38.pins u23) (by omega) (by omega)) ?_
 refine qD rfl (zD (v := (.int .i64 (ats.getD ((ats.length : Int) - 1).toNat 0))) rfl) ?_
 refine qe (zB ?_)
 refine wp_ret ?_
 refine zW ?_
 refine zS (v := (.int .i64 (ats.getD ((ats.length : Int) - 1).toNat 0))) rfl rfl rfl ?_
 have hrt := hld36.root hf1
 rw [show fs.length - 1 = ((ats.length : Int) - 1).toNat by omega] at hrt
 exact ⟨_, L24, R25, B26, q27, G28, rfl, hpk31, hok32, hpx33, PIn.lo hpin39 rfl, hX38, hrt.1, hrt.2, hld36.hi⟩

def GeP (m : Nat) (p : Nat) (L R B : Value) (mm : PM) : Prop := ∀ {w : World} {G : Pin} {q : PSt} {a b : Int} (_ : Pins G w) (_ : Pk 67 3 G w p L R B mm q) (_ : PoolOk q) (_ : PlaceOk q a) (_ : PlaceOk q b), a.toNat + b.toNat < m →
  Calls Tryz.prog 58 [(.pointer (some ⟨p, 0, none⟩)), (.int .i64 a), (.int .i64 b)].toArray w fun e w' => ∃ (q' : PSt) (G' : Pin), e = .returned (.bool (geB q.ns a b)) ∧ Pk 67 3 G' w' p L R B mm q' ∧ PoolOk q' ∧ PX q q' ∧ (q'.ns = q.ns ∧ q'.bs = q.bs) ∧ Ext (inO (some mm.o)) G w G' w'

theorem ge_step {p : Nat} {L R B : Value} {mm : PM} {m : Nat} {w : World} {G : Pin} {q : PSt} {a b : Int} (hP : Pins G w) (hpk : Pk 67 3 G w p L R B mm q) (hok : PoolOk q) (ha : PlaceOk q a) (hb : PlaceOk q b) (ih : GeP m p L R B mm) (hm : a.toNat + b.toNat < m + 1) :
  Calls Tryz.prog 58 [(.pointer (some ⟨p, 0, none⟩)), (.int .i64 a), (.int .i64 b)].toArray w fun e w' => ∃ (q' : PSt) (G' : Pin), e = .returned (.bool (geB q.ns a b)) ∧ Pk 67 3 G' w' p L R B mm q' ∧ PoolOk q' ∧ PX q q' ∧ (q'.ns = q.ns ∧ q'.bs = q.bs) ∧ Ext (inO (some mm.o)) G w G' w' := by
 refine yD (n := 74) Tryz.func58 Tryz.ntmps58 rfl rfl ?_
 have hX0 : Ext (inO (some mm.o)) G w G w := Ext.refl hP
 have hpin : PIn w (inP p L R B mm) p L R B mm := PIn.self
 have hml1 : (q.ns.map Nd.l).length = q.ns.length ∧ (q.ns.map Nd.r).length = q.ns.length := ⟨List.length_map .., List.length_map ..⟩
 have hml2 : q.bs.length = q.ns.length ∧ q.ns.length ≤ 1048576 := ⟨hok.ar.ok.len, hok.ar.ok.lim⟩
 have ha0 := ha.1
 have ha1 := ha.2
 have hb0 := hb.1
 have hb1 := hb.2
 refine zE (zF ?_)
 refine qD rfl (zD (v := (.bool false)) rfl) ?_
 refine qe (zB (zE (zE (zF ?_))))
 refine qD rfl (zA (v := (.int .i64 a)) rfl) ?_
 refine qD rfl (zA (v := (.int .i64 b)) rfl) ?_
 refine qD rfl (r_eql rfl rfl) ?_
 refine qe (zB ?_)
 refine yE (p := (a : Int) = b) rfl rfl (fun h3 => ?_) (fun h3 => ?_)
 ·skip
  refine zE (zF ?_)
  refine qD rfl (zD (v := (.bool true)) rfl) ?_
  refine qe (zB ?_)
  refine wp_ret ?_
  refine zW ?_
  refine zS (v := (.bool true)) rfl rfl rfl ?_
  exact ⟨q, _, congrArg (fun z => Ending.returned (Value.bool z)) (by rw [h3]; exact geB_refl.symm), hpk, hok, (PX.refl _), ⟨rfl, rfl⟩, hX0⟩
 refine wp_skip ?_
 refine zB (zE (zF ?_))
 refine qD rfl (zA (v := (.int .i64 a)) rfl) ?_
 refine qD rfl (zA (v := (.int .i64 b)) rfl) ?_
 refine qD rfl (r_buildA (m := 1) [(.int .i64 0), (.int .i64 0)] [(.int .i64 a), (.int .i64 b)] [(0, (.int .i64 a), [(.int .i64 a)]), (1, (.int .i64 b), [(.int .i64 b)])] Tryz.underlying116 zr116 rfl sz3 rfl (List.forall_mem_cons.2 ⟨rfl, (List.forall_mem_cons.2 ⟨rfl, (fun _ h => by cases h)⟩)⟩) rfl) ?_
 refine qI rfl (xM [(.int .i64 0), (.int .i64 0)] zr116 rfl hX0.pins (fun b4 w5 hk6 hb7 hp8 hl9 => ?_))
 have hX10 := hX0.step hp8 hl9
 have hpk11 := hpk.below hl9 hp8
 have ha16 := hpk.new (x := (some b4)) (fun k hk => by rw [(congrArg some hk6)] at hk; cases hk; exact Nat.le_refl _)
 have hlo17 : w.heap.size ≤ b4 := by have := hX0.size; omega
 refine q0 rfl rfl rfl (xZ (cs' := [(.int .i64 a), (.int .i64 b)]) (us := [(.int .i64 a), (.int .i64 b)]) (v := (.agg [(.int .i64 a), (.int .i64 b)].toArray)) sz116 rfl rfl rfl (ones2 (by rfl) (by rfl)) hX10.pins hb7 (Nat.le_of_ble_eq_true rfl) rfl (fun w18 hb19 hp20 hg21 hz22 => ?_))
 have hX23 := hX10.write hp20 hg21 ((xJ hlo17))
 have hpk24 := hpk11.kept hg21 hp20 ha16
 obtain ⟨G25, hle26, hX27, hbp28, hf29⟩ := hb19.shut hX23 hlo17
 have hpk30 := hpk24.more hle26 hf29 ha16
 refine qe (zB (zE (zE ?_)))
 refine xE (S := fun wz => BxR wz p [L, R, B, (.map (some mm.f)), (.map (some mm.o)), (.map (some mm.c)), (.map (some mm.s)), (.map (some mm.n))] ∧ Pins G25 wz) (last := 11) (by kernel_rfl) rfl ?_
 have hl31 : Below w18.heap.size w18 w18.drew := (Below.refl _ _).drew
 have hp32 := hX27.pins.below hl31
 have hX33 := hX27.step hp32 hl31
 have hpk34 := hpk30.below hl31 hp32
 refine dT (i := 0) rfl rfl (by kernel_rfl) (fun _ _ => zA (v := (.pointer (some ⟨p, 0, none⟩))) rfl) ⟨hpk34.bx.reads, hX33.pins⟩ ?_
 refine dT (i := 1) rfl rfl (by kernel_rfl) (fun _ _ => yP rfl) ⟨hpk34.bx.reads, hX33.pins⟩ ?_
 refine dT (i := 2) rfl rfl (by kernel_rfl) (fun _ _ => zM (k := 4) rfl Tryz.underlying74 rfl nz70 rfl) ⟨hpk34.bx.reads, hX33.pins⟩ ?_
 refine dT (i := 3) rfl rfl (by kernel_rfl) (fun _ hS => zO (u := (.map (some mm.o))) ag70 rfl (hS.1 4 _ rfl)) ⟨hpk34.bx.reads, hX33.pins⟩ ?_
 refine dT (i := 4) rfl rfl (by kernel_rfl) (fun _ hS => xQ (cs := [(.int .i64 a), (.int .i64 b)]) ag116 sz116 rfl (fun j u hj => hS.2 _ _ _ (hbp28 _ _ (by simpa using hj)))) ⟨hpk34.bx.reads, hX33.pins⟩ ?_
 refine zV (i := 5) (by kernel_rfl) (yC (i := 5) rfl rfl rfl (zG rfl _) (EO.run (run_lookv_bool (k := ((a, b) : Int × Int)) (key_pair Tryz.underlying116 Tryz.underlying3 sz3) Tryz.underlying70 zr4 hpk34.fo rfl rfl) ?_))
 refine ⟨fun _ => ⟨hpk34.bx.reads, hX33.pins⟩, ?_⟩
 refine dT (i := 6) rfl rfl (by kernel_rfl) (fun _ _ => zA (v := (.tuple #[(.bool ((Go.GL.look q.om ((a, b) : Int × Int)).getD false)), (.bool ((Go.GL.look q.om ((a, b) : Int × Int)).isSome))])) rfl) ⟨hpk34.bx.reads, hX33.pins⟩ ?_
 refine dT (i := 7) rfl rfl (by kernel_rfl) (fun _ _ => qA (v := (.bool ((Go.GL.look q.om ((a, b) : Int × Int)).getD false))) rfl rfl) ⟨hpk34.bx.reads, hX33.pins⟩ ?_
 refine dT (i := 8) rfl rfl (by kernel_rfl) (fun _ _ => qA (v := (.bool ((Go.GL.look q.om ((a, b) : Int × Int)).isSome))) rfl rfl) ⟨hpk34.bx.reads, hX33.pins⟩ ?_
 refine dT (i := 9) rfl rfl (by kernel_rfl) (fun _ _ => zD (v := (.bool ((Go.GL.look q.om ((a, b) : Int × Int)).getD false))) rfl) ⟨hpk34.bx.reads, hX33.pins⟩ ?_
 refine dT (i := 10) rfl rfl (by kernel_rfl) (fun _ _ => zD (v := (.bool ((Go.GL.look q.om ((a, b) : Int × Int)).isSome))) rfl) ⟨hpk34.bx.reads, hX33.pins⟩ ?_
 refine yT (by kernel_rfl) ?_
 refine zB (zE (zF ?_))
 refine qD rfl (zA (v := (.bool ((Go.GL.look q.om ((a, b) : Int × Int)).isSome))) rfl) ?_
 refine qe (zB ?_)
 refine c_if rfl rfl (fun h35 => ?_) (fun h35 => ?_)
 ·skip
  refine zE (zF ?_)
  refine qD rfl (zA (v := (.bool ((Go.GL.look q.om ((a, b) : Int × Int)).getD false))) rfl) ?_
  refine qD rfl (zD (v := (.bool ((Go.GL.look q.om ((a, b) : Int × Int)).getD false))) rfl) ?_
  refine qe (zB ?_)
  refine wp_ret ?_
  refine zW ?_
  refine zS (v := (.bool ((Go.GL.look q.om ((a, b) : Int × Int)).getD false))) rfl rfl rfl ?_
  obtain ⟨z, hz⟩ := Option.isSome_iff_exists.1 h35
  exact ⟨q, _, congrArg (fun z => Ending.returned (Value.bool z)) (by rw [hz]; exact (hok.ord _ _ _ hz).2.2), hpk34, hok, (PX.refl _), ⟨rfl, rfl⟩, hX33⟩
 refine wp_skip ?_
 refine zB (zE (zF ?_))
 refine qD rfl (zD (v := (.bool true)) rfl) ?_
 refine qe (zB (zE (zE (zF ?_))))
 refine qD rfl (zA (v := (.pointer (some ⟨p, 0, none⟩))) rfl) ?_
 refine qD rfl (yP rfl) ?_
 refine qD rfl (zM (k := 1) rfl Tryz.underlying74 rfl nz68 rfl) ?_
 refine qD rfl (zO (u := R) ag68 rfl (hpk34.bx.cell (o := 1) rfl)) ?_
 refine qD rfl (zA (v := (.int .i64 a)) rfl) ?_
 refine qD rfl (zJ Tryz.underlying68 sz67 (v := R) rfl rfl hpk34.rr.read (by omega) (by omega)) ?_
 obtain ⟨u36, hr37, hl38⟩ := nm_sl (hpk34.rr.at (z := a) (by omega) (by omega)) (j := (a).toNat) rfl
 rw [mapr_getD] at hr37
 have hm39 := hr37.max
 refine qD rfl (hl38 ag67 rfl (Gadd.pins hX33.pins R)) ?_
 refine qD rfl (zL Tryz.underlying67 (v := u36) rfl hr37) ?_
 refine qD rfl (zA (v := (.int .i64 0)) rfl) ?_
 refine qe (zB ?_)
 refine zZ ?_
 have lx44 : (q.ns.getD (a).toNat default).r = (q.ns.getD (a).toNat default).r := rfl
 refine yM (fun (k : Nat) (en : Nat → Value) (W : World) => ∃ (env1 : Nat → Value) (i : Nat) (q43 : PSt) (GLr : Pin), en = (upd (upd (upd (upd (upd (upd (upd (upd (upd env1 0 (.pointer (some ⟨p, 0, none⟩))) 1 (.int .i64 a)) 2 (.int .i64 b)) 6 (.bool false)) 7 (.pointer (some ⟨b4, 0, none⟩))) 10 (.bool true)) 38 u36) 39 (.int .i64 (((q.ns.getD (a).toNat default).r).length : Int))) 40 (.int .i64 (i : Int))) ∧ k = (q.ns.getD (a).toNat default).r.length - i ∧ Ext (inO (some mm.o)) G w GLr W ∧ Pin.le G25 GLr ∧ (i ≤ (q.ns.getD (a).toNat default).r.length) ∧ (∀ x, x < i → geB q.ns b ((q.ns.getD (a).toNat default).r.getD x 0) = false) ∧ (Pk 67 3 GLr W p L R B mm q43) ∧ (PoolOk q43) ∧ (PX q q43) ∧ (q43.ns = q.ns ∧ q43.bs = q.bs)) _ ⟨_, 0, q, G25, (zC (x := 40) (zC (x := 39) (zC (x := 38) (zC (x := 10) (zC (x := 7) (zC (x := 6) (zC (x := 2) (zC (x := 1) (zN (x := 0) rfl) rfl) rfl) rfl) rfl) rfl) rfl) rfl) rfl), rfl, hX33, Pin.le_refl _, Nat.zero_le _, (fun q hq => absurd hq (Nat.not_lt_zero q)), hpk34, hok, (PX.refl _), ⟨rfl, rfl⟩⟩ ?_
 rintro k45 _ w46 ⟨env1, i, q43, GLr, rfl, hk47, hX48, hlek45, hji, hpr, hpk49, hok50, hpx51, hqn52⟩
 have hql53 := hpx51.len
 have hml54 : (q43.ns.map Nd.l).length = q43.ns.length ∧ (q43.ns.map Nd.r).length = q43.ns.length := ⟨List.length_map .., List.length_map ..⟩
 have hml55 : q43.bs.length = q43.ns.length ∧ q43.ns.length ≤ 1048576 := ⟨hok50.ar.ok.len, hok50.ar.ok.lim⟩
 have hlnr := congrArg List.length lx44
 refine zE (zF ?_)
 refine qD rfl (yN rfl rfl) ?_
 refine qe (zB (zE ?_))
 refine yE (p := ((i : Int) : Int) < (((q.ns.getD (a).toNat default).r).length : Int)) rfl rfl (fun h56 => ?_) (fun h56 => ?_)
 ·skip
  have hki := (xD hok.ar.opts (show (a).toNat < q.ns.length by omega)).2 _ (yG (d := (0 : Int)) (show i < (q.ns.getD (a).toNat default).r.length by omega))
  rw [← lx44] at hki
  refine wp_skip ?_
  refine zB (zE ?_)
  refine zZ ?_
  refine zE (zF ?_)
  refine qD rfl (zJ Tryz.underlying67 sz3 (v := u36) rfl rfl hr37 (by omega) (by omega)) ?_
  refine qD rfl (zI (r := ((q.ns.getD (a).toNat default).r).getD i 0) rfl ag3 (z := (i : Int)) rfl hr37 (Pins.of_le hX48.pins hlek45) (by omega) (by omega)) ?_
  refine qD rfl (zD (v := (.int .i64 (((q.ns.getD (a).toNat default).r).getD i 0))) rfl) ?_
  refine qe (zB (zE (zF ?_)))
  refine qD rfl (zA (v := (.pointer (some ⟨p, 0, none⟩))) rfl) ?_
  refine qD rfl (zA (v := (.int .i64 b)) rfl) ?_
  refine qD rfl (zA (v := (.int .i64 (((q.ns.getD (a).toNat default).r).getD i 0))) rfl) ?_
  refine qI rfl (zP (vs := [(.pointer (some ⟨p, 0, none⟩)), (.int .i64 b), (.int .i64 (((q.ns.getD (a).toNat default).r).getD i 0))]) Tryz.func58 nm58 rfl rfl rfl ?_)
  refine Calls.mono (ih hX48.pins hpk49 hok50 ⟨by omega, by omega⟩ ⟨by omega, by omega⟩ (by omega)) ?_
  rintro _ w59 ⟨q57, G58, rfl, hpk60, hok61, hpx62, hqn63, hx64⟩
  refine ⟨_, rfl, ?_⟩
  have hX65 := hX48.trans hx64 (fun i hi => xP i hi)
  have hql66 := hpx62.len
  have hml67 : (q57.ns.map Nd.l).length = q57.ns.length ∧ (q57.ns.map Nd.r).length = q57.ns.length := ⟨List.length_map .., List.length_map ..⟩
  have hml68 : q57.bs.length = q57.ns.length ∧ q57.ns.length ≤ 1048576 := ⟨hok61.ar.ok.len, hok61.ar.ok.lim⟩
  have hql69 := congrArg List.length hqn63.1
  refine qe (zB ?_)
  refine c_if rfl rfl (fun h70 => ?_) (fun h70 => ?_)
  ·skip
   refine zE (zF ?_)
   refine qD rfl (zD (v := (.bool false)) rfl) ?_
   refine qe (zB ?_)
   refine wp_exit ?_
   refine s_blkO rfl ?_
   refine zX ?_
   refine yL ?_
   refine yF ?_
   refine zB (zE (zE (zF ?_)))
   refine qD rfl (zA (v := (.bool false)) rfl) ?_
   refine qe (zB ?_)
   refine qE rfl rfl ?_
   refine wp_skip ?_
   refine zB (zE ?_)
   refine xE (S := fun wz => BxR wz p [L, R, B, (.map (some mm.f)), (.map (some mm.o)), (.map (some mm.c)), (.map (some mm.s)), (.map (some mm.n))] ∧ Pins G58 wz) (last := 6) (by kernel_rfl) rfl ?_
   have hl71 : Below w59.heap.size w59 w59.drew := (Below.refl _ _).drew
   have hp72 := hX65.pins.below hl71
   have hX73 := hX65.step hp72 hl71
   have hpk74 := hpk60.below hl71 hp72
   refine dT (i := 0) rfl rfl (by kernel_rfl) (fun _ _ => zA (v := (.pointer (some ⟨p, 0, none⟩))) rfl) ⟨hpk74.bx.reads, hX73.pins⟩ ?_
   refine dT (i := 1) rfl rfl (by kernel_rfl) (fun _ _ => yP rfl) ⟨hpk74.bx.reads, hX73.pins⟩ ?_
   refine dT (i := 2) rfl rfl (by kernel_rfl) (fun _ _ => zM (k := 4) rfl Tryz.underlying74 rfl nz70 rfl) ⟨hpk74.bx.reads, hX73.pins⟩ ?_
   refine dT (i := 3) rfl rfl (by kernel_rfl) (fun _ hS => zO (u := (.map (some mm.o))) ag70 rfl (hS.1 4 _ rfl)) ⟨hpk74.bx.reads, hX73.pins⟩ ?_
   refine dT (i := 4) rfl rfl (by kernel_rfl) (fun _ hS => xQ (cs := [(.int .i64 a), (.int .i64 b)]) ag116 sz116 rfl (fun j u hj => (Pins.of_le hS.2 (Pin.le_trans hlek45 hx64.le)) _ _ _ (hbp28 _ _ (by simpa using hj)))) ⟨hpk74.bx.reads, hX73.pins⟩ ?_
   refine dT (i := 5) rfl rfl (by kernel_rfl) (fun _ _ => zA (v := (.bool false)) rfl) ⟨hpk74.bx.reads, hX73.pins⟩ ?_
   refine zV (i := 6) (by kernel_rfl) (drOp0 (i := 6) rfl rfl rfl (zG rfl _) (xV (val := (fun v : Bool => Value.bool v)) (k := ((a, b) : Int × Int)) (v := false) (key_pair Tryz.underlying116 Tryz.underlying3 sz3) Tryz.underlying70 rfl rfl rfl hX73.pins hpk74.fo (fun w75 hm76 hp77 hg78 hz79 => ?_)))
   have hX81 := hX73.trans (Ext.one hp77 hg78) (fun i hi => xP i hi)
   have hpk80 := hpk74.setO (Ext.one hp77 hg78) hm76
   have hgv : geB q.ns a b = false := geB_no_right hok.ar.opts ha (i := i) (by omega) (by rw [← lx44, ← xN hqn52]; exact h70)
   have hok84 := PoolOk.setO hok61 (ha.same (zT hqn52 hqn63)) (hb.same (zT hqn52 hqn63)) (setO_ok (zT hqn52 hqn63) hgv)
   obtain ⟨q82, hq83⟩ : ∃ q, q = ({ q57 with om := putE q57.om ((a, b) : Int × Int) false } : PSt) := ⟨_, rfl⟩
   rw [← hq83] at hpk80 hok84
   have hq83n : q82.ns = q57.ns ∧ q82.bs = q57.bs := by rw [hq83]; exact ⟨rfl, rfl⟩
   have hq83x : PX q57 q82 := by rw [hq83]; exact ⟨Nat.le_refl _, fun _ _ => rfl, fun _ h => h⟩
   have hml85 : (q82.ns.map Nd.l).length = q82.ns.length ∧ (q82.ns.map Nd.r).length = q82.ns.length := ⟨List.length_map .., List.length_map ..⟩
   have hml86 : q82.bs.length = q82.ns.length ∧ q82.ns.length ≤ 1048576 := ⟨hok84.ar.ok.len, hok84.ar.ok.lim⟩
   have hql87 := hq83x.len
   refine ⟨fun h => absurd rfl h, ?_⟩
   refine yT (by kernel_rfl) ?_
   refine zB (zE (zF ?_))
   refine qD rfl (zA (v := (.bool false)) rfl) ?_
   refine qD rfl (zD (v := (.bool false)) rfl) ?_
   refine qe (zB ?_)
   refine wp_ret ?_
   refine zW ?_
   refine zS (v := (.bool false)) rfl rfl rfl ?_
   exact ⟨q82, _, congrArg (fun z => Ending.returned (Value.bool z)) (hgv.symm), hpk80, hok84, (PX.trans (PX.trans hpx51 hpx62) hq83x), (zT (zT hqn52 hqn63) hq83n), hX81⟩
  refine wp_skip ?_
  refine yA ?_
  refine zB (zF ?_)
  refine qD rfl (yJ rfl rfl (by omega)) ?_
  refine qD rfl (zA (v := (.int .i64 ((i : Int) + 1))) rfl) ?_
  refine qe ?_
  refine zY ?_
  refine ⟨_, ?_, _, rfl, _, i + 1, q57, G58, (zC (x := 40) (zC (x := 39) (zC (x := 38) (zC (x := 10) (zC (x := 7) (zC (x := 6) (zC (x := 2) (zC (x := 1) (zN (x := 0) rfl) rfl) rfl) rfl) rfl) rfl) rfl) rfl) rfl), rfl, hX65, (Pin.le_trans hlek45 hx64.le), (by omega), (fun x h2 => if h3 : x = i then h3 ▸ (by rw [← lx44, ← xN hqn52]; exact h70) else hpr x (by omega)), hpk60, hok61, (PX.trans hpx51 hpx62), (zT hqn52 hqn63)⟩
  omega
 refine wp_exit ?_
 refine zX ?_
 refine yL ?_
 refine yF ?_
 refine zB (zE (zE (zF ?_)))
 refine qD rfl (zA (v := (.bool true)) rfl) ?_
 refine qe (zB ?_)
 refine c_ifT rfl rfl ?_
 refine zE (zF ?_)
 refine qD rfl (zA (v := (.pointer (some ⟨p, 0, none⟩))) rfl) ?_
 refine qD rfl (yP rfl) ?_
 refine qD rfl (zM (k := 0) rfl Tryz.underlying74 rfl nz68 rfl) ?_
 refine qD rfl (zO (u := L) ag68 rfl (hpk49.bx.cell (o := 0) rfl)) ?_
 refine qD rfl (zA (v := (.int .i64 b)) rfl) ?_
 refine qD rfl (zJ Tryz.underlying68 sz67 (v := L) rfl rfl hpk49.ol.read (by omega) (by omega)) ?_
 obtain ⟨u88, hr89, hl90⟩ := nm_sl (hpk49.ol.at (z := b) (by omega) (by omega)) (j := (b).toNat) rfl
 rw [mapl_getD] at hr89
 have hm91 := hr89.max
 refine qD rfl (hl90 ag67 rfl (Gadd.pins hX48.pins L)) ?_
 refine qD rfl (zL Tryz.underlying67 (v := u88) rfl hr89) ?_
 refine qD rfl (zA (v := (.int .i64 0)) rfl) ?_
 refine qe (zB ?_)
 refine zZ ?_
 have lx96 : (q43.ns.getD (b).toNat default).l = (q.ns.getD (b).toNat default).l := by rw [hqn52.1]
 refine yM (fun (k : Nat) (en : Nat → Value) (W : World) => ∃ (env1 : Nat → Value) (i2 : Nat) (q95 : PSt) (GLl : Pin), en = (upd (upd (upd (upd (upd (upd (upd (upd env1 0 (.pointer (some ⟨p, 0, none⟩))) 1 (.int .i64 a)) 6 (.bool false)) 7 (.pointer (some ⟨b4, 0, none⟩))) 10 (.bool true)) 56 u88) 57 (.int .i64 (((q43.ns.getD (b).toNat default).l).length : Int))) 58 (.int .i64 (i2 : Int))) ∧ k = (q.ns.getD (b).toNat default).l.length - i2 ∧ Ext (inO (some mm.o)) G w GLl W ∧ Pin.le GLr GLl ∧ (i2 ≤ (q.ns.getD (b).toNat default).l.length) ∧ (∀ x, x < i2 → geB q.ns ((q.ns.getD (b).toNat default).l.getD x 0) a = false) ∧ (Pk 67 3 GLl W p L R B mm q95) ∧ (PoolOk q95) ∧ (PX q43 q95) ∧ (q95.ns = q43.ns ∧ q95.bs = q43.bs)) _ ⟨_, 0, q43, GLr, (zC (x := 58) (zC (x := 57) (zC (x := 56) (zC (x := 10) (zC (x := 7) (zC (x := 6) (zC (x := 1) (zN (x := 0) rfl) rfl) rfl) rfl) rfl) rfl) rfl) rfl), rfl, hX48, Pin.le_refl _, Nat.zero_le _, (fun q hq => absurd hq (Nat.not_lt_zero q)), hpk49, hok50, (PX.refl _), ⟨rfl, rfl⟩⟩ ?_
 rintro k97 _ w98 ⟨env1, i2, q95, GLl, rfl, hk99, hX100, hlek97, hji2, hpl, hpk101, hok102, hpx103, hqn104⟩
 have hql105 := hpx103.len
 have hml106 : (q95.ns.map Nd.l).length = q95.ns.length ∧ (q95.ns.map Nd.r).length = q95.ns.length := ⟨List.length_map .., List.length_map ..⟩
 have hml107 : q95.bs.length = q95.ns.length ∧ q95.ns.length ≤ 1048576 := ⟨hok102.ar.ok.len, hok102.ar.ok.lim⟩
 have hlnl := congrArg List.length lx96
 refine zE (zF ?_)
 refine qD rfl (yN rfl rfl) ?_
 refine qe (zB (zE ?_))
 refine yE (p := ((i2 : Int) : Int) < (((q43.ns.getD (b).toNat default).l).length : Int)) rfl rfl (fun h108 => ?_) (fun h108 => ?_)
 ·skip
  have hki := (xD hok.ar.opts (show (b).toNat < q.ns.length by omega)).1 _ (yG (d := (0 : Int)) (show i2 < (q.ns.getD (b).toNat default).l.length by omega))
  rw [← lx96] at hki
  refine wp_skip ?_
  refine zB (zE ?_)
  refine zZ ?_
  refine zE (zF ?_)
  refine qD rfl (zJ Tryz.underlying67 sz3 (v := u88) rfl rfl hr89 (by omega) (by omega)) ?_
  refine qD rfl (zI (r := ((q43.ns.getD (b).toNat default).l).getD i2 0) rfl ag3 (z := (i2 : Int)) rfl hr89 (Pins.of_le hX100.pins hlek97) (by omega) (by omega)) ?_
  refine qD rfl (zD (v := (.int .i64 (((q43.ns.getD (b).toNat default).l).getD i2 0))) rfl) ?_
  refine qe (zB (zE (zF ?_)))
  refine qD rfl (zA (v := (.pointer (some ⟨p, 0, none⟩))) rfl) ?_
  refine qD rfl (zA (v := (.int .i64 (((q43.ns.getD (b).toNat default).l).getD i2 0))) rfl) ?_
  refine qD rfl (zA (v := (.int .i64 a)) rfl) ?_
  refine qI rfl (zP (vs := [(.pointer (some ⟨p, 0, none⟩)), (.int .i64 (((q43.ns.getD (b).toNat default).l).getD i2 0)), (.int .i64 a)]) Tryz.func58 nm58 rfl rfl rfl ?_)
  refine Calls.mono (ih hX100.pins hpk101 hok102 ⟨by omega, by omega⟩ ⟨by omega, by omega⟩ (by omega)) ?_
  rintro _ w111 ⟨q109, G110, rfl, hpk112, hok113, hpx114, hqn115, hx116⟩
  refine ⟨_, rfl, ?_⟩
  have hX117 := hX100.trans hx116 (fun i hi => xP i hi)
  have hql118 := hpx114.len
  have hml119 : (q109.ns.map Nd.l).length = q109.ns.length ∧ (q109.ns.map Nd.r).length = q109.ns.length := ⟨List.length_map .., List.length_map ..⟩
  have hml120 : q109.bs.length = q109.ns.length ∧ q109.ns.length ≤ 1048576 := ⟨hok113.ar.ok.len, hok113.ar.ok.lim⟩
  have hql121 := congrArg List.length hqn115.1
  refine qe (zB ?_)
  refine c_if rfl rfl (fun h122 => ?_) (fun h122 => ?_)
  ·skip
   refine zE (zF ?_)
   refine qD rfl (zD (v := (.bool false)) rfl) ?_
   refine qe (zB ?_)
   refine wp_exit ?_
   refine s_blkO rfl ?_
   refine zX ?_
   refine yL ?_
   refine yF ?_
   refine zB (zE ?_)
   refine xE (S := fun wz => BxR wz p [L, R, B, (.map (some mm.f)), (.map (some mm.o)), (.map (some mm.c)), (.map (some mm.s)), (.map (some mm.n))] ∧ Pins G110 wz) (last := 6) (by kernel_rfl) rfl ?_
   have hl123 : Below w111.heap.size w111 w111.drew := (Below.refl _ _).drew
   have hp124 := hX117.pins.below hl123
   have hX125 := hX117.step hp124 hl123
   have hpk126 := hpk112.below hl123 hp124
   refine dT (i := 0) rfl rfl (by kernel_rfl) (fun _ _ => zA (v := (.pointer (some ⟨p, 0, none⟩))) rfl) ⟨hpk126.bx.reads, hX125.pins⟩ ?_
   refine dT (i := 1) rfl rfl (by kernel_rfl) (fun _ _ => yP rfl) ⟨hpk126.bx.reads, hX125.pins⟩ ?_
   refine dT (i := 2) rfl rfl (by kernel_rfl) (fun _ _ => zM (k := 4) rfl Tryz.underlying74 rfl nz70 rfl) ⟨hpk126.bx.reads, hX125.pins⟩ ?_
   refine dT (i := 3) rfl rfl (by kernel_rfl) (fun _ hS => zO (u := (.map (some mm.o))) ag70 rfl (hS.1 4 _ rfl)) ⟨hpk126.bx.reads, hX125.pins⟩ ?_
   refine dT (i := 4) rfl rfl (by kernel_rfl) (fun _ hS => xQ (cs := [(.int .i64 a), (.int .i64 b)]) ag116 sz116 rfl (fun j u hj => (Pins.of_le hS.2 (Pin.le_trans (Pin.le_trans hlek45 hlek97) hx116.le)) _ _ _ (hbp28 _ _ (by simpa using hj)))) ⟨hpk126.bx.reads, hX125.pins⟩ ?_
   refine dT (i := 5) rfl rfl (by kernel_rfl) (fun _ _ => zA (v := (.bool false)) rfl) ⟨hpk126.bx.reads, hX125.pins⟩ ?_
   refine zV (i := 6) (by kernel_rfl) (drOp0 (i := 6) rfl rfl rfl (zG rfl _) (xV (val := (fun v : Bool => Value.bool v)) (k := ((a, b) : Int × Int)) (v := false) (key_pair Tryz.underlying116 Tryz.underlying3 sz3) Tryz.underlying70 rfl rfl rfl hX125.pins hpk126.fo (fun w127 hm128 hp129 hg130 hz131 => ?_)))
   have hX133 := hX125.trans (Ext.one hp129 hg130) (fun i hi => xP i hi)
   have hpk132 := hpk126.setO (Ext.one hp129 hg130) hm128
   have hgv : geB q.ns a b = false := geB_no_left hok.ar.opts hb (i := i2) (by omega) (by rw [← lx96, ← xN (zT hqn52 hqn104)]; exact h122)
   have hok136 := PoolOk.setO hok113 (ha.same (zT (zT hqn52 hqn104) hqn115)) (hb.same (zT (zT hqn52 hqn104) hqn115)) (setO_ok (zT (zT hqn52 hqn104) hqn115) hgv)
   obtain ⟨q134, hq135⟩ : ∃ q, q = ({ q109 with om := putE q109.om ((a, b) : Int × Int) false } : PSt) := ⟨_, rfl⟩
   rw [← hq135] at hpk132 hok136
   have hq135n : q134.ns = q109.ns ∧ q134.bs = q109.bs := by rw [hq135]; exact ⟨rfl, rfl⟩
   have hq135x : PX q109 q134 := by rw [hq135]; exact ⟨Nat.le_refl _, fun _ _ => rfl, fun _ h => h⟩
   have hml137 : (q134.ns.map Nd.l).length = q134.ns.length ∧ (q134.ns.map Nd.r).length = q134.ns.length := ⟨List.length_map .., List.length_map ..⟩
   have hml138 : q134.bs.length = q134.ns.length ∧ q134.ns.length ≤ 1048576 := ⟨hok136.ar.ok.len, hok136.ar.ok.lim⟩
   have hql139 := hq135x.len
   refine ⟨fun h => absurd rfl h, ?_⟩
   refine yT (by kernel_rfl) ?_
   refine zB (zE (zF ?_))
   refine qD rfl (zA (v := (.bool false)) rfl) ?_
   refine qD rfl (zD (v := (.bool false)) rfl) ?_
   refine qe (zB ?_)
   refine wp_ret ?_
   refine zW ?_
   refine zS (v := (.bool false)) rfl rfl rfl ?_
   exact ⟨q134, _, congrArg (fun z => Ending.returned (Value.bool z)) (hgv.symm), hpk132, hok136, (PX.trans (PX.trans (PX.trans hpx51 hpx103) hpx114) hq135x), (zT (zT (zT hqn52 hqn104) hqn115) hq135n), hX133⟩
  refine wp_skip ?_
  refine yA ?_
  refine zB (zF ?_)
  refine qD rfl (yJ rfl rfl (by omega)) ?_
  refine qD rfl (zA (v := (.int .i64 ((i2 : Int) + 1))) rfl) ?_
  refine qe ?_
  refine zY ?_
  refine ⟨_, ?_, _, rfl, _, i2 + 1, q109, G110, (zC (x := 58) (zC (x := 57) (zC (x := 56) (zC (x := 10) (zC (x := 7) (zC (x := 6) (zC (x := 1) (zN (x := 0) rfl) rfl) rfl) rfl) rfl) rfl) rfl) rfl), rfl, hX117, (Pin.le_trans hlek97 hx116.le), (by omega), (fun x h2 => if h3 : x = i2 then h3 ▸ (by rw [← lx96, ← xN (zT hqn52 hqn104)]; exact h122) else hpl x (by omega)), hpk112, hok113, (PX.trans hpx103 hpx114), (zT hqn104 hqn115)⟩
  omega
 refine wp_exit ?_
 refine zX ?_
 refine yL ?_
 refine yF ?_
 refine zB (zE ?_)
 refine xE (S := fun wz => BxR wz p [L, R, B, (.map (some mm.f)), (.map (some mm.o)), (.map (some mm.c)), (.map (some mm.s)), (.map (some mm.n))] ∧ Pins GLl wz) (last := 6) (by kernel_rfl) rfl ?_
 have hl140 : Below w98.heap.size w98 w98.drew := (Below.refl _ _).drew
 have hp141 := hX100.pins.below hl140
 have hX142 := hX100.step hp141 hl140
 have hpk143 := hpk101.below hl140 hp141
 refine dT (i := 0) rfl rfl (by kernel_rfl) (fun _ _ => zA (v := (.pointer (some ⟨p, 0, none⟩))) rfl) ⟨hpk143.bx.reads, hX142.pins⟩ ?_
 refine dT (i := 1) rfl rfl (by kernel_rfl) (fun _ _ => yP rfl) ⟨hpk143.bx.reads, hX142.pins⟩ ?_
 refine dT (i := 2) rfl rfl (by kernel_rfl) (fun _ _ => zM (k := 4) rfl Tryz.underlying74 rfl nz70 rfl) ⟨hpk143.bx.reads, hX142.pins⟩ ?_
 refine dT (i := 3) rfl rfl (by kernel_rfl) (fun _ hS => zO (u := (.map (some mm.o))) ag70 rfl (hS.1 4 _ rfl)) ⟨hpk143.bx.reads, hX142.pins⟩ ?_
 refine dT (i := 4) rfl rfl (by kernel_rfl) (fun _ hS => xQ (cs := [(.int .i64 a), (.int .i64 b)]) ag116 sz116 rfl (fun j u hj => (Pins.of_le hS.2 (Pin.le_trans hlek45 hlek97)) _ _ _ (hbp28 _ _ (by simpa using hj)))) ⟨hpk143.bx.reads, hX142.pins⟩ ?_
 refine dT (i := 5) rfl rfl (by kernel_rfl) (fun _ _ => zA (v := (.bool true)) rfl) ⟨hpk143.bx.reads, hX142.pins⟩ ?_
 refine zV (i := 6) (by kernel_rfl) (drOp0 (i := 6) rfl rfl rfl (zG rfl _) (xV (val := (fun v : Bool => Value.bool v)) (k := ((a, b) : Int × Int)) (v := true) (key_pair Tryz.underlying116 Tryz.underlying3 sz3) Tryz.underlying70 rfl rfl rfl hX142.pins hpk143.fo (fun w144 hm145 hp146 hg147 hz148 => ?_)))
 have hX150 := hX142.trans (Ext.one hp146 hg147) (fun i hi => xP i hi)
 have hpk149 := hpk143.setO (Ext.one hp146 hg147) hm145
 have hgv : geB q.ns a b = true := geB_yes hok.ar.opts ha hb (fun i hi => hpr i (by omega)) (fun i hi => hpl i (by omega))
 have hok153 := PoolOk.setO hok102 (ha.same (zT hqn52 hqn104)) (hb.same (zT hqn52 hqn104)) (setO_ok (zT hqn52 hqn104) hgv)
 obtain ⟨q151, hq152⟩ : ∃ q, q = ({ q95 with om := putE q95.om ((a, b) : Int × Int) true } : PSt) := ⟨_, rfl⟩
 rw [← hq152] at hpk149 hok153
 have hq152n : q151.ns = q95.ns ∧ q151.bs = q95.bs := by rw [hq152]; exact ⟨rfl, rfl⟩
 have hq152x : PX q95 q151 := by rw [hq152]; exact ⟨Nat.le_refl _, fun _ _ => rfl, fun _ h => h⟩
 have hml154 : (q151.ns.map Nd.l).length = q151.ns.length ∧ (q151.ns.map Nd.r).length = q151.ns.length := ⟨List.length_map .., List.length_map ..⟩
 have hml155 : q151.bs.length = q151.ns.length ∧ q151.ns.length ≤ 1048576 := ⟨hok153.ar.ok.len, hok153.ar.ok.lim⟩
 have hql156 := hq152x.len
 refine ⟨fun h => absurd rfl h, ?_⟩
 refine yT (by kernel_rfl) ?_
 refine zB (zE (zF ?_))
 refine qD rfl (zA (v := (.bool true)) rfl) ?_
 refine qD rfl (zD (v := (.bool true)) rfl) ?_
 refine qe (zB ?_)
 refine wp_ret ?_
 refine zW ?_
 refine zS (v := (.bool true)) rfl rfl rfl ?_
 exact ⟨q151, _, congrArg (fun z => Ending.returned (Value.bool z)) (hgv.symm), hpk149, hok153, (PX.trans (PX.trans hpx51 hpx103) hq152x), (zT (zT hqn52 hqn104) hq152n), hX150⟩

theorem geP_all {p : Nat} {L R B : Value} {mm : PM} : ∀ m, GeP m p L R B mm
 | 0 => fun _ _ _ _ _ h => absurd h (Nat.not_lt_zero _)
 | m + 1 => fun hP hpk hok ha hb hm => ge_step hP hpk hok ha hb (geP_all m) hm
theorem ge_spec {p : Nat} {L R B : Value} {mm : PM} {w : World} {G : Pin} {q : PSt} {a b : Int} (hP : Pins G w) (hpk : Pk 67 3 G w p L R B mm q) (hok : PoolOk q) (ha : PlaceOk q a) (hb : PlaceOk q b) :
  Calls Tryz.prog 58 [(.pointer (some ⟨p, 0, none⟩)), (.int .i64 a), (.int .i64 b)].toArray w fun e w' => ∃ (q' : PSt) (G' : Pin), e = .returned (.bool (geB q.ns a b)) ∧ Pk 67 3 G' w' p L R B mm q' ∧ PoolOk q' ∧ PX q q' ∧ (q'.ns = q.ns ∧ q'.bs = q.bs) ∧ Ext (inO (some mm.o)) G w G' w' :=
 geP_all _ hP hpk hok ha hb (Nat.lt_succ_self _)

end PL1
end Go.Proofs.YtpknebplcmgnkaaGreatDoor
