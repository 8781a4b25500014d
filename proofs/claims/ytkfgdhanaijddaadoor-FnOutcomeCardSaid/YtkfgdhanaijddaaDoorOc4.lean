/- Texts of this claim in one file: C1, D1, E1, K1. -/
import Derived.Test.YtkfgdhanaijddaaDoorOc3
import Derived.Test.YtkfgdhanaijddaaDoorChecked
set_option maxRecDepth 20000
set_option maxHeartbeats 2000000
namespace Go.Proofs.YtkfgdhanaijddaaDoor
namespace C1
open Go.RowKit Go.GL Go.Proofs
open Go.Proofs.YtkfgdhanaijddaaDoor.B1











theorem l1In_spec {w : World} {G : Pin} {x a b : Int} (hP : Pins G w) :
  Calls Tryd.prog 68 [(.int .i64 x), (.int .i64 a), (.int .i64 b)].toArray w fun e w' => e = .returned (.bool (decide (a ≤ x ∧ x ≤ b))) ∧ w' = w := by
 refine zV (n := 15) Tryd.func68 Tryd.ntmps68 rfl rfl ?_
 have hX0 : Ext noS G w G w := Ext.refl hP
 refine zB (zC ?_)
 refine qM (.bool false) ?_
 refine qe (zA (zB (zC ?_)))
 refine qM (.int .i64 x) ?_
 refine qM (.int .i64 a) ?_
 refine qD rfl (r_geq rfl rfl) ?_
 refine qM (.bool (decide ((a : Int) ≤ x))) ?_
 refine qbd (p := (a : Int) ≤ x) (t := 10) rfl (fun h1 => ?_) (fun h1 => ?_)
 ·skip
  refine qN (zR (v := (.int .i64 x)) rfl) ?_
  refine qN (zR (v := (.int .i64 b)) rfl) ?_
  refine qN (r_leq rfl rfl) ?_
  refine qD rfl (yT (v := (.bool (decide ((x : Int) ≤ b)))) rfl rfl) ?_
  refine qM (.bool (decide ((x : Int) ≤ b))) ?_
  refine qe (zA ?_)
  refine wp_ret ?_
  refine zP ?_
  refine zM (v := (.bool (decide ((x : Int) ≤ b)))) rfl rfl rfl ?_
  exact ⟨congrArg (fun z => Ending.returned (Value.bool z)) (decide_eq_decide.2 (by omega)), rfl⟩
 refine qW ?_
 refine qW ?_
 refine qW ?_
 refine qD rfl (yO (v := (.bool false)) rfl rfl) ?_
 refine qM (.bool false) ?_
 refine qe (zA ?_)
 refine wp_ret ?_
 refine zP ?_
 refine zM (v := (.bool false)) rfl rfl rfl ?_
 exact ⟨congrArg (fun z => Ending.returned (Value.bool z)) ((decide_eq_false (by omega)).symm), rfl⟩

theorem l1Most_spec {w : World} {G : Pin} {x y : Int} (hP : Pins G w) :
  Calls Tryd.prog 78 [(.int .i64 x), (.int .i64 y)].toArray w fun e w' => e = .returned (.int .i64 (max x y)) ∧ w' = w := by
 refine zV (n := 10) Tryd.func78 Tryd.ntmps78 rfl rfl ?_
 have hX0 : Ext noS G w G w := Ext.refl hP
 refine zB (zC ?_)
 refine qM (.int .i64 0) ?_
 refine qe (zA (zB (zB (zC ?_))))
 refine qM (.int .i64 x) ?_
 refine qM (.int .i64 y) ?_
 refine qD rfl (r_gtr rfl rfl) ?_
 refine qe (zA ?_)
 refine yA (p := (y : Int) < x) rfl rfl (fun h1 => ?_) (fun h1 => ?_)
 ·skip
  refine zB (zC ?_)
  refine qM (.int .i64 x) ?_
  refine qM (.int .i64 x) ?_
  refine qe (zA ?_)
  refine wp_ret ?_
  refine zP ?_
  refine zM (v := (.int .i64 x)) rfl rfl rfl ?_
  exact ⟨congrArg (fun z => Ending.returned (Value.int .i64 z)) (by omega), rfl⟩
 refine wp_skip ?_
 refine zA (zB (zC ?_))
 refine qM (.int .i64 y) ?_
 refine qM (.int .i64 y) ?_
 refine qe (zA ?_)
 refine wp_ret ?_
 refine zP ?_
 refine zM (v := (.int .i64 y)) rfl rfl rfl ?_
 exact ⟨congrArg (fun z => Ending.returned (Value.int .i64 z)) (by omega), rfl⟩

theorem l1Rising_spec {w : World} {G : Pin} {v : Value} {xs : List Int} {lo hi : Int} (hP : Pins G w) (hv : RSl eInt G v xs) :
  Calls Tryd.prog 50 [v, (vJ lo), (vJ hi)].toArray w fun e w' => e = .returned (.bool (decP (Rise xs lo hi))) ∧ Ext noS G w G w' := by
 refine zV (n := 38) Tryd.func50 Tryd.ntmps50 rfl rfl ?_
 have h : Ext noS G w G w := Ext.refl hP
 have hm := hv.max
 refine zB (zC ?_)
 refine qM (.bool false) ?_
 refine qe (zA (zB (zB (zC ?_))))
 refine qM (vJ 0) ?_
 refine qe (zA ?_)
 refine zW ?_
 refine yL (fun (k : Nat) (en : Nat → Value) (W : World) => ∃ (f : Nat → Value) (j : Nat), en = (upd (upd (upd (upd f 0 v) 1 (vJ lo)) 2 (vJ hi)) 7 (vJ (j : Int))) ∧ k = xs.length - j ∧ Ext noS G w G W ∧ (j ≤ xs.length) ∧ (∀ i, i < j → (lo ≤ xs.getD i 0 ∧ xs.getD i 0 ≤ hi) ∧ (0 < i → xs.getD (i - 1) 0 < xs.getD i 0))) _ ⟨_, 0, (pS 7 (pS 2 (pS 1 (pU 0)))), rfl, h, Nat.zero_le _, (fun i hi => absurd hi (Nat.not_lt_zero i))⟩ ?_
 rintro u _ c ⟨f, j, rfl, x, d, hj, hp⟩
 refine zB (zB (zC ?_))
 refine qM (vJ (j : Int)) ?_
 refine qM v ?_
 refine qD rfl (zO Tryd.underlying40 (v := v) rfl hv) ?_
 refine qD rfl (yU rfl rfl) ?_
 refine qe (zA ?_)
 refine yA (p := ((j : Int) : Int) < (xs.length : Int)) rfl rfl (fun l => ?_) (fun l => ?_)
 ·skip
  refine wp_skip ?_
  refine zA (zB ?_)
  refine zW ?_
  refine zB ?_
  refine xE (S := fun wz => Pins G wz) (last := 24) (by kernel_rfl) rfl ?_
  have g : Below c.heap.size c c.drew := (Below.refl _ _).drew
  have m := d.pins.below g
  have a := d.step m g
  refine dM 0 v a.pins ?_
  refine dM 1 (vJ (j : Int)) a.pins ?_
  refine dT (i := 2) rfl rfl (by kernel_rfl) (fun _ _ => zH Tryd.underlying40 sz3 (v := v) rfl rfl hv (by omega) (by omega)) a.pins ?_
  refine dT (i := 3) rfl rfl (by kernel_rfl) (fun _ hS => zK (r := xs.getD j 0) rfl ag3 (z := (j : Int)) rfl hv hS (by omega) (by omega)) a.pins ?_
  refine dM 4 (vJ lo) a.pins ?_
  refine dM 5 (vJ hi) a.pins ?_
  refine dO (i := 6) (zS (i := 6) rfl rfl rfl (zD rfl _) (zL (vs := [(vJ (xs.getD j 0)), (vJ lo), (vJ hi)]) Tryd.func68 nm68 rfl rfl rfl ?_))
  refine Calls.mono (l1In_spec a.pins) ?_
  rintro _ _ ⟨rfl, rfl⟩
  refine ⟨_, rfl, ?_⟩
  refine ⟨fun _ => a.pins, ?_⟩
  refine dT (i := 7) rfl rfl (by kernel_rfl) (fun _ _ => xW rfl) a.pins ?_
  refine dM 8 (.bool (!(decide ((lo : Int) ≤ (xs.getD j 0) ∧ (xs.getD j 0 : Int) ≤ hi)))) a.pins ?_
  refine drbn (t := 22) rfl (fun b => ?_) (fun b => ?_)
  ·skip
   replace b := of_decide_eq_true b
   refine yW (i := 9) rfl rfl rfl (yI rfl rfl rfl rfl) (by kernel_rfl) (fun _ _ => zR (v := (vJ (j : Int))) rfl) a.pins ?_
   refine yW (i := 10) rfl rfl rfl (yI rfl rfl rfl rfl) (by kernel_rfl) (fun _ _ => r_gtr rfl rfl) a.pins ?_
   refine yW (i := 11) rfl rfl rfl (yI rfl rfl rfl rfl) (by kernel_rfl) (fun _ _ => zR (v := (.bool (decide ((0 : Int) < (j : Int))))) rfl) a.pins ?_
   refine drbd (p := (0 : Int) < (j : Int)) (t := 25) rfl (fun o => ?_) (fun o => ?_)
   ·skip
    refine yW (i := 12) rfl rfl rfl (yI rfl rfl rfl rfl) (by kernel_rfl) (fun _ _ => zR (v := v) rfl) a.pins ?_
    refine yW (i := 13) rfl rfl rfl (yI rfl rfl rfl rfl) (by kernel_rfl) (fun _ _ => zR (v := (vJ (j : Int))) rfl) a.pins ?_
    refine yW (i := 14) rfl rfl rfl (yI rfl rfl rfl rfl) (by kernel_rfl) (fun _ _ => xZ rfl rfl (by omega)) a.pins ?_
    refine yW (i := 15) rfl rfl rfl (yI rfl rfl rfl rfl) (by kernel_rfl) (fun _ _ => zH Tryd.underlying40 sz3 (v := v) rfl rfl hv (by omega) (by omega)) a.pins ?_
    refine yW (i := 16) rfl rfl rfl (yI rfl rfl rfl rfl) (by kernel_rfl) (fun _ hS => zK (r := xs.getD ((j : Int) - 1).toNat 0) rfl ag3 (z := ((j : Int) - 1)) rfl hv hS (by omega) (by omega)) a.pins ?_
    refine yW (i := 17) rfl rfl rfl (yI rfl rfl rfl rfl) (by kernel_rfl) (fun _ _ => zR (v := v) rfl) a.pins ?_
    refine yW (i := 18) rfl rfl rfl (yI rfl rfl rfl rfl) (by kernel_rfl) (fun _ _ => zR (v := (vJ (j : Int))) rfl) a.pins ?_
    refine yW (i := 19) rfl rfl rfl (yI rfl rfl rfl rfl) (by kernel_rfl) (fun _ _ => zH Tryd.underlying40 sz3 (v := v) rfl rfl hv (by omega) (by omega)) a.pins ?_
    refine yW (i := 20) rfl rfl rfl (yI rfl rfl rfl rfl) (by kernel_rfl) (fun _ hS => zK (r := xs.getD j 0) rfl ag3 (z := (j : Int)) rfl hv hS (by omega) (by omega)) a.pins ?_
    refine yW (i := 21) rfl rfl rfl (yI rfl rfl rfl rfl) (by kernel_rfl) (fun _ _ => r_geq rfl rfl) a.pins ?_
    refine yW (i := 22) rfl rfl rfl (yI rfl rfl rfl rfl) (by kernel_rfl) (fun _ _ => yT (v := (.bool (decide ((xs.getD j 0 : Int) ≤ (xs.getD ((j : Int) - 1).toNat 0))))) rfl rfl) a.pins ?_
    refine dT (i := 23) rfl rfl (by kernel_rfl) (fun _ _ => yO (v := (.bool (decide ((xs.getD j 0 : Int) ≤ (xs.getD ((j : Int) - 1).toNat 0))))) rfl rfl) a.pins ?_
    refine yE (by kernel_rfl) ?_
    refine zA ?_
    refine yA (p := (xs.getD j 0 : Int) ≤ (xs.getD ((j : Int) - 1).toNat 0)) rfl rfl (fun q => ?_) (fun q => ?_)
    ·skip
     refine zB (zC ?_)
     refine qM (.bool false) ?_
     refine qe (zA ?_)
     refine wp_ret ?_
     refine zP ?_
     refine zM (v := (.bool false)) rfl rfl rfl ?_
     exact ⟨congrArg (fun z => Ending.returned (Value.bool z)) (decP_false.2 (fun hR => by have := hR j (by omega); rw [show j - 1 = ((j : Int) - 1).toNat by omega] at this; omega)).symm, a⟩
    refine wp_skip ?_
    refine zZ ?_
    refine zA (zC ?_)
    refine qM (vJ (j : Int)) ?_
    refine qD rfl (yJ rfl rfl (by omega)) ?_
    refine qM (vJ ((j : Int) + 1)) ?_
    refine qe ?_
    refine yC ?_
    refine ⟨_, ?_, _, rfl, _, j + 1, (pS 7 (pS 2 (pS 1 (pU 0)))), rfl, a, (by omega), (rise_step hp (by omega) (fun s => by rw [show j - 1 = ((j : Int) - 1).toNat by omega]; omega))⟩
    omega
   refine yG (i := 12) rfl rfl (yS rfl rfl rfl rfl rfl) (by kernel_rfl) a.pins ?_
   refine yG (i := 13) rfl rfl (yS rfl rfl rfl rfl rfl) (by kernel_rfl) a.pins ?_
   refine yG (i := 14) rfl rfl (yS rfl rfl rfl rfl rfl) (by kernel_rfl) a.pins ?_
   refine yG (i := 15) rfl rfl (yS rfl rfl rfl rfl rfl) (by kernel_rfl) a.pins ?_
   refine yG (i := 16) rfl rfl (yS rfl rfl rfl rfl rfl) (by kernel_rfl) a.pins ?_
   refine yG (i := 17) rfl rfl (yS rfl rfl rfl rfl rfl) (by kernel_rfl) a.pins ?_
   refine yG (i := 18) rfl rfl (yS rfl rfl rfl rfl rfl) (by kernel_rfl) a.pins ?_
   refine yG (i := 19) rfl rfl (yS rfl rfl rfl rfl rfl) (by kernel_rfl) a.pins ?_
   refine yG (i := 20) rfl rfl (yS rfl rfl rfl rfl rfl) (by kernel_rfl) a.pins ?_
   refine yG (i := 21) rfl rfl (yS rfl rfl rfl rfl rfl) (by kernel_rfl) a.pins ?_
   refine yW (i := 22) rfl rfl rfl (yI rfl rfl rfl rfl) (by kernel_rfl) (fun _ _ => yO (v := (.bool false)) rfl rfl) a.pins ?_
   refine dT (i := 23) rfl rfl (by kernel_rfl) (fun _ _ => yO (v := (.bool false)) rfl rfl) a.pins ?_
   refine yE (by kernel_rfl) ?_
   refine zA ?_
   refine qR rfl rfl ?_
   refine wp_skip ?_
   refine zZ ?_
   refine zA (zC ?_)
   refine qM (vJ (j : Int)) ?_
   refine qD rfl (yJ rfl rfl (by omega)) ?_
   refine qM (vJ ((j : Int) + 1)) ?_
   refine qe ?_
   refine yC ?_
   refine ⟨_, ?_, _, rfl, _, j + 1, (pS 7 (pS 2 (pS 1 (pU 0)))), rfl, a, (by omega), (rise_step hp (by omega) (fun s => by rw [show j - 1 = ((j : Int) - 1).toNat by omega]; omega))⟩
   omega
  replace b := of_decide_eq_false b
  refine yG (i := 9) rfl rfl (yS rfl rfl rfl rfl rfl) (by kernel_rfl) a.pins ?_
  refine yG (i := 10) rfl rfl (yS rfl rfl rfl rfl rfl) (by kernel_rfl) a.pins ?_
  refine yG (i := 11) rfl rfl (yS rfl rfl rfl rfl rfl) (by kernel_rfl) a.pins ?_
  refine yG (i := 12) rfl rfl (xP rfl rfl rfl rfl) (by kernel_rfl) a.pins ?_
  refine yG (i := 13) rfl rfl (xP rfl rfl rfl rfl) (by kernel_rfl) a.pins ?_
  refine yG (i := 14) rfl rfl (xP rfl rfl rfl rfl) (by kernel_rfl) a.pins ?_
  refine yG (i := 15) rfl rfl (xP rfl rfl rfl rfl) (by kernel_rfl) a.pins ?_
  refine yG (i := 16) rfl rfl (xP rfl rfl rfl rfl) (by kernel_rfl) a.pins ?_
  refine yG (i := 17) rfl rfl (xP rfl rfl rfl rfl) (by kernel_rfl) a.pins ?_
  refine yG (i := 18) rfl rfl (xP rfl rfl rfl rfl) (by kernel_rfl) a.pins ?_
  refine yG (i := 19) rfl rfl (xP rfl rfl rfl rfl) (by kernel_rfl) a.pins ?_
  refine yG (i := 20) rfl rfl (xP rfl rfl rfl rfl) (by kernel_rfl) a.pins ?_
  refine yG (i := 21) rfl rfl (xP rfl rfl rfl rfl) (by kernel_rfl) a.pins ?_
  refine yG (i := 22) rfl rfl (yS rfl rfl rfl rfl rfl) (by kernel_rfl) a.pins ?_
  refine dT (i := 23) rfl rfl (by kernel_rfl) (fun _ _ => yT (v := (.bool true)) rfl rfl) a.pins ?_
  refine yE (by kernel_rfl) ?_
  refine zA ?_
  refine c_ifT rfl rfl ?_
  refine zB (zC ?_)
  refine qM (.bool false) ?_
  refine qe (zA ?_)
  refine wp_ret ?_
  refine zP ?_
  refine zM (v := (.bool false)) rfl rfl rfl ?_
  exact ⟨congrArg (fun z => Ending.returned (Value.bool z)) (decP_false.2 (fun hR => by have := hR j (by omega); rw [show j - 1 = ((j : Int) - 1).toNat by omega] at this; omega)).symm, a⟩
 refine wp_exit ?_
 refine zY ?_
 refine yH ?_
 refine yD ?_
 refine zA (zB (zC ?_))
 refine qM (.bool true) ?_
 refine qe (zA ?_)
 refine wp_ret ?_
 refine zP ?_
 refine zM (v := (.bool true)) rfl rfl rfl ?_
 exact ⟨congrArg (fun z => Ending.returned (Value.bool z)) (decP_true.2 (Rise.done (by omega) hp)).symm, d⟩

theorem l3Fits_spec {w : World} {G : Pin} {v : Value} {ns : List Nd} (hP : Pins G w) (hv : RSl eNode G v ns) :
  Calls Tryd.prog 49 [(.agg [v].toArray)].toArray w fun e w' => ∃ G', e = .returned (.bool (decP (FitsP ns))) ∧ Ext noS G w G' w' := by
 refine zV (n := 37) Tryd.func49 Tryd.ntmps49 rfl rfl ?_
 have c : Ext noS G w G w := Ext.refl hP
 have hm := hv.max
 refine zB (zC ?_)
 refine qI rfl (qA [v] (v := (.agg [v].toArray)) rfl rfl c.pins (fun d w2 am q s x => ?_))
 have y := c.step s x
 have aa : w.heap.size ≤ d := by have := c.size; omega
 obtain ⟨G9, f, ac, b, an⟩ := q.shut y aa
 refine qM (.bool false) ?_
 refine qe (zA (zB (zB (zC ?_))))
 refine qM (vJ 0) ?_
 refine qe (zA ?_)
 refine zW ?_
 refine yL (fun (k : Nat) (en : Nat → Value) (W : World) => ∃ (h : Nat → Value) (j : Nat), en = (upd (upd h 1 (.pointer (some ⟨d, 0, none⟩))) 3 (vJ (j : Int))) ∧ k = 121 - j ∧ Ext noS G w G9 W ∧ (j ≤ ns.length ∧ j ≤ 121) ∧ (∀ k, k < j → (ns.getD k default).l.length ≤ 24 ∧ (ns.getD k default).r.length ≤ 24)) _ ⟨_, 0, (pS 3 (pU 1)), rfl, ac, (by omega), (fun i hi => absurd hi (Nat.not_lt_zero i))⟩ ?_
 rintro ao _ ap ⟨h, j, rfl, aq, a, hj, hp⟩
 refine zB (zB (zC ?_))
 refine qM (vJ (j : Int)) ?_
 refine qD rfl (zN (k := 0) rfl Tryd.underlying26 rfl nz24 rfl) ?_
 refine qD rfl (zQ (u := v) ag24 rfl (a.pins _ _ _ (b 0 _ rfl))) ?_
 refine qD rfl (zO Tryd.underlying24 (v := v) rfl hv) ?_
 refine qD rfl (yU rfl rfl) ?_
 refine qM (.bool (decide (((j : Int) : Int) < (ns.length : Int)))) ?_
 refine qbd (p := ((j : Int) : Int) < (ns.length : Int)) (t := 9) rfl (fun ad => ?_) (fun ad => ?_)
 ·skip
  refine qN (zR (v := (vJ (j : Int))) rfl) ?_
  refine qN (r_leq rfl rfl) ?_
  refine qD rfl (yT (v := (.bool (decide (((j : Int) : Int) ≤ 120)))) rfl rfl) ?_
  refine qe (zA ?_)
  refine yA (p := ((j : Int) : Int) ≤ 120) rfl rfl (fun ae => ?_) (fun ae => ?_)
  ·skip
   refine wp_skip ?_
   refine zA (zB ?_)
   refine zW ?_
   refine zB (zC ?_)
   refine qD rfl (zN (k := 0) rfl Tryd.underlying26 rfl nz24 rfl) ?_
   refine qD rfl (zQ (u := v) ag24 rfl (a.pins _ _ _ (b 0 _ rfl))) ?_
   refine qM (vJ (j : Int)) ?_
   refine qD rfl (zH Tryd.underlying24 sz60 (v := v) rfl rfl hv (by omega) (by omega)) ?_
   refine qD rfl (xJ (off := 0) Tryd.underlying60 rfl rfl nz40 (z := (j : Int)) (k := 0) rfl hv (by omega) (by omega)) ?_
   obtain ⟨af, m, ag⟩ := nm_nl (hv.at (z := (j : Int)) (by omega) (by omega)) (j := j) rfl
   have ar := m.max
   refine qD rfl (ag ag40 rfl (Pins.of_le a.pins f)) ?_
   refine qD rfl (zO Tryd.underlying40 (v := af) rfl m) ?_
   refine qD rfl (r_gtr rfl rfl) ?_
   refine qM (.bool (decide ((24 : Int) < (((ns.getD j default).l).length : Int)))) ?_
   refine qbd (p := (24 : Int) < (((ns.getD j default).l).length : Int)) (t := 23) rfl (fun ah => ?_) (fun ah => ?_)
   ·skip
    refine qW ?_
    refine qW ?_
    refine qW ?_
    refine qW ?_
    refine qW ?_
    refine qW ?_
    refine qW ?_
    refine qW ?_
    refine qD rfl (yT (v := (.bool true)) rfl rfl) ?_
    refine qe (zA ?_)
    refine c_ifT rfl rfl ?_
    refine zB (zC ?_)
    refine qM (.bool false) ?_
    refine qe (zA ?_)
    refine wp_ret ?_
    refine zP ?_
    refine zM (v := (.bool false)) rfl rfl rfl ?_
    exact ⟨_, congrArg (fun z => Ending.returned (Value.bool z)) (decP_false.2 (fun g => by have := g.opts j (by omega); omega)).symm, a⟩
   refine qN (zN (k := 0) rfl Tryd.underlying26 rfl nz24 rfl) ?_
   refine qN (zQ (u := v) ag24 rfl (a.pins _ _ _ (b 0 _ rfl))) ?_
   refine qN (zR (v := (vJ (j : Int))) rfl) ?_
   refine qN (zH Tryd.underlying24 sz60 (v := v) rfl rfl hv (by omega) (by omega)) ?_
   refine qN (xJ (off := 1) Tryd.underlying60 rfl rfl nz40 (z := (j : Int)) (k := 0) rfl hv (by omega) (by omega)) ?_
   obtain ⟨ai, o, aj⟩ := nm_nr (hv.at (z := (j : Int)) (by omega) (by omega)) (j := j) rfl
   have au := o.max
   refine qN (aj ag40 rfl (Pins.of_le a.pins f)) ?_
   refine qN (zO Tryd.underlying40 (v := ai) rfl o) ?_
   refine qN (r_gtr rfl rfl) ?_
   refine qD rfl (yO (v := (.bool (decide ((24 : Int) < (((ns.getD j default).r).length : Int))))) rfl rfl) ?_
   refine qe (zA ?_)
   refine yA (p := (24 : Int) < (((ns.getD j default).r).length : Int)) rfl rfl (fun ak => ?_) (fun ak => ?_)
   ·skip
    refine zB (zC ?_)
    refine qM (.bool false) ?_
    refine qe (zA ?_)
    refine wp_ret ?_
    refine zP ?_
    refine zM (v := (.bool false)) rfl rfl rfl ?_
    exact ⟨_, congrArg (fun z => Ending.returned (Value.bool z)) (decP_false.2 (fun g => by have := g.opts j (by omega); omega)).symm, a⟩
   refine wp_skip ?_
   refine zZ ?_
   refine zA (zC ?_)
   refine qM (vJ (j : Int)) ?_
   refine qD rfl (yJ rfl rfl (by omega)) ?_
   refine qM (vJ ((j : Int) + 1)) ?_
   refine qe ?_
   refine yC ?_
   refine ⟨_, ?_, _, rfl, _, j + 1, (pS 3 (pU 1)), rfl, a, (by omega), (fun k hk => if h3 : k = j then h3 ▸ ⟨by omega, by omega⟩ else hp k (by omega))⟩
   omega
  refine wp_exit ?_
  refine zY ?_
  refine yH ?_
  refine yD ?_
  refine zA (zB (zC ?_))
  refine qD rfl (zN (k := 0) rfl Tryd.underlying26 rfl nz24 rfl) ?_
  refine qD rfl (zQ (u := v) ag24 rfl (a.pins _ _ _ (b 0 _ rfl))) ?_
  refine qD rfl (zO Tryd.underlying24 (v := v) rfl hv) ?_
  refine qI rfl (zL (vs := [(vJ (ns.length : Int)), (vJ 1), (vJ 120)]) Tryd.func68 nm68 rfl rfl rfl ?_)
  refine Calls.mono (l1In_spec a.pins) ?_
  rintro _ _ ⟨rfl, rfl⟩
  refine ⟨_, rfl, ?_⟩
  refine qM (.bool (decide ((1 : Int) ≤ (ns.length : Int) ∧ ((ns.length : Int) : Int) ≤ 120))) ?_
  refine qe (zA ?_)
  refine wp_ret ?_
  refine zP ?_
  refine zM (v := (.bool (decide ((1 : Int) ≤ (ns.length : Int) ∧ ((ns.length : Int) : Int) ≤ 120)))) rfl rfl rfl ?_
  exact ⟨_, congrArg (fun z => Ending.returned (Value.bool z)) (fits_end hp (by omega) (by omega)), a⟩
 refine qW ?_
 refine qW ?_
 refine qD rfl (yO (v := (.bool false)) rfl rfl) ?_
 refine qe (zA ?_)
 refine qR rfl rfl ?_
 refine wp_exit ?_
 refine zY ?_
 refine yH ?_
 refine yD ?_
 refine zA (zB (zC ?_))
 refine qD rfl (zN (k := 0) rfl Tryd.underlying26 rfl nz24 rfl) ?_
 refine qD rfl (zQ (u := v) ag24 rfl (a.pins _ _ _ (b 0 _ rfl))) ?_
 refine qD rfl (zO Tryd.underlying24 (v := v) rfl hv) ?_
 refine qI rfl (zL (vs := [(vJ (ns.length : Int)), (vJ 1), (vJ 120)]) Tryd.func68 nm68 rfl rfl rfl ?_)
 refine Calls.mono (l1In_spec a.pins) ?_
 rintro _ _ ⟨rfl, rfl⟩
 refine ⟨_, rfl, ?_⟩
 refine qM (.bool (decide ((1 : Int) ≤ (ns.length : Int) ∧ ((ns.length : Int) : Int) ≤ 120))) ?_
 refine qe (zA ?_)
 refine wp_ret ?_
 refine zP ?_
 refine zM (v := (.bool (decide ((1 : Int) ≤ (ns.length : Int) ∧ ((ns.length : Int) : Int) ≤ 120)))) rfl rfl rfl ?_
 exact ⟨_, congrArg (fun z => Ending.returned (Value.bool z)) (fits_end hp (by omega) (by omega)), a⟩

theorem l1Put_spec {w : World} {G : Pin} {v : Value} {xs : List Int} {n : Int} (hP : Pins G w) (hv : RSl eInt G v xs) (hs : xs.length ≤ 2097152) :
  Calls Tryd.prog 77 [v, (vJ n)].toArray w fun e w' => ∃ (u : Value) (G' : Pin), e = .returned u ∧ RSl eInt G' u (putL xs n) ∧ Ext noS G w G' w' := by
 refine zV (n := 45) Tryd.func77 Tryd.ntmps77 rfl rfl ?_
 have cm : Ext noS G w G w := Ext.refl hP
 refine zB (zC ?_)
 refine qM (.slice none 0 0) ?_
 refine qe (zA (zB (zC ?_)))
 refine qM (vJ 0) ?_
 refine qe (zA (zB ?_))
 refine zW ?_
 refine yL (fun (k : Nat) (en : Nat → Value) (W : World) => ∃ (c : Nat → Value) (j : Nat), en = (upd (upd (upd (upd c 0 v) 1 (vJ n)) 4 (.slice none 0 0)) 5 (vJ (j : Int))) ∧ k = xs.length - j ∧ Ext noS G w G W ∧ (j ≤ xs.length) ∧ (putL xs n = xs.take j ++ putL (xs.drop j) n)) _ ⟨_, 0, (pS 5 (pS 4 (pS 1 (pU 0)))), rfl, cm, Nat.zero_le _, rfl⟩ ?_
 rintro k1 _ l ⟨c, j, rfl, f3, d, hj, hr⟩
 refine zB (zB (zC ?_))
 refine qM (vJ (j : Int)) ?_
 refine qM v ?_
 refine qD rfl (zO Tryd.underlying40 (v := v) rfl hv) ?_
 refine qD rfl (yU rfl rfl) ?_
 refine qM (.bool (decide (((j : Int) : Int) < (xs.length : Int)))) ?_
 refine qbd (p := ((j : Int) : Int) < (xs.length : Int)) (t := 10) rfl (fun h5 => ?_) (fun h5 => ?_)
 ·skip
  refine qN (zR (v := v) rfl) ?_
  refine qN (zR (v := (vJ (j : Int))) rfl) ?_
  refine qN (zH Tryd.underlying40 sz3 (v := v) rfl rfl hv (by omega) (by omega)) ?_
  refine qN (zK (r := xs.getD j 0) rfl ag3 (z := (j : Int)) rfl hv d.pins (by omega) (by omega)) ?_
  refine qN (zR (v := (vJ n)) rfl) ?_
  refine qN (yU rfl rfl) ?_
  refine qD rfl (yT (v := (.bool (decide ((xs.getD j 0 : Int) < n)))) rfl rfl) ?_
  refine qe (zA ?_)
  refine yA (p := (xs.getD j 0 : Int) < n) rfl rfl (fun h6 => ?_) (fun h6 => ?_)
  ·skip
   refine wp_skip ?_
   refine zA ?_
   refine zW ?_
   refine zC ?_
   refine qM (vJ (j : Int)) ?_
   refine qD rfl (yJ rfl rfl (by omega)) ?_
   refine qM (vJ ((j : Int) + 1)) ?_
   refine qe ?_
   refine zZ ?_
   refine yC ?_
   refine ⟨_, ?_, _, rfl, _, j + 1, (pS 5 (pS 4 (pS 1 (pU 0)))), rfl, d, (by omega), (put_next (by omega) (by omega) hr)⟩
   omega
  refine wp_exit ?_
  refine zY ?_
  refine yH ?_
  refine yD ?_
  refine zA (zB (zB (zC ?_)))
  refine qM (vJ (j : Int)) ?_
  refine qM v ?_
  refine qD rfl (zO Tryd.underlying40 (v := v) rfl hv) ?_
  refine qD rfl (yU rfl rfl) ?_
  refine qM (.bool (decide (((j : Int) : Int) < (xs.length : Int)))) ?_
  refine qbd (p := ((j : Int) : Int) < (xs.length : Int)) (t := 24) rfl (fun _ => ?_) (fun h => absurd h5 h)
  refine qN (zR (v := v) rfl) ?_
  refine qN (zR (v := (vJ (j : Int))) rfl) ?_
  refine qN (zH Tryd.underlying40 sz3 (v := v) rfl rfl hv (by omega) (by omega)) ?_
  refine qN (zK (r := xs.getD j 0) rfl ag3 (z := (j : Int)) rfl hv d.pins (by omega) (by omega)) ?_
  refine qN (zR (v := (vJ n)) rfl) ?_
  refine qN (r_eql rfl rfl) ?_
  refine qD rfl (yT (v := (.bool (decide ((xs.getD j 0 : Int) = n)))) rfl rfl) ?_
  refine qe (zA ?_)
  refine yA (p := (xs.getD j 0 : Int) = n) rfl rfl (fun h8 => ?_) (fun h8 => ?_)
  ·skip
   refine zB (zC ?_)
   refine qM v ?_
   refine qM v ?_
   refine qe (zA ?_)
   refine wp_ret ?_
   refine zP ?_
   refine zM (v := v) rfl rfl rfl ?_
   exact ⟨_, _, rfl, (by rw [put_hit (by omega) (by omega) hr]; exact hv), d⟩
  refine wp_skip ?_
  refine zA (zB ?_)
  refine c_cut (fun (en : Nat → Value) (W : World) => ∃ (c : Nat → Value) (c9 : Value) (af : Pin), en = (upd c 4 c9) ∧ Ext noS G w af W ∧ Pin.le G af ∧ (Own eInt 3 af W w.heap.size c9 (((([]) ++ ((xs.take j).drop 0)) ++ ([n])) ++ ((xs.take xs.length).drop j)))) ?_ ?_
  ·rintro _ f4 ⟨c, c9, af, rfl, cp, f5, cq⟩
   refine zA ?_
   refine wp_ret ?_
   refine zP ?_
   refine zM (v := c9) rfl rfl rfl ?_
   obtain ⟨f6, f7, cr, cs, f8⟩ := cq.sealed cp
   exact ⟨_, _, rfl, (by rw [← put_new (fun h => ⟨by omega, by omega⟩) hr]; exact cs), cr⟩
  ·skip
   refine xE (S := fun wz => Pins G wz) (last := 13) (by kernel_rfl) rfl ?_
   have bj : Below l.heap.size l l.drew := (Below.refl _ _).drew
   have ct := d.pins.below bj
   have a := d.step ct bj
   refine dM 1 v a.pins ?_
   refine dM 2 (vJ (j : Int)) a.pins ?_
   obtain ⟨az, a0, cu⟩ := qB hv (lo := none) (hi := (some ((j : Int)))) (0) (j) (Or.inl ⟨rfl, rfl⟩) (Or.inr ⟨_, rfl, (by omega), rfl⟩) (by omega) (by omega)
   refine dT (i := 3) rfl rfl (by kernel_rfl) (fun _ _ => cu Tryd.underlying40 sz3 rfl rfl rfl) a.pins ?_
   refine dM 5 (vJ n) a.pins ?_
   refine dM 8 v a.pins ?_
   refine dM 9 (vJ (j : Int)) a.pins ?_
   obtain ⟨a1, a2, cv⟩ := qB hv (lo := (some ((j : Int)))) (hi := none) (j) (xs.length) (Or.inr ⟨_, rfl, (by omega), rfl⟩) (Or.inl ⟨rfl, rfl⟩) (by omega) (by omega)
   refine dT (i := 10) rfl rfl (by kernel_rfl) (fun _ _ => cv Tryd.underlying40 sz3 rfl rfl rfl) a.pins ?_
   refine qL (i := 0) (j := 6) (by kernel_rfl) ?_ ?_
   ·skip
    refine (zS (i := 0) rfl rfl rfl (zD rfl _) (xH (E := eInt) (e := 3) Tryd.underlying40 sz3 a.pins (fun ag cw cx cy cz f9 => ?_)))
    have f := a.step cy cz
    have ah : Own eInt 3 G cw w.heap.size ag ([]) := cx.weaken a.size
    refine ⟨fun _ => f.pins, ?_⟩
    refine qL (i := 4) (j := 6) (by kernel_rfl) ?_ ?_
    ·skip
     refine (zS (i := 4) rfl rfl rfl (zD rfl _) (oA (E := eInt) (v := ag) (u := az) 8 Tryd.underlying40 ap3 (by decide) rfl rfl f.pins ah ((a0.mono (Pin.le_refl _)).src f.pins (by decide)) (f.size) (fun c0 ga c1 c2 c3 gb => ?_)))
     have ai := f.write c2 c3 ((zX ah))
     have gc : (([]) ++ ((xs.take j).drop 0)).length = ([]).length + ((xs.take j).drop 0).length := List.length_append
     refine ⟨fun _ => ai.pins, ?_⟩
     refine dO (i := 6) (zS (i := 6) rfl rfl rfl (zD rfl _) (yV (E := eInt) (e := 3) [(vJ n)] [n] Tryd.underlying40 sz3 zr3 (by exact xU (by rfl)) (yP (by rfl)) rfl rfl rfl rfl (by decide) ai.pins (fun bk c4 c5 c6 bl gd => ?_)))
     have aj := ai.step c6 bl
     have bm := c1.below bl
     have c7 : Own eInt 3 G c4 w.heap.size bk ([n]) := c5.weaken ai.size
     refine ⟨fun _ => aj.pins, ?_⟩
     refine dO (i := 7) (zS (i := 7) rfl rfl rfl (zD rfl _) (oA (E := eInt) (v := c0) (u := bk) 8 Tryd.underlying40 ap3 (by decide) rfl rfl aj.pins bm c7.src (aj.size) (fun c8 ge bn da db gf => ?_)))
     have m := aj.write da db ((zX bm))
     have gg : ((([]) ++ ((xs.take j).drop 0)) ++ ([n])).length = (([]) ++ ((xs.take j).drop 0)).length + 1 := List.length_append
     refine ⟨fun _ => m.pins, ?_⟩
     refine dO (i := 11) (zS (i := 11) rfl rfl rfl (zD rfl _) (oA (E := eInt) (v := c8) (u := a1) 8 Tryd.underlying40 ap3 (by decide) rfl rfl m.pins bn ((a2.mono (Pin.le_refl _)).src m.pins (by decide)) (m.size) (fun bo gh dc dd de gi => ?_)))
     have a3 := m.write dd de ((zX bn))
     have gj : (((([]) ++ ((xs.take j).drop 0)) ++ ([n])) ++ ((xs.take xs.length).drop j)).length = ((([]) ++ ((xs.take j).drop 0)) ++ ([n])).length + ((xs.take xs.length).drop j).length := List.length_append
     refine ⟨fun _ => a3.pins, ?_⟩
     refine dM 12 bo a3.pins ?_
     refine yE (by kernel_rfl) ?_
     exact xS ⟨_, bo, G, (pU 4), a3, (Pin.le_refl _), dc⟩
    ·skip
     refine (zS (i := 6) rfl rfl rfl (zD rfl _) (yV (E := eInt) (e := 3) [(vJ n)] [n] Tryd.underlying40 sz3 zr3 (by exact xU (by rfl)) (yP (by rfl)) rfl rfl rfl rfl (by decide) f.pins (fun a4 df dg dh bp di => ?_)))
     have o := f.step dh bp
     have bq := ah.below bp
     have dj : Apart a4.ownBlock ag.ownBlock := zG di ah.lt
     have dk : Own eInt 3 G df w.heap.size a4 ([n]) := dg.weaken f.size
     refine ⟨fun _ => o.pins, ?_⟩
     refine dO (i := 4) (zS (i := 4) rfl rfl rfl (zD rfl _) (oA (E := eInt) (v := ag) (u := az) 8 Tryd.underlying40 ap3 (by decide) rfl rfl o.pins bq ((a0.mono (Pin.le_refl _)).src o.pins (by decide)) (o.size) (fun dl gk br dm bs gl => ?_)))
     have ak := o.write dm bs ((zX bq))
     have dn := dk.keptA bs dj
     have gm : (([]) ++ ((xs.take j).drop 0)).length = ([]).length + ((xs.take j).drop 0).length := List.length_append
     refine ⟨fun _ => ak.pins, ?_⟩
     refine dO (i := 7) (zS (i := 7) rfl rfl rfl (zD rfl _) (oA (E := eInt) (v := dl) (u := a4) 8 Tryd.underlying40 ap3 (by decide) rfl rfl ak.pins br dn.src (ak.size) (fun dp gn bt dq dr gp => ?_)))
     have q := ak.write dq dr ((zX br))
     have gq : ((([]) ++ ((xs.take j).drop 0)) ++ ([n])).length = (([]) ++ ((xs.take j).drop 0)).length + 1 := List.length_append
     refine ⟨fun _ => q.pins, ?_⟩
     refine dO (i := 11) (zS (i := 11) rfl rfl rfl (zD rfl _) (oA (E := eInt) (v := dp) (u := a1) 8 Tryd.underlying40 ap3 (by decide) rfl rfl q.pins bt ((a2.mono (Pin.le_refl _)).src q.pins (by decide)) (q.size) (fun bu gr ds dt du gs => ?_)))
     have a5 := q.write dt du ((zX bt))
     have gt : (((([]) ++ ((xs.take j).drop 0)) ++ ([n])) ++ ((xs.take xs.length).drop j)).length = ((([]) ++ ((xs.take j).drop 0)) ++ ([n])).length + ((xs.take xs.length).drop j).length := List.length_append
     refine ⟨fun _ => a5.pins, ?_⟩
     refine dM 12 bu a5.pins ?_
     refine yE (by kernel_rfl) ?_
     exact xS ⟨_, bu, G, (pU 4), a5, (Pin.le_refl _), ds⟩
   ·skip
    refine (zS (i := 6) rfl rfl rfl (zD rfl _) (yV (E := eInt) (e := 3) [(vJ n)] [n] Tryd.underlying40 sz3 zr3 (by exact xU (by rfl)) (yP (by rfl)) rfl rfl rfl rfl (by decide) a.pins (fun a6 dv dw dx dy gu => ?_)))
    have al := a.step dx dy
    have bv : Own eInt 3 G dv w.heap.size a6 ([n]) := dw.weaken a.size
    refine ⟨fun _ => al.pins, ?_⟩
    refine dO (i := 0) (zS (i := 0) rfl rfl rfl (zD rfl _) (xH (E := eInt) (e := 3) Tryd.underlying40 sz3 al.pins (fun a7 dz d0 d1 bw d2 => ?_)))
    have s := al.step d1 bw
    have d3 := bv.below bw
    have d4 : Apart a7.ownBlock a6.ownBlock := zG d2 bv.lt
    have bx : Own eInt 3 G dz w.heap.size a7 ([]) := d0.weaken al.size
    refine ⟨fun _ => s.pins, ?_⟩
    refine dO (i := 4) (zS (i := 4) rfl rfl rfl (zD rfl _) (oA (E := eInt) (v := a7) (u := az) 8 Tryd.underlying40 ap3 (by decide) rfl rfl s.pins bx ((a0.mono (Pin.le_refl _)).src s.pins (by decide)) (s.size) (fun d5 gv bz d6 b0 gw => ?_)))
    have am := s.write d6 b0 ((zX bx))
    have d7 := d3.keptA b0 d4.symm
    have gx : (([]) ++ ((xs.take j).drop 0)).length = ([]).length + ((xs.take j).drop 0).length := List.length_append
    refine ⟨fun _ => am.pins, ?_⟩
    refine dO (i := 7) (zS (i := 7) rfl rfl rfl (zD rfl _) (oA (E := eInt) (v := d5) (u := a6) 8 Tryd.underlying40 ap3 (by decide) rfl rfl am.pins bz d7.src (am.size) (fun d8 gy b1 d9 ea gz => ?_)))
    have x := am.write d9 ea ((zX bz))
    have g0 : ((([]) ++ ((xs.take j).drop 0)) ++ ([n])).length = (([]) ++ ((xs.take j).drop 0)).length + 1 := List.length_append
    refine ⟨fun _ => x.pins, ?_⟩
    refine dO (i := 11) (zS (i := 11) rfl rfl rfl (zD rfl _) (oA (E := eInt) (v := d8) (u := a1) 8 Tryd.underlying40 ap3 (by decide) rfl rfl x.pins b1 ((a2.mono (Pin.le_refl _)).src x.pins (by decide)) (x.size) (fun b2 g1 eb ec ed g2 => ?_)))
    have a8 := x.write ec ed ((zX b1))
    have g3 : (((([]) ++ ((xs.take j).drop 0)) ++ ([n])) ++ ((xs.take xs.length).drop j)).length = ((([]) ++ ((xs.take j).drop 0)) ++ ([n])).length + ((xs.take xs.length).drop j).length := List.length_append
    refine ⟨fun _ => a8.pins, ?_⟩
    refine dM 12 b2 a8.pins ?_
    refine yE (by kernel_rfl) ?_
    exact xS ⟨_, b2, G, (pU 4), a8, (Pin.le_refl _), eb⟩
 refine qW ?_
 refine qW ?_
 refine qW ?_
 refine qW ?_
 refine qW ?_
 refine qW ?_
 refine qD rfl (yO (v := (.bool false)) rfl rfl) ?_
 refine qe (zA ?_)
 refine qR rfl rfl ?_
 refine wp_exit ?_
 refine zY ?_
 refine yH ?_
 refine yD ?_
 refine zA (zB (zB (zC ?_)))
 refine qM (vJ (j : Int)) ?_
 refine qM v ?_
 refine qD rfl (zO Tryd.underlying40 (v := v) rfl hv) ?_
 refine qD rfl (yU rfl rfl) ?_
 refine qM (.bool (decide (((j : Int) : Int) < (xs.length : Int)))) ?_
 refine qbd (p := ((j : Int) : Int) < (xs.length : Int)) (t := 24) rfl (fun h => absurd h h5) (fun _ => ?_)
 refine qW ?_
 refine qW ?_
 refine qW ?_
 refine qW ?_
 refine qW ?_
 refine qW ?_
 refine qD rfl (yO (v := (.bool false)) rfl rfl) ?_
 refine qe (zA ?_)
 refine qR rfl rfl ?_
 refine wp_skip ?_
 refine zA (zB ?_)
 refine c_cut (fun (en : Nat → Value) (W : World) => ∃ (c : Nat → Value) (an : Value) (ao : Pin), en = (upd c 4 an) ∧ Ext noS G w ao W ∧ Pin.le G ao ∧ (Own eInt 3 ao W w.heap.size an (((([]) ++ ((xs.take j).drop 0)) ++ ([n])) ++ ((xs.take xs.length).drop j)))) ?_ ?_
 ·rintro _ g4 ⟨c, an, ao, rfl, ee, g5, ef⟩
  refine zA ?_
  refine wp_ret ?_
  refine zP ?_
  refine zM (v := an) rfl rfl rfl ?_
  obtain ⟨g6, g7, eg, eh, g8⟩ := ef.sealed ee
  exact ⟨_, _, rfl, (by rw [← put_new (fun h => ⟨by omega, by omega⟩) hr]; exact eh), eg⟩
 ·skip
  refine xE (S := fun wz => Pins G wz) (last := 13) (by kernel_rfl) rfl ?_
  have b3 : Below l.heap.size l l.drew := (Below.refl _ _).drew
  have ei := d.pins.below b3
  have b := d.step ei b3
  refine dM 1 v b.pins ?_
  refine dM 2 (vJ (j : Int)) b.pins ?_
  obtain ⟨a9, ba, ej⟩ := qB hv (lo := none) (hi := (some ((j : Int)))) (0) (j) (Or.inl ⟨rfl, rfl⟩) (Or.inr ⟨_, rfl, (by omega), rfl⟩) (by omega) (by omega)
  refine dT (i := 3) rfl rfl (by kernel_rfl) (fun _ _ => ej Tryd.underlying40 sz3 rfl rfl rfl) b.pins ?_
  refine dM 5 (vJ n) b.pins ?_
  refine dM 8 v b.pins ?_
  refine dM 9 (vJ (j : Int)) b.pins ?_
  obtain ⟨bb, bc, ek⟩ := qB hv (lo := (some ((j : Int)))) (hi := none) (j) (xs.length) (Or.inr ⟨_, rfl, (by omega), rfl⟩) (Or.inl ⟨rfl, rfl⟩) (by omega) (by omega)
  refine dT (i := 10) rfl rfl (by kernel_rfl) (fun _ _ => ek Tryd.underlying40 sz3 rfl rfl rfl) b.pins ?_
  refine qL (i := 0) (j := 6) (by kernel_rfl) ?_ ?_
  ·skip
   refine (zS (i := 0) rfl rfl rfl (zD rfl _) (xH (E := eInt) (e := 3) Tryd.underlying40 sz3 b.pins (fun ap el em eo ep g9 => ?_)))
   have g := b.step eo ep
   have aq : Own eInt 3 G el w.heap.size ap ([]) := em.weaken b.size
   refine ⟨fun _ => g.pins, ?_⟩
   refine qL (i := 4) (j := 6) (by kernel_rfl) ?_ ?_
   ·skip
    refine (zS (i := 4) rfl rfl rfl (zD rfl _) (oA (E := eInt) (v := ap) (u := a9) 8 Tryd.underlying40 ap3 (by decide) rfl rfl g.pins aq ((ba.mono (Pin.le_refl _)).src g.pins (by decide)) (g.size) (fun eq ha er es et hb => ?_)))
    have ar := g.write es et ((zX aq))
    have hc : (([]) ++ ((xs.take j).drop 0)).length = ([]).length + ((xs.take j).drop 0).length := List.length_append
    refine ⟨fun _ => ar.pins, ?_⟩
    refine dO (i := 6) (zS (i := 6) rfl rfl rfl (zD rfl _) (yV (E := eInt) (e := 3) [(vJ n)] [n] Tryd.underlying40 sz3 zr3 (by exact xU (by rfl)) (yP (by rfl)) rfl rfl rfl rfl (by decide) ar.pins (fun b4 eu ev ew b5 hd => ?_)))
    have au := ar.step ew b5
    have b6 := er.below b5
    have ex : Own eInt 3 G eu w.heap.size b4 ([n]) := ev.weaken ar.size
    refine ⟨fun _ => au.pins, ?_⟩
    refine dO (i := 7) (zS (i := 7) rfl rfl rfl (zD rfl _) (oA (E := eInt) (v := eq) (u := b4) 8 Tryd.underlying40 ap3 (by decide) rfl rfl au.pins b6 ex.src (au.size) (fun ey he b7 ez e0 hf => ?_)))
    have y := au.write ez e0 ((zX b6))
    have hg : ((([]) ++ ((xs.take j).drop 0)) ++ ([n])).length = (([]) ++ ((xs.take j).drop 0)).length + 1 := List.length_append
    refine ⟨fun _ => y.pins, ?_⟩
    refine dO (i := 11) (zS (i := 11) rfl rfl rfl (zD rfl _) (oA (E := eInt) (v := ey) (u := bb) 8 Tryd.underlying40 ap3 (by decide) rfl rfl y.pins b7 ((bc.mono (Pin.le_refl _)).src y.pins (by decide)) (y.size) (fun b8 hh e1 e2 e3 hk => ?_)))
    have bd := y.write e2 e3 ((zX b7))
    have hl : (((([]) ++ ((xs.take j).drop 0)) ++ ([n])) ++ ((xs.take xs.length).drop j)).length = ((([]) ++ ((xs.take j).drop 0)) ++ ([n])).length + ((xs.take xs.length).drop j).length := List.length_append
    refine ⟨fun _ => bd.pins, ?_⟩
    refine dM 12 b8 bd.pins ?_
    refine yE (by kernel_rfl) ?_
    exact xS ⟨_, b8, G, (pU 4), bd, (Pin.le_refl _), e1⟩
   ·skip
    refine (zS (i := 6) rfl rfl rfl (zD rfl _) (yV (E := eInt) (e := 3) [(vJ n)] [n] Tryd.underlying40 sz3 zr3 (by exact xU (by rfl)) (yP (by rfl)) rfl rfl rfl rfl (by decide) g.pins (fun be e4 e5 e6 b9 e7 => ?_)))
    have aa := g.step e6 b9
    have ca := aq.below b9
    have e8 : Apart be.ownBlock ap.ownBlock := zG e7 aq.lt
    have e9 : Own eInt 3 G e4 w.heap.size be ([n]) := e5.weaken g.size
    refine ⟨fun _ => aa.pins, ?_⟩
    refine dO (i := 4) (zS (i := 4) rfl rfl rfl (zD rfl _) (oA (E := eInt) (v := ap) (u := a9) 8 Tryd.underlying40 ap3 (by decide) rfl rfl aa.pins ca ((ba.mono (Pin.le_refl _)).src aa.pins (by decide)) (aa.size) (fun fa hm cb fb cc hn => ?_)))
    have av := aa.write fb cc ((zX ca))
    have fc := e9.keptA cc e8
    have ho : (([]) ++ ((xs.take j).drop 0)).length = ([]).length + ((xs.take j).drop 0).length := List.length_append
    refine ⟨fun _ => av.pins, ?_⟩
    refine dO (i := 7) (zS (i := 7) rfl rfl rfl (zD rfl _) (oA (E := eInt) (v := fa) (u := be) 8 Tryd.underlying40 ap3 (by decide) rfl rfl av.pins cb fc.src (av.size) (fun fd hp cd fe ff hq => ?_)))
    have ab := av.write fe ff ((zX cb))
    have ht : ((([]) ++ ((xs.take j).drop 0)) ++ ([n])).length = (([]) ++ ((xs.take j).drop 0)).length + 1 := List.length_append
    refine ⟨fun _ => ab.pins, ?_⟩
    refine dO (i := 11) (zS (i := 11) rfl rfl rfl (zD rfl _) (oA (E := eInt) (v := fd) (u := bb) 8 Tryd.underlying40 ap3 (by decide) rfl rfl ab.pins cd ((bc.mono (Pin.le_refl _)).src ab.pins (by decide)) (ab.size) (fun ce hu fg fh fi hw => ?_)))
    have bf := ab.write fh fi ((zX cd))
    have hx : (((([]) ++ ((xs.take j).drop 0)) ++ ([n])) ++ ((xs.take xs.length).drop j)).length = ((([]) ++ ((xs.take j).drop 0)) ++ ([n])).length + ((xs.take xs.length).drop j).length := List.length_append
    refine ⟨fun _ => bf.pins, ?_⟩
    refine dM 12 ce bf.pins ?_
    refine yE (by kernel_rfl) ?_
    exact xS ⟨_, ce, G, (pU 4), bf, (Pin.le_refl _), fg⟩
  ·skip
   refine (zS (i := 6) rfl rfl rfl (zD rfl _) (yV (E := eInt) (e := 3) [(vJ n)] [n] Tryd.underlying40 sz3 zr3 (by exact xU (by rfl)) (yP (by rfl)) rfl rfl rfl rfl (by decide) b.pins (fun bg fj fk fl fm hy => ?_)))
   have aw := b.step fl fm
   have cf : Own eInt 3 G fj w.heap.size bg ([n]) := fk.weaken b.size
   refine ⟨fun _ => aw.pins, ?_⟩
   refine dO (i := 0) (zS (i := 0) rfl rfl rfl (zD rfl _) (xH (E := eInt) (e := 3) Tryd.underlying40 sz3 aw.pins (fun bh fn fo fp cg fq => ?_)))
   have ac := aw.step fp cg
   have fr := cf.below cg
   have fs : Apart bh.ownBlock bg.ownBlock := zG fq cf.lt
   have ch : Own eInt 3 G fn w.heap.size bh ([]) := fo.weaken aw.size
   refine ⟨fun _ => ac.pins, ?_⟩
   refine dO (i := 4) (zS (i := 4) rfl rfl rfl (zD rfl _) (oA (E := eInt) (v := bh) (u := a9) 8 Tryd.underlying40 ap3 (by decide) rfl rfl ac.pins ch ((ba.mono (Pin.le_refl _)).src ac.pins (by decide)) (ac.size) (fun ft hz ci fu cj h0 => ?_)))
   have ax := ac.write fu cj ((zX ch))
   have fv := fr.keptA cj fs.symm
   have h1 : (([]) ++ ((xs.take j).drop 0)).length = ([]).length + ((xs.take j).drop 0).length := List.length_append
   refine ⟨fun _ => ax.pins, ?_⟩
   refine dO (i := 7) (zS (i := 7) rfl rfl rfl (zD rfl _) (oA (E := eInt) (v := ft) (u := bg) 8 Tryd.underlying40 ap3 (by decide) rfl rfl ax.pins ci fv.src (ax.size) (fun fw h2 ck fx fy h3 => ?_)))
   have ad := ax.write fx fy ((zX ci))
   have h4 : ((([]) ++ ((xs.take j).drop 0)) ++ ([n])).length = (([]) ++ ((xs.take j).drop 0)).length + 1 := List.length_append
   refine ⟨fun _ => ad.pins, ?_⟩
   refine dO (i := 11) (zS (i := 11) rfl rfl rfl (zD rfl _) (oA (E := eInt) (v := fw) (u := bb) 8 Tryd.underlying40 ap3 (by decide) rfl rfl ad.pins ck ((bc.mono (Pin.le_refl _)).src ad.pins (by decide)) (ad.size) (fun cl h7 fz f0 f1 h9 => ?_)))
   have bi := ad.write f0 f1 ((zX ck))
   have ia : (((([]) ++ ((xs.take j).drop 0)) ++ ([n])) ++ ((xs.take xs.length).drop j)).length = ((([]) ++ ((xs.take j).drop 0)) ++ ([n])).length + ((xs.take xs.length).drop j).length := List.length_append
   refine ⟨fun _ => bi.pins, ?_⟩
   refine dM 12 cl bi.pins ?_
   refine yE (by kernel_rfl) ?_
   exact xS ⟨_, cl, G, (pU 4), bi, (Pin.le_refl _), fz⟩

theorem l1Same_spec {w : World} {G : Pin} {u v : Value} {xs ys : List Int} (hP : Pins G w) (hu : RSl eInt G u xs) (hv : RSl eInt G v ys) :
  Calls Tryd.prog 69 [u, v].toArray w fun e w' => e = .returned (.bool (decide (xs = ys))) ∧ Ext noS G w G w' := by
 refine zV (n := 26) Tryd.func69 Tryd.ntmps69 rfl rfl ?_
 have f : Ext noS G w G w := Ext.refl hP
 have hm := hu.max
 refine zB (zC ?_)
 refine qM (.bool false) ?_
 refine qe (zA (zB (zB (zC ?_))))
 refine qM u ?_
 refine qD rfl (zO Tryd.underlying40 (v := u) rfl hu) ?_
 refine qM v ?_
 refine qD rfl (zO Tryd.underlying40 (v := v) rfl hv) ?_
 refine qD rfl (r_neq rfl rfl) ?_
 refine qe (zA ?_)
 refine yA (p := ((xs.length : Int) : Int) ≠ (ys.length : Int)) rfl rfl (fun g => ?_) (fun g => ?_)
 ·skip
  refine zB (zC ?_)
  refine qM (.bool false) ?_
  refine qe (zA ?_)
  refine wp_ret ?_
  refine zP ?_
  refine zM (v := (.bool false)) rfl rfl rfl ?_
  exact ⟨congrArg (fun z => Ending.returned (Value.bool z)) (decide_eq_false (fun e => g (by rw [e]))).symm, f⟩
 refine wp_skip ?_
 refine zA (zB (zB (zC ?_)))
 refine qM (vJ 0) ?_
 refine qe (zA ?_)
 refine zW ?_
 refine yL (fun (k : Nat) (en : Nat → Value) (W : World) => ∃ (h : Nat → Value) (j : Nat), en = (upd (upd (upd h 0 u) 1 v) 5 (vJ (j : Int))) ∧ k = xs.length - j ∧ Ext noS G w G W ∧ (j ≤ xs.length) ∧ (xs.length = ys.length) ∧ (∀ i, i < j → xs.getD i 0 = ys.getD i 0)) _ ⟨_, 0, (pS 5 (pS 1 (pU 0))), rfl, f, Nat.zero_le _, (by omega), (fun i hi => absurd hi (Nat.not_lt_zero i))⟩ ?_
 rintro q _ b ⟨h, j, rfl, s, c, hj, heq, hp⟩
 refine zB (zB (zC ?_))
 refine qM (vJ (j : Int)) ?_
 refine qM u ?_
 refine qD rfl (zO Tryd.underlying40 (v := u) rfl hu) ?_
 refine qD rfl (yU rfl rfl) ?_
 refine qe (zA ?_)
 refine yA (p := ((j : Int) : Int) < (xs.length : Int)) rfl rfl (fun m => ?_) (fun m => ?_)
 ·skip
  refine wp_skip ?_
  refine zA (zB ?_)
  refine zW ?_
  refine zB ?_
  refine xE (S := fun wz => Pins G wz) (last := 9) (by kernel_rfl) rfl ?_
  have l : Below b.heap.size b b.drew := (Below.refl _ _).drew
  have o := c.pins.below l
  have a := c.step o l
  refine dM 0 u a.pins ?_
  refine dM 1 (vJ (j : Int)) a.pins ?_
  refine dT (i := 2) rfl rfl (by kernel_rfl) (fun _ _ => zH Tryd.underlying40 sz3 (v := u) rfl rfl hu (by omega) (by omega)) a.pins ?_
  refine dT (i := 3) rfl rfl (by kernel_rfl) (fun _ hS => zK (r := xs.getD j 0) rfl ag3 (z := (j : Int)) rfl hu hS (by omega) (by omega)) a.pins ?_
  refine dM 4 v a.pins ?_
  refine dM 5 (vJ (j : Int)) a.pins ?_
  refine dT (i := 6) rfl rfl (by kernel_rfl) (fun _ _ => zH Tryd.underlying40 sz3 (v := v) rfl rfl hv (by omega) (by omega)) a.pins ?_
  refine dT (i := 7) rfl rfl (by kernel_rfl) (fun _ hS => zK (r := ys.getD j 0) rfl ag3 (z := (j : Int)) rfl hv hS (by omega) (by omega)) a.pins ?_
  refine dT (i := 8) rfl rfl (by kernel_rfl) (fun _ _ => r_neq rfl rfl) a.pins ?_
  refine yE (by kernel_rfl) ?_
  refine zA ?_
  refine yA (p := (xs.getD j 0 : Int) ≠ (ys.getD j 0)) rfl rfl (fun d => ?_) (fun d => ?_)
  ·skip
   refine zB (zC ?_)
   refine qM (.bool false) ?_
   refine qe (zA ?_)
   refine wp_ret ?_
   refine zP ?_
   refine zM (v := (.bool false)) rfl rfl rfl ?_
   exact ⟨congrArg (fun z => Ending.returned (Value.bool z)) (decide_eq_false (fun e => d (by rw [e]))).symm, a⟩
  refine wp_skip ?_
  refine zZ ?_
  refine zA (zC ?_)
  refine qM (vJ (j : Int)) ?_
  refine qD rfl (yJ rfl rfl (by omega)) ?_
  refine qM (vJ ((j : Int) + 1)) ?_
  refine qe ?_
  refine yC ?_
  refine ⟨_, ?_, _, rfl, _, j + 1, (pS 5 (pS 1 (pU 0))), rfl, a, (by omega), heq, (eqstep hp d)⟩
  omega
 refine wp_exit ?_
 refine zY ?_
 refine yH ?_
 refine yD ?_
 refine zA (zB (zC ?_))
 refine qM (.bool true) ?_
 refine qe (zA ?_)
 refine wp_ret ?_
 refine zP ?_
 refine zM (v := (.bool true)) rfl rfl rfl ?_
 exact ⟨congrArg (fun z => Ending.returned (Value.bool z)) (decide_eq_true (eqdone heq (by omega) hp)).symm, c⟩

theorem qP {w : World} {G Gr : Pin} {u v : Value} {a xs : List Int} (hP : Pins G w) (hPr : Pins Gr w) (hu : RSl eInt Gr u a) (hv : RSl eInt G v xs) (hs : xs.length ≤ 1048576) (hk : ∀ i, i < xs.length → 0 ≤ xs.getD i 0 ∧ xs.getD i 0 < a.length) :
  Calls Tryd.prog 72 [u, v].toArray w fun e w' => ∃ (u : Value) (G' : Pin), e = .returned u ∧ Own eInt 3 G' w' w.heap.size u (atL a xs) ∧ Ext noS G w G' w' := by
 refine zV (n := 25) Tryd.func72 Tryd.ntmps72 rfl rfl ?_
 have c : Ext noS G w G w := Ext.refl hP
 refine zB (zC ?_)
 refine qM (.slice none 0 0) ?_
 refine qe (zA (zB (zC ?_)))
 refine qI rfl (xH (E := eInt) (e := 3) Tryd.underlying40 sz3 c.pins (fun d t x y aa am => ?_))
 have ab := c.step y aa
 have ac : Own eInt 3 G t w.heap.size d ([]) := x.weaken c.size
 refine qM d ?_
 refine qe (zA (zB (zB (zC ?_))))
 refine qM (vJ 0) ?_
 refine qe (zA ?_)
 refine zW ?_
 refine yL (fun (k : Nat) (en : Nat → Value) (W : World) => ∃ (g : Nat → Value) (j : Nat) (o : Value) (os : List Int), en = (upd (upd (upd (upd (upd g 0 u) 1 v) 4 (.slice none 0 0)) 5 o) 6 (vJ (j : Int))) ∧ k = xs.length - j ∧ Ext noS G w G W ∧ (j ≤ xs.length) ∧ (os = atL a (xs.take j)) ∧ (os.length = j) ∧ (Own eInt 3 G W w.heap.size o (os))) _ ⟨_, 0, d, [], (pS 6 (pS 5 (pS 4 (pS 1 (pU 0))))), rfl, ab, Nat.zero_le _, rfl, rfl, ac⟩ ?_
 rintro k9 _ ao ⟨g, j, o, os, rfl, ap, b, hj, hr, hol, h⟩
 refine zB (zB (zC ?_))
 refine qM (vJ (j : Int)) ?_
 refine qM v ?_
 refine qD rfl (zO Tryd.underlying40 (v := v) rfl hv) ?_
 refine qD rfl (yU rfl rfl) ?_
 refine qe (zA ?_)
 refine yA (p := ((j : Int) : Int) < (xs.length : Int)) rfl rfl (fun ad => ?_) (fun ad => ?_)
 ·skip
  have hkj := hk j (by omega)
  refine wp_skip ?_
  refine zA (zB ?_)
  refine zW ?_
  refine zC ?_
  refine qM o ?_
  refine qM u ?_
  refine qM v ?_
  refine qM (vJ (j : Int)) ?_
  refine qD rfl (zH Tryd.underlying40 sz3 (v := v) rfl rfl hv (by omega) (by omega)) ?_
  refine qD rfl (zK (r := xs.getD j 0) rfl ag3 (z := (j : Int)) rfl hv b.pins (by omega) (by omega)) ?_
  refine qD rfl (zH Tryd.underlying40 sz3 (v := u) rfl rfl hu (by omega) (by omega)) ?_
  refine qD rfl (zK (r := a.getD (xs.getD j 0).toNat 0) rfl ag3 (z := (xs.getD j 0)) rfl hu (hPr.ext0 b) (by omega) (by omega)) ?_
  refine qI rfl (yV (E := eInt) (e := 3) [(vJ (a.getD (xs.getD j 0).toNat 0))] [a.getD (xs.getD j 0).toNat 0] Tryd.underlying40 sz3 zr3 (by exact xU (by rfl)) (yP (by rfl)) rfl rfl rfl rfl (by decide) b.pins (fun l ae af ag m aq => ?_))
  have f := b.step ag m
  have q := h.below m
  have ah : Own eInt 3 G ae w.heap.size l ([a.getD (xs.getD j 0).toNat 0]) := af.weaken b.size
  refine qI rfl (oA (E := eInt) (v := o) (u := l) 8 Tryd.underlying40 ap3 (by decide) rfl rfl f.pins q ah.src (f.size) (fun s ar ai aj ak au => ?_))
  have al := f.write aj ak ((zX q))
  have av : (os ++ ([a.getD (xs.getD j 0).toNat 0])).length = os.length + 1 := List.length_append
  refine qM s ?_
  refine qe ?_
  refine zZ ?_
  refine zA (zC ?_)
  refine qM (vJ (j : Int)) ?_
  refine qD rfl (yJ rfl rfl (by omega)) ?_
  refine qM (vJ ((j : Int) + 1)) ?_
  refine qe ?_
  refine yC ?_
  refine ⟨_, ?_, _, rfl, _, j + 1, s, os ++ [a.getD (xs.getD j 0).toNat 0], (pS 6 (pS 5 (pS 4 (pS 1 (pU 0))))), rfl, al, (by omega), (by rw [hr, at_next (by omega)]), (by rw [List.length_append, hol]; rfl), ai⟩
  omega
 refine wp_exit ?_
 refine zY ?_
 refine yH ?_
 refine yD ?_
 refine zA (zB (zC ?_))
 refine qM o ?_
 refine qM o ?_
 refine qe (zA ?_)
 refine wp_ret ?_
 refine zP ?_
 refine zM (v := o) rfl rfl rfl ?_
 exact ⟨_, _, rfl, (by rw [take_all (by omega)] at hr; rw [← hr]; exact h), b⟩

theorem xO {w : World} {G : Pin} {v : Value} {xs : List Int} (hP : Pins G w) (hv : RSl eInt G v xs) (hs : xs.length ≤ 1048576) :
  Calls Tryd.prog 71 [v].toArray w fun e w' => ∃ (u : Value) (G' : Pin), e = .returned u ∧ RSl eInt G' u (sortL xs) ∧ Ext noS G w G' w' := by
 refine zV (n := 19) Tryd.func71 Tryd.ntmps71 rfl rfl ?_
 have c : Ext noS G w G w := Ext.refl hP
 refine zB (zC ?_)
 refine qM (.slice none 0 0) ?_
 refine qe (zA (zB (zC ?_)))
 refine qI rfl (xH (E := eInt) (e := 3) Tryd.underlying40 sz3 c.pins (fun d q s t x ai => ?_))
 have y := c.step t x
 have aa : Own eInt 3 G q w.heap.size d ([]) := s.weaken c.size
 refine qM d ?_
 refine qe (zA (zB (zB (zC ?_))))
 refine qM (vJ 0) ?_
 refine qe (zA ?_)
 refine zW ?_
 obtain ⟨f, ab, ac, ad, aj⟩ := aa.sealed y
 refine yL (fun (k : Nat) (en : Nat → Value) (W : World) => ∃ (g : Nat → Value) (j : Nat) (o : Value) (os : List Int) (a : Pin), en = (upd (upd (upd (upd g 0 v) 2 (.slice none 0 0)) 3 o) 4 (vJ (j : Int))) ∧ k = xs.length - j ∧ Ext noS G w a W ∧ Pin.le f a ∧ (j ≤ xs.length) ∧ (os = sortL (xs.take j)) ∧ (os.length ≤ j) ∧ (RSl eInt a o (os))) _ ⟨_, 0, d, [], f, (pS 4 (pS 3 (pS 2 (pU 0)))), rfl, ac, Pin.le_refl _, Nat.zero_le _, rfl, Nat.le_refl 0, ad⟩ ?_
 rintro k9 _ al ⟨g, j, o, os, a, rfl, am, b, h, hj, hr, hol, i⟩
 refine zB (zB (zC ?_))
 refine qM (vJ (j : Int)) ?_
 refine qM v ?_
 refine qD rfl (zO Tryd.underlying40 (v := v) rfl hv) ?_
 refine qD rfl (yU rfl rfl) ?_
 refine qe (zA ?_)
 refine yA (p := ((j : Int) : Int) < (xs.length : Int)) rfl rfl (fun ae => ?_) (fun ae => ?_)
 ·skip
  refine wp_skip ?_
  refine zA (zB ?_)
  refine zW ?_
  refine zC ?_
  refine qM o ?_
  refine qM v ?_
  refine qM (vJ (j : Int)) ?_
  refine qD rfl (zH Tryd.underlying40 sz3 (v := v) rfl rfl hv (by omega) (by omega)) ?_
  refine qD rfl (zK (r := xs.getD j 0) rfl ag3 (z := (j : Int)) rfl hv (Pins.of_le b.pins (Pin.le_trans ab h)) (by omega) (by omega)) ?_
  refine qI rfl (zL (vs := [o, (vJ (xs.getD j 0))]) Tryd.func77 nm77 rfl rfl rfl ?_)
  refine Calls.mono (l1Put_spec b.pins i (by omega)) ?_
  rintro _ an ⟨l, af, rfl, ag, m⟩
  refine ⟨_, rfl, ?_⟩
  have ah := b.tr m
  refine qM l ?_
  refine qe ?_
  refine zZ ?_
  refine zA (zC ?_)
  refine qM (vJ (j : Int)) ?_
  refine qD rfl (yJ rfl rfl (by omega)) ?_
  refine qM (vJ ((j : Int) + 1)) ?_
  refine qe ?_
  refine yC ?_
  refine ⟨_, ?_, _, rfl, _, j + 1, l, putL os (xs.getD j 0), af, (pS 4 (pS 3 (pS 2 (pU 0)))), rfl, ah, (Pin.le_trans h m.le), (by omega), (by rw [hr, sort_next (by omega)]), (Nat.le_trans putL_length (by omega)), ag⟩
  omega
 refine wp_exit ?_
 refine zY ?_
 refine yH ?_
 refine yD ?_
 refine zA (zB (zC ?_))
 refine qM o ?_
 refine qM o ?_
 refine qe (zA ?_)
 refine wp_ret ?_
 refine zP ?_
 refine zM (v := o) rfl rfl rfl ?_
 exact ⟨_, _, rfl, (by rw [take_all (by omega)] at hr; rw [← hr]; exact i), b⟩

end C1
end Go.Proofs.YtkfgdhanaijddaaDoor

set_option maxRecDepth 20000
set_option maxHeartbeats 2000000
namespace Go.Proofs.YtkfgdhanaijddaaDoor
namespace D1
open Go.RowKit Go.GL Go.Proofs
open Go.Proofs.YtkfgdhanaijddaaDoor.C1











theorem pl60 : (Tryd.prog.underlying 60).bind (placesD Tryd.prog) = some [(0, 1), (1, 1)] := by kernel_rfl






theorem l3List_spec {w : World} {G : Pin} {u v : Value} {xs ys : List Int} (hP : Pins G w) (hu : RSl eInt G u xs) (hv : RSl eInt G v ys) :
  Calls Tryd.prog 81 [u, v].toArray w fun e w' => e = .returned (vJ (cmpL xs ys)) ∧ Ext noS G w G w' := by
 refine zV (n := 48) Tryd.func81 Tryd.ntmps81 rfl rfl ?_
 have m : Ext noS G w G w := Ext.refl hP
 have hm := hu.max
 refine zB (zC ?_)
 refine qM (vJ 0) ?_
 refine qe (zA (zB (zB (zC ?_))))
 refine qM (vJ 0) ?_
 refine qe (zA ?_)
 refine zW ?_
 refine yL (fun (k : Nat) (en : Nat → Value) (W : World) => ∃ (g : Nat → Value) (j : Nat), en = (upd (upd (upd g 0 u) 1 v) 5 (vJ (j : Int))) ∧ k = xs.length - j ∧ Ext noS G w G W ∧ (j ≤ xs.length ∧ j ≤ ys.length) ∧ (cmpL xs ys = cmpL (xs.drop j) (ys.drop j))) _ ⟨_, 0, (pS 5 (pS 1 (pU 0))), rfl, m, ⟨Nat.zero_le _, Nat.zero_le _⟩, rfl⟩ ?_
 rintro k1 _ d ⟨g, j, rfl, af, c, hj, hr⟩
 refine zB (zB (zC ?_))
 refine qM (vJ (j : Int)) ?_
 refine qM u ?_
 refine qD rfl (zO Tryd.underlying40 (v := u) rfl hu) ?_
 refine qD rfl (yU rfl rfl) ?_
 refine qM (.bool (decide (((j : Int) : Int) < (xs.length : Int)))) ?_
 refine qbd (p := ((j : Int) : Int) < (xs.length : Int)) (t := 10) rfl (fun o => ?_) (fun o => ?_)
 ·skip
  refine qN (zR (v := (vJ (j : Int))) rfl) ?_
  refine qN (zR (v := v) rfl) ?_
  refine qN (zO Tryd.underlying40 (v := v) rfl hv) ?_
  refine qN (yU rfl rfl) ?_
  refine qD rfl (yT (v := (.bool (decide (((j : Int) : Int) < (ys.length : Int))))) rfl rfl) ?_
  refine qe (zA ?_)
  refine yA (p := ((j : Int) : Int) < (ys.length : Int)) rfl rfl (fun q => ?_) (fun q => ?_)
  ·skip
   refine wp_skip ?_
   refine zA (zB ?_)
   refine zW ?_
   refine zB ?_
   refine xE (S := fun wz => Pins G wz) (last := 9) (by kernel_rfl) rfl ?_
   have h : Below d.heap.size d d.drew := (Below.refl _ _).drew
   have s := c.pins.below h
   have a := c.step s h
   refine dM 0 u a.pins ?_
   refine dM 1 (vJ (j : Int)) a.pins ?_
   refine dT (i := 2) rfl rfl (by kernel_rfl) (fun _ _ => zH Tryd.underlying40 sz3 (v := u) rfl rfl hu (by omega) (by omega)) a.pins ?_
   refine dT (i := 3) rfl rfl (by kernel_rfl) (fun _ hS => zK (r := xs.getD j 0) rfl ag3 (z := (j : Int)) rfl hu hS (by omega) (by omega)) a.pins ?_
   refine dM 4 v a.pins ?_
   refine dM 5 (vJ (j : Int)) a.pins ?_
   refine dT (i := 6) rfl rfl (by kernel_rfl) (fun _ _ => zH Tryd.underlying40 sz3 (v := v) rfl rfl hv (by omega) (by omega)) a.pins ?_
   refine dT (i := 7) rfl rfl (by kernel_rfl) (fun _ hS => zK (r := ys.getD j 0) rfl ag3 (z := (j : Int)) rfl hv hS (by omega) (by omega)) a.pins ?_
   refine dT (i := 8) rfl rfl (by kernel_rfl) (fun _ _ => r_neq rfl rfl) a.pins ?_
   refine yE (by kernel_rfl) ?_
   refine zA ?_
   refine yA (p := (xs.getD j 0 : Int) ≠ (ys.getD j 0)) rfl rfl (fun x => ?_) (fun x => ?_)
   ·skip
    refine zB (zB ?_)
    refine xE (S := fun wz => Pins G wz) (last := 9) (by kernel_rfl) rfl ?_
    have l : Below d.drew.heap.size d.drew d.drew.drew := (Below.refl _ _).drew
    have y := a.pins.below l
    have b := a.step y l
    refine dM 0 u b.pins ?_
    refine dM 1 (vJ (j : Int)) b.pins ?_
    refine dT (i := 2) rfl rfl (by kernel_rfl) (fun _ _ => zH Tryd.underlying40 sz3 (v := u) rfl rfl hu (by omega) (by omega)) b.pins ?_
    refine dT (i := 3) rfl rfl (by kernel_rfl) (fun _ hS => zK (r := xs.getD j 0) rfl ag3 (z := (j : Int)) rfl hu hS (by omega) (by omega)) b.pins ?_
    refine dM 4 v b.pins ?_
    refine dM 5 (vJ (j : Int)) b.pins ?_
    refine dT (i := 6) rfl rfl (by kernel_rfl) (fun _ _ => zH Tryd.underlying40 sz3 (v := v) rfl rfl hv (by omega) (by omega)) b.pins ?_
    refine dT (i := 7) rfl rfl (by kernel_rfl) (fun _ hS => zK (r := ys.getD j 0) rfl ag3 (z := (j : Int)) rfl hv hS (by omega) (by omega)) b.pins ?_
    refine dT (i := 8) rfl rfl (by kernel_rfl) (fun _ _ => yU rfl rfl) b.pins ?_
    refine yE (by kernel_rfl) ?_
    refine zA ?_
    refine yA (p := (xs.getD j 0 : Int) < (ys.getD j 0)) rfl rfl (fun f => ?_) (fun f => ?_)
    ·skip
     refine zB (zC ?_)
     refine qM (vJ (-1)) ?_
     refine qe (zA ?_)
     refine wp_ret ?_
     refine zP ?_
     refine zM (v := (vJ (-1))) rfl rfl rfl ?_
     exact ⟨congrArg (fun z => Ending.returned (Value.int .i64 z)) ((hr.trans ((cmpL_ne (by omega) (by omega) (by unfold cmpI; split <;> omega)).trans (by unfold cmpI; rw [if_pos f]))).symm), b⟩
    refine wp_skip ?_
    refine zA (zB (zC ?_))
    refine qM (vJ 1) ?_
    refine qe (zA ?_)
    refine wp_ret ?_
    refine zP ?_
    refine zM (v := (vJ 1)) rfl rfl rfl ?_
    exact ⟨congrArg (fun z => Ending.returned (Value.int .i64 z)) ((hr.trans ((cmpL_ne (by omega) (by omega) (by unfold cmpI; split <;> omega)).trans (by unfold cmpI; rw [if_neg f, if_pos (by omega)]))).symm), b⟩
   refine wp_skip ?_
   refine zZ ?_
   refine zA (zC ?_)
   refine qM (vJ (j : Int)) ?_
   refine qD rfl (yJ rfl rfl (by omega)) ?_
   refine qM (vJ ((j : Int) + 1)) ?_
   refine qe ?_
   refine yC ?_
   refine ⟨_, ?_, _, rfl, _, j + 1, (pS 5 (pS 1 (pU 0))), rfl, a, (by omega), (hr.trans (cmpL_eq (by omega) (by omega) (by unfold cmpI; rw [if_neg (by omega), if_neg (by omega)]; omega)))⟩
   omega
  refine wp_exit ?_
  refine zY ?_
  refine yH ?_
  refine yD ?_
  refine zA (zB ?_)
  refine zW ?_
  refine zB (zC ?_)
  refine qM u ?_
  refine qD rfl (zO Tryd.underlying40 (v := u) rfl hu) ?_
  refine qM v ?_
  refine qD rfl (zO Tryd.underlying40 (v := v) rfl hv) ?_
  refine qD rfl (yU rfl rfl) ?_
  refine qM (.bool (decide (((xs.length : Int) : Int) < (ys.length : Int)))) ?_
  refine qe (zA ?_)
  refine yA (p := ((xs.length : Int) : Int) < (ys.length : Int)) rfl rfl (fun aa => ?_) (fun aa => ?_)
  ·skip
   refine zB (zC ?_)
   refine qM (vJ (-1)) ?_
   refine qe (zA ?_)
   refine wp_ret ?_
   refine zP ?_
   refine zM (v := (vJ (-1))) rfl rfl rfl ?_
   exact ⟨congrArg (fun z => Ending.returned (Value.int .i64 z)) ((hr.trans (cmpL_less (by omega) (by omega))).symm), c⟩
  refine zB (zC ?_)
  refine qM u ?_
  refine qD rfl (zO Tryd.underlying40 (v := u) rfl hu) ?_
  refine qM v ?_
  refine qD rfl (zO Tryd.underlying40 (v := v) rfl hv) ?_
  refine qD rfl (r_gtr rfl rfl) ?_
  refine qM (.bool (decide (((ys.length : Int) : Int) < (xs.length : Int)))) ?_
  refine qe (zA ?_)
  refine yA (p := ((ys.length : Int) : Int) < (xs.length : Int)) rfl rfl (fun ab => ?_) (fun ab => ?_)
  ·skip
   refine zB (zC ?_)
   refine qM (vJ 1) ?_
   refine qe (zA ?_)
   refine wp_ret ?_
   refine zP ?_
   refine zM (v := (vJ 1)) rfl rfl rfl ?_
   exact ⟨congrArg (fun z => Ending.returned (Value.int .i64 z)) ((hr.trans (cmpL_more (by omega) (by omega))).symm), c⟩
  refine wp_skip ?_
  refine zZ ?_
  refine zA (zB (zC ?_))
  refine qM (vJ 0) ?_
  refine qe (zA ?_)
  refine wp_ret ?_
  refine zP ?_
  refine zM (v := (vJ 0)) rfl rfl rfl ?_
  exact ⟨congrArg (fun z => Ending.returned (Value.int .i64 z)) ((hr.trans (cmpL_same (by omega) (by omega))).symm), c⟩
 refine qW ?_
 refine qW ?_
 refine qW ?_
 refine qW ?_
 refine qD rfl (yO (v := (.bool false)) rfl rfl) ?_
 refine qe (zA ?_)
 refine qR rfl rfl ?_
 refine wp_exit ?_
 refine zY ?_
 refine yH ?_
 refine yD ?_
 refine zA (zB ?_)
 refine zW ?_
 refine zB (zC ?_)
 refine qM u ?_
 refine qD rfl (zO Tryd.underlying40 (v := u) rfl hu) ?_
 refine qM v ?_
 refine qD rfl (zO Tryd.underlying40 (v := v) rfl hv) ?_
 refine qD rfl (yU rfl rfl) ?_
 refine qM (.bool (decide (((xs.length : Int) : Int) < (ys.length : Int)))) ?_
 refine qe (zA ?_)
 refine yA (p := ((xs.length : Int) : Int) < (ys.length : Int)) rfl rfl (fun ac => ?_) (fun ac => ?_)
 ·skip
  refine zB (zC ?_)
  refine qM (vJ (-1)) ?_
  refine qe (zA ?_)
  refine wp_ret ?_
  refine zP ?_
  refine zM (v := (vJ (-1))) rfl rfl rfl ?_
  exact ⟨congrArg (fun z => Ending.returned (Value.int .i64 z)) ((hr.trans (cmpL_less (by omega) (by omega))).symm), c⟩
 refine zB (zC ?_)
 refine qM u ?_
 refine qD rfl (zO Tryd.underlying40 (v := u) rfl hu) ?_
 refine qM v ?_
 refine qD rfl (zO Tryd.underlying40 (v := v) rfl hv) ?_
 refine qD rfl (r_gtr rfl rfl) ?_
 refine qM (.bool (decide (((ys.length : Int) : Int) < (xs.length : Int)))) ?_
 refine qe (zA ?_)
 refine yA (p := ((ys.length : Int) : Int) < (xs.length : Int)) rfl rfl (fun ad => ?_) (fun ad => ?_)
 ·skip
  refine zB (zC ?_)
  refine qM (vJ 1) ?_
  refine qe (zA ?_)
  refine wp_ret ?_
  refine zP ?_
  refine zM (v := (vJ 1)) rfl rfl rfl ?_
  exact ⟨congrArg (fun z => Ending.returned (Value.int .i64 z)) ((hr.trans (cmpL_more (by omega) (by omega))).symm), c⟩
 refine wp_skip ?_
 refine zZ ?_
 refine zA (zB (zC ?_))
 refine qM (vJ 0) ?_
 refine qe (zA ?_)
 refine wp_ret ?_
 refine zP ?_
 refine zM (v := (vJ 0)) rfl rfl rfl ?_
 exact ⟨congrArg (fun z => Ending.returned (Value.int .i64 z)) ((hr.trans (cmpL_same (by omega) (by omega))).symm), c⟩

theorem l3NodeAhead_spec {w : World} {G : Pin} {al ar bl br : Value} {a b : Nd} (hP : Pins G w) (hal : RSl eInt G al a.l) (har : RSl eInt G ar a.r) (hbl : RSl eInt G bl b.l) (hbr : RSl eInt G br b.r) :
  Calls Tryd.prog 73 [(.agg [al, ar].toArray), (.agg [bl, br].toArray)].toArray w fun e w' => ∃ G', e = .returned (.bool (decide (aheadI a b < 0))) ∧ Ext noS G w G' w' := by
 refine zV (n := 21) Tryd.func73 Tryd.ntmps73 rfl rfl ?_
 have h : Ext noS G w G w := Ext.refl hP
 refine zB (zC ?_)
 refine qI rfl (qA [al, ar] (v := (.agg [al, ar].toArray)) rfl rfl h.pins (fun t w2 am x y aa => ?_))
 have ab := h.step y aa
 have ac : w.heap.size ≤ t := by have := h.size; omega
 obtain ⟨G9, f, i, j, ao⟩ := x.shut ab ac
 refine qI rfl (qA [bl, br] (v := (.agg [bl, br].toArray)) rfl rfl i.pins (fun ad ap aq ae af ag => ?_))
 have ah := i.step af ag
 have ai : w.heap.size ≤ ad := by have := i.size; omega
 obtain ⟨au, c, g, m, av⟩ := ae.shut ah ai
 refine qM (.bool false) ?_
 refine qe (zA (zB (zB (zC ?_))))
 refine qD rfl (zN (k := 0) rfl Tryd.underlying60 rfl nz40 rfl) ?_
 refine qD rfl (zQ (u := al) ag40 rfl ((Pins.of_le g.pins c) _ _ _ (j 0 _ rfl))) ?_
 refine qD rfl (zN (k := 0) rfl Tryd.underlying60 rfl nz40 rfl) ?_
 refine qD rfl (zQ (u := bl) ag40 rfl (g.pins _ _ _ (m 0 _ rfl))) ?_
 refine qI rfl (zL (vs := [al, bl]) Tryd.func81 nm81 rfl rfl rfl ?_)
 refine Calls.mono (l3List_spec g.pins (hal.mono (Pin.le_trans f c)) (hbl.mono (Pin.le_trans f c))) ?_
 rintro _ aw ⟨rfl, o⟩
 refine ⟨_, rfl, ?_⟩
 have d := g.step o.pins o.below
 refine qM (vJ (cmpL a.l b.l)) ?_
 refine qe (zA (zB (zC ?_)))
 refine qM (vJ (cmpL a.l b.l)) ?_
 refine qD rfl (r_neq rfl rfl) ?_
 refine qe (zA ?_)
 refine yA (p := (cmpL a.l b.l : Int) ≠ 0) rfl rfl (fun q => ?_) (fun q => ?_)
 ·skip
  refine zB (zC ?_)
  refine qM (vJ (cmpL a.l b.l)) ?_
  refine qD rfl (yU rfl rfl) ?_
  refine qM (.bool (decide ((cmpL a.l b.l : Int) < 0))) ?_
  refine qe (zA ?_)
  refine wp_ret ?_
  refine zP ?_
  refine zM (v := (.bool (decide ((cmpL a.l b.l : Int) < 0)))) rfl rfl rfl ?_
  exact ⟨_, congrArg (fun z => Ending.returned (Value.bool z)) (by rw [ahead_left q]), d⟩
 refine wp_skip ?_
 refine zA (zB (zC ?_))
 refine qD rfl (zN (k := 1) rfl Tryd.underlying60 rfl nz40 rfl) ?_
 refine qD rfl (zQ (u := ar) ag40 rfl ((Pins.of_le d.pins c) _ _ _ (j 1 _ rfl))) ?_
 refine qD rfl (zN (k := 1) rfl Tryd.underlying60 rfl nz40 rfl) ?_
 refine qD rfl (zQ (u := br) ag40 rfl (d.pins _ _ _ (m 1 _ rfl))) ?_
 refine qI rfl (zL (vs := [ar, br]) Tryd.func81 nm81 rfl rfl rfl ?_)
 refine Calls.mono (l3List_spec d.pins (har.mono (Pin.le_trans f c)) (hbr.mono (Pin.le_trans f c))) ?_
 rintro _ ax ⟨rfl, s⟩
 refine ⟨_, rfl, ?_⟩
 have aj := d.step s.pins s.below
 refine qD rfl (yU rfl rfl) ?_
 refine qM (.bool (decide ((cmpL a.r b.r : Int) < 0))) ?_
 refine qe (zA ?_)
 refine wp_ret ?_
 refine zP ?_
 refine zM (v := (.bool (decide ((cmpL a.r b.r : Int) < 0)))) rfl rfl rfl ?_
 exact ⟨_, congrArg (fun z => Ending.returned (Value.bool z)) (by rw [ahead_right (by omega)]), aj⟩

theorem l3Same_spec {w : World} {G : Pin} {u v : Value} {xs ys : List Nd} (hP : Pins G w) (hu : RSl eNode G u xs) (hv : RSl eNode G v ys) :
  Calls Tryd.prog 51 [(.agg [u].toArray), (.agg [v].toArray)].toArray w fun e w' => ∃ G', e = .returned (.bool (decide (xs = ys))) ∧ Ext noS G w G' w' := by
 refine zV (n := 50) Tryd.func51 Tryd.ntmps51 rfl rfl ?_
 have s : Ext noS G w G w := Ext.refl hP
 have hm := hu.max
 refine zB (zC ?_)
 refine qI rfl (qA [u] (v := (.agg [u].toArray)) rfl rfl s.pins (fun b1 w2 ba an ao ap => ?_))
 have aq := s.step ao ap
 have ar : w.heap.size ≤ b1 := by have := s.size; omega
 obtain ⟨G9, d, x, m, bc⟩ := an.shut aq ar
 refine qI rfl (qA [v] (v := (.agg [v].toArray)) rfl rfl x.pins (fun ac bd be au av aw => ?_))
 have ax := x.step av aw
 have ay : w.heap.size ≤ ac := by have := x.size; omega
 obtain ⟨ad, c, o, y, bf⟩ := au.shut ax ay
 refine qM (.bool false) ?_
 refine qe (zA (zB (zB (zC ?_))))
 refine qD rfl (zN (k := 0) rfl Tryd.underlying26 rfl nz24 rfl) ?_
 refine qD rfl (zQ (u := u) ag24 rfl ((Pins.of_le o.pins c) _ _ _ (m 0 _ rfl))) ?_
 refine qD rfl (zO Tryd.underlying24 (v := u) rfl hu) ?_
 refine qD rfl (zN (k := 0) rfl Tryd.underlying26 rfl nz24 rfl) ?_
 refine qD rfl (zQ (u := v) ag24 rfl (o.pins _ _ _ (y 0 _ rfl))) ?_
 refine qD rfl (zO Tryd.underlying24 (v := v) rfl hv) ?_
 refine qD rfl (r_neq rfl rfl) ?_
 refine qe (zA ?_)
 refine yA (p := ((xs.length : Int) : Int) ≠ (ys.length : Int)) rfl rfl (fun ae => ?_) (fun ae => ?_)
 ·skip
  refine zB (zC ?_)
  refine qM (.bool false) ?_
  refine qe (zA ?_)
  refine wp_ret ?_
  refine zP ?_
  refine zM (v := (.bool false)) rfl rfl rfl ?_
  exact ⟨_, congrArg (fun z => Ending.returned (Value.bool z)) (decide_eq_false (fun e => ae (by rw [e]))).symm, o⟩
 refine wp_skip ?_
 refine zA (zB (zB (zC ?_)))
 refine qM (vJ 0) ?_
 refine qe (zA ?_)
 refine zW ?_
 refine yL (fun (k : Nat) (en : Nat → Value) (W : World) => ∃ (af : Nat → Value) (j : Nat), en = (upd (upd (upd af 2 (.pointer (some ⟨b1, 0, none⟩))) 3 (.pointer (some ⟨ac, 0, none⟩))) 5 (vJ (j : Int))) ∧ k = xs.length - j ∧ Ext noS G w ad W ∧ (j ≤ xs.length) ∧ (xs.length = ys.length) ∧ (∀ i, i < j → xs.getD i default = ys.getD i default)) _ ⟨_, 0, (pS 5 (pS 3 (pU 2))), rfl, o, Nat.zero_le _, (by omega), (fun i hi => absurd hi (Nat.not_lt_zero i))⟩ ?_
 rintro bg _ aa ⟨af, j, rfl, bh, q, hj, heq, hp⟩
 refine zB (zB (zC ?_))
 refine qM (vJ (j : Int)) ?_
 refine qD rfl (zN (k := 0) rfl Tryd.underlying26 rfl nz24 rfl) ?_
 refine qD rfl (zQ (u := u) ag24 rfl ((Pins.of_le q.pins c) _ _ _ (m 0 _ rfl))) ?_
 refine qD rfl (zO Tryd.underlying24 (v := u) rfl hu) ?_
 refine qD rfl (yU rfl rfl) ?_
 refine qe (zA ?_)
 refine yA (p := ((j : Int) : Int) < (xs.length : Int)) rfl rfl (fun az => ?_) (fun az => ?_)
 ·skip
  refine wp_skip ?_
  refine zA (zB ?_)
  refine zW ?_
  refine zB ?_
  refine xE (S := fun wz => Pins ad wz) (last := 30) (by kernel_rfl) rfl ?_
  have ag : Below aa.heap.size aa aa.drew := (Below.refl _ _).drew
  have a0 := q.pins.below ag
  have b := q.step a0 ag
  refine dT (i := 0) rfl rfl (by kernel_rfl) (fun _ _ => zN (k := 0) rfl Tryd.underlying26 rfl nz24 rfl) b.pins ?_
  refine dT (i := 1) rfl rfl (by kernel_rfl) (fun _ hS => zQ (u := u) ag24 rfl ((Pins.of_le hS c) _ _ _ (m 0 _ rfl))) b.pins ?_
  refine dM 2 (vJ (j : Int)) b.pins ?_
  refine dT (i := 3) rfl rfl (by kernel_rfl) (fun _ _ => zH Tryd.underlying24 sz60 (v := u) rfl rfl hu (by omega) (by omega)) b.pins ?_
  refine dT (i := 4) rfl rfl (by kernel_rfl) (fun _ _ => xJ (off := 0) Tryd.underlying60 rfl rfl nz40 (z := (j : Int)) (k := 0) rfl hu (by omega) (by omega)) b.pins ?_
  obtain ⟨a1, ah, a2⟩ := nm_nl (hu.at (z := (j : Int)) (by omega) (by omega)) (j := j) rfl
  have bi := ah.max
  refine dT (i := 5) rfl rfl (by kernel_rfl) (fun _ hS => a2 ag40 rfl (Pins.of_le hS (Pin.le_trans d c))) b.pins ?_
  refine dT (i := 6) rfl rfl (by kernel_rfl) (fun _ _ => zN (k := 0) rfl Tryd.underlying26 rfl nz24 rfl) b.pins ?_
  refine dT (i := 7) rfl rfl (by kernel_rfl) (fun _ hS => zQ (u := v) ag24 rfl (hS _ _ _ (y 0 _ rfl))) b.pins ?_
  refine dM 8 (vJ (j : Int)) b.pins ?_
  refine dT (i := 9) rfl rfl (by kernel_rfl) (fun _ _ => zH Tryd.underlying24 sz60 (v := v) rfl rfl hv (by omega) (by omega)) b.pins ?_
  refine dT (i := 10) rfl rfl (by kernel_rfl) (fun _ _ => xJ (off := 0) Tryd.underlying60 rfl rfl nz40 (z := (j : Int)) (k := 0) rfl hv (by omega) (by omega)) b.pins ?_
  obtain ⟨a3, ai, a4⟩ := nm_nl (hv.at (z := (j : Int)) (by omega) (by omega)) (j := j) rfl
  have bj := ai.max
  refine dT (i := 11) rfl rfl (by kernel_rfl) (fun _ hS => a4 ag40 rfl (Pins.of_le hS (Pin.le_trans d c))) b.pins ?_
  refine dO (i := 12) (zS (i := 12) rfl rfl rfl (zD rfl _) (zL (vs := [a1, a3]) Tryd.func69 nm69 rfl rfl rfl ?_))
  refine Calls.mono (l1Same_spec b.pins (ah.mono (Pin.le_trans d c)) (ai.mono (Pin.le_trans d c))) ?_
  rintro _ bk ⟨rfl, aj⟩
  refine ⟨_, rfl, ?_⟩
  have a := b.step aj.pins aj.below
  refine ⟨fun _ => a.pins, ?_⟩
  refine dT (i := 13) rfl rfl (by kernel_rfl) (fun _ _ => xW rfl) a.pins ?_
  refine dM 14 (.bool (!(decide (((xs.getD j default).l) = ((ys.getD j default).l))))) a.pins ?_
  refine drbn (t := 34) rfl (fun f => ?_) (fun f => ?_)
  ·skip
   replace f := of_decide_eq_true f
   refine yW (i := 15) rfl rfl rfl (yI rfl rfl rfl rfl) (by kernel_rfl) (fun _ _ => zN (k := 0) rfl Tryd.underlying26 rfl nz24 rfl) a.pins ?_
   refine yW (i := 16) rfl rfl rfl (yI rfl rfl rfl rfl) (by kernel_rfl) (fun _ hS => zQ (u := u) ag24 rfl ((Pins.of_le hS c) _ _ _ (m 0 _ rfl))) a.pins ?_
   refine yW (i := 17) rfl rfl rfl (yI rfl rfl rfl rfl) (by kernel_rfl) (fun _ _ => zR (v := (vJ (j : Int))) rfl) a.pins ?_
   refine yW (i := 18) rfl rfl rfl (yI rfl rfl rfl rfl) (by kernel_rfl) (fun _ _ => zH Tryd.underlying24 sz60 (v := u) rfl rfl hu (by omega) (by omega)) a.pins ?_
   refine yW (i := 19) rfl rfl rfl (yI rfl rfl rfl rfl) (by kernel_rfl) (fun _ _ => xJ (off := 1) Tryd.underlying60 rfl rfl nz40 (z := (j : Int)) (k := 0) rfl hu (by omega) (by omega)) a.pins ?_
   obtain ⟨a5, ak, a6⟩ := nm_nr (hu.at (z := (j : Int)) (by omega) (by omega)) (j := j) rfl
   have bl := ak.max
   refine yW (i := 20) rfl rfl rfl (yI rfl rfl rfl rfl) (by kernel_rfl) (fun _ hS => a6 ag40 rfl (Pins.of_le hS (Pin.le_trans d c))) a.pins ?_
   refine yW (i := 21) rfl rfl rfl (yI rfl rfl rfl rfl) (by kernel_rfl) (fun _ _ => zN (k := 0) rfl Tryd.underlying26 rfl nz24 rfl) a.pins ?_
   refine yW (i := 22) rfl rfl rfl (yI rfl rfl rfl rfl) (by kernel_rfl) (fun _ hS => zQ (u := v) ag24 rfl (hS _ _ _ (y 0 _ rfl))) a.pins ?_
   refine yW (i := 23) rfl rfl rfl (yI rfl rfl rfl rfl) (by kernel_rfl) (fun _ _ => zR (v := (vJ (j : Int))) rfl) a.pins ?_
   refine yW (i := 24) rfl rfl rfl (yI rfl rfl rfl rfl) (by kernel_rfl) (fun _ _ => zH Tryd.underlying24 sz60 (v := v) rfl rfl hv (by omega) (by omega)) a.pins ?_
   refine yW (i := 25) rfl rfl rfl (yI rfl rfl rfl rfl) (by kernel_rfl) (fun _ _ => xJ (off := 1) Tryd.underlying60 rfl rfl nz40 (z := (j : Int)) (k := 0) rfl hv (by omega) (by omega)) a.pins ?_
   obtain ⟨a7, al, a8⟩ := nm_nr (hv.at (z := (j : Int)) (by omega) (by omega)) (j := j) rfl
   have bm := al.max
   refine yW (i := 26) rfl rfl rfl (yI rfl rfl rfl rfl) (by kernel_rfl) (fun _ hS => a8 ag40 rfl (Pins.of_le hS (Pin.le_trans d c))) a.pins ?_
   refine dO (i := 27) (zS (i := 27) rfl rfl rfl (yI rfl rfl rfl rfl) (zL (vs := [a5, a7]) Tryd.func69 nm69 rfl rfl rfl ?_))
   refine Calls.mono (l1Same_spec a.pins (ak.mono (Pin.le_trans d c)) (al.mono (Pin.le_trans d c))) ?_
   rintro _ bn ⟨rfl, am⟩
   refine ⟨_, rfl, ?_⟩
   have h := a.step am.pins am.below
   refine ⟨fun _ => h.pins, ?_⟩
   refine yW (i := 28) rfl rfl rfl (yI rfl rfl rfl rfl) (by kernel_rfl) (fun _ _ => xW rfl) h.pins ?_
   refine dT (i := 29) rfl rfl (by kernel_rfl) (fun _ _ => yO (v := (.bool (!(decide (((xs.getD j default).r) = ((ys.getD j default).r)))))) rfl rfl) h.pins ?_
   refine yE (by kernel_rfl) ?_
   refine zA ?_
   refine c_ifn rfl rfl (fun g => ?_) (fun g => ?_)
   ·skip
    replace g := of_decide_eq_true g
    refine wp_skip ?_
    refine zZ ?_
    refine zA (zC ?_)
    refine qM (vJ (j : Int)) ?_
    refine qD rfl (yJ rfl rfl (by omega)) ?_
    refine qM (vJ ((j : Int) + 1)) ?_
    refine qe ?_
    refine yC ?_
    refine ⟨_, ?_, _, rfl, _, j + 1, (pS 5 (pS 3 (pU 2))), rfl, h, (by omega), heq, (eqstepN hp f g)⟩
    omega
   replace g := of_decide_eq_false g
   refine zB (zC ?_)
   refine qM (.bool false) ?_
   refine qe (zA ?_)
   refine wp_ret ?_
   refine zP ?_
   refine zM (v := (.bool false)) rfl rfl rfl ?_
   exact ⟨_, congrArg (fun z => Ending.returned (Value.bool z)) (decide_eq_false (fun e => g (by rw [e]))).symm, h⟩
  replace f := of_decide_eq_false f
  refine yG (i := 15) rfl rfl (yS rfl rfl rfl rfl rfl) (by kernel_rfl) a.pins ?_
  refine yG (i := 16) rfl rfl (yS rfl rfl rfl rfl rfl) (by kernel_rfl) a.pins ?_
  refine yG (i := 17) rfl rfl (yS rfl rfl rfl rfl rfl) (by kernel_rfl) a.pins ?_
  refine yG (i := 18) rfl rfl (yS rfl rfl rfl rfl rfl) (by kernel_rfl) a.pins ?_
  refine yG (i := 19) rfl rfl (yS rfl rfl rfl rfl rfl) (by kernel_rfl) a.pins ?_
  refine yG (i := 20) rfl rfl (yS rfl rfl rfl rfl rfl) (by kernel_rfl) a.pins ?_
  refine yG (i := 21) rfl rfl (yS rfl rfl rfl rfl rfl) (by kernel_rfl) a.pins ?_
  refine yG (i := 22) rfl rfl (yS rfl rfl rfl rfl rfl) (by kernel_rfl) a.pins ?_
  refine yG (i := 23) rfl rfl (yS rfl rfl rfl rfl rfl) (by kernel_rfl) a.pins ?_
  refine yG (i := 24) rfl rfl (yS rfl rfl rfl rfl rfl) (by kernel_rfl) a.pins ?_
  refine yG (i := 25) rfl rfl (yS rfl rfl rfl rfl rfl) (by kernel_rfl) a.pins ?_
  refine yG (i := 26) rfl rfl (yS rfl rfl rfl rfl rfl) (by kernel_rfl) a.pins ?_
  refine yG (i := 27) rfl rfl (yS rfl rfl rfl rfl rfl) (by kernel_rfl) a.pins ?_
  refine yG (i := 28) rfl rfl (yS rfl rfl rfl rfl rfl) (by kernel_rfl) a.pins ?_
  refine dT (i := 29) rfl rfl (by kernel_rfl) (fun _ _ => yT (v := (.bool true)) rfl rfl) a.pins ?_
  refine yE (by kernel_rfl) ?_
  refine zA ?_
  refine c_ifT rfl rfl ?_
  refine zB (zC ?_)
  refine qM (.bool false) ?_
  refine qe (zA ?_)
  refine wp_ret ?_
  refine zP ?_
  refine zM (v := (.bool false)) rfl rfl rfl ?_
  exact ⟨_, congrArg (fun z => Ending.returned (Value.bool z)) (decide_eq_false (fun e => f (by rw [e]))).symm, a⟩
 refine wp_exit ?_
 refine zY ?_
 refine yH ?_
 refine yD ?_
 refine zA (zB (zC ?_))
 refine qM (.bool true) ?_
 refine qe (zA ?_)
 refine wp_ret ?_
 refine zP ?_
 refine zM (v := (.bool true)) rfl rfl rfl ?_
 exact ⟨_, congrArg (fun z => Ending.returned (Value.bool z)) (decide_eq_true (eqdoneN heq (by omega) hp)).symm, q⟩

theorem put_spec {w : World} {G : Pin} {b : Nat} {bu bv : Value} {ns : List Nd} {bs : List Int} (hP : Pins G w) (hB : Bk 60 3 G w b bu bv ns bs) (hok : BookOk ns bs) {x y : Value} {xs ys : List Int} (hx : RSl eInt G x xs) (hy : RSl eInt G y ys) (hls : xs.length ≤ 1048576 ∧ ys.length ≤ 1048576) (hk1 : ∀ i, i < xs.length → 0 ≤ xs.getD i 0 ∧ xs.getD i 0 < ns.length) (hk2 : ∀ i, i < ys.length → 0 ≤ ys.getD i 0 ∧ ys.getD i 0 < ns.length) :
  Calls Tryd.prog 63 [(.pointer (some ⟨b, 0, none⟩)), x, y].toArray w fun e w' => ∃ (u' v' : Value) (G' : Pin), e = .returned (vJ (putK ns bs xs ys)) ∧ Bk 60 3 G' w' b u' v' (putN ns bs xs ys) (putB ns bs xs ys) ∧ Ext (inS b bu bv) G w G' w' ∧ Lo w (inS b bu bv) u'.ownBlock ∧ Lo w (inS b bu bv) v'.ownBlock := by
 refine zV (n := 136) Tryd.func63 Tryd.ntmps63 rfl rfl ?_
 have bb : Ext (inS b bu bv) G w G w := Ext.refl hP
 have hbx := hB.bx
 have hou := hB.ou
 have hov := hB.ov
 have habu := hB.abu
 have habv := hB.abv
 have hauv := hB.auv
 have hlob : Lo w (inS b bu bv) (some b) := lo_b
 have hlou : Lo w (inS b bu bv) bu.ownBlock := lo_u
 have hlov : Lo w (inS b bu bv) bv.ownBlock := lo_v
 have hlen := hok.len
 have hlim := hok.lim
 refine zB (zC ?_)
 refine qM (vJ 0) ?_
 refine qe (zA (zB (zC ?_)))
 refine qI rfl (xH (E := eInt) (e := 3) Tryd.underlying40 sz3 bb.pins (fun u1 w2 dc dd az bc => ?_))
 have bd := bb.step dd az
 have b8 := hou.below az
 have b9 := hov.below az
 have ca := hbx.below az
 have de : Apart u1.ownBlock bu.ownBlock := zG bc hou.lt
 have df : Apart u1.ownBlock bv.ownBlock := zG bc hov.lt
 have dg : Apart u1.ownBlock (some b) := zI bc hbx.lt
 have cb : Own eInt 3 G w2 w.heap.size u1 ([]) := dc.weaken bb.size
 refine qI rfl (xH (E := eInt) (e := 3) Tryd.underlying40 sz3 bd.pins (fun ad dh di dj aq a0 => ?_))
 have dk := bd.step dj aq
 have dl := b8.below aq
 have dm := b9.below aq
 have dn := cb.below aq
 have dp := ca.below aq
 have dq : Apart ad.ownBlock bu.ownBlock := zG a0 b8.lt
 have dr : Apart ad.ownBlock bv.ownBlock := zG a0 b9.lt
 have ds : Apart ad.ownBlock u1.ownBlock := zG a0 cb.lt
 have dt : Apart ad.ownBlock (some b) := zI a0 ca.lt
 have du : Own eInt 3 G dh w.heap.size ad ([]) := di.weaken bd.size
 refine qM u1 ?_
 refine qM ad ?_
 refine qe (zA (zB (zC ?_)))
 refine qM (vJ 0) ?_
 refine qe (zA (zB (zB (zC ?_))))
 refine qM (vJ 0) ?_
 refine qe (zA ?_)
 refine zW ?_
 obtain ⟨cc, ah, dv, dw, a1⟩ := dn.sealed dk
 have dx := dl.moreO ah a1 de.symm
 have dy := dm.moreO ah a1 df.symm
 have dz := du.moreO ah a1 ds
 have d0 := dp.moreO a1 dg.symm
 refine yL (fun (k : Nat) (en : Nat → Value) (W : World) => ∃ (ae : Nat → Value) (i : Nat) (lo : Value) (ls : List Int) (bn : Int) (GLi : Pin), en = (upd (upd (upd (upd (upd (upd (upd (upd ae 0 (.pointer (some ⟨b, 0, none⟩))) 1 x) 2 y) 6 (vJ 0)) 7 lo) 8 ad) 9 (vJ bn)) 10 (vJ (i : Int))) ∧ k = xs.length - i ∧ Ext (inS b bu bv) G w GLi W ∧ Pin.le cc GLi ∧ (i ≤ xs.length) ∧ (ls = sortL (xs.take i)) ∧ (ls.length ≤ i) ∧ (bn = bornOf bs (xs.take i) 0) ∧ (0 ≤ bn ∧ bn ≤ ns.length) ∧ (Own eNode 60 GLi W 0 bu (ns)) ∧ (Own eInt 3 GLi W 0 bv (bs)) ∧ (Own eInt 3 GLi W w.heap.size ad ([])) ∧ (Bx GLi W b [bu, bv]) ∧ (RSl eInt GLi lo (ls))) _ ⟨_, 0, u1, [], 0, cc, (pS 10 (pS 9 (pS 8 (pS 7 (pS 6 (pS 2 (pS 1 (pU 0)))))))), rfl, dv, Pin.le_refl _, Nat.zero_le _, rfl, Nat.le_refl 0, rfl, (by omega), dx, dy, dz, d0, dw⟩ ?_
 rintro fm _ fn ⟨ae, i, lo, ls, bn, GLi, rfl, fo, a2, ar, hji, hrls, holls, hbbn, hlbn, cd, ce, cf, cg, a3⟩
 refine zB (zB (zC ?_))
 refine qM (vJ (i : Int)) ?_
 refine qM x ?_
 refine qD rfl (zO Tryd.underlying40 (v := x) rfl hx) ?_
 refine qD rfl (yU rfl rfl) ?_
 refine qe (zA ?_)
 refine yA (p := ((i : Int) : Int) < (xs.length : Int)) rfl rfl (fun d1 => ?_) (fun d1 => ?_)
 ·skip
  have hki := hk1 i (by omega)
  have hbk := hok.born (xs.getD i 0).toNat (by omega)
  refine wp_skip ?_
  refine zA (zB ?_)
  refine zW ?_
  refine zB (zC ?_)
  refine qM lo ?_
  refine qM x ?_
  refine qM (vJ (i : Int)) ?_
  refine qD rfl (zH Tryd.underlying40 sz3 (v := x) rfl rfl hx (by omega) (by omega)) ?_
  refine qD rfl (zK (r := xs.getD i 0) rfl ag3 (z := (i : Int)) rfl hx (Pins.of_le a2.pins (Pin.le_trans ah ar)) (by omega) (by omega)) ?_
  refine qI rfl (zL (vs := [lo, (vJ (xs.getD i 0))]) Tryd.func77 nm77 rfl rfl rfl ?_)
  refine Calls.mono (l1Put_spec a2.pins a3 (by omega)) ?_
  rintro _ a4 ⟨ch, be, rfl, d2, ai⟩
  refine ⟨_, rfl, ?_⟩
  have bf := a2.tr ai
  have d3 := cd.ext ai
  have ci := ce.ext ai
  have d4 := cf.ext ai
  have d5 := cg.ext ai
  refine qM ch ?_
  refine qe (zA ?_)
  have d6 := Gadd.pins bf.pins bv
  have cj := ci.read
  refine xE (S := fun wz => BxR wz b [bu, bv] ∧ Pins be wz ∧ Pins (Gadd be a4 bv) wz) (last := 14) (by kernel_rfl) rfl ?_
  have aj : Below a4.heap.size a4 a4.drew := (Below.refl _ _).drew
  have d7 := bf.pins.below aj
  have c := bf.step d7 aj
  have d8 := d3.below aj
  have d9 := ci.below aj
  have ea := d4.below aj
  have f := d5.below aj
  have s := d6.below aj
  refine dT (i := 0) rfl rfl (by kernel_rfl) (fun _ _ => zR (v := (vJ bn)) rfl) ⟨f.reads, c.pins, s⟩ ?_
  refine dT (i := 1) rfl rfl (by kernel_rfl) (fun _ _ => zR (v := (.pointer (some ⟨b, 0, none⟩))) rfl) ⟨f.reads, c.pins, s⟩ ?_
  refine dT (i := 2) rfl rfl (by kernel_rfl) (fun _ _ => xA rfl) ⟨f.reads, c.pins, s⟩ ?_
  refine dT (i := 3) rfl rfl (by kernel_rfl) (fun _ _ => zN (k := 1) rfl Tryd.underlying83 rfl nz40 rfl) ⟨f.reads, c.pins, s⟩ ?_
  refine dT (i := 4) rfl rfl (by kernel_rfl) (fun _ hS => zQ (u := bv) ag40 rfl (hS.1 1 _ rfl)) ⟨f.reads, c.pins, s⟩ ?_
  refine dT (i := 5) rfl rfl (by kernel_rfl) (fun _ _ => zR (v := x) rfl) ⟨f.reads, c.pins, s⟩ ?_
  refine dT (i := 6) rfl rfl (by kernel_rfl) (fun _ _ => zR (v := (vJ (i : Int))) rfl) ⟨f.reads, c.pins, s⟩ ?_
  refine dT (i := 7) rfl rfl (by kernel_rfl) (fun _ _ => zH Tryd.underlying40 sz3 (v := x) rfl rfl hx (by omega) (by omega)) ⟨f.reads, c.pins, s⟩ ?_
  refine dT (i := 8) rfl rfl (by kernel_rfl) (fun _ hS => zK (r := xs.getD i 0) rfl ag3 (z := (i : Int)) rfl hx (Pins.of_le hS.2.1 (Pin.le_trans (Pin.le_trans ah ar) ai.le)) (by omega) (by omega)) ⟨f.reads, c.pins, s⟩ ?_
  refine dT (i := 9) rfl rfl (by kernel_rfl) (fun _ _ => zH Tryd.underlying40 sz3 (v := bv) rfl rfl cj (by omega) (by omega)) ⟨f.reads, c.pins, s⟩ ?_
  refine dT (i := 10) rfl rfl (by kernel_rfl) (fun _ hS => zK (r := bs.getD (xs.getD i 0).toNat 0) rfl ag3 (z := (xs.getD i 0)) rfl cj hS.2.2 (by omega) (by omega)) ⟨f.reads, c.pins, s⟩ ?_
  refine dT (i := 11) rfl rfl (by kernel_rfl) (fun _ _ => yJ rfl rfl (by omega)) ⟨f.reads, c.pins, s⟩ ?_
  refine dO (i := 12) (zS (i := 12) rfl rfl rfl (zD rfl _) (zL (vs := [(vJ bn), (vJ ((bs.getD (xs.getD i 0).toNat 0) + 1))]) Tryd.func78 nm78 rfl rfl rfl ?_))
  refine Calls.mono (l1Most_spec c.pins) ?_
  rintro _ _ ⟨rfl, rfl⟩
  refine ⟨_, rfl, ?_⟩
  refine ⟨fun _ => ⟨f.reads, c.pins, s⟩, ?_⟩
  refine dT (i := 13) rfl rfl (by kernel_rfl) (fun _ _ => r_assign (v := (vJ (max bn ((bs.getD (xs.getD i 0).toNat 0) + 1)))) rfl) ⟨f.reads, c.pins, s⟩ ?_
  refine yE (by kernel_rfl) ?_
  refine zZ ?_
  refine zA (zC ?_)
  refine qM (vJ (i : Int)) ?_
  refine qD rfl (yJ rfl rfl (by omega)) ?_
  refine qM (vJ ((i : Int) + 1)) ?_
  refine qe ?_
  refine yC ?_
  refine ⟨_, ?_, _, rfl, _, i + 1, ch, putL ls (xs.getD i 0), max bn ((bs.getD (xs.getD i 0).toNat 0) + 1), be, (pS 10 (pS 9 (pS 8 (pS 7 (pS 6 (pS 2 (pS 1 (pU 0)))))))), rfl, c, (Pin.le_trans ar ai.le), (by omega), (by rw [hrls, sort_next (by omega)]), (Nat.le_trans putL_length (by omega)), (by rw [hbbn, born_next (by omega)]), (by omega), d8, d9, ea, f, d2⟩
  omega
 refine wp_exit ?_
 refine zY ?_
 refine yH ?_
 refine yD ?_
 refine zA (zB (zB (zC ?_)))
 refine qM (vJ 0) ?_
 refine qe (zA ?_)
 refine zW ?_
 obtain ⟨ck, an, eb, ec, bg⟩ := cf.sealed a2
 have ed := cd.moreO an bg dq.symm
 have ee := ce.moreO an bg dr.symm
 have ef := cg.moreO bg dt.symm
 refine yL (fun (k : Nat) (en : Nat → Value) (W : World) => ∃ (ae : Nat → Value) (a : Nat) (ro : Value) (rs : List Int) (bm : Int) (ab : Pin), en = (upd (upd (upd (upd (upd (upd (upd ae 0 (.pointer (some ⟨b, 0, none⟩))) 2 y) 6 (vJ 0)) 7 lo) 8 ro) 9 (vJ bm)) 11 (vJ (a : Int))) ∧ k = ys.length - a ∧ Ext (inS b bu bv) G w ab W ∧ Pin.le ck ab ∧ (a ≤ ys.length) ∧ (rs = sortL (ys.take a)) ∧ (rs.length ≤ a) ∧ (bm = bornOf bs (ys.take a) bn) ∧ (0 ≤ bm ∧ bm ≤ ns.length) ∧ (Own eNode 60 ab W 0 bu (ns)) ∧ (Own eInt 3 ab W 0 bv (bs)) ∧ (Bx ab W b [bu, bv]) ∧ (RSl eInt ab ro (rs))) _ ⟨_, 0, ad, [], bn, ck, (pS 11 (pS 9 (pS 8 (pS 7 (pS 6 (pS 2 (pU 0))))))), rfl, eb, Pin.le_refl _, Nat.zero_le _, rfl, Nat.le_refl 0, rfl, (by omega), ed, ee, ef, ec⟩ ?_
 rintro fp _ fq ⟨ae, a, ro, rs, bm, ab, rfl, fr, a5, au, fs, hrrs, holrs, hbbm, hlbm, cl, cm, cn, a6⟩
 refine zB (zB (zC ?_))
 refine qM (vJ (a : Int)) ?_
 refine qM y ?_
 refine qD rfl (zO Tryd.underlying40 (v := y) rfl hy) ?_
 refine qD rfl (yU rfl rfl) ?_
 refine qe (zA ?_)
 refine yA (p := ((a : Int) : Int) < (ys.length : Int)) rfl rfl (fun eg => ?_) (fun eg => ?_)
 ·skip
  have hki := hk2 a (by omega)
  have hbk := hok.born (ys.getD a 0).toNat (by omega)
  refine wp_skip ?_
  refine zA (zB ?_)
  refine zW ?_
  refine zB (zC ?_)
  refine qM ro ?_
  refine qM y ?_
  refine qM (vJ (a : Int)) ?_
  refine qD rfl (zH Tryd.underlying40 sz3 (v := y) rfl rfl hy (by omega) (by omega)) ?_
  refine qD rfl (zK (r := ys.getD a 0) rfl ag3 (z := (a : Int)) rfl hy (Pins.of_le a5.pins (Pin.le_trans (Pin.le_trans (Pin.le_trans ah ar) an) au)) (by omega) (by omega)) ?_
  refine qI rfl (zL (vs := [ro, (vJ (ys.getD a 0))]) Tryd.func77 nm77 rfl rfl rfl ?_)
  refine Calls.mono (l1Put_spec a5.pins a6 (by omega)) ?_
  rintro _ a7 ⟨co, bh, rfl, eh, ao⟩
  refine ⟨_, rfl, ?_⟩
  have bi := a5.tr ao
  have ei := cl.ext ao
  have cp := cm.ext ao
  have ej := cn.ext ao
  refine qM co ?_
  refine qe (zA ?_)
  have ek := Gadd.pins bi.pins bv
  have cq := cp.read
  refine xE (S := fun wz => BxR wz b [bu, bv] ∧ Pins bh wz ∧ Pins (Gadd bh a7 bv) wz) (last := 14) (by kernel_rfl) rfl ?_
  have ap : Below a7.heap.size a7 a7.drew := (Below.refl _ _).drew
  have el := bi.pins.below ap
  have d := bi.step el ap
  have em := ei.below ap
  have eo := cp.below ap
  have m := ej.below ap
  have aa := ek.below ap
  refine dT (i := 0) rfl rfl (by kernel_rfl) (fun _ _ => zR (v := (vJ bm)) rfl) ⟨m.reads, d.pins, aa⟩ ?_
  refine dT (i := 1) rfl rfl (by kernel_rfl) (fun _ _ => zR (v := (.pointer (some ⟨b, 0, none⟩))) rfl) ⟨m.reads, d.pins, aa⟩ ?_
  refine dT (i := 2) rfl rfl (by kernel_rfl) (fun _ _ => xA rfl) ⟨m.reads, d.pins, aa⟩ ?_
  refine dT (i := 3) rfl rfl (by kernel_rfl) (fun _ _ => zN (k := 1) rfl Tryd.underlying83 rfl nz40 rfl) ⟨m.reads, d.pins, aa⟩ ?_
  refine dT (i := 4) rfl rfl (by kernel_rfl) (fun _ hS => zQ (u := bv) ag40 rfl (hS.1 1 _ rfl)) ⟨m.reads, d.pins, aa⟩ ?_
  refine dT (i := 5) rfl rfl (by kernel_rfl) (fun _ _ => zR (v := y) rfl) ⟨m.reads, d.pins, aa⟩ ?_
  refine dT (i := 6) rfl rfl (by kernel_rfl) (fun _ _ => zR (v := (vJ (a : Int))) rfl) ⟨m.reads, d.pins, aa⟩ ?_
  refine dT (i := 7) rfl rfl (by kernel_rfl) (fun _ _ => zH Tryd.underlying40 sz3 (v := y) rfl rfl hy (by omega) (by omega)) ⟨m.reads, d.pins, aa⟩ ?_
  refine dT (i := 8) rfl rfl (by kernel_rfl) (fun _ hS => zK (r := ys.getD a 0) rfl ag3 (z := (a : Int)) rfl hy (Pins.of_le hS.2.1 (Pin.le_trans (Pin.le_trans (Pin.le_trans (Pin.le_trans ah ar) an) au) ao.le)) (by omega) (by omega)) ⟨m.reads, d.pins, aa⟩ ?_
  refine dT (i := 9) rfl rfl (by kernel_rfl) (fun _ _ => zH Tryd.underlying40 sz3 (v := bv) rfl rfl cq (by omega) (by omega)) ⟨m.reads, d.pins, aa⟩ ?_
  refine dT (i := 10) rfl rfl (by kernel_rfl) (fun _ hS => zK (r := bs.getD (ys.getD a 0).toNat 0) rfl ag3 (z := (ys.getD a 0)) rfl cq hS.2.2 (by omega) (by omega)) ⟨m.reads, d.pins, aa⟩ ?_
  refine dT (i := 11) rfl rfl (by kernel_rfl) (fun _ _ => yJ rfl rfl (by omega)) ⟨m.reads, d.pins, aa⟩ ?_
  refine dO (i := 12) (zS (i := 12) rfl rfl rfl (zD rfl _) (zL (vs := [(vJ bm), (vJ ((bs.getD (ys.getD a 0).toNat 0) + 1))]) Tryd.func78 nm78 rfl rfl rfl ?_))
  refine Calls.mono (l1Most_spec d.pins) ?_
  rintro _ _ ⟨rfl, rfl⟩
  refine ⟨_, rfl, ?_⟩
  refine ⟨fun _ => ⟨m.reads, d.pins, aa⟩, ?_⟩
  refine dT (i := 13) rfl rfl (by kernel_rfl) (fun _ _ => r_assign (v := (vJ (max bm ((bs.getD (ys.getD a 0).toNat 0) + 1)))) rfl) ⟨m.reads, d.pins, aa⟩ ?_
  refine yE (by kernel_rfl) ?_
  refine zZ ?_
  refine zA (zC ?_)
  refine qM (vJ (a : Int)) ?_
  refine qD rfl (yJ rfl rfl (by omega)) ?_
  refine qM (vJ ((a : Int) + 1)) ?_
  refine qe ?_
  refine yC ?_
  refine ⟨_, ?_, _, rfl, _, a + 1, co, putL rs (ys.getD a 0), max bm ((bs.getD (ys.getD a 0).toNat 0) + 1), bh, (pS 11 (pS 9 (pS 8 (pS 7 (pS 6 (pS 2 (pU 0))))))), rfl, d, (Pin.le_trans au ao.le), (by omega), (by rw [hrrs, sort_next (by omega)]), (Nat.le_trans putL_length (by omega)), (by rw [hbbm, born_next (by omega)]), (by omega), em, eo, m, eh⟩
  omega
 refine wp_exit ?_
 refine zY ?_
 refine yH ?_
 refine yD ?_
 refine zA (zB (zB (zC ?_)))
 rw [take_all (by omega)] at hrls hrrs hbbn hbbm
 have e1 : putNd xs ys = ⟨ls, rs⟩ := by unfold putNd; rw [hrls, hrrs]
 have e2 : putBorn bs xs ys = bm := by unfold putBorn; rw [← hbbn, ← hbbm]
 refine qM (vJ 0) ?_
 refine qe (zA ?_)
 refine zW ?_
 have e0 : True := trivial
 refine yL (fun (k : Nat) (en : Nat → Value) (W : World) => ∃ (ae : Nat → Value) (q : Nat), en = (upd (upd (upd (upd (upd ae 0 (.pointer (some ⟨b, 0, none⟩))) 7 lo) 8 ro) 9 (vJ bm)) 12 (vJ (q : Int))) ∧ k = ns.length - q ∧ Ext (inS b bu bv) G w ab W ∧ (q ≤ ns.length) ∧ (∀ i, i < q → NotAt ns bs ⟨ls, rs⟩ bm i) ∧ (Own eNode 60 ab W 0 bu (ns)) ∧ (Own eInt 3 ab W 0 bv (bs)) ∧ (Bx ab W b [bu, bv])) _ ⟨_, 0, (pS 12 (pS 9 (pS 8 (pS 7 (pU 0))))), rfl, a5, Nat.zero_le _, (fun i hi => absurd hi (Nat.not_lt_zero i)), cl, cm, cn⟩ ?_
 rintro fu _ fv ⟨ae, q, rfl, fw, af, fx, hp, ak, av, al⟩
 refine zB (zB (zC ?_))
 refine qM (vJ (q : Int)) ?_
 refine qM (.pointer (some ⟨b, 0, none⟩)) ?_
 refine qD rfl (xA rfl) ?_
 refine qD rfl (zN (k := 0) rfl Tryd.underlying83 rfl nz24 rfl) ?_
 refine qD rfl (zQ (u := bu) ag24 rfl (al.cell (o := 0) rfl)) ?_
 refine qD rfl (zO Tryd.underlying24 (v := bu) rfl ak.read) ?_
 refine qD rfl (yU rfl rfl) ?_
 refine qe (zA ?_)
 refine yA (p := ((q : Int) : Int) < (ns.length : Int)) rfl rfl (fun ep => ?_) (fun ep => ?_)
 ·skip
  refine wp_skip ?_
  refine zA (zB ?_)
  refine zW ?_
  refine zB (zC ?_)
  refine qM (.pointer (some ⟨b, 0, none⟩)) ?_
  refine qD rfl (xA rfl) ?_
  refine qD rfl (zN (k := 1) rfl Tryd.underlying83 rfl nz40 rfl) ?_
  refine qD rfl (zQ (u := bv) ag40 rfl (al.cell (o := 1) rfl)) ?_
  refine qM (vJ (q : Int)) ?_
  refine qD rfl (zH Tryd.underlying40 sz3 (v := bv) rfl rfl av.read (by omega) (by omega)) ?_
  refine qD rfl (zK (r := bs.getD q 0) rfl ag3 (z := (q : Int)) rfl av.read (Gadd.pins af.pins bv) (by omega) (by omega)) ?_
  refine qM (vJ bm) ?_
  refine qD rfl (r_eql rfl rfl) ?_
  refine qM (.bool (decide ((bs.getD q 0 : Int) = bm))) ?_
  refine qbd (p := (bs.getD q 0 : Int) = bm) (t := 83) rfl (fun bl => ?_) (fun bl => ?_)
  ·skip
   refine qN (zR (v := (.pointer (some ⟨b, 0, none⟩))) rfl) ?_
   refine qN (xA rfl) ?_
   refine qN (zN (k := 0) rfl Tryd.underlying83 rfl nz24 rfl) ?_
   refine qN (zQ (u := bu) ag24 rfl (al.cell (o := 0) rfl)) ?_
   refine qN (zR (v := (vJ (q : Int))) rfl) ?_
   refine qN (zH Tryd.underlying24 sz60 (v := bu) rfl rfl ak.read (by omega) (by omega)) ?_
   refine qN (xJ (off := 0) Tryd.underlying60 rfl rfl nz40 (z := (q : Int)) (k := 0) rfl ak.read (by omega) (by omega)) ?_
   obtain ⟨eq, cr, er⟩ := nm_nl (ak.at (z := (q : Int)) (by omega) (by omega)) (j := q) rfl
   have fy := cr.max
   refine qN (er ag40 rfl (Gadd.pins af.pins bu)) ?_
   refine qN (zR (v := lo) rfl) ?_
   refine q1g rfl rfl rfl rfl rfl rfl (zL (vs := [eq, lo]) Tryd.func69 nm69 rfl rfl rfl ?_)
   refine Calls.mono (l1Same_spec af.pins cr (a3.mono (Pin.le_trans an au))) ?_
   rintro _ fz ⟨rfl, aw⟩
   refine ⟨_, rfl, ?_⟩
   have a8 := af.step aw.pins aw.below
   have ax := ak.below aw.below
   have cs := av.below aw.below
   have bo := al.below aw.below
   refine qD rfl (yT (v := (.bool (decide (((ns.getD q default).l) = ls)))) rfl rfl) ?_
   refine qM (.bool (decide (((ns.getD q default).l) = ls))) ?_
   refine qbd (p := (((ns.getD q default).l) = ls)) (t := 95) rfl (fun bp => ?_) (fun bp => ?_)
   ·skip
    refine qN (zR (v := (.pointer (some ⟨b, 0, none⟩))) rfl) ?_
    refine qN (xA rfl) ?_
    refine qN (zN (k := 0) rfl Tryd.underlying83 rfl nz24 rfl) ?_
    refine qN (zQ (u := bu) ag24 rfl (bo.cell (o := 0) rfl)) ?_
    refine qN (zR (v := (vJ (q : Int))) rfl) ?_
    refine qN (zH Tryd.underlying24 sz60 (v := bu) rfl rfl ax.read (by omega) (by omega)) ?_
    refine qN (xJ (off := 1) Tryd.underlying60 rfl rfl nz40 (z := (q : Int)) (k := 0) rfl ax.read (by omega) (by omega)) ?_
    obtain ⟨es, ct, et⟩ := nm_nr (ax.at (z := (q : Int)) (by omega) (by omega)) (j := q) rfl
    have f0 := ct.max
    refine qN (et ag40 rfl (Gadd.pins a8.pins bu)) ?_
    refine qN (zR (v := ro) rfl) ?_
    refine q1g rfl rfl rfl rfl rfl rfl (zL (vs := [es, ro]) Tryd.func69 nm69 rfl rfl rfl ?_)
    refine Calls.mono (l1Same_spec a8.pins ct a6) ?_
    rintro _ f1 ⟨rfl, ay⟩
    refine ⟨_, rfl, ?_⟩
    have cu := a8.step ay.pins ay.below
    have cv := ax.below ay.below
    have cw := cs.below ay.below
    have cx := bo.below ay.below
    refine qD rfl (yT (v := (.bool (decide (((ns.getD q default).r) = rs)))) rfl rfl) ?_
    refine qe (zA ?_)
    refine yA (p := (((ns.getD q default).r) = rs)) rfl rfl (fun bq => ?_) (fun bq => ?_)
    ·skip
     refine zB (zC ?_)
     refine qM (vJ (q : Int)) ?_
     refine qM (vJ (q : Int)) ?_
     refine qe (zA ?_)
     refine wp_ret ?_
     refine zP ?_
     refine zM (v := (vJ (q : Int))) rfl rfl rfl ?_
     have hf : findK ns bs (putNd xs ys) (putBorn bs xs ys) = some q := by rw [e1, e2]; exact find_some (by omega) hp ⟨bl, bp, bq⟩
     have eN : putN ns bs xs ys = ns := by unfold putN; rw [hf]
     have eB : putB ns bs xs ys = bs := by unfold putB; rw [hf]
     refine ⟨bu, bv, _, congrArg (fun z => Ending.returned (Value.int .i64 z)) (by unfold putK; rw [hf]), ?_, cu, hlou, hlov⟩
     rw [eN, eB]
     exact ⟨cx, cv, cw, habu, habv, hauv⟩
    refine wp_skip ?_
    refine zZ ?_
    refine zA (zC ?_)
    refine qM (vJ (q : Int)) ?_
    refine qD rfl (yJ rfl rfl (by omega)) ?_
    refine qM (vJ ((q : Int) + 1)) ?_
    refine qe ?_
    refine yC ?_
    refine ⟨_, ?_, _, rfl, _, q + 1, (pS 12 (pS 9 (pS 8 (pS 7 (pU 0))))), rfl, cu, (by omega), (fun i hi => if h3 : i = q then h3 ▸ (fun g => absurd g.2.2 bq) else hp i (by omega)), cv, cw, cx⟩
    omega
   refine qW ?_
   refine qW ?_
   refine qW ?_
   refine qW ?_
   refine qW ?_
   refine qW ?_
   refine qW ?_
   refine qW ?_
   refine qW ?_
   refine qW ?_
   refine qD rfl (yO (v := (.bool false)) rfl rfl) ?_
   refine qe (zA ?_)
   refine qR rfl rfl ?_
   refine wp_skip ?_
   refine zZ ?_
   refine zA (zC ?_)
   refine qM (vJ (q : Int)) ?_
   refine qD rfl (yJ rfl rfl (by omega)) ?_
   refine qM (vJ ((q : Int) + 1)) ?_
   refine qe ?_
   refine yC ?_
   refine ⟨_, ?_, _, rfl, _, q + 1, (pS 12 (pS 9 (pS 8 (pS 7 (pU 0))))), rfl, a8, (by omega), (fun i hi => if h3 : i = q then h3 ▸ (fun g => absurd g.2.1 bp) else hp i (by omega)), ax, cs, bo⟩
   omega
  refine qW ?_
  refine qW ?_
  refine qW ?_
  refine qW ?_
  refine qW ?_
  refine qW ?_
  refine qW ?_
  refine qW ?_
  refine qW ?_
  refine qW ?_
  refine qD rfl (yO (v := (.bool false)) rfl rfl) ?_
  refine qM (.bool false) ?_
  refine qW ?_
  refine qW ?_
  refine qW ?_
  refine qW ?_
  refine qW ?_
  refine qW ?_
  refine qW ?_
  refine qW ?_
  refine qW ?_
  refine qW ?_
  refine qD rfl (yO (v := (.bool false)) rfl rfl) ?_
  refine qe (zA ?_)
  refine qR rfl rfl ?_
  refine wp_skip ?_
  refine zZ ?_
  refine zA (zC ?_)
  refine qM (vJ (q : Int)) ?_
  refine qD rfl (yJ rfl rfl (by omega)) ?_
  refine qM (vJ ((q : Int) + 1)) ?_
  refine qe ?_
  refine yC ?_
  refine ⟨_, ?_, _, rfl, _, q + 1, (pS 12 (pS 9 (pS 8 (pS 7 (pU 0))))), rfl, af, (by omega), (fun i hi => if h3 : i = q then h3 ▸ (fun g => absurd g.1 bl) else hp i (by omega)), ak, av, al⟩
  omega
 refine wp_exit ?_
 refine zY ?_
 refine yH ?_
 refine yD ?_
 refine zA (zB (zC ?_))
 refine qM (.pointer (some ⟨b, 0, none⟩)) ?_
 refine qM (.pointer (some ⟨b, 0, none⟩)) ?_
 refine qD rfl (xA rfl) ?_
 refine qD rfl (zN (k := 0) rfl Tryd.underlying83 rfl nz24 rfl) ?_
 refine qD rfl (zQ (u := bu) ag24 rfl (al.cell (o := 0) rfl)) ?_
 refine qM lo ?_
 refine qM ro ?_
 refine qD rfl (xX [(.slice none 0 0), (.slice none 0 0)] [lo, ro] [(0, lo, [lo]), (1, ro, [ro])] Tryd.underlying60 zr60 rfl pl60 rfl (List.forall_mem_cons.2 ⟨(xK a3.one), (List.forall_mem_cons.2 ⟨(xK a6.one), (fun _ h => by cases h)⟩)⟩) rfl) ?_
 refine qI rfl (xL (E := eNode) (e := 60) [lo, ro] (⟨ls, rs⟩ : Nd) Tryd.underlying24 sz60 zr60 ⟨_, _, rfl, (a3.mono (Pin.le_trans an au)), a6⟩ rfl (by decide) af.pins (fun cy eu ev ew a9 f2 => ?_))
 have br := af.step ew a9
 have ex := ak.below a9
 have cz := av.below a9
 have c0 := al.below a9
 have ey : Own eNode 60 ab eu w.heap.size cy ([(⟨ls, rs⟩ : Nd)]) := ev.weaken af.size
 refine qI rfl (oA (E := eNode) (v := bu) (u := cy) 48 Tryd.underlying24 ap60 (by decide) rfl rfl br.pins ex ey.src (Nat.zero_le _) (fun ac f3 bt ez bw bz => ?_))
 have c1 := br.write ez bw (hlou)
 have e3 := cz.keptA bw hauv.symm
 have e4 := c0.keptA bw habu
 have c2 : Apart bv.ownBlock ac.ownBlock := zE hauv.symm bz cz.lt
 have b0 : Apart (some b) ac.ownBlock := zJ habu bz c0.lt
 have e5 : Lo w (inS b bu bv) ac.ownBlock := lo_app hlou bz br.size
 have f4 : (ns ++ ([(⟨ls, rs⟩ : Nd)])).length = ns.length + 1 := List.length_append
 refine qD rfl (xA rfl) ?_
 refine qD rfl (zN (k := 0) rfl Tryd.underlying83 rfl nz24 rfl) ?_
 refine q0 rfl rfl rfl (xD (cs' := [ac, bv]) (us := [ac]) (v := ac) sz24 rfl rfl (cells1 bt.one) (yP bt.one) c1.pins e4 (Nat.le_of_ble_eq_true rfl) rfl (fun f5 c3 e6 b1 f6 => ?_))
 have b2 := c1.write e6 b1 (hlob)
 have e7 := e3.keptA b1 habv.symm
 have e8 := bt.keptA b1 b0.symm
 refine qe (zA (zB (zC ?_)))
 refine qM (.pointer (some ⟨b, 0, none⟩)) ?_
 refine qM (.pointer (some ⟨b, 0, none⟩)) ?_
 refine qD rfl (xA rfl) ?_
 refine qD rfl (zN (k := 1) rfl Tryd.underlying83 rfl nz40 rfl) ?_
 refine qD rfl (zQ (u := bv) ag40 rfl (c3.cell (o := 1) rfl)) ?_
 refine qM (vJ bm) ?_
 refine qI rfl (yV (E := eInt) (e := 3) [(vJ bm)] [bm] Tryd.underlying40 sz3 zr3 (by exact xU (by rfl)) (yP (by rfl)) rfl rfl rfl rfl (by decide) b2.pins (fun c4 e9 fa fb ba f7 => ?_))
 have b3 := b2.step fb ba
 have fc := e7.below ba
 have c5 := e8.below ba
 have c6 := c3.below ba
 have fd : Own eInt 3 ab e9 w.heap.size c4 ([bm]) := fa.weaken b2.size
 refine qI rfl (oA (E := eInt) (v := bv) (u := c4) 8 Tryd.underlying40 ap3 (by decide) rfl rfl b3.pins fc fd.src (Nat.zero_le _) (fun am f8 b4 fe b5 b6 => ?_))
 have c7 := b3.write fe b5 (hlov)
 have ff := c5.keptA b5 c2.symm
 have fg := c6.keptA b5 habv
 have fh : Apart ac.ownBlock am.ownBlock := zE c2.symm b6 c5.lt
 have c8 : Apart (some b) am.ownBlock := zJ habv b6 c6.lt
 have fi : Lo w (inS b bu bv) am.ownBlock := lo_app hlov b6 b3.size
 have f9 : (bs ++ ([bm])).length = bs.length + 1 := List.length_append
 refine qD rfl (xA rfl) ?_
 refine qD rfl (zN (k := 1) rfl Tryd.underlying83 rfl nz40 rfl) ?_
 refine q0 rfl rfl rfl (xD (cs' := [ac, am]) (us := [am]) (v := am) sz40 rfl rfl (cells1 b4.one) (yP b4.one) c7.pins fg (Nat.le_of_ble_eq_true rfl) rfl (fun ga c9 fj b7 gb => ?_))
 have fk := c7.write fj b7 (hlob)
 have da := ff.keptA b7 b0.symm
 have fl := b4.keptA b7 c8.symm
 refine qe (zA (zB (zC ?_)))
 refine qM (.pointer (some ⟨b, 0, none⟩)) ?_
 refine qD rfl (xA rfl) ?_
 refine qD rfl (zN (k := 0) rfl Tryd.underlying83 rfl nz24 rfl) ?_
 refine qD rfl (zQ (u := ac) ag24 rfl (c9.cell (o := 0) rfl)) ?_
 refine qD rfl (zO Tryd.underlying24 (v := ac) rfl da.read) ?_
 refine qD rfl (xZ rfl rfl (by omega)) ?_
 refine qM (vJ (((ns ++ ([(⟨ls, rs⟩ : Nd)])).length : Int) - 1)) ?_
 refine qe (zA ?_)
 refine wp_ret ?_
 refine zP ?_
 refine zM (v := (vJ (((ns ++ ([(⟨ls, rs⟩ : Nd)])).length : Int) - 1))) rfl rfl rfl ?_
 have hf : findK ns bs (putNd xs ys) (putBorn bs xs ys) = none := by rw [e1, e2]; exact find_none (by omega) hp
 have eN : putN ns bs xs ys = ns ++ [⟨ls, rs⟩] := by unfold putN; rw [hf, e1]
 have eB : putB ns bs xs ys = bs ++ [bm] := by unfold putB; rw [hf, e2]
 refine ⟨ac, am, _, congrArg (fun z => Ending.returned (Value.int .i64 z)) (by unfold putK; rw [hf]; simp), ?_, fk, e5, fi⟩
 rw [eN, eB]
 exact ⟨c9, da, fl, b0, c8, fh⟩

end D1
end Go.Proofs.YtkfgdhanaijddaaDoor

set_option maxRecDepth 20000
set_option maxHeartbeats 2000000
namespace Go.Proofs.YtkfgdhanaijddaaDoor
namespace E1
open Go.RowKit Go.GL Go.Proofs
open Go.Proofs.YtkfgdhanaijddaaDoor.C1
open Go.Proofs.YtkfgdhanaijddaaDoor.D1








theorem mk3 : (Tryd.prog.info? 3).map (fun i => (i.size, i.bytes, i.zero)) = some (1, 8, some (.int .i64 0)) := by kernel_rfl
theorem mk4 : (Tryd.prog.info? 4).map (fun i => (i.size, i.bytes, i.zero)) = some (1, 1, some (.bool false)) := by kernel_rfl













theorem pl26 : (Tryd.prog.underlying 26).bind (placesD Tryd.prog) = some [(0, 1)] := by kernel_rfl
theorem pl60 : (Tryd.prog.underlying 60).bind (placesD Tryd.prog) = some [(0, 1), (1, 1)] := by kernel_rfl
theorem pl83 : (Tryd.prog.underlying 83).bind (placesD Tryd.prog) = some [(0, 1), (1, 1)] := by kernel_rfl









theorem add_spec {w : World} {G : Pin} {b : Nat} {bu bv : Value} {ns : List Nd} {bs : List Int} (hP : Pins G w) (hB : Bk 60 3 G w b bu bv ns bs) (hok : BookOk ns bs) {x : Value} {fs : List Nd} (hx : RSl eNode G x fs) (hf : FormOk fs) (hl : ns.length + fs.length ≤ 1048576) :
  Calls Tryd.prog 74 [(.pointer (some ⟨b, 0, none⟩)), (.agg [x].toArray)].toArray w fun e w' => ∃ (r u' v' : Value) (G' : Pin), e = .returned r ∧ RSl eInt G' r (addM ns bs fs).1 ∧ Bk 60 3 G' w' b u' v' (addM ns bs fs).2.1 (addM ns bs fs).2.2 ∧ Ext (inS b bu bv) G w G' w' ∧ Lo w (inS b bu bv) u'.ownBlock ∧ Lo w (inS b bu bv) v'.ownBlock := by
 refine zV (n := 37) Tryd.func74 Tryd.ntmps74 rfl rfl ?_
 have ay : Ext (inS b bu bv) G w G w := Ext.refl hP
 have hbx := hB.bx
 have hou := hB.ou
 have hov := hB.ov
 have habu := hB.abu
 have habv := hB.abv
 have hauv := hB.auv
 have hlob : Lo w (inS b bu bv) (some b) := lo_b
 have hlou : Lo w (inS b bu bv) bu.ownBlock := lo_u
 have hlov : Lo w (inS b bu bv) bv.ownBlock := lo_v
 have hlen := hok.len
 have hlim := hok.lim
 refine zB (zC ?_)
 refine qI rfl (qA [x] (v := (.agg [x].toArray)) rfl rfl ay.pins (fun b1 w2 az co cp am => ?_))
 have cq := ay.step cp am
 have cr := hou.below am
 have cs := hov.below am
 have ct := hbx.below am
 have cu : Apart (some b1) bu.ownBlock := zG (congrArg some az) hou.lt
 have cv : Apart (some b1) bv.ownBlock := zG (congrArg some az) hov.lt
 have cw : Apart (some b1) (some b) := zI (congrArg some az) hbx.lt
 have cx : w.heap.size ≤ b1 := by have := ay.size; omega
 obtain ⟨a0, ab, a1, a2, a3⟩ := co.shut cq cx
 have bg := cr.moreA ab a3 cu.symm
 have bh := cs.moreA ab a3 cv.symm
 have bi := ct.moreA a3 cw.symm
 refine qM (.slice none 0 0) ?_
 refine qe (zA (zB (zC ?_)))
 refine qI rfl (xH (E := eInt) (e := 3) Tryd.underlying40 sz3 a1.pins (fun ac cy cz c0 an a4 => ?_))
 have c1 := a1.step c0 an
 have c2 := bg.below an
 have c3 := bh.below an
 have c4 := bi.below an
 have c5 : Apart ac.ownBlock bu.ownBlock := zG a4 bg.lt
 have c6 : Apart ac.ownBlock bv.ownBlock := zG a4 bh.lt
 have c7 : Apart ac.ownBlock (some b) := zI a4 bi.lt
 have c8 : Own eInt 3 a0 cy w.heap.size ac ([]) := cz.weaken a1.size
 refine qM ac ?_
 refine qe (zA (zB (zB (zC ?_))))
 refine qM (vJ 0) ?_
 refine qe (zA ?_)
 refine zW ?_
 refine yL (fun (k : Nat) (en : Nat → Value) (W : World) => ∃ (bj : Nat → Value) (a : Nat) (at_ : Value) (ats : List Int) (m : Value) (o : Value) (g : List Nd) (h : List Int) (t : Pin), en = (upd (upd (upd (upd (upd bj 0 (.pointer (some ⟨b, 0, none⟩))) 3 (.pointer (some ⟨b1, 0, none⟩))) 4 (.slice none 0 0)) 5 at_) 6 (vJ (a : Int))) ∧ k = fs.length - a ∧ Ext (inS b bu bv) G w t W ∧ Pin.le a0 t ∧ (a ≤ fs.length) ∧ (addM ns bs (fs.take a) = (ats, g, h)) ∧ (AddOk ns a ats g h) ∧ (Own eInt 3 t W w.heap.size at_ (ats)) ∧ (Own eNode 60 t W 0 m (g)) ∧ (Own eInt 3 t W 0 o (h)) ∧ (Bx t W b [m, o]) ∧ (Apart at_.ownBlock m.ownBlock) ∧ (Apart at_.ownBlock o.ownBlock) ∧ (Apart at_.ownBlock (some b)) ∧ (Apart m.ownBlock o.ownBlock) ∧ (Apart m.ownBlock (some b)) ∧ (Apart o.ownBlock (some b)) ∧ (Lo w (inS b bu bv) m.ownBlock) ∧ (Lo w (inS b bu bv) o.ownBlock)) _ ⟨_, 0, ac, [], bu, bv, ns, bs, a0, (pS 6 (pS 5 (pS 4 (pS 3 (pU 0))))), rfl, c1, Pin.le_refl _, Nat.zero_le _, rfl, AddOk.start hok, c8, c2, c3, c4, c5, c6, c7, hauv, habu.symm, habv.symm, hlou, hlov⟩ ?_
 rintro e2 _ a5 ⟨bj, a, at_, ats, m, o, g, h, t, rfl, e3, ao, y, hj, hr, hao, bk, bl, bm, bn, bo, bp, ap, bq, br, bt, bw, bz⟩
 have hal := hao.len
 have hah := hao.hi
 have hfl := hf.len
 refine zB (zB (zC ?_))
 refine qM (vJ (a : Int)) ?_
 refine qD rfl (zN (k := 0) rfl Tryd.underlying26 rfl nz24 rfl) ?_
 refine qD rfl (zQ (u := x) ag24 rfl ((Pins.of_le ao.pins y) _ _ _ (a2 0 _ rfl))) ?_
 refine qD rfl (zO Tryd.underlying24 (v := x) rfl hx) ?_
 refine qD rfl (yU rfl rfl) ?_
 refine qe (zA ?_)
 refine yA (p := ((a : Int) : Int) < (fs.length : Int)) rfl rfl (fun c9 => ?_) (fun c9 => ?_)
 ·skip
  have aq := hao.at1 hf (by omega)
  have hfe := hf.lens a (by omega)
  refine wp_skip ?_
  refine zA (zB ?_)
  refine zW ?_
  refine xE (S := fun wz => Pins t wz) (last := 22) (by kernel_rfl) rfl ?_
  have ad : Below a5.heap.size a5 a5.drew := (Below.refl _ _).drew
  have da := ao.pins.below ad
  have c := ao.step da ad
  have a6 := bk.below ad
  have b0 := bl.below ad
  have b2 := bm.below ad
  have b3 := bn.below ad
  refine dM 0 at_ c.pins ?_
  refine dM 1 (.pointer (some ⟨b, 0, none⟩)) c.pins ?_
  refine dM 2 at_ c.pins ?_
  refine dT (i := 3) rfl rfl (by kernel_rfl) (fun _ _ => zN (k := 0) rfl Tryd.underlying26 rfl nz24 rfl) c.pins ?_
  refine dT (i := 4) rfl rfl (by kernel_rfl) (fun _ hS => zQ (u := x) ag24 rfl ((Pins.of_le hS y) _ _ _ (a2 0 _ rfl))) c.pins ?_
  refine dM 5 (vJ (a : Int)) c.pins ?_
  refine dT (i := 6) rfl rfl (by kernel_rfl) (fun _ _ => zH Tryd.underlying24 sz60 (v := x) rfl rfl hx (by omega) (by omega)) c.pins ?_
  refine dT (i := 7) rfl rfl (by kernel_rfl) (fun _ _ => xJ (off := 0) Tryd.underlying60 rfl rfl nz40 (z := (a : Int)) (k := 0) rfl hx (by omega) (by omega)) c.pins ?_
  obtain ⟨db, b4, dc⟩ := nm_nl (hx.at (z := (a : Int)) (by omega) (by omega)) (j := a) rfl
  have e4 := b4.max
  refine dT (i := 8) rfl rfl (by kernel_rfl) (fun _ hS => dc ag40 rfl (Pins.of_le hS (Pin.le_trans ab y))) c.pins ?_
  refine dM 10 at_ c.pins ?_
  refine dT (i := 11) rfl rfl (by kernel_rfl) (fun _ _ => zN (k := 0) rfl Tryd.underlying26 rfl nz24 rfl) c.pins ?_
  refine dT (i := 12) rfl rfl (by kernel_rfl) (fun _ hS => zQ (u := x) ag24 rfl ((Pins.of_le hS y) _ _ _ (a2 0 _ rfl))) c.pins ?_
  refine dM 13 (vJ (a : Int)) c.pins ?_
  refine dT (i := 14) rfl rfl (by kernel_rfl) (fun _ _ => zH Tryd.underlying24 sz60 (v := x) rfl rfl hx (by omega) (by omega)) c.pins ?_
  refine dT (i := 15) rfl rfl (by kernel_rfl) (fun _ _ => xJ (off := 1) Tryd.underlying60 rfl rfl nz40 (z := (a : Int)) (k := 0) rfl hx (by omega) (by omega)) c.pins ?_
  obtain ⟨dd, b5, de⟩ := nm_nr (hx.at (z := (a : Int)) (by omega) (by omega)) (j := a) rfl
  have e5 := b5.max
  refine dT (i := 16) rfl rfl (by kernel_rfl) (fun _ hS => de ag40 rfl (Pins.of_le hS (Pin.le_trans ab y))) c.pins ?_
  refine dO (i := 9) (zS (i := 9) rfl rfl rfl (zD rfl _) (zL (vs := [at_, db]) Tryd.func72 nm72 rfl rfl rfl ?_))
  refine Calls.mono (qP c.pins (Gadd.pins c.pins at_) a6.read (b4.mono (Pin.le_trans ab y)) (by omega) aq.1) ?_
  rintro _ df ⟨b6, dg, rfl, ah, d⟩
  refine ⟨_, rfl, ?_⟩
  have ai := c.tr d
  have a7 := a6.ext d
  have b7 := b0.ext d
  have b8 := b2.ext d
  have b9 := b3.ext d
  have dh := zT ah.lt a6.lt
  have di := zT ah.lt b0.lt
  have dj := zT ah.lt b2.lt
  have dk := zU ah.lt b3.lt
  have ca : Own eInt 3 dg df w.heap.size b6 (atL ats ((fs.getD a default).l)) := ah.weaken c.size
  refine ⟨fun _ => (Pins.of_le ai.pins d.le), ?_⟩
  refine dO (i := 17) (zS (i := 17) rfl rfl rfl (zD rfl _) (zL (vs := [at_, dd]) Tryd.func72 nm72 rfl rfl rfl ?_))
  refine Calls.mono (qP ai.pins (Gadd.pins ai.pins at_) a7.read (b5.mono (Pin.le_trans (Pin.le_trans ab y) d.le)) (by omega) aq.2) ?_
  rintro _ dl ⟨cb, dm, rfl, ae, f⟩
  refine ⟨_, rfl, ?_⟩
  have cc := ai.tr f
  have dn := a7.ext f
  have dp := b7.ext f
  have dq := b8.ext f
  have dr := ca.ext f
  have ds := b9.ext f
  have dt := zT ae.lt a7.lt
  have du := zT ae.lt b7.lt
  have dv := zT ae.lt b8.lt
  have dw := zT ae.lt ca.lt
  have dx := zU ae.lt b9.lt
  have dy : Own eInt 3 dm dl w.heap.size cb (atL ats ((fs.getD a default).r)) := ae.weaken ai.size
  refine ⟨fun _ => (Pins.of_le cc.pins (Pin.le_trans d.le f.le)), ?_⟩
  obtain ⟨e6, q, dz, d0, aj⟩ := dr.sealed cc
  have d1 := dn.moreO q aj dh.symm
  have d2 := dp.moreO q aj di.symm
  have d3 := dq.moreO q aj dj.symm
  have d4 := dy.moreO q aj dw
  have d5 := ds.moreO aj dk.symm
  obtain ⟨e7, s, ar, d6, au⟩ := d4.sealed dz
  have a8 := d1.moreO s au dt.symm
  have d7 := d2.moreO s au du.symm
  have d8 := d3.moreO s au dv.symm
  have d9 := d5.moreO au dx.symm
  refine dO (i := 18) (zS (i := 18) rfl rfl rfl (zD rfl _) (zL (vs := [(.pointer (some ⟨b, 0, none⟩)), b6, cb]) Tryd.func63 nm63 rfl rfl rfl ?_))
  refine Calls.mono (put_spec ar.pins ⟨d9, d7, d8, br.symm, bt.symm, bq⟩ hao.book (d0.mono s) d6 ⟨by rw [yZ]; omega, by rw [yZ]; omega⟩ (at_bounds hao.places aq.1) (at_bounds hao.places aq.2)) ?_
  rintro _ e8 ⟨a9, ba, cd, rfl, af, aa, ce, cf⟩
  refine ⟨_, rfl, ?_⟩
  have bb : ∀ i, inS b m o i → w.heap.size ≤ i ∨ (inS b bu bv) i := inS_lo hlob bw bz
  have av := ar.trans aa bb
  have bc := notS (u := m) (v := o) ap bo bp
  have ea := a8.extS aa bc
  have cg : Apart at_.ownBlock a9.ownBlock := xY ce bc (qK a8)
  have ch : Apart at_.ownBlock ba.ownBlock := xY cf bc (qK a8)
  have eb := af.bx
  have ec := af.ou
  have ed := af.ov
  have ee := af.abu
  have ef := af.abv
  have eg := af.auv
  have eh := qJ ce bb ar.size
  have ei := qJ cf bb ar.size
  refine ⟨fun _ => (Pins.of_le av.pins (Pin.le_trans (Pin.le_trans (Pin.le_trans (Pin.le_trans d.le f.le) q) s) aa.le)), ?_⟩
  refine dO (i := 19) (zS (i := 19) rfl rfl rfl (zD rfl _) (yV (E := eInt) (e := 3) [(vJ (putK g h (atL ats ((fs.getD a default).l)) (atL ats ((fs.getD a default).r))))] [putK g h (atL ats ((fs.getD a default).l)) (atL ats ((fs.getD a default).r))] Tryd.underlying40 sz3 zr3 (by exact xU (by rfl)) (yP (by rfl)) rfl rfl rfl rfl (by decide) av.pins (fun ci ej ek el ak e9 => ?_)))
  have aw := av.step el ak
  have cj := ea.below ak
  have ck := ec.below ak
  have cl := ed.below ak
  have cm := eb.below ak
  have em : Own eInt 3 cd ej w.heap.size ci ([putK g h (atL ats ((fs.getD a default).l)) (atL ats ((fs.getD a default).r))]) := ek.weaken av.size
  refine ⟨fun _ => (Pins.of_le aw.pins (Pin.le_trans (Pin.le_trans (Pin.le_trans (Pin.le_trans d.le f.le) q) s) aa.le)), ?_⟩
  refine dO (i := 20) (zS (i := 20) rfl rfl rfl (zD rfl _) (oA (E := eInt) (v := at_) (u := ci) 8 Tryd.underlying40 ap3 (by decide) rfl rfl aw.pins cj em.src (aw.size) (fun al fa eo ep ax bd => ?_)))
  have be := aw.write ep ax ((zX cj))
  have eq := ck.keptA ax cg.symm
  have er := cl.keptA ax ch.symm
  have es := cm.keptA ax ap.symm
  have et : Apart a9.ownBlock al.ownBlock := zE cg.symm bd ck.lt
  have eu : Apart ba.ownBlock al.ownBlock := zE ch.symm bd cl.lt
  have ev : Apart (some b) al.ownBlock := zJ ap.symm bd cm.lt
  have fb : (ats ++ ([putK g h (atL ats ((fs.getD a default).l)) (atL ats ((fs.getD a default).r))])).length = ats.length + 1 := List.length_append
  refine ⟨fun _ => (Pins.of_le be.pins (Pin.le_trans (Pin.le_trans (Pin.le_trans (Pin.le_trans d.le f.le) q) s) aa.le)), ?_⟩
  refine dM 21 al (Pins.of_le be.pins (Pin.le_trans (Pin.le_trans (Pin.le_trans (Pin.le_trans d.le f.le) q) s) aa.le)) ?_
  refine yE (by kernel_rfl) ?_
  refine zZ ?_
  refine zA (zC ?_)
  refine qM (vJ (a : Int)) ?_
  refine qD rfl (yJ rfl rfl (by omega)) ?_
  refine qM (vJ ((a : Int) + 1)) ?_
  refine qe ?_
  refine yC ?_
  refine ⟨_, ?_, _, rfl, _, a + 1, al, (addStep (ats, g, h) (fs.getD a default)).1, a9, ba, (addStep (ats, g, h) (fs.getD a default)).2.1, (addStep (ats, g, h) (fs.getD a default)).2.2, cd, (pS 6 (pS 5 (pS 4 (pS 3 (pU 0))))), rfl, be, (Pin.le_trans (Pin.le_trans (Pin.le_trans (Pin.le_trans (Pin.le_trans y d.le) f.le) q) s) aa.le), (by omega), ((qS (by omega)).trans (by rw [hr])), (hao.step hf (by omega) hl), eo, eq, er, es, et.symm, eu.symm, ev.symm, eg, ee.symm, ef.symm, eh, ei⟩
  omega
 refine wp_exit ?_
 refine zY ?_
 refine yH ?_
 refine yD ?_
 refine zA (zB (zC ?_))
 refine qM at_ ?_
 refine qM at_ ?_
 refine qe (zA ?_)
 refine wp_ret ?_
 refine zP ?_
 refine zM (v := at_) rfl rfl rfl ?_
 obtain ⟨fc, cn, ew, ex, bf⟩ := bk.sealed ao
 have ey := bl.moreO cn bf bo.symm
 have ez := bm.moreO cn bf bp.symm
 have e0 := bn.moreO bf ap.symm
 rw [take_all (by omega)] at hr
 refine ⟨_, m, o, _, rfl, ?_, ?_, ew, bw, bz⟩
 ·rw [hr]; exact ex
 ·rw [hr]; exact ⟨e0, ey, ez, br.symm, bt.symm, bq⟩

theorem root_spec {w : World} {G : Pin} {b : Nat} {bu bv : Value} {ns : List Nd} {bs : List Int} (hP : Pins G w) (hB : Bk 60 3 G w b bu bv ns bs) (hok : BookOk ns bs) {x : Value} {fs : List Nd} (hx : RSl eNode G x fs) (hf : FormOk fs ∧ 1 ≤ fs.length) (hl : ns.length + fs.length ≤ 1048576) :
  Calls Tryd.prog 53 [(.pointer (some ⟨b, 0, none⟩)), (.agg [x].toArray)].toArray w fun e w' => ∃ (u' v' : Value) (G' : Pin), e = .returned (vJ (rootM ns bs fs)) ∧ Bk 60 3 G' w' b u' v' (addM ns bs fs).2.1 (addM ns bs fs).2.2 ∧ Ext (inS b bu bv) G w G' w' ∧ Lo w (inS b bu bv) u'.ownBlock ∧ Lo w (inS b bu bv) v'.ownBlock := by
 refine zV (n := 15) Tryd.func53 Tryd.ntmps53 rfl rfl ?_
 have h : Ext (inS b bu bv) G w G w := Ext.refl hP
 have hbx := hB.bx
 have hou := hB.ou
 have hov := hB.ov
 have habu := hB.abu
 have habv := hB.abv
 have hauv := hB.auv
 have hlob : Lo w (inS b bu bv) (some b) := lo_b
 have hlou : Lo w (inS b bu bv) bu.ownBlock := lo_u
 have hlov : Lo w (inS b bu bv) bv.ownBlock := lo_v
 have hlen := hok.len
 have hlim := hok.lim
 have hal := (addM_all hok hf.1 hl).len
 have hfl := hf.1.len
 refine zB (zC ?_)
 refine qI rfl (qA [x] (v := (.agg [x].toArray)) rfl rfl h.pins (fun f w2 k s t g => ?_))
 have y := h.step t g
 have aa := hou.below g
 have ab := hov.below g
 have ac := hbx.below g
 have ad : Apart (some f) bu.ownBlock := zG (congrArg some k) hou.lt
 have ae : Apart (some f) bv.ownBlock := zG (congrArg some k) hov.lt
 have af : Apart (some f) (some b) := zI (congrArg some k) hbx.lt
 have ag : w.heap.size ≤ f := by have := h.size; omega
 obtain ⟨az, l, c, ah, m⟩ := s.shut y ag
 have ai := aa.moreA l m ad.symm
 have aj := ab.moreA l m ae.symm
 have ak := ac.moreA m af.symm
 refine qM (vJ 0) ?_
 refine qe (zA (zB (zC ?_)))
 refine qM (.pointer (some ⟨b, 0, none⟩)) ?_
 refine qD rfl (yB (cs := [x]) ag26 sz26 rfl (fun j u hj => c.pins _ _ _ (ah _ _ (by simpa using hj)))) ?_
 refine qI rfl (zL (vs := [(.pointer (some ⟨b, 0, none⟩)), (.agg [x].toArray)]) Tryd.func74 nm74 rfl rfl rfl ?_)
 refine Calls.mono (add_spec c.pins ⟨ak, ai, aj, habu, habv, hauv⟩ hok (hx.mono l) hf.1 (by first | omega | (simp; omega))) ?_
 rintro _ a0 ⟨d, a1, a2, a3, rfl, o, a, al, am, an⟩
 refine ⟨_, rfl, ?_⟩
 have p : ∀ i, inS b bu bv i → w.heap.size ≤ i ∨ (inS b bu bv) i := inS_lo hlob hlou hlov
 have q := c.trans al p
 have ao := a.bx
 have ap := a.ou
 have aq := a.ov
 have ar := a.abu
 have au := a.abv
 have av := a.auv
 have aw := qJ am p c.size
 have ax := qJ an p c.size
 refine qM d ?_
 refine qe (zA (zB (zC ?_)))
 refine qM d ?_
 refine qM d ?_
 refine qD rfl (zO Tryd.underlying40 (v := d) rfl o) ?_
 refine qD rfl (xZ rfl rfl (by omega)) ?_
 refine qD rfl (zH Tryd.underlying40 sz3 (v := d) rfl rfl o (by omega) (by omega)) ?_
 refine qD rfl (zK (r := ((addM ns bs fs).1).getD ((((addM ns bs fs).1).length : Int) - 1).toNat 0) rfl ag3 (z := ((((addM ns bs fs).1).length : Int) - 1)) rfl o q.pins (by omega) (by omega)) ?_
 refine qM (vJ (((addM ns bs fs).1).getD ((((addM ns bs fs).1).length : Int) - 1).toNat 0)) ?_
 refine qe (zA ?_)
 refine wp_ret ?_
 refine zP ?_
 refine zM (v := (vJ (((addM ns bs fs).1).getD ((((addM ns bs fs).1).length : Int) - 1).toNat 0))) rfl rfl rfl ?_
 exact ⟨_, _, _, congrArg (fun z => Ending.returned (Value.int .i64 z)) (by unfold rootM; rw [show (((addM ns bs fs).1.length : Int) - 1).toNat = (addM ns bs fs).1.length - 1 by omega]), ⟨ao, ap, aq, ar, au, av⟩, q, aw, ax⟩

theorem reached_spec {w : World} {G : Pin} {b : Nat} {bu bv : Value} {ns : List Nd} {bs : List Int} (hP : Pins G w) (hB : Bk 60 3 G w b bu bv ns bs) (hok : BookOk ns bs) {m : Int} (hm : 0 ≤ m ∧ m < ns.length) :
  Calls Tryd.prog 70 [(.pointer (some ⟨b, 0, none⟩)), (vJ m)].toArray w fun e w' => ∃ (u : Value) (G' : Pin), e = .returned u ∧ Own eBool 4 G' w' w.heap.size u (reachM ns m.toNat) ∧ Ext noS G w G' w' := by
 refine zV (n := 78) Tryd.func70 Tryd.ntmps70 rfl rfl ?_
 have ai : Ext noS G w G w := Ext.refl hP
 have hbx := hB.bx
 have hou := hB.ou
 have hov := hB.ov
 have habu := hB.abu
 have habv := hB.abv
 have hauv := hB.auv
 have hlob : Lo w (inS b bu bv) (some b) := lo_b
 have hlou : Lo w (inS b bu bv) bu.ownBlock := lo_u
 have hlov : Lo w (inS b bu bv) bv.ownBlock := lo_v
 have hlen := hok.len
 have hlim := hok.lim
 have hoo : OptsOk ns := hok.optsOk
 refine zB (zC ?_)
 refine qM (.slice none 0 0) ?_
 refine qe (zA (zB (zC ?_)))
 refine qM (vJ m) ?_
 refine qD rfl (yJ rfl rfl (by omega)) ?_
 refine qI rfl (o_make (E := eBool) false 1 (.bool false) Tryd.underlying55 mk4 (fun _ => rfl) rfl rfl ai.pins (by omega) (by omega) (by omega) (fun a w2 a6 a7 y aj => ?_))
 have ar := ai.step a7 y
 have a8 := hou.below y
 have a9 := hov.below y
 have ba := hbx.below y
 have ak : Apart a.ownBlock bu.ownBlock := zG aj hou.lt
 have al : Apart a.ownBlock bv.ownBlock := zG aj hov.lt
 have am : Apart a.ownBlock (some b) := zI aj hbx.lt
 have an : Own eBool 4 G w2 w.heap.size a (List.replicate (m + 1).toNat false) := a6.weaken ai.size
 have b9 : (List.replicate (m + 1).toNat false).length = (m + 1).toNat := List.length_replicate ..
 refine qM a ?_
 refine qe (zA (zB (zC ?_)))
 refine qM a ?_
 refine qM (vJ m) ?_
 refine qD rfl (zH Tryd.underlying55 sz4 (v := a) rfl rfl an.read (by omega) (by omega)) ?_
 refine q0 rfl rfl rfl (o_set (E := eBool) (v := a) (u := (.bool true)) (z := m) (true) sz4 rfl rfl rfl rfl ar.pins an (by omega) (by omega) (fun ca bb bc aa cb => ?_))
 have bd := ar.write bc aa ((zX an))
 have be := a8.keptA aa ak.symm
 have bf := a9.keptA aa al.symm
 have bg := ba.keptA aa am.symm
 refine qe (zA (zB (zB (zC ?_))))
 refine qM (vJ m) ?_
 refine qM (vJ m) ?_
 refine qe (zA ?_)
 refine zW ?_
 refine yL (fun (k : Nat) (en : Nat → Value) (W : World) => ∃ (d : Nat → Value) (z : Int) (is : List Bool), en = (upd (upd (upd (upd d 0 (.pointer (some ⟨b, 0, none⟩))) 4 (.slice none 0 0)) 5 a) 6 (vJ z)) ∧ k = (z + 1).toNat ∧ Ext noS G w G W ∧ (-1 ≤ z ∧ z ≤ m) ∧ (is.length = m.toNat + 1) ∧ (reachM ns m.toNat = ugo ns (z + 1).toNat is) ∧ (Own eBool 4 G W w.heap.size a (is)) ∧ (Own eNode 60 G W 0 bu (ns)) ∧ (Own eInt 3 G W 0 bv (bs)) ∧ (Bx G W b [bu, bv])) _ ⟨_, m, (List.replicate (m + 1).toNat false).set m.toNat true, (pS 6 (pS 5 (pS 4 (pU 0)))), rfl, bd, (by omega), (by simp; omega), (by rw [show (m + 1).toNat = m.toNat + 1 by omega]; rfl), bb, be, bf, bg⟩ ?_
 rintro cc _ cd ⟨d, z, is, rfl, ce, ab, hz, hnis, hr, x, au, av, aw⟩
 refine zB (zB (zC ?_))
 refine qM (vJ z) ?_
 refine qD rfl (r_geq rfl rfl) ?_
 refine qe (zA ?_)
 refine yA (p := (0 : Int) ≤ z) rfl rfl (fun bh => ?_) (fun bh => ?_)
 ·skip
  refine wp_skip ?_
  refine zA (zB ?_)
  refine zW ?_
  refine zB (zB (zC ?_))
  refine qM a ?_
  refine qM (vJ z) ?_
  refine qD rfl (zH Tryd.underlying55 sz4 (v := a) rfl rfl x.read (by omega) (by omega)) ?_
  refine qD rfl (yF (r := is.getD (z).toNat false) rfl ag4 (z := z) rfl x.read (Gadd.pins ab.pins a) (by omega) (by omega)) ?_
  refine qD rfl (xW rfl) ?_
  refine qe (zA ?_)
  refine c_ifn rfl rfl (fun ao => ?_) (fun ao => ?_)
  ·skip
   refine wp_skip ?_
   refine zA (zB (zB (zC ?_)))
   refine qM (vJ 0) ?_
   refine qe (zA ?_)
   refine zW ?_
   refine yL (fun (k : Nat) (en : Nat → Value) (W : World) => ∃ (d : Nat → Value) (i : Nat) (h : List Bool), en = (upd (upd (upd (upd (upd d 0 (.pointer (some ⟨b, 0, none⟩))) 4 (.slice none 0 0)) 5 a) 6 (vJ z)) 7 (vJ (i : Int))) ∧ k = (ns.getD (z).toNat default).l.length - i ∧ Ext noS G w G W ∧ (i ≤ (ns.getD (z).toNat default).l.length) ∧ (h.length = m.toNat + 1) ∧ (setAll is (ns.getD (z).toNat default).l = setAll h ((ns.getD (z).toNat default).l.drop i)) ∧ (Own eBool 4 G W w.heap.size a (h)) ∧ (Own eNode 60 G W 0 bu (ns)) ∧ (Own eInt 3 G W 0 bv (bs)) ∧ (Bx G W b [bu, bv])) _ ⟨_, 0, is, (pS 7 (pS 6 (pS 5 (pS 4 (pU 0))))), rfl, ab, Nat.zero_le _, hnis, rfl, x, au, av, aw⟩ ?_
   rintro cf _ cg ⟨d, i, h, rfl, ch, q, hii, ax, ay, ac, f, az, ad⟩
   refine zB (zB (zC ?_))
   refine qM (vJ (i : Int)) ?_
   refine qM (.pointer (some ⟨b, 0, none⟩)) ?_
   refine qD rfl (xA rfl) ?_
   refine qD rfl (zN (k := 0) rfl Tryd.underlying83 rfl nz24 rfl) ?_
   refine qD rfl (zQ (u := bu) ag24 rfl (ad.cell (o := 0) rfl)) ?_
   refine qM (vJ z) ?_
   refine qD rfl (zH Tryd.underlying24 sz60 (v := bu) rfl rfl f.read (by omega) (by omega)) ?_
   refine qD rfl (xJ (off := 0) Tryd.underlying60 rfl rfl nz40 (z := z) (k := 0) rfl f.read (by omega) (by omega)) ?_
   obtain ⟨bi, a0, bj⟩ := nm_nl (f.at (z := z) (by omega) (by omega)) (j := (z).toNat) rfl
   have ci := a0.max
   refine qD rfl (bj ag40 rfl (Gadd.pins q.pins bu)) ?_
   refine qD rfl (zO Tryd.underlying40 (v := bi) rfl a0) ?_
   refine qD rfl (yU rfl rfl) ?_
   refine qe (zA ?_)
   refine yA (p := ((i : Int) : Int) < (((ns.getD (z).toNat default).l).length : Int)) rfl rfl (fun bk => ?_) (fun bk => ?_)
   ·skip
    have hk := hoo.left (j := (z).toNat) (i := i) (by omega) (by omega)
    refine wp_skip ?_
    refine zA (zB ?_)
    refine zW ?_
    refine zC ?_
    refine qM a ?_
    refine qM (.pointer (some ⟨b, 0, none⟩)) ?_
    refine qD rfl (xA rfl) ?_
    refine qD rfl (zN (k := 0) rfl Tryd.underlying83 rfl nz24 rfl) ?_
    refine qD rfl (zQ (u := bu) ag24 rfl (ad.cell (o := 0) rfl)) ?_
    refine qM (vJ z) ?_
    refine qD rfl (zH Tryd.underlying24 sz60 (v := bu) rfl rfl f.read (by omega) (by omega)) ?_
    refine qD rfl (xJ (off := 0) Tryd.underlying60 rfl rfl nz40 (z := z) (k := 0) rfl f.read (by omega) (by omega)) ?_
    obtain ⟨bl, ap, bm⟩ := nm_nl (f.at (z := z) (by omega) (by omega)) (j := (z).toNat) rfl
    have cj := ap.max
    refine qD rfl (bm ag40 rfl (Gadd.pins q.pins bu)) ?_
    refine qM (vJ (i : Int)) ?_
    refine qD rfl (zH Tryd.underlying40 sz3 (v := bl) rfl rfl ap (by omega) (by omega)) ?_
    refine qD rfl (zK (r := ((ns.getD (z).toNat default).l).getD i 0) rfl ag3 (z := (i : Int)) rfl ap q.pins (by omega) (by omega)) ?_
    refine qD rfl (zH Tryd.underlying55 sz4 (v := a) rfl rfl ac.read (by omega) (by omega)) ?_
    refine q0 rfl rfl rfl (o_set (E := eBool) (v := a) (u := (.bool true)) (z := (((ns.getD (z).toNat default).l).getD i 0)) (true) sz4 rfl rfl rfl rfl q.pins ac (by omega) (by omega) (fun ck bn bo ae cl => ?_))
    have bp := q.write bo ae ((zX ac))
    have bq := f.keptA ae ak.symm
    have br := az.keptA ae al.symm
    have bt := ad.keptA ae am.symm
    refine qe ?_
    refine zZ ?_
    refine zA (zC ?_)
    refine qM (vJ (i : Int)) ?_
    refine qD rfl (yJ rfl rfl (by omega)) ?_
    refine qM (vJ ((i : Int) + 1)) ?_
    refine qe ?_
    refine yC ?_
    refine ⟨_, ?_, _, rfl, _, i + 1, h.set ((ns.getD (z).toNat default).l.getD i 0).toNat true, (pS 7 (pS 6 (pS 5 (pS 4 (pU 0))))), rfl, bp, (by omega), ((List.length_set ..).trans ax), (ay.trans (setAll_next (by omega))), bn, bq, br, bt⟩
    omega
   refine wp_exit ?_
   refine zY ?_
   refine yH ?_
   refine yD ?_
   refine zA (zB (zC ?_))
   refine qM (vJ 0) ?_
   refine qe (zA ?_)
   refine zW ?_
   refine yL (fun (k : Nat) (en : Nat → Value) (W : World) => ∃ (d : Nat → Value) (c : Nat) (s : List Bool), en = (upd (upd (upd (upd (upd d 0 (.pointer (some ⟨b, 0, none⟩))) 4 (.slice none 0 0)) 5 a) 6 (vJ z)) 8 (vJ (c : Int))) ∧ k = (ns.getD (z).toNat default).r.length - c ∧ Ext noS G w G W ∧ (c ≤ (ns.getD (z).toNat default).r.length) ∧ (s.length = m.toNat + 1) ∧ (setAll h (ns.getD (z).toNat default).r = setAll s ((ns.getD (z).toNat default).r.drop c)) ∧ (Own eBool 4 G W w.heap.size a (s)) ∧ (Own eNode 60 G W 0 bu (ns)) ∧ (Own eInt 3 G W 0 bv (bs)) ∧ (Bx G W b [bu, bv])) _ ⟨_, 0, h, (pS 8 (pS 6 (pS 5 (pS 4 (pU 0))))), rfl, q, Nat.zero_le _, ax, rfl, ac, f, az, ad⟩ ?_
   rintro cm _ cn ⟨d, c, s, rfl, co, t, cp, a1, a2, af, g, a3, ag⟩
   refine zB (zB (zC ?_))
   refine qM (vJ (c : Int)) ?_
   refine qM (.pointer (some ⟨b, 0, none⟩)) ?_
   refine qD rfl (xA rfl) ?_
   refine qD rfl (zN (k := 0) rfl Tryd.underlying83 rfl nz24 rfl) ?_
   refine qD rfl (zQ (u := bu) ag24 rfl (ag.cell (o := 0) rfl)) ?_
   refine qM (vJ z) ?_
   refine qD rfl (zH Tryd.underlying24 sz60 (v := bu) rfl rfl g.read (by omega) (by omega)) ?_
   refine qD rfl (xJ (off := 1) Tryd.underlying60 rfl rfl nz40 (z := z) (k := 0) rfl g.read (by omega) (by omega)) ?_
   obtain ⟨bw, a4, bz⟩ := nm_nr (g.at (z := z) (by omega) (by omega)) (j := (z).toNat) rfl
   have cq := a4.max
   refine qD rfl (bz ag40 rfl (Gadd.pins t.pins bu)) ?_
   refine qD rfl (zO Tryd.underlying40 (v := bw) rfl a4) ?_
   refine qD rfl (yU rfl rfl) ?_
   refine qe (zA ?_)
   refine yA (p := ((c : Int) : Int) < (((ns.getD (z).toNat default).r).length : Int)) rfl rfl (fun b0 => ?_) (fun b0 => ?_)
   ·skip
    have hk := hoo.right (j := (z).toNat) (i := c) (by omega) (by omega)
    refine wp_skip ?_
    refine zA (zB ?_)
    refine zW ?_
    refine zC ?_
    refine qM a ?_
    refine qM (.pointer (some ⟨b, 0, none⟩)) ?_
    refine qD rfl (xA rfl) ?_
    refine qD rfl (zN (k := 0) rfl Tryd.underlying83 rfl nz24 rfl) ?_
    refine qD rfl (zQ (u := bu) ag24 rfl (ag.cell (o := 0) rfl)) ?_
    refine qM (vJ z) ?_
    refine qD rfl (zH Tryd.underlying24 sz60 (v := bu) rfl rfl g.read (by omega) (by omega)) ?_
    refine qD rfl (xJ (off := 1) Tryd.underlying60 rfl rfl nz40 (z := z) (k := 0) rfl g.read (by omega) (by omega)) ?_
    obtain ⟨b1, aq, b2⟩ := nm_nr (g.at (z := z) (by omega) (by omega)) (j := (z).toNat) rfl
    have cr := aq.max
    refine qD rfl (b2 ag40 rfl (Gadd.pins t.pins bu)) ?_
    refine qM (vJ (c : Int)) ?_
    refine qD rfl (zH Tryd.underlying40 sz3 (v := b1) rfl rfl aq (by omega) (by omega)) ?_
    refine qD rfl (zK (r := ((ns.getD (z).toNat default).r).getD c 0) rfl ag3 (z := (c : Int)) rfl aq t.pins (by omega) (by omega)) ?_
    refine qD rfl (zH Tryd.underlying55 sz4 (v := a) rfl rfl af.read (by omega) (by omega)) ?_
    refine q0 rfl rfl rfl (o_set (E := eBool) (v := a) (u := (.bool true)) (z := (((ns.getD (z).toNat default).r).getD c 0)) (true) sz4 rfl rfl rfl rfl t.pins af (by omega) (by omega) (fun cs b3 b4 ah ct => ?_))
    have b5 := t.write b4 ah ((zX af))
    have b6 := g.keptA ah ak.symm
    have b7 := a3.keptA ah al.symm
    have b8 := ag.keptA ah am.symm
    refine qe ?_
    refine zZ ?_
    refine zA (zC ?_)
    refine qM (vJ (c : Int)) ?_
    refine qD rfl (yJ rfl rfl (by omega)) ?_
    refine qM (vJ ((c : Int) + 1)) ?_
    refine qe ?_
    refine yC ?_
    refine ⟨_, ?_, _, rfl, _, c + 1, s.set ((ns.getD (z).toNat default).r.getD c 0).toNat true, (pS 8 (pS 6 (pS 5 (pS 4 (pU 0))))), rfl, b5, (by omega), ((List.length_set ..).trans a1), (a2.trans (setAll_next (by omega))), b3, b6, b7, b8⟩
    omega
   refine wp_exit ?_
   refine zY ?_
   refine yH ?_
   refine yD ?_
   refine zZ ?_
   refine zA (zC ?_)
   refine qM (vJ z) ?_
   refine qD rfl (xZ rfl rfl (by omega)) ?_
   refine qM (vJ (z - 1)) ?_
   refine qe ?_
   refine yC ?_
   refine ⟨_, ?_, _, rfl, _, z - 1, s, (pS 6 (pS 5 (pS 4 (pU 0)))), rfl, t, (by omega), a1, (hr.trans ((ugo_step (by omega)).trans (by rw [ustep_yes ao, ay, setAll_end (by omega), a2, setAll_end (by omega)]))), af, g, a3, ag⟩
   omega
  refine wp_exit ?_
  refine zY ?_
  refine yD ?_
  refine zA (zC ?_)
  refine qM (vJ z) ?_
  refine qD rfl (xZ rfl rfl (by omega)) ?_
  refine qM (vJ (z - 1)) ?_
  refine qe ?_
  refine yC ?_
  refine ⟨_, ?_, _, rfl, _, z - 1, is, (pS 6 (pS 5 (pS 4 (pU 0)))), rfl, ab, (by omega), hnis, (hr.trans ((ugo_step (by omega)).trans (by rw [ustep_no ao]))), x, au, av, aw⟩
  omega
 refine wp_exit ?_
 refine zY ?_
 refine yH ?_
 refine yD ?_
 refine zA (zB (zC ?_))
 refine qM a ?_
 refine qM a ?_
 refine qe (zA ?_)
 refine wp_ret ?_
 refine zP ?_
 refine zM (v := a) rfl rfl rfl ?_
 exact ⟨_, _, rfl, (by rw [hr, ugo_end (by omega)]; exact x), ab⟩

theorem form_own {w : World} {G : Pin} {b : Nat} {bu bv : Value} {ns : List Nd} {bs : List Int} (hP : Pins G w) (hB : Bk 60 3 G w b bu bv ns bs) (hok : BookOk ns bs) {m : Int} (hm : 0 ≤ m ∧ m < ns.length) :
  Calls Tryd.prog 52 [(.pointer (some ⟨b, 0, none⟩)), (vJ m)].toArray w fun e w' => ∃ (u : Value) (G' : Pin), e = .returned (.agg [u].toArray) ∧ RSl eNode G' u (formM ns bs m.toNat) ∧ Ext noS G w G' w' ∧ ∃ Gi, Own eNode 60 Gi w' w.heap.size u (formM ns bs m.toNat) ∧ Pin.le Gi G' := by
 refine zV (n := 143) Tryd.func52 Tryd.ntmps52 rfl rfl ?_
 have jo : Ext noS G w G w := Ext.refl hP
 have hbx := hB.bx
 have hou := hB.ou
 have hov := hB.ov
 have habu := hB.abu
 have habv := hB.abv
 have hauv := hB.auv
 have hlob : Lo w (inS b bu bv) (some b) := lo_b
 have hlou : Lo w (inS b bu bv) bu.ownBlock := lo_u
 have hlov : Lo w (inS b bu bv) bv.ownBlock := lo_v
 have hlen := hok.len
 have hlim := hok.lim
 have hoo : OptsOk ns := hok.optsOk
 refine zB (zC ?_)
 refine qI rfl (yX [(.slice none 0 0)] zr26 rfl jo.pins (fun f w2 hk3 nc hp5 hk => ?_))
 have jp := jo.step hp5 hk
 have jq := hou.below hk
 have jr := hov.below hk
 have js := hbx.below hk
 have aao : w.heap.size ≤ f := by have := jo.size; omega
 refine qe (zA (zB (zC ?_)))
 refine qM (.pointer (some ⟨b, 0, none⟩)) ?_
 refine qM (vJ m) ?_
 refine qI rfl (zL (vs := [(.pointer (some ⟨b, 0, none⟩)), (vJ m)]) Tryd.func70 nm70 rfl rfl rfl ?_)
 refine Calls.mono (reached_spec jp.pins ⟨js, jq, jr, habu, habv, hauv⟩ hok hm) ?_
 rintro _ w17 ⟨ax, G16, rfl, gu, gv⟩
 refine ⟨_, rfl, ?_⟩
 have aar := jp.tr gv
 have aas := jq.ext gv
 have aat := jr.ext gv
 have aau := js.ext gv
 have aav := nc.ext gv
 have aaw := zT gu.lt jq.lt
 have aax := zT gu.lt jr.lt
 have aay := zU gu.lt js.lt
 have aaz := zU gu.lt nc.lt
 have aa0 : Own eBool 4 G16 w17 w.heap.size ax (reachM ns (m).toNat) := gu.weaken jp.size
 obtain ⟨hl, nd, jt, ne, hn⟩ := aa0.sealed aar
 have nf := aas.moreO nd hn aaw.symm
 have ng := aat.moreO nd hn aax.symm
 have nh := aau.moreO hn aay.symm
 have ni := aav.moreO hn aaz.symm
 have hnl := reach_length ns m.toNat
 refine qM ax ?_
 refine qe (zA (zB (zC ?_)))
 refine qM (vJ m) ?_
 refine qD rfl (yJ rfl rfl (by omega)) ?_
 refine qI rfl (o_make (E := eInt) 0 8 (vJ 0) Tryd.underlying40 mk3 (fun _ => rfl) rfl rfl jt.pins (by omega) (by omega) (by omega) (fun b8 w40 aa2 aa3 gw ho => ?_))
 have ju := jt.step aa3 gw
 have nj := nf.below gw
 have nk := ng.below gw
 have nl := nh.below gw
 have nm := ni.below gw
 have aa4 : Apart b8.ownBlock bu.ownBlock := zG ho nf.lt
 have aa5 : Apart b8.ownBlock bv.ownBlock := zG ho ng.lt
 have aa6 : Apart b8.ownBlock (some b) := zI ho nh.lt
 have aa7 : Apart b8.ownBlock (some f) := zI ho ni.lt
 have nn : Own eInt 3 hl w40 w.heap.size b8 (List.replicate (m + 1).toNat 0) := aa2.weaken jt.size
 have avc : (List.replicate (m + 1).toNat 0).length = (m + 1).toNat := List.length_replicate ..
 refine qM b8 ?_
 refine qe (zA (zB (zC ?_)))
 refine qI rfl (xH (E := eNode) (e := 60) Tryd.underlying24 sz60 ju.pins (fun ap w57 aa9 aba gc gx => ?_))
 have jv := ju.step aba gc
 have no := nj.below gc
 have np := nk.below gc
 have nq := nn.below gc
 have nr := nl.below gc
 have nt := nm.below gc
 have abb : Apart ap.ownBlock bu.ownBlock := zG gx nj.lt
 have abc : Apart ap.ownBlock bv.ownBlock := zG gx nk.lt
 have abd : Apart ap.ownBlock b8.ownBlock := zG gx nn.lt
 have abe : Apart ap.ownBlock (some b) := zI gx nl.lt
 have abf : Apart ap.ownBlock (some f) := zI gx nm.lt
 have jw : Own eNode 60 hl w57 w.heap.size ap ([]) := aa9.weaken ju.size
 refine qD rfl (xX [(.slice none 0 0)] [ap] [(0, ap, [ap])] Tryd.underlying26 zr26 rfl pl26 rfl (List.forall_mem_cons.2 ⟨(xK jw.one), (fun _ h => by cases h)⟩) rfl) ?_
 refine qI rfl (yX [(.slice none 0 0)] zr26 rfl jv.pins (fun d w75 gd abg abh ey => ?_))
 have nu := jv.step abh ey
 have abi := no.below ey
 have abj := np.below ey
 have abk := nq.below ey
 have nv := jw.below ey
 have abl := nr.below ey
 have abm := nt.below ey
 have nw : Apart (some d) bu.ownBlock := zG (congrArg some gd) no.lt
 have nx : Apart (some d) bv.ownBlock := zG (congrArg some gd) np.lt
 have ny : Apart (some d) b8.ownBlock := zG (congrArg some gd) nq.lt
 have nz : Apart (some d) ap.ownBlock := zG (congrArg some gd) jw.lt
 have n0 : Apart (some d) (some b) := zI (congrArg some gd) nr.lt
 have n1 : Apart (some d) (some f) := zI (congrArg some gd) nt.lt
 have n2 : w.heap.size ≤ d := by have := jv.size; omega
 refine q0 rfl rfl rfl (xD (cs' := [ap]) (us := [ap]) (v := (.agg [ap].toArray)) sz26 rfl rfl rfl (yP nv.one) nu.pins abg (Nat.le_of_ble_eq_true rfl) rfl (fun w94 abn abo ez avf => ?_))
 have abp := nu.write abo ez ((yM n2))
 have abq := abi.keptA ez nw.symm
 have abr := abj.keptA ez nx.symm
 have abs := abk.keptA ez ny.symm
 have abt := nv.keptA ez nz.symm
 have abw := abl.keptA ez n0.symm
 have abx := abm.keptA ez n1.symm
 refine qe (zA (zB (zB (zC ?_))))
 refine qM (vJ 0) ?_
 refine qe (zA ?_)
 refine zW ?_
 refine yL (fun (k : Nat) (en : Nat → Value) (W : World) => ∃ (ac : Nat → Value) (q : Nat) (at_ : Value) (ats : List Int) (ov : Value) (outs : List Nd) (ar : Pin), en = (upd (upd (upd (upd (upd (upd (upd ac 0 (.pointer (some ⟨b, 0, none⟩))) 1 (vJ m)) 4 (.pointer (some ⟨f, 0, none⟩))) 5 ax) 6 at_) 7 (.pointer (some ⟨d, 0, none⟩))) 8 (vJ (q : Int))) ∧ k = (bs.getD m.toNat 0).toNat + 1 - q ∧ Ext noS G w ar W ∧ Pin.le hl ar ∧ (q ≤ (bs.getD m.toNat 0).toNat + 1) ∧ (formGo ns bs (reachM ns m.toNat) (m.toNat + 1) q = (ats, outs)) ∧ (ats.length = m.toNat + 1) ∧ (outs.length ≤ q * 1048576) ∧ (Own eInt 3 ar W w.heap.size at_ (ats)) ∧ (Own eNode 60 ar W w.heap.size ov (outs)) ∧ (Own eNode 60 ar W 0 bu (ns)) ∧ (Own eInt 3 ar W 0 bv (bs)) ∧ (Bx ar W b [bu, bv]) ∧ (Bx ar W f [(.slice none 0 0)]) ∧ (Bx ar W d [ov]) ∧ (Apart at_.ownBlock ov.ownBlock) ∧ (Apart at_.ownBlock bu.ownBlock) ∧ (Apart at_.ownBlock bv.ownBlock) ∧ (Apart at_.ownBlock (some b)) ∧ (Apart at_.ownBlock (some f)) ∧ (Apart at_.ownBlock (some d)) ∧ (Apart ov.ownBlock bu.ownBlock) ∧ (Apart ov.ownBlock bv.ownBlock) ∧ (Apart ov.ownBlock (some b)) ∧ (Apart ov.ownBlock (some f)) ∧ (Apart ov.ownBlock (some d))) _ ⟨_, 0, b8, List.replicate (m + 1).toNat 0, ap, [], hl, (pS 8 (pS 7 (pS 6 (pS 5 (pS 4 (pS 1 (pU 0))))))), rfl, abp, Pin.le_refl _, Nat.zero_le _, (by rw [show (m + 1).toNat = m.toNat + 1 by omega]; rfl), (by simp; omega), Nat.le_refl 0, abs, abt, abq, abr, abw, abx, abn, abd.symm, aa4, aa5, aa6, aa7, ny.symm, abb, abc, abe, abf, nz.symm⟩ ?_
 rintro avg _ avh ⟨ac, q, at_, ats, ov, outs, ar, rfl, avi, ge, n3, hq, hr, hatl, hol, n4, hp, n5, hs, jx, jy, jz, aby, abz, ab0, ab1, ab2, ab3, ab4, ab5, ab6, n6, ab7⟩
 have hbm := hok.born m.toNat (by omega)
 refine zB (zB (zC ?_))
 refine qM (vJ (q : Int)) ?_
 refine qM (.pointer (some ⟨b, 0, none⟩)) ?_
 refine qD rfl (xA rfl) ?_
 refine qD rfl (zN (k := 1) rfl Tryd.underlying83 rfl nz40 rfl) ?_
 refine qD rfl (zQ (u := bv) ag40 rfl (jx.cell (o := 1) rfl)) ?_
 refine qM (vJ m) ?_
 refine qD rfl (zH Tryd.underlying40 sz3 (v := bv) rfl rfl hs.read (by omega) (by omega)) ?_
 refine qD rfl (zK (r := bs.getD (m).toNat 0) rfl ag3 (z := m) rfl hs.read (Gadd.pins ge.pins bv) (by omega) (by omega)) ?_
 refine qD rfl (r_leq rfl rfl) ?_
 refine qe (zA ?_)
 refine yA (p := ((q : Int) : Int) ≤ (bs.getD (m).toNat 0)) rfl rfl (fun ab8 => ?_) (fun ab8 => ?_)
 ·skip
  refine wp_skip ?_
  refine zA (zB ?_)
  refine zW ?_
  refine zB (zC ?_)
  refine qI rfl (xH (E := eNode) (e := 60) Tryd.underlying24 sz60 ge.pins (fun bc ab9 aca acb dj e0 => ?_))
  have j0 := ge.step acb dj
  have n7 := n4.below dj
  have n8 := hp.below dj
  have n9 := n5.below dj
  have oa := hs.below dj
  have ob := jx.below dj
  have oc := jy.below dj
  have od := jz.below dj
  have acc : Apart bc.ownBlock at_.ownBlock := zG e0 n4.lt
  have acd : Apart bc.ownBlock ov.ownBlock := zG e0 hp.lt
  have ace : Apart bc.ownBlock bu.ownBlock := zG e0 n5.lt
  have acf : Apart bc.ownBlock bv.ownBlock := zG e0 hs.lt
  have acg : Apart bc.ownBlock (some b) := zI e0 jx.lt
  have ach : Apart bc.ownBlock (some f) := zI e0 jy.lt
  have aci : Apart bc.ownBlock (some d) := zI e0 jz.lt
  have oe : Own eNode 60 ar ab9 w.heap.size bc ([]) := aca.weaken ge.size
  refine qI rfl (xH (E := eInt) (e := 3) Tryd.underlying40 sz3 j0.pins (fun bd acj ack acl b9 dk => ?_))
  have acm := j0.step acl b9
  have acn := n7.below b9
  have aco := n8.below b9
  have acp := n9.below b9
  have acq := oa.below b9
  have acr := oe.below b9
  have acs := ob.below b9
  have act := oc.below b9
  have acu := od.below b9
  have acv : Apart bd.ownBlock at_.ownBlock := zG dk n7.lt
  have acw : Apart bd.ownBlock ov.ownBlock := zG dk n8.lt
  have acx : Apart bd.ownBlock bu.ownBlock := zG dk n9.lt
  have acy : Apart bd.ownBlock bv.ownBlock := zG dk oa.lt
  have acz : Apart bd.ownBlock bc.ownBlock := zG dk oe.lt
  have ac0 : Apart bd.ownBlock (some b) := zI dk ob.lt
  have ac1 : Apart bd.ownBlock (some f) := zI dk oc.lt
  have ac2 : Apart bd.ownBlock (some d) := zI dk od.lt
  have ac3 : Own eInt 3 ar acj w.heap.size bd ([]) := ack.weaken j0.size
  refine qM bc ?_
  refine qM bd ?_
  refine qe (zA (zB (zB (zC ?_))))
  refine qM (vJ 0) ?_
  refine qe (zA ?_)
  refine zW ?_
  obtain ⟨avj, e1, ac4, ac5, dl⟩ := acr.sealed acm
  have ac6 := acn.moreO e1 dl acc.symm
  have ac7 := aco.moreO e1 dl acd.symm
  have ac8 := acp.moreO e1 dl ace.symm
  have ac9 := acq.moreO e1 dl acf.symm
  have ada := ac3.moreO e1 dl acz
  have adb := acs.moreO dl acg.symm
  have adc := act.moreO dl ach.symm
  have add := acu.moreO dl aci.symm
  obtain ⟨og, e2, ade, adf, e3⟩ := ada.sealed ac4
  have adg := ac6.moreO e2 e3 acv.symm
  have adh := ac7.moreO e2 e3 acw.symm
  have adi := ac8.moreO e2 e3 acx.symm
  have adj := ac9.moreO e2 e3 acy.symm
  have adk := adb.moreO e3 ac0.symm
  have adl := adc.moreO e3 ac1.symm
  have adm := add.moreO e3 ac2.symm
  refine yL (fun (k : Nat) (en : Nat → Value) (W : World) => ∃ (ac : Nat → Value) (c : Nat) (lv : Value) (ls : List Nd) (fv : Value) (fr : List Int) (ai : Pin), en = (upd (upd (upd (upd (upd (upd (upd (upd (upd (upd ac 0 (.pointer (some ⟨b, 0, none⟩))) 1 (vJ m)) 4 (.pointer (some ⟨f, 0, none⟩))) 5 ax) 6 at_) 7 (.pointer (some ⟨d, 0, none⟩))) 8 (vJ (q : Int))) 9 lv) 10 fv) 11 (vJ (c : Int))) ∧ k = m.toNat + 1 - c ∧ Ext noS G w ai W ∧ Pin.le og ai ∧ (c ≤ m.toNat + 1) ∧ (lvM ns bs (reachM ns m.toNat) ats q c = (ls, fr)) ∧ (ls.length = fr.length ∧ ls.length ≤ c) ∧ (∀ i, i < fr.length → 0 ≤ fr.getD i 0 ∧ fr.getD i 0 ≤ m) ∧ (Own eInt 3 ai W w.heap.size at_ (ats)) ∧ (Own eNode 60 ai W w.heap.size ov (outs)) ∧ (Own eNode 60 ai W 0 bu (ns)) ∧ (Own eInt 3 ai W 0 bv (bs)) ∧ (Bx ai W b [bu, bv]) ∧ (Bx ai W f [(.slice none 0 0)]) ∧ (Bx ai W d [ov]) ∧ (RSl eNode ai lv (ls)) ∧ (RSl eInt ai fv (fr))) _ ⟨_, 0, bc, [], bd, [], og, (pS 11 (pS 10 (pS 9 (pS 8 (pS 7 (pS 6 (pS 5 (pS 4 (pS 1 (pU 0)))))))))), rfl, ade, Pin.le_refl _, Nat.zero_le _, rfl, ⟨rfl, Nat.le_refl 0⟩, (fun i hi => absurd hi (Nat.not_lt_zero i)), adg, adh, adi, adj, adk, adl, adm, (ac5.mono e2), adf⟩ ?_
  rintro avk _ ht ⟨ac, c, lv, ls, fv, fr, ai, rfl, avl, dm, gy, hk5, hrl, hll, hfb, hu, hv, e4, gf, gz, hw, hx, bk, gg⟩
  refine zB (zB (zC ?_))
  refine qM (vJ (c : Int)) ?_
  refine qM (vJ m) ?_
  refine qD rfl (r_leq rfl rfl) ?_
  refine qe (zA ?_)
  refine yA (p := ((c : Int) : Int) ≤ m) rfl rfl (fun adn => ?_) (fun adn => ?_)
  ·skip
   have hlk := hok.lens c (by omega)
   refine wp_skip ?_
   refine zA (zB ?_)
   refine zW ?_
   refine zB (zB (zC ?_))
   refine qM ax ?_
   refine qM (vJ (c : Int)) ?_
   refine qD rfl (zH Tryd.underlying55 sz4 (v := ax) rfl rfl ne (by omega) (by omega)) ?_
   refine qD rfl (yF (r := (reachM ns (m).toNat).getD c false) rfl ag4 (z := (c : Int)) rfl ne (Pins.of_le dm.pins (Pin.le_trans (Pin.le_trans (Pin.le_trans n3 e1) e2) gy)) (by omega) (by omega)) ?_
   refine qD rfl (xW rfl) ?_
   refine qM (.bool (!((reachM ns (m).toNat).getD c false))) ?_
   refine qbn (t := 46) rfl (fun j1 => ?_) (fun j1 => ?_)
   ·skip
    refine qN (zR (v := (.pointer (some ⟨b, 0, none⟩))) rfl) ?_
    refine qN (xA rfl) ?_
    refine qN (zN (k := 1) rfl Tryd.underlying83 rfl nz40 rfl) ?_
    refine qN (zQ (u := bv) ag40 rfl (gz.cell (o := 1) rfl)) ?_
    refine qN (zR (v := (vJ (c : Int))) rfl) ?_
    refine qN (zH Tryd.underlying40 sz3 (v := bv) rfl rfl gf.read (by omega) (by omega)) ?_
    refine qN (zK (r := bs.getD c 0) rfl ag3 (z := (c : Int)) rfl gf.read (Gadd.pins dm.pins bv) (by omega) (by omega)) ?_
    refine qN (zR (v := (vJ (q : Int))) rfl) ?_
    refine qN (r_neq rfl rfl) ?_
    refine qD rfl (yO (v := (.bool (decide ((bs.getD c 0 : Int) ≠ (q : Int))))) rfl rfl) ?_
    refine qe (zA ?_)
    refine yA (p := (bs.getD c 0 : Int) ≠ (q : Int)) rfl rfl (fun ado => ?_) (fun ado => ?_)
    ·skip
     refine wp_exit ?_
     refine zY ?_
     refine yD ?_
     refine zA (zC ?_)
     refine qM (vJ (c : Int)) ?_
     refine qD rfl (yJ rfl rfl (by omega)) ?_
     refine qM (vJ ((c : Int) + 1)) ?_
     refine qe ?_
     refine yC ?_
     refine ⟨_, ?_, _, rfl, _, c + 1, lv, ls, fv, fr, ai, (pS 11 (pS 10 (pS 9 (pS 8 (pS 7 (pS 6 (pS 5 (pS 4 (pS 1 (pU 0)))))))))), rfl, dm, gy, (by omega), (lv_skip hrl (fun g => by have := g.2; omega)), (by omega), hfb, hu, hv, e4, gf, gz, hw, hx, bk, gg⟩
     omega
    refine wp_skip ?_
    refine zA (zB ?_)
    refine c_cut (fun (en : Nat → Value) (W : World) => ∃ (ac : Nat → Value) (g0 : Nat) (ca : Value) (cb : Value) (am : Pin), en = (upd (upd (upd (upd (upd (upd (upd (upd (upd (upd (upd ac 0 (.pointer (some ⟨b, 0, none⟩))) 1 (vJ m)) 4 (.pointer (some ⟨f, 0, none⟩))) 5 ax) 6 at_) 7 (.pointer (some ⟨d, 0, none⟩))) 8 (vJ (q : Int))) 9 lv) 10 fv) 11 (vJ (c : Int))) 12 (.pointer (some ⟨g0, 0, none⟩))) ∧ Ext noS G w am W ∧ Pin.le ai am ∧ (RSl eInt am ca (sortL (atL ats ((ns.getD c default).l)))) ∧ (RSl eInt am cb (sortL (atL ats ((ns.getD c default).r)))) ∧ (Own eInt 3 am W w.heap.size at_ ats) ∧ (Own eNode 60 am W w.heap.size ov outs) ∧ (Own eNode 60 am W 0 bu ns) ∧ (Own eInt 3 am W 0 bv bs) ∧ (Bx am W b [bu, bv]) ∧ (Bx am W f [(.slice none 0 0)]) ∧ (Bx am W d [ov]) ∧ (BxP am g0 [ca, cb])) ?_ ?_
    ·rintro _ avn ⟨ac, g0, ca, cb, am, rfl, adp, an, hy, hz, adq, adr, ads, adt, adu, adv, adw, oh⟩
     refine zA (zB (zC ?_))
     refine qM (vJ 0) ?_
     refine qe (zA (zB ?_))
     refine zW ?_
     refine c_cutE (fun (en : Nat → Value) (W : World) => ∃ (ac : Nat → Value) (i : Nat) (s : Pin), en = (upd (upd (upd (upd (upd (upd (upd (upd (upd (upd (upd (upd ac 0 (.pointer (some ⟨b, 0, none⟩))) 1 (vJ m)) 4 (.pointer (some ⟨f, 0, none⟩))) 5 ax) 6 at_) 7 (.pointer (some ⟨d, 0, none⟩))) 8 (vJ (q : Int))) 9 lv) 10 fv) 11 (vJ (c : Int))) 12 (.pointer (some ⟨g0, 0, none⟩))) 13 (vJ (i : Int))) ∧ Ext noS G w s W ∧ Pin.le am s ∧ (i ≤ ls.length) ∧ (posM ls (ndAt ats (ns.getD c default)) = i) ∧ (Own eInt 3 s W w.heap.size at_ (ats)) ∧ (Own eNode 60 s W w.heap.size ov (outs)) ∧ (Own eNode 60 s W 0 bu (ns)) ∧ (Own eInt 3 s W 0 bv (bs)) ∧ (Bx s W b [bu, bv]) ∧ (Bx s W f [(.slice none 0 0)]) ∧ (Bx s W d [ov])) 4 ?_ ?_
     ·rintro _ e5 ⟨ac, i, s, rfl, g1, y, hi, hpe, j2, j3, j4, j5, j6, j7, j8⟩
      refine yD ?_
      refine zA (zB ?_)
      refine c_cut (fun (en : Nat → Value) (W : World) => ∃ (ac : Nat → Value) (ab : Value) (ae : Pin), en = (upd (upd (upd (upd (upd (upd (upd (upd (upd (upd (upd ac 0 (.pointer (some ⟨b, 0, none⟩))) 1 (vJ m)) 4 (.pointer (some ⟨f, 0, none⟩))) 5 ax) 6 at_) 7 (.pointer (some ⟨d, 0, none⟩))) 8 (vJ (q : Int))) 9 ab) 10 fv) 11 (vJ (c : Int))) 13 (vJ (i : Int))) ∧ Ext noS G w ae W ∧ Pin.le s ae ∧ (Own eInt 3 ae W w.heap.size at_ ats) ∧ (Own eNode 60 ae W w.heap.size ov outs) ∧ (Own eNode 60 ae W 0 bu ns) ∧ (Own eInt 3 ae W 0 bv bs) ∧ (Own eNode 60 ae W w.heap.size ab (((([]) ++ ((ls.take i).drop 0)) ++ ([(⟨sortL (atL ats ((ns.getD c default).l)), sortL (atL ats ((ns.getD c default).r))⟩ : Nd)])) ++ ((ls.take ls.length).drop i))) ∧ (Bx ae W b [bu, bv]) ∧ (Bx ae W f [(.slice none 0 0)]) ∧ (Bx ae W d [ov]) ∧ (Apart at_.ownBlock ab.ownBlock) ∧ (Apart ov.ownBlock ab.ownBlock) ∧ (Apart bu.ownBlock ab.ownBlock) ∧ (Apart bv.ownBlock ab.ownBlock) ∧ (Apart ab.ownBlock (some b)) ∧ (Apart ab.ownBlock (some f)) ∧ (Apart ab.ownBlock (some d))) ?_ ?_
      ·rintro _ j9 ⟨ac, ab, ae, rfl, oi, e6, adx, ady, adz, ad0, ad1, ad2, ad3, ad4, ad5, ad6, ad7, ad8, ad9, aea, aeb⟩
       refine zA ?_
       refine c_cut (fun (en : Nat → Value) (W : World) => ∃ (ac : Nat → Value) (ay : Value) (az : Pin), en = (upd (upd (upd (upd (upd (upd (upd (upd (upd (upd ac 0 (.pointer (some ⟨b, 0, none⟩))) 1 (vJ m)) 4 (.pointer (some ⟨f, 0, none⟩))) 5 ax) 6 at_) 7 (.pointer (some ⟨d, 0, none⟩))) 8 (vJ (q : Int))) 9 ab) 10 ay) 11 (vJ (c : Int))) ∧ Ext noS G w az W ∧ Pin.le ae az ∧ (Own eInt 3 az W w.heap.size at_ ats) ∧ (Own eNode 60 az W w.heap.size ov outs) ∧ (Own eNode 60 az W 0 bu ns) ∧ (Own eInt 3 az W 0 bv bs) ∧ (Own eNode 60 az W w.heap.size ab (((([]) ++ ((ls.take i).drop 0)) ++ ([(⟨sortL (atL ats ((ns.getD c default).l)), sortL (atL ats ((ns.getD c default).r))⟩ : Nd)])) ++ ((ls.take ls.length).drop i))) ∧ (Own eInt 3 az W w.heap.size ay (((([]) ++ ((fr.take i).drop 0)) ++ ([(c : Int)])) ++ ((fr.take fr.length).drop i))) ∧ (Bx az W b [bu, bv]) ∧ (Bx az W f [(.slice none 0 0)]) ∧ (Bx az W d [ov]) ∧ (Apart at_.ownBlock ay.ownBlock) ∧ (Apart ov.ownBlock ay.ownBlock) ∧ (Apart bu.ownBlock ay.ownBlock) ∧ (Apart bv.ownBlock ay.ownBlock) ∧ (Apart ab.ownBlock ay.ownBlock) ∧ (Apart ay.ownBlock (some b)) ∧ (Apart ay.ownBlock (some f)) ∧ (Apart ay.ownBlock (some d))) ?_ ?_
       ·rintro _ avo ⟨ac, ay, az, rfl, aec, aed, aee, aef, aeg, aeh, aei, aej, aek, ael, aem, aen, aeo, aep, aeq, aer, aes, aet, aeu⟩
        refine zZ ?_
        refine zA (zC ?_)
        refine qM (vJ (c : Int)) ?_
        refine qD rfl (yJ rfl rfl (by omega)) ?_
        refine qM (vJ ((c : Int) + 1)) ?_
        refine qe ?_
        refine yC ?_
        obtain ⟨avp, gh, aev, aew, dn⟩ := aei.sealed aec
        have aex := aee.moreO gh dn ad5
        have aey := aef.moreO gh dn ad6
        have aez := aeg.moreO gh dn ad7
        have ae0 := aeh.moreO gh dn ad8
        have ae1 := aej.moreO gh dn aer.symm
        have ae2 := aek.moreO dn ad9.symm
        have ae3 := ael.moreO dn aea.symm
        have ae4 := aem.moreO dn aeb.symm
        obtain ⟨ae5, gi, ae6, ae7, e7⟩ := ae1.sealed aev
        have ae8 := aex.moreO gi e7 aen
        have ae9 := aey.moreO gi e7 aeo
        have afa := aez.moreO gi e7 aep
        have afb := ae0.moreO gi e7 aeq
        have afc := ae2.moreO e7 aes.symm
        have afd := ae3.moreO e7 aet.symm
        have afe := ae4.moreO e7 aeu.symm
        have ka := ins_len (x := ndAt ats (ns.getD c default)) (l := ls) (i := i) (by omega)
        have hi2 := ins_len (x := (c : Int)) (l := fr) (i := i) (by omega)
        refine ⟨_, ?_, _, rfl, _, c + 1, ab, ((([]) ++ ((ls.take i).drop 0)) ++ ([(⟨sortL (atL ats ((ns.getD c default).l)), sortL (atL ats ((ns.getD c default).r))⟩ : Nd)])) ++ ((ls.take ls.length).drop i), ay, ((([]) ++ ((fr.take i).drop 0)) ++ ([(c : Int)])) ++ ((fr.take fr.length).drop i), ae5, (pS 11 (pS 10 (pS 9 (pS 8 (pS 7 (pS 6 (pS 5 (pS 4 (pS 1 (pU 0)))))))))), rfl, ae6, (Pin.le_trans (Pin.le_trans (Pin.le_trans (Pin.le_trans (Pin.le_trans (Pin.le_trans gy an) y) e6) aed) gh) gi), (by omega), (lv_ins hrl j1 (by omega) hpe), ⟨ka.trans ((congrArg (· + 1) hll.1).trans hi2.symm), (by have : _ = _ := ka; exact Nat.le_trans (Nat.le_of_eq ka) (by omega))⟩, (ins_all (P := fun x => 0 ≤ x ∧ x ≤ m) hfb (by omega)), ae8, ae9, afa, afb, afc, afd, afe, (aew.mono gi), ae7⟩
        omega
       ·skip
        refine xE (S := fun wz => Pins ae wz) (last := 13) (by kernel_rfl) rfl ?_
        have bl : Below j9.heap.size j9 j9.drew := (Below.refl _ _).drew
        have afg := oi.pins.below bl
        have au := oi.step afg bl
        have kb := adx.below bl
        have kc := ady.below bl
        have kd := adz.below bl
        have ke := ad0.below bl
        have kf := ad1.below bl
        have kg := ad2.below bl
        have kh := ad3.below bl
        have ki := ad4.below bl
        refine dM 1 fv au.pins ?_
        refine dM 2 (vJ (i : Int)) au.pins ?_
        obtain ⟨kj, kk, afh⟩ := qB gg (lo := none) (hi := (some ((i : Int)))) (0) (i) (Or.inl ⟨rfl, rfl⟩) (Or.inr ⟨_, rfl, (by omega), rfl⟩) (by omega) (by omega)
        refine dT (i := 3) rfl rfl (by kernel_rfl) (fun _ _ => afh Tryd.underlying40 sz3 rfl rfl rfl) au.pins ?_
        refine dM 5 (vJ (c : Int)) au.pins ?_
        refine dM 8 fv au.pins ?_
        refine dM 9 (vJ (i : Int)) au.pins ?_
        obtain ⟨kl, km, afi⟩ := qB gg (lo := (some ((i : Int)))) (hi := none) (i) (fr.length) (Or.inr ⟨_, rfl, (by omega), rfl⟩) (Or.inl ⟨rfl, rfl⟩) (by omega) (by omega)
        refine dT (i := 10) rfl rfl (by kernel_rfl) (fun _ _ => afi Tryd.underlying40 sz3 rfl rfl rfl) au.pins ?_
        refine qL (i := 0) (j := 6) (by kernel_rfl) ?_ ?_
        ·skip
         refine (zS (i := 0) rfl rfl rfl (zD rfl _) (xH (E := eInt) (e := 3) Tryd.underlying40 sz3 au.pins (fun a0 afj afk afl cc dp => ?_)))
         have dq := au.step afl cc
         have kn := kb.below cc
         have ko := kc.below cc
         have kp := kd.below cc
         have kq := ke.below cc
         have kr := kf.below cc
         have ks := kg.below cc
         have kt := kh.below cc
         have ku := ki.below cc
         have h0 : Apart a0.ownBlock at_.ownBlock := zG dp kb.lt
         have h1 : Apart a0.ownBlock ov.ownBlock := zG dp kc.lt
         have h2 : Apart a0.ownBlock bu.ownBlock := zG dp kd.lt
         have h3 : Apart a0.ownBlock bv.ownBlock := zG dp ke.lt
         have h4 : Apart a0.ownBlock ab.ownBlock := zG dp kf.lt
         have h5 : Apart a0.ownBlock (some b) := zI dp kg.lt
         have h6 : Apart a0.ownBlock (some f) := zI dp kh.lt
         have h7 : Apart a0.ownBlock (some d) := zI dp ki.lt
         have h8 : Own eInt 3 ae afj w.heap.size a0 ([]) := afk.weaken au.size
         refine ⟨fun _ => dq.pins, ?_⟩
         refine qL (i := 4) (j := 6) (by kernel_rfl) ?_ ?_
         ·skip
          refine (zS (i := 4) rfl rfl rfl (zD rfl _) (oA (E := eInt) (v := a0) (u := kj) 8 Tryd.underlying40 ap3 (by decide) rfl rfl dq.pins h8 ((kk.mono (Pin.le_trans (Pin.le_trans an y) e6)).src dq.pins (by decide)) (dq.size) (fun cd avq afm afn ce dr => ?_)))
          have h9 := dq.write afn ce ((zX h8))
          have afo := kn.keptA ce h0.symm
          have afp := ko.keptA ce h1.symm
          have afq := kp.keptA ce h2.symm
          have afr := kq.keptA ce h3.symm
          have afs := kr.keptA ce h4.symm
          have aft := ks.keptA ce h5.symm
          have afu := kt.keptA ce h6.symm
          have afv := ku.keptA ce h7.symm
          have oj : Apart at_.ownBlock cd.ownBlock := zE h0.symm dr kn.lt
          have ok : Apart ov.ownBlock cd.ownBlock := zE h1.symm dr ko.lt
          have ol : Apart bu.ownBlock cd.ownBlock := zE h2.symm dr kp.lt
          have om : Apart bv.ownBlock cd.ownBlock := zE h3.symm dr kq.lt
          have oo : Apart ab.ownBlock cd.ownBlock := zE h4.symm dr kr.lt
          have op : Apart (some b) cd.ownBlock := zJ h5.symm dr ks.lt
          have oq : Apart (some f) cd.ownBlock := zJ h6.symm dr kt.lt
          have os : Apart (some d) cd.ownBlock := zJ h7.symm dr ku.lt
          have avr : (([]) ++ ((fr.take i).drop 0)).length = ([]).length + ((fr.take i).drop 0).length := List.length_append
          refine ⟨fun _ => h9.pins, ?_⟩
          refine dO (i := 6) (zS (i := 6) rfl rfl rfl (zD rfl _) (yV (E := eInt) (e := 3) [(vJ (c : Int))] [(c : Int)] Tryd.underlying40 sz3 zr3 (by exact xU (by rfl)) (yP (by rfl)) rfl rfl rfl rfl (by decide) h9.pins (fun ot afw afx afy bm avs => ?_)))
          have ia := h9.step afy bm
          have ow := afo.below bm
          have ox := afp.below bm
          have oy := afq.below bm
          have oz := afr.below bm
          have o0 := afs.below bm
          have o1 := afm.below bm
          have o2 := aft.below bm
          have o3 := afu.below bm
          have o4 := afv.below bm
          have afz : Own eInt 3 ae afw w.heap.size ot ([(c : Int)]) := afx.weaken h9.size
          refine ⟨fun _ => ia.pins, ?_⟩
          refine dO (i := 7) (zS (i := 7) rfl rfl rfl (zD rfl _) (oA (E := eInt) (v := cd) (u := ot) 8 Tryd.underlying40 ap3 (by decide) rfl rfl ia.pins o1 afz.src (ia.size) (fun cf avt o5 af0 cg ds => ?_)))
          have g2 := ia.write af0 cg ((zX o1))
          have o6 := ow.keptA cg oj
          have o7 := ox.keptA cg ok
          have o8 := oy.keptA cg ol
          have o9 := oz.keptA cg om
          have pa := o0.keptA cg oo
          have pb := o2.keptA cg op
          have pc := o3.keptA cg oq
          have pd := o4.keptA cg os
          have pe : Apart at_.ownBlock cf.ownBlock := zE oj ds ow.lt
          have pf : Apart ov.ownBlock cf.ownBlock := zE ok ds ox.lt
          have pg : Apart bu.ownBlock cf.ownBlock := zE ol ds oy.lt
          have ph : Apart bv.ownBlock cf.ownBlock := zE om ds oz.lt
          have pi : Apart ab.ownBlock cf.ownBlock := zE oo ds o0.lt
          have pj : Apart (some b) cf.ownBlock := zJ op ds o2.lt
          have pk : Apart (some f) cf.ownBlock := zJ oq ds o3.lt
          have pl : Apart (some d) cf.ownBlock := zJ os ds o4.lt
          have avu : ((([]) ++ ((fr.take i).drop 0)) ++ ([(c : Int)])).length = (([]) ++ ((fr.take i).drop 0)).length + 1 := List.length_append
          refine ⟨fun _ => g2.pins, ?_⟩
          refine dO (i := 11) (zS (i := 11) rfl rfl rfl (zD rfl _) (oA (E := eInt) (v := cf) (u := kl) 8 Tryd.underlying40 ap3 (by decide) rfl rfl g2.pins o5 ((km.mono (Pin.le_trans (Pin.le_trans an y) e6)).src g2.pins (by decide)) (g2.size) (fun bn avv af1 af2 ch dt => ?_)))
          have kv := g2.write af2 ch ((zX o5))
          have af3 := o6.keptA ch pe
          have af4 := o7.keptA ch pf
          have af5 := o8.keptA ch pg
          have af6 := o9.keptA ch ph
          have af7 := pa.keptA ch pi
          have af8 := pb.keptA ch pj
          have af9 := pc.keptA ch pk
          have aga := pd.keptA ch pl
          have agb : Apart at_.ownBlock bn.ownBlock := zE pe dt o6.lt
          have agc : Apart ov.ownBlock bn.ownBlock := zE pf dt o7.lt
          have agd : Apart bu.ownBlock bn.ownBlock := zE pg dt o8.lt
          have age : Apart bv.ownBlock bn.ownBlock := zE ph dt o9.lt
          have agf : Apart ab.ownBlock bn.ownBlock := zE pi dt pa.lt
          have agh : Apart (some b) bn.ownBlock := zJ pj dt pb.lt
          have agi : Apart (some f) bn.ownBlock := zJ pk dt pc.lt
          have agj : Apart (some d) bn.ownBlock := zJ pl dt pd.lt
          have avw : (((([]) ++ ((fr.take i).drop 0)) ++ ([(c : Int)])) ++ ((fr.take fr.length).drop i)).length = ((([]) ++ ((fr.take i).drop 0)) ++ ([(c : Int)])).length + ((fr.take fr.length).drop i).length := List.length_append
          refine ⟨fun _ => kv.pins, ?_⟩
          refine dM 12 bn kv.pins ?_
          refine yE (by kernel_rfl) ?_
          exact xS ⟨_, bn, ae, (pS 11 (pS 10 (pS 9 (pS 8 (pS 7 (pS 6 (pS 5 (pS 4 (pS 1 (pU 0)))))))))), kv, (Pin.le_refl _), af3, af4, af5, af6, af7, af1, af8, af9, aga, agb, agc, agd, age, agf, agh.symm, agi.symm, agj.symm⟩
         ·skip
          refine (zS (i := 6) rfl rfl rfl (zD rfl _) (yV (E := eInt) (e := 3) [(vJ (c : Int))] [(c : Int)] Tryd.underlying40 sz3 zr3 (by exact xU (by rfl)) (yP (by rfl)) rfl rfl rfl rfl (by decide) dq.pins (fun kw agk agl agm bo agn => ?_)))
          have g3 := dq.step agm bo
          have pm := kn.below bo
          have pn := ko.below bo
          have po := kp.below bo
          have pp := kq.below bo
          have pq := kr.below bo
          have pr := h8.below bo
          have ps := ks.below bo
          have pt := kt.below bo
          have pu := ku.below bo
          have ago : Apart kw.ownBlock a0.ownBlock := zG agn h8.lt
          have agp : Own eInt 3 ae agk w.heap.size kw ([(c : Int)]) := agl.weaken dq.size
          refine ⟨fun _ => g3.pins, ?_⟩
          refine dO (i := 4) (zS (i := 4) rfl rfl rfl (zD rfl _) (oA (E := eInt) (v := a0) (u := kj) 8 Tryd.underlying40 ap3 (by decide) rfl rfl g3.pins pr ((kk.mono (Pin.le_trans (Pin.le_trans an y) e6)).src g3.pins (by decide)) (g3.size) (fun ci avx pv agq bp du => ?_)))
          have ib := g3.write agq bp ((zX pr))
          have pw := pm.keptA bp h0.symm
          have px := pn.keptA bp h1.symm
          have py := po.keptA bp h2.symm
          have pz := pp.keptA bp h3.symm
          have p0 := pq.keptA bp h4.symm
          have agr := agp.keptA bp ago
          have p1 := ps.keptA bp h5.symm
          have p2 := pt.keptA bp h6.symm
          have p3 := pu.keptA bp h7.symm
          have p4 : Apart at_.ownBlock ci.ownBlock := zE h0.symm du pm.lt
          have p5 : Apart ov.ownBlock ci.ownBlock := zE h1.symm du pn.lt
          have p6 : Apart bu.ownBlock ci.ownBlock := zE h2.symm du po.lt
          have p7 : Apart bv.ownBlock ci.ownBlock := zE h3.symm du pp.lt
          have p8 : Apart ab.ownBlock ci.ownBlock := zE h4.symm du pq.lt
          have p9 : Apart (some b) ci.ownBlock := zJ h5.symm du ps.lt
          have qa : Apart (some f) ci.ownBlock := zJ h6.symm du pt.lt
          have qb : Apart (some d) ci.ownBlock := zJ h7.symm du pu.lt
          have avy : (([]) ++ ((fr.take i).drop 0)).length = ([]).length + ((fr.take i).drop 0).length := List.length_append
          refine ⟨fun _ => ib.pins, ?_⟩
          refine dO (i := 7) (zS (i := 7) rfl rfl rfl (zD rfl _) (oA (E := eInt) (v := ci) (u := kw) 8 Tryd.underlying40 ap3 (by decide) rfl rfl ib.pins pv agr.src (ib.size) (fun cj avz qc ags ck dv => ?_)))
          have g4 := ib.write ags ck ((zX pv))
          have qf := pw.keptA ck p4
          have qg := px.keptA ck p5
          have qh := py.keptA ck p6
          have qi := pz.keptA ck p7
          have qj := p0.keptA ck p8
          have qk := p1.keptA ck p9
          have ql := p2.keptA ck qa
          have qm := p3.keptA ck qb
          have qn : Apart at_.ownBlock cj.ownBlock := zE p4 dv pw.lt
          have qo : Apart ov.ownBlock cj.ownBlock := zE p5 dv px.lt
          have qp : Apart bu.ownBlock cj.ownBlock := zE p6 dv py.lt
          have qq : Apart bv.ownBlock cj.ownBlock := zE p7 dv pz.lt
          have qr : Apart ab.ownBlock cj.ownBlock := zE p8 dv p0.lt
          have qs : Apart (some b) cj.ownBlock := zJ p9 dv p1.lt
          have qt : Apart (some f) cj.ownBlock := zJ qa dv p2.lt
          have qu : Apart (some d) cj.ownBlock := zJ qb dv p3.lt
          have av0 : ((([]) ++ ((fr.take i).drop 0)) ++ ([(c : Int)])).length = (([]) ++ ((fr.take i).drop 0)).length + 1 := List.length_append
          refine ⟨fun _ => g4.pins, ?_⟩
          refine dO (i := 11) (zS (i := 11) rfl rfl rfl (zD rfl _) (oA (E := eInt) (v := cj) (u := kl) 8 Tryd.underlying40 ap3 (by decide) rfl rfl g4.pins qc ((km.mono (Pin.le_trans (Pin.le_trans an y) e6)).src g4.pins (by decide)) (g4.size) (fun bq av1 agt agu cl dw => ?_)))
          have kx := g4.write agu cl ((zX qc))
          have agv := qf.keptA cl qn
          have agw := qg.keptA cl qo
          have agx := qh.keptA cl qp
          have agy := qi.keptA cl qq
          have agz := qj.keptA cl qr
          have ag0 := qk.keptA cl qs
          have ag1 := ql.keptA cl qt
          have ag2 := qm.keptA cl qu
          have ag5 : Apart at_.ownBlock bq.ownBlock := zE qn dw qf.lt
          have ag6 : Apart ov.ownBlock bq.ownBlock := zE qo dw qg.lt
          have ag7 : Apart bu.ownBlock bq.ownBlock := zE qp dw qh.lt
          have ag8 : Apart bv.ownBlock bq.ownBlock := zE qq dw qi.lt
          have ag9 : Apart ab.ownBlock bq.ownBlock := zE qr dw qj.lt
          have aha : Apart (some b) bq.ownBlock := zJ qs dw qk.lt
          have ahb : Apart (some f) bq.ownBlock := zJ qt dw ql.lt
          have ahc : Apart (some d) bq.ownBlock := zJ qu dw qm.lt
          have av2 : (((([]) ++ ((fr.take i).drop 0)) ++ ([(c : Int)])) ++ ((fr.take fr.length).drop i)).length = ((([]) ++ ((fr.take i).drop 0)) ++ ([(c : Int)])).length + ((fr.take fr.length).drop i).length := List.length_append
          refine ⟨fun _ => kx.pins, ?_⟩
          refine dM 12 bq kx.pins ?_
          refine yE (by kernel_rfl) ?_
          exact xS ⟨_, bq, ae, (pS 11 (pS 10 (pS 9 (pS 8 (pS 7 (pS 6 (pS 5 (pS 4 (pS 1 (pU 0)))))))))), kx, (Pin.le_refl _), agv, agw, agx, agy, agz, agt, ag0, ag1, ag2, ag5, ag6, ag7, ag8, ag9, aha.symm, ahb.symm, ahc.symm⟩
        ·skip
         refine (zS (i := 6) rfl rfl rfl (zD rfl _) (yV (E := eInt) (e := 3) [(vJ (c : Int))] [(c : Int)] Tryd.underlying40 sz3 zr3 (by exact xU (by rfl)) (yP (by rfl)) rfl rfl rfl rfl (by decide) au.pins (fun ky ahd ahe ahf cm av3 => ?_)))
         have ic := au.step ahf cm
         have qv := kb.below cm
         have qw := kc.below cm
         have qx := kd.below cm
         have qy := ke.below cm
         have qz := kf.below cm
         have q2 := kg.below cm
         have q3 := kh.below cm
         have q4 := ki.below cm
         have q5 : Own eInt 3 ae ahd w.heap.size ky ([(c : Int)]) := ahe.weaken au.size
         refine ⟨fun _ => ic.pins, ?_⟩
         refine dO (i := 0) (zS (i := 0) rfl rfl rfl (zD rfl _) (xH (E := eInt) (e := 3) Tryd.underlying40 sz3 ic.pins (fun be ahg ahh ahi br cn => ?_)))
         have g5 := ic.step ahi br
         have q6 := qv.below br
         have q7 := qw.below br
         have q8 := qx.below br
         have q9 := qy.below br
         have ra := qz.below br
         have ahj := q5.below br
         have rb := q2.below br
         have rc := q3.below br
         have rd := q4.below br
         have re : Apart be.ownBlock at_.ownBlock := zG cn qv.lt
         have rf : Apart be.ownBlock ov.ownBlock := zG cn qw.lt
         have rg : Apart be.ownBlock bu.ownBlock := zG cn qx.lt
         have rh : Apart be.ownBlock bv.ownBlock := zG cn qy.lt
         have ri : Apart be.ownBlock ab.ownBlock := zG cn qz.lt
         have ahk : Apart be.ownBlock ky.ownBlock := zG cn q5.lt
         have rj : Apart be.ownBlock (some b) := zI cn q2.lt
         have rk : Apart be.ownBlock (some f) := zI cn q3.lt
         have rl : Apart be.ownBlock (some d) := zI cn q4.lt
         have rm : Own eInt 3 ae ahg w.heap.size be ([]) := ahh.weaken ic.size
         refine ⟨fun _ => g5.pins, ?_⟩
         refine dO (i := 4) (zS (i := 4) rfl rfl rfl (zD rfl _) (oA (E := eInt) (v := be) (u := kj) 8 Tryd.underlying40 ap3 (by decide) rfl rfl g5.pins rm ((kk.mono (Pin.le_trans (Pin.le_trans an y) e6)).src g5.pins (by decide)) (g5.size) (fun co av4 rn ahl bt dx => ?_)))
         have ie := g5.write ahl bt ((zX rm))
         have ro := q6.keptA bt re.symm
         have rp := q7.keptA bt rf.symm
         have rq := q8.keptA bt rg.symm
         have rr := q9.keptA bt rh.symm
         have rs := ra.keptA bt ri.symm
         have ahm := ahj.keptA bt ahk.symm
         have rt := rb.keptA bt rj.symm
         have ru := rc.keptA bt rk.symm
         have rv := rd.keptA bt rl.symm
         have rx : Apart at_.ownBlock co.ownBlock := zE re.symm dx q6.lt
         have ry : Apart ov.ownBlock co.ownBlock := zE rf.symm dx q7.lt
         have rz : Apart bu.ownBlock co.ownBlock := zE rg.symm dx q8.lt
         have r0 : Apart bv.ownBlock co.ownBlock := zE rh.symm dx q9.lt
         have r1 : Apart ab.ownBlock co.ownBlock := zE ri.symm dx ra.lt
         have r2 : Apart (some b) co.ownBlock := zJ rj.symm dx rb.lt
         have r3 : Apart (some f) co.ownBlock := zJ rk.symm dx rc.lt
         have r4 : Apart (some d) co.ownBlock := zJ rl.symm dx rd.lt
         have av5 : (([]) ++ ((fr.take i).drop 0)).length = ([]).length + ((fr.take i).drop 0).length := List.length_append
         refine ⟨fun _ => ie.pins, ?_⟩
         refine dO (i := 7) (zS (i := 7) rfl rfl rfl (zD rfl _) (oA (E := eInt) (v := co) (u := ky) 8 Tryd.underlying40 ap3 (by decide) rfl rfl ie.pins rn ahm.src (ie.size) (fun cp av6 r5 ahn cq dy => ?_)))
         have g6 := ie.write ahn cq ((zX rn))
         have r6 := ro.keptA cq rx
         have r7 := rp.keptA cq ry
         have r8 := rq.keptA cq rz
         have r9 := rr.keptA cq r0
         have sa := rs.keptA cq r1
         have sb := rt.keptA cq r2
         have sc := ru.keptA cq r3
         have sd := rv.keptA cq r4
         have se : Apart at_.ownBlock cp.ownBlock := zE rx dy ro.lt
         have sf : Apart ov.ownBlock cp.ownBlock := zE ry dy rp.lt
         have sg : Apart bu.ownBlock cp.ownBlock := zE rz dy rq.lt
         have sh : Apart bv.ownBlock cp.ownBlock := zE r0 dy rr.lt
         have si : Apart ab.ownBlock cp.ownBlock := zE r1 dy rs.lt
         have sj : Apart (some b) cp.ownBlock := zJ r2 dy rt.lt
         have sk : Apart (some f) cp.ownBlock := zJ r3 dy ru.lt
         have sl : Apart (some d) cp.ownBlock := zJ r4 dy rv.lt
         have av7 : ((([]) ++ ((fr.take i).drop 0)) ++ ([(c : Int)])).length = (([]) ++ ((fr.take i).drop 0)).length + 1 := List.length_append
         refine ⟨fun _ => g6.pins, ?_⟩
         refine dO (i := 11) (zS (i := 11) rfl rfl rfl (zD rfl _) (oA (E := eInt) (v := cp) (u := kl) 8 Tryd.underlying40 ap3 (by decide) rfl rfl g6.pins r5 ((km.mono (Pin.le_trans (Pin.le_trans an y) e6)).src g6.pins (by decide)) (g6.size) (fun bw av8 aho ahp cr dz => ?_)))
         have kz := g6.write ahp cr ((zX r5))
         have ahq := r6.keptA cr se
         have ahr := r7.keptA cr sf
         have ahs := r8.keptA cr sg
         have aht := r9.keptA cr sh
         have ahu := sa.keptA cr si
         have ahv := sb.keptA cr sj
         have ahw := sc.keptA cr sk
         have ahx := sd.keptA cr sl
         have ahy : Apart at_.ownBlock bw.ownBlock := zE se dz r6.lt
         have ahz : Apart ov.ownBlock bw.ownBlock := zE sf dz r7.lt
         have ah0 : Apart bu.ownBlock bw.ownBlock := zE sg dz r8.lt
         have ah1 : Apart bv.ownBlock bw.ownBlock := zE sh dz r9.lt
         have ah2 : Apart ab.ownBlock bw.ownBlock := zE si dz sa.lt
         have ah3 : Apart (some b) bw.ownBlock := zJ sj dz sb.lt
         have ah4 : Apart (some f) bw.ownBlock := zJ sk dz sc.lt
         have ah5 : Apart (some d) bw.ownBlock := zJ sl dz sd.lt
         have av9 : (((([]) ++ ((fr.take i).drop 0)) ++ ([(c : Int)])) ++ ((fr.take fr.length).drop i)).length = ((([]) ++ ((fr.take i).drop 0)) ++ ([(c : Int)])).length + ((fr.take fr.length).drop i).length := List.length_append
         refine ⟨fun _ => kz.pins, ?_⟩
         refine dM 12 bw kz.pins ?_
         refine yE (by kernel_rfl) ?_
         exact xS ⟨_, bw, ae, (pS 11 (pS 10 (pS 9 (pS 8 (pS 7 (pS 6 (pS 5 (pS 4 (pS 1 (pU 0)))))))))), kz, (Pin.le_refl _), ahq, ahr, ahs, aht, ahu, aho, ahv, ahw, ahx, ahy, ahz, ah0, ah1, ah2, ah3.symm, ah4.symm, ah5.symm⟩
      ·skip
       refine xE (S := fun wz => Pins s wz) (last := 13) (by kernel_rfl) rfl ?_
       have ct : Below e5.heap.size e5 e5.drew := (Below.refl _ _).drew
       have ah6 := g1.pins.below ct
       have av := g1.step ah6 ct
       have k0 := j2.below ct
       have k1 := j3.below ct
       have k2 := j4.below ct
       have k3 := j5.below ct
       have k4 := j6.below ct
       have k6 := j7.below ct
       have k7 := j8.below ct
       refine dM 1 lv av.pins ?_
       refine dM 2 (vJ (i : Int)) av.pins ?_
       obtain ⟨k8, k9, ah7⟩ := qB bk (lo := none) (hi := (some ((i : Int)))) (0) (i) (Or.inl ⟨rfl, rfl⟩) (Or.inr ⟨_, rfl, (by omega), rfl⟩) (by omega) (by omega)
       refine dT (i := 3) rfl rfl (by kernel_rfl) (fun _ _ => ah7 Tryd.underlying24 sz60 rfl rfl rfl) av.pins ?_
       refine dT (i := 5) rfl rfl (by kernel_rfl) (fun _ hS => yB (cs := [ca, cb]) ag60 sz60 rfl (fun j u hj => (Pins.of_le hS y) _ _ _ (oh _ _ (by simpa using hj)))) av.pins ?_
       refine dM 8 lv av.pins ?_
       refine dM 9 (vJ (i : Int)) av.pins ?_
       obtain ⟨la, lb, ah8⟩ := qB bk (lo := (some ((i : Int)))) (hi := none) (i) (ls.length) (Or.inr ⟨_, rfl, (by omega), rfl⟩) (Or.inl ⟨rfl, rfl⟩) (by omega) (by omega)
       refine dT (i := 10) rfl rfl (by kernel_rfl) (fun _ _ => ah8 Tryd.underlying24 sz60 rfl rfl rfl) av.pins ?_
       refine qL (i := 0) (j := 6) (by kernel_rfl) ?_ ?_
       ·skip
        refine (zS (i := 0) rfl rfl rfl (zD rfl _) (xH (E := eNode) (e := 60) Tryd.underlying24 sz60 av.pins (fun bf ah9 aia aib d0 e8 => ?_)))
        have d1 := av.step aib d0
        have lc := k0.below d0
        have ld := k1.below d0
        have lf := k2.below d0
        have lg := k3.below d0
        have lh := k4.below d0
        have li := k6.below d0
        have lj := k7.below d0
        have ig : Apart bf.ownBlock at_.ownBlock := zG e8 k0.lt
        have ih : Apart bf.ownBlock ov.ownBlock := zG e8 k1.lt
        have ii : Apart bf.ownBlock bu.ownBlock := zG e8 k2.lt
        have ij : Apart bf.ownBlock bv.ownBlock := zG e8 k3.lt
        have ik : Apart bf.ownBlock (some b) := zI e8 k4.lt
        have il : Apart bf.ownBlock (some f) := zI e8 k6.lt
        have im : Apart bf.ownBlock (some d) := zI e8 k7.lt
        have io : Own eNode 60 s ah9 w.heap.size bf ([]) := aia.weaken av.size
        refine ⟨fun _ => d1.pins, ?_⟩
        refine qL (i := 4) (j := 6) (by kernel_rfl) ?_ ?_
        ·skip
         refine (zS (i := 4) rfl rfl rfl (zD rfl _) (oA (E := eNode) (v := bf) (u := k8) 48 Tryd.underlying24 ap60 (by decide) rfl rfl d1.pins io ((k9.mono (Pin.le_trans an y)).src d1.pins (by decide)) (d1.size) (fun d2 awa aic aid d3 e9 => ?_)))
         have ip := d1.write aid d3 ((zX io))
         have aie := lc.keptA d3 ig.symm
         have aif := ld.keptA d3 ih.symm
         have aig := lf.keptA d3 ii.symm
         have aih := lg.keptA d3 ij.symm
         have aii := lh.keptA d3 ik.symm
         have aij := li.keptA d3 il.symm
         have aik := lj.keptA d3 im.symm
         have sm : Apart at_.ownBlock d2.ownBlock := zE ig.symm e9 lc.lt
         have sn : Apart ov.ownBlock d2.ownBlock := zE ih.symm e9 ld.lt
         have sp : Apart bu.ownBlock d2.ownBlock := zE ii.symm e9 lf.lt
         have sq : Apart bv.ownBlock d2.ownBlock := zE ij.symm e9 lg.lt
         have sr : Apart (some b) d2.ownBlock := zJ ik.symm e9 lh.lt
         have ss : Apart (some f) d2.ownBlock := zJ il.symm e9 li.lt
         have st : Apart (some d) d2.ownBlock := zJ im.symm e9 lj.lt
         have awb : (([]) ++ ((ls.take i).drop 0)).length = ([]).length + ((ls.take i).drop 0).length := List.length_append
         refine ⟨fun _ => ip.pins, ?_⟩
         refine dO (i := 6) (zS (i := 6) rfl rfl rfl (zD rfl _) (xL (E := eNode) (e := 60) [ca, cb] (⟨sortL (atL ats ((ns.getD c default).l)), sortL (atL ats ((ns.getD c default).r))⟩ : Nd) Tryd.underlying24 sz60 zr60 ⟨_, _, rfl, (hy.mono y), (hz.mono y)⟩ rfl (by decide) ip.pins (fun su ail aim ain cu awc => ?_)))
         have iq := ip.step ain cu
         have sv := aie.below cu
         have sw := aif.below cu
         have sx := aig.below cu
         have sy := aih.below cu
         have sz := aic.below cu
         have s0 := aii.below cu
         have s1 := aij.below cu
         have s2 := aik.below cu
         have aio : Own eNode 60 s ail w.heap.size su ([(⟨sortL (atL ats ((ns.getD c default).l)), sortL (atL ats ((ns.getD c default).r))⟩ : Nd)]) := aim.weaken ip.size
         refine ⟨fun _ => iq.pins, ?_⟩
         refine dO (i := 7) (zS (i := 7) rfl rfl rfl (zD rfl _) (oA (E := eNode) (v := d2) (u := su) 48 Tryd.underlying24 ap60 (by decide) rfl rfl iq.pins sz aio.src (iq.size) (fun d4 awd s3 aip d5 fa => ?_)))
         have g7 := iq.write aip d5 ((zX sz))
         have s4 := sv.keptA d5 sm
         have s5 := sw.keptA d5 sn
         have s6 := sx.keptA d5 sp
         have s7 := sy.keptA d5 sq
         have s8 := s0.keptA d5 sr
         have s9 := s1.keptA d5 ss
         have ta := s2.keptA d5 st
         have tb : Apart at_.ownBlock d4.ownBlock := zE sm fa sv.lt
         have tc : Apart ov.ownBlock d4.ownBlock := zE sn fa sw.lt
         have td : Apart bu.ownBlock d4.ownBlock := zE sp fa sx.lt
         have te : Apart bv.ownBlock d4.ownBlock := zE sq fa sy.lt
         have tf : Apart (some b) d4.ownBlock := zJ sr fa s0.lt
         have tg : Apart (some f) d4.ownBlock := zJ ss fa s1.lt
         have th : Apart (some d) d4.ownBlock := zJ st fa s2.lt
         have awe : ((([]) ++ ((ls.take i).drop 0)) ++ ([(⟨sortL (atL ats ((ns.getD c default).l)), sortL (atL ats ((ns.getD c default).r))⟩ : Nd)])).length = (([]) ++ ((ls.take i).drop 0)).length + 1 := List.length_append
         refine ⟨fun _ => g7.pins, ?_⟩
         refine dO (i := 11) (zS (i := 11) rfl rfl rfl (zD rfl _) (oA (E := eNode) (v := d4) (u := la) 48 Tryd.underlying24 ap60 (by decide) rfl rfl g7.pins s3 ((lb.mono (Pin.le_trans an y)).src g7.pins (by decide)) (g7.size) (fun cv awf aiq air d6 fb => ?_)))
         have lk := g7.write air d6 ((zX s3))
         have ais := s4.keptA d6 tb
         have ait := s5.keptA d6 tc
         have aiu := s6.keptA d6 td
         have aiv := s7.keptA d6 te
         have aiw := s8.keptA d6 tf
         have aix := s9.keptA d6 tg
         have aiy := ta.keptA d6 th
         have aiz : Apart at_.ownBlock cv.ownBlock := zE tb fb s4.lt
         have ai0 : Apart ov.ownBlock cv.ownBlock := zE tc fb s5.lt
         have ai1 : Apart bu.ownBlock cv.ownBlock := zE td fb s6.lt
         have ai2 : Apart bv.ownBlock cv.ownBlock := zE te fb s7.lt
         have ai3 : Apart (some b) cv.ownBlock := zJ tf fb s8.lt
         have ai4 : Apart (some f) cv.ownBlock := zJ tg fb s9.lt
         have ai5 : Apart (some d) cv.ownBlock := zJ th fb ta.lt
         have awg : (((([]) ++ ((ls.take i).drop 0)) ++ ([(⟨sortL (atL ats ((ns.getD c default).l)), sortL (atL ats ((ns.getD c default).r))⟩ : Nd)])) ++ ((ls.take ls.length).drop i)).length = ((([]) ++ ((ls.take i).drop 0)) ++ ([(⟨sortL (atL ats ((ns.getD c default).l)), sortL (atL ats ((ns.getD c default).r))⟩ : Nd)])).length + ((ls.take ls.length).drop i).length := List.length_append
         refine ⟨fun _ => lk.pins, ?_⟩
         refine dM 12 cv lk.pins ?_
         refine yE (by kernel_rfl) ?_
         exact xS ⟨_, cv, s, (pS 13 (pS 11 (pS 10 (pS 9 (pS 8 (pS 7 (pS 6 (pS 5 (pS 4 (pS 1 (pU 0))))))))))), lk, (Pin.le_refl _), ais, ait, aiu, aiv, aiq, aiw, aix, aiy, aiz, ai0, ai1, ai2, ai3.symm, ai4.symm, ai5.symm⟩
        ·skip
         refine (zS (i := 6) rfl rfl rfl (zD rfl _) (xL (E := eNode) (e := 60) [ca, cb] (⟨sortL (atL ats ((ns.getD c default).l)), sortL (atL ats ((ns.getD c default).r))⟩ : Nd) Tryd.underlying24 sz60 zr60 ⟨_, _, rfl, (hy.mono y), (hz.mono y)⟩ rfl (by decide) d1.pins (fun ll ai6 ai7 ai8 cw ai9 => ?_)))
         have g8 := d1.step ai8 cw
         have ti := lc.below cw
         have tj := ld.below cw
         have tk := lf.below cw
         have tl := lg.below cw
         have tm := io.below cw
         have tn := lh.below cw
         have tp := li.below cw
         have tq := lj.below cw
         have aja : Apart ll.ownBlock bf.ownBlock := zG ai9 io.lt
         have ajb : Own eNode 60 s ai6 w.heap.size ll ([(⟨sortL (atL ats ((ns.getD c default).l)), sortL (atL ats ((ns.getD c default).r))⟩ : Nd)]) := ai7.weaken d1.size
         refine ⟨fun _ => g8.pins, ?_⟩
         refine dO (i := 4) (zS (i := 4) rfl rfl rfl (zD rfl _) (oA (E := eNode) (v := bf) (u := k8) 48 Tryd.underlying24 ap60 (by decide) rfl rfl g8.pins tm ((k9.mono (Pin.le_trans an y)).src g8.pins (by decide)) (g8.size) (fun d7 awh ts ajc cx fc => ?_)))
         have ir := g8.write ajc cx ((zX tm))
         have tt := ti.keptA cx ig.symm
         have tu := tj.keptA cx ih.symm
         have tv := tk.keptA cx ii.symm
         have tw := tl.keptA cx ij.symm
         have ajd := ajb.keptA cx aja
         have tx := tn.keptA cx ik.symm
         have ty := tp.keptA cx il.symm
         have tz := tq.keptA cx im.symm
         have t0 : Apart at_.ownBlock d7.ownBlock := zE ig.symm fc ti.lt
         have t1 : Apart ov.ownBlock d7.ownBlock := zE ih.symm fc tj.lt
         have t2 : Apart bu.ownBlock d7.ownBlock := zE ii.symm fc tk.lt
         have t3 : Apart bv.ownBlock d7.ownBlock := zE ij.symm fc tl.lt
         have t4 : Apart (some b) d7.ownBlock := zJ ik.symm fc tn.lt
         have t5 : Apart (some f) d7.ownBlock := zJ il.symm fc tp.lt
         have t6 : Apart (some d) d7.ownBlock := zJ im.symm fc tq.lt
         have awi : (([]) ++ ((ls.take i).drop 0)).length = ([]).length + ((ls.take i).drop 0).length := List.length_append
         refine ⟨fun _ => ir.pins, ?_⟩
         refine dO (i := 7) (zS (i := 7) rfl rfl rfl (zD rfl _) (oA (E := eNode) (v := d7) (u := ll) 48 Tryd.underlying24 ap60 (by decide) rfl rfl ir.pins ts ajd.src (ir.size) (fun d8 awj t7 aje d9 fd => ?_)))
         have g9 := ir.write aje d9 ((zX ts))
         have t8 := tt.keptA d9 t0
         have t9 := tu.keptA d9 t1
         have ua := tv.keptA d9 t2
         have ub := tw.keptA d9 t3
         have uc := tx.keptA d9 t4
         have ud := ty.keptA d9 t5
         have ue := tz.keptA d9 t6
         have uf : Apart at_.ownBlock d8.ownBlock := zE t0 fd tt.lt
         have ug : Apart ov.ownBlock d8.ownBlock := zE t1 fd tu.lt
         have uh : Apart bu.ownBlock d8.ownBlock := zE t2 fd tv.lt
         have ui : Apart bv.ownBlock d8.ownBlock := zE t3 fd tw.lt
         have uj : Apart (some b) d8.ownBlock := zJ t4 fd tx.lt
         have uk : Apart (some f) d8.ownBlock := zJ t5 fd ty.lt
         have ul : Apart (some d) d8.ownBlock := zJ t6 fd tz.lt
         have awk : ((([]) ++ ((ls.take i).drop 0)) ++ ([(⟨sortL (atL ats ((ns.getD c default).l)), sortL (atL ats ((ns.getD c default).r))⟩ : Nd)])).length = (([]) ++ ((ls.take i).drop 0)).length + 1 := List.length_append
         refine ⟨fun _ => g9.pins, ?_⟩
         refine dO (i := 11) (zS (i := 11) rfl rfl rfl (zD rfl _) (oA (E := eNode) (v := d8) (u := la) 48 Tryd.underlying24 ap60 (by decide) rfl rfl g9.pins t7 ((lb.mono (Pin.le_trans an y)).src g9.pins (by decide)) (g9.size) (fun cy awl ajf ajg ea fe => ?_)))
         have lm := g9.write ajg ea ((zX t7))
         have ajh := t8.keptA ea uf
         have aji := t9.keptA ea ug
         have ajj := ua.keptA ea uh
         have ajk := ub.keptA ea ui
         have ajl := uc.keptA ea uj
         have ajm := ud.keptA ea uk
         have ajn := ue.keptA ea ul
         have ajo : Apart at_.ownBlock cy.ownBlock := zE uf fe t8.lt
         have ajp : Apart ov.ownBlock cy.ownBlock := zE ug fe t9.lt
         have ajq : Apart bu.ownBlock cy.ownBlock := zE uh fe ua.lt
         have ajr : Apart bv.ownBlock cy.ownBlock := zE ui fe ub.lt
         have ajs : Apart (some b) cy.ownBlock := zJ uj fe uc.lt
         have ajt : Apart (some f) cy.ownBlock := zJ uk fe ud.lt
         have aju : Apart (some d) cy.ownBlock := zJ ul fe ue.lt
         have awm : (((([]) ++ ((ls.take i).drop 0)) ++ ([(⟨sortL (atL ats ((ns.getD c default).l)), sortL (atL ats ((ns.getD c default).r))⟩ : Nd)])) ++ ((ls.take ls.length).drop i)).length = ((([]) ++ ((ls.take i).drop 0)) ++ ([(⟨sortL (atL ats ((ns.getD c default).l)), sortL (atL ats ((ns.getD c default).r))⟩ : Nd)])).length + ((ls.take ls.length).drop i).length := List.length_append
         refine ⟨fun _ => lm.pins, ?_⟩
         refine dM 12 cy lm.pins ?_
         refine yE (by kernel_rfl) ?_
         exact xS ⟨_, cy, s, (pS 13 (pS 11 (pS 10 (pS 9 (pS 8 (pS 7 (pS 6 (pS 5 (pS 4 (pS 1 (pU 0))))))))))), lm, (Pin.le_refl _), ajh, aji, ajj, ajk, ajf, ajl, ajm, ajn, ajo, ajp, ajq, ajr, ajs.symm, ajt.symm, aju.symm⟩
       ·skip
        refine (zS (i := 6) rfl rfl rfl (zD rfl _) (xL (E := eNode) (e := 60) [ca, cb] (⟨sortL (atL ats ((ns.getD c default).l)), sortL (atL ats ((ns.getD c default).r))⟩ : Nd) Tryd.underlying24 sz60 zr60 ⟨_, _, rfl, (hy.mono y), (hz.mono y)⟩ rfl (by decide) av.pins (fun ln ajv ajw ajx eb awn => ?_)))
        have it := av.step ajx eb
        have um := k0.below eb
        have un := k1.below eb
        have uo := k2.below eb
        have up := k3.below eb
        have uq := k4.below eb
        have ur := k6.below eb
        have ut := k7.below eb
        have uu : Own eNode 60 s ajv w.heap.size ln ([(⟨sortL (atL ats ((ns.getD c default).l)), sortL (atL ats ((ns.getD c default).r))⟩ : Nd)]) := ajw.weaken av.size
        refine ⟨fun _ => it.pins, ?_⟩
        refine dO (i := 0) (zS (i := 0) rfl rfl rfl (zD rfl _) (xH (E := eNode) (e := 60) Tryd.underlying24 sz60 it.pins (fun bz ajy ajz aj0 cz ec => ?_)))
        have ha := it.step aj0 cz
        have uv := um.below cz
        have uw := un.below cz
        have ux := uo.below cz
        have uy := up.below cz
        have aj1 := uu.below cz
        have uz := uq.below cz
        have u0 := ur.below cz
        have u1 := ut.below cz
        have u2 : Apart bz.ownBlock at_.ownBlock := zG ec um.lt
        have u3 : Apart bz.ownBlock ov.ownBlock := zG ec un.lt
        have u4 : Apart bz.ownBlock bu.ownBlock := zG ec uo.lt
        have u5 : Apart bz.ownBlock bv.ownBlock := zG ec up.lt
        have aj2 : Apart bz.ownBlock ln.ownBlock := zG ec uu.lt
        have u6 : Apart bz.ownBlock (some b) := zI ec uq.lt
        have u7 : Apart bz.ownBlock (some f) := zI ec ur.lt
        have u8 : Apart bz.ownBlock (some d) := zI ec ut.lt
        have u9 : Own eNode 60 s ajy w.heap.size bz ([]) := ajz.weaken it.size
        refine ⟨fun _ => ha.pins, ?_⟩
        refine dO (i := 4) (zS (i := 4) rfl rfl rfl (zD rfl _) (oA (E := eNode) (v := bz) (u := k8) 48 Tryd.underlying24 ap60 (by decide) rfl rfl ha.pins u9 ((k9.mono (Pin.le_trans an y)).src ha.pins (by decide)) (ha.size) (fun ed awo va aj3 c0 ff => ?_)))
        have iu := ha.write aj3 c0 ((zX u9))
        have vb := uv.keptA c0 u2.symm
        have vc := uw.keptA c0 u3.symm
        have vd := ux.keptA c0 u4.symm
        have ve := uy.keptA c0 u5.symm
        have aj4 := aj1.keptA c0 aj2.symm
        have vf := uz.keptA c0 u6.symm
        have vg := u0.keptA c0 u7.symm
        have vh := u1.keptA c0 u8.symm
        have vi : Apart at_.ownBlock ed.ownBlock := zE u2.symm ff uv.lt
        have vj : Apart ov.ownBlock ed.ownBlock := zE u3.symm ff uw.lt
        have vk : Apart bu.ownBlock ed.ownBlock := zE u4.symm ff ux.lt
        have vl : Apart bv.ownBlock ed.ownBlock := zE u5.symm ff uy.lt
        have vm : Apart (some b) ed.ownBlock := zJ u6.symm ff uz.lt
        have vn : Apart (some f) ed.ownBlock := zJ u7.symm ff u0.lt
        have vo : Apart (some d) ed.ownBlock := zJ u8.symm ff u1.lt
        have awp : (([]) ++ ((ls.take i).drop 0)).length = ([]).length + ((ls.take i).drop 0).length := List.length_append
        refine ⟨fun _ => iu.pins, ?_⟩
        refine dO (i := 7) (zS (i := 7) rfl rfl rfl (zD rfl _) (oA (E := eNode) (v := ed) (u := ln) 48 Tryd.underlying24 ap60 (by decide) rfl rfl iu.pins va aj4.src (iu.size) (fun ee awq vp aj5 ef fg => ?_)))
        have hb := iu.write aj5 ef ((zX va))
        have vq := vb.keptA ef vi
        have vr := vc.keptA ef vj
        have vt := vd.keptA ef vk
        have vu := ve.keptA ef vl
        have vv := vf.keptA ef vm
        have vw := vg.keptA ef vn
        have vx := vh.keptA ef vo
        have vy : Apart at_.ownBlock ee.ownBlock := zE vi fg vb.lt
        have vz : Apart ov.ownBlock ee.ownBlock := zE vj fg vc.lt
        have v0 : Apart bu.ownBlock ee.ownBlock := zE vk fg vd.lt
        have v1 : Apart bv.ownBlock ee.ownBlock := zE vl fg ve.lt
        have v2 : Apart (some b) ee.ownBlock := zJ vm fg vf.lt
        have v3 : Apart (some f) ee.ownBlock := zJ vn fg vg.lt
        have v4 : Apart (some d) ee.ownBlock := zJ vo fg vh.lt
        have awr : ((([]) ++ ((ls.take i).drop 0)) ++ ([(⟨sortL (atL ats ((ns.getD c default).l)), sortL (atL ats ((ns.getD c default).r))⟩ : Nd)])).length = (([]) ++ ((ls.take i).drop 0)).length + 1 := List.length_append
        refine ⟨fun _ => hb.pins, ?_⟩
        refine dO (i := 11) (zS (i := 11) rfl rfl rfl (zD rfl _) (oA (E := eNode) (v := ee) (u := la) 48 Tryd.underlying24 ap60 (by decide) rfl rfl hb.pins vp ((lb.mono (Pin.le_trans an y)).src hb.pins (by decide)) (hb.size) (fun c1 aws aj6 aj7 eg fh => ?_)))
        have lp := hb.write aj7 eg ((zX vp))
        have aj8 := vq.keptA eg vy
        have aj9 := vr.keptA eg vz
        have aka := vt.keptA eg v0
        have akb := vu.keptA eg v1
        have akc := vv.keptA eg v2
        have akd := vw.keptA eg v3
        have ake := vx.keptA eg v4
        have akf : Apart at_.ownBlock c1.ownBlock := zE vy fh vq.lt
        have akg : Apart ov.ownBlock c1.ownBlock := zE vz fh vr.lt
        have akh : Apart bu.ownBlock c1.ownBlock := zE v0 fh vt.lt
        have aki : Apart bv.ownBlock c1.ownBlock := zE v1 fh vu.lt
        have akj : Apart (some b) c1.ownBlock := zJ v2 fh vv.lt
        have akk : Apart (some f) c1.ownBlock := zJ v3 fh vw.lt
        have akl : Apart (some d) c1.ownBlock := zJ v4 fh vx.lt
        have awt : (((([]) ++ ((ls.take i).drop 0)) ++ ([(⟨sortL (atL ats ((ns.getD c default).l)), sortL (atL ats ((ns.getD c default).r))⟩ : Nd)])) ++ ((ls.take ls.length).drop i)).length = ((([]) ++ ((ls.take i).drop 0)) ++ ([(⟨sortL (atL ats ((ns.getD c default).l)), sortL (atL ats ((ns.getD c default).r))⟩ : Nd)])).length + ((ls.take ls.length).drop i).length := List.length_append
        refine ⟨fun _ => lp.pins, ?_⟩
        refine dM 12 c1 lp.pins ?_
        refine yE (by kernel_rfl) ?_
        exact xS ⟨_, c1, s, (pS 13 (pS 11 (pS 10 (pS 9 (pS 8 (pS 7 (pS 6 (pS 5 (pS 4 (pS 1 (pU 0))))))))))), lp, (Pin.le_refl _), aj8, aj9, aka, akb, aj6, akc, akd, ake, akf, akg, akh, aki, akj.symm, akk.symm, akl.symm⟩
     ·skip
      refine yL (fun (k : Nat) (en : Nat → Value) (W : World) => ∃ (ac : Nat → Value) (i : Nat) (s : Pin), en = (upd (upd (upd (upd (upd (upd (upd (upd (upd (upd (upd (upd ac 0 (.pointer (some ⟨b, 0, none⟩))) 1 (vJ m)) 4 (.pointer (some ⟨f, 0, none⟩))) 5 ax) 6 at_) 7 (.pointer (some ⟨d, 0, none⟩))) 8 (vJ (q : Int))) 9 lv) 10 fv) 11 (vJ (c : Int))) 12 (.pointer (some ⟨g0, 0, none⟩))) 13 (vJ (i : Int))) ∧ k = ls.length - i ∧ Ext noS G w s W ∧ Pin.le am s ∧ (i ≤ ls.length) ∧ (posM ls (ndAt ats (ns.getD c default)) = i + posM (ls.drop i) (ndAt ats (ns.getD c default))) ∧ (Own eInt 3 s W w.heap.size at_ (ats)) ∧ (Own eNode 60 s W w.heap.size ov (outs)) ∧ (Own eNode 60 s W 0 bu (ns)) ∧ (Own eInt 3 s W 0 bv (bs)) ∧ (Bx s W b [bu, bv]) ∧ (Bx s W f [(.slice none 0 0)]) ∧ (Bx s W d [ov])) _ ⟨_, 0, am, (pS 13 (pS 12 (pS 11 (pS 10 (pS 9 (pS 8 (pS 7 (pS 6 (pS 5 (pS 4 (pS 1 (pU 0)))))))))))), rfl, adp, Pin.le_refl _, Nat.zero_le _, (Nat.zero_add _).symm, adq, adr, ads, adt, adu, adv, adw⟩ ?_
      rintro awu _ e5 ⟨ac, i, s, rfl, awv, g1, y, hi, hpp, j2, j3, j4, j5, j6, j7, j8⟩
      refine zB (zB ?_)
      refine xE (S := fun wz => Pins s wz) (last := 12) (by kernel_rfl) rfl ?_
      have c2 : Below e5.heap.size e5 e5.drew := (Below.refl _ _).drew
      have akm := g1.pins.below c2
      have ag := g1.step akm c2
      have v5 := j2.below c2
      have v6 := j3.below c2
      have v7 := j4.below c2
      have v8 := j5.below c2
      have v9 := j6.below c2
      have wa := j7.below c2
      have wb := j8.below c2
      refine dM 0 (vJ (i : Int)) ag.pins ?_
      refine dM 1 lv ag.pins ?_
      refine dT (i := 2) rfl rfl (by kernel_rfl) (fun _ _ => zO Tryd.underlying24 (v := lv) rfl bk) ag.pins ?_
      refine dT (i := 3) rfl rfl (by kernel_rfl) (fun _ _ => yU rfl rfl) ag.pins ?_
      refine dM 4 (.bool (decide (((i : Int) : Int) < (ls.length : Int)))) ag.pins ?_
      refine drbd (p := ((i : Int) : Int) < (ls.length : Int)) (t := 84) rfl (fun akn => ?_) (fun akn => ?_)
      ·skip
       refine yW (i := 5) rfl rfl rfl (yI rfl rfl rfl rfl) (by kernel_rfl) (fun _ _ => zR (v := lv) rfl) ag.pins ?_
       refine yW (i := 6) rfl rfl rfl (yI rfl rfl rfl rfl) (by kernel_rfl) (fun _ _ => zR (v := (vJ (i : Int))) rfl) ag.pins ?_
       refine yW (i := 7) rfl rfl rfl (yI rfl rfl rfl rfl) (by kernel_rfl) (fun _ _ => zH Tryd.underlying24 sz60 (v := lv) rfl rfl bk (by omega) (by omega)) ag.pins ?_
       obtain ⟨ako, akp, wc, wd, akq⟩ := nm_node (bk.at (z := (i : Int)) (by omega) (by omega)) (j := i) rfl
       have aww := wc.max
       have awx := wd.max
       refine yW (i := 8) rfl rfl rfl (yI rfl rfl rfl rfl) (by kernel_rfl) (fun _ hS => akq ag60 sz60 rfl (Pins.of_le hS (Pin.le_trans an y))) ag.pins ?_
       refine yW (i := 9) rfl rfl rfl (yI rfl rfl rfl rfl) (by kernel_rfl) (fun _ hS => yB (cs := [ca, cb]) ag60 sz60 rfl (fun j u hj => (Pins.of_le hS y) _ _ _ (oh _ _ (by simpa using hj)))) ag.pins ?_
       refine dO (i := 10) (zS (i := 10) rfl rfl rfl (yI rfl rfl rfl rfl) (zL (vs := [(.agg [ako, akp].toArray), (.agg [ca, cb].toArray)]) Tryd.func73 nm73 rfl rfl rfl ?_))
       refine Calls.mono (l3NodeAhead_spec (a := ⟨(ls.getD i default).l, (ls.getD i default).r⟩) (b := ⟨sortL (atL ats ((ns.getD c default).l)), sortL (atL ats ((ns.getD c default).r))⟩) ag.pins (wc.mono (Pin.le_trans an y)) (wd.mono (Pin.le_trans an y)) (hy.mono y) (hz.mono y)) ?_
       rintro _ awy ⟨we, rfl, a1⟩
       refine ⟨_, rfl, ?_⟩
       have iv := ag.tr a1
       have wf := v5.ext a1
       have wg := v6.ext a1
       have wh := v7.ext a1
       have wi := v8.ext a1
       have wj := v9.ext a1
       have wk := wa.ext a1
       have wl := wb.ext a1
       refine ⟨fun _ => (Pins.of_le iv.pins a1.le), ?_⟩
       refine dT (i := 11) rfl rfl (by kernel_rfl) (fun _ _ => yT (v := (.bool (decide ((aheadI (⟨(ls.getD i default).l, (ls.getD i default).r⟩ : Nd) (⟨sortL (atL ats ((ns.getD c default).l)), sortL (atL ats ((ns.getD c default).r))⟩ : Nd)) < 0)))) rfl rfl) (Pins.of_le iv.pins a1.le) ?_
       refine yE (by kernel_rfl) ?_
       refine zA ?_
       refine yA (p := ((aheadI (⟨(ls.getD i default).l, (ls.getD i default).r⟩ : Nd) (⟨sortL (atL ats ((ns.getD c default).l)), sortL (atL ats ((ns.getD c default).r))⟩ : Nd)) < 0)) rfl rfl (fun lq => ?_) (fun lq => ?_)
       ·skip
        refine wp_skip ?_
        refine zA ?_
        refine zW ?_
        refine zC ?_
        refine qM (vJ (i : Int)) ?_
        refine qD rfl (yJ rfl rfl (by omega)) ?_
        refine qM (vJ ((i : Int) + 1)) ?_
        refine qe ?_
        refine zZ ?_
        refine yC ?_
        refine ⟨_, ?_, _, rfl, _, i + 1, we, (pS 13 (pS 12 (pS 11 (pS 10 (pS 9 (pS 8 (pS 7 (pS 6 (pS 5 (pS 4 (pS 1 (pU 0)))))))))))), rfl, iv, (Pin.le_trans y a1.le), (by omega), (pos_next (by omega) lq hpp), wf, wg, wh, wi, wj, wk, wl⟩
        omega
       refine wp_exit ?_
       refine zY ?_
       refine yH ?_
       exact cutE_in ⟨_, i, we, (pS 13 (pS 12 (pS 11 (pS 10 (pS 9 (pS 8 (pS 7 (pS 6 (pS 5 (pS 4 (pS 1 (pU 0)))))))))))), iv, (Pin.le_trans y a1.le), hi, (pos_stop (by omega) lq hpp), wf, wg, wh, wi, wj, wk, wl⟩
      refine yG (i := 5) rfl rfl (yS rfl rfl rfl rfl rfl) (by kernel_rfl) ag.pins ?_
      refine yG (i := 6) rfl rfl (yS rfl rfl rfl rfl rfl) (by kernel_rfl) ag.pins ?_
      refine yG (i := 7) rfl rfl (yS rfl rfl rfl rfl rfl) (by kernel_rfl) ag.pins ?_
      refine yG (i := 8) rfl rfl (yS rfl rfl rfl rfl rfl) (by kernel_rfl) ag.pins ?_
      refine yG (i := 9) rfl rfl (yS rfl rfl rfl rfl rfl) (by kernel_rfl) ag.pins ?_
      refine yG (i := 10) rfl rfl (yS rfl rfl rfl rfl rfl) (by kernel_rfl) ag.pins ?_
      refine dT (i := 11) rfl rfl (by kernel_rfl) (fun _ _ => yO (v := (.bool false)) rfl rfl) ag.pins ?_
      refine yE (by kernel_rfl) ?_
      refine zA ?_
      refine qR rfl rfl ?_
      refine wp_exit ?_
      refine zY ?_
      refine yH ?_
      exact cutE_in ⟨_, i, s, (pS 13 (pS 12 (pS 11 (pS 10 (pS 9 (pS 8 (pS 7 (pS 6 (pS 5 (pS 4 (pS 1 (pU 0)))))))))))), ag, y, hi, (pos_end (by omega) hpp), v5, v6, v7, v8, v9, wa, wb⟩
    ·skip
     have akr := Gadd.pins dm.pins bu
     have iw := e4.read
     refine xE (S := fun wz => BxR wz b [bu, bv] ∧ Pins (Gadd ai ht bu) wz) (last := 24) (by kernel_rfl) rfl ?_
     have b0 : Below ht.heap.size ht ht.drew := (Below.refl _ _).drew
     have aks := dm.pins.below b0
     have fi := dm.step aks b0
     have hc := hu.below b0
     have ix := hv.below b0
     have iy := e4.below b0
     have iz := gf.below b0
     have ad := gz.below b0
     have i0 := hw.below b0
     have i1 := hx.below b0
     have ah := akr.below b0
     refine dT (i := 0) rfl rfl (by kernel_rfl) (fun _ _ => zR (v := at_) rfl) ⟨ad.reads, ah⟩ ?_
     refine dT (i := 1) rfl rfl (by kernel_rfl) (fun _ _ => zR (v := (.pointer (some ⟨b, 0, none⟩))) rfl) ⟨ad.reads, ah⟩ ?_
     refine dT (i := 2) rfl rfl (by kernel_rfl) (fun _ _ => xA rfl) ⟨ad.reads, ah⟩ ?_
     refine dT (i := 3) rfl rfl (by kernel_rfl) (fun _ _ => zN (k := 0) rfl Tryd.underlying83 rfl nz24 rfl) ⟨ad.reads, ah⟩ ?_
     refine dT (i := 4) rfl rfl (by kernel_rfl) (fun _ hS => zQ (u := bu) ag24 rfl (hS.1 0 _ rfl)) ⟨ad.reads, ah⟩ ?_
     refine dT (i := 5) rfl rfl (by kernel_rfl) (fun _ _ => zR (v := (vJ (c : Int))) rfl) ⟨ad.reads, ah⟩ ?_
     refine dT (i := 6) rfl rfl (by kernel_rfl) (fun _ _ => zH Tryd.underlying24 sz60 (v := bu) rfl rfl iw (by omega) (by omega)) ⟨ad.reads, ah⟩ ?_
     refine dT (i := 7) rfl rfl (by kernel_rfl) (fun _ _ => xJ (off := 0) Tryd.underlying60 rfl rfl nz40 (z := (c : Int)) (k := 0) rfl iw (by omega) (by omega)) ⟨ad.reads, ah⟩ ?_
     obtain ⟨wm, lr, akt⟩ := nm_nl (e4.at (z := (c : Int)) (by omega) (by omega)) (j := c) rfl
     have awz := lr.max
     refine dT (i := 8) rfl rfl (by kernel_rfl) (fun _ hS => akt ag40 rfl hS.2) ⟨ad.reads, ah⟩ ?_
     refine dT (i := 11) rfl rfl (by kernel_rfl) (fun _ _ => zR (v := at_) rfl) ⟨ad.reads, ah⟩ ?_
     refine dT (i := 12) rfl rfl (by kernel_rfl) (fun _ _ => zR (v := (.pointer (some ⟨b, 0, none⟩))) rfl) ⟨ad.reads, ah⟩ ?_
     refine dT (i := 13) rfl rfl (by kernel_rfl) (fun _ _ => xA rfl) ⟨ad.reads, ah⟩ ?_
     refine dT (i := 14) rfl rfl (by kernel_rfl) (fun _ _ => zN (k := 0) rfl Tryd.underlying83 rfl nz24 rfl) ⟨ad.reads, ah⟩ ?_
     refine dT (i := 15) rfl rfl (by kernel_rfl) (fun _ hS => zQ (u := bu) ag24 rfl (hS.1 0 _ rfl)) ⟨ad.reads, ah⟩ ?_
     refine dT (i := 16) rfl rfl (by kernel_rfl) (fun _ _ => zR (v := (vJ (c : Int))) rfl) ⟨ad.reads, ah⟩ ?_
     refine dT (i := 17) rfl rfl (by kernel_rfl) (fun _ _ => zH Tryd.underlying24 sz60 (v := bu) rfl rfl iw (by omega) (by omega)) ⟨ad.reads, ah⟩ ?_
     refine dT (i := 18) rfl rfl (by kernel_rfl) (fun _ _ => xJ (off := 1) Tryd.underlying60 rfl rfl nz40 (z := (c : Int)) (k := 0) rfl iw (by omega) (by omega)) ⟨ad.reads, ah⟩ ?_
     obtain ⟨i2, hd, aku⟩ := nm_nr (e4.at (z := (c : Int)) (by omega) (by omega)) (j := c) rfl
     have aw0 := hd.max
     refine dT (i := 19) rfl rfl (by kernel_rfl) (fun _ hS => aku ag40 rfl hS.2) ⟨ad.reads, ah⟩ ?_
     refine qL (i := 9) (j := 23) (by kernel_rfl) ?_ ?_
     ·skip
      refine (zS (i := 9) rfl rfl rfl (zD rfl _) (zL (vs := [at_, wm]) Tryd.func72 nm72 rfl rfl rfl ?_))
      refine Calls.mono (qP fi.pins (Gadd.pins fi.pins at_) hc.read lr (by omega) (fun i hi => by have := hoo.left (j := c) (by omega) hi; omega)) ?_
      rintro _ akv ⟨i3, akw, rfl, eh, ao⟩
      refine ⟨_, rfl, ?_⟩
      have i5 := fi.tr ao
      have lu := hc.ext ao
      have lw := ix.ext ao
      have lx := iy.ext ao
      have ly := iz.ext ao
      have i6 := ad.ext ao
      have lz := i0.ext ao
      have l0 := i1.ext ao
      have wn := zT eh.lt hc.lt
      have wo := zT eh.lt ix.lt
      have wp := zT eh.lt iy.lt
      have wq := zT eh.lt iz.lt
      have wr := zU eh.lt ad.lt
      have ws := zU eh.lt i0.lt
      have wt := zU eh.lt i1.lt
      have l1 : Own eInt 3 akw akv w.heap.size i3 (atL ats ((ns.getD c default).l)) := eh.weaken fi.size
      have l2 := ah.below ao.below
      refine ⟨fun _ => ⟨i6.reads, l2⟩, ?_⟩
      refine qL (i := 10) (j := 23) (by kernel_rfl) ?_ ?_
      ·skip
       obtain ⟨aw1, c3, wu, akx, fj⟩ := l1.sealed i5
       have aky := lu.moreO c3 fj wn.symm
       have akz := lw.moreO c3 fj wo.symm
       have ak0 := lx.moreO c3 fj wp.symm
       have ak1 := ly.moreO c3 fj wq.symm
       have ak2 := i6.moreO fj wr.symm
       have ak3 := lz.moreO fj ws.symm
       have ak4 := l0.moreO fj wt.symm
       refine (zS (i := 10) rfl rfl rfl (zD rfl _) (zL (vs := [i3]) Tryd.func71 nm71 rfl rfl rfl ?_))
       refine Calls.mono (xO wu.pins akx (by first | omega | (rw [yZ]; omega))) ?_
       rintro _ aw2 ⟨af, aw3, rfl, c4, aq⟩
       refine ⟨_, rfl, ?_⟩
       have fk := wu.tr aq
       have he := aky.ext aq
       have i7 := akz.ext aq
       have i8 := ak0.ext aq
       have i9 := ak1.ext aq
       have hf := ak2.ext aq
       have ja := ak3.ext aq
       have jb := ak4.ext aq
       have l3 := l2.below aq.below
       refine ⟨fun _ => ⟨hf.reads, l3⟩, ?_⟩
       refine qL (i := 20) (j := 23) (by kernel_rfl) ?_ ?_
       ·skip
        refine (zS (i := 20) rfl rfl rfl (zD rfl _) (zL (vs := [at_, i2]) Tryd.func72 nm72 rfl rfl rfl ?_))
        refine Calls.mono (qP fk.pins (Gadd.pins fk.pins at_) he.read (hd.mono (Pin.le_trans (Pin.le_trans ao.le c3) aq.le)) (by omega) (fun i hi => by have := hoo.right (j := c) (by omega) hi; omega)) ?_
        rintro _ ak5 ⟨jc, ak6, rfl, ei, aw⟩
        refine ⟨_, rfl, ?_⟩
        have jd := fk.tr aw
        have l4 := he.ext aw
        have l5 := i7.ext aw
        have l6 := i8.ext aw
        have l7 := i9.ext aw
        have je := hf.ext aw
        have l8 := ja.ext aw
        have l9 := jb.ext aw
        have wv := zT ei.lt he.lt
        have ww := zT ei.lt i7.lt
        have wx := zT ei.lt i8.lt
        have wy := zT ei.lt i9.lt
        have w0 := zU ei.lt hf.lt
        have w1 := zU ei.lt ja.lt
        have w3 := zU ei.lt jb.lt
        have ma : Own eInt 3 ak6 ak5 w.heap.size jc (atL ats ((ns.getD c default).r)) := ei.weaken fk.size
        have mb := l3.below aw.below
        refine ⟨fun _ => ⟨je.reads, mb⟩, ?_⟩
        refine qL (i := 21) (j := 23) (by kernel_rfl) ?_ ?_
        ·skip
         obtain ⟨aw4, gj, w4, ak7, fl⟩ := ma.sealed jd
         have ak8 := l4.moreO gj fl wv.symm
         have ak9 := l5.moreO gj fl ww.symm
         have ala := l6.moreO gj fl wx.symm
         have alb := l7.moreO gj fl wy.symm
         have alc := je.moreO fl w0.symm
         have ald := l8.moreO fl w1.symm
         have ale := l9.moreO fl w3.symm
         refine (zS (i := 21) rfl rfl rfl (zD rfl _) (zL (vs := [jc]) Tryd.func71 nm71 rfl rfl rfl ?_))
         refine Calls.mono (xO w4.pins ak7 (by first | omega | (rw [yZ]; omega))) ?_
         rintro _ aw5 ⟨fm, aw6, rfl, mc, bg⟩
         refine ⟨_, rfl, ?_⟩
         have md := w4.tr bg
         have w5 := ak8.ext bg
         have w6 := ak9.ext bg
         have w7 := ala.ext bg
         have w8 := alb.ext bg
         have jf := alc.ext bg
         have w9 := ald.ext bg
         have xa := ale.ext bg
         have me := mb.below bg.below
         refine ⟨fun _ => ⟨jf.reads, me⟩, ?_⟩
         refine dT (i := 22) rfl rfl (by kernel_rfl) (fun _ _ => xX [(.slice none 0 0), (.slice none 0 0)] [af, fm] [(0, af, [af]), (1, fm, [fm])] Tryd.underlying60 zr60 rfl pl60 rfl (List.forall_mem_cons.2 ⟨(xK c4.one), (List.forall_mem_cons.2 ⟨(xK mc.one), (fun _ h => by cases h)⟩)⟩) rfl) ⟨jf.reads, me⟩ ?_
         refine dO (i := 23) (zS (i := 23) rfl rfl rfl (zD rfl _) (yX [(.slice none 0 0), (.slice none 0 0)] zr60 rfl md.pins (fun c5 aw7 fn alf alg c6 => ?_)))
         have xb := md.step alg c6
         have alh := w5.below c6
         have ali := w6.below c6
         have alj := w7.below c6
         have alk := w8.below c6
         have xc := jf.below c6
         have all := w9.below c6
         have alm := xa.below c6
         have xd : Apart (some c5) at_.ownBlock := zG (congrArg some fn) w5.lt
         have xe : Apart (some c5) ov.ownBlock := zG (congrArg some fn) w6.lt
         have xf : Apart (some c5) bu.ownBlock := zG (congrArg some fn) w7.lt
         have xg : Apart (some c5) bv.ownBlock := zG (congrArg some fn) w8.lt
         have xh : Apart (some c5) (some b) := zI (congrArg some fn) jf.lt
         have xi : Apart (some c5) (some f) := zI (congrArg some fn) w9.lt
         have xj : Apart (some c5) (some d) := zI (congrArg some fn) xa.lt
         have xk : w.heap.size ≤ c5 := by have := md.size; omega
         have aln := me.below c6
         refine ⟨fun _ => ⟨xc.reads, aln⟩, ?_⟩
         refine dO (i := 24) (qQ (i := 24) rfl rfl rfl (zD rfl _) (xD (cs' := [af, fm]) (us := [af, fm]) (v := (.agg [af, fm].toArray)) sz60 rfl rfl rfl (ones2 c4.one mc.one) xb.pins alf (Nat.le_of_ble_eq_true rfl) rfl (fun aw8 alo alp ej aw9 => ?_)))
         have alq := xb.write alp ej ((yM xk))
         have alr := alh.keptA ej xd.symm
         have als := ali.keptA ej xe.symm
         have alt := alj.keptA ej xf.symm
         have alu := alk.keptA ej xg.symm
         have alv := xc.keptA ej xh.symm
         have alw := all.keptA ej xi.symm
         have alx := alm.keptA ej xj.symm
         obtain ⟨aly, fo, alz, al0, fp⟩ := alo.shut alq xk
         have al1 := alr.moreA fo fp xd.symm
         have al2 := als.moreA fo fp xe.symm
         have al3 := alt.moreA fo fp xf.symm
         have al4 := alu.moreA fo fp xg.symm
         have al5 := alv.moreA fp xh.symm
         have al6 := alw.moreA fp xi.symm
         have al7 := alx.moreA fp xj.symm
         refine ⟨fun h => absurd rfl h, ?_⟩
         refine yE (by kernel_rfl) ?_
         exact xS ⟨_, c5, af, fm, aly, (pS 12 (pS 11 (pS 10 (pS 9 (pS 8 (pS 7 (pS 6 (pS 5 (pS 4 (pS 1 (pU 0))))))))))), alz, (Pin.le_trans (Pin.le_trans (Pin.le_trans (Pin.le_trans (Pin.le_trans (Pin.le_trans ao.le c3) aq.le) aw.le) gj) bg.le) fo), (c4.mono (Pin.le_trans (Pin.le_trans (Pin.le_trans aw.le gj) bg.le) fo)), (mc.mono fo), al1, al2, al3, al4, al5, al6, al7, (al0.mono (Pin.le_refl _))⟩
        ·skip
         refine (zS (i := 23) rfl rfl rfl (zD rfl _) (yX [(.slice none 0 0), (.slice none 0 0)] zr60 rfl jd.pins (fun b2 axa ek al8 al9 b3 => ?_)))
         have ama := jd.step al9 b3
         have amb := l4.below b3
         have amc := l5.below b3
         have amd := l6.below b3
         have ame := l7.below b3
         have amf := ma.below b3
         have xl := je.below b3
         have amg := l8.below b3
         have amh := l9.below b3
         have xm : Apart (some b2) at_.ownBlock := zG (congrArg some ek) l4.lt
         have xn : Apart (some b2) ov.ownBlock := zG (congrArg some ek) l5.lt
         have xo : Apart (some b2) bu.ownBlock := zG (congrArg some ek) l6.lt
         have xp : Apart (some b2) bv.ownBlock := zG (congrArg some ek) l7.lt
         have ami : Apart (some b2) jc.ownBlock := zG (congrArg some ek) ma.lt
         have xq : Apart (some b2) (some b) := zI (congrArg some ek) je.lt
         have xr : Apart (some b2) (some f) := zI (congrArg some ek) l8.lt
         have xs : Apart (some b2) (some d) := zI (congrArg some ek) l9.lt
         have xt : w.heap.size ≤ b2 := by have := jd.size; omega
         have xu := mb.below b3
         refine ⟨fun _ => ⟨xl.reads, xu⟩, ?_⟩
         obtain ⟨axb, gk, xv, amj, el⟩ := amf.sealed ama
         have amk := amb.moreO gk el wv.symm
         have aml := amc.moreO gk el ww.symm
         have amm := amd.moreO gk el wx.symm
         have amn := ame.moreO gk el wy.symm
         have amo := xl.moreO el w0.symm
         have amp := amg.moreO el w1.symm
         have amq := amh.moreO el w3.symm
         have amr := al8.moreO el ami
         refine dO (i := 21) (zS (i := 21) rfl rfl rfl (zD rfl _) (zL (vs := [jc]) Tryd.func71 nm71 rfl rfl rfl ?_))
         refine Calls.mono (xO xv.pins amj (by first | omega | (rw [yZ]; omega))) ?_
         rintro _ axc ⟨fq, axd, rfl, mf, a2⟩
         refine ⟨_, rfl, ?_⟩
         have xw := xv.tr a2
         have ams := amk.ext a2
         have amt := aml.ext a2
         have amu := amm.ext a2
         have amv := amn.ext a2
         have mg := amo.ext a2
         have amw := amp.ext a2
         have amx := amq.ext a2
         have amy := amr.ext a2
         have xx := xu.below a2.below
         refine ⟨fun _ => ⟨mg.reads, xx⟩, ?_⟩
         refine dT (i := 22) rfl rfl (by kernel_rfl) (fun _ _ => xX [(.slice none 0 0), (.slice none 0 0)] [af, fq] [(0, af, [af]), (1, fq, [fq])] Tryd.underlying60 zr60 rfl pl60 rfl (List.forall_mem_cons.2 ⟨(xK c4.one), (List.forall_mem_cons.2 ⟨(xK mf.one), (fun _ h => by cases h)⟩)⟩) rfl) ⟨mg.reads, xx⟩ ?_
         refine dO (i := 24) (qQ (i := 24) rfl rfl rfl (zD rfl _) (xD (cs' := [af, fq]) (us := [af, fq]) (v := (.agg [af, fq].toArray)) sz60 rfl rfl rfl (ones2 c4.one mf.one) xw.pins amy (Nat.le_of_ble_eq_true rfl) rfl (fun axe amz am0 em axf => ?_)))
         have am1 := xw.write am0 em ((yM xt))
         have am2 := ams.keptA em xm.symm
         have am3 := amt.keptA em xn.symm
         have am4 := amu.keptA em xo.symm
         have am5 := amv.keptA em xp.symm
         have am6 := mg.keptA em xq.symm
         have am7 := amw.keptA em xr.symm
         have am8 := amx.keptA em xs.symm
         obtain ⟨am9, fs, ana, anb, ft⟩ := amz.shut am1 xt
         have anc := am2.moreA fs ft xm.symm
         have ane := am3.moreA fs ft xn.symm
         have anf := am4.moreA fs ft xo.symm
         have ang := am5.moreA fs ft xp.symm
         have anh := am6.moreA ft xq.symm
         have ani := am7.moreA ft xr.symm
         have anj := am8.moreA ft xs.symm
         refine ⟨fun h => absurd rfl h, ?_⟩
         refine yE (by kernel_rfl) ?_
         exact xS ⟨_, b2, af, fq, am9, (pS 12 (pS 11 (pS 10 (pS 9 (pS 8 (pS 7 (pS 6 (pS 5 (pS 4 (pS 1 (pU 0))))))))))), ana, (Pin.le_trans (Pin.le_trans (Pin.le_trans (Pin.le_trans (Pin.le_trans (Pin.le_trans ao.le c3) aq.le) aw.le) gk) a2.le) fs), (c4.mono (Pin.le_trans (Pin.le_trans (Pin.le_trans aw.le gk) a2.le) fs)), (mf.mono fs), anc, ane, anf, ang, anh, ani, anj, (anb.mono (Pin.le_refl _))⟩
       ·skip
        refine (zS (i := 23) rfl rfl rfl (zD rfl _) (yX [(.slice none 0 0), (.slice none 0 0)] zr60 rfl fk.pins (fun c7 axg fu xy ank c8 => ?_)))
        have jg := fk.step ank c8
        have mh := he.below c8
        have xz := i7.below c8
        have x0 := i8.below c8
        have x1 := i9.below c8
        have mi := hf.below c8
        have x2 := ja.below c8
        have x3 := jb.below c8
        have x4 : Apart (some c7) at_.ownBlock := zG (congrArg some fu) he.lt
        have x5 : Apart (some c7) ov.ownBlock := zG (congrArg some fu) i7.lt
        have x6 : Apart (some c7) bu.ownBlock := zG (congrArg some fu) i8.lt
        have x7 : Apart (some c7) bv.ownBlock := zG (congrArg some fu) i9.lt
        have x8 : Apart (some c7) (some b) := zI (congrArg some fu) hf.lt
        have x9 : Apart (some c7) (some f) := zI (congrArg some fu) ja.lt
        have ya : Apart (some c7) (some d) := zI (congrArg some fu) jb.lt
        have yb : w.heap.size ≤ c7 := by have := fk.size; omega
        have yc := l3.below c8
        refine ⟨fun _ => ⟨mi.reads, yc⟩, ?_⟩
        refine dO (i := 20) (zS (i := 20) rfl rfl rfl (zD rfl _) (zL (vs := [at_, i2]) Tryd.func72 nm72 rfl rfl rfl ?_))
        refine Calls.mono (qP jg.pins (Gadd.pins jg.pins at_) mh.read (hd.mono (Pin.le_trans (Pin.le_trans ao.le c3) aq.le)) (by omega) (fun i hi => by have := hoo.right (j := c) (by omega) hi; omega)) ?_
        rintro _ anl ⟨yd, anm, rfl, c9, a3⟩
        refine ⟨_, rfl, ?_⟩
        have ann := jg.tr a3
        have ano := mh.ext a3
        have anp := xz.ext a3
        have anq := x0.ext a3
        have anr := x1.ext a3
        have ye := mi.ext a3
        have ans := x2.ext a3
        have ant := x3.ext a3
        have anu := xy.ext a3
        have anv := zT c9.lt mh.lt
        have anw := zT c9.lt xz.lt
        have anx := zT c9.lt x0.lt
        have any := zT c9.lt x1.lt
        have anz := zU c9.lt mi.lt
        have an0 := zU c9.lt x2.lt
        have an1 := zU c9.lt x3.lt
        have an2 := zU c9.lt xy.lt
        have an3 : Own eInt 3 anm anl w.heap.size yd (atL ats ((ns.getD c default).r)) := c9.weaken jg.size
        have yf := yc.below a3.below
        refine ⟨fun _ => ⟨ye.reads, yf⟩, ?_⟩
        obtain ⟨axh, gl, yg, an4, eo⟩ := an3.sealed ann
        have an5 := ano.moreO gl eo anv.symm
        have an6 := anp.moreO gl eo anw.symm
        have an7 := anq.moreO gl eo anx.symm
        have an8 := anr.moreO gl eo any.symm
        have an9 := ye.moreO eo anz.symm
        have aoa := ans.moreO eo an0.symm
        have aob := ant.moreO eo an1.symm
        have aoc := anu.moreO eo an2.symm
        refine dO (i := 21) (zS (i := 21) rfl rfl rfl (zD rfl _) (zL (vs := [yd]) Tryd.func71 nm71 rfl rfl rfl ?_))
        refine Calls.mono (xO yg.pins an4 (by first | omega | (rw [yZ]; omega))) ?_
        rintro _ axi ⟨fw, axj, rfl, mj, a4⟩
        refine ⟨_, rfl, ?_⟩
        have yh := yg.tr a4
        have aod := an5.ext a4
        have aoe := an6.ext a4
        have aof := an7.ext a4
        have aog := an8.ext a4
        have mk := an9.ext a4
        have aoh := aoa.ext a4
        have aoi := aob.ext a4
        have aoj := aoc.ext a4
        have yi := yf.below a4.below
        refine ⟨fun _ => ⟨mk.reads, yi⟩, ?_⟩
        refine dT (i := 22) rfl rfl (by kernel_rfl) (fun _ _ => xX [(.slice none 0 0), (.slice none 0 0)] [af, fw] [(0, af, [af]), (1, fw, [fw])] Tryd.underlying60 zr60 rfl pl60 rfl (List.forall_mem_cons.2 ⟨(xK c4.one), (List.forall_mem_cons.2 ⟨(xK mj.one), (fun _ h => by cases h)⟩)⟩) rfl) ⟨mk.reads, yi⟩ ?_
        refine dO (i := 24) (qQ (i := 24) rfl rfl rfl (zD rfl _) (xD (cs' := [af, fw]) (us := [af, fw]) (v := (.agg [af, fw].toArray)) sz60 rfl rfl rfl (ones2 c4.one mj.one) yh.pins aoj (Nat.le_of_ble_eq_true rfl) rfl (fun axk aok aol ep axl => ?_)))
        have aom := yh.write aol ep ((yM yb))
        have aon := aod.keptA ep x4.symm
        have aoo := aoe.keptA ep x5.symm
        have aop := aof.keptA ep x6.symm
        have aoq := aog.keptA ep x7.symm
        have aor := mk.keptA ep x8.symm
        have aos := aoh.keptA ep x9.symm
        have aot := aoi.keptA ep ya.symm
        obtain ⟨aou, fx, aov, aow, fy⟩ := aok.shut aom yb
        have aox := aon.moreA fx fy x4.symm
        have aoy := aoo.moreA fx fy x5.symm
        have aoz := aop.moreA fx fy x6.symm
        have ao0 := aoq.moreA fx fy x7.symm
        have ao1 := aor.moreA fy x8.symm
        have ao2 := aos.moreA fy x9.symm
        have ao3 := aot.moreA fy ya.symm
        refine ⟨fun h => absurd rfl h, ?_⟩
        refine yE (by kernel_rfl) ?_
        exact xS ⟨_, c7, af, fw, aou, (pS 12 (pS 11 (pS 10 (pS 9 (pS 8 (pS 7 (pS 6 (pS 5 (pS 4 (pS 1 (pU 0))))))))))), aov, (Pin.le_trans (Pin.le_trans (Pin.le_trans (Pin.le_trans (Pin.le_trans (Pin.le_trans ao.le c3) aq.le) a3.le) gl) a4.le) fx), (c4.mono (Pin.le_trans (Pin.le_trans (Pin.le_trans a3.le gl) a4.le) fx)), (mj.mono fx), aox, aoy, aoz, ao0, ao1, ao2, ao3, (aow.mono (Pin.le_refl _))⟩
      ·skip
       refine (zS (i := 23) rfl rfl rfl (zD rfl _) (yX [(.slice none 0 0), (.slice none 0 0)] zr60 rfl i5.pins (fun b4 axm eq ao4 ao5 b5 => ?_)))
       have ao6 := i5.step ao5 b5
       have ao7 := lu.below b5
       have ao8 := lw.below b5
       have ao9 := lx.below b5
       have apa := ly.below b5
       have apb := l1.below b5
       have yj := i6.below b5
       have apc := lz.below b5
       have apd := l0.below b5
       have yk : Apart (some b4) at_.ownBlock := zG (congrArg some eq) lu.lt
       have yl : Apart (some b4) ov.ownBlock := zG (congrArg some eq) lw.lt
       have ym : Apart (some b4) bu.ownBlock := zG (congrArg some eq) lx.lt
       have yn : Apart (some b4) bv.ownBlock := zG (congrArg some eq) ly.lt
       have ape : Apart (some b4) i3.ownBlock := zG (congrArg some eq) l1.lt
       have yo : Apart (some b4) (some b) := zI (congrArg some eq) i6.lt
       have yp : Apart (some b4) (some f) := zI (congrArg some eq) lz.lt
       have yq : Apart (some b4) (some d) := zI (congrArg some eq) l0.lt
       have yr : w.heap.size ≤ b4 := by have := i5.size; omega
       have ys := l2.below b5
       refine ⟨fun _ => ⟨yj.reads, ys⟩, ?_⟩
       obtain ⟨axn, gm, yt, apf, er⟩ := apb.sealed ao6
       have apg := ao7.moreO gm er wn.symm
       have aph := ao8.moreO gm er wo.symm
       have api := ao9.moreO gm er wp.symm
       have apj := apa.moreO gm er wq.symm
       have apk := yj.moreO er wr.symm
       have apl := apc.moreO er ws.symm
       have apm := apd.moreO er wt.symm
       have apn := ao4.moreO er ape
       refine dO (i := 10) (zS (i := 10) rfl rfl rfl (zD rfl _) (zL (vs := [i3]) Tryd.func71 nm71 rfl rfl rfl ?_))
       refine Calls.mono (xO yt.pins apf (by first | omega | (rw [yZ]; omega))) ?_
       rintro _ axo ⟨fz, axp, rfl, ml, a5⟩
       refine ⟨_, rfl, ?_⟩
       have jh := yt.tr a5
       have mm := apg.ext a5
       have yu := aph.ext a5
       have yv := api.ext a5
       have yw := apj.ext a5
       have mn := apk.ext a5
       have yx := apl.ext a5
       have yy := apm.ext a5
       have yz := apn.ext a5
       have y0 := ys.below a5.below
       refine ⟨fun _ => ⟨mn.reads, y0⟩, ?_⟩
       refine dO (i := 20) (zS (i := 20) rfl rfl rfl (zD rfl _) (zL (vs := [at_, i2]) Tryd.func72 nm72 rfl rfl rfl ?_))
       refine Calls.mono (qP jh.pins (Gadd.pins jh.pins at_) mm.read (hd.mono (Pin.le_trans (Pin.le_trans ao.le gm) a5.le)) (by omega) (fun i hi => by have := hoo.right (j := c) (by omega) hi; omega)) ?_
       rintro _ apo ⟨y1, app, rfl, da, a6⟩
       refine ⟨_, rfl, ?_⟩
       have apq := jh.tr a6
       have apr := mm.ext a6
       have aps := yu.ext a6
       have apt := yv.ext a6
       have apu := yw.ext a6
       have y2 := mn.ext a6
       have apv := yx.ext a6
       have apw := yy.ext a6
       have apx := yz.ext a6
       have apy := zT da.lt mm.lt
       have apz := zT da.lt yu.lt
       have ap0 := zT da.lt yv.lt
       have ap1 := zT da.lt yw.lt
       have ap2 := zU da.lt mn.lt
       have ap4 := zU da.lt yx.lt
       have ap5 := zU da.lt yy.lt
       have ap6 := zU da.lt yz.lt
       have ap7 : Own eInt 3 app apo w.heap.size y1 (atL ats ((ns.getD c default).r)) := da.weaken jh.size
       have y3 := y0.below a6.below
       refine ⟨fun _ => ⟨y2.reads, y3⟩, ?_⟩
       obtain ⟨axq, gn, y4, ap8, es⟩ := ap7.sealed apq
       have ap9 := apr.moreO gn es apy.symm
       have aqa := aps.moreO gn es apz.symm
       have aqb := apt.moreO gn es ap0.symm
       have aqc := apu.moreO gn es ap1.symm
       have aqd := y2.moreO es ap2.symm
       have aqe := apv.moreO es ap4.symm
       have aqf := apw.moreO es ap5.symm
       have aqg := apx.moreO es ap6.symm
       refine dO (i := 21) (zS (i := 21) rfl rfl rfl (zD rfl _) (zL (vs := [y1]) Tryd.func71 nm71 rfl rfl rfl ?_))
       refine Calls.mono (xO y4.pins ap8 (by first | omega | (rw [yZ]; omega))) ?_
       rintro _ axr ⟨f0, axs, rfl, mo, a7⟩
       refine ⟨_, rfl, ?_⟩
       have y5 := y4.tr a7
       have aqh := ap9.ext a7
       have aqi := aqa.ext a7
       have aqj := aqb.ext a7
       have aqk := aqc.ext a7
       have mp := aqd.ext a7
       have aql := aqe.ext a7
       have aqm := aqf.ext a7
       have aqn := aqg.ext a7
       have y6 := y3.below a7.below
       refine ⟨fun _ => ⟨mp.reads, y6⟩, ?_⟩
       refine dT (i := 22) rfl rfl (by kernel_rfl) (fun _ _ => xX [(.slice none 0 0), (.slice none 0 0)] [fz, f0] [(0, fz, [fz]), (1, f0, [f0])] Tryd.underlying60 zr60 rfl pl60 rfl (List.forall_mem_cons.2 ⟨(xK ml.one), (List.forall_mem_cons.2 ⟨(xK mo.one), (fun _ h => by cases h)⟩)⟩) rfl) ⟨mp.reads, y6⟩ ?_
       refine dO (i := 24) (qQ (i := 24) rfl rfl rfl (zD rfl _) (xD (cs' := [fz, f0]) (us := [fz, f0]) (v := (.agg [fz, f0].toArray)) sz60 rfl rfl rfl (ones2 ml.one mo.one) y5.pins aqn (Nat.le_of_ble_eq_true rfl) rfl (fun axt aqo aqp et axu => ?_)))
       have aqq := y5.write aqp et ((yM yr))
       have aqr := aqh.keptA et yk.symm
       have aqs := aqi.keptA et yl.symm
       have aqt := aqj.keptA et ym.symm
       have aqu := aqk.keptA et yn.symm
       have aqv := mp.keptA et yo.symm
       have aqw := aql.keptA et yp.symm
       have aqx := aqm.keptA et yq.symm
       obtain ⟨aqy, f1, aqz, aq0, f2⟩ := aqo.shut aqq yr
       have aq1 := aqr.moreA f1 f2 yk.symm
       have aq2 := aqs.moreA f1 f2 yl.symm
       have aq3 := aqt.moreA f1 f2 ym.symm
       have aq4 := aqu.moreA f1 f2 yn.symm
       have aq5 := aqv.moreA f2 yo.symm
       have aq6 := aqw.moreA f2 yp.symm
       have aq7 := aqx.moreA f2 yq.symm
       refine ⟨fun h => absurd rfl h, ?_⟩
       refine yE (by kernel_rfl) ?_
       exact xS ⟨_, b4, fz, f0, aqy, (pS 12 (pS 11 (pS 10 (pS 9 (pS 8 (pS 7 (pS 6 (pS 5 (pS 4 (pS 1 (pU 0))))))))))), aqz, (Pin.le_trans (Pin.le_trans (Pin.le_trans (Pin.le_trans (Pin.le_trans (Pin.le_trans ao.le gm) a5.le) a6.le) gn) a7.le) f1), (ml.mono (Pin.le_trans (Pin.le_trans (Pin.le_trans a6.le gn) a7.le) f1)), (mo.mono f1), aq1, aq2, aq3, aq4, aq5, aq6, aq7, (aq0.mono (Pin.le_refl _))⟩
     ·skip
      refine (zS (i := 23) rfl rfl rfl (zD rfl _) (yX [(.slice none 0 0), (.slice none 0 0)] zr60 rfl fi.pins (fun db axv f3 y7 aq8 dc => ?_)))
      have ji := fi.step aq8 dc
      have mq := hc.below dc
      have y8 := ix.below dc
      have y9 := iy.below dc
      have za := iz.below dc
      have mr := ad.below dc
      have zb := i0.below dc
      have zc := i1.below dc
      have zd : Apart (some db) at_.ownBlock := zG (congrArg some f3) hc.lt
      have ze : Apart (some db) ov.ownBlock := zG (congrArg some f3) ix.lt
      have zf : Apart (some db) bu.ownBlock := zG (congrArg some f3) iy.lt
      have zg : Apart (some db) bv.ownBlock := zG (congrArg some f3) iz.lt
      have zh : Apart (some db) (some b) := zI (congrArg some f3) ad.lt
      have zi : Apart (some db) (some f) := zI (congrArg some f3) i0.lt
      have zj : Apart (some db) (some d) := zI (congrArg some f3) i1.lt
      have zk : w.heap.size ≤ db := by have := fi.size; omega
      have zl := ah.below dc
      refine ⟨fun _ => ⟨mr.reads, zl⟩, ?_⟩
      refine dO (i := 9) (zS (i := 9) rfl rfl rfl (zD rfl _) (zL (vs := [at_, wm]) Tryd.func72 nm72 rfl rfl rfl ?_))
      refine Calls.mono (qP ji.pins (Gadd.pins ji.pins at_) mq.read lr (by omega) (fun i hi => by have := hoo.left (j := c) (by omega) hi; omega)) ?_
      rintro _ aq9 ⟨zm, ara, rfl, dd, a8⟩
      refine ⟨_, rfl, ?_⟩
      have arb := ji.tr a8
      have arc := mq.ext a8
      have ard := y8.ext a8
      have are := y9.ext a8
      have arf := za.ext a8
      have zn := mr.ext a8
      have arg := zb.ext a8
      have arh := zc.ext a8
      have ari := y7.ext a8
      have arj := zT dd.lt mq.lt
      have ark := zT dd.lt y8.lt
      have arl := zT dd.lt y9.lt
      have arm := zT dd.lt za.lt
      have arn := zU dd.lt mr.lt
      have aro := zU dd.lt zb.lt
      have arp := zU dd.lt zc.lt
      have arq := zU dd.lt y7.lt
      have arr : Own eInt 3 ara aq9 w.heap.size zm (atL ats ((ns.getD c default).l)) := dd.weaken ji.size
      have zo := zl.below a8.below
      refine ⟨fun _ => ⟨zn.reads, zo⟩, ?_⟩
      obtain ⟨axw, gp, zp, ars, eu⟩ := arr.sealed arb
      have art := arc.moreO gp eu arj.symm
      have aru := ard.moreO gp eu ark.symm
      have arv := are.moreO gp eu arl.symm
      have arw := arf.moreO gp eu arm.symm
      have arx := zn.moreO eu arn.symm
      have ary := arg.moreO eu aro.symm
      have arz := arh.moreO eu arp.symm
      have ar0 := ari.moreO eu arq.symm
      refine dO (i := 10) (zS (i := 10) rfl rfl rfl (zD rfl _) (zL (vs := [zm]) Tryd.func71 nm71 rfl rfl rfl ?_))
      refine Calls.mono (xO zp.pins ars (by first | omega | (rw [yZ]; omega))) ?_
      rintro _ axx ⟨f4, axy, rfl, ms, a9⟩
      refine ⟨_, rfl, ?_⟩
      have jj := zp.tr a9
      have mt := art.ext a9
      have zq := aru.ext a9
      have zr := arv.ext a9
      have zs := arw.ext a9
      have mu := arx.ext a9
      have zt := ary.ext a9
      have zu := arz.ext a9
      have zv := ar0.ext a9
      have zw := zo.below a9.below
      refine ⟨fun _ => ⟨mu.reads, zw⟩, ?_⟩
      refine dO (i := 20) (zS (i := 20) rfl rfl rfl (zD rfl _) (zL (vs := [at_, i2]) Tryd.func72 nm72 rfl rfl rfl ?_))
      refine Calls.mono (qP jj.pins (Gadd.pins jj.pins at_) mt.read (hd.mono (Pin.le_trans (Pin.le_trans a8.le gp) a9.le)) (by omega) (fun i hi => by have := hoo.right (j := c) (by omega) hi; omega)) ?_
      rintro _ ar1 ⟨zx, ar2, rfl, de, ba⟩
      refine ⟨_, rfl, ?_⟩
      have ar3 := jj.tr ba
      have ar4 := mt.ext ba
      have ar5 := zq.ext ba
      have ar6 := zr.ext ba
      have ar7 := zs.ext ba
      have zy := mu.ext ba
      have ar8 := zt.ext ba
      have ar9 := zu.ext ba
      have asa := zv.ext ba
      have asb := zT de.lt mt.lt
      have asc := zT de.lt zq.lt
      have asd := zT de.lt zr.lt
      have ase := zT de.lt zs.lt
      have asf := zU de.lt mu.lt
      have asg := zU de.lt zt.lt
      have ash := zU de.lt zu.lt
      have asi := zU de.lt zv.lt
      have asj : Own eInt 3 ar2 ar1 w.heap.size zx (atL ats ((ns.getD c default).r)) := de.weaken jj.size
      have zz := zw.below ba.below
      refine ⟨fun _ => ⟨zy.reads, zz⟩, ?_⟩
      obtain ⟨axz, gq, z0, ask, ev⟩ := asj.sealed ar3
      have asl := ar4.moreO gq ev asb.symm
      have asm := ar5.moreO gq ev asc.symm
      have asn := ar6.moreO gq ev asd.symm
      have aso := ar7.moreO gq ev ase.symm
      have asp := zy.moreO ev asf.symm
      have asq := ar8.moreO ev asg.symm
      have asr := ar9.moreO ev ash.symm
      have ass := asa.moreO ev asi.symm
      refine dO (i := 21) (zS (i := 21) rfl rfl rfl (zD rfl _) (zL (vs := [zx]) Tryd.func71 nm71 rfl rfl rfl ?_))
      refine Calls.mono (xO z0.pins ask (by first | omega | (rw [yZ]; omega))) ?_
      rintro _ ax0 ⟨f5, ax1, rfl, mv, bb⟩
      refine ⟨_, rfl, ?_⟩
      have z1 := z0.tr bb
      have ast := asl.ext bb
      have asu := asm.ext bb
      have asv := asn.ext bb
      have asw := aso.ext bb
      have mw := asp.ext bb
      have asx := asq.ext bb
      have asy := asr.ext bb
      have asz := ass.ext bb
      have z2 := zz.below bb.below
      refine ⟨fun _ => ⟨mw.reads, z2⟩, ?_⟩
      refine dT (i := 22) rfl rfl (by kernel_rfl) (fun _ _ => xX [(.slice none 0 0), (.slice none 0 0)] [f4, f5] [(0, f4, [f4]), (1, f5, [f5])] Tryd.underlying60 zr60 rfl pl60 rfl (List.forall_mem_cons.2 ⟨(xK ms.one), (List.forall_mem_cons.2 ⟨(xK mv.one), (fun _ h => by cases h)⟩)⟩) rfl) ⟨mw.reads, z2⟩ ?_
      refine dO (i := 24) (qQ (i := 24) rfl rfl rfl (zD rfl _) (xD (cs' := [f4, f5]) (us := [f4, f5]) (v := (.agg [f4, f5].toArray)) sz60 rfl rfl rfl (ones2 ms.one mv.one) z1.pins asz (Nat.le_of_ble_eq_true rfl) rfl (fun ax2 as0 as1 ew ax3 => ?_)))
      have as2 := z1.write as1 ew ((yM zk))
      have as3 := ast.keptA ew zd.symm
      have as4 := asu.keptA ew ze.symm
      have as5 := asv.keptA ew zf.symm
      have as6 := asw.keptA ew zg.symm
      have as7 := mw.keptA ew zh.symm
      have as8 := asx.keptA ew zi.symm
      have as9 := asy.keptA ew zj.symm
      obtain ⟨ata, f6, atb, atc, f7⟩ := as0.shut as2 zk
      have atd := as3.moreA f6 f7 zd.symm
      have ate := as4.moreA f6 f7 ze.symm
      have atf := as5.moreA f6 f7 zf.symm
      have atg := as6.moreA f6 f7 zg.symm
      have ath := as7.moreA f7 zh.symm
      have ati := as8.moreA f7 zi.symm
      have atj := as9.moreA f7 zj.symm
      refine ⟨fun h => absurd rfl h, ?_⟩
      refine yE (by kernel_rfl) ?_
      exact xS ⟨_, db, f4, f5, ata, (pS 12 (pS 11 (pS 10 (pS 9 (pS 8 (pS 7 (pS 6 (pS 5 (pS 4 (pS 1 (pU 0))))))))))), atb, (Pin.le_trans (Pin.le_trans (Pin.le_trans (Pin.le_trans (Pin.le_trans (Pin.le_trans a8.le gp) a9.le) ba.le) gq) bb.le) f6), (ms.mono (Pin.le_trans (Pin.le_trans (Pin.le_trans ba.le gq) bb.le) f6)), (mv.mono f6), atd, ate, atf, atg, ath, ati, atj, (atc.mono (Pin.le_refl _))⟩
   refine qW ?_
   refine qW ?_
   refine qW ?_
   refine qW ?_
   refine qW ?_
   refine qW ?_
   refine qW ?_
   refine qW ?_
   refine qW ?_
   refine qD rfl (yT (v := (.bool true)) rfl rfl) ?_
   refine qe (zA ?_)
   refine c_ifT rfl rfl ?_
   refine wp_exit ?_
   refine zY ?_
   refine yD ?_
   refine zA (zC ?_)
   refine qM (vJ (c : Int)) ?_
   refine qD rfl (yJ rfl rfl (by omega)) ?_
   refine qM (vJ ((c : Int) + 1)) ?_
   refine qe ?_
   refine yC ?_
   refine ⟨_, ?_, _, rfl, _, c + 1, lv, ls, fv, fr, ai, (pS 11 (pS 10 (pS 9 (pS 8 (pS 7 (pS 6 (pS 5 (pS 4 (pS 1 (pU 0)))))))))), rfl, dm, gy, (by omega), (lv_skip hrl (fun g => by have := g.1; rw [j1] at this; cases this)), (by omega), hfb, hu, hv, e4, gf, gz, hw, hx, bk, gg⟩
   omega
  refine wp_exit ?_
  refine zY ?_
  refine yH ?_
  refine yD ?_
  refine zA (zB (zC ?_))
  refine qM (vJ 0) ?_
  refine qe (zA ?_)
  refine zW ?_
  refine yL (fun (k : Nat) (en : Nat → Value) (W : World) => ∃ (ac : Nat → Value) (i4 : Nat) (ak : Value) (gr : List Int) (aj : Value) (bh : List Nd) (al : Pin), en = (upd (upd (upd (upd (upd (upd (upd (upd (upd (upd ac 0 (.pointer (some ⟨b, 0, none⟩))) 1 (vJ m)) 4 (.pointer (some ⟨f, 0, none⟩))) 5 ax) 6 ak) 7 (.pointer (some ⟨d, 0, none⟩))) 8 (vJ (q : Int))) 9 lv) 10 fv) 14 (vJ (i4 : Int))) ∧ k = ls.length - i4 ∧ Ext noS G w al W ∧ Pin.le ai al ∧ (i4 ≤ ls.length) ∧ (placeM ls fr ats outs = placeM (ls.drop i4) (fr.drop i4) gr bh) ∧ (gr.length = m.toNat + 1) ∧ (bh.length = outs.length + i4) ∧ (Own eInt 3 al W w.heap.size ak (gr)) ∧ (Own eNode 60 al W w.heap.size aj (bh)) ∧ (Own eNode 60 al W 0 bu (ns)) ∧ (Own eInt 3 al W 0 bv (bs)) ∧ (Bx al W b [bu, bv]) ∧ (Bx al W f [(.slice none 0 0)]) ∧ (Bx al W d [aj]) ∧ (Apart ak.ownBlock aj.ownBlock) ∧ (Apart ak.ownBlock bu.ownBlock) ∧ (Apart ak.ownBlock bv.ownBlock) ∧ (Apart ak.ownBlock (some b)) ∧ (Apart ak.ownBlock (some f)) ∧ (Apart ak.ownBlock (some d)) ∧ (Apart aj.ownBlock bu.ownBlock) ∧ (Apart aj.ownBlock bv.ownBlock) ∧ (Apart aj.ownBlock (some b)) ∧ (Apart aj.ownBlock (some f)) ∧ (Apart aj.ownBlock (some d))) _ ⟨_, 0, at_, ats, ov, outs, ai, (pS 14 (pS 10 (pS 9 (pS 8 (pS 7 (pS 6 (pS 5 (pS 4 (pS 1 (pU 0)))))))))), rfl, dm, Pin.le_refl _, Nat.zero_le _, rfl, hatl, rfl, hu, hv, e4, gf, gz, hw, hx, aby, abz, ab0, ab1, ab2, ab3, ab4, ab5, ab6, n6, ab7⟩ ?_
  rintro ax4 _ hg ⟨ac, i4, ak, gr, aj, bh, al, rfl, ax5, hh, gs, hi4, hrp, z3, ax7, mx, my, z4, z5, z6, z7, z8, jk, mz, m0, m1, m2, jl, m3, m4, m5, m6, m7⟩
  refine zB (zB (zC ?_))
  refine qM (vJ (i4 : Int)) ?_
  refine qM lv ?_
  refine qD rfl (zO Tryd.underlying24 (v := lv) rfl bk) ?_
  refine qD rfl (yU rfl rfl) ?_
  refine qe (zA ?_)
  refine yA (p := ((i4 : Int) : Int) < (ls.length : Int)) rfl rfl (fun atk => ?_) (fun atk => ?_)
  ·skip
   have hf4 := hfb i4 (by omega)
   refine wp_skip ?_
   refine zA (zB ?_)
   refine zW ?_
   refine zB ?_
   have atl := Gadd.pins hh.pins aj
   have atm := Gadd.pins hh.pins ak
   have atn := my.read
   have ato := mx.read
   refine xE (S := fun wz => Pins al wz ∧ BxR wz d [aj] ∧ Pins (Gadd al hg aj) wz ∧ Pins (Gadd al hg ak) wz) (last := 9) (by kernel_rfl) rfl ?_
   have bi : Below hg.heap.size hg hg.drew := (Below.refl _ _).drew
   have atp := hh.pins.below bi
   have bj := hh.step atp bi
   have z9 := mx.below bi
   have atq := my.below bi
   have atr := z4.below bi
   have att := z5.below bi
   have atu := z6.below bi
   have atv := z7.below bi
   have b6 := z8.below bi
   have df := atl.below bi
   have dg := atm.below bi
   refine dT (i := 0) rfl rfl (by kernel_rfl) (fun _ _ => zR (v := ak) rfl) ⟨bj.pins, b6.reads, df, dg⟩ ?_
   refine dT (i := 1) rfl rfl (by kernel_rfl) (fun _ _ => zR (v := fv) rfl) ⟨bj.pins, b6.reads, df, dg⟩ ?_
   refine dT (i := 2) rfl rfl (by kernel_rfl) (fun _ _ => zR (v := (vJ (i4 : Int))) rfl) ⟨bj.pins, b6.reads, df, dg⟩ ?_
   refine dT (i := 3) rfl rfl (by kernel_rfl) (fun _ _ => zH Tryd.underlying40 sz3 (v := fv) rfl rfl gg (by omega) (by omega)) ⟨bj.pins, b6.reads, df, dg⟩ ?_
   refine dT (i := 4) rfl rfl (by kernel_rfl) (fun _ hS => zK (r := fr.getD i4 0) rfl ag3 (z := (i4 : Int)) rfl gg (Pins.of_le hS.1 gs) (by omega) (by omega)) ⟨bj.pins, b6.reads, df, dg⟩ ?_
   refine dT (i := 5) rfl rfl (by kernel_rfl) (fun _ _ => zN (k := 0) rfl Tryd.underlying26 rfl nz24 rfl) ⟨bj.pins, b6.reads, df, dg⟩ ?_
   refine dT (i := 6) rfl rfl (by kernel_rfl) (fun _ hS => zQ (u := aj) ag24 rfl (hS.2.1 0 _ rfl)) ⟨bj.pins, b6.reads, df, dg⟩ ?_
   refine dT (i := 7) rfl rfl (by kernel_rfl) (fun _ _ => zO Tryd.underlying24 (v := aj) rfl atn) ⟨bj.pins, b6.reads, df, dg⟩ ?_
   refine dT (i := 8) rfl rfl (by kernel_rfl) (fun _ _ => zH Tryd.underlying40 sz3 (v := ak) rfl rfl ato (by omega) (by omega)) ⟨bj.pins, b6.reads, df, dg⟩ ?_
   refine dO (i := 9) (qQ (i := 9) rfl rfl rfl (zD rfl _) (o_set (E := eInt) (v := ak) (u := (vJ (bh.length : Int))) (z := (fr.getD i4 0)) ((bh.length : Int)) sz3 rfl rfl rfl rfl bj.pins z9 (by omega) (by omega) (fun m8 atw atx f8 ax9 => ?_)))
   have aaa := bj.write atx f8 ((zX z9))
   have aty := atq.keptA f8 jk.symm
   have atz := atr.keptA f8 mz.symm
   have at0 := att.keptA f8 m0.symm
   have at1 := atu.keptA f8 m1.symm
   have at3 := atv.keptA f8 m2.symm
   have at4 := b6.keptA f8 jl.symm
   refine ⟨fun h => absurd rfl h, ?_⟩
   refine yE (by kernel_rfl) ?_
   refine zA ?_
   refine xE (S := fun wz => BxR wz d [aj] ∧ Pins al wz) (last := 9) (by kernel_rfl) rfl ?_
   have dh : Below m8.heap.size m8 m8.drew := (Below.refl _ _).drew
   have at5 := aaa.pins.below dh
   have di := aaa.step at5 dh
   have at6 := atw.below dh
   have at7 := aty.below dh
   have at8 := atz.below dh
   have at9 := at0.below dh
   have aua := at1.below dh
   have aub := at3.below dh
   have f9 := at4.below dh
   refine dT (i := 0) rfl rfl (by kernel_rfl) (fun _ _ => zN (k := 0) rfl Tryd.underlying26 rfl nz24 rfl) ⟨f9.reads, di.pins⟩ ?_
   refine dT (i := 1) rfl rfl (by kernel_rfl) (fun _ hS => zQ (u := aj) ag24 rfl (hS.1 0 _ rfl)) ⟨f9.reads, di.pins⟩ ?_
   refine dT (i := 2) rfl rfl (by kernel_rfl) (fun _ _ => zR (v := lv) rfl) ⟨f9.reads, di.pins⟩ ?_
   refine dT (i := 3) rfl rfl (by kernel_rfl) (fun _ _ => zR (v := (vJ (i4 : Int))) rfl) ⟨f9.reads, di.pins⟩ ?_
   refine dT (i := 4) rfl rfl (by kernel_rfl) (fun _ _ => zH Tryd.underlying24 sz60 (v := lv) rfl rfl bk (by omega) (by omega)) ⟨f9.reads, di.pins⟩ ?_
   obtain ⟨auc, aud, aab, aac, aue⟩ := nm_node (bk.at (z := (i4 : Int)) (by omega) (by omega)) (j := i4) rfl
   have aya := aab.max
   have ayb := aac.max
   refine dT (i := 5) rfl rfl (by kernel_rfl) (fun _ hS => aue ag60 sz60 rfl (Pins.of_le hS.2 gs)) ⟨f9.reads, di.pins⟩ ?_
   refine dO (i := 6) (zS (i := 6) rfl rfl rfl (zD rfl _) (xL (E := eNode) (e := 60) [auc, aud] (⟨(ls.getD i4 default).l, (ls.getD i4 default).r⟩ : Nd) Tryd.underlying24 sz60 zr60 ⟨_, _, rfl, (aab.mono gs), (aac.mono gs)⟩ rfl (by decide) di.pins (fun aad auf aug auh ex ayc => ?_)))
   have jm := di.step auh ex
   have aae := at6.below ex
   have aaf := at7.below ex
   have aag := at8.below ex
   have aah := at9.below ex
   have aai := aua.below ex
   have aaj := aub.below ex
   have m9 := f9.below ex
   have aui : Own eNode 60 al auf w.heap.size aad ([(⟨(ls.getD i4 default).l, (ls.getD i4 default).r⟩ : Nd)]) := aug.weaken di.size
   refine ⟨fun _ => ⟨m9.reads, jm.pins⟩, ?_⟩
   refine dO (i := 7) (zS (i := 7) rfl rfl rfl (zD rfl _) (oA (E := eNode) (v := aj) (u := aad) 48 Tryd.underlying24 ap60 (by decide) rfl rfl jm.pins aaf aui.src (jm.size) (fun b7 ayd na auj ga gt => ?_)))
   have jn := jm.write auj ga ((zX aaf))
   have auk := aae.keptA ga jk
   have aul := aag.keptA ga m3.symm
   have aum := aah.keptA ga m4.symm
   have aun := aai.keptA ga m5.symm
   have auo := aaj.keptA ga m6.symm
   have nb := m9.keptA ga m7.symm
   have aup : Apart ak.ownBlock b7.ownBlock := zE jk gt aae.lt
   have auq : Apart bu.ownBlock b7.ownBlock := zE m3.symm gt aag.lt
   have aur : Apart bv.ownBlock b7.ownBlock := zE m4.symm gt aah.lt
   have aus : Apart (some b) b7.ownBlock := zJ m5.symm gt aai.lt
   have aut : Apart (some f) b7.ownBlock := zJ m6.symm gt aaj.lt
   have aak : Apart (some d) b7.ownBlock := zJ m7.symm gt m9.lt
   have aye : (bh ++ ([(⟨(ls.getD i4 default).l, (ls.getD i4 default).r⟩ : Nd)])).length = bh.length + 1 := List.length_append
   refine ⟨fun _ => ⟨nb.reads, jn.pins⟩, ?_⟩
   refine dT (i := 8) rfl rfl (by kernel_rfl) (fun _ _ => zN (k := 0) rfl Tryd.underlying26 rfl nz24 rfl) ⟨nb.reads, jn.pins⟩ ?_
   refine dO (i := 9) (qQ (i := 9) rfl rfl rfl (zD rfl _) (xD (cs' := [b7]) (us := [b7]) (v := b7) sz24 rfl rfl (cells1 na.one) (yP na.one) jn.pins nb (Nat.le_of_ble_eq_true rfl) rfl (fun ayf auu auw gb ayg => ?_)))
   have aux := jn.write auw gb ((yM n2))
   have auy := auk.keptA gb jl
   have auz := aul.keptA gb nw.symm
   have au0 := aum.keptA gb nx.symm
   have au1 := na.keptA gb aak.symm
   have au2 := aun.keptA gb n0.symm
   have au3 := auo.keptA gb n1.symm
   refine ⟨fun h => absurd rfl h, ?_⟩
   refine yE (by kernel_rfl) ?_
   refine zZ ?_
   refine zA (zC ?_)
   refine qM (vJ (i4 : Int)) ?_
   refine qD rfl (yJ rfl rfl (by omega)) ?_
   refine qM (vJ ((i4 : Int) + 1)) ?_
   refine qe ?_
   refine yC ?_
   refine ⟨_, ?_, _, rfl, _, i4 + 1, ak, (gr).set (fr.getD i4 0).toNat (bh.length : Int), b7, bh ++ ([(⟨(ls.getD i4 default).l, (ls.getD i4 default).r⟩ : Nd)]), al, (pS 14 (pS 10 (pS 9 (pS 8 (pS 7 (pS 6 (pS 5 (pS 4 (pS 1 (pU 0)))))))))), rfl, aux, gs, (by omega), (hrp.trans (place_next (by omega) (by omega))), ((List.length_set ..).trans z3), (by simp; omega), auy, au1, auz, au0, au2, au3, auu, aup, mz, m0, m1, m2, jl, auq.symm, aur.symm, aus.symm, aut.symm, aak.symm⟩
   omega
  refine wp_exit ?_
  refine zY ?_
  refine yH ?_
  refine yD ?_
  refine zZ ?_
  refine zA (zC ?_)
  refine qM (vJ (q : Int)) ?_
  refine qD rfl (yJ rfl rfl (by omega)) ?_
  refine qM (vJ ((q : Int) + 1)) ?_
  refine qe ?_
  refine yC ?_
  refine ⟨_, ?_, _, rfl, _, q + 1, ak, gr, aj, bh, al, (pS 8 (pS 7 (pS 6 (pS 5 (pS 4 (pS 1 (pU 0))))))), rfl, hh, (Pin.le_trans (Pin.le_trans (Pin.le_trans (Pin.le_trans n3 e1) e2) gy) gs), (by omega), (form_step hr (by rw [show m.toNat + 1 = c by omega]; exact hrl) (hrp.trans (place_end (by omega)))), z3, (by omega), mx, my, z4, z5, z6, z7, z8, jk, mz, m0, m1, m2, jl, m3, m4, m5, m6, m7⟩
  omega
 refine wp_exit ?_
 refine zY ?_
 refine yH ?_
 refine yD ?_
 refine zA (zB (zC ?_))
 refine qD rfl (yB (cs := [ov]) ag26 sz26 rfl (fun j u hj => jz.cell (by simpa using hj))) ?_
 refine q0 rfl rfl rfl (xD (cs' := [ov]) (us := [ov]) (v := (.agg [ov].toArray)) sz26 rfl rfl rfl (yP hp.one) ge.pins jy (Nat.le_of_ble_eq_true rfl) rfl (fun ayh au4 au5 aal ayi => ?_))
 have au6 := ge.write au5 aal ((yM aao))
 have aam := hp.keptA aal n6
 refine qe (zA ?_)
 refine wp_ret ?_
 refine zP ?_
 refine c_retc (cs := [ov]) rfl rfl rfl ag26 sz26 (fun j u hj => by rw [Nat.zero_add]; exact au4.cell hj) ?_
 obtain ⟨ayj, au7, au8, au9, ayk⟩ := aam.sealed au6
 have hfd := form_done hr (by omega)
 exact ⟨_, _, rfl, (by rw [hfd]; exact au9), au8, (by rw [hfd]; exact ⟨ar, aam, au7⟩)⟩

theorem form_spec {w : World} {G : Pin} {b : Nat} {bu bv : Value} {ns : List Nd} {bs : List Int} (hP : Pins G w) (hB : Bk 60 3 G w b bu bv ns bs) (hok : BookOk ns bs) {m : Int} (hm : 0 ≤ m ∧ m < ns.length) :
  Calls Tryd.prog 52 [(.pointer (some ⟨b, 0, none⟩)), (.int .i64 m)].toArray w fun e w' => ∃ (u : Value) (G' : Pin), e = .returned (.agg [u].toArray) ∧ RSl eNode G' u (formM ns bs m.toNat) ∧ Ext noS G w G' w' :=
 (form_own hP hB hok hm).mono fun _ _ ⟨u, G', h1, h2, h3, _⟩ => ⟨u, G', h1, h2, h3⟩

theorem l3Good_spec {w : World} {G : Pin} {v : Value} {ns : List Nd} (hP : Pins G w) (hv : RSl eNode G v ns) :
  Calls Tryd.prog 29 [(.agg [v].toArray)].toArray w fun e w' => ∃ G', e = .returned (.bool (decP (GoodS ns))) ∧ Ext noS G w G' w' := by
 refine zV (n := 46) Tryd.func29 Tryd.ntmps29 rfl rfl ?_
 have ae : Ext noS G w G w := Ext.refl hP
 have hm := hv.max
 refine zB (zC ?_)
 refine qI rfl (qA [v] (v := (.agg [v].toArray)) rfl rfl ae.pins (fun b1 w2 bq az a0 a1 => ?_))
 have a2 := ae.step a0 a1
 have a3 : w.heap.size ≤ b1 := by have := ae.size; omega
 obtain ⟨G9, f, af, o, bs⟩ := az.shut a2 a3
 refine qM (.bool false) ?_
 refine qe (zA (zB (zB (zC ?_))))
 refine qD rfl (yB (cs := [v]) ag26 sz26 rfl (fun j u hj => af.pins _ _ _ (o _ _ (by simpa using hj)))) ?_
 refine qI rfl (zL (vs := [(.agg [v].toArray)]) Tryd.func49 nm49 rfl rfl rfl ?_)
 refine Calls.mono (l3Fits_spec af.pins (hv.mono f)) ?_
 rintro _ bt ⟨ao, rfl, a⟩
 refine ⟨_, rfl, ?_⟩
 have ap := af.tr a
 refine qD rfl (xW rfl) ?_
 refine qe (zA ?_)
 refine c_ifn rfl rfl (fun ab => ?_) (fun ab => ?_)
 ·skip
  refine wp_skip ?_
  refine zA (zB (zB (zC ?_)))
  refine qM (vJ 0) ?_
  refine qe (zA ?_)
  refine zW ?_
  have hfit := decP_true.1 ab
  refine yL (fun (k : Nat) (en : Nat → Value) (W : World) => ∃ (aq : Nat → Value) (j : Nat) (x : Pin), en = (upd (upd aq 1 (.pointer (some ⟨b1, 0, none⟩))) 3 (vJ (j : Int))) ∧ k = ns.length - j ∧ Ext noS G w x W ∧ Pin.le ao x ∧ (j ≤ ns.length) ∧ (∀ i, i < j → Rise (ns.getD i default).l 0 ((i : Int) - 1) ∧ Rise (ns.getD i default).r 0 ((i : Int) - 1))) _ ⟨_, 0, ao, (pS 3 (pU 1)), rfl, ap, Pin.le_refl _, Nat.zero_le _, (fun i hi => absurd hi (Nat.not_lt_zero i))⟩ ?_
  rintro bu _ bv ⟨aq, j, x, rfl, bw, c, b, hj, hp⟩
  refine zB (zB (zC ?_))
  refine qM (vJ (j : Int)) ?_
  refine qD rfl (zN (k := 0) rfl Tryd.underlying26 rfl nz24 rfl) ?_
  refine qD rfl (zQ (u := v) ag24 rfl ((Pins.of_le c.pins (Pin.le_trans a.le b)) _ _ _ (o 0 _ rfl))) ?_
  refine qD rfl (zO Tryd.underlying24 (v := v) rfl hv) ?_
  refine qD rfl (yU rfl rfl) ?_
  refine qe (zA ?_)
  refine yA (p := ((j : Int) : Int) < (ns.length : Int)) rfl rfl (fun a4 => ?_) (fun a4 => ?_)
  ·skip
   refine wp_skip ?_
   refine zA (zB ?_)
   refine zW ?_
   refine zB (zC ?_)
   refine qD rfl (zN (k := 0) rfl Tryd.underlying26 rfl nz24 rfl) ?_
   refine qD rfl (zQ (u := v) ag24 rfl ((Pins.of_le c.pins (Pin.le_trans a.le b)) _ _ _ (o 0 _ rfl))) ?_
   refine qM (vJ (j : Int)) ?_
   refine qD rfl (zH Tryd.underlying24 sz60 (v := v) rfl rfl hv (by omega) (by omega)) ?_
   refine qD rfl (xJ (off := 0) Tryd.underlying60 rfl rfl nz40 (z := (j : Int)) (k := 0) rfl hv (by omega) (by omega)) ?_
   obtain ⟨a5, ar, a6⟩ := nm_nl (hv.at (z := (j : Int)) (by omega) (by omega)) (j := j) rfl
   have bz := ar.max
   refine qD rfl (a6 ag40 rfl (Pins.of_le c.pins (Pin.le_trans (Pin.le_trans f a.le) b))) ?_
   refine qM (vJ (j : Int)) ?_
   refine qD rfl (xZ rfl rfl (by omega)) ?_
   refine qI rfl (zL (vs := [a5, (vJ 0), (vJ ((j : Int) - 1))]) Tryd.func50 nm50 rfl rfl rfl ?_)
   refine Calls.mono (l1Rising_spec c.pins (ar.mono (Pin.le_trans (Pin.le_trans f a.le) b))) ?_
   rintro _ b0 ⟨rfl, au⟩
   refine ⟨_, rfl, ?_⟩
   have y := c.step au.pins au.below
   refine qD rfl (xW rfl) ?_
   refine qM (.bool (!(decP (Rise ((ns.getD j default).l) 0 ((j : Int) - 1))))) ?_
   refine qbn (t := 25) rfl (fun ac => ?_) (fun ac => ?_)
   ·skip
    refine qN (zN (k := 0) rfl Tryd.underlying26 rfl nz24 rfl) ?_
    refine qN (zQ (u := v) ag24 rfl ((Pins.of_le y.pins (Pin.le_trans a.le b)) _ _ _ (o 0 _ rfl))) ?_
    refine qN (zR (v := (vJ (j : Int))) rfl) ?_
    refine qN (zH Tryd.underlying24 sz60 (v := v) rfl rfl hv (by omega) (by omega)) ?_
    refine qN (xJ (off := 1) Tryd.underlying60 rfl rfl nz40 (z := (j : Int)) (k := 0) rfl hv (by omega) (by omega)) ?_
    obtain ⟨a7, av, a8⟩ := nm_nr (hv.at (z := (j : Int)) (by omega) (by omega)) (j := j) rfl
    have b2 := av.max
    refine qN (a8 ag40 rfl (Pins.of_le y.pins (Pin.le_trans (Pin.le_trans f a.le) b))) ?_
    refine qN (zR (v := (vJ (j : Int))) rfl) ?_
    refine qN (xZ rfl rfl (by omega)) ?_
    refine q1g rfl rfl rfl rfl rfl rfl (zL (vs := [a7, (vJ 0), (vJ ((j : Int) - 1))]) Tryd.func50 nm50 rfl rfl rfl ?_)
    refine Calls.mono (l1Rising_spec y.pins (av.mono (Pin.le_trans (Pin.le_trans f a.le) b))) ?_
    rintro _ b3 ⟨rfl, aw⟩
    refine ⟨_, rfl, ?_⟩
    have ax := y.step aw.pins aw.below
    refine qN (xW rfl) ?_
    refine qD rfl (yO (v := (.bool (!(decP (Rise ((ns.getD j default).r) 0 ((j : Int) - 1)))))) rfl rfl) ?_
    refine qe (zA ?_)
    refine c_ifn rfl rfl (fun ad => ?_) (fun ad => ?_)
    ·skip
     refine wp_skip ?_
     refine zZ ?_
     refine zA (zC ?_)
     refine qM (vJ (j : Int)) ?_
     refine qD rfl (yJ rfl rfl (by omega)) ?_
     refine qM (vJ ((j : Int) + 1)) ?_
     refine qe ?_
     refine yC ?_
     refine ⟨_, ?_, _, rfl, _, j + 1, x, (pS 3 (pU 1)), rfl, ax, b, (by omega), (fun k hk => if h3 : k = j then h3 ▸ ⟨decP_true.1 ac, decP_true.1 ad⟩ else hp k (by omega))⟩
     omega
    refine zB (zC ?_)
    refine qM (.bool false) ?_
    refine qe (zA ?_)
    refine wp_ret ?_
    refine zP ?_
    refine zM (v := (.bool false)) rfl rfl rfl ?_
    exact ⟨_, congrArg (fun z => Ending.returned (Value.bool z)) (decP_false.2 (fun g => by rw [decP_true.2 (g.rise j (by omega)).2] at ad; cases ad)).symm, ax⟩
   refine qW ?_
   refine qW ?_
   refine qW ?_
   refine qW ?_
   refine qW ?_
   refine qW ?_
   refine qW ?_
   refine qW ?_
   refine qW ?_
   refine qW ?_
   refine qD rfl (yT (v := (.bool true)) rfl rfl) ?_
   refine qe (zA ?_)
   refine c_ifT rfl rfl ?_
   refine zB (zC ?_)
   refine qM (.bool false) ?_
   refine qe (zA ?_)
   refine wp_ret ?_
   refine zP ?_
   refine zM (v := (.bool false)) rfl rfl rfl ?_
   exact ⟨_, congrArg (fun z => Ending.returned (Value.bool z)) (decP_false.2 (fun g => by rw [decP_true.2 (g.rise j (by omega)).1] at ac; cases ac)).symm, y⟩
  refine wp_exit ?_
  refine zY ?_
  refine yH ?_
  refine yD ?_
  refine zA (zB (zC ?_))
  have hrise : ∀ i, i < ns.length → Rise (ns.getD i default).l 0 ((i : Int) - 1) ∧ Rise (ns.getD i default).r 0 ((i : Int) - 1) := fun i hi => hp i (by omega)
  have hfok := formOk_of hfit hrise
  have hlim := hfit.lim
  have hao := addM_all book_empty hfok (by simp; omega)
  refine qD rfl (xX [(.slice none 0 0), (.slice none 0 0)] [(.slice none 0 0), (.slice none 0 0)] [] Tryd.underlying83 zr83 rfl pl83 rfl (fun _ h => by cases h) rfl) ?_
  refine qI rfl (qA [(.slice none 0 0), (.slice none 0 0)] (v := (.agg [(.slice none 0 0), (.slice none 0 0)].toArray)) rfl rfl c.pins (fun m ag b4 a9 ba bb => ?_))
  have ay := c.step ba bb
  have bc : w.heap.size ≤ m := by have := c.size; omega
  refine qM (.pointer (some ⟨m, 0, none⟩)) ?_
  refine qe (zA (zB ?_))
  refine xE (S := fun wz => Pins x wz) (last := 8) (by kernel_rfl) rfl ?_
  have ah : Below ag.heap.size ag ag.drew := (Below.refl _ _).drew
  have bd := ay.pins.below ah
  have d := ay.step bd ah
  have be := a9.below ah
  refine dM 0 (.pointer (some ⟨m, 0, none⟩)) d.pins ?_
  refine dM 1 (.pointer (some ⟨m, 0, none⟩)) d.pins ?_
  refine dT (i := 2) rfl rfl (by kernel_rfl) (fun _ hS => yB (cs := [v]) ag26 sz26 rfl (fun j u hj => (Pins.of_le hS (Pin.le_trans a.le b)) _ _ _ (o _ _ (by simpa using hj)))) d.pins ?_
  refine dT (i := 5) rfl rfl (by kernel_rfl) (fun _ hS => yB (cs := [v]) ag26 sz26 rfl (fun j u hj => (Pins.of_le hS (Pin.le_trans a.le b)) _ _ _ (o _ _ (by simpa using hj)))) d.pins ?_
  refine dO (i := 3) (zS (i := 3) rfl rfl rfl (zD rfl _) (zL (vs := [(.pointer (some ⟨m, 0, none⟩)), (.agg [v].toArray)]) Tryd.func53 nm53 rfl rfl rfl ?_))
  refine Calls.mono (root_spec d.pins ⟨be, (Own.nil _ _ _ _ _), (Own.nil _ _ _ _ _), apart_none.symm, apart_none.symm, apart_none⟩ book_empty (hv.mono (Pin.le_trans (Pin.le_trans f a.le) b)) ⟨hfok, hlim.1⟩ (by first | omega | (simp; omega))) ?_
  rintro _ b5 ⟨b6, b7, b8, rfl, q, s, bf, bg⟩
  refine ⟨_, rfl, ?_⟩
  have ai : ∀ i, inS m (.slice none 0 0) (.slice none 0 0) i → w.heap.size ≤ i ∨ noS i := inS_lo (yM bc) (lo_none _ _) (lo_none _ _)
  have aj := d.trans s ai
  have bh := q.bx
  have bi := q.ou
  have bj := q.ov
  have bk := q.abu
  have bl := q.abv
  have bm := q.auv
  have b9 := qJ bf ai d.size
  have ca := qJ bg ai d.size
  refine ⟨fun _ => (Pins.of_le aj.pins s.le), ?_⟩
  refine dO (i := 4) (zS (i := 4) rfl rfl rfl (zD rfl _) (zL (vs := [(.pointer (some ⟨m, 0, none⟩)), (vJ (rootM ([]) ([]) ns))]) Tryd.func52 nm52 rfl rfl rfl ?_))
  refine Calls.mono (form_spec aj.pins ⟨bh, bi, bj, bk, bl, bm⟩ hao.book (root_lt hao hlim.1)) ?_
  rintro _ cb ⟨bn, cc, rfl, bo, aa⟩
  refine ⟨_, rfl, ?_⟩
  have ak := aj.tr aa
  refine ⟨fun _ => (Pins.of_le ak.pins (Pin.le_trans s.le aa.le)), ?_⟩
  refine dO (i := 6) (zS (i := 6) rfl rfl rfl (zD rfl _) (zL (vs := [(.agg [bn].toArray), (.agg [v].toArray)]) Tryd.func51 nm51 rfl rfl rfl ?_))
  refine Calls.mono (l3Same_spec ak.pins bo (hv.mono (Pin.le_trans (Pin.le_trans (Pin.le_trans (Pin.le_trans f a.le) b) s.le) aa.le))) ?_
  rintro _ cd ⟨ce, rfl, al⟩
  refine ⟨_, rfl, ?_⟩
  have am := ak.tr al
  refine ⟨fun _ => (Pins.of_le am.pins (Pin.le_trans (Pin.le_trans s.le aa.le) al.le)), ?_⟩
  refine dM 7 (.bool (decide ((formM ((addM ([]) ([]) ns).2.1) ((addM ([]) ([]) ns).2.2) (rootM ([]) ([]) ns).toNat) = ns))) (Pins.of_le am.pins (Pin.le_trans (Pin.le_trans s.le aa.le) al.le)) ?_
  refine yE (by kernel_rfl) ?_
  refine zA ?_
  refine wp_ret ?_
  refine zP ?_
  refine zM (v := (.bool (decide ((formM ((addM ([]) ([]) ns).2.1) ((addM ([]) ([]) ns).2.2) (rootM ([]) ([]) ns).toNat) = ns)))) rfl rfl rfl ?_
  exact ⟨_, congrArg (fun z => Ending.returned (Value.bool z)) (decP_dec.symm.trans (decP_iff ⟨fun h => ⟨hfit, hrise, h⟩, fun h => h.same⟩)), am⟩
 refine zB (zC ?_)
 refine qM (.bool false) ?_
 refine qe (zA ?_)
 refine wp_ret ?_
 refine zP ?_
 refine zM (v := (.bool false)) rfl rfl rfl ?_
 exact ⟨_, congrArg (fun z => Ending.returned (Value.bool z)) (decP_false.2 (fun g => by rw [decP_true.2 g.fits] at ab; cases ab)).symm, ap⟩

end E1
end Go.Proofs.YtkfgdhanaijddaaDoor

set_option maxRecDepth 20000
set_option maxHeartbeats 2000000
namespace Go.Proofs.YtkfgdhanaijddaaDoor
namespace K1
open Go.RowKit Go.GL Go.Proofs







theorem isPow_spec {w : World} {G : Pin} (hP : Pins G w) :
  Calls Tryd.prog 111 [(.int .i64 36)].toArray w fun e w' => e = .returned (.bool false) ∧ w' = w := by
 refine zV (n := 8) Tryd.func111 Tryd.ntmps111 rfl rfl ?_
 have hX0 : Ext noS G w G w := Ext.refl hP
 refine zB (zC ?_)
 refine qM (.bool false) ?_
 refine qe (zA (zB (zC ?_)))
 refine qM (.int .i64 36) ?_
 refine qM (.int .i64 36) ?_
 refine qD rfl (xZ rfl rfl (by omega)) ?_
 refine qD rfl (r_and rfl rfl) ?_
 refine qD rfl (r_eql rfl rfl) ?_
 refine qM (.bool (decide ((andW .i64 36 (36 - 1) : Int) = 0))) ?_
 refine qe (zA ?_)
 refine wp_ret ?_
 refine zP ?_
 refine zM (v := (.bool (decide ((andW .i64 36 (36 - 1) : Int) = 0)))) rfl rfl rfl ?_
 exact ⟨congrArg (fun z => Ending.returned (Value.bool z)) not_pow36, rfl⟩

theorem formatBits_spec {w : World} {G : Pin} {v : Value} {xs : List UInt8} {i : Int} (hP : Pins G w) (hv : Own eByte 5 G w 0 v xs) (hxl : xs.length ≤ 1099511627776) (hi : 0 ≤ i ∧ i ≤ 9223372036854775807) :
  Calls Tryd.prog 103 [v, (.int .u64 i), (vJ 36), (.bool false), (.bool true)].toArray w fun e w' => ∃ (u : Value) (G' : Pin), e = .returned (.tuple #[u, .string (⟨#[]⟩ : ByteArray)]) ∧ Own eByte 5 G' w' 0 u (xs ++ dig36 i.toNat) ∧ Lo w (inO v.ownBlock) u.ownBlock ∧ Ext (inO v.ownBlock) G w G' w' := by
 refine zV (n := 102) Tryd.func103 Tryd.ntmps103 rfl rfl ?_
 have d : Ext (inO v.ownBlock) G w G w := Ext.refl hP
 have hlov : Lo w (inO v.ownBlock) v.ownBlock := xB
 refine zB (zC ?_)
 refine qM (.slice none 0 0) ?_
 refine qM (.string (⟨#[]⟩ : ByteArray)) ?_
 refine qe (zA (zB (zB (zC ?_))))
 refine qM (vJ 36) ?_
 refine qD rfl (yU rfl rfl) ?_
 refine qM (.bool false) ?_
 refine qN (zR (v := (vJ 36)) rfl) ?_
 refine qN (r_eql rfl rfl) ?_
 refine qD rfl (yO (v := (.bool false)) rfl rfl) ?_
 refine qM (.bool false) ?_
 refine qN (zR (v := (vJ 36)) rfl) ?_
 refine qN (r_gtr rfl rfl) ?_
 refine qD rfl (yO (v := (.bool false)) rfl rfl) ?_
 refine qe (zA ?_)
 refine qR rfl rfl ?_
 refine wp_skip ?_
 refine zA (zB (zC ?_))
 refine qI rfl (yX (arrV (List.replicate 65 0)) zr130 rfl d.pins (fun a w2 x y aa l => ?_))
 have m := d.step aa l
 have ab := hv.below l
 have f : Apart (some a) v.ownBlock := zG (congrArg some x) hv.lt
 have g : w.heap.size ≤ a := by have := d.size; omega
 refine qe (zA (zB (zC ?_)))
 refine qM (vJ 65) ?_
 refine qe (zA (zB (zB (zC ?_))))
 refine qM (.bool false) ?_
 refine qe (zA ?_)
 refine qR rfl rfl ?_
 refine wp_skip ?_
 refine zA (zB (zB (zC ?_)))
 refine qM (vJ 36) ?_
 refine qI rfl (zL (vs := [(vJ 36)]) Tryd.func111 nm111 rfl rfl rfl ?_)
 refine Calls.mono (isPow_spec m.pins ) ?_
 rintro _ _ ⟨rfl, rfl⟩
 refine ⟨_, rfl, ?_⟩
 refine qe (zA ?_)
 refine qR rfl rfl ?_
 refine zB (zC ?_)
 refine qM (vJ 36) ?_
 refine qD rfl (r_conv (j := 36) Tryd.underlying3 Tryd.underlying51 rfl (wrapU (by omega))) ?_
 refine qM (.int .u64 36) ?_
 refine qe (zA (zB ?_))
 refine zW ?_
 refine yL (fun (k : Nat) (en : Nat → Value) (W : World) => ∃ (o : Nat → Value) (uz : Int) (iz : Int) (L : List UInt8), en = (upd (upd (upd (upd (upd (upd (upd (upd (upd o 0 v) 1 (.int .u64 uz)) 3 (.bool false)) 4 (.bool true)) 10 (.slice none 0 0)) 11 (.string (⟨#[]⟩ : ByteArray))) 12 (.pointer (some ⟨a, 0, none⟩))) 13 (vJ iz)) 17 (.int .u64 36)) ∧ k = uz.toNat ∧ Ext (inO v.ownBlock) G w G W ∧ (L.length = 65) ∧ (0 ≤ uz ∧ uz ≤ 9223372036854775807) ∧ (iz ≤ 65) ∧ (dig36 i.toNat = dig36 uz.toNat ++ L.drop iz.toNat) ∧ (Own eByte 5 G W 0 v (xs)) ∧ (Bx G W a (arrV (L)))) _ ⟨_, i, 65, List.replicate 65 0, (pS 17 (pS 13 (pS 12 (pS 11 (pS 10 (pS 4 (pS 3 (pS 1 (pU 0))))))))), rfl, m, List.length_replicate, hi, (Int.le_refl _), (by simp), ab, y⟩ ?_
 rintro a1 _ a2 ⟨o, uz, iz, L, rfl, a3, b, hL, hu, hiz, hd, q, r⟩
 have hpl := dig_place hd hL (by omega)
 refine zB (zB (zC ?_))
 refine qM (.int .u64 uz) ?_
 refine qM (.int .u64 36) ?_
 refine qD rfl (r_geq rfl rfl) ?_
 refine qe (zA ?_)
 refine yA (p := (36 : Int) ≤ uz) rfl rfl (fun ac => ?_) (fun ac => ?_)
 ·skip
  refine wp_skip ?_
  refine zA ?_
  refine zW ?_
  refine zB (zC ?_)
  refine qM (vJ iz) ?_
  refine qD rfl (xZ rfl rfl (by omega)) ?_
  refine qM (vJ (iz - 1)) ?_
  refine qe (zA (zB (zC ?_)))
  refine qM (.int .u64 uz) ?_
  refine qM (.int .u64 36) ?_
  refine qD rfl (r_quoX rfl rfl (by omega) (by omega) (by omega)) ?_
  refine qM (.int .u64 (uz / 36)) ?_
  refine qe (zA (zB (zC ?_)))
  refine qM (vJ (iz - 1)) ?_
  refine qM (.int .u64 uz) ?_
  refine qM (.int .u64 (uz / 36)) ?_
  refine qM (.int .u64 36) ?_
  refine qD rfl (r_mulX rfl rfl (by omega)) ?_
  refine qD rfl (r_subX rfl rfl (by omega)) ?_
  refine qD rfl (r_digit Tryd.underlying9 rfl rfl (by omega)) ?_
  refine qD rfl (r_idxb (k := (iz - 1).toNat) Tryd.underlying130 sz5 rfl rfl (by omega) (by omega) (by omega)) ?_
  refine q0 rfl rfl rfl (o_stpk (k := (iz - 1).toNat) (x0 := digC (uz - ((uz / 36) * 36)).toNat) sz5 rfl rfl (by first | omega | (simp only [List.length_set]; omega)) b.pins r (fun a4 ad ae s a5 => ?_))
  have af := b.write ae s ((yM g))
  have ag := q.keptA s f.symm
  refine qe (zA (zC ?_))
  refine qM (.int .u64 (uz / 36)) ?_
  refine qM (.int .u64 (uz / 36)) ?_
  refine qe ?_
  refine zZ ?_
  refine yC ?_
  refine ⟨_, ?_, _, rfl, _, uz / 36, iz - 1, L.set (iz - 1).toNat (digC (uz - ((uz / 36) * 36)).toNat), (pS 17 (pS 13 (pS 12 (pS 11 (pS 10 (pS 4 (pS 3 (pS 1 (pU 0))))))))), rfl, af, (by rw [List.length_set]; exact hL), (by omega), (by omega), (dig_step hd hL (by omega) (by omega)), ag, ad⟩
  omega
 refine wp_exit ?_
 refine zY ?_
 refine yH ?_
 refine yD ?_
 refine zA (zB (zC ?_))
 refine qM (vJ iz) ?_
 refine qD rfl (xZ rfl rfl (by omega)) ?_
 refine qM (vJ (iz - 1)) ?_
 refine qe (zA (zC ?_))
 refine qM (vJ (iz - 1)) ?_
 refine qM (.int .u64 uz) ?_
 refine qD rfl (r_digit Tryd.underlying9 rfl rfl (by omega)) ?_
 refine qD rfl (r_idxb (k := (iz - 1).toNat) Tryd.underlying130 sz5 rfl rfl (by omega) (by omega) (by omega)) ?_
 refine q0 rfl rfl rfl (o_stpk (k := (iz - 1).toNat) (x0 := digC (uz).toNat) sz5 rfl rfl (by first | omega | (simp only [List.length_set]; omega)) b.pins r (fun a6 ah ai t a7 => ?_))
 have aj := b.write ai t ((yM g))
 have ak := q.keptA t f.symm
 refine qe (zA (zB (zB (zC ?_))))
 refine qM (.bool false) ?_
 refine qe (zA ?_)
 refine qR rfl rfl ?_
 refine wp_skip ?_
 refine zA (zB (zB (zC ?_)))
 refine qM (.bool true) ?_
 refine qe (zA ?_)
 refine c_ifT rfl rfl ?_
 refine zB (zC ?_)
 refine qM v ?_
 refine qM (vJ (iz - 1)) ?_
 obtain ⟨a8, al, c, am, an⟩ := ah.shut aj g
 have ao := ak.moreA al an f.symm
 obtain ⟨ap, aq, ar⟩ := name_arr (z := iz - 1) (n := 65) am (by rw [List.length_set]; exact hL) (by omega) (by decide)
 refine qD rfl (ar Tryd.underlying130 sz5 rfl rfl) ?_
 refine qI rfl (oA (E := eByte) (v := v) (u := ap) 1 Tryd.underlying22 ap5 (by decide) rfl rfl c.pins ao ((aq.mono (Pin.le_refl _)).src c.pins (by decide)) (Nat.zero_le _) (fun h a9 au av aw ax => ?_))
 have ay := c.write av aw (hlov)
 have az : Lo w (inO v.ownBlock) h.ownBlock := lo_app hlov ax c.size
 have ba : (xs ++ ((L.set (iz - 1).toNat (digC (uz).toNat)).drop (iz - 1).toNat)).length = xs.length + ((L.set (iz - 1).toNat (digC (uz).toNat)).drop (iz - 1).toNat).length := List.length_append
 refine qM h ?_
 refine qe (zA ?_)
 refine wp_ret ?_
 refine zP ?_
 refine xV (v := h) (u := (.string (⟨#[]⟩ : ByteArray))) rfl rfl rfl rfl rfl ?_
 have hown := au
 rw [dig_last hd hL (by omega) (by omega)] at hown
 exact ⟨_, _, rfl, hown, az, ay⟩

theorem appendUint_spec {w : World} {G : Pin} {v : Value} {xs : List UInt8} {i : Int} (hP : Pins G w) (hv : Own eByte 5 G w 0 v xs) (hxl : xs.length ≤ 1099511627776) (hi : 0 ≤ i ∧ i ≤ 9223372036854775807) :
  Calls Tryd.prog 88 [v, (.int .u64 i), (.int .i64 36)].toArray w fun e w' => ∃ (u : Value) (G' : Pin), e = .returned u ∧ Own eByte 5 G' w' 0 u (xs ++ dig36 i.toNat) ∧ Lo w (inO v.ownBlock) u.ownBlock ∧ Ext (inO v.ownBlock) G w G' w' := by
 refine zV (n := 36) Tryd.func88 Tryd.ntmps88 rfl rfl ?_
 have b : Ext (inO v.ownBlock) G w G w := Ext.refl hP
 have hlov : Lo w (inO v.ownBlock) v.ownBlock := xB
 refine zB (zC ?_)
 refine qM (.slice none 0 0) ?_
 refine qe (zA (zB (zB (zC ?_))))
 refine qM (.int .i64 36) ?_
 refine qD rfl (r_eql rfl rfl) ?_
 refine qe (zA ?_)
 refine qR rfl rfl ?_
 refine wp_skip ?_
 refine zA (zB (zC ?_))
 refine qM v ?_
 refine qM (.int .u64 i) ?_
 refine qM (.int .i64 36) ?_
 refine qI rfl (zL (vs := [v, (.int .u64 i), (.int .i64 36), (.bool false), (.bool true)]) Tryd.func103 nm103 rfl rfl rfl ?_)
 refine Calls.mono (formatBits_spec (i := i) b.pins hv (by omega) (by omega)) ?_
 rintro _ j ⟨a, k, rfl, c, d, f⟩
 refine ⟨_, rfl, ?_⟩
 have g := b.trans f (fun i hi => hlov i hi)
 have h := lo_turn d hlov b.size
 have l : (xs ++ dig36 (i).toNat).length = xs.length + (dig36 (i).toNat).length := List.length_append
 refine qM (.tuple #[a, (.string (⟨#[]⟩ : ByteArray))]) ?_
 refine qD rfl (xC (v := a) rfl rfl) ?_
 refine qD rfl (xC (v := (.string (⟨#[]⟩ : ByteArray))) rfl rfl) ?_
 refine qM a ?_
 refine qe (zA (zB (zC ?_)))
 refine qM a ?_
 refine qM a ?_
 refine qe (zA ?_)
 refine wp_ret ?_
 refine zP ?_
 refine zM (v := a) rfl rfl rfl ?_
 exact ⟨_, _, rfl, c, h, g⟩

theorem iAppendInt_spec {w : World} {G : Pin} {v : Value} {xs : List UInt8} {i : Int} (hP : Pins G w) (hv : Own eByte 5 G w 0 v xs) (hxl : xs.length ≤ 1099511627776) (hi : 0 ≤ i ∧ i ≤ 9223372036854775807) :
  Calls Tryd.prog 85 [v, (.int .i64 i), (.int .i64 36)].toArray w fun e w' => ∃ (u : Value) (G' : Pin), e = .returned u ∧ Own eByte 5 G' w' 0 u (xs ++ dig36 i.toNat) ∧ Lo w (inO v.ownBlock) u.ownBlock ∧ Ext (inO v.ownBlock) G w G' w' := by
 refine zV (n := 21) Tryd.func85 Tryd.ntmps85 rfl rfl ?_
 have a : Ext (inO v.ownBlock) G w G w := Ext.refl hP
 have hlov : Lo w (inO v.ownBlock) v.ownBlock := xB
 refine zB (zC ?_)
 refine qM (.slice none 0 0) ?_
 refine qe (zA (zB (zC ?_)))
 refine qM (.int .i64 i) ?_
 refine qD rfl (r_conv (j := i) Tryd.underlying2 Tryd.underlying51 rfl (wrapU (by omega))) ?_
 refine qM (.int .u64 i) ?_
 refine qe (zA (zB (zB (zC ?_))))
 refine qM (.int .i64 i) ?_
 refine qD rfl (yU rfl rfl) ?_
 refine qe (zA ?_)
 refine yA (p := (i : Int) < 0) rfl rfl (fun c => ?_) (fun c => ?_)
 ·skip
  exfalso; omega
 refine wp_skip ?_
 refine zA (zB (zC ?_))
 refine qM v ?_
 refine qM (.int .u64 i) ?_
 refine qM (.int .i64 36) ?_
 refine qI rfl (zL (vs := [v, (.int .u64 i), (.int .i64 36)]) Tryd.func88 nm88 rfl rfl rfl ?_)
 refine Calls.mono (appendUint_spec (i := i) a.pins hv (by omega) (by omega)) ?_
 rintro _ l ⟨b, m, rfl, d, f, g⟩
 refine ⟨_, rfl, ?_⟩
 have h := a.trans g (fun i hi => hlov i hi)
 have k := lo_turn f hlov a.size
 have o : (xs ++ dig36 (i).toNat).length = xs.length + (dig36 (i).toNat).length := List.length_append
 refine qM b ?_
 refine qe (zA ?_)
 refine wp_ret ?_
 refine zP ?_
 refine zM (v := b) rfl rfl rfl ?_
 exact ⟨_, _, rfl, d, k, h⟩

theorem appendInt_spec {w : World} {G : Pin} {v : Value} {xs : List UInt8} {i : Int} (hP : Pins G w) (hv : Own eByte 5 G w 0 v xs) (hxl : xs.length ≤ 1099511627776) (hi : 0 ≤ i ∧ i ≤ 9223372036854775807) :
  Calls Tryd.prog 80 [v, (.int .i64 i), (.int .i64 36)].toArray w fun e w' => ∃ (u : Value) (G' : Pin), e = .returned u ∧ Own eByte 5 G' w' 0 u (xs ++ dig36 i.toNat) ∧ Lo w (inO v.ownBlock) u.ownBlock ∧ Ext (inO v.ownBlock) G w G' w' := by
 refine zV (n := 11) Tryd.func80 Tryd.ntmps80 rfl rfl ?_
 have a : Ext (inO v.ownBlock) G w G w := Ext.refl hP
 have hlov : Lo w (inO v.ownBlock) v.ownBlock := xB
 refine zB (zC ?_)
 refine qM (.slice none 0 0) ?_
 refine qe (zA (zB (zC ?_)))
 refine qM v ?_
 refine qM (.int .i64 i) ?_
 refine qM (.int .i64 36) ?_
 refine qI rfl (zL (vs := [v, (.int .i64 i), (.int .i64 36)]) Tryd.func85 nm85 rfl rfl rfl ?_)
 refine Calls.mono (iAppendInt_spec (i := i) a.pins hv (by omega) (by omega)) ?_
 rintro _ j ⟨b, k, rfl, c, d, f⟩
 refine ⟨_, rfl, ?_⟩
 have g := a.trans f (fun i hi => hlov i hi)
 have h := lo_turn d hlov a.size
 have l : (xs ++ dig36 (i).toNat).length = xs.length + (dig36 (i).toNat).length := List.length_append
 refine qM b ?_
 refine qe (zA ?_)
 refine wp_ret ?_
 refine zP ?_
 refine zM (v := b) rfl rfl rfl ?_
 exact ⟨_, _, rfl, c, h, g⟩

end K1
end Go.Proofs.YtkfgdhanaijddaaDoor
