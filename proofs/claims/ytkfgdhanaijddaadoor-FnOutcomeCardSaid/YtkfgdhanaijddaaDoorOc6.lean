/- Texts of this claim in one file: WN3, LWC. -/
import Derived.Test.YtkfgdhanaijddaaDoorOc5
import Derived.Test.YtkfgdhanaijddaaDoorChecked
set_option maxRecDepth 20000
set_option maxHeartbeats 2000000
namespace Go.Proofs.YtkfgdhanaijddaaDoor
namespace WN3
open Go.RowKit Go.GL Go.Proofs
open Go.Proofs.YtkfgdhanaijddaaDoor.B1
open Go.Proofs.YtkfgdhanaijddaaDoor.C1
open Go.Proofs.YtkfgdhanaijddaaDoor.D1
open Go.Proofs.YtkfgdhanaijddaaDoor.E1
open Go.Proofs.YtkfgdhanaijddaaDoor.SF1
open Go.Proofs.YtkfgdhanaijddaaDoor.WN1
open Go.Proofs.YtkfgdhanaijddaaDoor.WN2













theorem l4First_spec {w : World} {G : Pin} {v : Value} {ns : List Nd} {lf : Bool} (hP : Pins G w) (hv : RSl eNode G v ns) (hg : GoodP ns) :
  Calls Tryd.prog 59 [(.agg [v].toArray), (.bool lf)].toArray w fun e w' => ∃ G', e = .returned (.bool (wfB lf (gOf ns))) ∧ Ext noS G w G' w' := by
 refine zV (n := 25) Tryd.func59 Tryd.ntmps59 rfl rfl ?_
 have d : Ext noS G w G w := Ext.refl hP
 have hm := hv.max
 have hlo := hg.lo
 have hhi := hg.hi
 have hoo := (good_form hg).opts
 refine zB (zC ?_)
 refine qI rfl (qA [v] (v := (.agg [v].toArray)) rfl rfl d.pins (fun k y aa l m o => ?_))
 have p := d.step m o
 have q : w.heap.size ≤ k := by have := d.size; omega
 obtain ⟨G9, s, f, t, ac⟩ := l.shut p q
 refine qM (.bool false) ?_
 refine qe (zA (zB (zC ?_)))
 refine qD rfl (yB (cs := [v]) ag26 sz26 rfl (fun j u hj => f.pins _ _ _ (t _ _ (by simpa using hj)))) ?_
 refine qI rfl (zL (vs := [(.agg [v].toArray)]) Tryd.func76 nm76 rfl rfl rfl ?_)
 refine Calls.mono (l4Wins_spec f.pins (hv.mono s) hg) ?_
 rintro _ ad ⟨a, b, ae, rfl, g, h, x⟩
 refine ⟨_, rfl, ?_⟩
 have c := f.tr x
 have af := wnL_len ns ns.length
 have ag := wnR_len ns ns.length
 refine qM (.tuple #[a, b]) ?_
 refine qD rfl (xC (v := a) rfl rfl) ?_
 refine qD rfl (xC (v := b) rfl rfl) ?_
 refine qM a ?_
 refine qM b ?_
 refine qe (zA (zB (zB (zC ?_))))
 refine qM (.bool lf) ?_
 refine qe (zA ?_)
 refine c_if rfl rfl (fun i => ?_) (fun i => ?_)
 ·skip
  refine zB (zC ?_)
  refine qM a ?_
  refine qM a ?_
  refine qD rfl (zO Tryd.underlying55 (v := a) rfl g) ?_
  refine qD rfl (xZ rfl rfl (by omega)) ?_
  refine qD rfl (zH Tryd.underlying55 sz4 (v := a) rfl rfl g (by omega) (by omega)) ?_
  refine qD rfl (yF (r := (wnL ns ns.length).getD (((wnL ns ns.length).length : Int) - 1).toNat false) rfl ag4 (z := (((wnL ns ns.length).length : Int) - 1)) rfl g c.pins (by omega) (by omega)) ?_
  refine qM (.bool ((wnL ns ns.length).getD (((wnL ns ns.length).length : Int) - 1).toNat false)) ?_
  refine qe (zA ?_)
  refine wp_ret ?_
  refine zP ?_
  refine zM (v := (.bool ((wnL ns ns.length).getD (((wnL ns ns.length).length : Int) - 1).toNat false))) rfl rfl rfl ?_
  exact ⟨_, congrArg (fun z => Ending.returned (Value.bool z)) (by rw [i, (wn_last hlo (z := ((wnL ns ns.length).length : Int) - 1) (by rw [wnL_len])).1]; rfl), c⟩
 refine wp_skip ?_
 refine zA (zB (zC ?_))
 refine qM b ?_
 refine qM b ?_
 refine qD rfl (zO Tryd.underlying55 (v := b) rfl h) ?_
 refine qD rfl (xZ rfl rfl (by omega)) ?_
 refine qD rfl (zH Tryd.underlying55 sz4 (v := b) rfl rfl h (by omega) (by omega)) ?_
 refine qD rfl (yF (r := (wnR ns ns.length).getD (((wnR ns ns.length).length : Int) - 1).toNat false) rfl ag4 (z := (((wnR ns ns.length).length : Int) - 1)) rfl h c.pins (by omega) (by omega)) ?_
 refine qM (.bool ((wnR ns ns.length).getD (((wnR ns ns.length).length : Int) - 1).toNat false)) ?_
 refine qe (zA ?_)
 refine wp_ret ?_
 refine zP ?_
 refine zM (v := (.bool ((wnR ns ns.length).getD (((wnR ns ns.length).length : Int) - 1).toNat false))) rfl rfl rfl ?_
 exact ⟨_, congrArg (fun z => Ending.returned (Value.bool z)) (by rw [i, (wn_last hlo (z := ((wnR ns ns.length).length : Int) - 1) (by rw [wnR_len])).2]; rfl), c⟩

theorem l4Outcome_spec {w : World} {G : Pin} {v : Value} {ns : List Nd} (hP : Pins G w) (hv : RSl eNode G v ns) (hg : GoodP ns) :
  Calls Tryd.prog 33 [(.agg [v].toArray)].toArray w fun e w' => ∃ G', e = .returned (vJ (codeI (!winR (gOf ns)) (!winL (gOf ns)))) ∧ Ext noS G w G' w' := by
 refine zV (n := 10) Tryd.func33 Tryd.ntmps33 rfl rfl ?_
 have g : Ext noS G w G w := Ext.refl hP
 have hm := hv.max
 have hlo := hg.lo
 have hhi := hg.hi
 have hoo := (good_form hg).opts
 refine zB (zC ?_)
 refine qI rfl (qA [v] (v := (.agg [v].toArray)) rfl rfl g.pins (fun r h ac s t x => ?_))
 have y := g.step t x
 have z : w.heap.size ≤ r := by have := g.size; omega
 obtain ⟨G9, m, o, p, ad⟩ := s.shut y z
 refine qM (vJ 0) ?_
 refine qe (zA (zB ?_))
 refine xE (S := fun wz => Pins G9 wz) (last := 8) (by kernel_rfl) rfl ?_
 have q : Below h.heap.size h h.drew := (Below.refl _ _).drew
 have ab := o.pins.below q
 have c := o.step ab q
 refine dT (i := 0) rfl rfl (by kernel_rfl) (fun _ hS => yB (cs := [v]) ag26 sz26 rfl (fun j u hj => hS _ _ _ (p _ _ (by simpa using hj)))) c.pins ?_
 refine dT (i := 3) rfl rfl (by kernel_rfl) (fun _ hS => yB (cs := [v]) ag26 sz26 rfl (fun j u hj => hS _ _ _ (p _ _ (by simpa using hj)))) c.pins ?_
 refine dO (i := 1) (zS (i := 1) rfl rfl rfl (zD rfl _) (zL (vs := [(.agg [v].toArray), (.bool false)]) Tryd.func59 nm59 rfl rfl rfl ?_))
 refine Calls.mono (l4First_spec c.pins (hv.mono m) hg) ?_
 rintro _ ae ⟨af, rfl, a⟩
 refine ⟨_, rfl, ?_⟩
 have d := c.tr a
 refine ⟨fun _ => (Pins.of_le d.pins a.le), ?_⟩
 refine dT (i := 2) rfl rfl (by kernel_rfl) (fun _ _ => xW rfl) (Pins.of_le d.pins a.le) ?_
 refine dO (i := 4) (zS (i := 4) rfl rfl rfl (zD rfl _) (zL (vs := [(.agg [v].toArray), (.bool true)]) Tryd.func59 nm59 rfl rfl rfl ?_))
 refine Calls.mono (l4First_spec d.pins (hv.mono (Pin.le_trans m a.le)) hg) ?_
 rintro _ ag ⟨ah, rfl, b⟩
 refine ⟨_, rfl, ?_⟩
 have f := d.tr b
 refine ⟨fun _ => (Pins.of_le f.pins (Pin.le_trans a.le b.le)), ?_⟩
 refine dT (i := 5) rfl rfl (by kernel_rfl) (fun _ _ => xW rfl) (Pins.of_le f.pins (Pin.le_trans a.le b.le)) ?_
 refine dO (i := 6) (zS (i := 6) rfl rfl rfl (zD rfl _) (zL (vs := [(.bool (!(wfB false (gOf ns)))), (.bool (!(wfB true (gOf ns))))]) Tryd.func58 nm58 rfl rfl rfl ?_))
 refine Calls.mono (l4Code_spec f.pins ) ?_
 rintro _ ai ⟨aj, rfl, k⟩
 refine ⟨_, rfl, ?_⟩
 have l := f.tr k
 refine ⟨fun _ => (Pins.of_le l.pins (Pin.le_trans (Pin.le_trans a.le b.le) k.le)), ?_⟩
 refine dM 7 (vJ (codeI (!(wfB false (gOf ns))) (!(wfB true (gOf ns))))) (Pins.of_le l.pins (Pin.le_trans (Pin.le_trans a.le b.le) k.le)) ?_
 refine yE (by kernel_rfl) ?_
 refine zA ?_
 refine wp_ret ?_
 refine zP ?_
 refine zM (v := (vJ (codeI (!(wfB false (gOf ns))) (!(wfB true (gOf ns)))))) rfl rfl rfl ?_
 exact ⟨_, rfl, l⟩

theorem sOutcomeOf_spec {w : World} {G : Pin} {v : Value} {ns : List Nd} (hP : Pins G w) (hv : RSl eNode G v ns) :
  Calls Tryd.prog 15 [(.agg [v].toArray)].toArray w fun e w' => ∃ G', e = .returned (.tuple #[.int .i64 (ocI ns), .bool (goodB ns)]) ∧ Ext noS G w G' w' := by
 refine zV (n := 9) Tryd.func15 Tryd.ntmps15 rfl rfl ?_
 have b : Ext noS G w G w := Ext.refl hP
 refine zB (zC ?_)
 refine qI rfl (qA [v] (v := (.agg [v].toArray)) rfl rfl b.pins (fun i s t k l m => ?_))
 have o := b.step l m
 have p : w.heap.size ≤ i := by have := b.size; omega
 obtain ⟨x, g, c, h, y⟩ := k.shut o p
 refine qM (.int .i64 0) ?_
 refine qM (.bool false) ?_
 refine qe (zA (zB (zB (zC ?_))))
 refine qD rfl (yB (cs := [v]) ag26 sz26 rfl (fun j u hj => c.pins _ _ _ (h _ _ (by simpa using hj)))) ?_
 refine qI rfl (zL (vs := [(.agg [v].toArray)]) Tryd.func29 nm29 rfl rfl rfl ?_)
 refine Calls.mono (l3Good_spec c.pins (hv.mono g)) ?_
 rintro _ z ⟨aa, rfl, d⟩
 refine ⟨_, rfl, ?_⟩
 have a := c.tr d
 refine qD rfl (xW rfl) ?_
 refine qe (zA ?_)
 refine c_ifn rfl rfl (fun f => ?_) (fun f => ?_)
 ·skip
  refine wp_skip ?_
  refine zA (zB (zC ?_))
  have hgb : goodB ns = true := (good_eq ns).symm.trans f
  have hg := goodB_true.1 hgb
  have hlo := hg.lo
  have hhi := hg.hi
  refine qD rfl (yB (cs := [v]) ag26 sz26 rfl (fun j u hj => (Pins.of_le a.pins d.le) _ _ _ (h _ _ (by simpa using hj)))) ?_
  refine qI rfl (zL (vs := [(.agg [v].toArray)]) Tryd.func33 nm33 rfl rfl rfl ?_)
  refine Calls.mono (l4Outcome_spec a.pins (hv.mono (Pin.le_trans g d.le)) hg) ?_
  rintro _ ab ⟨ac, rfl, q⟩
  refine ⟨_, rfl, ?_⟩
  have r := a.tr q
  refine qM (.int .i64 (codeI (!winR (gOf ns)) (!winL (gOf ns)))) ?_
  refine qM (.bool true) ?_
  refine qe (zA ?_)
  refine wp_ret ?_
  refine zP ?_
  refine xV (v := (.int .i64 (codeI (!winR (gOf ns)) (!winL (gOf ns))))) (u := (.bool true)) rfl rfl rfl rfl rfl ?_
  rw [qF hgb, hgb]
  exact ⟨_, rfl, r⟩
 refine zB (zC ?_)
 refine qM (.int .i64 0) ?_
 refine qM (.bool false) ?_
 refine qe (zA ?_)
 refine wp_ret ?_
 refine zP ?_
 refine xV (v := (.int .i64 0)) (u := (.bool false)) rfl rfl rfl rfl rfl ?_
 have hgb : goodB ns = false := (good_eq ns).symm.trans f
 rw [oc_no hgb, hgb]
 exact ⟨_, rfl, a⟩

theorem iOutcomeOf_spec {w : World} {G : Pin} {v : Value} {ns : List Nd} (hP : Pins G w) (hv : RSl eNode G v ns) :
  Calls Tryd.prog 14 [(.agg [v].toArray)].toArray w fun e w' => ∃ G', e = .returned (.tuple #[.int .i64 (ocI ns), .bool (goodB ns)]) ∧ Ext noS G w G' w' := by
 refine zV (n := 41) Tryd.func14 Tryd.ntmps14 rfl rfl ?_
 have af : Ext noS G w G w := Ext.refl hP
 refine zB (zC ?_)
 refine qI rfl (qA [v] (v := (.agg [v].toArray)) rfl rfl af.pins (fun b1 w2 av an ao ap => ?_))
 have aq := af.step ao ap
 have ar : w.heap.size ≤ b1 := by have := af.size; omega
 obtain ⟨G9, ak, ag, ah, ax⟩ := an.shut aq ar
 refine qM (vJ 0) ?_
 refine qM (.bool false) ?_
 refine qe (zA (zB (zB (zC ?_))))
 refine qD rfl (yB (cs := [v]) ag26 sz26 rfl (fun j u hj => ag.pins _ _ _ (ah _ _ (by simpa using hj)))) ?_
 refine qI rfl (zL (vs := [(.agg [v].toArray)]) Tryd.func25 nm25 rfl rfl rfl ?_)
 refine Calls.mono (goodForm_spec ag.pins (hv.mono ak)) ?_
 rintro _ ay ⟨az, rfl, aa⟩
 refine ⟨_, rfl, ?_⟩
 have ab := ag.tr aa
 refine qD rfl (xW rfl) ?_
 refine qe (zA ?_)
 refine c_ifn rfl rfl (fun ac => ?_) (fun ac => ?_)
 ·skip
  refine wp_skip ?_
  refine zA (zB (zC ?_))
  have hgb : goodB ns = true := ac
  have hg := goodB_true.1 hgb
  have hlo := hg.lo
  have hhi := hg.hi
  refine qD rfl (zN (k := 0) rfl Tryd.underlying26 rfl nz24 rfl) ?_
  refine qD rfl (zQ (u := v) ag24 rfl ((Pins.of_le ab.pins aa.le) _ _ _ (ah 0 _ rfl))) ?_
  refine qI rfl (zL (vs := [v]) Tryd.func32 nm32 rfl rfl rfl ?_)
  refine Calls.mono (wins_spec ab.pins (hv.mono (Pin.le_trans ak aa.le)) hg) ?_
  rintro _ a0 ⟨h, i, c, a, a1, rfl, s, x, l, m, al⟩
  refine ⟨_, rfl, ?_⟩
  have b := ab.tr al
  have a2 := l.len
  have a3 := m.len
  refine qM (.tuple #[h, i]) ?_
  refine qD rfl (xC (v := h) rfl rfl) ?_
  refine qD rfl (xC (v := i) rfl rfl) ?_
  refine qM h ?_
  refine qM i ?_
  refine qe (zA (zB (zC ?_)))
  refine qD rfl (zN (k := 0) rfl Tryd.underlying26 rfl nz24 rfl) ?_
  refine qD rfl (zQ (u := v) ag24 rfl ((Pins.of_le b.pins (Pin.le_trans aa.le al.le)) _ _ _ (ah 0 _ rfl))) ?_
  refine qD rfl (zO Tryd.underlying24 (v := v) rfl hv) ?_
  refine qD rfl (xZ rfl rfl (by omega)) ?_
  refine qM (vJ ((ns.length : Int) - 1)) ?_
  refine qe (zA (zB ?_))
  refine zW ?_
  refine zB (zC ?_)
  refine qM h ?_
  refine qM (vJ ((ns.length : Int) - 1)) ?_
  refine qD rfl (zH Tryd.underlying55 sz4 (v := h) rfl rfl s (by omega) (by omega)) ?_
  refine qD rfl (yF (r := c.getD ((ns.length : Int) - 1).toNat false) rfl ag4 (z := ((ns.length : Int) - 1)) rfl s b.pins (by omega) (by omega)) ?_
  refine qM (.bool (c.getD ((ns.length : Int) - 1).toNat false)) ?_
  refine qb (t := 25) rfl (fun o => ?_) (fun o => ?_)
  ·skip
   refine qN (zR (v := i) rfl) ?_
   refine qN (zR (v := (vJ ((ns.length : Int) - 1))) rfl) ?_
   refine qN (zH Tryd.underlying55 sz4 (v := i) rfl rfl x (by omega) (by omega)) ?_
   refine qN (yF (r := a.getD ((ns.length : Int) - 1).toNat false) rfl ag4 (z := ((ns.length : Int) - 1)) rfl x b.pins (by omega) (by omega)) ?_
   refine qD rfl (yT (v := (.bool (a.getD ((ns.length : Int) - 1).toNat false))) rfl rfl) ?_
   refine qM (.bool (a.getD ((ns.length : Int) - 1).toNat false)) ?_
   refine qe (zA ?_)
   refine c_if rfl rfl (fun y => ?_) (fun y => ?_)
   ·skip
    refine zB (zC ?_)
    refine qM (vJ 3) ?_
    refine qM (.bool true) ?_
    refine qe (zA ?_)
    refine wp_ret ?_
    refine zP ?_
    refine xV (v := (vJ 3)) (u := (.bool true)) rfl rfl rfl rfl rfl ?_
    have d := l.last hlo rfl
    have f := m.last hlo rfl
    rw [qF hgb, hgb]
    have g : 3 = codeI (!winR (gOf ns)) (!winL (gOf ns)) := by
     rw [← d, ← f]
     revert o y
     generalize c.getD _ false = p
     generalize a.getD _ false = q
     cases p <;> cases q <;> decide
    exact ⟨_, by rw [g], b⟩
   refine zB (zC ?_)
   refine qM h ?_
   refine qM (vJ ((ns.length : Int) - 1)) ?_
   refine qD rfl (zH Tryd.underlying55 sz4 (v := h) rfl rfl s (by omega) (by omega)) ?_
   refine qD rfl (yF (r := c.getD ((ns.length : Int) - 1).toNat false) rfl ag4 (z := ((ns.length : Int) - 1)) rfl s b.pins (by omega) (by omega)) ?_
   refine qM (.bool (c.getD ((ns.length : Int) - 1).toNat false)) ?_
   refine qe (zA ?_)
   refine c_if rfl rfl (fun ad => ?_) (fun ad => ?_)
   ·skip
    refine zB (zC ?_)
    refine qM (vJ 1) ?_
    refine qM (.bool true) ?_
    refine qe (zA ?_)
    refine wp_ret ?_
    refine zP ?_
    refine xV (v := (vJ 1)) (u := (.bool true)) rfl rfl rfl rfl rfl ?_
    have d := l.last hlo rfl
    have f := m.last hlo rfl
    rw [qF hgb, hgb]
    have g : 1 = codeI (!winR (gOf ns)) (!winL (gOf ns)) := by
     rw [← d, ← f]
     revert o y ad
     generalize c.getD _ false = p
     generalize a.getD _ false = q
     cases p <;> cases q <;> decide
    exact ⟨_, by rw [g], b⟩
   refine zB (zC ?_)
   refine qM i ?_
   refine qM (vJ ((ns.length : Int) - 1)) ?_
   refine qD rfl (zH Tryd.underlying55 sz4 (v := i) rfl rfl x (by omega) (by omega)) ?_
   refine qD rfl (yF (r := a.getD ((ns.length : Int) - 1).toNat false) rfl ag4 (z := ((ns.length : Int) - 1)) rfl x b.pins (by omega) (by omega)) ?_
   refine qM (.bool (a.getD ((ns.length : Int) - 1).toNat false)) ?_
   refine qe (zA ?_)
   refine c_if rfl rfl (fun ai => ?_) (fun ai => ?_)
   ·skip
    refine zB (zC ?_)
    refine qM (vJ 2) ?_
    refine qM (.bool true) ?_
    refine qe (zA ?_)
    refine wp_ret ?_
    refine zP ?_
    refine xV (v := (vJ 2)) (u := (.bool true)) rfl rfl rfl rfl rfl ?_
    have d := l.last hlo rfl
    have f := m.last hlo rfl
    rw [qF hgb, hgb]
    have g : 2 = codeI (!winR (gOf ns)) (!winL (gOf ns)) := by
     rw [← d, ← f]
     revert o y ad ai
     generalize c.getD _ false = p
     generalize a.getD _ false = q
     cases p <;> cases q <;> decide
    exact ⟨_, by rw [g], b⟩
   refine wp_skip ?_
   refine zZ ?_
   refine zA (zB (zC ?_))
   refine qM (vJ 4) ?_
   refine qM (.bool true) ?_
   refine qe (zA ?_)
   refine wp_ret ?_
   refine zP ?_
   refine xV (v := (vJ 4)) (u := (.bool true)) rfl rfl rfl rfl rfl ?_
   have d := l.last hlo rfl
   have f := m.last hlo rfl
   rw [qF hgb, hgb]
   have g : 4 = codeI (!winR (gOf ns)) (!winL (gOf ns)) := by
    rw [← d, ← f]
    revert o y ad ai
    generalize c.getD _ false = p
    generalize a.getD _ false = q
    cases p <;> cases q <;> decide
   exact ⟨_, by rw [g], b⟩
  refine qW ?_
  refine qW ?_
  refine qW ?_
  refine qW ?_
  refine qD rfl (yO (v := (.bool false)) rfl rfl) ?_
  refine qM (.bool false) ?_
  refine qe (zA ?_)
  refine qR rfl rfl ?_
  refine zB (zC ?_)
  refine qM h ?_
  refine qM (vJ ((ns.length : Int) - 1)) ?_
  refine qD rfl (zH Tryd.underlying55 sz4 (v := h) rfl rfl s (by omega) (by omega)) ?_
  refine qD rfl (yF (r := c.getD ((ns.length : Int) - 1).toNat false) rfl ag4 (z := ((ns.length : Int) - 1)) rfl s b.pins (by omega) (by omega)) ?_
  refine qM (.bool (c.getD ((ns.length : Int) - 1).toNat false)) ?_
  refine qe (zA ?_)
  refine c_if rfl rfl (fun ae => ?_) (fun ae => ?_)
  ·skip
   refine zB (zC ?_)
   refine qM (vJ 1) ?_
   refine qM (.bool true) ?_
   refine qe (zA ?_)
   refine wp_ret ?_
   refine zP ?_
   refine xV (v := (vJ 1)) (u := (.bool true)) rfl rfl rfl rfl rfl ?_
   have d := l.last hlo rfl
   have f := m.last hlo rfl
   rw [qF hgb, hgb]
   have g : 1 = codeI (!winR (gOf ns)) (!winL (gOf ns)) := by
    rw [← d, ← f]
    revert o ae
    generalize c.getD _ false = p
    generalize a.getD _ false = q
    cases p <;> cases q <;> decide
   exact ⟨_, by rw [g], b⟩
  refine zB (zC ?_)
  refine qM i ?_
  refine qM (vJ ((ns.length : Int) - 1)) ?_
  refine qD rfl (zH Tryd.underlying55 sz4 (v := i) rfl rfl x (by omega) (by omega)) ?_
  refine qD rfl (yF (r := a.getD ((ns.length : Int) - 1).toNat false) rfl ag4 (z := ((ns.length : Int) - 1)) rfl x b.pins (by omega) (by omega)) ?_
  refine qM (.bool (a.getD ((ns.length : Int) - 1).toNat false)) ?_
  refine qe (zA ?_)
  refine c_if rfl rfl (fun aj => ?_) (fun aj => ?_)
  ·skip
   refine zB (zC ?_)
   refine qM (vJ 2) ?_
   refine qM (.bool true) ?_
   refine qe (zA ?_)
   refine wp_ret ?_
   refine zP ?_
   refine xV (v := (vJ 2)) (u := (.bool true)) rfl rfl rfl rfl rfl ?_
   have d := l.last hlo rfl
   have f := m.last hlo rfl
   rw [qF hgb, hgb]
   have g : 2 = codeI (!winR (gOf ns)) (!winL (gOf ns)) := by
    rw [← d, ← f]
    revert o ae aj
    generalize c.getD _ false = p
    generalize a.getD _ false = q
    cases p <;> cases q <;> decide
   exact ⟨_, by rw [g], b⟩
  refine wp_skip ?_
  refine zZ ?_
  refine zA (zB (zC ?_))
  refine qM (vJ 4) ?_
  refine qM (.bool true) ?_
  refine qe (zA ?_)
  refine wp_ret ?_
  refine zP ?_
  refine xV (v := (vJ 4)) (u := (.bool true)) rfl rfl rfl rfl rfl ?_
  have d := l.last hlo rfl
  have f := m.last hlo rfl
  rw [qF hgb, hgb]
  have g : 4 = codeI (!winR (gOf ns)) (!winL (gOf ns)) := by
   rw [← d, ← f]
   revert o ae aj
   generalize c.getD _ false = p
   generalize a.getD _ false = q
   cases p <;> cases q <;> decide
  exact ⟨_, by rw [g], b⟩
 refine zB (zC ?_)
 refine qM (vJ 0) ?_
 refine qM (.bool false) ?_
 refine qe (zA ?_)
 refine wp_ret ?_
 refine zP ?_
 refine xV (v := (vJ 0)) (u := (.bool false)) rfl rfl rfl rfl rfl ?_
 rw [oc_no ac, ac]
 exact ⟨_, rfl, ab⟩

theorem iWinsMoving_spec {w : World} {G : Pin} {v : Value} {ns : List Nd} {lf : Bool} (hP : Pins G w) (hv : RSl eNode G v ns) :
  Calls Tryd.prog 18 [(.agg [v].toArray), (.bool lf)].toArray w fun e w' => ∃ G', e = .returned (.tuple #[.bool (wmB ns lf), .bool (goodB ns)]) ∧ Ext noS G w G' w' := by
 refine zV (n := 30) Tryd.func18 Tryd.ntmps18 rfl rfl ?_
 have i : Ext noS G w G w := Ext.refl hP
 refine zB (zC ?_)
 refine qI rfl (qA [v] (v := (.agg [v].toArray)) rfl rfl i.pins (fun b1 w2 ai ab ac ad => ?_))
 have ae := i.step ac ad
 have af : w.heap.size ≤ b1 := by have := i.size; omega
 obtain ⟨G9, x, l, y, ak⟩ := ab.shut ae af
 refine qM (.bool false) ?_
 refine qM (.bool false) ?_
 refine qe (zA (zB (zB (zC ?_))))
 refine qD rfl (yB (cs := [v]) ag26 sz26 rfl (fun j u hj => l.pins _ _ _ (y _ _ (by simpa using hj)))) ?_
 refine qI rfl (zL (vs := [(.agg [v].toArray)]) Tryd.func25 nm25 rfl rfl rfl ?_)
 refine Calls.mono (goodForm_spec l.pins (hv.mono x)) ?_
 rintro _ al ⟨am, rfl, m⟩
 refine ⟨_, rfl, ?_⟩
 have f := l.tr m
 refine qD rfl (xW rfl) ?_
 refine qe (zA ?_)
 refine c_ifn rfl rfl (fun g => ?_) (fun g => ?_)
 ·skip
  refine wp_skip ?_
  refine zA (zB (zC ?_))
  have hgb : goodB ns = true := g
  have hg := goodB_true.1 hgb
  have hlo := hg.lo
  have hhi := hg.hi
  refine qD rfl (zN (k := 0) rfl Tryd.underlying26 rfl nz24 rfl) ?_
  refine qD rfl (zQ (u := v) ag24 rfl ((Pins.of_le f.pins m.le) _ _ _ (y 0 _ rfl))) ?_
  refine qI rfl (zL (vs := [v]) Tryd.func32 nm32 rfl rfl rfl ?_)
  refine Calls.mono (wins_spec f.pins (hv.mono (Pin.le_trans x m.le)) hg) ?_
  rintro _ an ⟨a, b, c, d, ao, rfl, o, p, q, s, ag⟩
  refine ⟨_, rfl, ?_⟩
  have h := f.tr ag
  have ap := q.len
  have aq := s.len
  refine qM (.tuple #[a, b]) ?_
  refine qD rfl (xC (v := a) rfl rfl) ?_
  refine qD rfl (xC (v := b) rfl rfl) ?_
  refine qM a ?_
  refine qM b ?_
  refine qe (zA (zB (zB (zC ?_))))
  refine qM (.bool lf) ?_
  refine qe (zA ?_)
  refine c_if rfl rfl (fun t => ?_) (fun t => ?_)
  ·skip
   refine zB (zC ?_)
   refine qM a ?_
   refine qM a ?_
   refine qD rfl (zO Tryd.underlying55 (v := a) rfl o) ?_
   refine qD rfl (xZ rfl rfl (by omega)) ?_
   refine qD rfl (zH Tryd.underlying55 sz4 (v := a) rfl rfl o (by omega) (by omega)) ?_
   refine qD rfl (yF (r := c.getD ((c.length : Int) - 1).toNat false) rfl ag4 (z := ((c.length : Int) - 1)) rfl o h.pins (by omega) (by omega)) ?_
   refine qM (.bool (c.getD ((c.length : Int) - 1).toNat false)) ?_
   refine qM (.bool true) ?_
   refine qe (zA ?_)
   refine wp_ret ?_
   refine zP ?_
   refine xV (v := (.bool (c.getD ((c.length : Int) - 1).toNat false))) (u := (.bool true)) rfl rfl rfl rfl rfl ?_
   rw [t, wm_l hgb, hgb, ← q.last hlo (z := (ns.length : Int) - 1) rfl]
   exact ⟨_, by rw [q.len], h⟩
  refine wp_skip ?_
  refine zA (zB (zC ?_))
  refine qM b ?_
  refine qM b ?_
  refine qD rfl (zO Tryd.underlying55 (v := b) rfl p) ?_
  refine qD rfl (xZ rfl rfl (by omega)) ?_
  refine qD rfl (zH Tryd.underlying55 sz4 (v := b) rfl rfl p (by omega) (by omega)) ?_
  refine qD rfl (yF (r := d.getD ((d.length : Int) - 1).toNat false) rfl ag4 (z := ((d.length : Int) - 1)) rfl p h.pins (by omega) (by omega)) ?_
  refine qM (.bool (d.getD ((d.length : Int) - 1).toNat false)) ?_
  refine qM (.bool true) ?_
  refine qe (zA ?_)
  refine wp_ret ?_
  refine zP ?_
  refine xV (v := (.bool (d.getD ((d.length : Int) - 1).toNat false))) (u := (.bool true)) rfl rfl rfl rfl rfl ?_
  rw [t, wm_r hgb, hgb, ← s.last hlo (z := (ns.length : Int) - 1) rfl]
  exact ⟨_, by rw [s.len], h⟩
 refine zB (zC ?_)
 refine qM (.bool false) ?_
 refine qM (.bool false) ?_
 refine qe (zA ?_)
 refine wp_ret ?_
 refine zP ?_
 refine xV (v := (.bool false)) (u := (.bool false)) rfl rfl rfl rfl rfl ?_
 rw [wm_no g, g]
 exact ⟨_, rfl, f⟩

end WN3
end Go.Proofs.YtkfgdhanaijddaaDoor

set_option maxRecDepth 20000
set_option maxHeartbeats 2000000
namespace Go.Proofs.YtkfgdhanaijddaaDoor
namespace LWC
open Go.RowKit Go.GL Go.Proofs
open Go.Proofs.YtkfgdhanaijddaaDoor.B1
open Go.Proofs.YtkfgdhanaijddaaDoor.C1
open Go.Proofs.YtkfgdhanaijddaaDoor.D1
open Go.Proofs.YtkfgdhanaijddaaDoor.E1
open Go.Proofs.YtkfgdhanaijddaaDoor.K1
open Go.Proofs.YtkfgdhanaijddaaDoor.PO1
open Go.Proofs.YtkfgdhanaijddaaDoor.PL1
open Go.Proofs.YtkfgdhanaijddaaDoor.PF1
open Go.Proofs.YtkfgdhanaijddaaDoor.SF1
open Go.Proofs.YtkfgdhanaijddaaDoor.DR1
open Go.Proofs.YtkfgdhanaijddaaDoor.DR2
open Go.Proofs.YtkfgdhanaijddaaDoor.DV1
open Go.Proofs.YtkfgdhanaijddaaDoor.DV2
open Go.Proofs.YtkfgdhanaijddaaDoor.WN1
open Go.Proofs.YtkfgdhanaijddaaDoor.WN2
open Go.Proofs.YtkfgdhanaijddaaDoor.WN3










theorem law {w : World} {G : Pin} {v : Value} {code : List UInt8} (hP : Pins G w) (hc : RSl eByte G v code) :
  Calls Tryd.prog 4 [v].toArray w fun e w' => ∃ G', e = .returned (.bool true) ∧ Ext noS G w G' w' := by
 refine zV (n := 79) Tryd.func4 Tryd.ntmps4 rfl rfl ?_
 have au : Ext noS G w G w := Ext.refl hP
 have hm := hc.max
 refine zB (zC ?_)
 refine qM (.bool false) ?_
 refine qe (zA (zB (zB (zC ?_))))
 refine qM v ?_
 refine qI rfl (zL (vs := [v]) Tryd.func6 nm6 rfl rfl rfl ?_)
 refine Calls.mono (vBig_spec au.pins hc) ?_
 rintro _ w1 ⟨rfl, av⟩
 refine ⟨_, rfl, ?_⟩
 have ag := au.step av.pins av.below
 refine qe (zA ?_)
 refine yA (p := ((65536 : Int) < (code.length : Int))) rfl rfl (fun h4 => ?_) (fun h4 => ?_)
 ·skip
  refine zB (zC ?_)
  refine qM (.bool true) ?_
  refine qe (zA ?_)
  refine wp_ret ?_
  refine zP ?_
  refine zM (v := (.bool true)) rfl rfl rfl ?_
  exact ⟨_, rfl, ag⟩
 refine wp_skip ?_
 refine zA (zB (zC ?_))
 refine qM v ?_
 refine qI rfl (zL (vs := [v]) Tryd.func13 nm13 rfl rfl rfl ?_)
 refine Calls.mono (drOutcomeOf_spec ag.pins hc) ?_
 rintro _ w6 ⟨c, a, G5, rfl, x, a1⟩
 refine ⟨_, rfl, ?_⟩
 have ah := ag.tr a1
 have bi := x.max
 refine qI rfl (yX [(.slice none 0 0)] zr26 rfl ah.pins (fun a2 bj bk a3 a4 a5 => ?_))
 have aw := ah.step a4 a5
 have ax : w.heap.size ≤ a2 := by have := ah.size; omega
 refine q0 rfl rfl rfl (xD (cs' := [c]) (us := [c]) (v := (.agg [c].toArray)) sz26 rfl rfl rfl (yP x.one) aw.pins a3 (Nat.le_of_ble_eq_true rfl) rfl (fun bl a6 a7 a8 bm => ?_))
 have a9 := aw.write a7 a8 ((yM ax))
 obtain ⟨bn, ac, ai, ad, bo⟩ := a6.shut a9 ax
 refine qe (zA (zB (zC ?_)))
 refine qD rfl (yB (cs := [c]) ag26 sz26 rfl (fun j u hj => ai.pins _ _ _ (ad _ _ (by simpa using hj)))) ?_
 refine qI rfl (zL (vs := [(.agg [c].toArray)]) Tryd.func14 nm14 rfl rfl rfl ?_)
 refine Calls.mono (iOutcomeOf_spec ai.pins (x.mono ac)) ?_
 rintro _ bp ⟨bq, rfl, o⟩
 refine ⟨_, rfl, ?_⟩
 have aj := ai.tr o
 refine qM (.tuple #[(vJ (ocI a)), (.bool (goodB a))]) ?_
 refine qD rfl (xC (v := (vJ (ocI a))) rfl rfl) ?_
 refine qD rfl (xC (v := (.bool (goodB a))) rfl rfl) ?_
 refine qM (vJ (ocI a)) ?_
 refine qM (.bool (goodB a)) ?_
 refine qe (zA (zB (zC ?_)))
 refine qD rfl (yB (cs := [c]) ag26 sz26 rfl (fun j u hj => (Pins.of_le aj.pins o.le) _ _ _ (ad _ _ (by simpa using hj)))) ?_
 refine qI rfl (zL (vs := [(.agg [c].toArray)]) Tryd.func15 nm15 rfl rfl rfl ?_)
 refine Calls.mono (sOutcomeOf_spec aj.pins (x.mono (Pin.le_trans ac o.le))) ?_
 rintro _ ak ⟨ba, rfl, y⟩
 refine ⟨_, rfl, ?_⟩
 have al := aj.tr y
 refine qM (.tuple #[(vJ (ocI a)), (.bool (goodB a))]) ?_
 refine qD rfl (xC (v := (vJ (ocI a))) rfl rfl) ?_
 refine qD rfl (xC (v := (.bool (goodB a))) rfl rfl) ?_
 refine qM (vJ (ocI a)) ?_
 refine qM (.bool (goodB a)) ?_
 refine qe (zA (zB (zB (zC ?_))))
 refine qM (vJ (ocI a)) ?_
 refine qM (vJ (ocI a)) ?_
 refine qD rfl (r_neq rfl rfl) ?_
 refine qM (.bool (decide ((ocI a : Int) ≠ (ocI a)))) ?_
 refine qbd (p := (ocI a : Int) ≠ (ocI a)) (t := 31) rfl (fun ay => ?_) (fun ay => ?_)
 ·skip
  refine qW ?_
  refine qW ?_
  refine qW ?_
  refine qD rfl (yT (v := (.bool true)) rfl rfl) ?_
  refine qe (zA ?_)
  refine c_ifT rfl rfl ?_
  refine zB (zC ?_)
  refine qM (.bool false) ?_
  refine qe (zA ?_)
  refine wp_ret ?_
  refine zP ?_
  refine zM (v := (.bool false)) rfl rfl rfl ?_
  exact absurd rfl ay
 refine qN (zR (v := (.bool (goodB a))) rfl) ?_
 refine qN (zR (v := (.bool (goodB a))) rfl) ?_
 refine qN (r_neqB_same Tryd.underlying4 rfl rfl) ?_
 refine qD rfl (yO (v := (.bool false)) rfl rfl) ?_
 refine qe (zA ?_)
 refine qR rfl rfl ?_
 refine wp_skip ?_
 refine zA (zB (zB (zC ?_)))
 refine qM (.bool (goodB a)) ?_
 refine qD rfl (xW rfl) ?_
 refine qe (zA ?_)
 refine c_ifn rfl rfl (fun b => ?_) (fun b => ?_)
 ·skip
  refine wp_skip ?_
  refine zA (zB ?_)
  refine xE (S := fun wz => Pins ba wz) (last := 8) (by kernel_rfl) rfl ?_
  have az : Below ak.heap.size ak ak.drew := (Below.refl _ _).drew
  have bb := al.pins.below az
  have am := al.step bb az
  refine dT (i := 0) rfl rfl (by kernel_rfl) (fun _ hS => yB (cs := [c]) ag26 sz26 rfl (fun j u hj => (Pins.of_le hS (Pin.le_trans o.le y.le)) _ _ _ (ad _ _ (by simpa using hj)))) am.pins ?_
  refine dO (i := 1) (zS (i := 1) rfl rfl rfl (zD rfl _) (zL (vs := []) Tryd.func17 nm17 rfl rfl rfl ?_))
  refine Calls.mono (vZero_spec am.pins ) ?_
  rintro _ br ⟨bc, bs, rfl, bd, d⟩
  refine ⟨_, rfl, ?_⟩
  have an := am.tr d
  refine ⟨fun _ => (Pins.of_le an.pins d.le), ?_⟩
  refine dO (i := 2) (zS (i := 2) rfl rfl rfl (zD rfl _) (zL (vs := [(.agg [c].toArray), (.agg [bc].toArray)]) Tryd.func16 nm16 rfl rfl rfl ?_))
  refine Calls.mono (iCompareForms_spec an.pins (x.mono (Pin.le_trans (Pin.le_trans (Pin.le_trans ac o.le) y.le) d.le)) bd) ?_
  rintro _ bt ⟨bu, rfl, m⟩
  refine ⟨_, rfl, ?_⟩
  have r := an.tr m
  refine ⟨fun _ => (Pins.of_le r.pins (Pin.le_trans d.le m.le)), ?_⟩
  refine dM 3 (.tuple #[(vJ (cfI a zF)), (.bool (goodB a && goodB zF))]) (Pins.of_le r.pins (Pin.le_trans d.le m.le)) ?_
  refine dT (i := 4) rfl rfl (by kernel_rfl) (fun _ _ => xC (v := (vJ (cfI a zF))) rfl rfl) (Pins.of_le r.pins (Pin.le_trans d.le m.le)) ?_
  refine dT (i := 5) rfl rfl (by kernel_rfl) (fun _ _ => xC (v := (.bool (goodB a && goodB zF))) rfl rfl) (Pins.of_le r.pins (Pin.le_trans d.le m.le)) ?_
  refine dM 6 (vJ (cfI a zF)) (Pins.of_le r.pins (Pin.le_trans d.le m.le)) ?_
  refine dM 7 (.bool (goodB a && goodB zF)) (Pins.of_le r.pins (Pin.le_trans d.le m.le)) ?_
  refine yE (by kernel_rfl) ?_
  refine zA (zB (zC ?_))
  refine qD rfl (yB (cs := [c]) ag26 sz26 rfl (fun j u hj => (Pins.of_le r.pins (Pin.le_trans (Pin.le_trans (Pin.le_trans o.le y.le) d.le) m.le)) _ _ _ (ad _ _ (by simpa using hj)))) ?_
  refine qI rfl (zL (vs := [(.agg [c].toArray), (.bool true)]) Tryd.func18 nm18 rfl rfl rfl ?_)
  refine Calls.mono (iWinsMoving_spec r.pins (x.mono (Pin.le_trans (Pin.le_trans (Pin.le_trans (Pin.le_trans ac o.le) y.le) d.le) m.le))) ?_
  rintro _ bv ⟨bw, rfl, ao⟩
  refine ⟨_, rfl, ?_⟩
  have ap := r.tr ao
  refine qM (.tuple #[(.bool (wmB a true)), (.bool (goodB a))]) ?_
  refine qD rfl (xC (v := (.bool (wmB a true))) rfl rfl) ?_
  refine qD rfl (xC (v := (.bool (goodB a))) rfl rfl) ?_
  refine qM (.bool (wmB a true)) ?_
  refine qM (.bool (goodB a)) ?_
  refine qe (zA (zB (zC ?_)))
  refine qD rfl (yB (cs := [c]) ag26 sz26 rfl (fun j u hj => (Pins.of_le ap.pins (Pin.le_trans (Pin.le_trans (Pin.le_trans (Pin.le_trans o.le y.le) d.le) m.le) ao.le)) _ _ _ (ad _ _ (by simpa using hj)))) ?_
  refine qI rfl (zL (vs := [(.agg [c].toArray), (.bool false)]) Tryd.func18 nm18 rfl rfl rfl ?_)
  refine Calls.mono (iWinsMoving_spec ap.pins (x.mono (Pin.le_trans (Pin.le_trans (Pin.le_trans (Pin.le_trans (Pin.le_trans ac o.le) y.le) d.le) m.le) ao.le))) ?_
  rintro _ bx ⟨bz, rfl, be⟩
  refine ⟨_, rfl, ?_⟩
  have aa := ap.tr be
  refine qM (.tuple #[(.bool (wmB a false)), (.bool (goodB a))]) ?_
  refine qD rfl (xC (v := (.bool (wmB a false))) rfl rfl) ?_
  refine qD rfl (xC (v := (.bool (goodB a))) rfl rfl) ?_
  refine qM (.bool (wmB a false)) ?_
  refine qM (.bool (goodB a)) ?_
  refine qe (zA (zB (zC ?_)))
  refine qM (vJ (cfI a zF)) ?_
  refine qM (vJ (ocI a)) ?_
  refine qD rfl (r_eql rfl rfl) ?_
  refine qM (.bool (decide ((cfI a zF : Int) = (ocI a)))) ?_
  refine qbd (p := (cfI a zF : Int) = (ocI a)) (t := 59) rfl (fun s => ?_) (fun s => ?_)
  ·skip
   refine qN (zR (v := (.bool (wmB a true))) rfl) ?_
   refine qN (zR (v := (vJ (ocI a))) rfl) ?_
   refine qN (r_eql rfl rfl) ?_
   refine qN (zR (v := (.bool (decide ((ocI a : Int) = 1)))) rfl) ?_
   refine qbd (p := (ocI a : Int) = 1) (t := 63) rfl (fun ab => ?_) (fun ab => ?_)
   ·skip
    refine qW ?_
    refine qW ?_
    refine qN (yT (v := (.bool true)) rfl rfl) ?_
    refine qN (r_eqlB Tryd.underlying4 rfl rfl) ?_
    refine qD rfl (yT (v := (.bool ((wmB a true) == true))) rfl rfl) ?_
    refine qM (.bool ((wmB a true) == true)) ?_
    refine qb (t := 69) rfl (fun ae => ?_) (fun ae => ?_)
    ·skip
     refine qN (zR (v := (.bool (wmB a false))) rfl) ?_
     refine qN (zR (v := (vJ (ocI a))) rfl) ?_
     refine qN (r_eql rfl rfl) ?_
     refine qN (zR (v := (.bool (decide ((ocI a : Int) = 2)))) rfl) ?_
     refine qbd (p := (ocI a : Int) = 2) (t := 73) rfl (fun aq => ?_) (fun aq => ?_)
     ·skip
      refine qW ?_
      refine qW ?_
      refine qN (yT (v := (.bool true)) rfl rfl) ?_
      refine qN (r_eqlB Tryd.underlying4 rfl rfl) ?_
      refine qD rfl (yT (v := (.bool ((wmB a false) == true))) rfl rfl) ?_
      refine qM (.bool ((wmB a false) == true)) ?_
      refine qe (zA ?_)
      refine wp_ret ?_
      refine zP ?_
      refine zM (v := (.bool ((wmB a false) == true))) rfl rfl rfl ?_
      have hgn := goodB_true.1 b
      have f := oc_law hgn goodP_zF zero_g
      have g := qF b
      have h := wm_l b
      have k := wm_r b
      have l : ((wmB a false) == true) = true := by
       revert s ab ae aq
       try rw [f]
       try rw [g]
       try rw [h]
       try rw [k]
       generalize winL (gOf a) = p
       generalize winR (gOf a) = q
       cases p <;> cases q <;> decide
      exact ⟨_, congrArg (fun z => Ending.returned (Value.bool z)) l, aa⟩
     refine qN (zR (v := (vJ (ocI a))) rfl) ?_
     refine qN (r_eql rfl rfl) ?_
     refine qN (yO (v := (.bool (decide ((ocI a : Int) = 3)))) rfl rfl) ?_
     refine qN (r_eqlB Tryd.underlying4 rfl rfl) ?_
     refine qD rfl (yT (v := (.bool ((wmB a false) == (decide ((ocI a : Int) = 3))))) rfl rfl) ?_
     refine qM (.bool ((wmB a false) == (decide ((ocI a : Int) = 3)))) ?_
     refine qe (zA ?_)
     refine wp_ret ?_
     refine zP ?_
     refine zM (v := (.bool ((wmB a false) == (decide ((ocI a : Int) = 3))))) rfl rfl rfl ?_
     have hgn := goodB_true.1 b
     have f := oc_law hgn goodP_zF zero_g
     have g := qF b
     have h := wm_l b
     have k := wm_r b
     have l : ((wmB a false) == (decide ((ocI a : Int) = 3))) = true := by
      revert s ab ae aq
      try rw [f]
      try rw [g]
      try rw [h]
      try rw [k]
      generalize winL (gOf a) = p
      generalize winR (gOf a) = q
      cases p <;> cases q <;> decide
     exact ⟨_, congrArg (fun z => Ending.returned (Value.bool z)) l, aa⟩
    refine qW ?_
    refine qW ?_
    refine qW ?_
    refine qW ?_
    refine qX ?_
    refine qX ?_
    refine qW ?_
    refine qW ?_
    refine qD rfl (yO (v := (.bool false)) rfl rfl) ?_
    refine qM (.bool false) ?_
    refine qe (zA ?_)
    refine wp_ret ?_
    refine zP ?_
    refine zM (v := (.bool false)) rfl rfl rfl ?_
    have hgn := goodB_true.1 b
    have f := oc_law hgn goodP_zF zero_g
    have g := qF b
    have h := wm_l b
    have k := wm_r b
    have l : (false) = true := by
     revert s ab ae
     try rw [f]
     try rw [g]
     try rw [h]
     try rw [k]
     generalize winL (gOf a) = p
     generalize winR (gOf a) = q
     cases p <;> cases q <;> decide
    exact ⟨_, congrArg (fun z => Ending.returned (Value.bool z)) l, aa⟩
   refine qN (zR (v := (vJ (ocI a))) rfl) ?_
   refine qN (r_eql rfl rfl) ?_
   refine qN (yO (v := (.bool (decide ((ocI a : Int) = 3)))) rfl rfl) ?_
   refine qN (r_eqlB Tryd.underlying4 rfl rfl) ?_
   refine qD rfl (yT (v := (.bool ((wmB a true) == (decide ((ocI a : Int) = 3))))) rfl rfl) ?_
   refine qM (.bool ((wmB a true) == (decide ((ocI a : Int) = 3)))) ?_
   refine qb (t := 69) rfl (fun af => ?_) (fun af => ?_)
   ·skip
    refine qN (zR (v := (.bool (wmB a false))) rfl) ?_
    refine qN (zR (v := (vJ (ocI a))) rfl) ?_
    refine qN (r_eql rfl rfl) ?_
    refine qN (zR (v := (.bool (decide ((ocI a : Int) = 2)))) rfl) ?_
    refine qbd (p := (ocI a : Int) = 2) (t := 73) rfl (fun ar => ?_) (fun ar => ?_)
    ·skip
     refine qW ?_
     refine qW ?_
     refine qN (yT (v := (.bool true)) rfl rfl) ?_
     refine qN (r_eqlB Tryd.underlying4 rfl rfl) ?_
     refine qD rfl (yT (v := (.bool ((wmB a false) == true))) rfl rfl) ?_
     refine qM (.bool ((wmB a false) == true)) ?_
     refine qe (zA ?_)
     refine wp_ret ?_
     refine zP ?_
     refine zM (v := (.bool ((wmB a false) == true))) rfl rfl rfl ?_
     have hgn := goodB_true.1 b
     have f := oc_law hgn goodP_zF zero_g
     have g := qF b
     have h := wm_l b
     have k := wm_r b
     have l : ((wmB a false) == true) = true := by
      revert s ab af ar
      try rw [f]
      try rw [g]
      try rw [h]
      try rw [k]
      generalize winL (gOf a) = p
      generalize winR (gOf a) = q
      cases p <;> cases q <;> decide
     exact ⟨_, congrArg (fun z => Ending.returned (Value.bool z)) l, aa⟩
    refine qN (zR (v := (vJ (ocI a))) rfl) ?_
    refine qN (r_eql rfl rfl) ?_
    refine qN (yO (v := (.bool (decide ((ocI a : Int) = 3)))) rfl rfl) ?_
    refine qN (r_eqlB Tryd.underlying4 rfl rfl) ?_
    refine qD rfl (yT (v := (.bool ((wmB a false) == (decide ((ocI a : Int) = 3))))) rfl rfl) ?_
    refine qM (.bool ((wmB a false) == (decide ((ocI a : Int) = 3)))) ?_
    refine qe (zA ?_)
    refine wp_ret ?_
    refine zP ?_
    refine zM (v := (.bool ((wmB a false) == (decide ((ocI a : Int) = 3))))) rfl rfl rfl ?_
    have hgn := goodB_true.1 b
    have f := oc_law hgn goodP_zF zero_g
    have g := qF b
    have h := wm_l b
    have k := wm_r b
    have l : ((wmB a false) == (decide ((ocI a : Int) = 3))) = true := by
     revert s ab af ar
     try rw [f]
     try rw [g]
     try rw [h]
     try rw [k]
     generalize winL (gOf a) = p
     generalize winR (gOf a) = q
     cases p <;> cases q <;> decide
    exact ⟨_, congrArg (fun z => Ending.returned (Value.bool z)) l, aa⟩
   refine qW ?_
   refine qW ?_
   refine qW ?_
   refine qW ?_
   refine qX ?_
   refine qX ?_
   refine qW ?_
   refine qW ?_
   refine qD rfl (yO (v := (.bool false)) rfl rfl) ?_
   refine qM (.bool false) ?_
   refine qe (zA ?_)
   refine wp_ret ?_
   refine zP ?_
   refine zM (v := (.bool false)) rfl rfl rfl ?_
   have hgn := goodB_true.1 b
   have f := oc_law hgn goodP_zF zero_g
   have g := qF b
   have h := wm_l b
   have k := wm_r b
   have l : (false) = true := by
    revert s ab af
    try rw [f]
    try rw [g]
    try rw [h]
    try rw [k]
    generalize winL (gOf a) = p
    generalize winR (gOf a) = q
    cases p <;> cases q <;> decide
   exact ⟨_, congrArg (fun z => Ending.returned (Value.bool z)) l, aa⟩
  refine qW ?_
  refine qW ?_
  refine qW ?_
  refine qW ?_
  refine qX ?_
  refine qX ?_
  refine qW ?_
  refine qW ?_
  refine qD rfl (yO (v := (.bool false)) rfl rfl) ?_
  refine qM (.bool false) ?_
  refine qW ?_
  refine qW ?_
  refine qW ?_
  refine qW ?_
  refine qX ?_
  refine qX ?_
  refine qW ?_
  refine qW ?_
  refine qD rfl (yO (v := (.bool false)) rfl rfl) ?_
  refine qM (.bool false) ?_
  refine qe (zA ?_)
  refine wp_ret ?_
  refine zP ?_
  refine zM (v := (.bool false)) rfl rfl rfl ?_
  have hgn := goodB_true.1 b
  have f := oc_law hgn goodP_zF zero_g
  have g := qF b
  have h := wm_l b
  have k := wm_r b
  have l : (false) = true := by
   revert s
   try rw [f]
   try rw [g]
   try rw [h]
   try rw [k]
   generalize winL (gOf a) = p
   generalize winR (gOf a) = q
   cases p <;> cases q <;> decide
  exact ⟨_, congrArg (fun z => Ending.returned (Value.bool z)) l, aa⟩
 refine zB (zC ?_)
 refine qM (vJ (ocI a)) ?_
 refine qD rfl (r_eql rfl rfl) ?_
 refine qM (.bool (decide ((ocI a : Int) = 0))) ?_
 refine qe (zA ?_)
 refine wp_ret ?_
 refine zP ?_
 refine zM (v := (.bool (decide ((ocI a : Int) = 0)))) rfl rfl rfl ?_
 exact ⟨_, congrArg (fun z => Ending.returned (Value.bool z)) (decide_eq_true (oc_no b)), al⟩

end LWC
end Go.Proofs.YtkfgdhanaijddaaDoor
