/- Walks, printed by a program (walkgen.py) from the spec specs_sf. -/
import Derived.Test.YtndhhpaldhlghaaDoorChecked
import Derived.Test.YtndhhpaldhlghaaDoorRow
import Derived.Test.YtndhhpaldhlghaaDoorLoad
import Derived.Test.YtndhhpaldhlghaaDoorGoodB
import Derived.Test.YtndhhpaldhlghaaDoorB1
import Derived.Test.YtndhhpaldhlghaaDoorC1
import Derived.Test.YtndhhpaldhlghaaDoorD1
import Derived.Test.YtndhhpaldhlghaaDoorE1
import Derived.Test.YtndhhpaldhlghaaDoorOR1
set_option maxRecDepth 20000
set_option maxHeartbeats 2000000
namespace Go.Proofs.YtndhhpaldhlghaaDoor
namespace SF1
open Go.RowKit Go.GL Go.Proofs
open Go.Proofs.YtndhhpaldhlghaaDoor.B1
open Go.Proofs.YtndhhpaldhlghaaDoor.C1
open Go.Proofs.YtndhhpaldhlghaaDoor.D1
open Go.Proofs.YtndhhpaldhlghaaDoor.E1
open Go.Proofs.YtndhhpaldhlghaaDoor.OR1
theorem ag28 : (Tryd.prog.underlying 28).map aggD = some false := by kernel_rfl
theorem ag30 : (Tryd.prog.underlying 30).map aggD = some true := by kernel_rfl
theorem mk3 : (Tryd.prog.info? 3).map (fun i => (i.size, i.bytes, i.zero)) = some (1, 8, some (.int .i64 0)) := by kernel_rfl
theorem nm33 : (Tryd.f33.name == "runtime.NumGoroutine") = false := by kernel_rfl
theorem nm34 : (Tryd.f34.name == "runtime.NumGoroutine") = false := by kernel_rfl
theorem nm41 : (Tryd.f41.name == "runtime.NumGoroutine") = false := by kernel_rfl
theorem nm42 : (Tryd.f42.name == "runtime.NumGoroutine") = false := by kernel_rfl
theorem nm58 : (Tryd.f58.name == "runtime.NumGoroutine") = false := by kernel_rfl
theorem nm59 : (Tryd.f59.name == "runtime.NumGoroutine") = false := by kernel_rfl
theorem nm60 : (Tryd.f60.name == "runtime.NumGoroutine") = false := by kernel_rfl
theorem nz28 : (Tryd.prog.info? 28).map (·.size == 0) = some false := by kernel_rfl
theorem pl71 : (Tryd.prog.underlying 71).bind (placesD Tryd.prog) = some [(0, 1), (1, 1)] := by kernel_rfl
theorem pl74 : (Tryd.prog.underlying 74).bind (placesD Tryd.prog) = some [(0, 1), (1, 1)] := by kernel_rfl
theorem sz30 : (Tryd.prog.info? 30).map (·.size) = some 1 := by kernel_rfl
theorem zr71 : (Tryd.prog.info? 71).bind (·.zero) = some (.agg #[(.slice none 0 0), (.slice none 0 0)]) := by kernel_rfl
theorem zr74 : (Tryd.prog.info? 74).bind (·.zero) = some (.agg #[(.pointer none), (.slice none 0 0)]) := by kernel_rfl

theorem l4Of_spec {w : World} {G : Pin} {b : Nat} {bu bv : Value} {ns : List Nd} {bs : List Int} (hP : Pins G w) (hB : Bk 69 3 G w b bu bv ns bs) (hok : BookOk ns bs) :
    Calls Tryd.prog 59 [(.pointer (some ⟨b, 0, none⟩))].toArray w fun e w' => ∃ (o : Nat) (kv : Value) (G' : Pin), e = .returned (.pointer (some ⟨o, 0, none⟩)) ∧ Bx G' w' o [.pointer (some ⟨b, 0, none⟩), kv] ∧ Own eInt 3 G' w' w.heap.size kv (List.replicate (ns.length * ns.length) 0) ∧ w.heap.size ≤ o ∧ Apart (some o) kv.ownBlock ∧ Ext noS G w G' w' := by
  refine s_enter (n := 18) Tryd.func59 Tryd.ntmps59 rfl rfl ?_
  have hX0 : Ext noS G w G w := Ext.refl hP
  have hbx := hB.bx
  have hou := hB.ou
  have hov := hB.ov
  have habu := hB.abu
  have habv := hB.abv
  have hauv := hB.auv
  have hlen := hok.len
  have hlim := hok.lim
  have hsq := sq_bd hok.lim
  refine s_seq ?_
  refine c_reg ?_
  refine qd rfl rfl rfl (r_assign (v := (.pointer none)) rfl) ?_
  refine qe ?_
  refine s_then ?_
  refine s_seq ?_
  have hq1 := Gadd.pins hX0.pins bu
  have hr2 := hou.read
  refine c_draw (S := fun wz => BxR wz b [bu, bv] ∧ Pins (Gadd G w bu) wz) (last := 16) (by kernel_rfl) rfl ?_
  have hl3 : Below w.heap.size w w.drew := (Below.refl _ _).drew
  have hp4 := hX0.pins.below hl3
  have hX5 := hX0.step hp4 hl3
  have hb8 := hbx.below hl3
  have hq9 := hq1.below hl3
  refine dr_take (i := 0) rfl rfl rfl (want_none rfl _) (by kernel_rfl) (fun _ _ => r_move (v := (.pointer (some ⟨b, 0, none⟩))) rfl) ⟨hb8.reads, hq9⟩ ?_
  refine dr_take (i := 1) rfl rfl rfl (want_none rfl _) (by kernel_rfl) (fun _ _ => r_move (v := (.pointer (some ⟨b, 0, none⟩))) rfl) ⟨hb8.reads, hq9⟩ ?_
  refine dr_take (i := 2) rfl rfl rfl (want_none rfl _) (by kernel_rfl) (fun _ _ => r_nil rfl) ⟨hb8.reads, hq9⟩ ?_
  refine dr_take (i := 3) rfl rfl rfl (want_none rfl _) (by kernel_rfl) (fun _ _ => r_fldp (k := 0) rfl Tryd.underlying71 rfl nz28 rfl) ⟨hb8.reads, hq9⟩ ?_
  refine dr_take (i := 4) rfl rfl rfl (want_none rfl _) (by kernel_rfl) (fun _ hS => r_ldp1 (u := bu) ag28 rfl (hS.1 0 _ rfl)) ⟨hb8.reads, hq9⟩ ?_
  refine dr_take (i := 5) rfl rfl rfl (want_none rfl _) (by kernel_rfl) (fun _ _ => run_len Tryd.underlying28 (v := bu) rfl hr2) ⟨hb8.reads, hq9⟩ ?_
  refine dr_take (i := 6) rfl rfl rfl (want_none rfl _) (by kernel_rfl) (fun _ _ => r_move (v := (.pointer (some ⟨b, 0, none⟩))) rfl) ⟨hb8.reads, hq9⟩ ?_
  refine dr_take (i := 7) rfl rfl rfl (want_none rfl _) (by kernel_rfl) (fun _ _ => r_nil rfl) ⟨hb8.reads, hq9⟩ ?_
  refine dr_take (i := 8) rfl rfl rfl (want_none rfl _) (by kernel_rfl) (fun _ _ => r_fldp (k := 0) rfl Tryd.underlying71 rfl nz28 rfl) ⟨hb8.reads, hq9⟩ ?_
  refine dr_take (i := 9) rfl rfl rfl (want_none rfl _) (by kernel_rfl) (fun _ hS => r_ldp1 (u := bu) ag28 rfl (hS.1 0 _ rfl)) ⟨hb8.reads, hq9⟩ ?_
  refine dr_take (i := 10) rfl rfl rfl (want_none rfl _) (by kernel_rfl) (fun _ _ => run_len Tryd.underlying28 (v := bu) rfl hr2) ⟨hb8.reads, hq9⟩ ?_
  refine dr_take (i := 11) rfl rfl rfl (want_none rfl _) (by kernel_rfl) (fun _ _ => r_mul rfl rfl (by omega)) ⟨hb8.reads, hq9⟩ ?_
  refine dr_one (i := 12) (by kernel_rfl) (drOp1 (i := 12) rfl rfl rfl (want_none rfl _) (o_make (E := eInt) 0 8 (.int .i64 0) Tryd.underlying38 mk3 (fun _ => rfl) rfl rfl hX5.pins (by omega) (by omega) (by omega) (fun u10 w11 ho12 hp13 hl14 hk15 => ?_)))
  have hX16 := hX5.step hp13 hl14
  have hb19 := hb8.below hl14
  have ho23 : Own eInt 3 G w11 w.heap.size u10 (List.replicate ((ns.length : Int) * (ns.length : Int)).toNat 0) := ho12.weaken hX5.size
  have hm24 : (List.replicate ((ns.length : Int) * (ns.length : Int)).toNat 0).length = ((ns.length : Int) * (ns.length : Int)).toNat := List.length_replicate ..
  have hq25 := hq9.below hl14
  refine ⟨fun _ => ⟨hb19.reads, hq25⟩, ?_⟩
  refine dr_take (i := 13) rfl rfl rfl (want_none rfl _) (by kernel_rfl) (fun _ _ => r_build [(.pointer none), (.slice none 0 0)] [(.pointer (some ⟨b, 0, none⟩)), u10] [(0, (.pointer (some ⟨b, 0, none⟩)), [(.pointer (some ⟨b, 0, none⟩))]), (1, u10, [u10])] Tryd.underlying74 zr74 rfl pl74 rfl (List.forall_mem_cons.2 ⟨rfl, (List.forall_mem_cons.2 ⟨(cells_one ho23.one), (fun _ h => by cases h)⟩)⟩) rfl) ⟨hb19.reads, hq25⟩ ?_
  refine dr_one (i := 14) (by kernel_rfl) (drOp1 (i := 14) rfl rfl rfl (want_none rfl _) (o_box [(.pointer (some ⟨b, 0, none⟩)), u10] (v := (.agg [(.pointer (some ⟨b, 0, none⟩)), u10].toArray)) rfl rfl hX16.pins (fun b26 w27 hk28 hb29 hp30 hl31 => ?_)))
  have hX32 := hX16.step hp30 hl31
  have ho35 := ho23.below hl31
  have hb36 := hb19.below hl31
  have ha39 : Apart (some b26) u10.ownBlock := new_ne_own (congrArg some hk28) ho23.lt
  have hlo41 : w.heap.size ≤ b26 := by have := hX16.size; omega
  have hq42 := hq25.below hl31
  refine ⟨fun _ => ⟨hb36.reads, hq42⟩, ?_⟩
  refine dr_take (i := 15) rfl rfl rfl (want_none rfl _) (by kernel_rfl) (fun _ _ => r_assign (v := (.pointer (some ⟨b26, 0, none⟩))) rfl) ⟨hb36.reads, hq42⟩ ?_
  refine dr_end (by kernel_rfl) ?_
  refine s_then ?_
  refine wp_ret ?_
  refine s_ret ?_
  refine c_ret1 (v := (.pointer (some ⟨b26, 0, none⟩))) rfl rfl rfl ?_
  have hrow := ho35
  rw [sq_nat] at hrow
  exact ⟨_, _, _, rfl, hb29, hrow, hlo41, ha39, hX32⟩

theorem l4Geq_spec {w : World} {G : Pin} {u v : Value} {ax bs : List Nd} (hP : Pins G w) (hu : RSl eNode G u ax) (hv : RSl eNode G v bs) (ha : FormOk ax ∧ 1 ≤ ax.length) (hb : FormOk bs ∧ 1 ≤ bs.length) (hl : ax.length + bs.length ≤ 1048576) :
    Calls Tryd.prog 34 [(.agg [u].toArray), (.agg [v].toArray)].toArray w fun e w' => ∃ G', e = .returned (.bool (decP (geG (gOf ax) (gOf bs)))) ∧ Ext noS G w G' w' := by
  refine s_enter (n := 21) Tryd.func34 Tryd.ntmps34 rfl rfl ?_
  have hX0 : Ext noS G w G w := Ext.refl hP
  have h0 := addM_all book_empty ha.1 (by simp; omega)
  have hlen := h0.hi
  simp only [List.length_nil, Nat.zero_add] at hlen
  have h1 := addM_all h0.book hb.1 (by omega)
  have hl0 := root_lt h0 ha.2
  have hl1 := root_lt h1 hb.2
  have hlo1 := h1.lo
  have hge := ge_roots ha hb hl _ _ rfl rfl
  refine s_seq ?_
  refine c_reg ?_
  refine q1 rfl rfl rfl (o_box [u] (v := (.agg [u].toArray)) rfl rfl hX0.pins (fun b1 w2 hk3 hb4 hp5 hl6 => ?_))
  have hX7 := hX0.step hp5 hl6
  have hlo8 : w.heap.size ≤ b1 := by have := hX0.size; omega
  obtain ⟨G9, hle10, hX11, hbp12, hf13⟩ := hb4.shut hX7 hlo8
  refine q1 rfl rfl rfl (o_box [v] (v := (.agg [v].toArray)) rfl rfl hX11.pins (fun b14 w15 hk16 hb17 hp18 hl19 => ?_))
  have hX20 := hX11.step hp18 hl19
  have hlo21 : w.heap.size ≤ b14 := by have := hX11.size; omega
  obtain ⟨G22, hle23, hX24, hbp25, hf26⟩ := hb17.shut hX20 hlo21
  refine qd rfl rfl rfl (r_assign (v := (.bool false)) rfl) ?_
  refine qe ?_
  refine s_then ?_
  refine s_seq ?_
  refine c_reg ?_
  refine qd rfl rfl rfl (r_build [(.slice none 0 0), (.slice none 0 0)] [(.slice none 0 0), (.slice none 0 0)] [] Tryd.underlying71 zr71 rfl pl71 rfl (fun _ h => by cases h) rfl) ?_
  refine q1 rfl rfl rfl (o_box [(.slice none 0 0), (.slice none 0 0)] (v := (.agg [(.slice none 0 0), (.slice none 0 0)].toArray)) rfl rfl hX24.pins (fun b27 w28 hk29 hb30 hp31 hl32 => ?_))
  have hX33 := hX24.step hp31 hl32
  have hlo34 : w.heap.size ≤ b27 := by have := hX24.size; omega
  refine qd rfl rfl rfl (r_assign (v := (.pointer (some ⟨b27, 0, none⟩))) rfl) ?_
  refine qe ?_
  refine s_then ?_
  refine s_seq ?_
  refine c_reg ?_
  refine qd rfl rfl rfl (r_move (v := (.pointer (some ⟨b27, 0, none⟩))) rfl) ?_
  refine qd rfl rfl rfl (r_ldpA (cs := [u]) ag30 sz30 rfl (fun j u hj => (Pins.of_le hX33.pins hle23) _ _ _ (hbp12 _ _ (by simpa using hj)))) ?_
  refine q1 rfl rfl rfl (o_call (vs := [(.pointer (some ⟨b27, 0, none⟩)), (.agg [u].toArray)]) Tryd.func58 nm58 rfl rfl rfl ?_)
  refine Calls.mono (root_spec hX33.pins ⟨hb30, (Own.nil _ _ _ _ _), (Own.nil _ _ _ _ _), apart_none.symm, apart_none.symm, apart_none⟩ book_empty (hu.mono (Pin.le_trans hle10 hle23)) ha (by first | omega | (simp; omega))) ?_
  rintro _ w38 ⟨u35, v36, G37, rfl, hbk39, hx40, hlu41, hlv42⟩
  refine ⟨_, rfl, ?_⟩
  have hin45 : ∀ i, inS b27 (.slice none 0 0) (.slice none 0 0) i → w.heap.size ≤ i ∨ noS i := inS_lo (lo_box hlo34) (lo_none _ _) (lo_none _ _)
  have hX46 := hX33.trans hx40 hin45
  have hb47 := hbk39.bx
  have ho48 := hbk39.ou
  have ho49 := hbk39.ov
  have ha50 := hbk39.abu
  have ha51 := hbk39.abv
  have ha52 := hbk39.auv
  have hlo53 := lo_call hlu41 hin45 hX33.size
  have hlo54 := lo_call hlv42 hin45 hX33.size
  refine qd rfl rfl rfl (r_assign (v := (.int .i64 (rootM ([]) ([]) ax))) rfl) ?_
  refine qe ?_
  refine s_then ?_
  refine s_seq ?_
  refine c_reg ?_
  refine qd rfl rfl rfl (r_move (v := (.pointer (some ⟨b27, 0, none⟩))) rfl) ?_
  refine qd rfl rfl rfl (r_ldpA (cs := [v]) ag30 sz30 rfl (fun j u hj => (Pins.of_le hX46.pins hx40.le) _ _ _ (hbp25 _ _ (by simpa using hj)))) ?_
  refine q1 rfl rfl rfl (o_call (vs := [(.pointer (some ⟨b27, 0, none⟩)), (.agg [v].toArray)]) Tryd.func58 nm58 rfl rfl rfl ?_)
  refine Calls.mono (root_spec hX46.pins ⟨hb47, ho48, ho49, ha50, ha51, ha52⟩ h0.book (hv.mono (Pin.le_trans (Pin.le_trans hle10 hle23) hx40.le)) hb (by first | omega | (simp; omega))) ?_
  rintro _ w58 ⟨u55, v56, G57, rfl, hbk59, hx60, hlu61, hlv62⟩
  refine ⟨_, rfl, ?_⟩
  have hin65 : ∀ i, inS b27 u35 v36 i → w.heap.size ≤ i ∨ noS i := inS_lo (lo_box hlo34) hlo53 hlo54
  have hX66 := hX46.trans hx60 hin65
  have hb67 := hbk59.bx
  have ho68 := hbk59.ou
  have ho69 := hbk59.ov
  have ha70 := hbk59.abu
  have ha71 := hbk59.abv
  have ha72 := hbk59.auv
  have hlo73 := lo_call hlu61 hin65 hX46.size
  have hlo74 := lo_call hlv62 hin65 hX46.size
  refine qd rfl rfl rfl (r_assign (v := (.int .i64 (rootM ((addM ([]) ([]) ax).2.1) ((addM ([]) ([]) ax).2.2) bs))) rfl) ?_
  refine qe ?_
  refine s_then ?_
  refine s_seq ?_
  refine c_reg ?_
  refine qd rfl rfl rfl (r_move (v := (.pointer (some ⟨b27, 0, none⟩))) rfl) ?_
  refine q1 rfl rfl rfl (o_call (vs := [(.pointer (some ⟨b27, 0, none⟩))]) Tryd.func59 nm59 rfl rfl rfl ?_)
  refine Calls.mono (l4Of_spec hX66.pins ⟨hb67, ho68, ho69, ha70, ha71, ha72⟩ h1.book) ?_
  rintro _ w78 ⟨b75, u76, G77, rfl, hb79, ho80, hlo81, ha82, hx83⟩
  refine ⟨_, rfl, ?_⟩
  have hX84 := hX66.tr hx83
  have ho85 := ho68.ext hx83
  have ho86 := ho69.ext hx83
  have hb87 := hb67.ext hx83
  have ha88 : Apart u76.ownBlock u55.ownBlock := made_ne_own ho80.lt ho68.lt
  have ha90 : Apart u76.ownBlock v56.ownBlock := made_ne_own ho80.lt ho69.lt
  have ha92 : Apart u76.ownBlock (some b27) := made_ne_box ho80.lt hb67.lt
  have hlo94 := Nat.le_trans hX66.size hlo81
  have ho95 := ho80.weaken hX66.size
  refine qd rfl rfl rfl (r_move (v := (.int .i64 (rootM ([]) ([]) ax))) rfl) ?_
  refine qd rfl rfl rfl (r_move (v := (.int .i64 (rootM ((addM ([]) ([]) ax).2.1) ((addM ([]) ([]) ax).2.2) bs))) rfl) ?_
  refine q1 rfl rfl rfl (o_call (vs := [(.pointer (some ⟨b75, 0, none⟩)), (.int .i64 (rootM ([]) ([]) ax)), (.int .i64 (rootM ((addM ([]) ([]) ax).2.1) ((addM ([]) ([]) ax).2.2) bs))]) Tryd.func60 nm60 rfl rfl rfl ?_)
  refine Calls.mono (geq_spec hX84.pins ⟨⟨hb87, ho85, ho86, ha70, ha71, ha72⟩, hb79, (ho95.weaken (Nat.zero_le _)), ha82, ha92.symm, ha88.symm, ha90.symm⟩ ⟨hl0.1, by omega⟩ hl1 (by simp) h1.book KOk.zero) ?_
  rintro _ w98 ⟨ks96, G97, rfl, hd99, hr100, hx101⟩
  refine ⟨_, rfl, ?_⟩
  have hX102 := hX84.trans hx101 (fun i hi => (lo_own ho95) i hi)
  have hlo107 : Lo w (noS) u76.ownBlock := (lo_own ho95)
  have hkl108 := hr100.len
  refine qd rfl rfl rfl (r_assign (v := (.bool (geB ((addM ((addM ([]) ([]) ax).2.1) ((addM ([]) ([]) ax).2.2) bs).2.1) (rootM ([]) ([]) ax) (rootM ((addM ([]) ([]) ax).2.1) ((addM ([]) ([]) ax).2.2) bs)))) rfl) ?_
  refine qe ?_
  refine s_then ?_
  refine wp_ret ?_
  refine s_ret ?_
  refine c_ret1 (v := (.bool (geB ((addM ((addM ([]) ([]) ax).2.1) ((addM ([]) ([]) ax).2.2) bs).2.1) (rootM ([]) ([]) ax) (rootM ((addM ([]) ([]) ax).2.1) ((addM ([]) ([]) ax).2.2) bs)))) rfl rfl rfl ?_
  exact ⟨_, congrArg (fun z => Ending.returned (Value.bool z)) hge.1, hX102⟩

theorem l4Equal_spec {w : World} {G : Pin} {u v : Value} {ax bs : List Nd} (hP : Pins G w) (hu : RSl eNode G u ax) (hv : RSl eNode G v bs) (ha : FormOk ax ∧ 1 ≤ ax.length) (hb : FormOk bs ∧ 1 ≤ bs.length) (hl : ax.length + bs.length ≤ 1048576) :
    Calls Tryd.prog 41 [(.agg [u].toArray), (.agg [v].toArray)].toArray w fun e w' => ∃ G', e = .returned (.bool (decP (eqG (gOf ax) (gOf bs)))) ∧ Ext noS G w G' w' := by
  refine s_enter (n := 13) Tryd.func41 Tryd.ntmps41 rfl rfl ?_
  have hX0 : Ext noS G w G w := Ext.refl hP
  refine s_seq ?_
  refine c_reg ?_
  refine q1 rfl rfl rfl (o_box [u] (v := (.agg [u].toArray)) rfl rfl hX0.pins (fun b1 w2 hk3 hb4 hp5 hl6 => ?_))
  have hX7 := hX0.step hp5 hl6
  have hlo8 : w.heap.size ≤ b1 := by have := hX0.size; omega
  obtain ⟨G9, hle10, hX11, hbp12, hf13⟩ := hb4.shut hX7 hlo8
  refine q1 rfl rfl rfl (o_box [v] (v := (.agg [v].toArray)) rfl rfl hX11.pins (fun b14 w15 hk16 hb17 hp18 hl19 => ?_))
  have hX20 := hX11.step hp18 hl19
  have hlo21 : w.heap.size ≤ b14 := by have := hX11.size; omega
  obtain ⟨G22, hle23, hX24, hbp25, hf26⟩ := hb17.shut hX20 hlo21
  refine qd rfl rfl rfl (r_assign (v := (.bool false)) rfl) ?_
  refine qe ?_
  refine s_then ?_
  refine s_seq ?_
  refine c_reg ?_
  refine qd rfl rfl rfl (r_ldpA (cs := [u]) ag30 sz30 rfl (fun j u hj => (Pins.of_le hX24.pins hle23) _ _ _ (hbp12 _ _ (by simpa using hj)))) ?_
  refine qd rfl rfl rfl (r_ldpA (cs := [v]) ag30 sz30 rfl (fun j u hj => hX24.pins _ _ _ (hbp25 _ _ (by simpa using hj)))) ?_
  refine q1 rfl rfl rfl (o_call (vs := [(.agg [u].toArray), (.agg [v].toArray)]) Tryd.func34 nm34 rfl rfl rfl ?_)
  refine Calls.mono (l4Geq_spec hX24.pins (hu.mono (Pin.le_trans hle10 hle23)) (hv.mono (Pin.le_trans hle10 hle23)) ha hb hl) ?_
  rintro _ w28 ⟨G27, rfl, hx29⟩
  refine ⟨_, rfl, ?_⟩
  have hX30 := hX24.tr hx29
  refine qd rfl rfl rfl (r_move (v := (.bool (decP (geG (gOf ax) (gOf bs))))) rfl) ?_
  refine qb (t := 8) rfl (fun h31 => ?_) (fun h31 => ?_)
  · skip
    refine qdg rfl rfl rfl rfl rfl rfl (r_ldpA (cs := [v]) ag30 sz30 rfl (fun j u hj => (Pins.of_le hX30.pins hx29.le) _ _ _ (hbp25 _ _ (by simpa using hj)))) ?_
    refine qdg rfl rfl rfl rfl rfl rfl (r_ldpA (cs := [u]) ag30 sz30 rfl (fun j u hj => (Pins.of_le hX30.pins (Pin.le_trans hle23 hx29.le)) _ _ _ (hbp12 _ _ (by simpa using hj)))) ?_
    refine q1g rfl rfl rfl rfl rfl rfl (o_call (vs := [(.agg [v].toArray), (.agg [u].toArray)]) Tryd.func34 nm34 rfl rfl rfl ?_)
    refine Calls.mono (l4Geq_spec hX30.pins (hv.mono (Pin.le_trans (Pin.le_trans hle10 hle23) hx29.le)) (hu.mono (Pin.le_trans (Pin.le_trans hle10 hle23) hx29.le)) hb ha (by omega)) ?_
    rintro _ w33 ⟨G32, rfl, hx34⟩
    refine ⟨_, rfl, ?_⟩
    have hX35 := hX30.tr hx34
    refine qd rfl rfl rfl (r_pickT (v := (.bool (decP (geG (gOf bs) (gOf ax))))) rfl rfl) ?_
    refine qd rfl rfl rfl (r_assign (v := (.bool (decP (geG (gOf bs) (gOf ax))))) rfl) ?_
    refine qe ?_
    refine s_then ?_
    refine wp_ret ?_
    refine s_ret ?_
    refine c_ret1 (v := (.bool (decP (geG (gOf bs) (gOf ax))))) rfl rfl rfl ?_
    exact ⟨_, congrArg (fun z => Ending.returned (Value.bool z)) (by rw [show decP (eqG (gOf ax) (gOf bs)) = (decP (geG (gOf ax) (gOf bs)) && decP (geG (gOf bs) (gOf ax))) from decP_and]; simp [h31]), hX35⟩
  refine qs rfl rfl rfl rfl rfl rfl ?_
  refine qs rfl rfl rfl rfl rfl rfl ?_
  refine qs rfl rfl rfl rfl rfl rfl ?_
  refine qd rfl rfl rfl (r_pickF (v := (.bool false)) rfl rfl) ?_
  refine qd rfl rfl rfl (r_assign (v := (.bool false)) rfl) ?_
  refine qe ?_
  refine s_then ?_
  refine wp_ret ?_
  refine s_ret ?_
  refine c_ret1 (v := (.bool false)) rfl rfl rfl ?_
  exact ⟨_, congrArg (fun z => Ending.returned (Value.bool z)) (by rw [show decP (eqG (gOf ax) (gOf bs)) = (decP (geG (gOf ax) (gOf bs)) && decP (geG (gOf bs) (gOf ax))) from decP_and]; simp [h31]), hX30⟩

theorem l4Code_spec {w : World} {G : Pin} {p q : Bool} (hP : Pins G w) :
    Calls Tryd.prog 42 [(.bool p), (.bool q)].toArray w fun e w' => ∃ G', e = .returned (.int .i64 (codeI p q)) ∧ Ext noS G w G' w' := by
  refine s_enter (n := 14) Tryd.func42 Tryd.ntmps42 rfl rfl ?_
  have hX0 : Ext noS G w G w := Ext.refl hP
  refine s_seq ?_
  refine c_reg ?_
  refine qd rfl rfl rfl (r_assign (v := (.int .i64 0)) rfl) ?_
  refine qe ?_
  refine s_then ?_
  refine s_seq ?_
  refine s_blk ?_
  refine s_seq ?_
  refine c_reg ?_
  refine qd rfl rfl rfl (r_move (v := (.bool p)) rfl) ?_
  refine qd rfl rfl rfl (r_move (v := (.bool p)) rfl) ?_
  refine qb (t := 7) rfl (fun h1 => ?_) (fun h1 => ?_)
  · skip
    refine qdg rfl rfl rfl rfl rfl rfl (r_move (v := (.bool q)) rfl) ?_
    refine qd rfl rfl rfl (r_pickT (v := (.bool q)) rfl rfl) ?_
    refine qd rfl rfl rfl (r_assign (v := (.bool q)) rfl) ?_
    refine qe ?_
    refine s_then ?_
    refine c_if rfl rfl (fun h2 => ?_) (fun h2 => ?_)
    · skip
      refine s_seq ?_
      refine c_reg ?_
      refine qd rfl rfl rfl (r_assign (v := (.int .i64 4)) rfl) ?_
      refine qe ?_
      refine s_then ?_
      refine wp_ret ?_
      refine s_ret ?_
      refine c_ret1 (v := (.int .i64 4)) rfl rfl rfl ?_
      exact ⟨_, congrArg (fun z => Ending.returned (Value.int .i64 z)) (by revert h1 h2; cases p <;> cases q <;> decide), hX0⟩
    refine s_seq ?_
    refine c_reg ?_
    refine qd rfl rfl rfl (r_move (v := (.bool p)) rfl) ?_
    refine qd rfl rfl rfl (r_assign (v := (.bool p)) rfl) ?_
    refine qe ?_
    refine s_then ?_
    refine c_if rfl rfl (fun h3 => ?_) (fun h3 => ?_)
    · skip
      refine s_seq ?_
      refine c_reg ?_
      refine qd rfl rfl rfl (r_assign (v := (.int .i64 1)) rfl) ?_
      refine qe ?_
      refine s_then ?_
      refine wp_ret ?_
      refine s_ret ?_
      refine c_ret1 (v := (.int .i64 1)) rfl rfl rfl ?_
      exact ⟨_, congrArg (fun z => Ending.returned (Value.int .i64 z)) (by revert h1 h2 h3; cases p <;> cases q <;> decide), hX0⟩
    refine s_seq ?_
    refine c_reg ?_
    refine qd rfl rfl rfl (r_move (v := (.bool q)) rfl) ?_
    refine qd rfl rfl rfl (r_assign (v := (.bool q)) rfl) ?_
    refine qe ?_
    refine s_then ?_
    refine c_if rfl rfl (fun h4 => ?_) (fun h4 => ?_)
    · skip
      refine s_seq ?_
      refine c_reg ?_
      refine qd rfl rfl rfl (r_assign (v := (.int .i64 2)) rfl) ?_
      refine qe ?_
      refine s_then ?_
      refine wp_ret ?_
      refine s_ret ?_
      refine c_ret1 (v := (.int .i64 2)) rfl rfl rfl ?_
      exact ⟨_, congrArg (fun z => Ending.returned (Value.int .i64 z)) (by revert h1 h2 h3 h4; cases p <;> cases q <;> decide), hX0⟩
    refine wp_skip ?_
    refine s_blkN ?_
    refine s_then ?_
    refine s_seq ?_
    refine c_reg ?_
    refine qd rfl rfl rfl (r_assign (v := (.int .i64 3)) rfl) ?_
    refine qe ?_
    refine s_then ?_
    refine wp_ret ?_
    refine s_ret ?_
    refine c_ret1 (v := (.int .i64 3)) rfl rfl rfl ?_
    exact ⟨_, congrArg (fun z => Ending.returned (Value.int .i64 z)) (by revert h1 h2 h3 h4; cases p <;> cases q <;> decide), hX0⟩
  refine qs rfl rfl rfl rfl rfl rfl ?_
  refine qd rfl rfl rfl (r_pickF (v := (.bool false)) rfl rfl) ?_
  refine qd rfl rfl rfl (r_assign (v := (.bool false)) rfl) ?_
  refine qe ?_
  refine s_then ?_
  refine c_ifF rfl rfl ?_
  refine s_seq ?_
  refine c_reg ?_
  refine qd rfl rfl rfl (r_move (v := (.bool p)) rfl) ?_
  refine qd rfl rfl rfl (r_assign (v := (.bool p)) rfl) ?_
  refine qe ?_
  refine s_then ?_
  refine c_if rfl rfl (fun h5 => ?_) (fun h5 => ?_)
  · skip
    refine s_seq ?_
    refine c_reg ?_
    refine qd rfl rfl rfl (r_assign (v := (.int .i64 1)) rfl) ?_
    refine qe ?_
    refine s_then ?_
    refine wp_ret ?_
    refine s_ret ?_
    refine c_ret1 (v := (.int .i64 1)) rfl rfl rfl ?_
    exact ⟨_, congrArg (fun z => Ending.returned (Value.int .i64 z)) (by revert h1 h5; cases p <;> cases q <;> decide), hX0⟩
  refine s_seq ?_
  refine c_reg ?_
  refine qd rfl rfl rfl (r_move (v := (.bool q)) rfl) ?_
  refine qd rfl rfl rfl (r_assign (v := (.bool q)) rfl) ?_
  refine qe ?_
  refine s_then ?_
  refine c_if rfl rfl (fun h6 => ?_) (fun h6 => ?_)
  · skip
    refine s_seq ?_
    refine c_reg ?_
    refine qd rfl rfl rfl (r_assign (v := (.int .i64 2)) rfl) ?_
    refine qe ?_
    refine s_then ?_
    refine wp_ret ?_
    refine s_ret ?_
    refine c_ret1 (v := (.int .i64 2)) rfl rfl rfl ?_
    exact ⟨_, congrArg (fun z => Ending.returned (Value.int .i64 z)) (by revert h1 h5 h6; cases p <;> cases q <;> decide), hX0⟩
  refine wp_skip ?_
  refine s_blkN ?_
  refine s_then ?_
  refine s_seq ?_
  refine c_reg ?_
  refine qd rfl rfl rfl (r_assign (v := (.int .i64 3)) rfl) ?_
  refine qe ?_
  refine s_then ?_
  refine wp_ret ?_
  refine s_ret ?_
  refine c_ret1 (v := (.int .i64 3)) rfl rfl rfl ?_
  exact ⟨_, congrArg (fun z => Ending.returned (Value.int .i64 z)) (by revert h1 h5 h6; cases p <;> cases q <;> decide), hX0⟩

theorem sAtLeast_spec {w : World} {G : Pin} {u v : Value} {ax bs : List Nd} (hP : Pins G w) (hu : RSl eNode G u ax) (hv : RSl eNode G v bs) :
    Calls Tryd.prog 10 [(.agg [u].toArray), (.agg [v].toArray)].toArray w fun e w' => ∃ G', e = .returned (.tuple #[.bool (alB ax bs), .bool (goodB ax && goodB bs)]) ∧ Ext noS G w G' w' := by
  refine s_enter (n := 17) Tryd.func10 Tryd.ntmps10 rfl rfl ?_
  have hX0 : Ext noS G w G w := Ext.refl hP
  refine s_seq ?_
  refine c_reg ?_
  refine q1 rfl rfl rfl (o_box [u] (v := (.agg [u].toArray)) rfl rfl hX0.pins (fun b1 w2 hk3 hb4 hp5 hl6 => ?_))
  have hX7 := hX0.step hp5 hl6
  have hlo8 : w.heap.size ≤ b1 := by have := hX0.size; omega
  obtain ⟨G9, hle10, hX11, hbp12, hf13⟩ := hb4.shut hX7 hlo8
  refine q1 rfl rfl rfl (o_box [v] (v := (.agg [v].toArray)) rfl rfl hX11.pins (fun b14 w15 hk16 hb17 hp18 hl19 => ?_))
  have hX20 := hX11.step hp18 hl19
  have hlo21 : w.heap.size ≤ b14 := by have := hX11.size; omega
  obtain ⟨G22, hle23, hX24, hbp25, hf26⟩ := hb17.shut hX20 hlo21
  refine qd rfl rfl rfl (r_assign (v := (.bool false)) rfl) ?_
  refine qd rfl rfl rfl (r_assign (v := (.bool false)) rfl) ?_
  refine qe ?_
  refine s_then ?_
  refine s_seq ?_
  refine s_seq ?_
  refine c_reg ?_
  refine qd rfl rfl rfl (r_ldpA (cs := [u]) ag30 sz30 rfl (fun j u hj => (Pins.of_le hX24.pins hle23) _ _ _ (hbp12 _ _ (by simpa using hj)))) ?_
  refine q1 rfl rfl rfl (o_call (vs := [(.agg [u].toArray)]) Tryd.func33 nm33 rfl rfl rfl ?_)
  refine Calls.mono (l3Good_spec hX24.pins (hu.mono (Pin.le_trans hle10 hle23))) ?_
  rintro _ w28 ⟨G27, rfl, hx29⟩
  refine ⟨_, rfl, ?_⟩
  have hX30 := hX24.tr hx29
  refine qd rfl rfl rfl (r_not rfl) ?_
  refine qd rfl rfl rfl (r_move (v := (.bool (!(decP (GoodS ax))))) rfl) ?_
  refine qbn (t := 9) rfl (fun h31 => ?_) (fun h31 => ?_)
  · skip
    refine qdg rfl rfl rfl rfl rfl rfl (r_ldpA (cs := [v]) ag30 sz30 rfl (fun j u hj => (Pins.of_le hX30.pins hx29.le) _ _ _ (hbp25 _ _ (by simpa using hj)))) ?_
    refine q1g rfl rfl rfl rfl rfl rfl (o_call (vs := [(.agg [v].toArray)]) Tryd.func33 nm33 rfl rfl rfl ?_)
    refine Calls.mono (l3Good_spec hX30.pins (hv.mono (Pin.le_trans (Pin.le_trans hle10 hle23) hx29.le))) ?_
    rintro _ w33 ⟨G32, rfl, hx34⟩
    refine ⟨_, rfl, ?_⟩
    have hX35 := hX30.tr hx34
    refine qdg rfl rfl rfl rfl rfl rfl (r_not rfl) ?_
    refine qd rfl rfl rfl (r_pickF (v := (.bool (!(decP (GoodS bs))))) rfl rfl) ?_
    refine qe ?_
    refine s_then ?_
    refine c_ifn rfl rfl (fun h36 => ?_) (fun h36 => ?_)
    · skip
      refine wp_skip ?_
      refine s_then ?_
      refine s_seq ?_
      refine c_reg ?_
      refine qd rfl rfl rfl (r_ldpA (cs := [u]) ag30 sz30 rfl (fun j u hj => (Pins.of_le hX35.pins (Pin.le_trans (Pin.le_trans hle23 hx29.le) hx34.le)) _ _ _ (hbp12 _ _ (by simpa using hj)))) ?_
      have hga : GoodP ax := goodB_true.1 ((good_eq ax).symm.trans h31)
      have hgb : GoodP bs := goodB_true.1 ((good_eq bs).symm.trans h36)
      have hla := hga.lo
      have hlb := hgb.lo
      have hha := hga.hi
      have hhb := hgb.hi
      refine qd rfl rfl rfl (r_ldpA (cs := [v]) ag30 sz30 rfl (fun j u hj => (Pins.of_le hX35.pins (Pin.le_trans hx29.le hx34.le)) _ _ _ (hbp25 _ _ (by simpa using hj)))) ?_
      refine q1 rfl rfl rfl (o_call (vs := [(.agg [u].toArray), (.agg [v].toArray)]) Tryd.func34 nm34 rfl rfl rfl ?_)
      refine Calls.mono (l4Geq_spec hX35.pins (hu.mono (Pin.le_trans (Pin.le_trans (Pin.le_trans hle10 hle23) hx29.le) hx34.le)) (hv.mono (Pin.le_trans (Pin.le_trans (Pin.le_trans hle10 hle23) hx29.le) hx34.le)) ⟨good_form hga, hla⟩ ⟨good_form hgb, hlb⟩ (by omega)) ?_
      rintro _ w38 ⟨G37, rfl, hx39⟩
      refine ⟨_, rfl, ?_⟩
      have hX40 := hX35.tr hx39
      refine qd rfl rfl rfl (r_assign (v := (.bool (decP (geG (gOf ax) (gOf bs))))) rfl) ?_
      refine qd rfl rfl rfl (r_assign (v := (.bool true)) rfl) ?_
      refine qe ?_
      refine s_then ?_
      refine wp_ret ?_
      refine s_ret ?_
      refine c_ret2 (v := (.bool (decP (geG (gOf ax) (gOf bs))))) (u := (.bool true)) rfl rfl rfl rfl rfl ?_
      obtain ⟨e1, e2⟩ := alB_good hga hgb
      rw [e1, e2]
      exact ⟨_, rfl, hX40⟩
    refine s_seq ?_
    refine c_reg ?_
    refine qd rfl rfl rfl (r_assign (v := (.bool false)) rfl) ?_
    refine qd rfl rfl rfl (r_assign (v := (.bool false)) rfl) ?_
    refine qe ?_
    refine s_then ?_
    refine wp_ret ?_
    refine s_ret ?_
    refine c_ret2 (v := (.bool false)) (u := (.bool false)) rfl rfl rfl rfl rfl ?_
    obtain ⟨e1, e2⟩ := alB_bad (Or.inr ((good_eq bs).symm.trans h36))
    rw [e1, e2]
    exact ⟨_, rfl, hX35⟩
  refine qs rfl rfl rfl rfl rfl rfl ?_
  refine qs rfl rfl rfl rfl rfl rfl ?_
  refine qs rfl rfl rfl rfl rfl rfl ?_
  refine qd rfl rfl rfl (r_pickT (v := (.bool true)) rfl rfl) ?_
  refine qe ?_
  refine s_then ?_
  refine c_ifT rfl rfl ?_
  refine s_seq ?_
  refine c_reg ?_
  refine qd rfl rfl rfl (r_assign (v := (.bool false)) rfl) ?_
  refine qd rfl rfl rfl (r_assign (v := (.bool false)) rfl) ?_
  refine qe ?_
  refine s_then ?_
  refine wp_ret ?_
  refine s_ret ?_
  refine c_ret2 (v := (.bool false)) (u := (.bool false)) rfl rfl rfl rfl rfl ?_
  obtain ⟨e1, e2⟩ := alB_bad (Or.inl ((good_eq ax).symm.trans h31))
  rw [e1, e2]
  exact ⟨_, rfl, hX30⟩

theorem sEqualForms_spec {w : World} {G : Pin} {u v : Value} {ax bs : List Nd} (hP : Pins G w) (hu : RSl eNode G u ax) (hv : RSl eNode G v bs) :
    Calls Tryd.prog 14 [(.agg [u].toArray), (.agg [v].toArray)].toArray w fun e w' => ∃ G', e = .returned (.tuple #[.bool (efB ax bs), .bool (goodB ax && goodB bs)]) ∧ Ext noS G w G' w' := by
  refine s_enter (n := 17) Tryd.func14 Tryd.ntmps14 rfl rfl ?_
  have hX0 : Ext noS G w G w := Ext.refl hP
  refine s_seq ?_
  refine c_reg ?_
  refine q1 rfl rfl rfl (o_box [u] (v := (.agg [u].toArray)) rfl rfl hX0.pins (fun b1 w2 hk3 hb4 hp5 hl6 => ?_))
  have hX7 := hX0.step hp5 hl6
  have hlo8 : w.heap.size ≤ b1 := by have := hX0.size; omega
  obtain ⟨G9, hle10, hX11, hbp12, hf13⟩ := hb4.shut hX7 hlo8
  refine q1 rfl rfl rfl (o_box [v] (v := (.agg [v].toArray)) rfl rfl hX11.pins (fun b14 w15 hk16 hb17 hp18 hl19 => ?_))
  have hX20 := hX11.step hp18 hl19
  have hlo21 : w.heap.size ≤ b14 := by have := hX11.size; omega
  obtain ⟨G22, hle23, hX24, hbp25, hf26⟩ := hb17.shut hX20 hlo21
  refine qd rfl rfl rfl (r_assign (v := (.bool false)) rfl) ?_
  refine qd rfl rfl rfl (r_assign (v := (.bool false)) rfl) ?_
  refine qe ?_
  refine s_then ?_
  refine s_seq ?_
  refine s_seq ?_
  refine c_reg ?_
  refine qd rfl rfl rfl (r_ldpA (cs := [u]) ag30 sz30 rfl (fun j u hj => (Pins.of_le hX24.pins hle23) _ _ _ (hbp12 _ _ (by simpa using hj)))) ?_
  refine q1 rfl rfl rfl (o_call (vs := [(.agg [u].toArray)]) Tryd.func33 nm33 rfl rfl rfl ?_)
  refine Calls.mono (l3Good_spec hX24.pins (hu.mono (Pin.le_trans hle10 hle23))) ?_
  rintro _ w28 ⟨G27, rfl, hx29⟩
  refine ⟨_, rfl, ?_⟩
  have hX30 := hX24.tr hx29
  refine qd rfl rfl rfl (r_not rfl) ?_
  refine qd rfl rfl rfl (r_move (v := (.bool (!(decP (GoodS ax))))) rfl) ?_
  refine qbn (t := 9) rfl (fun h31 => ?_) (fun h31 => ?_)
  · skip
    refine qdg rfl rfl rfl rfl rfl rfl (r_ldpA (cs := [v]) ag30 sz30 rfl (fun j u hj => (Pins.of_le hX30.pins hx29.le) _ _ _ (hbp25 _ _ (by simpa using hj)))) ?_
    refine q1g rfl rfl rfl rfl rfl rfl (o_call (vs := [(.agg [v].toArray)]) Tryd.func33 nm33 rfl rfl rfl ?_)
    refine Calls.mono (l3Good_spec hX30.pins (hv.mono (Pin.le_trans (Pin.le_trans hle10 hle23) hx29.le))) ?_
    rintro _ w33 ⟨G32, rfl, hx34⟩
    refine ⟨_, rfl, ?_⟩
    have hX35 := hX30.tr hx34
    refine qdg rfl rfl rfl rfl rfl rfl (r_not rfl) ?_
    refine qd rfl rfl rfl (r_pickF (v := (.bool (!(decP (GoodS bs))))) rfl rfl) ?_
    refine qe ?_
    refine s_then ?_
    refine c_ifn rfl rfl (fun h36 => ?_) (fun h36 => ?_)
    · skip
      refine wp_skip ?_
      refine s_then ?_
      refine s_seq ?_
      refine c_reg ?_
      refine qd rfl rfl rfl (r_ldpA (cs := [u]) ag30 sz30 rfl (fun j u hj => (Pins.of_le hX35.pins (Pin.le_trans (Pin.le_trans hle23 hx29.le) hx34.le)) _ _ _ (hbp12 _ _ (by simpa using hj)))) ?_
      have hga : GoodP ax := goodB_true.1 ((good_eq ax).symm.trans h31)
      have hgb : GoodP bs := goodB_true.1 ((good_eq bs).symm.trans h36)
      have hla := hga.lo
      have hlb := hgb.lo
      have hha := hga.hi
      have hhb := hgb.hi
      refine qd rfl rfl rfl (r_ldpA (cs := [v]) ag30 sz30 rfl (fun j u hj => (Pins.of_le hX35.pins (Pin.le_trans hx29.le hx34.le)) _ _ _ (hbp25 _ _ (by simpa using hj)))) ?_
      refine q1 rfl rfl rfl (o_call (vs := [(.agg [u].toArray), (.agg [v].toArray)]) Tryd.func41 nm41 rfl rfl rfl ?_)
      refine Calls.mono (l4Equal_spec hX35.pins (hu.mono (Pin.le_trans (Pin.le_trans (Pin.le_trans hle10 hle23) hx29.le) hx34.le)) (hv.mono (Pin.le_trans (Pin.le_trans (Pin.le_trans hle10 hle23) hx29.le) hx34.le)) ⟨good_form hga, hla⟩ ⟨good_form hgb, hlb⟩ (by omega)) ?_
      rintro _ w38 ⟨G37, rfl, hx39⟩
      refine ⟨_, rfl, ?_⟩
      have hX40 := hX35.tr hx39
      refine qd rfl rfl rfl (r_assign (v := (.bool (decP (eqG (gOf ax) (gOf bs))))) rfl) ?_
      refine qd rfl rfl rfl (r_assign (v := (.bool true)) rfl) ?_
      refine qe ?_
      refine s_then ?_
      refine wp_ret ?_
      refine s_ret ?_
      refine c_ret2 (v := (.bool (decP (eqG (gOf ax) (gOf bs))))) (u := (.bool true)) rfl rfl rfl rfl rfl ?_
      obtain ⟨e1, e2⟩ := efB_good hga hgb
      rw [e1, e2]
      exact ⟨_, rfl, hX40⟩
    refine s_seq ?_
    refine c_reg ?_
    refine qd rfl rfl rfl (r_assign (v := (.bool false)) rfl) ?_
    refine qd rfl rfl rfl (r_assign (v := (.bool false)) rfl) ?_
    refine qe ?_
    refine s_then ?_
    refine wp_ret ?_
    refine s_ret ?_
    refine c_ret2 (v := (.bool false)) (u := (.bool false)) rfl rfl rfl rfl rfl ?_
    obtain ⟨e1, e2⟩ := efB_bad (Or.inr ((good_eq bs).symm.trans h36))
    rw [e1, e2]
    exact ⟨_, rfl, hX35⟩
  refine qs rfl rfl rfl rfl rfl rfl ?_
  refine qs rfl rfl rfl rfl rfl rfl ?_
  refine qs rfl rfl rfl rfl rfl rfl ?_
  refine qd rfl rfl rfl (r_pickT (v := (.bool true)) rfl rfl) ?_
  refine qe ?_
  refine s_then ?_
  refine c_ifT rfl rfl ?_
  refine s_seq ?_
  refine c_reg ?_
  refine qd rfl rfl rfl (r_assign (v := (.bool false)) rfl) ?_
  refine qd rfl rfl rfl (r_assign (v := (.bool false)) rfl) ?_
  refine qe ?_
  refine s_then ?_
  refine wp_ret ?_
  refine s_ret ?_
  refine c_ret2 (v := (.bool false)) (u := (.bool false)) rfl rfl rfl rfl rfl ?_
  obtain ⟨e1, e2⟩ := efB_bad (Or.inl ((good_eq ax).symm.trans h31))
  rw [e1, e2]
  exact ⟨_, rfl, hX30⟩

theorem sCompareForms_spec {w : World} {G : Pin} {u v : Value} {ax bs : List Nd} (hP : Pins G w) (hu : RSl eNode G u ax) (hv : RSl eNode G v bs) :
    Calls Tryd.prog 16 [(.agg [u].toArray), (.agg [v].toArray)].toArray w fun e w' => ∃ G', e = .returned (.tuple #[.int .i64 (cfI ax bs), .bool (goodB ax && goodB bs)]) ∧ Ext noS G w G' w' := by
  refine s_enter (n := 21) Tryd.func16 Tryd.ntmps16 rfl rfl ?_
  have hX0 : Ext noS G w G w := Ext.refl hP
  refine s_seq ?_
  refine c_reg ?_
  refine q1 rfl rfl rfl (o_box [u] (v := (.agg [u].toArray)) rfl rfl hX0.pins (fun b1 w2 hk3 hb4 hp5 hl6 => ?_))
  have hX7 := hX0.step hp5 hl6
  have hlo8 : w.heap.size ≤ b1 := by have := hX0.size; omega
  obtain ⟨G9, hle10, hX11, hbp12, hf13⟩ := hb4.shut hX7 hlo8
  refine q1 rfl rfl rfl (o_box [v] (v := (.agg [v].toArray)) rfl rfl hX11.pins (fun b14 w15 hk16 hb17 hp18 hl19 => ?_))
  have hX20 := hX11.step hp18 hl19
  have hlo21 : w.heap.size ≤ b14 := by have := hX11.size; omega
  obtain ⟨G22, hle23, hX24, hbp25, hf26⟩ := hb17.shut hX20 hlo21
  refine qd rfl rfl rfl (r_assign (v := (.int .i64 0)) rfl) ?_
  refine qd rfl rfl rfl (r_assign (v := (.bool false)) rfl) ?_
  refine qe ?_
  refine s_then ?_
  refine s_seq ?_
  refine s_seq ?_
  refine c_reg ?_
  refine qd rfl rfl rfl (r_ldpA (cs := [u]) ag30 sz30 rfl (fun j u hj => (Pins.of_le hX24.pins hle23) _ _ _ (hbp12 _ _ (by simpa using hj)))) ?_
  refine q1 rfl rfl rfl (o_call (vs := [(.agg [u].toArray)]) Tryd.func33 nm33 rfl rfl rfl ?_)
  refine Calls.mono (l3Good_spec hX24.pins (hu.mono (Pin.le_trans hle10 hle23))) ?_
  rintro _ w28 ⟨G27, rfl, hx29⟩
  refine ⟨_, rfl, ?_⟩
  have hX30 := hX24.tr hx29
  refine qd rfl rfl rfl (r_not rfl) ?_
  refine qd rfl rfl rfl (r_move (v := (.bool (!(decP (GoodS ax))))) rfl) ?_
  refine qbn (t := 9) rfl (fun h31 => ?_) (fun h31 => ?_)
  · skip
    refine qdg rfl rfl rfl rfl rfl rfl (r_ldpA (cs := [v]) ag30 sz30 rfl (fun j u hj => (Pins.of_le hX30.pins hx29.le) _ _ _ (hbp25 _ _ (by simpa using hj)))) ?_
    refine q1g rfl rfl rfl rfl rfl rfl (o_call (vs := [(.agg [v].toArray)]) Tryd.func33 nm33 rfl rfl rfl ?_)
    refine Calls.mono (l3Good_spec hX30.pins (hv.mono (Pin.le_trans (Pin.le_trans hle10 hle23) hx29.le))) ?_
    rintro _ w33 ⟨G32, rfl, hx34⟩
    refine ⟨_, rfl, ?_⟩
    have hX35 := hX30.tr hx34
    refine qdg rfl rfl rfl rfl rfl rfl (r_not rfl) ?_
    refine qd rfl rfl rfl (r_pickF (v := (.bool (!(decP (GoodS bs))))) rfl rfl) ?_
    refine qe ?_
    refine s_then ?_
    refine c_ifn rfl rfl (fun h36 => ?_) (fun h36 => ?_)
    · skip
      refine wp_skip ?_
      refine s_then ?_
      refine s_seq ?_
      have hga : GoodP ax := goodB_true.1 ((good_eq ax).symm.trans h31)
      have hgb : GoodP bs := goodB_true.1 ((good_eq bs).symm.trans h36)
      have hla := hga.lo
      have hlb := hgb.lo
      have hha := hga.hi
      have hhb := hgb.hi
      refine c_draw (S := fun wz => Pins G32 wz) (last := 9) (by kernel_rfl) rfl ?_
      have hl37 : Below w33.heap.size w33 w33.drew := (Below.refl _ _).drew
      have hp38 := hX35.pins.below hl37
      have hX39 := hX35.step hp38 hl37
      refine dr_take (i := 0) rfl rfl rfl (want_none rfl _) (by kernel_rfl) (fun _ hS => r_ldpA (cs := [u]) ag30 sz30 rfl (fun j u hj => (Pins.of_le hS (Pin.le_trans (Pin.le_trans hle23 hx29.le) hx34.le)) _ _ _ (hbp12 _ _ (by simpa using hj)))) hX39.pins ?_
      refine dr_take (i := 1) rfl rfl rfl (want_none rfl _) (by kernel_rfl) (fun _ hS => r_ldpA (cs := [v]) ag30 sz30 rfl (fun j u hj => (Pins.of_le hS (Pin.le_trans hx29.le hx34.le)) _ _ _ (hbp25 _ _ (by simpa using hj)))) hX39.pins ?_
      refine dr_take (i := 3) rfl rfl rfl (want_none rfl _) (by kernel_rfl) (fun _ hS => r_ldpA (cs := [v]) ag30 sz30 rfl (fun j u hj => (Pins.of_le hS (Pin.le_trans hx29.le hx34.le)) _ _ _ (hbp25 _ _ (by simpa using hj)))) hX39.pins ?_
      refine dr_take (i := 4) rfl rfl rfl (want_none rfl _) (by kernel_rfl) (fun _ hS => r_ldpA (cs := [u]) ag30 sz30 rfl (fun j u hj => (Pins.of_le hS (Pin.le_trans (Pin.le_trans hle23 hx29.le) hx34.le)) _ _ _ (hbp12 _ _ (by simpa using hj)))) hX39.pins ?_
      refine dr_one (i := 2) (by kernel_rfl) (drOp1 (i := 2) rfl rfl rfl (want_none rfl _) (o_call (vs := [(.agg [u].toArray), (.agg [v].toArray)]) Tryd.func34 nm34 rfl rfl rfl ?_))
      refine Calls.mono (l4Geq_spec hX39.pins (hu.mono (Pin.le_trans (Pin.le_trans (Pin.le_trans hle10 hle23) hx29.le) hx34.le)) (hv.mono (Pin.le_trans (Pin.le_trans (Pin.le_trans hle10 hle23) hx29.le) hx34.le)) ⟨good_form hga, hla⟩ ⟨good_form hgb, hlb⟩ (by omega)) ?_
      rintro _ w41 ⟨G40, rfl, hx42⟩
      refine ⟨_, rfl, ?_⟩
      have hX43 := hX39.tr hx42
      refine ⟨fun _ => (Pins.of_le hX43.pins hx42.le), ?_⟩
      refine dr_one (i := 5) (by kernel_rfl) (drOp1 (i := 5) rfl rfl rfl (want_none rfl _) (o_call (vs := [(.agg [v].toArray), (.agg [u].toArray)]) Tryd.func34 nm34 rfl rfl rfl ?_))
      refine Calls.mono (l4Geq_spec hX43.pins (hv.mono (Pin.le_trans (Pin.le_trans (Pin.le_trans (Pin.le_trans hle10 hle23) hx29.le) hx34.le) hx42.le)) (hu.mono (Pin.le_trans (Pin.le_trans (Pin.le_trans (Pin.le_trans hle10 hle23) hx29.le) hx34.le) hx42.le)) ⟨good_form hgb, hlb⟩ ⟨good_form hga, hla⟩ (by omega)) ?_
      rintro _ w45 ⟨G44, rfl, hx46⟩
      refine ⟨_, rfl, ?_⟩
      have hX47 := hX43.tr hx46
      refine ⟨fun _ => (Pins.of_le hX47.pins (Pin.le_trans hx42.le hx46.le)), ?_⟩
      refine dr_one (i := 6) (by kernel_rfl) (drOp1 (i := 6) rfl rfl rfl (want_none rfl _) (o_call (vs := [(.bool (decP (geG (gOf ax) (gOf bs)))), (.bool (decP (geG (gOf bs) (gOf ax))))]) Tryd.func42 nm42 rfl rfl rfl ?_))
      refine Calls.mono (l4Code_spec hX47.pins ) ?_
      rintro _ w49 ⟨G48, rfl, hx50⟩
      refine ⟨_, rfl, ?_⟩
      have hX51 := hX47.tr hx50
      refine ⟨fun _ => (Pins.of_le hX51.pins (Pin.le_trans (Pin.le_trans hx42.le hx46.le) hx50.le)), ?_⟩
      refine dr_take (i := 7) rfl rfl rfl (want_none rfl _) (by kernel_rfl) (fun _ _ => r_assign (v := (.int .i64 (codeI (decP (geG (gOf ax) (gOf bs))) (decP (geG (gOf bs) (gOf ax)))))) rfl) (Pins.of_le hX51.pins (Pin.le_trans (Pin.le_trans hx42.le hx46.le) hx50.le)) ?_
      refine dr_take (i := 8) rfl rfl rfl (want_none rfl _) (by kernel_rfl) (fun _ _ => r_assign (v := (.bool true)) rfl) (Pins.of_le hX51.pins (Pin.le_trans (Pin.le_trans hx42.le hx46.le) hx50.le)) ?_
      refine dr_end (by kernel_rfl) ?_
      refine s_then ?_
      refine wp_ret ?_
      refine s_ret ?_
      refine c_ret2 (v := (.int .i64 (codeI (decP (geG (gOf ax) (gOf bs))) (decP (geG (gOf bs) (gOf ax)))))) (u := (.bool true)) rfl rfl rfl rfl rfl ?_
      obtain ⟨e1, e2⟩ := cfI_good hga hgb
      rw [e1, e2]
      exact ⟨_, rfl, hX51⟩
    refine s_seq ?_
    refine c_reg ?_
    refine qd rfl rfl rfl (r_assign (v := (.int .i64 0)) rfl) ?_
    refine qd rfl rfl rfl (r_assign (v := (.bool false)) rfl) ?_
    refine qe ?_
    refine s_then ?_
    refine wp_ret ?_
    refine s_ret ?_
    refine c_ret2 (v := (.int .i64 0)) (u := (.bool false)) rfl rfl rfl rfl rfl ?_
    obtain ⟨e1, e2⟩ := cfI_bad (Or.inr ((good_eq bs).symm.trans h36))
    rw [e1, e2]
    exact ⟨_, rfl, hX35⟩
  refine qs rfl rfl rfl rfl rfl rfl ?_
  refine qs rfl rfl rfl rfl rfl rfl ?_
  refine qs rfl rfl rfl rfl rfl rfl ?_
  refine qd rfl rfl rfl (r_pickT (v := (.bool true)) rfl rfl) ?_
  refine qe ?_
  refine s_then ?_
  refine c_ifT rfl rfl ?_
  refine s_seq ?_
  refine c_reg ?_
  refine qd rfl rfl rfl (r_assign (v := (.int .i64 0)) rfl) ?_
  refine qd rfl rfl rfl (r_assign (v := (.bool false)) rfl) ?_
  refine qe ?_
  refine s_then ?_
  refine wp_ret ?_
  refine s_ret ?_
  refine c_ret2 (v := (.int .i64 0)) (u := (.bool false)) rfl rfl rfl rfl rfl ?_
  obtain ⟨e1, e2⟩ := cfI_bad (Or.inl ((good_eq ax).symm.trans h31))
  rw [e1, e2]
  exact ⟨_, rfl, hX30⟩

end SF1
end Go.Proofs.YtndhhpaldhlghaaDoor
