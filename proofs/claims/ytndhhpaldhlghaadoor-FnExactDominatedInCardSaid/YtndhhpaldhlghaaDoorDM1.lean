/- Walks, printed by a program (walkgen.py) from the spec specs_dl. -/
import Derived.Test.YtndhhpaldhlghaaDoorChecked
import Derived.Test.YtndhhpaldhlghaaDoorRow
import Derived.Test.YtndhhpaldhlghaaDoorDom
import Derived.Test.YtndhhpaldhlghaaDoorGoodB
import Derived.Test.YtndhhpaldhlghaaDoorLoad
import Derived.Test.YtndhhpaldhlghaaDoorB1
import Derived.Test.YtndhhpaldhlghaaDoorC1
import Derived.Test.YtndhhpaldhlghaaDoorD1
import Derived.Test.YtndhhpaldhlghaaDoorE1
import Derived.Test.YtndhhpaldhlghaaDoorOR1
import Derived.Test.YtndhhpaldhlghaaDoorDS1
set_option maxRecDepth 20000
set_option maxHeartbeats 2000000
namespace Go.Proofs.YtndhhpaldhlghaaDoor
namespace DM1
open Go.RowKit Go.GL Go.Proofs
open Go.Proofs.YtndhhpaldhlghaaDoor.B1
open Go.Proofs.YtndhhpaldhlghaaDoor.C1
open Go.Proofs.YtndhhpaldhlghaaDoor.D1
open Go.Proofs.YtndhhpaldhlghaaDoor.E1
open Go.Proofs.YtndhhpaldhlghaaDoor.OR1
open Go.Proofs.YtndhhpaldhlghaaDoor.DS1
theorem ag28 : (Tryd.prog.underlying 28).map aggD = some false := by kernel_rfl
theorem ag30 : (Tryd.prog.underlying 30).map aggD = some true := by kernel_rfl
theorem ag38 : (Tryd.prog.underlying 38).map aggD = some false := by kernel_rfl
theorem ag72 : (Tryd.prog.underlying 72).map aggD = some false := by kernel_rfl
theorem mk3 : (Tryd.prog.info? 3).map (fun i => (i.size, i.bytes, i.zero)) = some (1, 8, some (.int .i64 0)) := by kernel_rfl
theorem nm33 : (Tryd.f33.name == "runtime.NumGoroutine") = false := by kernel_rfl
theorem nm47 : (Tryd.f47.name == "runtime.NumGoroutine") = false := by kernel_rfl
theorem nm48 : (Tryd.f48.name == "runtime.NumGoroutine") = false := by kernel_rfl
theorem nm58 : (Tryd.f58.name == "runtime.NumGoroutine") = false := by kernel_rfl
theorem nm59 : (Tryd.f59.name == "runtime.NumGoroutine") = false := by kernel_rfl
theorem nz28 : (Tryd.prog.info? 28).map (·.size == 0) = some false := by kernel_rfl
theorem nz38 : (Tryd.prog.info? 38).map (·.size == 0) = some false := by kernel_rfl
theorem nz72 : (Tryd.prog.info? 72).map (·.size == 0) = some false := by kernel_rfl
theorem pl71 : (Tryd.prog.underlying 71).bind (placesD Tryd.prog) = some [(0, 1), (1, 1)] := by kernel_rfl
theorem pl74 : (Tryd.prog.underlying 74).bind (placesD Tryd.prog) = some [(0, 1), (1, 1)] := by kernel_rfl
theorem sz3 : (Tryd.prog.info? 3).map (·.size) = some 1 := by kernel_rfl
theorem sz30 : (Tryd.prog.info? 30).map (·.size) = some 1 := by kernel_rfl
theorem sz69 : (Tryd.prog.info? 69).map (·.size) = some 2 := by kernel_rfl
theorem zr71 : (Tryd.prog.info? 71).bind (·.zero) = some (.agg #[(.slice none 0 0), (.slice none 0 0)]) := by kernel_rfl
theorem zr74 : (Tryd.prog.info? 74).bind (·.zero) = some (.agg #[(.pointer none), (.slice none 0 0)]) := by kernel_rfl

theorem l4Of_spec {w : World} {G : Pin} {b : Nat} {bu bv : Value} {ns : List Nd} {bs : List Int} (hP : Pins G w) (hB : Bk 69 3 G w b bu bv ns bs) (hok : BookOk ns bs) :
    Calls Tryd.prog 59 [(.pointer (some ⟨b, 0, none⟩))].toArray w fun e w' => ∃ (o : Nat) (kv : Value) (G' : Pin), e = .returned (.pointer (some ⟨o, 0, none⟩)) ∧ Bx G' w' o [.pointer (some ⟨b, 0, none⟩), kv] ∧ Own eInt 3 G' w' w.heap.size kv (List.replicate (ns.length * ns.length) 0) ∧ w.heap.size ≤ o ∧ Apart (some o) kv.ownBlock ∧ Ext noS G w G' w' := by
  refine s_enter (n := 18) Tryd.func59 Tryd.ntmps59 rfl rfl ?_
  have hX0 : Ext noS G w G w := Ext.refl hP
  have hbx := hB.bx
  have hou := hB.ou
  have hov := hB.ov
  have habu := hB.abu
  have habv := hB.abv
  have hauv := hB.auv
  have hlen := hok.len
  have hlim := hok.lim
  have hsq := sq_bd hok.lim
  refine s_seq ?_
  refine c_reg ?_
  refine qd rfl rfl rfl (r_assign (v := (.pointer none)) rfl) ?_
  refine qe ?_
  refine s_then ?_
  refine s_seq ?_
  have hq1 := Gadd.pins hX0.pins bu
  have hr2 := hou.read
  refine c_draw (S := fun wz => BxR wz b [bu, bv] ∧ Pins (Gadd G w bu) wz) (last := 16) (by kernel_rfl) rfl ?_
  have hl3 : Below w.heap.size w w.drew := (Below.refl _ _).drew
  have hp4 := hX0.pins.below hl3
  have hX5 := hX0.step hp4 hl3
  have hb8 := hbx.below hl3
  have hq9 := hq1.below hl3
  refine dr_take (i := 0) rfl rfl rfl (want_none rfl _) (by kernel_rfl) (fun _ _ => r_move (v := (.pointer (some ⟨b, 0, none⟩))) rfl) ⟨hb8.reads, hq9⟩ ?_
  refine dr_take (i := 1) rfl rfl rfl (want_none rfl _) (by kernel_rfl) (fun _ _ => r_move (v := (.pointer (some ⟨b, 0, none⟩))) rfl) ⟨hb8.reads, hq9⟩ ?_
  refine dr_take (i := 2) rfl rfl rfl (want_none rfl _) (by kernel_rfl) (fun _ _ => r_nil rfl) ⟨hb8.reads, hq9⟩ ?_
  refine dr_take (i := 3) rfl rfl rfl (want_none rfl _) (by kernel_rfl) (fun _ _ => r_fldp (k := 0) rfl Tryd.underlying71 rfl nz28 rfl) ⟨hb8.reads, hq9⟩ ?_
  refine dr_take (i := 4) rfl rfl rfl (want_none rfl _) (by kernel_rfl) (fun _ hS => r_ldp1 (u := bu) ag28 rfl (hS.1 0 _ rfl)) ⟨hb8.reads, hq9⟩ ?_
  refine dr_take (i := 5) rfl rfl rfl (want_none rfl _) (by kernel_rfl) (fun _ _ => run_len Tryd.underlying28 (v := bu) rfl hr2) ⟨hb8.reads, hq9⟩ ?_
  refine dr_take (i := 6) rfl rfl rfl (want_none rfl _) (by kernel_rfl) (fun _ _ => r_move (v := (.pointer (some ⟨b, 0, none⟩))) rfl) ⟨hb8.reads, hq9⟩ ?_
  refine dr_take (i := 7) rfl rfl rfl (want_none rfl _) (by kernel_rfl) (fun _ _ => r_nil rfl) ⟨hb8.reads, hq9⟩ ?_
  refine dr_take (i := 8) rfl rfl rfl (want_none rfl _) (by kernel_rfl) (fun _ _ => r_fldp (k := 0) rfl Tryd.underlying71 rfl nz28 rfl) ⟨hb8.reads, hq9⟩ ?_
  refine dr_take (i := 9) rfl rfl rfl (want_none rfl _) (by kernel_rfl) (fun _ hS => r_ldp1 (u := bu) ag28 rfl (hS.1 0 _ rfl)) ⟨hb8.reads, hq9⟩ ?_
  refine dr_take (i := 10) rfl rfl rfl (want_none rfl _) (by kernel_rfl) (fun _ _ => run_len Tryd.underlying28 (v := bu) rfl hr2) ⟨hb8.reads, hq9⟩ ?_
  refine dr_take (i := 11) rfl rfl rfl (want_none rfl _) (by kernel_rfl) (fun _ _ => r_mul rfl rfl (by omega)) ⟨hb8.reads, hq9⟩ ?_
  refine dr_one (i := 12) (by kernel_rfl) (drOp1 (i := 12) rfl rfl rfl (want_none rfl _) (o_make (E := eInt) 0 8 (.int .i64 0) Tryd.underlying38 mk3 (fun _ => rfl) rfl rfl hX5.pins (by omega) (by omega) (by omega) (fun u10 w11 ho12 hp13 hl14 hk15 => ?_)))
  have hX16 := hX5.step hp13 hl14
  have hb19 := hb8.below hl14
  have ho23 : Own eInt 3 G w11 w.heap.size u10 (List.replicate ((ns.length : Int) * (ns.length : Int)).toNat 0) := ho12.weaken hX5.size
  have hm24 : (List.replicate ((ns.length : Int) * (ns.length : Int)).toNat 0).length = ((ns.length : Int) * (ns.length : Int)).toNat := List.length_replicate ..
  have hq25 := hq9.below hl14
  refine ⟨fun _ => ⟨hb19.reads, hq25⟩, ?_⟩
  refine dr_take (i := 13) rfl rfl rfl (want_none rfl _) (by kernel_rfl) (fun _ _ => r_build [(.pointer none), (.slice none 0 0)] [(.pointer (some ⟨b, 0, none⟩)), u10] [(0, (.pointer (some ⟨b, 0, none⟩)), [(.pointer (some ⟨b, 0, none⟩))]), (1, u10, [u10])] Tryd.underlying74 zr74 rfl pl74 rfl (List.forall_mem_cons.2 ⟨rfl, (List.forall_mem_cons.2 ⟨(cells_one ho23.one), (fun _ h => by cases h)⟩)⟩) rfl) ⟨hb19.reads, hq25⟩ ?_
  refine dr_one (i := 14) (by kernel_rfl) (drOp1 (i := 14) rfl rfl rfl (want_none rfl _) (o_box [(.pointer (some ⟨b, 0, none⟩)), u10] (v := (.agg [(.pointer (some ⟨b, 0, none⟩)), u10].toArray)) rfl rfl hX16.pins (fun b26 w27 hk28 hb29 hp30 hl31 => ?_)))
  have hX32 := hX16.step hp30 hl31
  have ho35 := ho23.below hl31
  have hb36 := hb19.below hl31
  have ha39 : Apart (some b26) u10.ownBlock := new_ne_own (congrArg some hk28) ho23.lt
  have hlo41 : w.heap.size ≤ b26 := by have := hX16.size; omega
  have hq42 := hq25.below hl31
  refine ⟨fun _ => ⟨hb36.reads, hq42⟩, ?_⟩
  refine dr_take (i := 15) rfl rfl rfl (want_none rfl _) (by kernel_rfl) (fun _ _ => r_assign (v := (.pointer (some ⟨b26, 0, none⟩))) rfl) ⟨hb36.reads, hq42⟩ ?_
  refine dr_end (by kernel_rfl) ?_
  refine s_then ?_
  refine wp_ret ?_
  refine s_ret ?_
  refine c_ret1 (v := (.pointer (some ⟨b26, 0, none⟩))) rfl rfl rfl ?_
  have hrow := ho35
  rw [sq_nat] at hrow
  exact ⟨_, _, _, rfl, hb29, hrow, hlo41, ha39, hX32⟩

theorem l6Book_spec {w : World} {G : Pin} {v : Value} {fs : List Nd} (hP : Pins G w) (hv : RSl eNode G v fs) (hg : GoodP fs) :
    Calls Tryd.prog 47 [(.agg [v].toArray)].toArray w fun e w' => ∃ (o b : Nat) (bu bv kv : Value) (ks : List Int) (G' : Pin), e = .returned (.tuple #[.pointer (some ⟨o, 0, none⟩), .int .i64 ((fs.length - 1 : Nat) : Int)]) ∧ Od 69 3 G' w' o b bu bv kv fs (births fs) ks ∧ KAll fs ks ∧ Lo w noS kv.ownBlock ∧ Ext noS G w G' w' := by
  refine s_enter (n := 14) Tryd.func47 Tryd.ntmps47 rfl rfl ?_
  have hX0 : Ext noS G w G w := Ext.refl hP
  have hsb := self_book hg
  have hhi := hg.hi
  refine s_seq ?_
  refine c_reg ?_
  refine q1 rfl rfl rfl (o_box [v] (v := (.agg [v].toArray)) rfl rfl hX0.pins (fun b1 w2 hk3 hb4 hp5 hl6 => ?_))
  have hX7 := hX0.step hp5 hl6
  have hlo8 : w.heap.size ≤ b1 := by have := hX0.size; omega
  obtain ⟨G9, hle10, hX11, hbp12, hf13⟩ := hb4.shut hX7 hlo8
  refine qd rfl rfl rfl (r_assign (v := (.pointer none)) rfl) ?_
  refine qd rfl rfl rfl (r_assign (v := (.int .i64 0)) rfl) ?_
  refine qe ?_
  refine s_then ?_
  refine s_seq ?_
  refine c_reg ?_
  refine qd rfl rfl rfl (r_build [(.slice none 0 0), (.slice none 0 0)] [(.slice none 0 0), (.slice none 0 0)] [] Tryd.underlying71 zr71 rfl pl71 rfl (fun _ h => by cases h) rfl) ?_
  refine q1 rfl rfl rfl (o_box [(.slice none 0 0), (.slice none 0 0)] (v := (.agg [(.slice none 0 0), (.slice none 0 0)].toArray)) rfl rfl hX11.pins (fun b14 w15 hk16 hb17 hp18 hl19 => ?_))
  have hX20 := hX11.step hp18 hl19
  have hlo21 : w.heap.size ≤ b14 := by have := hX11.size; omega
  refine qd rfl rfl rfl (r_assign (v := (.pointer (some ⟨b14, 0, none⟩))) rfl) ?_
  refine qe ?_
  refine s_then ?_
  refine s_seq ?_
  refine c_reg ?_
  refine qd rfl rfl rfl (r_move (v := (.pointer (some ⟨b14, 0, none⟩))) rfl) ?_
  refine qd rfl rfl rfl (r_ldpA (cs := [v]) ag30 sz30 rfl (fun j u hj => hX20.pins _ _ _ (hbp12 _ _ (by simpa using hj)))) ?_
  refine q1 rfl rfl rfl (o_call (vs := [(.pointer (some ⟨b14, 0, none⟩)), (.agg [v].toArray)]) Tryd.func58 nm58 rfl rfl rfl ?_)
  refine Calls.mono (root_spec hX20.pins ⟨hb17, (Own.nil _ _ _ _ _), (Own.nil _ _ _ _ _), apart_none.symm, apart_none.symm, apart_none⟩ book_empty (hv.mono hle10) ⟨good_form hg, hg.lo⟩ (by first | omega | (simp; omega))) ?_
  rintro _ w25 ⟨u22, v23, G24, rfl, hbk26, hx27, hlu28, hlv29⟩
  refine ⟨_, rfl, ?_⟩
  have hin32 : ∀ i, inS b14 (.slice none 0 0) (.slice none 0 0) i → w.heap.size ≤ i ∨ noS i := inS_lo (lo_box hlo21) (lo_none _ _) (lo_none _ _)
  have hX33 := hX20.trans hx27 hin32
  have hb34 := hbk26.bx
  have ho35 := hbk26.ou
  have ho36 := hbk26.ov
  have ha37 := hbk26.abu
  have ha38 := hbk26.abv
  have ha39 := hbk26.auv
  have hlo40 := lo_call hlu28 hin32 hX20.size
  have hlo41 := lo_call hlv29 hin32 hX20.size
  refine qd rfl rfl rfl (r_assign (v := (.int .i64 (rootM ([]) ([]) fs))) rfl) ?_
  refine qe ?_
  refine s_then ?_
  refine s_seq ?_
  refine c_reg ?_
  refine qd rfl rfl rfl (r_move (v := (.pointer (some ⟨b14, 0, none⟩))) rfl) ?_
  refine q1 rfl rfl rfl (o_call (vs := [(.pointer (some ⟨b14, 0, none⟩))]) Tryd.func59 nm59 rfl rfl rfl ?_)
  refine Calls.mono (l4Of_spec hX33.pins ⟨hb34, ho35, ho36, ha37, ha38, ha39⟩ (by rw [hsb.1]; exact hsb.2.2.1)) ?_
  rintro _ w45 ⟨b42, u43, G44, rfl, hb46, ho47, hlo48, ha49, hx50⟩
  refine ⟨_, rfl, ?_⟩
  have hX51 := hX33.tr hx50
  have ho52 := ho35.ext hx50
  have ho53 := ho36.ext hx50
  have hb54 := hb34.ext hx50
  have ha55 : Apart u43.ownBlock u22.ownBlock := made_ne_own ho47.lt ho35.lt
  have ha57 : Apart u43.ownBlock v23.ownBlock := made_ne_own ho47.lt ho36.lt
  have ha59 : Apart u43.ownBlock (some b14) := made_ne_box ho47.lt hb34.lt
  have hlo61 := Nat.le_trans hX33.size hlo48
  have ho62 := ho47.weaken hX33.size
  refine qd rfl rfl rfl (r_move (v := (.int .i64 (rootM ([]) ([]) fs))) rfl) ?_
  refine qd rfl rfl rfl (r_assign (v := (.pointer (some ⟨b42, 0, none⟩))) rfl) ?_
  refine qd rfl rfl rfl (r_assign (v := (.int .i64 (rootM ([]) ([]) fs))) rfl) ?_
  refine qe ?_
  refine s_then ?_
  refine wp_ret ?_
  refine s_ret ?_
  refine c_ret2 (v := (.pointer (some ⟨b42, 0, none⟩))) (u := (.int .i64 (rootM ([]) ([]) fs))) rfl rfl rfl rfl rfl ?_
  have hod := (⟨⟨hb54, ho52, ho53, ha37, ha38, ha39⟩, hb46, (ho62.weaken (Nat.zero_le _)), ha49, ha59.symm, ha55.symm, ha57.symm⟩ : Od 69 3 _ _ b42 b14 _ _ _ _ _ _)
  have hrt := hsb.2.1
  rw [hsb.1] at hod
  exact ⟨b42, b14, u22, v23, u43, _, _, congrArg (fun z => Ending.returned (.tuple #[.pointer (some ⟨b42, 0, none⟩), .int .i64 z])) hrt, hod, KAll.zero, (lo_own ho62), hX51⟩

theorem sDominatedIn_spec {w : World} {G : Pin} {v : Value} {fs : List Nd} (hP : Pins G w) (hv : RSl eNode G v fs) :
    Calls Tryd.prog 27 [(.agg [v].toArray)].toArray w fun e w' => ∃ (u1 u2 : Value) (G' : Pin), e = .returned (.tuple #[u1, u2, .bool (goodB fs)]) ∧ RSl eInt G' u1 (doL fs) ∧ RSl eInt G' u2 (doR fs) ∧ Ext noS G w G' w' := by
  refine s_enter (n := 43) Tryd.func27 Tryd.ntmps27 rfl rfl ?_
  have hX0 : Ext noS G w G w := Ext.refl hP
  refine s_seq ?_
  refine c_reg ?_
  refine q1 rfl rfl rfl (o_box [v] (v := (.agg [v].toArray)) rfl rfl hX0.pins (fun b1 w2 hk3 hb4 hp5 hl6 => ?_))
  have hX7 := hX0.step hp5 hl6
  have hlo8 : w.heap.size ≤ b1 := by have := hX0.size; omega
  obtain ⟨G9, hle10, hX11, hbp12, hf13⟩ := hb4.shut hX7 hlo8
  refine qd rfl rfl rfl (r_assign (v := (.slice none 0 0)) rfl) ?_
  refine qd rfl rfl rfl (r_assign (v := (.slice none 0 0)) rfl) ?_
  refine qd rfl rfl rfl (r_assign (v := (.bool false)) rfl) ?_
  refine qe ?_
  refine s_then ?_
  refine s_seq ?_
  refine s_seq ?_
  refine c_reg ?_
  refine qd rfl rfl rfl (r_ldpA (cs := [v]) ag30 sz30 rfl (fun j u hj => hX11.pins _ _ _ (hbp12 _ _ (by simpa using hj)))) ?_
  refine q1 rfl rfl rfl (o_call (vs := [(.agg [v].toArray)]) Tryd.func33 nm33 rfl rfl rfl ?_)
  refine Calls.mono (l3Good_spec hX11.pins (hv.mono hle10)) ?_
  rintro _ w15 ⟨G14, rfl, hx16⟩
  refine ⟨_, rfl, ?_⟩
  have hX17 := hX11.tr hx16
  refine qd rfl rfl rfl (r_not rfl) ?_
  refine qe ?_
  refine s_then ?_
  refine c_ifn rfl rfl (fun h18 => ?_) (fun h18 => ?_)
  · skip
    refine wp_skip ?_
    refine s_then ?_
    refine s_seq ?_
    refine c_reg ?_
    have hgb : goodB fs = true := (good_eq fs).symm.trans h18
    have hga : GoodP fs := goodB_true.1 hgb
    have hsb := self_book hga
    have hla := hga.lo
    have hha := hga.hi
    have hlb := last_bounds hga
    have htn : (((fs.length - 1 : Nat) : Int)).toNat = fs.length - 1 := Int.toNat_natCast _
    refine qd rfl rfl rfl (r_ldpA (cs := [v]) ag30 sz30 rfl (fun j u hj => (Pins.of_le hX17.pins hx16.le) _ _ _ (hbp12 _ _ (by simpa using hj)))) ?_
    refine q1 rfl rfl rfl (o_call (vs := [(.agg [v].toArray)]) Tryd.func47 nm47 rfl rfl rfl ?_)
    refine Calls.mono (l6Book_spec hX17.pins (hv.mono (Pin.le_trans hle10 hx16.le)) hga) ?_
    rintro _ w26 ⟨o19, b20, bu21, bv22, kv23, ks24, G25, rfl, hd27, hka28, hlo29, hx30⟩
    refine ⟨_, rfl, ?_⟩
    have hX31 := hX17.tr hx30
    have hlo32 : Lo w (noS) kv23.ownBlock := fun k hk => (hlo29 k hk).imp (fun h => Nat.le_trans hX17.size h) (fun h => absurd h id)
    refine qd rfl rfl rfl (r_move (v := (.tuple #[(.pointer (some ⟨o19, 0, none⟩)), (.int .i64 ((fs.length - 1 : Nat) : Int))])) rfl) ?_
    refine qd rfl rfl rfl (r_extract (v := (.pointer (some ⟨o19, 0, none⟩))) rfl rfl) ?_
    refine qd rfl rfl rfl (r_extract (v := (.int .i64 ((fs.length - 1 : Nat) : Int))) rfl rfl) ?_
    refine qd rfl rfl rfl (r_assign (v := (.pointer (some ⟨o19, 0, none⟩))) rfl) ?_
    refine qd rfl rfl rfl (r_assign (v := (.int .i64 ((fs.length - 1 : Nat) : Int))) rfl) ?_
    refine qe ?_
    refine s_then ?_
    refine s_seq ?_
    have hq33 := Gadd.pins hX31.pins bu21
    have hr34 := hd27.bk.ou.read
    refine c_draw (S := fun wz => BxR wz o19 [(.pointer (some ⟨b20, 0, none⟩)), kv23] ∧ BxR wz b20 [bu21, bv22] ∧ Pins (Gadd G25 w26 bu21) wz) (last := 29) (by kernel_rfl) rfl ?_
    have hl35 : Below w26.heap.size w26 w26.drew := (Below.refl _ _).drew
    have hp36 := hX31.pins.below hl35
    have hX37 := hX31.step hp36 hl35
    have ho38 := hd27.bk.ou.below hl35
    have ho39 := hd27.bk.ov.below hl35
    have ho40 := hd27.ok.below hl35
    have hb41 := hd27.ox.below hl35
    have hb42 := hd27.bk.bx.below hl35
    have hq43 := hq33.below hl35
    refine dr_take (i := 0) rfl rfl rfl (want_none rfl _) (by kernel_rfl) (fun _ _ => r_move (v := (.pointer (some ⟨o19, 0, none⟩))) rfl) ⟨hb41.reads, hb42.reads, hq43⟩ ?_
    refine dr_take (i := 1) rfl rfl rfl (want_none rfl _) (by kernel_rfl) (fun _ _ => r_move (v := (.pointer (some ⟨o19, 0, none⟩))) rfl) ⟨hb41.reads, hb42.reads, hq43⟩ ?_
    refine dr_take (i := 2) rfl rfl rfl (want_none rfl _) (by kernel_rfl) (fun _ _ => r_nil rfl) ⟨hb41.reads, hb42.reads, hq43⟩ ?_
    refine dr_take (i := 3) rfl rfl rfl (want_none rfl _) (by kernel_rfl) (fun _ _ => r_fldp (k := 0) rfl Tryd.underlying74 rfl nz72 rfl) ⟨hb41.reads, hb42.reads, hq43⟩ ?_
    refine dr_take (i := 4) rfl rfl rfl (want_none rfl _) (by kernel_rfl) (fun _ hS => r_ldp1 (u := (.pointer (some ⟨b20, 0, none⟩))) ag72 rfl (hS.1 0 _ rfl)) ⟨hb41.reads, hb42.reads, hq43⟩ ?_
    refine dr_take (i := 5) rfl rfl rfl (want_none rfl _) (by kernel_rfl) (fun _ _ => r_nil rfl) ⟨hb41.reads, hb42.reads, hq43⟩ ?_
    refine dr_take (i := 6) rfl rfl rfl (want_none rfl _) (by kernel_rfl) (fun _ _ => r_fldp (k := 0) rfl Tryd.underlying71 rfl nz28 rfl) ⟨hb41.reads, hb42.reads, hq43⟩ ?_
    refine dr_take (i := 7) rfl rfl rfl (want_none rfl _) (by kernel_rfl) (fun _ hS => r_ldp1 (u := bu21) ag28 rfl (hS.2.1 0 _ rfl)) ⟨hb41.reads, hb42.reads, hq43⟩ ?_
    refine dr_take (i := 8) rfl rfl rfl (want_none rfl _) (by kernel_rfl) (fun _ _ => r_move (v := (.int .i64 ((fs.length - 1 : Nat) : Int))) rfl) ⟨hb41.reads, hb42.reads, hq43⟩ ?_
    refine dr_take (i := 9) rfl rfl rfl (want_none rfl _) (by kernel_rfl) (fun _ _ => run_idx Tryd.underlying28 sz69 (v := bu21) rfl rfl hr34 (by omega) (by omega)) ⟨hb41.reads, hb42.reads, hq43⟩ ?_
    refine dr_take (i := 10) rfl rfl rfl (want_none rfl _) (by kernel_rfl) (fun _ _ => run_fld (off := 0) Tryd.underlying69 rfl rfl nz38 (z := ((fs.length - 1 : Nat) : Int)) (k := 0) rfl hr34 (by omega) (by omega)) ⟨hb41.reads, hb42.reads, hq43⟩ ?_
    obtain ⟨u44, hr45, hl46⟩ := nm_nl (hd27.bk.ou.at (z := ((fs.length - 1 : Nat) : Int)) (by omega) (by omega)) (j := (fs.length - 1 : Nat)) rfl
    have hm47 := hr45.max
    refine dr_take (i := 11) rfl rfl rfl (want_none rfl _) (by kernel_rfl) (fun _ hS => hl46 ag38 rfl hS.2.2) ⟨hb41.reads, hb42.reads, hq43⟩ ?_
    refine dr_take (i := 13) rfl rfl rfl (want_none rfl _) (by kernel_rfl) (fun _ _ => r_move (v := (.pointer (some ⟨o19, 0, none⟩))) rfl) ⟨hb41.reads, hb42.reads, hq43⟩ ?_
    refine dr_take (i := 14) rfl rfl rfl (want_none rfl _) (by kernel_rfl) (fun _ _ => r_move (v := (.pointer (some ⟨o19, 0, none⟩))) rfl) ⟨hb41.reads, hb42.reads, hq43⟩ ?_
    refine dr_take (i := 15) rfl rfl rfl (want_none rfl _) (by kernel_rfl) (fun _ _ => r_nil rfl) ⟨hb41.reads, hb42.reads, hq43⟩ ?_
    refine dr_take (i := 16) rfl rfl rfl (want_none rfl _) (by kernel_rfl) (fun _ _ => r_fldp (k := 0) rfl Tryd.underlying74 rfl nz72 rfl) ⟨hb41.reads, hb42.reads, hq43⟩ ?_
    refine dr_take (i := 17) rfl rfl rfl (want_none rfl _) (by kernel_rfl) (fun _ hS => r_ldp1 (u := (.pointer (some ⟨b20, 0, none⟩))) ag72 rfl (hS.1 0 _ rfl)) ⟨hb41.reads, hb42.reads, hq43⟩ ?_
    refine dr_take (i := 18) rfl rfl rfl (want_none rfl _) (by kernel_rfl) (fun _ _ => r_nil rfl) ⟨hb41.reads, hb42.reads, hq43⟩ ?_
    refine dr_take (i := 19) rfl rfl rfl (want_none rfl _) (by kernel_rfl) (fun _ _ => r_fldp (k := 0) rfl Tryd.underlying71 rfl nz28 rfl) ⟨hb41.reads, hb42.reads, hq43⟩ ?_
    refine dr_take (i := 20) rfl rfl rfl (want_none rfl _) (by kernel_rfl) (fun _ hS => r_ldp1 (u := bu21) ag28 rfl (hS.2.1 0 _ rfl)) ⟨hb41.reads, hb42.reads, hq43⟩ ?_
    refine dr_take (i := 21) rfl rfl rfl (want_none rfl _) (by kernel_rfl) (fun _ _ => r_move (v := (.int .i64 ((fs.length - 1 : Nat) : Int))) rfl) ⟨hb41.reads, hb42.reads, hq43⟩ ?_
    refine dr_take (i := 22) rfl rfl rfl (want_none rfl _) (by kernel_rfl) (fun _ _ => run_idx Tryd.underlying28 sz69 (v := bu21) rfl rfl hr34 (by omega) (by omega)) ⟨hb41.reads, hb42.reads, hq43⟩ ?_
    refine dr_take (i := 23) rfl rfl rfl (want_none rfl _) (by kernel_rfl) (fun _ _ => run_fld (off := 1) Tryd.underlying69 rfl rfl nz38 (z := ((fs.length - 1 : Nat) : Int)) (k := 0) rfl hr34 (by omega) (by omega)) ⟨hb41.reads, hb42.reads, hq43⟩ ?_
    obtain ⟨u48, hr49, hl50⟩ := nm_nr (hd27.bk.ou.at (z := ((fs.length - 1 : Nat) : Int)) (by omega) (by omega)) (j := (fs.length - 1 : Nat)) rfl
    have hm51 := hr49.max
    refine dr_take (i := 24) rfl rfl rfl (want_none rfl _) (by kernel_rfl) (fun _ hS => hl50 ag38 rfl hS.2.2) ⟨hb41.reads, hb42.reads, hq43⟩ ?_
    refine dr_one (i := 12) (by kernel_rfl) (drOp1 (i := 12) rfl rfl rfl (want_none rfl _) (o_call (vs := [(.pointer (some ⟨o19, 0, none⟩)), u44, (.bool true)]) Tryd.func48 nm48 rfl rfl rfl ?_))
    refine Calls.mono (l6Dominated_spec hX37.pins ⟨⟨hb42, ho38, ho39, hd27.bk.abu, hd27.bk.abv, hd27.bk.auv⟩, hb41, ho40, hd27.aok, hd27.abk, hd27.auk, hd27.avk⟩ (lf := true) hr45 hlb.1.1 hlb.1.2 hsb.2.2.1 hka28) ?_
    rintro _ w55 ⟨u52, ks53, G54, rfl, hr56, hd57, hka58, hx59⟩
    refine ⟨_, rfl, ?_⟩
    have hX60 := hX37.trans hx59 (fun i hi => hlo32 i hi)
    have ho61 := ho38.extS hx59 (notO hd27.auk)
    have ho62 := ho39.extS hx59 (notO hd27.avk)
    have hb63 := hb41.extS hx59 (notOb hd27.aok)
    have hb64 := hb42.extS hx59 (notOb hd27.abk)
    have hq65 := Gadd.turn hq43 (Pins.of_le hX60.pins hx59.le) hx59 (notO hd27.auk)
    refine ⟨fun _ => ⟨hb63.reads, hb64.reads, hq65⟩, ?_⟩
    refine dr_one (i := 25) (by kernel_rfl) (drOp1 (i := 25) rfl rfl rfl (want_none rfl _) (o_call (vs := [(.pointer (some ⟨o19, 0, none⟩)), u48, (.bool false)]) Tryd.func48 nm48 rfl rfl rfl ?_))
    refine Calls.mono (l6Dominated_spec hX60.pins ⟨⟨hb64, ho61, ho62, hd27.bk.abu, hd27.bk.abv, hd27.bk.auv⟩, hb63, hd57.ok, hd27.aok, hd27.abk, hd27.auk, hd27.avk⟩ (lf := false) (hr49.mono hx59.le) hlb.2.1 hlb.2.2 hsb.2.2.1 hka58) ?_
    rintro _ w69 ⟨u66, ks67, G68, rfl, hr70, hd71, hka72, hx73⟩
    refine ⟨_, rfl, ?_⟩
    have hX74 := hX60.trans hx73 (fun i hi => hlo32 i hi)
    have hb77 := hb63.extS hx73 (notOb hd27.aok)
    have hb78 := hb64.extS hx73 (notOb hd27.abk)
    have hq79 := Gadd.turn hq65 (Pins.of_le hX74.pins (Pin.le_trans hx59.le hx73.le)) hx73 (notO hd27.auk)
    refine ⟨fun _ => ⟨hb77.reads, hb78.reads, hq79⟩, ?_⟩
    refine dr_take (i := 26) rfl rfl rfl (want_none rfl _) (by kernel_rfl) (fun _ _ => r_assign (v := u52) rfl) ⟨hb77.reads, hb78.reads, hq79⟩ ?_
    refine dr_take (i := 27) rfl rfl rfl (want_none rfl _) (by kernel_rfl) (fun _ _ => r_assign (v := u66) rfl) ⟨hb77.reads, hb78.reads, hq79⟩ ?_
    refine dr_take (i := 28) rfl rfl rfl (want_none rfl _) (by kernel_rfl) (fun _ _ => r_assign (v := (.bool true)) rfl) ⟨hb77.reads, hb78.reads, hq79⟩ ?_
    refine dr_end (by kernel_rfl) ?_
    refine s_then ?_
    refine wp_ret ?_
    refine s_ret ?_
    refine c_ret3 (v := u52) (u := u66) (x := (.bool true)) rfl rfl rfl rfl rfl rfl rfl ?_
    rw [hgb, (do_good hgb).1, (do_good hgb).2]
    exact ⟨_, _, _, rfl, (hr56.mono hx73.le), hr70, hX74⟩
  refine s_seq ?_
  refine c_reg ?_
  refine q1 rfl rfl rfl (o_build0 (E := eInt) (e := 3) Tryd.underlying38 sz3 hX17.pins (fun u80 w81 ho82 hp83 hl84 hk85 => ?_))
  have hX86 := hX17.step hp83 hl84
  have ho87 : Own eInt 3 G14 w81 w.heap.size u80 ([]) := ho82.weaken hX17.size
  refine q1 rfl rfl rfl (o_build0 (E := eInt) (e := 3) Tryd.underlying38 sz3 hX86.pins (fun u88 w89 ho90 hp91 hl92 hk93 => ?_))
  have hX94 := hX86.step hp91 hl92
  have ho95 := ho87.below hl92
  have ha96 : Apart u88.ownBlock u80.ownBlock := new_ne_own hk93 ho87.lt
  have ho97 : Own eInt 3 G14 w89 w.heap.size u88 ([]) := ho90.weaken hX86.size
  refine qd rfl rfl rfl (r_assign (v := u80) rfl) ?_
  refine qd rfl rfl rfl (r_assign (v := u88) rfl) ?_
  refine qd rfl rfl rfl (r_assign (v := (.bool false)) rfl) ?_
  refine qe ?_
  refine s_then ?_
  refine wp_ret ?_
  refine s_ret ?_
  refine c_ret3 (v := u80) (u := u88) (x := (.bool false)) rfl rfl rfl rfl rfl rfl rfl ?_
  obtain ⟨G98, hle101, hX100, hr99, hf102⟩ := ho95.sealed hX94
  have ho103 := ho97.moreO hle101 hf102 ha96
  obtain ⟨G104, hle107, hX106, hr105, hf108⟩ := ho103.sealed hX100
  have hgb : goodB fs = false := (good_eq fs).symm.trans h18
  rw [hgb, (do_bad hgb).1, (do_bad hgb).2]
  exact ⟨_, _, _, rfl, (hr99.mono hle107), hr105, hX106⟩

end DM1
end Go.Proofs.YtndhhpaldhlghaaDoor
