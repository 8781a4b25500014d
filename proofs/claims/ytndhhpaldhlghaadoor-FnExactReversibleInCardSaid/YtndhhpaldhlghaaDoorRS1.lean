/- Walks, printed by a program (walkgen.py) from the spec specs_rv. -/
import Derived.Test.YtndhhpaldhlghaaDoorChecked
import Derived.Test.YtndhhpaldhlghaaDoorRow
import Derived.Test.YtndhhpaldhlghaaDoorRev
import Derived.Test.YtndhhpaldhlghaaDoorGoodB
import Derived.Test.YtndhhpaldhlghaaDoorB1
import Derived.Test.YtndhhpaldhlghaaDoorC1
import Derived.Test.YtndhhpaldhlghaaDoorD1
import Derived.Test.YtndhhpaldhlghaaDoorE1
import Derived.Test.YtndhhpaldhlghaaDoorOR1
set_option maxRecDepth 20000
set_option maxHeartbeats 2000000
namespace Go.Proofs.YtndhhpaldhlghaaDoor
namespace RS1
open Go.RowKit Go.GL Go.Proofs
open Go.Proofs.YtndhhpaldhlghaaDoor.B1
open Go.Proofs.YtndhhpaldhlghaaDoor.C1
open Go.Proofs.YtndhhpaldhlghaaDoor.D1
open Go.Proofs.YtndhhpaldhlghaaDoor.E1
open Go.Proofs.YtndhhpaldhlghaaDoor.OR1
theorem ag28 : (Tryd.prog.underlying 28).map aggD = some false := by kernel_rfl
theorem ag3 : (Tryd.prog.underlying 3).map aggD = some false := by kernel_rfl
theorem ag30 : (Tryd.prog.underlying 30).map aggD = some true := by kernel_rfl
theorem ag38 : (Tryd.prog.underlying 38).map aggD = some false := by kernel_rfl
theorem ag72 : (Tryd.prog.underlying 72).map aggD = some false := by kernel_rfl
theorem ap3 : (Tryd.prog.info? 3).map (fun i => (i.size, i.bytes, (i.zero.map (·.cells.size)))) = some (1, 8, some 1) := by kernel_rfl
theorem mk3 : (Tryd.prog.info? 3).map (fun i => (i.size, i.bytes, i.zero)) = some (1, 8, some (.int .i64 0)) := by kernel_rfl
theorem nm33 : (Tryd.f33.name == "runtime.NumGoroutine") = false := by kernel_rfl
theorem nm47 : (Tryd.f47.name == "runtime.NumGoroutine") = false := by kernel_rfl
theorem nm51 : (Tryd.f51.name == "runtime.NumGoroutine") = false := by kernel_rfl
theorem nm58 : (Tryd.f58.name == "runtime.NumGoroutine") = false := by kernel_rfl
theorem nm59 : (Tryd.f59.name == "runtime.NumGoroutine") = false := by kernel_rfl
theorem nm60 : (Tryd.f60.name == "runtime.NumGoroutine") = false := by kernel_rfl
theorem nm74 : (Tryd.f74.name == "runtime.NumGoroutine") = false := by kernel_rfl
theorem nz28 : (Tryd.prog.info? 28).map (·.size == 0) = some false := by kernel_rfl
theorem nz38 : (Tryd.prog.info? 38).map (·.size == 0) = some false := by kernel_rfl
theorem nz72 : (Tryd.prog.info? 72).map (·.size == 0) = some false := by kernel_rfl
theorem pl71 : (Tryd.prog.underlying 71).bind (placesD Tryd.prog) = some [(0, 1), (1, 1)] := by kernel_rfl
theorem pl74 : (Tryd.prog.underlying 74).bind (placesD Tryd.prog) = some [(0, 1), (1, 1)] := by kernel_rfl
theorem sz3 : (Tryd.prog.info? 3).map (·.size) = some 1 := by kernel_rfl
theorem sz30 : (Tryd.prog.info? 30).map (·.size) = some 1 := by kernel_rfl
theorem sz69 : (Tryd.prog.info? 69).map (·.size) = some 2 := by kernel_rfl
theorem zr3 : (Tryd.prog.info? 3).bind (·.zero) = some (.int .i64 0) := by kernel_rfl
theorem zr71 : (Tryd.prog.info? 71).bind (·.zero) = some (.agg #[(.slice none 0 0), (.slice none 0 0)]) := by kernel_rfl
theorem zr74 : (Tryd.prog.info? 74).bind (·.zero) = some (.agg #[(.pointer none), (.slice none 0 0)]) := by kernel_rfl

theorem l4Of_spec {w : World} {G : Pin} {b : Nat} {bu bv : Value} {ns : List Nd} {bs : List Int} (hP : Pins G w) (hB : Bk 69 3 G w b bu bv ns bs) (hok : BookOk ns bs) :
    Calls Tryd.prog 59 [(.pointer (some ⟨b, 0, none⟩))].toArray w fun e w' => ∃ (o : Nat) (kv : Value) (G' : Pin), e = .returned (.pointer (some ⟨o, 0, none⟩)) ∧ Bx G' w' o [.pointer (some ⟨b, 0, none⟩), kv] ∧ Own eInt 3 G' w' w.heap.size kv (List.replicate (ns.length * ns.length) 0) ∧ w.heap.size ≤ o ∧ Apart (some o) kv.ownBlock ∧ Ext noS G w G' w' := by
  refine s_enter (n := 18) Tryd.func59 Tryd.ntmps59 rfl rfl ?_
  have hX0 : Ext noS G w G w := Ext.refl hP
  have hbx := hB.bx
  have hou := hB.ou
  have hov := hB.ov
  have habu := hB.abu
  have habv := hB.abv
  have hauv := hB.auv
  have hlen := hok.len
  have hlim := hok.lim
  have hsq := sq_bd hok.lim
  refine s_seq ?_
  refine c_reg ?_
  refine qd rfl rfl rfl (r_assign (v := (.pointer none)) rfl) ?_
  refine qe ?_
  refine s_then ?_
  refine s_seq ?_
  have hq1 := Gadd.pins hX0.pins bu
  have hr2 := hou.read
  refine c_draw (S := fun wz => BxR wz b [bu, bv] ∧ Pins (Gadd G w bu) wz) (last := 16) (by kernel_rfl) rfl ?_
  have hl3 : Below w.heap.size w w.drew := (Below.refl _ _).drew
  have hp4 := hX0.pins.below hl3
  have hX5 := hX0.step hp4 hl3
  have hb8 := hbx.below hl3
  have hq9 := hq1.below hl3
  refine dr_take (i := 0) rfl rfl rfl (want_none rfl _) (by kernel_rfl) (fun _ _ => r_move (v := (.pointer (some ⟨b, 0, none⟩))) rfl) ⟨hb8.reads, hq9⟩ ?_
  refine dr_take (i := 1) rfl rfl rfl (want_none rfl _) (by kernel_rfl) (fun _ _ => r_move (v := (.pointer (some ⟨b, 0, none⟩))) rfl) ⟨hb8.reads, hq9⟩ ?_
  refine dr_take (i := 2) rfl rfl rfl (want_none rfl _) (by kernel_rfl) (fun _ _ => r_nil rfl) ⟨hb8.reads, hq9⟩ ?_
  refine dr_take (i := 3) rfl rfl rfl (want_none rfl _) (by kernel_rfl) (fun _ _ => r_fldp (k := 0) rfl Tryd.underlying71 rfl nz28 rfl) ⟨hb8.reads, hq9⟩ ?_
  refine dr_take (i := 4) rfl rfl rfl (want_none rfl _) (by kernel_rfl) (fun _ hS => r_ldp1 (u := bu) ag28 rfl (hS.1 0 _ rfl)) ⟨hb8.reads, hq9⟩ ?_
  refine dr_take (i := 5) rfl rfl rfl (want_none rfl _) (by kernel_rfl) (fun _ _ => run_len Tryd.underlying28 (v := bu) rfl hr2) ⟨hb8.reads, hq9⟩ ?_
  refine dr_take (i := 6) rfl rfl rfl (want_none rfl _) (by kernel_rfl) (fun _ _ => r_move (v := (.pointer (some ⟨b, 0, none⟩))) rfl) ⟨hb8.reads, hq9⟩ ?_
  refine dr_take (i := 7) rfl rfl rfl (want_none rfl _) (by kernel_rfl) (fun _ _ => r_nil rfl) ⟨hb8.reads, hq9⟩ ?_
  refine dr_take (i := 8) rfl rfl rfl (want_none rfl _) (by kernel_rfl) (fun _ _ => r_fldp (k := 0) rfl Tryd.underlying71 rfl nz28 rfl) ⟨hb8.reads, hq9⟩ ?_
  refine dr_take (i := 9) rfl rfl rfl (want_none rfl _) (by kernel_rfl) (fun _ hS => r_ldp1 (u := bu) ag28 rfl (hS.1 0 _ rfl)) ⟨hb8.reads, hq9⟩ ?_
  refine dr_take (i := 10) rfl rfl rfl (want_none rfl _) (by kernel_rfl) (fun _ _ => run_len Tryd.underlying28 (v := bu) rfl hr2) ⟨hb8.reads, hq9⟩ ?_
  refine dr_take (i := 11) rfl rfl rfl (want_none rfl _) (by kernel_rfl) (fun _ _ => r_mul rfl rfl (by omega)) ⟨hb8.reads, hq9⟩ ?_
  refine dr_one (i := 12) (by kernel_rfl) (drOp1 (i := 12) rfl rfl rfl (want_none rfl _) (o_make (E := eInt) 0 8 (.int .i64 0) Tryd.underlying38 mk3 (fun _ => rfl) rfl rfl hX5.pins (by omega) (by omega) (by omega) (fun u10 w11 ho12 hp13 hl14 hk15 => ?_)))
  have hX16 := hX5.step hp13 hl14
  have hb19 := hb8.below hl14
  have ho23 : Own eInt 3 G w11 w.heap.size u10 (List.replicate ((ns.length : Int) * (ns.length : Int)).toNat 0) := ho12.weaken hX5.size
  have hm24 : (List.replicate ((ns.length : Int) * (ns.length : Int)).toNat 0).length = ((ns.length : Int) * (ns.length : Int)).toNat := List.length_replicate ..
  have hq25 := hq9.below hl14
  refine ⟨fun _ => ⟨hb19.reads, hq25⟩, ?_⟩
  refine dr_take (i := 13) rfl rfl rfl (want_none rfl _) (by kernel_rfl) (fun _ _ => r_build [(.pointer none), (.slice none 0 0)] [(.pointer (some ⟨b, 0, none⟩)), u10] [(0, (.pointer (some ⟨b, 0, none⟩)), [(.pointer (some ⟨b, 0, none⟩))]), (1, u10, [u10])] Tryd.underlying74 zr74 rfl pl74 rfl (List.forall_mem_cons.2 ⟨rfl, (List.forall_mem_cons.2 ⟨(cells_one ho23.one), (fun _ h => by cases h)⟩)⟩) rfl) ⟨hb19.reads, hq25⟩ ?_
  refine dr_one (i := 14) (by kernel_rfl) (drOp1 (i := 14) rfl rfl rfl (want_none rfl _) (o_box [(.pointer (some ⟨b, 0, none⟩)), u10] (v := (.agg [(.pointer (some ⟨b, 0, none⟩)), u10].toArray)) rfl rfl hX16.pins (fun b26 w27 hk28 hb29 hp30 hl31 => ?_)))
  have hX32 := hX16.step hp30 hl31
  have ho35 := ho23.below hl31
  have hb36 := hb19.below hl31
  have ha39 : Apart (some b26) u10.ownBlock := new_ne_own (congrArg some hk28) ho23.lt
  have hlo41 : w.heap.size ≤ b26 := by have := hX16.size; omega
  have hq42 := hq25.below hl31
  refine ⟨fun _ => ⟨hb36.reads, hq42⟩, ?_⟩
  refine dr_take (i := 15) rfl rfl rfl (want_none rfl _) (by kernel_rfl) (fun _ _ => r_assign (v := (.pointer (some ⟨b26, 0, none⟩))) rfl) ⟨hb36.reads, hq42⟩ ?_
  refine dr_end (by kernel_rfl) ?_
  refine s_then ?_
  refine wp_ret ?_
  refine s_ret ?_
  refine c_ret1 (v := (.pointer (some ⟨b26, 0, none⟩))) rfl rfl rfl ?_
  have hrow := ho35
  rw [sq_nat] at hrow
  exact ⟨_, _, _, rfl, hb29, hrow, hlo41, ha39, hX32⟩

theorem l6Book_spec {w : World} {G : Pin} {v : Value} {fs : List Nd} (hP : Pins G w) (hv : RSl eNode G v fs) (hg : GoodP fs) :
    Calls Tryd.prog 47 [(.agg [v].toArray)].toArray w fun e w' => ∃ (o b : Nat) (bu bv kv : Value) (ks : List Int) (G' : Pin), e = .returned (.tuple #[.pointer (some ⟨o, 0, none⟩), .int .i64 ((fs.length - 1 : Nat) : Int)]) ∧ Od 69 3 G' w' o b bu bv kv fs (births fs) ks ∧ KAll fs ks ∧ Lo w noS kv.ownBlock ∧ Ext noS G w G' w' := by
  refine s_enter (n := 14) Tryd.func47 Tryd.ntmps47 rfl rfl ?_
  have hX0 : Ext noS G w G w := Ext.refl hP
  have hsb := self_book hg
  have hhi := hg.hi
  refine s_seq ?_
  refine c_reg ?_
  refine q1 rfl rfl rfl (o_box [v] (v := (.agg [v].toArray)) rfl rfl hX0.pins (fun b1 w2 hk3 hb4 hp5 hl6 => ?_))
  have hX7 := hX0.step hp5 hl6
  have hlo8 : w.heap.size ≤ b1 := by have := hX0.size; omega
  obtain ⟨G9, hle10, hX11, hbp12, hf13⟩ := hb4.shut hX7 hlo8
  refine qd rfl rfl rfl (r_assign (v := (.pointer none)) rfl) ?_
  refine qd rfl rfl rfl (r_assign (v := (.int .i64 0)) rfl) ?_
  refine qe ?_
  refine s_then ?_
  refine s_seq ?_
  refine c_reg ?_
  refine qd rfl rfl rfl (r_build [(.slice none 0 0), (.slice none 0 0)] [(.slice none 0 0), (.slice none 0 0)] [] Tryd.underlying71 zr71 rfl pl71 rfl (fun _ h => by cases h) rfl) ?_
  refine q1 rfl rfl rfl (o_box [(.slice none 0 0), (.slice none 0 0)] (v := (.agg [(.slice none 0 0), (.slice none 0 0)].toArray)) rfl rfl hX11.pins (fun b14 w15 hk16 hb17 hp18 hl19 => ?_))
  have hX20 := hX11.step hp18 hl19
  have hlo21 : w.heap.size ≤ b14 := by have := hX11.size; omega
  refine qd rfl rfl rfl (r_assign (v := (.pointer (some ⟨b14, 0, none⟩))) rfl) ?_
  refine qe ?_
  refine s_then ?_
  refine s_seq ?_
  refine c_reg ?_
  refine qd rfl rfl rfl (r_move (v := (.pointer (some ⟨b14, 0, none⟩))) rfl) ?_
  refine qd rfl rfl rfl (r_ldpA (cs := [v]) ag30 sz30 rfl (fun j u hj => hX20.pins _ _ _ (hbp12 _ _ (by simpa using hj)))) ?_
  refine q1 rfl rfl rfl (o_call (vs := [(.pointer (some ⟨b14, 0, none⟩)), (.agg [v].toArray)]) Tryd.func58 nm58 rfl rfl rfl ?_)
  refine Calls.mono (root_spec hX20.pins ⟨hb17, (Own.nil _ _ _ _ _), (Own.nil _ _ _ _ _), apart_none.symm, apart_none.symm, apart_none⟩ book_empty (hv.mono hle10) ⟨good_form hg, hg.lo⟩ (by first | omega | (simp; omega))) ?_
  rintro _ w25 ⟨u22, v23, G24, rfl, hbk26, hx27, hlu28, hlv29⟩
  refine ⟨_, rfl, ?_⟩
  have hin32 : ∀ i, inS b14 (.slice none 0 0) (.slice none 0 0) i → w.heap.size ≤ i ∨ noS i := inS_lo (lo_box hlo21) (lo_none _ _) (lo_none _ _)
  have hX33 := hX20.trans hx27 hin32
  have hb34 := hbk26.bx
  have ho35 := hbk26.ou
  have ho36 := hbk26.ov
  have ha37 := hbk26.abu
  have ha38 := hbk26.abv
  have ha39 := hbk26.auv
  have hlo40 := lo_call hlu28 hin32 hX20.size
  have hlo41 := lo_call hlv29 hin32 hX20.size
  refine qd rfl rfl rfl (r_assign (v := (.int .i64 (rootM ([]) ([]) fs))) rfl) ?_
  refine qe ?_
  refine s_then ?_
  refine s_seq ?_
  refine c_reg ?_
  refine qd rfl rfl rfl (r_move (v := (.pointer (some ⟨b14, 0, none⟩))) rfl) ?_
  refine q1 rfl rfl rfl (o_call (vs := [(.pointer (some ⟨b14, 0, none⟩))]) Tryd.func59 nm59 rfl rfl rfl ?_)
  refine Calls.mono (l4Of_spec hX33.pins ⟨hb34, ho35, ho36, ha37, ha38, ha39⟩ (by rw [hsb.1]; exact hsb.2.2.1)) ?_
  rintro _ w45 ⟨b42, u43, G44, rfl, hb46, ho47, hlo48, ha49, hx50⟩
  refine ⟨_, rfl, ?_⟩
  have hX51 := hX33.tr hx50
  have ho52 := ho35.ext hx50
  have ho53 := ho36.ext hx50
  have hb54 := hb34.ext hx50
  have ha55 : Apart u43.ownBlock u22.ownBlock := made_ne_own ho47.lt ho35.lt
  have ha57 : Apart u43.ownBlock v23.ownBlock := made_ne_own ho47.lt ho36.lt
  have ha59 : Apart u43.ownBlock (some b14) := made_ne_box ho47.lt hb34.lt
  have hlo61 := Nat.le_trans hX33.size hlo48
  have ho62 := ho47.weaken hX33.size
  refine qd rfl rfl rfl (r_move (v := (.int .i64 (rootM ([]) ([]) fs))) rfl) ?_
  refine qd rfl rfl rfl (r_assign (v := (.pointer (some ⟨b42, 0, none⟩))) rfl) ?_
  refine qd rfl rfl rfl (r_assign (v := (.int .i64 (rootM ([]) ([]) fs))) rfl) ?_
  refine qe ?_
  refine s_then ?_
  refine wp_ret ?_
  refine s_ret ?_
  refine c_ret2 (v := (.pointer (some ⟨b42, 0, none⟩))) (u := (.int .i64 (rootM ([]) ([]) fs))) rfl rfl rfl rfl rfl ?_
  have hod := (⟨⟨hb54, ho52, ho53, ha37, ha38, ha39⟩, hb46, (ho62.weaken (Nat.zero_le _)), ha49, ha59.symm, ha55.symm, ha57.symm⟩ : Od 69 3 _ _ b42 b14 _ _ _ _ _ _)
  have hrt := hsb.2.1
  rw [hsb.1] at hod
  exact ⟨b42, b14, u22, v23, u43, _, _, congrArg (fun z => Ending.returned (.tuple #[.pointer (some ⟨b42, 0, none⟩), .int .i64 z])) hrt, hod, KAll.zero, (lo_own ho62), hX51⟩

theorem l6Through_spec {w : World} {G : Pin} {o b : Nat} {bu bv kv : Value} {ns : List Nd} {bs : List Int} {ks : List Int} {y z : Int} {lf : Bool} (hP : Pins G w) (hO : Od 69 3 G w o b bu bv kv ns bs ks) (hy : 0 ≤ y ∧ y < ns.length) (hz : 0 ≤ z ∧ z < ns.length) (hok : BookOk ns bs) (hka : KAll ns ks) :
    Calls Tryd.prog 74 [(.pointer (some ⟨o, 0, none⟩)), (.int .i64 y), (.int .i64 z), (.bool lf)].toArray w fun e w' => ∃ (t : Int) (ks' : List Int) (G' : Pin), e = .returned (.int .i64 t) ∧ thrP ns lf y z t ∧ Od 69 3 G' w' o b bu bv kv ns bs ks' ∧ KAll ns ks' ∧ Ext (inO kv.ownBlock) G w G' w' := by
  refine s_enter (n := 70) Tryd.func74 Tryd.ntmps74 rfl rfl ?_
  have hX0 : Ext (inO kv.ownBlock) G w G w := Ext.refl hP
  have hB := hO.bk
  have hbx := hB.bx
  have hou := hB.ou
  have hov := hB.ov
  have habu := hB.abu
  have habv := hB.abv
  have hauv := hB.auv
  have hlen := hok.len
  have hlim := hok.lim
  have hox := hO.ox
  have hok2 := hO.ok
  have haok := hO.aok
  have habk := hO.abk
  have hauk := hO.auk
  have havk := hO.avk
  have hlok : Lo w (inO kv.ownBlock) kv.ownBlock := lo_self
  have hoo : OptsOk ns := hok.optsOk
  have hlens := hok.lens
  refine s_seq ?_
  refine c_reg ?_
  refine qd rfl rfl rfl (r_assign (v := (.int .i64 0)) rfl) ?_
  refine qe ?_
  refine s_then ?_
  refine s_seq ?_
  refine s_seq ?_
  refine c_reg ?_
  refine qd rfl rfl rfl (r_move (v := (.bool lf)) rfl) ?_
  refine qe ?_
  refine s_then ?_
  refine c_if rfl rfl (fun h1 => ?_) (fun h1 => ?_)
  · skip
    refine s_seq ?_
    refine c_reg ?_
    refine qd rfl rfl rfl (r_move (v := (.pointer (some ⟨o, 0, none⟩))) rfl) ?_
    refine qd rfl rfl rfl (r_nil rfl) ?_
    refine qd rfl rfl rfl (r_fldp (k := 0) rfl Tryd.underlying74 rfl nz72 rfl) ?_
    refine qd rfl rfl rfl (r_ldp1 (u := (.pointer (some ⟨b, 0, none⟩))) ag72 rfl (hox.cell (o := 0) rfl)) ?_
    refine qd rfl rfl rfl (r_nil rfl) ?_
    refine qd rfl rfl rfl (r_fldp (k := 0) rfl Tryd.underlying71 rfl nz28 rfl) ?_
    refine qd rfl rfl rfl (r_ldp1 (u := bu) ag28 rfl (hbx.cell (o := 0) rfl)) ?_
    refine qd rfl rfl rfl (r_move (v := (.int .i64 z)) rfl) ?_
    refine qd rfl rfl rfl (run_idx Tryd.underlying28 sz69 (v := bu) rfl rfl hou.read (by omega) (by omega)) ?_
    refine qd rfl rfl rfl (run_fld (off := 1) Tryd.underlying69 rfl rfl nz38 (z := z) (k := 0) rfl hou.read (by omega) (by omega)) ?_
    obtain ⟨u2, hr3, hl4⟩ := nm_nr (hou.at (z := z) (by omega) (by omega)) (j := (z).toNat) rfl
    have hm5 := hr3.max
    refine qd rfl rfl rfl (hl4 ag38 rfl (Gadd.pins hX0.pins bu)) ?_
    refine qd rfl rfl rfl (r_assign (v := u2) rfl) ?_
    refine qe ?_
    refine s_then ?_
    refine s_seq ?_
    refine s_seq ?_
    refine c_reg ?_
    refine qd rfl rfl rfl (r_assign (v := (.int .i64 0)) rfl) ?_
    refine qe ?_
    refine s_then ?_
    refine s_blk ?_
    refine s_loop (fun (k : Nat) (en : Nat → Value) (W : World) => ∃ (env1 : Nat → Value) (i : Nat) (kq : List Int) (GL1 : Pin), en = (upd (upd (upd (upd (upd env1 0 (.pointer (some ⟨o, 0, none⟩))) 1 (.int .i64 y)) 2 (.int .i64 z)) 9 u2) 10 (.int .i64 (i : Int))) ∧ k = (ns.getD (z).toNat default).r.length - i ∧ Ext (inO kv.ownBlock) G w GL1 W ∧ Pin.le G GL1 ∧ (i ≤ (ns.getD (z).toNat default).r.length) ∧ (KAll ns kq) ∧ (∀ x, x < i → geB ns y ((ns.getD (z).toNat default).r.getD x 0) = false) ∧ (Own eInt 3 GL1 W 0 kv (kq)) ∧ (Own eNode 69 GL1 W 0 bu (ns)) ∧ (Own eInt 3 GL1 W 0 bv (bs)) ∧ (Bx GL1 W b [bu, bv]) ∧ (Bx GL1 W o [(.pointer (some ⟨b, 0, none⟩)), kv])) _ ⟨_, 0, ks, G, (packS (x := 10) (packS (x := 9) (packS (x := 2) (packS (x := 1) (pack1 (x := 0) rfl) rfl) rfl) rfl) rfl), rfl, hX0, Pin.le_refl _, Nat.zero_le _, hka, (fun x h => absurd h (Nat.not_lt_zero x)), hok2, hou, hov, hbx, hox⟩ ?_
    rintro k6 _ w7 ⟨env1, i, kq, GL1, rfl, hk8, hX9, hlek6, hj, hka1, hpp, hw10, hw11, hw12, hw13, hw14⟩
    refine s_seq ?_
    refine s_seq ?_
    refine c_reg ?_
    refine qd rfl rfl rfl (r_move (v := (.int .i64 (i : Int))) rfl) ?_
    refine qd rfl rfl rfl (r_move (v := u2) rfl) ?_
    refine qd rfl rfl rfl (run_len Tryd.underlying38 (v := u2) rfl hr3) ?_
    refine qd rfl rfl rfl (r_lss rfl rfl) ?_
    refine qe ?_
    refine s_then ?_
    refine c_ifd (p := ((i : Int) : Int) < (((ns.getD (z).toNat default).r).length : Int)) rfl rfl (fun h15 => ?_) (fun h15 => ?_)
    · skip
      have hki := (optsAt hok.optsOk (show (z).toNat < ns.length by omega)).2 _ (getD_mem (d := (0 : Int)) (show i < (ns.getD (z).toNat default).r.length by omega))
      refine wp_skip ?_
      refine s_then ?_
      refine s_seq ?_
      refine s_blk ?_
      refine s_seq ?_
      refine c_reg ?_
      refine qd rfl rfl rfl (r_move (v := (.pointer (some ⟨o, 0, none⟩))) rfl) ?_
      refine qd rfl rfl rfl (r_move (v := (.int .i64 y)) rfl) ?_
      refine qd rfl rfl rfl (r_move (v := u2) rfl) ?_
      refine qd rfl rfl rfl (r_move (v := (.int .i64 (i : Int))) rfl) ?_
      refine qd rfl rfl rfl (run_idx Tryd.underlying38 sz3 (v := u2) rfl rfl hr3 (by omega) (by omega)) ?_
      refine qd rfl rfl rfl (run_load_int (r := ((ns.getD (z).toNat default).r).getD i 0) rfl ag3 (z := (i : Int)) rfl hr3 (Pins.of_le hX9.pins hlek6) (by omega) (by omega)) ?_
      refine q1 rfl rfl rfl (o_call (vs := [(.pointer (some ⟨o, 0, none⟩)), (.int .i64 y), (.int .i64 (((ns.getD (z).toNat default).r).getD i 0))]) Tryd.func60 nm60 rfl rfl rfl ?_)
      refine Calls.mono (geq_spec hX9.pins ⟨⟨hw13, hw11, hw12, habu, habv, hauv⟩, hw14, hw10, haok, habk, hauk, havk⟩ ⟨by omega, by omega⟩ ⟨by omega, by omega⟩ hka1.1 hok (hka1.2 _)) ?_
      rintro _ w18 ⟨ks16, G17, rfl, hd19, hr20, hx21⟩
      refine ⟨_, rfl, ?_⟩
      have hX22 := hX9.trans hx21 (fun i hi => hlok i hi)
      have ho23 := hw11.extS hx21 (notO hauk)
      have ho24 := hw12.extS hx21 (notO havk)
      have hb25 := hw13.extS hx21 (notOb habk)
      have hb26 := hw14.extS hx21 (notOb haok)
      have hkl28 := hr20.len
      have hka29 := KAll.res hka1 hr20
      refine qe ?_
      refine s_then ?_
      refine c_if rfl rfl (fun h30 => ?_) (fun h30 => ?_)
      · skip
        refine s_seq ?_
        refine c_reg ?_
        refine qd rfl rfl rfl (r_move (v := u2) rfl) ?_
        refine qd rfl rfl rfl (r_move (v := (.int .i64 (i : Int))) rfl) ?_
        refine qd rfl rfl rfl (run_idx Tryd.underlying38 sz3 (v := u2) rfl rfl hr3 (by omega) (by omega)) ?_
        refine qd rfl rfl rfl (run_load_int (r := ((ns.getD (z).toNat default).r).getD i 0) rfl ag3 (z := (i : Int)) rfl hr3 (Pins.of_le hX22.pins (Pin.le_trans hlek6 hx21.le)) (by omega) (by omega)) ?_
        refine qd rfl rfl rfl (r_assign (v := (.int .i64 (((ns.getD (z).toNat default).r).getD i 0))) rfl) ?_
        refine qe ?_
        refine s_then ?_
        refine wp_ret ?_
        refine s_ret ?_
        refine c_ret1 (v := (.int .i64 (((ns.getD (z).toNat default).r).getD i 0))) rfl rfl rfl ?_
        exact ⟨_, _, _, rfl, thr_hit hok.optsOk hz (Or.inl ⟨h1, getD_mem (by omega), h30⟩), ⟨⟨hb25, ho23, ho24, habu, habv, hauv⟩, hb26, hd19.ok, haok, habk, hauk, havk⟩, hka29, hX22⟩
      refine wp_skip ?_
      refine s_blkN ?_
      refine s_then ?_
      refine c_reg ?_
      refine qd rfl rfl rfl (r_move (v := (.int .i64 (i : Int))) rfl) ?_
      refine qd rfl rfl rfl (r_add rfl rfl (by omega)) ?_
      refine qd rfl rfl rfl (r_assign (v := (.int .i64 ((i : Int) + 1))) rfl) ?_
      refine qe ?_
      refine s_lopN ?_
      refine ⟨_, ?_, _, rfl, _, i + 1, ks16, G17, (packS (x := 10) (packS (x := 9) (packS (x := 2) (packS (x := 1) (pack1 (x := 0) rfl) rfl) rfl) rfl) rfl), rfl, hX22, (Pin.le_trans hlek6 hx21.le), (by omega), hka29, (fun x h2 => if h3 : x = i then h3 ▸ h30 else hpp x (by omega)), hd19.ok, ho23, ho24, hb25, hb26⟩
      omega
    refine wp_exit ?_
    refine s_thenE ?_
    refine s_lopE ?_
    refine s_blkE ?_
    refine s_then ?_
    refine s_seq ?_
    refine c_reg ?_
    refine qd rfl rfl rfl (r_assign (v := (.int .i64 (-1))) rfl) ?_
    refine qe ?_
    refine s_then ?_
    refine wp_ret ?_
    refine s_ret ?_
    refine c_ret1 (v := (.int .i64 (-1))) rfl rfl rfl ?_
    exact ⟨_, _, _, rfl, (by rw [h1]; exact thr_none_t hok.optsOk hz (fun k hk => hpp k (by omega))), ⟨⟨hw13, hw11, hw12, habu, habv, hauv⟩, hw14, hw10, haok, habk, hauk, havk⟩, hka1, hX9⟩
  refine wp_skip ?_
  refine s_then ?_
  refine s_seq ?_
  refine c_reg ?_
  refine qd rfl rfl rfl (r_move (v := (.pointer (some ⟨o, 0, none⟩))) rfl) ?_
  refine qd rfl rfl rfl (r_nil rfl) ?_
  refine qd rfl rfl rfl (r_fldp (k := 0) rfl Tryd.underlying74 rfl nz72 rfl) ?_
  refine qd rfl rfl rfl (r_ldp1 (u := (.pointer (some ⟨b, 0, none⟩))) ag72 rfl (hox.cell (o := 0) rfl)) ?_
  refine qd rfl rfl rfl (r_nil rfl) ?_
  refine qd rfl rfl rfl (r_fldp (k := 0) rfl Tryd.underlying71 rfl nz28 rfl) ?_
  refine qd rfl rfl rfl (r_ldp1 (u := bu) ag28 rfl (hbx.cell (o := 0) rfl)) ?_
  refine qd rfl rfl rfl (r_move (v := (.int .i64 z)) rfl) ?_
  refine qd rfl rfl rfl (run_idx Tryd.underlying28 sz69 (v := bu) rfl rfl hou.read (by omega) (by omega)) ?_
  refine qd rfl rfl rfl (run_fld (off := 0) Tryd.underlying69 rfl rfl nz38 (z := z) (k := 0) rfl hou.read (by omega) (by omega)) ?_
  obtain ⟨u31, hr32, hl33⟩ := nm_nl (hou.at (z := z) (by omega) (by omega)) (j := (z).toNat) rfl
  have hm34 := hr32.max
  refine qd rfl rfl rfl (hl33 ag38 rfl (Gadd.pins hX0.pins bu)) ?_
  refine qd rfl rfl rfl (r_assign (v := u31) rfl) ?_
  refine qe ?_
  refine s_then ?_
  refine s_seq ?_
  refine s_seq ?_
  refine c_reg ?_
  refine qd rfl rfl rfl (r_assign (v := (.int .i64 0)) rfl) ?_
  refine qe ?_
  refine s_then ?_
  refine s_blk ?_
  refine s_loop (fun (k : Nat) (en : Nat → Value) (W : World) => ∃ (env1 : Nat → Value) (i2 : Nat) (kq : List Int) (GL1 : Pin), en = (upd (upd (upd (upd env1 0 (.pointer (some ⟨o, 0, none⟩))) 1 (.int .i64 y)) 11 u31) 12 (.int .i64 (i2 : Int))) ∧ k = (ns.getD (z).toNat default).l.length - i2 ∧ Ext (inO kv.ownBlock) G w GL1 W ∧ Pin.le G GL1 ∧ (i2 ≤ (ns.getD (z).toNat default).l.length) ∧ (KAll ns kq) ∧ (∀ x, x < i2 → geB ns ((ns.getD (z).toNat default).l.getD x 0) y = false) ∧ (Own eInt 3 GL1 W 0 kv (kq)) ∧ (Own eNode 69 GL1 W 0 bu (ns)) ∧ (Own eInt 3 GL1 W 0 bv (bs)) ∧ (Bx GL1 W b [bu, bv]) ∧ (Bx GL1 W o [(.pointer (some ⟨b, 0, none⟩)), kv])) _ ⟨_, 0, ks, G, (packS (x := 12) (packS (x := 11) (packS (x := 1) (pack1 (x := 0) rfl) rfl) rfl) rfl), rfl, hX0, Pin.le_refl _, Nat.zero_le _, hka, (fun x h => absurd h (Nat.not_lt_zero x)), hok2, hou, hov, hbx, hox⟩ ?_
  rintro k35 _ w36 ⟨env1, i2, kq, GL1, rfl, hk37, hX38, hlek35, hj, hka1, hpp, hw39, hw40, hw41, hw42, hw43⟩
  refine s_seq ?_
  refine s_seq ?_
  refine c_reg ?_
  refine qd rfl rfl rfl (r_move (v := (.int .i64 (i2 : Int))) rfl) ?_
  refine qd rfl rfl rfl (r_move (v := u31) rfl) ?_
  refine qd rfl rfl rfl (run_len Tryd.underlying38 (v := u31) rfl hr32) ?_
  refine qd rfl rfl rfl (r_lss rfl rfl) ?_
  refine qe ?_
  refine s_then ?_
  refine c_ifd (p := ((i2 : Int) : Int) < (((ns.getD (z).toNat default).l).length : Int)) rfl rfl (fun h44 => ?_) (fun h44 => ?_)
  · skip
    have hki := (optsAt hok.optsOk (show (z).toNat < ns.length by omega)).1 _ (getD_mem (d := (0 : Int)) (show i2 < (ns.getD (z).toNat default).l.length by omega))
    refine wp_skip ?_
    refine s_then ?_
    refine s_seq ?_
    refine s_blk ?_
    refine s_seq ?_
    refine c_reg ?_
    refine qd rfl rfl rfl (r_move (v := (.pointer (some ⟨o, 0, none⟩))) rfl) ?_
    refine qd rfl rfl rfl (r_move (v := u31) rfl) ?_
    refine qd rfl rfl rfl (r_move (v := (.int .i64 (i2 : Int))) rfl) ?_
    refine qd rfl rfl rfl (run_idx Tryd.underlying38 sz3 (v := u31) rfl rfl hr32 (by omega) (by omega)) ?_
    refine qd rfl rfl rfl (run_load_int (r := ((ns.getD (z).toNat default).l).getD i2 0) rfl ag3 (z := (i2 : Int)) rfl hr32 (Pins.of_le hX38.pins hlek35) (by omega) (by omega)) ?_
    refine qd rfl rfl rfl (r_move (v := (.int .i64 y)) rfl) ?_
    refine q1 rfl rfl rfl (o_call (vs := [(.pointer (some ⟨o, 0, none⟩)), (.int .i64 (((ns.getD (z).toNat default).l).getD i2 0)), (.int .i64 y)]) Tryd.func60 nm60 rfl rfl rfl ?_)
    refine Calls.mono (geq_spec hX38.pins ⟨⟨hw42, hw40, hw41, habu, habv, hauv⟩, hw43, hw39, haok, habk, hauk, havk⟩ ⟨by omega, by omega⟩ ⟨by omega, by omega⟩ hka1.1 hok (hka1.2 _)) ?_
    rintro _ w47 ⟨ks45, G46, rfl, hd48, hr49, hx50⟩
    refine ⟨_, rfl, ?_⟩
    have hX51 := hX38.trans hx50 (fun i hi => hlok i hi)
    have ho52 := hw40.extS hx50 (notO hauk)
    have ho53 := hw41.extS hx50 (notO havk)
    have hb54 := hw42.extS hx50 (notOb habk)
    have hb55 := hw43.extS hx50 (notOb haok)
    have hkl57 := hr49.len
    have hka58 := KAll.res hka1 hr49
    refine qe ?_
    refine s_then ?_
    refine c_if rfl rfl (fun h59 => ?_) (fun h59 => ?_)
    · skip
      refine s_seq ?_
      refine c_reg ?_
      refine qd rfl rfl rfl (r_move (v := u31) rfl) ?_
      refine qd rfl rfl rfl (r_move (v := (.int .i64 (i2 : Int))) rfl) ?_
      refine qd rfl rfl rfl (run_idx Tryd.underlying38 sz3 (v := u31) rfl rfl hr32 (by omega) (by omega)) ?_
      refine qd rfl rfl rfl (run_load_int (r := ((ns.getD (z).toNat default).l).getD i2 0) rfl ag3 (z := (i2 : Int)) rfl hr32 (Pins.of_le hX51.pins (Pin.le_trans hlek35 hx50.le)) (by omega) (by omega)) ?_
      refine qd rfl rfl rfl (r_assign (v := (.int .i64 (((ns.getD (z).toNat default).l).getD i2 0))) rfl) ?_
      refine qe ?_
      refine s_then ?_
      refine wp_ret ?_
      refine s_ret ?_
      refine c_ret1 (v := (.int .i64 (((ns.getD (z).toNat default).l).getD i2 0))) rfl rfl rfl ?_
      exact ⟨_, _, _, rfl, thr_hit hok.optsOk hz (Or.inr ⟨h1, getD_mem (by omega), h59⟩), ⟨⟨hb54, ho52, ho53, habu, habv, hauv⟩, hb55, hd48.ok, haok, habk, hauk, havk⟩, hka58, hX51⟩
    refine wp_skip ?_
    refine s_blkN ?_
    refine s_then ?_
    refine c_reg ?_
    refine qd rfl rfl rfl (r_move (v := (.int .i64 (i2 : Int))) rfl) ?_
    refine qd rfl rfl rfl (r_add rfl rfl (by omega)) ?_
    refine qd rfl rfl rfl (r_assign (v := (.int .i64 ((i2 : Int) + 1))) rfl) ?_
    refine qe ?_
    refine s_lopN ?_
    refine ⟨_, ?_, _, rfl, _, i2 + 1, ks45, G46, (packS (x := 12) (packS (x := 11) (packS (x := 1) (pack1 (x := 0) rfl) rfl) rfl) rfl), rfl, hX51, (Pin.le_trans hlek35 hx50.le), (by omega), hka58, (fun x h2 => if h3 : x = i2 then h3 ▸ h59 else hpp x (by omega)), hd48.ok, ho52, ho53, hb54, hb55⟩
    omega
  refine wp_exit ?_
  refine s_thenE ?_
  refine s_lopE ?_
  refine s_blkE ?_
  refine s_then ?_
  refine s_seq ?_
  refine c_reg ?_
  refine qd rfl rfl rfl (r_assign (v := (.int .i64 (-1))) rfl) ?_
  refine qe ?_
  refine s_then ?_
  refine wp_ret ?_
  refine s_ret ?_
  refine c_ret1 (v := (.int .i64 (-1))) rfl rfl rfl ?_
  exact ⟨_, _, _, rfl, (by rw [h1]; exact thr_none_f hok.optsOk hz (fun k hk => hpp k (by omega))), ⟨⟨hw42, hw40, hw41, habu, habv, hauv⟩, hw43, hw39, haok, habk, hauk, havk⟩, hka1, hX38⟩

theorem l6Reversible_spec {w : World} {G : Pin} {o b : Nat} {bu bv kv : Value} {ns : List Nd} {bs : List Int} {ks : List Int} {y : Int} {x : Value} {xs : List Int} {lf : Bool} (hP : Pins G w) (hO : Od 69 3 G w o b bu bv kv ns bs ks) (hy : 0 ≤ y ∧ y < ns.length) (hx : RSl eInt G x xs) (hxl : xs.length ≤ 1048576) (hpl : ∀ i, i < xs.length → 0 ≤ xs.getD i 0 ∧ xs.getD i 0 < ns.length) (hok : BookOk ns bs) (hka : KAll ns ks) :
    Calls Tryd.prog 51 [(.pointer (some ⟨o, 0, none⟩)), (.int .i64 y), x, (.bool lf)].toArray w fun e w' => ∃ (u : Value) (ks' : List Int) (G' : Pin), e = .returned u ∧ RSl eInt G' u (revL (gN ns xs) (den ns (y).toNat) lf xs.length) ∧ Od 69 3 G' w' o b bu bv kv ns bs ks' ∧ KAll ns ks' ∧ Ext (inO kv.ownBlock) G w G' w' := by
  refine s_enter (n := 32) Tryd.func51 Tryd.ntmps51 rfl rfl ?_
  have hX0 : Ext (inO kv.ownBlock) G w G w := Ext.refl hP
  have hB := hO.bk
  have hbx := hB.bx
  have hou := hB.ou
  have hov := hB.ov
  have habu := hB.abu
  have habv := hB.abv
  have hauv := hB.auv
  have hlen := hok.len
  have hlim := hok.lim
  have hox := hO.ox
  have hok2 := hO.ok
  have haok := hO.aok
  have habk := hO.abk
  have hauk := hO.auk
  have havk := hO.avk
  have hlok : Lo w (inO kv.ownBlock) kv.ownBlock := lo_self
  have hoo : OptsOk ns := hok.optsOk
  have hlens := hok.lens
  have hxm := hx.max
  refine s_seq ?_
  refine c_reg ?_
  refine qd rfl rfl rfl (r_assign (v := (.slice none 0 0)) rfl) ?_
  refine qe ?_
  refine s_then ?_
  refine s_seq ?_
  refine c_reg ?_
  refine q1 rfl rfl rfl (o_build0 (E := eInt) (e := 3) Tryd.underlying38 sz3 hX0.pins (fun u1 w2 ho3 hp4 hl5 hk6 => ?_))
  have hX7 := hX0.step hp4 hl5
  have ho8 := hou.below hl5
  have ho9 := hov.below hl5
  have ho10 := hok2.below hl5
  have hb11 := hbx.below hl5
  have hb12 := hox.below hl5
  have ha13 : Apart u1.ownBlock bu.ownBlock := new_ne_own hk6 hou.lt
  have ha14 : Apart u1.ownBlock bv.ownBlock := new_ne_own hk6 hov.lt
  have ha15 : Apart u1.ownBlock kv.ownBlock := new_ne_own hk6 hok2.lt
  have ha16 : Apart u1.ownBlock (some b) := new_ne_box hk6 hbx.lt
  have ha17 : Apart u1.ownBlock (some o) := new_ne_box hk6 hox.lt
  have ho18 : Own eInt 3 G w2 w.heap.size u1 ([]) := ho3.weaken hX0.size
  refine qd rfl rfl rfl (r_assign (v := u1) rfl) ?_
  refine qe ?_
  refine s_then ?_
  refine s_seq ?_
  refine s_seq ?_
  refine c_reg ?_
  refine qd rfl rfl rfl (r_assign (v := (.int .i64 0)) rfl) ?_
  refine qe ?_
  refine s_then ?_
  refine s_blk ?_
  refine s_loop (fun (k : Nat) (en : Nat → Value) (W : World) => ∃ (env1 : Nat → Value) (i : Nat) (kq : List Int) (ov : Value) (out : List Int) (GL1 : Pin), en = (upd (upd (upd (upd (upd (upd (upd env1 0 (.pointer (some ⟨o, 0, none⟩))) 1 (.int .i64 y)) 2 x) 3 (.bool lf)) 8 (.slice none 0 0)) 9 ov) 10 (.int .i64 (i : Int))) ∧ k = xs.length - i ∧ Ext (inO kv.ownBlock) G w GL1 W ∧ Pin.le G GL1 ∧ (i ≤ xs.length) ∧ (KAll ns kq) ∧ (out = revL (gN ns xs) (den ns (y).toNat) lf i) ∧ (Own eInt 3 GL1 W 0 kv (kq)) ∧ (Own eInt 3 GL1 W w.heap.size ov (out)) ∧ (Own eNode 69 GL1 W 0 bu (ns)) ∧ (Own eInt 3 GL1 W 0 bv (bs)) ∧ (Bx GL1 W b [bu, bv]) ∧ (Bx GL1 W o [(.pointer (some ⟨b, 0, none⟩)), kv]) ∧ (Apart kv.ownBlock ov.ownBlock) ∧ (Apart ov.ownBlock bu.ownBlock) ∧ (Apart ov.ownBlock bv.ownBlock) ∧ (Apart ov.ownBlock (some b)) ∧ (Apart ov.ownBlock (some o))) _ ⟨_, 0, ks, u1, [], G, (packS (x := 10) (packS (x := 9) (packS (x := 8) (packS (x := 3) (packS (x := 2) (packS (x := 1) (pack1 (x := 0) rfl) rfl) rfl) rfl) rfl) rfl) rfl), rfl, hX7, Pin.le_refl _, Nat.zero_le _, hka, rfl, ho10, ho18, ho8, ho9, hb11, hb12, ha15.symm, ha13, ha14, ha16, ha17⟩ ?_
  rintro k19 _ w20 ⟨env1, i, kq, ov, out, GL1, rfl, hk21, hX22, hlek19, hi, hka1, hout, hw23, hw24, hw25, hw26, hw27, hw28, ha29, ha30, ha31, ha32, ha33⟩
  have hol : out.length ≤ i := by rw [hout]; exact rev_len i
  refine s_seq ?_
  refine s_seq ?_
  refine c_reg ?_
  refine qd rfl rfl rfl (r_move (v := (.int .i64 (i : Int))) rfl) ?_
  refine qd rfl rfl rfl (r_move (v := x) rfl) ?_
  refine qd rfl rfl rfl (run_len Tryd.underlying38 (v := x) rfl hx) ?_
  refine qd rfl rfl rfl (r_lss rfl rfl) ?_
  refine qe ?_
  refine s_then ?_
  refine c_ifd (p := ((i : Int) : Int) < (xs.length : Int)) rfl rfl (fun h34 => ?_) (fun h34 => ?_)
  · skip
    refine wp_skip ?_
    refine s_then ?_
    refine s_seq ?_
    refine s_blk ?_
    refine s_seq ?_
    refine c_reg ?_
    refine qd rfl rfl rfl (r_move (v := (.pointer (some ⟨o, 0, none⟩))) rfl) ?_
    refine qd rfl rfl rfl (r_move (v := (.int .i64 y)) rfl) ?_
    refine qd rfl rfl rfl (r_move (v := x) rfl) ?_
    refine qd rfl rfl rfl (r_move (v := (.int .i64 (i : Int))) rfl) ?_
    refine qd rfl rfl rfl (run_idx Tryd.underlying38 sz3 (v := x) rfl rfl hx (by omega) (by omega)) ?_
    refine qd rfl rfl rfl (run_load_int (r := xs.getD i 0) rfl ag3 (z := (i : Int)) rfl hx (Pins.of_le hX22.pins hlek19) (by omega) (by omega)) ?_
    refine qd rfl rfl rfl (r_move (v := (.bool lf)) rfl) ?_
    refine q1 rfl rfl rfl (o_call (vs := [(.pointer (some ⟨o, 0, none⟩)), (.int .i64 y), (.int .i64 (xs.getD i 0)), (.bool lf)]) Tryd.func74 nm74 rfl rfl rfl ?_)
    refine Calls.mono (l6Through_spec (lf := lf) hX22.pins ⟨⟨hw27, hw25, hw26, habu, habv, hauv⟩, hw28, hw23, haok, habk, hauk, havk⟩ hy (hpl i (by omega)) hok hka1) ?_
    rintro _ w38 ⟨t35, ks36, G37, rfl, hthr39, hd40, hka41, hx42⟩
    refine ⟨_, rfl, ?_⟩
    have hX43 := hX22.trans hx42 (fun i hi => hlok i hi)
    have ho44 := hw24.extS hx42 (notO ha29.symm)
    have ho45 := hw25.extS hx42 (notO hauk)
    have ho46 := hw26.extS hx42 (notO havk)
    have hb47 := hw27.extS hx42 (notOb habk)
    have hb48 := hw28.extS hx42 (notOb haok)
    refine qd rfl rfl rfl (r_geq rfl rfl) ?_
    refine qe ?_
    refine s_then ?_
    refine c_ifd (p := (0 : Int) ≤ t35) rfl rfl (fun h49 => ?_) (fun h49 => ?_)
    · skip
      refine c_reg ?_
      refine qd rfl rfl rfl (r_move (v := ov) rfl) ?_
      refine qd rfl rfl rfl (r_move (v := (.int .i64 (i : Int))) rfl) ?_
      refine q1 rfl rfl rfl (o_buildF (E := eInt) (e := 3) [(.int .i64 (i : Int))] [(i : Int)] Tryd.underlying38 sz3 zr3 (by exact reps1 (by rfl)) (ones1 (by rfl)) rfl rfl rfl rfl (by decide) hX43.pins (fun u50 w51 ho52 hp53 hl54 hk55 => ?_))
      have hX56 := hX43.step hp53 hl54
      have ho57 := hd40.ok.below hl54
      have ho58 := ho44.below hl54
      have ho59 := ho45.below hl54
      have ho60 := ho46.below hl54
      have hb61 := hb47.below hl54
      have hb62 := hb48.below hl54
      have ha64 : Apart u50.ownBlock ov.ownBlock := new_ne_own hk55 ho44.lt
      have ho69 : Own eInt 3 G37 w51 w.heap.size u50 ([(i : Int)]) := ho52.weaken hX43.size
      refine q1 rfl rfl rfl (o_append (E := eInt) (v := ov) (u := u50) 8 Tryd.underlying38 ap3 (by decide) rfl rfl hX56.pins ho58 ho69.src (by first | omega | (rw [List.nil_append]; omega) | (rw [List.length_nil]; omega) | (rw [List.length_append]; omega) | (simp; done) | (simp; omega) | (simp only [List.length_append, List.length_cons, List.length_nil]; omega)) (by first | omega | (rw [List.nil_append]; omega) | (rw [List.length_nil]; omega) | (rw [List.length_append]; omega) | (simp; done) | (simp; omega) | (simp only [List.length_append, List.length_cons, List.length_nil]; omega)) (hX56.size) (fun u70 w71 ho72 hp73 hg74 hw75 => ?_))
      have hX76 := hX56.write hp73 hg74 ((lo_own ho58))
      have ho77 := ho57.keptA hg74 ha29
      have ho78 := ho59.keptA hg74 ha30.symm
      have ho79 := ho60.keptA hg74 ha31.symm
      have hb81 := hb61.keptA hg74 ha32.symm
      have hb82 := hb62.keptA hg74 ha33.symm
      have ha83 : Apart kv.ownBlock u70.ownBlock := app_ne_own ha29 hw75 ho57.lt
      have ha84 : Apart bu.ownBlock u70.ownBlock := app_ne_own ha30.symm hw75 ho59.lt
      have ha85 : Apart bv.ownBlock u70.ownBlock := app_ne_own ha31.symm hw75 ho60.lt
      have ha86 : Apart u50.ownBlock u70.ownBlock := app_ne_own ha64 hw75 ho69.lt
      have ha87 : Apart (some b) u70.ownBlock := app_ne_box ha32.symm hw75 hb61.lt
      have ha88 : Apart (some o) u70.ownBlock := app_ne_box ha33.symm hw75 hb62.lt
      have hm89 : (out ++ ([(i : Int)])).length = out.length + 1 := List.length_append
      refine qd rfl rfl rfl (r_assign (v := u70) rfl) ?_
      refine qe ?_
      refine s_blkN ?_
      refine s_then ?_
      refine c_reg ?_
      refine qd rfl rfl rfl (r_move (v := (.int .i64 (i : Int))) rfl) ?_
      refine qd rfl rfl rfl (r_add rfl rfl (by omega)) ?_
      refine qd rfl rfl rfl (r_assign (v := (.int .i64 ((i : Int) + 1))) rfl) ?_
      refine qe ?_
      refine s_lopN ?_
      refine ⟨_, ?_, _, rfl, _, i + 1, ks36, u70, out ++ ([(i : Int)]), G37, (packS (x := 10) (packS (x := 9) (packS (x := 8) (packS (x := 3) (packS (x := 2) (packS (x := 1) (pack1 (x := 0) rfl) rfl) rfl) rfl) rfl) rfl) rfl), rfl, hX76, (Pin.le_trans hlek19 hx42.le), (by omega), hka41, (by rw [rev_hit (g := gN ns xs) (f := den ns (y).toNat) (lf := lf) (i := i) (hthr39.1.1 h49), hout]), ho77, ho72, ho78, ho79, hb81, hb82, ha83, ha84.symm, ha85.symm, ha87.symm, ha88.symm⟩
      omega
    refine wp_skip ?_
    refine s_blkN ?_
    refine s_then ?_
    refine c_reg ?_
    refine qd rfl rfl rfl (r_move (v := (.int .i64 (i : Int))) rfl) ?_
    refine qd rfl rfl rfl (r_add rfl rfl (by omega)) ?_
    refine qd rfl rfl rfl (r_assign (v := (.int .i64 ((i : Int) + 1))) rfl) ?_
    refine qe ?_
    refine s_lopN ?_
    refine ⟨_, ?_, _, rfl, _, i + 1, ks36, ov, out, G37, (packS (x := 10) (packS (x := 9) (packS (x := 8) (packS (x := 3) (packS (x := 2) (packS (x := 1) (pack1 (x := 0) rfl) rfl) rfl) rfl) rfl) rfl) rfl), rfl, hX43, (Pin.le_trans hlek19 hx42.le), (by omega), hka41, (by rw [rev_miss (g := gN ns xs) (f := den ns (y).toNat) (lf := lf) (i := i) (fun h => h49 (hthr39.1.2 h)), hout]), hd40.ok, ho44, ho45, ho46, hb47, hb48, ha29, ha30, ha31, ha32, ha33⟩
    omega
  refine wp_exit ?_
  refine s_thenE ?_
  refine s_lopE ?_
  refine s_blkE ?_
  refine s_then ?_
  refine s_seq ?_
  refine c_reg ?_
  refine qd rfl rfl rfl (r_move (v := ov) rfl) ?_
  refine qd rfl rfl rfl (r_assign (v := ov) rfl) ?_
  refine qe ?_
  refine s_then ?_
  refine wp_ret ?_
  refine s_ret ?_
  refine c_ret1 (v := ov) rfl rfl rfl ?_
  obtain ⟨G90, hle93, hX92, hr91, hf94⟩ := hw24.sealed hX22
  have ho95 := hw23.moreO hle93 hf94 ha29
  have ho96 := hw25.moreO hle93 hf94 ha30.symm
  have ho97 := hw26.moreO hle93 hf94 ha31.symm
  have hb98 := hw27.moreO hf94 ha32.symm
  have hb99 := hw28.moreO hf94 ha33.symm
  have hin : i = xs.length := by omega
  rw [hin] at hout
  exact ⟨_, _, _, rfl, (by rw [← hout]; exact hr91), ⟨⟨hb98, ho96, ho97, habu, habv, hauv⟩, hb99, ho95, haok, habk, hauk, havk⟩, hka1, hX92⟩

theorem sReversibleIn_spec {w : World} {G : Pin} {v : Value} {fs : List Nd} (hP : Pins G w) (hv : RSl eNode G v fs) :
    Calls Tryd.prog 30 [(.agg [v].toArray)].toArray w fun e w' => ∃ (u1 u2 : Value) (G' : Pin), e = .returned (.tuple #[u1, u2, .bool (goodB fs)]) ∧ RSl eInt G' u1 (reL fs) ∧ RSl eInt G' u2 (reR fs) ∧ Ext noS G w G' w' := by
  refine s_enter (n := 45) Tryd.func30 Tryd.ntmps30 rfl rfl ?_
  have hX0 : Ext noS G w G w := Ext.refl hP
  refine s_seq ?_
  refine c_reg ?_
  refine q1 rfl rfl rfl (o_box [v] (v := (.agg [v].toArray)) rfl rfl hX0.pins (fun b1 w2 hk3 hb4 hp5 hl6 => ?_))
  have hX7 := hX0.step hp5 hl6
  have hlo8 : w.heap.size ≤ b1 := by have := hX0.size; omega
  obtain ⟨G9, hle10, hX11, hbp12, hf13⟩ := hb4.shut hX7 hlo8
  refine qd rfl rfl rfl (r_assign (v := (.slice none 0 0)) rfl) ?_
  refine qd rfl rfl rfl (r_assign (v := (.slice none 0 0)) rfl) ?_
  refine qd rfl rfl rfl (r_assign (v := (.bool false)) rfl) ?_
  refine qe ?_
  refine s_then ?_
  refine s_seq ?_
  refine s_seq ?_
  refine c_reg ?_
  refine qd rfl rfl rfl (r_ldpA (cs := [v]) ag30 sz30 rfl (fun j u hj => hX11.pins _ _ _ (hbp12 _ _ (by simpa using hj)))) ?_
  refine q1 rfl rfl rfl (o_call (vs := [(.agg [v].toArray)]) Tryd.func33 nm33 rfl rfl rfl ?_)
  refine Calls.mono (l3Good_spec hX11.pins (hv.mono hle10)) ?_
  rintro _ w15 ⟨G14, rfl, hx16⟩
  refine ⟨_, rfl, ?_⟩
  have hX17 := hX11.tr hx16
  refine qd rfl rfl rfl (r_not rfl) ?_
  refine qe ?_
  refine s_then ?_
  refine c_ifn rfl rfl (fun h18 => ?_) (fun h18 => ?_)
  · skip
    refine wp_skip ?_
    refine s_then ?_
    refine s_seq ?_
    refine c_reg ?_
    have hgb : goodB fs = true := (good_eq fs).symm.trans h18
    have hga : GoodP fs := goodB_true.1 hgb
    have hsb := self_book hga
    have hla := hga.lo
    have hha := hga.hi
    have hlb := last_bounds hga
    have htn : (((fs.length - 1 : Nat) : Int)).toNat = fs.length - 1 := Int.toNat_natCast _
    refine qd rfl rfl rfl (r_ldpA (cs := [v]) ag30 sz30 rfl (fun j u hj => (Pins.of_le hX17.pins hx16.le) _ _ _ (hbp12 _ _ (by simpa using hj)))) ?_
    refine q1 rfl rfl rfl (o_call (vs := [(.agg [v].toArray)]) Tryd.func47 nm47 rfl rfl rfl ?_)
    refine Calls.mono (l6Book_spec hX17.pins (hv.mono (Pin.le_trans hle10 hx16.le)) hga) ?_
    rintro _ w26 ⟨o19, b20, bu21, bv22, kv23, ks24, G25, rfl, hd27, hka28, hlo29, hx30⟩
    refine ⟨_, rfl, ?_⟩
    have hX31 := hX17.tr hx30
    have hlo32 : Lo w (noS) kv23.ownBlock := fun k hk => (hlo29 k hk).imp (fun h => Nat.le_trans hX17.size h) (fun h => absurd h id)
    refine qd rfl rfl rfl (r_move (v := (.tuple #[(.pointer (some ⟨o19, 0, none⟩)), (.int .i64 ((fs.length - 1 : Nat) : Int))])) rfl) ?_
    refine qd rfl rfl rfl (r_extract (v := (.pointer (some ⟨o19, 0, none⟩))) rfl rfl) ?_
    refine qd rfl rfl rfl (r_extract (v := (.int .i64 ((fs.length - 1 : Nat) : Int))) rfl rfl) ?_
    refine qd rfl rfl rfl (r_assign (v := (.pointer (some ⟨o19, 0, none⟩))) rfl) ?_
    refine qd rfl rfl rfl (r_assign (v := (.int .i64 ((fs.length - 1 : Nat) : Int))) rfl) ?_
    refine qe ?_
    refine s_then ?_
    refine s_seq ?_
    have hq33 := Gadd.pins hX31.pins bu21
    have hr34 := hd27.bk.ou.read
    refine c_draw (S := fun wz => BxR wz o19 [(.pointer (some ⟨b20, 0, none⟩)), kv23] ∧ BxR wz b20 [bu21, bv22] ∧ Pins (Gadd G25 w26 bu21) wz) (last := 31) (by kernel_rfl) rfl ?_
    have hl35 : Below w26.heap.size w26 w26.drew := (Below.refl _ _).drew
    have hp36 := hX31.pins.below hl35
    have hX37 := hX31.step hp36 hl35
    have ho38 := hd27.bk.ou.below hl35
    have ho39 := hd27.bk.ov.below hl35
    have ho40 := hd27.ok.below hl35
    have hb41 := hd27.ox.below hl35
    have hb42 := hd27.bk.bx.below hl35
    have hq43 := hq33.below hl35
    refine dr_take (i := 0) rfl rfl rfl (want_none rfl _) (by kernel_rfl) (fun _ _ => r_move (v := (.pointer (some ⟨o19, 0, none⟩))) rfl) ⟨hb41.reads, hb42.reads, hq43⟩ ?_
    refine dr_take (i := 1) rfl rfl rfl (want_none rfl _) (by kernel_rfl) (fun _ _ => r_move (v := (.int .i64 ((fs.length - 1 : Nat) : Int))) rfl) ⟨hb41.reads, hb42.reads, hq43⟩ ?_
    refine dr_take (i := 2) rfl rfl rfl (want_none rfl _) (by kernel_rfl) (fun _ _ => r_move (v := (.pointer (some ⟨o19, 0, none⟩))) rfl) ⟨hb41.reads, hb42.reads, hq43⟩ ?_
    refine dr_take (i := 3) rfl rfl rfl (want_none rfl _) (by kernel_rfl) (fun _ _ => r_nil rfl) ⟨hb41.reads, hb42.reads, hq43⟩ ?_
    refine dr_take (i := 4) rfl rfl rfl (want_none rfl _) (by kernel_rfl) (fun _ _ => r_fldp (k := 0) rfl Tryd.underlying74 rfl nz72 rfl) ⟨hb41.reads, hb42.reads, hq43⟩ ?_
    refine dr_take (i := 5) rfl rfl rfl (want_none rfl _) (by kernel_rfl) (fun _ hS => r_ldp1 (u := (.pointer (some ⟨b20, 0, none⟩))) ag72 rfl (hS.1 0 _ rfl)) ⟨hb41.reads, hb42.reads, hq43⟩ ?_
    refine dr_take (i := 6) rfl rfl rfl (want_none rfl _) (by kernel_rfl) (fun _ _ => r_nil rfl) ⟨hb41.reads, hb42.reads, hq43⟩ ?_
    refine dr_take (i := 7) rfl rfl rfl (want_none rfl _) (by kernel_rfl) (fun _ _ => r_fldp (k := 0) rfl Tryd.underlying71 rfl nz28 rfl) ⟨hb41.reads, hb42.reads, hq43⟩ ?_
    refine dr_take (i := 8) rfl rfl rfl (want_none rfl _) (by kernel_rfl) (fun _ hS => r_ldp1 (u := bu21) ag28 rfl (hS.2.1 0 _ rfl)) ⟨hb41.reads, hb42.reads, hq43⟩ ?_
    refine dr_take (i := 9) rfl rfl rfl (want_none rfl _) (by kernel_rfl) (fun _ _ => r_move (v := (.int .i64 ((fs.length - 1 : Nat) : Int))) rfl) ⟨hb41.reads, hb42.reads, hq43⟩ ?_
    refine dr_take (i := 10) rfl rfl rfl (want_none rfl _) (by kernel_rfl) (fun _ _ => run_idx Tryd.underlying28 sz69 (v := bu21) rfl rfl hr34 (by omega) (by omega)) ⟨hb41.reads, hb42.reads, hq43⟩ ?_
    refine dr_take (i := 11) rfl rfl rfl (want_none rfl _) (by kernel_rfl) (fun _ _ => run_fld (off := 0) Tryd.underlying69 rfl rfl nz38 (z := ((fs.length - 1 : Nat) : Int)) (k := 0) rfl hr34 (by omega) (by omega)) ⟨hb41.reads, hb42.reads, hq43⟩ ?_
    obtain ⟨u44, hr45, hl46⟩ := nm_nl (hd27.bk.ou.at (z := ((fs.length - 1 : Nat) : Int)) (by omega) (by omega)) (j := (fs.length - 1 : Nat)) rfl
    have hm47 := hr45.max
    refine dr_take (i := 12) rfl rfl rfl (want_none rfl _) (by kernel_rfl) (fun _ hS => hl46 ag38 rfl hS.2.2) ⟨hb41.reads, hb42.reads, hq43⟩ ?_
    refine dr_take (i := 14) rfl rfl rfl (want_none rfl _) (by kernel_rfl) (fun _ _ => r_move (v := (.pointer (some ⟨o19, 0, none⟩))) rfl) ⟨hb41.reads, hb42.reads, hq43⟩ ?_
    refine dr_take (i := 15) rfl rfl rfl (want_none rfl _) (by kernel_rfl) (fun _ _ => r_move (v := (.int .i64 ((fs.length - 1 : Nat) : Int))) rfl) ⟨hb41.reads, hb42.reads, hq43⟩ ?_
    refine dr_take (i := 16) rfl rfl rfl (want_none rfl _) (by kernel_rfl) (fun _ _ => r_move (v := (.pointer (some ⟨o19, 0, none⟩))) rfl) ⟨hb41.reads, hb42.reads, hq43⟩ ?_
    refine dr_take (i := 17) rfl rfl rfl (want_none rfl _) (by kernel_rfl) (fun _ _ => r_nil rfl) ⟨hb41.reads, hb42.reads, hq43⟩ ?_
    refine dr_take (i := 18) rfl rfl rfl (want_none rfl _) (by kernel_rfl) (fun _ _ => r_fldp (k := 0) rfl Tryd.underlying74 rfl nz72 rfl) ⟨hb41.reads, hb42.reads, hq43⟩ ?_
    refine dr_take (i := 19) rfl rfl rfl (want_none rfl _) (by kernel_rfl) (fun _ hS => r_ldp1 (u := (.pointer (some ⟨b20, 0, none⟩))) ag72 rfl (hS.1 0 _ rfl)) ⟨hb41.reads, hb42.reads, hq43⟩ ?_
    refine dr_take (i := 20) rfl rfl rfl (want_none rfl _) (by kernel_rfl) (fun _ _ => r_nil rfl) ⟨hb41.reads, hb42.reads, hq43⟩ ?_
    refine dr_take (i := 21) rfl rfl rfl (want_none rfl _) (by kernel_rfl) (fun _ _ => r_fldp (k := 0) rfl Tryd.underlying71 rfl nz28 rfl) ⟨hb41.reads, hb42.reads, hq43⟩ ?_
    refine dr_take (i := 22) rfl rfl rfl (want_none rfl _) (by kernel_rfl) (fun _ hS => r_ldp1 (u := bu21) ag28 rfl (hS.2.1 0 _ rfl)) ⟨hb41.reads, hb42.reads, hq43⟩ ?_
    refine dr_take (i := 23) rfl rfl rfl (want_none rfl _) (by kernel_rfl) (fun _ _ => r_move (v := (.int .i64 ((fs.length - 1 : Nat) : Int))) rfl) ⟨hb41.reads, hb42.reads, hq43⟩ ?_
    refine dr_take (i := 24) rfl rfl rfl (want_none rfl _) (by kernel_rfl) (fun _ _ => run_idx Tryd.underlying28 sz69 (v := bu21) rfl rfl hr34 (by omega) (by omega)) ⟨hb41.reads, hb42.reads, hq43⟩ ?_
    refine dr_take (i := 25) rfl rfl rfl (want_none rfl _) (by kernel_rfl) (fun _ _ => run_fld (off := 1) Tryd.underlying69 rfl rfl nz38 (z := ((fs.length - 1 : Nat) : Int)) (k := 0) rfl hr34 (by omega) (by omega)) ⟨hb41.reads, hb42.reads, hq43⟩ ?_
    obtain ⟨u48, hr49, hl50⟩ := nm_nr (hd27.bk.ou.at (z := ((fs.length - 1 : Nat) : Int)) (by omega) (by omega)) (j := (fs.length - 1 : Nat)) rfl
    have hm51 := hr49.max
    refine dr_take (i := 26) rfl rfl rfl (want_none rfl _) (by kernel_rfl) (fun _ hS => hl50 ag38 rfl hS.2.2) ⟨hb41.reads, hb42.reads, hq43⟩ ?_
    refine dr_one (i := 13) (by kernel_rfl) (drOp1 (i := 13) rfl rfl rfl (want_none rfl _) (o_call (vs := [(.pointer (some ⟨o19, 0, none⟩)), (.int .i64 ((fs.length - 1 : Nat) : Int)), u44, (.bool true)]) Tryd.func51 nm51 rfl rfl rfl ?_))
    refine Calls.mono (l6Reversible_spec hX37.pins ⟨⟨hb42, ho38, ho39, hd27.bk.abu, hd27.bk.abv, hd27.bk.auv⟩, hb41, ho40, hd27.aok, hd27.abk, hd27.auk, hd27.avk⟩ (lf := true) ⟨by omega, by omega⟩ hr45 hlb.1.1 hlb.1.2 hsb.2.2.1 hka28) ?_
    rintro _ w55 ⟨u52, ks53, G54, rfl, hr56, hd57, hka58, hx59⟩
    refine ⟨_, rfl, ?_⟩
    have hX60 := hX37.trans hx59 (fun i hi => hlo32 i hi)
    have ho61 := ho38.extS hx59 (notO hd27.auk)
    have ho62 := ho39.extS hx59 (notO hd27.avk)
    have hb63 := hb41.extS hx59 (notOb hd27.aok)
    have hb64 := hb42.extS hx59 (notOb hd27.abk)
    have hq65 := Gadd.turn hq43 (Pins.of_le hX60.pins hx59.le) hx59 (notO hd27.auk)
    refine ⟨fun _ => ⟨hb63.reads, hb64.reads, hq65⟩, ?_⟩
    refine dr_one (i := 27) (by kernel_rfl) (drOp1 (i := 27) rfl rfl rfl (want_none rfl _) (o_call (vs := [(.pointer (some ⟨o19, 0, none⟩)), (.int .i64 ((fs.length - 1 : Nat) : Int)), u48, (.bool false)]) Tryd.func51 nm51 rfl rfl rfl ?_))
    refine Calls.mono (l6Reversible_spec hX60.pins ⟨⟨hb64, ho61, ho62, hd27.bk.abu, hd27.bk.abv, hd27.bk.auv⟩, hb63, hd57.ok, hd27.aok, hd27.abk, hd27.auk, hd27.avk⟩ (lf := false) ⟨by omega, by omega⟩ (hr49.mono hx59.le) hlb.2.1 hlb.2.2 hsb.2.2.1 hka58) ?_
    rintro _ w69 ⟨u66, ks67, G68, rfl, hr70, hd71, hka72, hx73⟩
    refine ⟨_, rfl, ?_⟩
    have hX74 := hX60.trans hx73 (fun i hi => hlo32 i hi)
    have hb77 := hb63.extS hx73 (notOb hd27.aok)
    have hb78 := hb64.extS hx73 (notOb hd27.abk)
    have hq79 := Gadd.turn hq65 (Pins.of_le hX74.pins (Pin.le_trans hx59.le hx73.le)) hx73 (notO hd27.auk)
    refine ⟨fun _ => ⟨hb77.reads, hb78.reads, hq79⟩, ?_⟩
    refine dr_take (i := 28) rfl rfl rfl (want_none rfl _) (by kernel_rfl) (fun _ _ => r_assign (v := u52) rfl) ⟨hb77.reads, hb78.reads, hq79⟩ ?_
    refine dr_take (i := 29) rfl rfl rfl (want_none rfl _) (by kernel_rfl) (fun _ _ => r_assign (v := u66) rfl) ⟨hb77.reads, hb78.reads, hq79⟩ ?_
    refine dr_take (i := 30) rfl rfl rfl (want_none rfl _) (by kernel_rfl) (fun _ _ => r_assign (v := (.bool true)) rfl) ⟨hb77.reads, hb78.reads, hq79⟩ ?_
    refine dr_end (by kernel_rfl) ?_
    refine s_then ?_
    refine wp_ret ?_
    refine s_ret ?_
    refine c_ret3 (v := u52) (u := u66) (x := (.bool true)) rfl rfl rfl rfl rfl rfl rfl ?_
    have hgo : gOf fs = den fs (((fs.length - 1 : Nat) : Int)).toNat := by rw [htn]; rfl
    rw [hgb, (re_good hgb).1, (re_good hgb).2, hgo]
    exact ⟨_, _, _, rfl, (hr56.mono hx73.le), hr70, hX74⟩
  refine s_seq ?_
  refine c_reg ?_
  refine q1 rfl rfl rfl (o_build0 (E := eInt) (e := 3) Tryd.underlying38 sz3 hX17.pins (fun u80 w81 ho82 hp83 hl84 hk85 => ?_))
  have hX86 := hX17.step hp83 hl84
  have ho87 : Own eInt 3 G14 w81 w.heap.size u80 ([]) := ho82.weaken hX17.size
  refine q1 rfl rfl rfl (o_build0 (E := eInt) (e := 3) Tryd.underlying38 sz3 hX86.pins (fun u88 w89 ho90 hp91 hl92 hk93 => ?_))
  have hX94 := hX86.step hp91 hl92
  have ho95 := ho87.below hl92
  have ha96 : Apart u88.ownBlock u80.ownBlock := new_ne_own hk93 ho87.lt
  have ho97 : Own eInt 3 G14 w89 w.heap.size u88 ([]) := ho90.weaken hX86.size
  refine qd rfl rfl rfl (r_assign (v := u80) rfl) ?_
  refine qd rfl rfl rfl (r_assign (v := u88) rfl) ?_
  refine qd rfl rfl rfl (r_assign (v := (.bool false)) rfl) ?_
  refine qe ?_
  refine s_then ?_
  refine wp_ret ?_
  refine s_ret ?_
  refine c_ret3 (v := u80) (u := u88) (x := (.bool false)) rfl rfl rfl rfl rfl rfl rfl ?_
  obtain ⟨G98, hle101, hX100, hr99, hf102⟩ := ho95.sealed hX94
  have ho103 := ho97.moreO hle101 hf102 ha96
  obtain ⟨G104, hle107, hX106, hr105, hf108⟩ := ho103.sealed hX100
  have hgb : goodB fs = false := (good_eq fs).symm.trans h18
  rw [hgb, (re_bad hgb).1, (re_bad hgb).2]
  exact ⟨_, _, _, rfl, (hr99.mono hle107), hr105, hX106⟩

end RS1
end Go.Proofs.YtndhhpaldhlghaaDoor
