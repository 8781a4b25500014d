/- Walks, printed by a program (walkgen.py) from the spec specs_w. -/
import Derived.Test.YtphmcmkpcjlkfaaChecked
import Derived.Test.YtphmcmkpcjlkfaaRow
import Derived.Test.YtphmcmkpcjlkfaaPlay
import Derived.Test.YtphmcmkpcjlkfaaB1
import Derived.Test.YtphmcmkpcjlkfaaC1
import Derived.Test.YtphmcmkpcjlkfaaE1
import Derived.Test.YtphmcmkpcjlkfaaL1
import Derived.Test.YtphmcmkpcjlkfaaG1
import Derived.Test.YtphmcmkpcjlkfaaM1
import Derived.Test.YtphmcmkpcjlkfaaN1
import Derived.Test.YtphmcmkpcjlkfaaQ1
set_option maxRecDepth 20000
set_option maxHeartbeats 2000000
namespace Go.Proofs.Ytphmcmkpcjlkfaa
namespace W1
open Go.RowKit Go.GL Go.Proofs
open Go.Proofs.Ytphmcmkpcjlkfaa.B1
open Go.Proofs.Ytphmcmkpcjlkfaa.C1
open Go.Proofs.Ytphmcmkpcjlkfaa.E1
open Go.Proofs.Ytphmcmkpcjlkfaa.L1
open Go.Proofs.Ytphmcmkpcjlkfaa.G1
open Go.Proofs.Ytphmcmkpcjlkfaa.M1
open Go.Proofs.Ytphmcmkpcjlkfaa.N1
open Go.Proofs.Ytphmcmkpcjlkfaa.Q1
theorem ag28 : (Try.prog.underlying 28).map aggD = some false := by kernel_rfl
theorem ag3 : (Try.prog.underlying 3).map aggD = some false := by kernel_rfl
theorem ag30 : (Try.prog.underlying 30).map aggD = some true := by kernel_rfl
theorem ag34 : (Try.prog.underlying 34).map aggD = some true := by kernel_rfl
theorem ag4 : (Try.prog.underlying 4).map aggD = some false := by kernel_rfl
theorem ag48 : (Try.prog.underlying 48).map aggD = some false := by kernel_rfl
theorem ag50 : (Try.prog.underlying 50).map aggD = some true := by kernel_rfl
theorem ag63 : (Try.prog.underlying 63).map aggD = some false := by kernel_rfl
theorem ag90 : (Try.prog.underlying 90).map aggD = some true := by kernel_rfl
theorem ap3 : (Try.prog.info? 3).map (fun i => (i.size, i.bytes, (i.zero.map (·.cells.size)))) = some (1, 8, some 1) := by kernel_rfl
theorem ap50 : (Try.prog.info? 50).map (fun i => (i.size, i.bytes, (i.zero.map (·.cells.size)))) = some (1, 24, some 1) := by kernel_rfl
theorem ap90 : (Try.prog.info? 90).map (fun i => (i.size, i.bytes, (i.zero.map (·.cells.size)))) = some (2, 48, some 2) := by kernel_rfl
theorem nm23 : (Try.f23.name == "runtime.NumGoroutine") = false := by kernel_rfl
theorem nm24 : (Try.f24.name == "runtime.NumGoroutine") = false := by kernel_rfl
theorem nm25 : (Try.f25.name == "runtime.NumGoroutine") = false := by kernel_rfl
theorem nm26 : (Try.f26.name == "runtime.NumGoroutine") = false := by kernel_rfl
theorem nm28 : (Try.f28.name == "runtime.NumGoroutine") = false := by kernel_rfl
theorem nm29 : (Try.f29.name == "runtime.NumGoroutine") = false := by kernel_rfl
theorem nm30 : (Try.f30.name == "runtime.NumGoroutine") = false := by kernel_rfl
theorem nm33 : (Try.f33.name == "runtime.NumGoroutine") = false := by kernel_rfl
theorem nm50 : (Try.f50.name == "runtime.NumGoroutine") = false := by kernel_rfl
theorem nm52 : (Try.f52.name == "runtime.NumGoroutine") = false := by kernel_rfl
theorem nm53 : (Try.f53.name == "runtime.NumGoroutine") = false := by kernel_rfl
theorem nm83 : (Try.f83.name == "runtime.NumGoroutine") = false := by kernel_rfl
theorem nm84 : (Try.f84.name == "runtime.NumGoroutine") = false := by kernel_rfl
theorem nz28 : (Try.prog.info? 28).map (·.size == 0) = some false := by kernel_rfl
theorem nz3 : (Try.prog.info? 3).map (·.size == 0) = some false := by kernel_rfl
theorem nz4 : (Try.prog.info? 4).map (·.size == 0) = some false := by kernel_rfl
theorem nz48 : (Try.prog.info? 48).map (·.size == 0) = some false := by kernel_rfl
theorem nz63 : (Try.prog.info? 63).map (·.size == 0) = some false := by kernel_rfl
theorem pl30 : (Try.prog.underlying 30).bind (placesD Try.prog) = some [(0, 1), (1, 1)] := by kernel_rfl
theorem pl50 : (Try.prog.underlying 50).bind (placesD Try.prog) = some [(0, 1)] := by kernel_rfl
theorem pl90 : (Try.prog.underlying 90).bind (placesD Try.prog) = some [(0, 1), (1, 1)] := by kernel_rfl
theorem sz28 : (Try.prog.info? 28).map (·.size) = some 1 := by kernel_rfl
theorem sz3 : (Try.prog.info? 3).map (·.size) = some 1 := by kernel_rfl
theorem sz30 : (Try.prog.info? 30).map (·.size) = some 2 := by kernel_rfl
theorem sz34 : (Try.prog.info? 34).map (·.size) = some 2 := by kernel_rfl
theorem sz48 : (Try.prog.info? 48).map (·.size) = some 1 := by kernel_rfl
theorem sz50 : (Try.prog.info? 50).map (·.size) = some 1 := by kernel_rfl
theorem sz90 : (Try.prog.info? 90).map (·.size) = some 2 := by kernel_rfl
theorem zr30 : (Try.prog.info? 30).bind (·.zero) = some (.agg #[(.slice none 0 0), (.bool false)]) := by kernel_rfl
theorem zr34 : (Try.prog.info? 34).bind (·.zero) = some (.agg #[(.int .i64 0), (.int .i64 0)]) := by kernel_rfl
theorem zr50 : (Try.prog.info? 50).bind (·.zero) = some (.agg #[(.slice none 0 0)]) := by kernel_rfl
theorem zr90 : (Try.prog.info? 90).bind (·.zero) = some (.agg #[(.slice none 0 0), (.slice none 0 0)]) := by kernel_rfl

theorem toMove_spec {w : World} {G : Pin} {p o : Int} (hP : Pins G w) :
    Calls Try.prog 8 [(.agg [(.int .i64 p), (.int .i64 o)].toArray)].toArray w fun e w' => ∃ G', e = .returned (.agg [(.int .i64 p), (.int .i64 o)].toArray) ∧ Ext noS G w G' w' := by
  refine s_enter (n := 11) Try.func8 Try.ntmps8 rfl rfl ?_
  have hX0 : Ext noS G w G w := Ext.refl hP
  refine s_seq ?_
  refine c_reg ?_
  refine q1 rfl rfl rfl (o_box [(.int .i64 p), (.int .i64 o)] (v := (.agg [(.int .i64 p), (.int .i64 o)].toArray)) rfl rfl hX0.pins (fun b1 w2 hk3 hb4 hp5 hl6 => ?_))
  have hX7 := hX0.step hp5 hl6
  have hlo8 : w.heap.size ≤ b1 := by have := hX0.size; omega
  obtain ⟨G9, hle10, hX11, hbp12, hf13⟩ := hb4.shut hX7 hlo8
  refine q1 rfl rfl rfl (o_alloc [(.int .i64 0), (.int .i64 0)] zr34 rfl hX11.pins (fun b14 w15 hk16 hb17 hp18 hl19 => ?_))
  have hX20 := hX11.step hp18 hl19
  have hlo21 : w.heap.size ≤ b14 := by have := hX11.size; omega
  refine qe ?_
  refine s_then ?_
  refine s_seq ?_
  refine c_reg ?_
  refine q1 rfl rfl rfl (o_alloc [(.int .i64 0), (.int .i64 0)] zr34 rfl hX20.pins (fun b22 w23 hk24 hb25 hp26 hl27 => ?_))
  have hX28 := hX20.step hp26 hl27
  have hb29 := hb17.below hl27
  have ha30 : Apart (some b22) (some b14) := new_ne_box (congrArg some hk24) hb17.lt
  have hlo31 : w.heap.size ≤ b22 := by have := hX20.size; omega
  refine qe ?_
  refine s_then ?_
  refine s_seq ?_
  refine c_reg ?_
  refine qd rfl rfl rfl (r_fldp (k := 0) rfl Try.underlying26 rfl nz3 rfl) ?_
  refine qd rfl rfl rfl (r_ldp1 (u := (.int .i64 p)) ag3 rfl (hX28.pins _ _ _ (hbp12 0 _ rfl))) ?_
  refine qd rfl rfl rfl (r_fldp (k := 0) rfl Try.underlying34 rfl nz3 rfl) ?_
  refine q0 rfl rfl rfl (o_stp (cs' := [(.int .i64 p), (.int .i64 0)]) (us := [(.int .i64 p)]) (v := (.int .i64 p)) sz3 rfl rfl rfl (ones1 (by rfl)) hX28.pins hb25 (Nat.le_of_ble_eq_true rfl) rfl (fun w32 hb33 hp34 hg35 hz36 => ?_))
  have hX37 := hX28.write hp34 hg35 ((lo_box hlo31))
  have hb38 := hb29.keptA hg35 ha30.symm
  refine qe ?_
  refine s_then ?_
  refine s_seq ?_
  refine c_reg ?_
  refine qd rfl rfl rfl (r_fldp (k := 1) rfl Try.underlying26 rfl nz3 rfl) ?_
  refine qd rfl rfl rfl (r_ldp1 (u := (.int .i64 o)) ag3 rfl (hX37.pins _ _ _ (hbp12 1 _ rfl))) ?_
  refine qd rfl rfl rfl (r_fldp (k := 1) rfl Try.underlying34 rfl nz3 rfl) ?_
  refine q0 rfl rfl rfl (o_stp (cs' := [(.int .i64 p), (.int .i64 o)]) (us := [(.int .i64 o)]) (v := (.int .i64 o)) sz3 rfl rfl rfl (ones1 (by rfl)) hX37.pins hb33 (Nat.le_of_ble_eq_true rfl) rfl (fun w39 hb40 hp41 hg42 hz43 => ?_))
  have hX44 := hX37.write hp41 hg42 ((lo_box hlo31))
  have hb45 := hb38.keptA hg42 ha30.symm
  refine qe ?_
  refine s_then ?_
  refine s_seq ?_
  refine c_reg ?_
  refine qd rfl rfl rfl (r_ldpA (cs := [(.int .i64 p), (.int .i64 o)]) ag34 sz34 rfl (fun j u hj => hb40.cell (by simpa using hj))) ?_
  refine q0 rfl rfl rfl (o_stp (cs' := [(.int .i64 p), (.int .i64 o)]) (us := [(.int .i64 p), (.int .i64 o)]) (v := (.agg [(.int .i64 p), (.int .i64 o)].toArray)) sz34 rfl rfl rfl (ones2 (by rfl) (by rfl)) hX44.pins hb45 (Nat.le_of_ble_eq_true rfl) rfl (fun w46 hb47 hp48 hg49 hz50 => ?_))
  have hX51 := hX44.write hp48 hg49 ((lo_box hlo21))
  have hb52 := hb40.keptA hg49 ha30
  refine qe ?_
  refine s_then ?_
  refine wp_ret ?_
  refine s_ret ?_
  refine c_retc (cs := [(.int .i64 p), (.int .i64 o)]) rfl rfl rfl ag34 sz34 (fun j u hj => by rw [Nat.zero_add]; exact hb47.cell hj) ?_
  exact ⟨_, rfl, hX51⟩

theorem heldTable_spec {w : World} {G : Pin} {v : Value} {lf : Bool} {fs : List (List Nd)} {kz : Int} (hP : Pins G w) (hv : RSl (eSl eNode) G v (markF kz fs)) (hsf : SmallF fs) (hk : 0 ≤ kz ∧ kz ≤ 1073741824) :
    Calls Try.prog 12 [(.agg [v, (.bool lf)].toArray), (.int .i64 kz)].toArray w fun e w' => ∃ G', e = .returned (.int .i64 (kz + totF fs)) ∧ Ext noS G w G' w' := by
  refine s_enter (n := 12) Try.func12 Try.ntmps12 rfl rfl ?_
  have hX0 : Ext noS G w G w := Ext.refl hP
  have htn := totF_nonneg fs
  refine s_seq ?_
  refine c_reg ?_
  refine q1 rfl rfl rfl (o_box [v, (.bool lf)] (v := (.agg [v, (.bool lf)].toArray)) rfl rfl hX0.pins (fun b1 w2 hk3 hb4 hp5 hl6 => ?_))
  have hX7 := hX0.step hp5 hl6
  have hlo8 : w.heap.size ≤ b1 := by have := hX0.size; omega
  obtain ⟨G9, hle10, hX11, hbp12, hf13⟩ := hb4.shut hX7 hlo8
  refine qd rfl rfl rfl (r_assign (v := (.int .i64 0)) rfl) ?_
  refine qe ?_
  refine s_then ?_
  refine s_seq ?_
  refine c_reg ?_
  refine qd rfl rfl rfl (r_fldp (k := 0) rfl Try.underlying30 rfl nz28 rfl) ?_
  refine qd rfl rfl rfl (r_ldp1 (u := v) ag28 rfl (hX11.pins _ _ _ (hbp12 0 _ rfl))) ?_
  refine qd rfl rfl rfl (r_move (v := (.int .i64 kz)) rfl) ?_
  refine q1 rfl rfl rfl (o_call (vs := [v, (.int .i64 kz)]) Try.func33 nm33 rfl rfl rfl ?_)
  refine Calls.mono (heldFormS_spec hX11.pins (hv.mono hle10) hsf hk) ?_
  rintro _ _ ⟨rfl, rfl⟩
  refine ⟨_, rfl, ?_⟩
  refine qd rfl rfl rfl (r_assign (v := (.int .i64 (kz + totF fs))) rfl) ?_
  refine qe ?_
  refine s_then ?_
  refine s_seq ?_
  refine s_seq ?_
  refine c_reg ?_
  refine qd rfl rfl rfl (r_move (v := (.int .i64 (kz + totF fs))) rfl) ?_
  refine qd rfl rfl rfl (r_lss rfl rfl) ?_
  refine qe ?_
  refine s_then ?_
  refine c_ifd (p := (kz + totF fs : Int) < 0) rfl rfl (fun h14 => ?_) (fun h14 => ?_)
  · skip
    refine s_seq ?_
    refine c_reg ?_
    refine qd rfl rfl rfl (r_assign (v := (.int .i64 (-1))) rfl) ?_
    refine qe ?_
    refine s_then ?_
    refine wp_ret ?_
    refine s_ret ?_
    refine c_ret1 (v := (.int .i64 (-1))) rfl rfl rfl ?_
    exact absurd h14 (by omega)
  · skip
    refine wp_skip ?_
    refine s_then ?_
    refine s_seq ?_
    refine c_reg ?_
    refine qd rfl rfl rfl (r_move (v := (.int .i64 (kz + totF fs))) rfl) ?_
    refine qd rfl rfl rfl (r_assign (v := (.int .i64 (kz + totF fs))) rfl) ?_
    refine qe ?_
    refine s_then ?_
    refine wp_ret ?_
    refine s_ret ?_
    refine c_ret1 (v := (.int .i64 (kz + totF fs))) rfl rfl rfl ?_
    exact ⟨_, rfl, hX11⟩

theorem copyOf_dspec {w : World} {G : Pin} {v : Value} {ns : List Nd} (hP : Pins G w) (hv : RSl eNode G v ns) (hsm : Small ns) :
    Calls Try.prog 53 [(.agg [v].toArray)].toArray w fun e w' => ∃ (u : Value) (G' : Pin), e = .returned (.agg [u].toArray) ∧ DForm 90 3 G' w' w.heap.size w'.heap.size u ns ∧ Ext noS G w G' w' := by
  refine s_enter (n := 27) Try.func53 Try.ntmps53 rfl rfl ?_
  have hX0 : Ext noS G w G w := Ext.refl hP
  have hlv0 : Lvs 3 G w w.heap.size w.heap.size [] := Lvs.nil
  have hln := hsm.len
  refine s_seq ?_
  refine c_reg ?_
  refine q1 rfl rfl rfl (o_box [v] (v := (.agg [v].toArray)) rfl rfl hX0.pins (fun b1 w2 hk3 hb4 hp5 hl6 => ?_))
  have hX7 := hX0.step hp5 hl6
  have hlv8 := (hlv0.below hl6).top
  have ha9 : ApL [] (some b1) := ApL.fresh hlv0 (fun k hk => by rw [(congrArg some hk3)] at hk; cases hk; exact Nat.le_refl _)
  have hlo10 : w.heap.size ≤ b1 := by have := hX0.size; omega
  obtain ⟨G11, hle12, hX13, hbp14, hf15⟩ := hb4.shut hX7 hlo10
  have hlv16 := hlv8.more hle12 hf15 ha9
  refine q1 rfl rfl rfl (o_alloc [(.slice none 0 0)] zr50 rfl hX13.pins (fun b17 w18 hk19 hb20 hp21 hl22 => ?_))
  have hX23 := hX13.step hp21 hl22
  have hlv24 := (hlv16.below hl22).top
  have ha25 : ApL [] (some b17) := ApL.fresh hlv16 (fun k hk => by rw [(congrArg some hk19)] at hk; cases hk; exact Nat.le_refl _)
  have hlo26 : w.heap.size ≤ b17 := by have := hX13.size; omega
  refine qe ?_
  refine s_then ?_
  refine s_seq ?_
  refine c_reg ?_
  refine q1 rfl rfl rfl (o_build0 (E := eVal2) (e := 90) Try.underlying48 sz90 hX23.pins (fun u27 w28 ho29 hp30 hl31 hk32 => ?_))
  have hX33 := hX23.step hp30 hl31
  have hb34 := hb20.below hl31
  have hlv35 := (hlv24.below hl31).top
  have ha36 : Apart u27.ownBlock (some b17) := new_ne_box hk32 hb20.lt
  have ha37 : ApL [] u27.ownBlock := ApL.fresh hlv24 (fun k hk => by rw [hk32] at hk; cases hk; exact Nat.le_refl _)
  have ho38 : Own eVal2 90 G11 w28 w.heap.size u27 ([]) := ho29.weaken hX23.size
  refine qd rfl rfl rfl (r_assign (v := u27) rfl) ?_
  refine qe ?_
  refine s_then ?_
  refine s_seq ?_
  refine s_seq ?_
  refine c_reg ?_
  refine qd rfl rfl rfl (r_fldp (k := 0) rfl Try.underlying50 rfl nz48 rfl) ?_
  refine qd rfl rfl rfl (r_ldp1 (u := v) ag48 rfl (hX33.pins _ _ _ (hbp14 0 _ rfl))) ?_
  refine qd rfl rfl rfl (run_len Try.underlying48 (v := v) rfl hv) ?_
  refine qd rfl rfl rfl (r_move (v := (.int .i64 0)) rfl) ?_
  refine qe ?_
  refine s_then ?_
  refine s_blk ?_
  refine s_loop (fun (k : Nat) (en : Nat → Value) (W : World) => ∃ (env1 : Nat → Value) (j : Nat) (nv : Value) (ps : List (Value × Value)) (LV : List Leaf) (GL1 : Pin), en = (upd (upd (upd (upd (upd env1 2 (.pointer (some ⟨b17, 0, none⟩))) 3 nv) 8 v) 9 (.int .i64 (ns.length : Int))) 10 (.int .i64 (j : Int))) ∧ k = ns.length - j ∧ Ext noS G w GL1 W ∧ Pin.le G11 GL1 ∧ (j ≤ ns.length) ∧ (ps.length = j) ∧ (LV = lvN ps (ns.take j)) ∧ (Own eVal2 90 GL1 W w.heap.size nv (ps)) ∧ (Bx GL1 W b17 [(.slice none 0 0)]) ∧ (Apart nv.ownBlock (some b17)) ∧ (Lvs 3 GL1 W w.heap.size W.heap.size LV) ∧ (ApL LV nv.ownBlock) ∧ (ApL LV (some b17))) _ ⟨_, 0, u27, [], [], G11, (packS (x := 10) (packS (x := 9) (packS (x := 8) (packS (x := 3) (pack1 (x := 2) rfl) rfl) rfl) rfl) rfl), rfl, hX33, Pin.le_refl _, Nat.zero_le _, rfl, rfl, ho38, hb34, ha36, hlv35, ha37, ha25⟩ ?_
  rintro k39 _ w40 ⟨env1, j, nv, ps, LV, GL1, rfl, hk41, hX42, hlek39, hj, hpl, hLV, hw43, hw44, ha45, hlv46, ha47, ha48⟩
  refine s_seq ?_
  refine c_reg ?_
  refine qd rfl rfl rfl (r_lss rfl rfl) ?_
  refine qe ?_
  refine s_then ?_
  refine s_seq ?_
  refine c_ifd (p := ((j : Int) : Int) < (ns.length : Int)) rfl rfl (fun h49 => ?_) (fun h49 => ?_)
  · skip
    have hso := hsm.opts j (by omega)
    refine wp_skip ?_
    refine s_then ?_
    refine s_seq ?_
    refine s_blk ?_
    refine s_seq ?_
    refine c_reg ?_
    refine qd rfl rfl rfl (run_idx Try.underlying48 sz90 (v := v) rfl rfl hv (by omega) (by omega)) ?_
    obtain ⟨u50, u51, hr52, hr53, hl54⟩ := nm_node (hv.at (z := (j : Int)) (by omega) (by omega)) (j := j) rfl
    have hm55 := hr52.max
    have hm56 := hr53.max
    refine qd rfl rfl rfl (hl54 ag90 sz90 rfl (Pins.of_le hX42.pins (Pin.le_trans hle12 hlek39))) ?_
    refine q1 rfl rfl rfl (o_alloc [(.slice none 0 0), (.slice none 0 0)] zr90 rfl hX42.pins (fun b57 w58 hk59 hb60 hp61 hl62 => ?_))
    have hX63 := hX42.step hp61 hl62
    have ho64 := hw43.below hl62
    have hb65 := hw44.below hl62
    have hlv66 := (hlv46.below hl62).top
    have ha67 : Apart (some b57) nv.ownBlock := new_ne_own (congrArg some hk59) hw43.lt
    have ha68 : Apart (some b57) (some b17) := new_ne_box (congrArg some hk59) hw44.lt
    have ha69 : ApL LV (some b57) := ApL.fresh hlv46 (fun k hk => by rw [(congrArg some hk59)] at hk; cases hk; exact Nat.le_refl _)
    have hlo70 : w.heap.size ≤ b57 := by have := hX42.size; omega
    refine q0 rfl rfl rfl (o_stp (cs' := [u50, u51]) (us := [u50, u51]) (v := (.agg [u50, u51].toArray)) sz90 rfl rfl rfl (ones2 hr52.one hr53.one) hX63.pins hb60 (Nat.le_of_ble_eq_true rfl) rfl (fun w71 hb72 hp73 hg74 hz75 => ?_))
    have hX76 := hX63.write hp73 hg74 ((lo_box hlo70))
    have ho77 := ho64.keptA hg74 ha67.symm
    have hb78 := hb65.keptA hg74 ha68.symm
    have hlv79 := (hlv66.kept hg74 ha69).top
    obtain ⟨G80, hle81, hX82, hbp83, hf84⟩ := hb72.shut hX76 hlo70
    have ho85 := ho77.moreA hle81 hf84 ha67.symm
    have hb86 := hb78.moreA hf84 ha68.symm
    have hlv87 := hlv79.more hle81 hf84 ha69
    refine qe ?_
    refine s_then ?_
    refine c_draw (S := fun w => Pins G80 w) (last := 11) (by kernel_rfl) rfl ?_
    have hl88 : Below w71.heap.size w71 w71.drew := (Below.refl _ _).drew
    have hp89 := hX82.pins.below hl88
    have hX90 := hX82.step hp89 hl88
    have ho91 := ho85.below hl88
    have hb92 := hb86.below hl88
    have hlv93 := (hlv87.below hl88).top
    refine dr_take (i := 0) rfl rfl rfl (want_none rfl _) (by kernel_rfl) (fun _ _ => r_move (v := nv) rfl) hX90.pins ?_
    refine dr_take (i := 1) rfl rfl rfl (want_none rfl _) (by kernel_rfl) (fun _ _ => r_fldp (k := 0) rfl Try.underlying90 rfl nz63 rfl) hX90.pins ?_
    refine dr_take (i := 2) rfl rfl rfl (want_none rfl _) (by kernel_rfl) (fun _ hS => r_ldp1 (u := u50) ag63 rfl (hS _ _ _ (hbp83 0 _ rfl))) hX90.pins ?_
    refine dr_take (i := 4) rfl rfl rfl (want_none rfl _) (by kernel_rfl) (fun _ _ => r_fldp (k := 1) rfl Try.underlying90 rfl nz63 rfl) hX90.pins ?_
    refine dr_take (i := 5) rfl rfl rfl (want_none rfl _) (by kernel_rfl) (fun _ hS => r_ldp1 (u := u51) ag63 rfl (hS _ _ _ (hbp83 1 _ rfl))) hX90.pins ?_
    refine dr_one (i := 3) (by kernel_rfl) (drOp1 (i := 3) rfl rfl rfl (want_none rfl _) (o_call (vs := [u50]) Try.func84 nm84 rfl rfl rfl ?_))
    refine Calls.mono (clone_spec hX90.pins (hr52.mono (Pin.le_trans (Pin.le_trans hle12 hlek39) hle81)) (by omega)) ?_
    rintro _ w96 ⟨u94, G95, rfl, ho97, hx98⟩
    refine ⟨_, rfl, ?_⟩
    have hX99 := hX90.tr hx98
    have ho100 := ho91.ext hx98
    have hb101 := hb92.ext hx98
    have hlv102 := (hlv93.ext hx98).top
    have ha103 : Apart u94.ownBlock nv.ownBlock := made_ne_own ho97.lt ho91.lt
    have ha104 : Apart u94.ownBlock (some b17) := made_ne_box ho97.lt hb92.lt
    have ha105 : ApL LV u94.ownBlock := ApL.fresh hlv93 (fun k hk => (ho97.lt k hk).1)
    have ho106 : Own eInt 3 G95 w96 w.heap.size u94 ((ns.getD j default).l) := ho97.weaken hX90.size
    refine ⟨fun _ => (Pins.of_le hX99.pins hx98.le), ?_⟩
    refine dr_one (i := 6) (by kernel_rfl) (drOp1 (i := 6) rfl rfl rfl (want_none rfl _) (o_call (vs := [u51]) Try.func84 nm84 rfl rfl rfl ?_))
    refine Calls.mono (clone_spec hX99.pins (hr53.mono (Pin.le_trans (Pin.le_trans (Pin.le_trans hle12 hlek39) hle81) hx98.le)) (by omega)) ?_
    rintro _ w109 ⟨u107, G108, rfl, ho110, hx111⟩
    refine ⟨_, rfl, ?_⟩
    have hX112 := hX99.tr hx111
    have ho113 := ho100.ext hx111
    have ho114 := ho106.ext hx111
    have hb115 := hb101.ext hx111
    have hlv116 := (hlv102.ext hx111).top
    have ha117 : Apart u107.ownBlock nv.ownBlock := made_ne_own ho110.lt ho100.lt
    have ha118 : Apart u107.ownBlock u94.ownBlock := made_ne_own ho110.lt ho106.lt
    have ha119 : Apart u107.ownBlock (some b17) := made_ne_box ho110.lt hb101.lt
    have ha120 : ApL LV u107.ownBlock := ApL.fresh hlv102 (fun k hk => (ho110.lt k hk).1)
    have ho121 : Own eInt 3 G108 w109 w.heap.size u107 ((ns.getD j default).r) := ho110.weaken hX99.size
    refine ⟨fun _ => (Pins.of_le hX112.pins (Pin.le_trans hx98.le hx111.le)), ?_⟩
    refine dr_take (i := 7) rfl rfl rfl (want_none rfl _) (by kernel_rfl) (fun _ _ => r_build [(.slice none 0 0), (.slice none 0 0)] [u94, u107] [(0, u94, [u94]), (1, u107, [u107])] Try.underlying90 zr90 rfl pl90 rfl (List.forall_mem_cons.2 ⟨(cells_one ho114.one), (List.forall_mem_cons.2 ⟨(cells_one ho121.one), (fun _ h => by cases h)⟩)⟩) rfl) (Pins.of_le hX112.pins (Pin.le_trans hx98.le hx111.le)) ?_
    refine dr_one (i := 8) (by kernel_rfl) (drOp1 (i := 8) rfl rfl rfl (want_none rfl _) (o_build1 (E := eVal2) (e := 90) [u94, u107] ((u94, u107) : Value × Value) Try.underlying48 sz90 zr90 ⟨rfl, ho114.one, ho121.one⟩ rfl (by decide) hX112.pins (fun u122 w123 ho124 hp125 hl126 hk127 => ?_)))
    have hX128 := hX112.step hp125 hl126
    have ho129 := ho113.below hl126
    have ho130 := ho114.below hl126
    have ho131 := ho121.below hl126
    have hb132 := hb115.below hl126
    have hlv133 := (hlv116.below hl126).top
    have ha134 : Apart u122.ownBlock nv.ownBlock := new_ne_own hk127 ho113.lt
    have ha135 : Apart u122.ownBlock u94.ownBlock := new_ne_own hk127 ho114.lt
    have ha136 : Apart u122.ownBlock u107.ownBlock := new_ne_own hk127 ho121.lt
    have ha137 : Apart u122.ownBlock (some b17) := new_ne_box hk127 hb115.lt
    have ha138 : ApL LV u122.ownBlock := ApL.fresh hlv116 (fun k hk => by rw [hk127] at hk; cases hk; exact Nat.le_refl _)
    have ho139 : Own eVal2 90 G108 w123 w.heap.size u122 ([((u94, u107) : Value × Value)]) := ho124.weaken hX112.size
    refine ⟨fun _ => (Pins.of_le hX128.pins (Pin.le_trans hx98.le hx111.le)), ?_⟩
    refine dr_one (i := 9) (by kernel_rfl) (drOp1 (i := 9) rfl rfl rfl (want_none rfl _) (o_append (E := eVal2) (v := nv) (u := u122) 48 Try.underlying48 ap90 (by decide) rfl rfl hX128.pins ho129 ho139.src (by first | omega | (rw [List.nil_append]; omega) | (rw [List.length_nil]; omega) | (rw [List.length_append]; omega) | (simp; done) | (simp; omega)) (by first | omega | (rw [List.nil_append]; omega) | (rw [List.length_nil]; omega) | (rw [List.length_append]; omega) | (simp; done) | (simp; omega)) (hX128.size) (fun u140 w141 ho142 hp143 hg144 hw145 => ?_)))
    have hX146 := hX128.write hp143 hg144 ((lo_own ho129))
    have ho147 := ho130.keptA hg144 ha103
    have ho148 := ho131.keptA hg144 ha117
    have ho149 := ho139.keptA hg144 ha134
    have hb150 := hb132.keptA hg144 ha45.symm
    have hlv151 := (hlv133.kept hg144 ha47).top
    have ha152 : Apart u94.ownBlock u140.ownBlock := app_ne_own ha103 hw145 ho130.lt
    have ha153 : Apart u107.ownBlock u140.ownBlock := app_ne_own ha117 hw145 ho131.lt
    have ha154 : Apart u122.ownBlock u140.ownBlock := app_ne_own ha134 hw145 ho139.lt
    have ha155 : Apart (some b17) u140.ownBlock := app_ne_box ha45.symm hw145 hb132.lt
    have ha156 : ApL LV u140.ownBlock := ApL.app hlv133 ha47 hw145
    have hm157 : (ps ++ ([((u94, u107) : Value × Value)])).length = ps.length + 1 := by simp
    refine ⟨fun _ => (Pins.of_le hX146.pins (Pin.le_trans hx98.le hx111.le)), ?_⟩
    refine dr_take (i := 10) rfl rfl rfl (want_none rfl _) (by kernel_rfl) (fun _ _ => r_assign (v := u140) rfl) (Pins.of_le hX146.pins (Pin.le_trans hx98.le hx111.le)) ?_
    refine dr_end (by kernel_rfl) ?_
    refine s_blkN ?_
    refine s_then ?_
    refine c_reg ?_
    refine qd rfl rfl rfl (r_add rfl rfl (by omega)) ?_
    refine qd rfl rfl rfl (r_move (v := (.int .i64 ((j : Int) + 1))) rfl) ?_
    refine qe ?_
    refine s_lopN ?_
    have hlv158 := hlv151.add ho147 ha105
    have ha159 : ApL (LV ++ [(u94, (ns.getD j default).l)]) u107.ownBlock := ha120.add ha118.symm
    have ha160 : ApL (LV ++ [(u94, (ns.getD j default).l)]) u140.ownBlock := ha156.add ha152
    have ha161 : ApL (LV ++ [(u94, (ns.getD j default).l)]) (some b17) := ha48.add ha104
    have hlv162 := hlv158.add ho148 ha159
    have ha163 : ApL ((LV ++ [(u94, (ns.getD j default).l)]) ++ [(u107, (ns.getD j default).r)]) u140.ownBlock := ha160.add ha153
    have ha164 : ApL ((LV ++ [(u94, (ns.getD j default).l)]) ++ [(u107, (ns.getD j default).r)]) (some b17) := ha161.add ha119
    refine ⟨_, ?_, _, rfl, _, j + 1, u140, ps ++ [(u94, u107)], (LV ++ [(u94, (ns.getD j default).l)]) ++ [(u107, (ns.getD j default).r)], G108, (packS (x := 10) (packS (x := 9) (packS (x := 8) (packS (x := 3) (pack1 (x := 2) rfl) rfl) rfl) rfl) rfl), rfl, hX146, (Pin.le_trans (Pin.le_trans (Pin.le_trans hlek39 hle81) hx98.le) hx111.le), (by omega), (by simp; omega), (copy_leaf hLV (by omega) hpl), ho142, hb150, ha155.symm, hlv162, ha163, ha164⟩
    omega
  · skip
    refine wp_exit ?_
    refine s_thenE ?_
    refine s_lopE ?_
    refine s_blkE ?_
    refine s_then ?_
    refine s_seq ?_
    refine c_reg ?_
    refine qd rfl rfl rfl (r_move (v := nv) rfl) ?_
    refine qd rfl rfl rfl (r_build [(.slice none 0 0)] [nv] [(0, nv, [nv])] Try.underlying50 zr50 rfl pl50 rfl (List.forall_mem_cons.2 ⟨(cells_one hw43.one), (fun _ h => by cases h)⟩) rfl) ?_
    refine q0 rfl rfl rfl (o_stp (cs' := [nv]) (us := [nv]) (v := (.agg [nv].toArray)) sz50 rfl rfl rfl (ones1 hw43.one) hX42.pins hw44 (Nat.le_of_ble_eq_true rfl) rfl (fun w165 hb166 hp167 hg168 hz169 => ?_))
    have hX170 := hX42.write hp167 hg168 ((lo_box hlo26))
    have ho171 := hw43.keptA hg168 ha45
    have hlv172 := (hlv46.kept hg168 ha48).top
    refine qe ?_
    refine s_then ?_
    refine wp_ret ?_
    refine s_ret ?_
    refine c_retc (cs := [nv]) rfl rfl rfl ag50 sz50 (fun j u hj => by rw [Nat.zero_add]; exact hb166.cell hj) ?_
    have hap := ha47
    have hlv := hlv172
    rw [hLV, take_all (by omega)] at hap hlv
    exact ⟨_, _, rfl, ⟨ps, by omega, ho171, fun k hk => (ho171.lt k hk).2, hlv, hap⟩, hX170⟩

theorem part_spec {w : World} {G : Pin} {v : Value} {ns : List Nd} {z : Int} (hP : Pins G w) (hv : RSl eNode G v ns) (hg : GoodP ns) (hz : 0 ≤ z ∧ z < ns.length) :
    Calls Try.prog 52 [(.agg [v].toArray), (.int .i64 z)].toArray w fun e w' => ∃ (u : Value) (G' : Pin), e = .returned (.agg [u].toArray) ∧ RSl eNode G' u (partS ns z) ∧ Ext noS G w G' w' := by
  refine (part_dspecZ hP hv hg hz).mono ?_
  rintro e w' ⟨u, G', rfl, hd, hx⟩
  obtain ⟨G'', h1, h2⟩ := hd.give hx
  exact ⟨u, G'', rfl, h1, h2⟩
theorem options_specZ {w : World} {G : Pin} {v : Value} {lf : Bool} {fs : List (List Nd)} {z : Int} (hP : Pins G w) (hv : RSl (eSl eNode) G v fs) (hz : 0 ≤ z ∧ z < fs.length) (hg : GoodP (fs.getD z.toNat [])) :
    Calls Try.prog 29 [(.agg [v, .bool lf].toArray), (.int .i64 z)].toArray w fun e w' => ∃ (u : Value) (G' : Pin), e = .returned u ∧ RSl eInt G' u (optL lf (fs.getD z.toNat [])) ∧ Ext noS G w G' w' := by
  obtain ⟨m, hm⟩ : ∃ m : Nat, z = m := ⟨z.toNat, by omega⟩
  subst hm
  exact options_spec hP hv (by omega) hg.lo

theorem after_dspec {w : World} {G : Pin} {v : Value} {lf : Bool} {fs : List (List Nd)} {p o : Int} (hP : Pins G w) (hv : RSl (eSl eNode) G v fs) (hpp : PlayP lf fs p o) :
    Calls Try.prog 30 [(.agg [v, (.bool lf)].toArray), (.agg [(.int .i64 p), (.int .i64 o)].toArray)].toArray w fun e w' => ∃ (u : Value) (G' : Pin), e = .returned (.agg [u, .bool (!lf)].toArray) ∧ DForms 90 50 3 G' w' w.heap.size w'.heap.size u (playF lf fs p o fs.length) ∧ Ext noS G w G' w' := by
  refine s_enter (n := 42) Try.func30 Try.ntmps30 rfl rfl ?_
  have hX0 : Ext noS G w G w := Ext.refl hP
  have hl6 := hpp.len
  refine s_seq ?_
  refine c_reg ?_
  refine q1 rfl rfl rfl (o_box [v, (.bool lf)] (v := (.agg [v, (.bool lf)].toArray)) rfl rfl hX0.pins (fun b1 w2 hk3 hb4 hp5 hl6 => ?_))
  have hX7 := hX0.step hp5 hl6
  have hlo8 : w.heap.size ≤ b1 := by have := hX0.size; omega
  obtain ⟨G9, hle10, hX11, hbp12, hf13⟩ := hb4.shut hX7 hlo8
  refine q1 rfl rfl rfl (o_box [(.int .i64 p), (.int .i64 o)] (v := (.agg [(.int .i64 p), (.int .i64 o)].toArray)) rfl rfl hX11.pins (fun b14 w15 hk16 hb17 hp18 hl19 => ?_))
  have hX20 := hX11.step hp18 hl19
  have hlo21 : w.heap.size ≤ b14 := by have := hX11.size; omega
  obtain ⟨G22, hle23, hX24, hbp25, hf26⟩ := hb17.shut hX20 hlo21
  refine q1 rfl rfl rfl (o_alloc [(.slice none 0 0), (.bool false)] zr30 rfl hX24.pins (fun b27 w28 hk29 hb30 hp31 hl32 => ?_))
  have hX33 := hX24.step hp31 hl32
  have hlo34 : w.heap.size ≤ b27 := by have := hX24.size; omega
  refine qe ?_
  refine s_then ?_
  refine s_seq ?_
  refine c_reg ?_
  refine qd rfl rfl rfl (r_fldp (k := 1) rfl Try.underlying30 rfl nz4 rfl) ?_
  refine qd rfl rfl rfl (r_ldp1 (u := (.bool lf)) ag4 rfl ((Pins.of_le hX33.pins hle23) _ _ _ (hbp12 1 _ rfl))) ?_
  refine qd rfl rfl rfl (r_not rfl) ?_
  refine qd rfl rfl rfl (r_build [(.slice none 0 0), (.bool false)] [(.slice none 0 0), (.bool (!lf))] [(1, (.bool (!lf)), [(.bool (!lf))])] Try.underlying30 zr30 rfl pl30 rfl (List.forall_mem_cons.2 ⟨rfl, (fun _ h => by cases h)⟩) rfl) ?_
  refine q1 rfl rfl rfl (o_alloc [(.slice none 0 0), (.bool false)] zr30 rfl hX33.pins (fun b35 w36 hk37 hb38 hp39 hl40 => ?_))
  have hX41 := hX33.step hp39 hl40
  have hb42 := hb30.below hl40
  have ha43 : Apart (some b35) (some b27) := new_ne_box (congrArg some hk37) hb30.lt
  have hlo44 : w.heap.size ≤ b35 := by have := hX33.size; omega
  refine q0 rfl rfl rfl (o_stp (cs' := [(.slice none 0 0), (.bool (!lf))]) (us := [(.slice none 0 0), (.bool (!lf))]) (v := (.agg [(.slice none 0 0), (.bool (!lf))].toArray)) sz30 rfl rfl rfl (ones2 (by rfl) (by rfl)) hX41.pins hb38 (Nat.le_of_ble_eq_true rfl) rfl (fun w45 hb46 hp47 hg48 hz49 => ?_))
  have hX50 := hX41.write hp47 hg48 ((lo_box hlo44))
  have hb51 := hb42.keptA hg48 ha43.symm
  refine qe ?_
  refine s_then ?_
  refine s_seq ?_
  refine s_seq ?_
  refine c_reg ?_
  refine qd rfl rfl rfl (r_fldp (k := 0) rfl Try.underlying30 rfl nz28 rfl) ?_
  refine qd rfl rfl rfl (r_ldp1 (u := v) ag28 rfl ((Pins.of_le hX50.pins hle23) _ _ _ (hbp12 0 _ rfl))) ?_
  refine qd rfl rfl rfl (run_len Try.underlying28 (v := v) rfl hv) ?_
  refine qd rfl rfl rfl (r_move (v := (.int .i64 0)) rfl) ?_
  refine qe ?_
  refine s_then ?_
  refine s_blk ?_
  obtain ⟨mz, hmz⟩ : ∃ m, m = w45.heap.size := ⟨_, rfl⟩
  have hml : w.heap.size ≤ mz := by rw [hmz]; exact hX50.size
  have hbm52 : b27 < mz := by rw [hmz]; exact hb51.lt
  have hbm53 : b35 < mz := by rw [hmz]; exact hb46.lt
  refine s_loop (fun (k : Nat) (en : Nat → Value) (W : World) => ∃ (env1 : Nat → Value) (j : Nat) (lu : Value) (os : List Value) (GL1 : Pin), en = (upd (upd (upd (upd (upd (upd (upd env1 2 (.pointer (some ⟨b1, 0, none⟩))) 3 (.pointer (some ⟨b14, 0, none⟩))) 4 (.pointer (some ⟨b27, 0, none⟩))) 5 (.pointer (some ⟨b35, 0, none⟩))) 13 v) 14 (.int .i64 (fs.length : Int))) 15 (.int .i64 (j : Int))) ∧ k = fs.length - j ∧ Ext noS G w GL1 W ∧ Pin.le G22 GL1 ∧ (j ≤ fs.length) ∧ (os.length = j) ∧ (DCh 90 3 GL1 W lu.ownBlock mz W.heap.size os (playF lf fs p o j)) ∧ (Own eVal 50 GL1 W w.heap.size lu (os)) ∧ (Bx GL1 W b27 [(.slice none 0 0), (.bool false)]) ∧ (Bx GL1 W b35 [lu, (.bool (!lf))]) ∧ (Apart lu.ownBlock (some b27)) ∧ (Apart lu.ownBlock (some b35))) _ ⟨_, 0, (.slice none 0 0), [], G22, (packS (x := 15) (packS (x := 14) (packS (x := 13) (packS (x := 5) (packS (x := 4) (packS (x := 3) (pack1 (x := 2) rfl) rfl) rfl) rfl) rfl) rfl) rfl), rfl, hX50, Pin.le_refl _, Nat.zero_le _, rfl, (Nat.le_of_eq hmz), (Own.nil _ _ _ _ _), hb51, hb46, apart_none, apart_none⟩ ?_
  rintro k54 _ w55 ⟨env1, j, lu, os, GL1, rfl, hk56, hX57, hlek54, hj, hol, hch, hw58, hw59, hw60, ha61, ha62⟩
  refine s_seq ?_
  refine c_reg ?_
  refine qd rfl rfl rfl (r_lss rfl rfl) ?_
  refine qe ?_
  refine s_then ?_
  refine s_seq ?_
  refine c_ifd (p := ((j : Int) : Int) < (fs.length : Int)) rfl rfl (fun h63 => ?_) (fun h63 => ?_)
  · skip
    have hgj := goodB_true.1 (hpp.good j (by omega))
    have hsx := play_small hpp (i := j) (by omega)
    refine wp_skip ?_
    refine s_then ?_
    refine s_seq ?_
    refine s_blk ?_
    refine s_seq ?_
    refine c_reg ?_
    refine qd rfl rfl rfl (r_move (v := (.int .i64 (j : Int))) rfl) ?_
    refine qd rfl rfl rfl (run_idx Try.underlying28 sz50 (v := v) rfl rfl hv (by omega) (by omega)) ?_
    obtain ⟨u64, hr65, hl66⟩ := nm_form (hv.at (z := (j : Int)) (by omega) (by omega)) (j := j) rfl
    have hm67 := hr65.max
    refine qd rfl rfl rfl (hl66 ag50 sz50 rfl (Pins.of_le hX57.pins (Pin.le_trans (Pin.le_trans hle10 hle23) hlek54))) ?_
    refine q1 rfl rfl rfl (o_alloc [(.slice none 0 0)] zr50 rfl hX57.pins (fun b68 w69 hk70 hb71 hp72 hl73 => ?_))
    have hX74 := hX57.step hp72 hl73
    have ho75 := hw58.below hl73
    have hb76 := hw59.below hl73
    have hb77 := hw60.below hl73
    have hd78 := hch.below hl73
    have hs79 := Nat.le_trans (Nat.le_refl w55.heap.size) hl73.size
    have ha80 : Apart (some b68) lu.ownBlock := new_ne_own (congrArg some hk70) hw58.lt
    have ha81 : Apart (some b68) (some b27) := new_ne_box (congrArg some hk70) hw59.lt
    have ha82 : Apart (some b68) (some b35) := new_ne_box (congrArg some hk70) hw60.lt
    have ha83 : w55.heap.size ≤ b68 ∨ b68 < mz := Or.inl (by have e := Option.some.inj (congrArg some hk70); have := (Nat.le_refl w55.heap.size); omega)
    have hlo84 : w.heap.size ≤ b68 := by have := hX57.size; omega
    refine qd rfl rfl rfl (r_assign (v := (.int .i64 (j : Int))) rfl) ?_
    refine q0 rfl rfl rfl (o_stp (cs' := [u64]) (us := [u64]) (v := (.agg [u64].toArray)) sz50 rfl rfl rfl (ones1 hr65.one) hX74.pins hb71 (Nat.le_of_ble_eq_true rfl) rfl (fun w85 hb86 hp87 hg88 hz89 => ?_))
    have hX90 := hX74.write hp87 hg88 ((lo_box hlo84))
    have ho91 := ho75.keptA hg88 ha80.symm
    have hb92 := hb76.keptA hg88 ha81.symm
    have hb93 := hb77.keptA hg88 ha82.symm
    have hd94 := hd78.keptB hg88 ha83
    have hs95 := Nat.le_trans hs79 hg88.size
    refine qe ?_
    refine s_then ?_
    refine s_seq ?_
    refine s_seq ?_
    refine c_reg ?_
    refine qd rfl rfl rfl (r_move (v := (.int .i64 (j : Int))) rfl) ?_
    refine qd rfl rfl rfl (r_fldp (k := 0) rfl Try.underlying34 rfl nz3 rfl) ?_
    refine qd rfl rfl rfl (r_ldp1 (u := (.int .i64 p)) ag3 rfl ((Pins.of_le hX90.pins hlek54) _ _ _ (hbp25 0 _ rfl))) ?_
    refine qd rfl rfl rfl (r_eql rfl rfl) ?_
    refine qe ?_
    refine s_then ?_
    refine c_ifd (p := ((j : Int) : Int) = p) rfl rfl (fun h96 => ?_) (fun h96 => ?_)
    · skip
      have hopt : 0 ≤ o ∧ o < (optL lf (fs.getD j [])).length := by have h0 := hpp.opt; rw [show p.toNat = j by omega] at h0; exact h0
      refine c_draw (S := fun w => BxR w b68 [u64] ∧ Pins GL1 w) (last := 9) (by kernel_rfl) rfl ?_
      have hl97 : Below w85.heap.size w85 w85.drew := (Below.refl _ _).drew
      have hp98 := hX90.pins.below hl97
      have hX99 := hX90.step hp98 hl97
      have ho100 := ho91.below hl97
      have hb101 := hb92.below hl97
      have hb102 := hb93.below hl97
      have hb103 := hb86.below hl97
      have hd104 := hd94.below hl97
      have hs105 := Nat.le_trans hs95 hl97.size
      refine dr_take (i := 0) rfl rfl rfl (want_none rfl _) (by kernel_rfl) (fun _ hS => r_ldpA (cs := [u64]) ag50 sz50 rfl (fun j u hj => hS.1 _ _ (by simpa using hj))) ⟨hb103.reads, hX99.pins⟩ ?_
      refine dr_take (i := 1) rfl rfl rfl (want_none rfl _) (by kernel_rfl) (fun _ hS => r_ldpA (cs := [v, (.bool lf)]) ag30 sz30 rfl (fun j u hj => (Pins.of_le hS.2 (Pin.le_trans hle23 hlek54)) _ _ _ (hbp12 _ _ (by simpa using hj)))) ⟨hb103.reads, hX99.pins⟩ ?_
      refine dr_take (i := 2) rfl rfl rfl (want_none rfl _) (by kernel_rfl) (fun _ _ => r_move (v := (.int .i64 (j : Int))) rfl) ⟨hb103.reads, hX99.pins⟩ ?_
      refine dr_take (i := 4) rfl rfl rfl (want_none rfl _) (by kernel_rfl) (fun _ _ => r_fldp (k := 1) rfl Try.underlying34 rfl nz3 rfl) ⟨hb103.reads, hX99.pins⟩ ?_
      refine dr_take (i := 5) rfl rfl rfl (want_none rfl _) (by kernel_rfl) (fun _ hS => r_ldp1 (u := (.int .i64 o)) ag3 rfl ((Pins.of_le hS.2 hlek54) _ _ _ (hbp25 1 _ rfl))) ⟨hb103.reads, hX99.pins⟩ ?_
      refine dr_one (i := 3) (by kernel_rfl) (drOp1 (i := 3) rfl rfl rfl (want_none rfl _) (o_call (vs := [(.agg [v, (.bool lf)].toArray), (.int .i64 (j : Int))]) Try.func29 nm29 rfl rfl rfl ?_))
      refine Calls.mono (options_spec hX99.pins (hv.mono (Pin.le_trans (Pin.le_trans hle10 hle23) hlek54)) (by omega) (by have := hgj.lo; first | exact this | simpa using this)) ?_
      rintro _ w108 ⟨u106, G107, rfl, hr109, hx110⟩
      refine ⟨_, rfl, ?_⟩
      have hX111 := hX99.tr hx110
      have ho112 := ho100.ext hx110
      have hb113 := hb101.ext hx110
      have hb114 := hb102.ext hx110
      have hb115 := hb103.ext hx110
      have hd116 := hd104.ext hx110
      have hs117 := Nat.le_trans hs105 hx110.size
      refine ⟨fun _ => ⟨hb115.reads, (Pins.of_le hX111.pins hx110.le)⟩, ?_⟩
      refine dr_take (i := 6) rfl rfl rfl (want_none rfl _) (by kernel_rfl) (fun _ _ => run_idx Try.underlying63 sz3 (v := u106) rfl rfl hr109 (by omega) (by omega)) ⟨hb115.reads, (Pins.of_le hX111.pins hx110.le)⟩ ?_
      refine dr_more (S' := fun w => BxR w b68 [u64] ∧ Pins GL1 w ∧ Pins G107 w) (fun _ h => ⟨h.1, h.2.1⟩) ?_
      refine dr_take (i := 7) rfl rfl rfl (want_none rfl _) (by kernel_rfl) (fun _ hS => run_load_int (r := (optL lf (fs.getD j [])).getD (o).toNat 0) rfl ag3 (z := o) rfl hr109 hS.2.2 (by omega) (by omega)) ⟨hb115.reads, (Pins.of_le hX111.pins hx110.le), hX111.pins⟩ ?_
      refine dr_one (i := 8) (by kernel_rfl) (drOp1 (i := 8) rfl rfl rfl (want_none rfl _) (o_call (vs := [(.agg [u64].toArray), (.int .i64 ((optL lf (fs.getD j [])).getD (o).toNat 0))]) Try.func52 nm52 rfl rfl rfl ?_))
      refine Calls.mono (part_spec hX111.pins (hr65.mono (Pin.le_trans (Pin.le_trans (Pin.le_trans hle10 hle23) hlek54) hx110.le)) hgj (optL_at hgj lf o.toNat (by omega))) ?_
      rintro _ w120 ⟨u118, G119, rfl, hr121, hx122⟩
      refine ⟨_, rfl, ?_⟩
      have hX123 := hX111.tr hx122
      have ho124 := ho112.ext hx122
      have hb125 := hb113.ext hx122
      have hb126 := hb114.ext hx122
      have hb127 := hb115.ext hx122
      have hd128 := hd116.ext hx122
      have hs129 := Nat.le_trans hs117 hx122.size
      refine ⟨fun _ => ⟨hb127.reads, (Pins.of_le hX123.pins (Pin.le_trans hx110.le hx122.le)), (Pins.of_le hX123.pins hx122.le)⟩, ?_⟩
      refine dr_one (i := 9) (by kernel_rfl) (drOp0 (i := 9) rfl rfl rfl (want_none rfl _) (o_stp (cs' := [u118]) (us := [u118]) (v := (.agg [u118].toArray)) sz50 rfl rfl rfl (ones1 hr121.one) hX123.pins hb127 (Nat.le_of_ble_eq_true rfl) rfl (fun w130 hb131 hp132 hg133 hz134 => ?_)))
      have hX135 := hX123.write hp132 hg133 ((lo_box hlo84))
      have ho136 := ho124.keptA hg133 ha80.symm
      have hb137 := hb125.keptA hg133 ha81.symm
      have hb138 := hb126.keptA hg133 ha82.symm
      have hd139 := hd128.keptB hg133 ha83
      have hs140 := Nat.le_trans hs129 hg133.size
      refine ⟨fun h => absurd rfl h, ?_⟩
      refine dr_end (by kernel_rfl) ?_
      refine s_then ?_
      have hpa := play_yes (lf := lf) (fs := fs) (o := o) h96
      rw [hpa] at hsx
      refine c_draw (S := fun w => BxR w b35 [lu, (.bool (!lf))] ∧ BxR w b68 [u118]) (last := 7) (by kernel_rfl) rfl ?_
      have hl141 : Below w130.heap.size w130 w130.drew := (Below.refl _ _).drew
      have hp142 := hX135.pins.below hl141
      have hX143 := hX135.step hp142 hl141
      have ho144 := ho136.below hl141
      have hb145 := hb137.below hl141
      have hb146 := hb138.below hl141
      have hb147 := hb131.below hl141
      have hd148 := hd139.below hl141
      have hs149 := Nat.le_trans hs140 hl141.size
      refine dr_take (i := 0) rfl rfl rfl (want_none rfl _) (by kernel_rfl) (fun _ _ => r_fldp (k := 0) rfl Try.underlying30 rfl nz28 rfl) ⟨hb146.reads, hb147.reads⟩ ?_
      refine dr_take (i := 1) rfl rfl rfl (want_none rfl _) (by kernel_rfl) (fun _ hS => r_ldp1 (u := lu) ag28 rfl (hS.1 0 _ rfl)) ⟨hb146.reads, hb147.reads⟩ ?_
      refine dr_take (i := 2) rfl rfl rfl (want_none rfl _) (by kernel_rfl) (fun _ hS => r_ldpA (cs := [u118]) ag50 sz50 rfl (fun j u hj => hS.2 _ _ (by simpa using hj))) ⟨hb146.reads, hb147.reads⟩ ?_
      refine dr_one (i := 3) (by kernel_rfl) (drOp1 (i := 3) rfl rfl rfl (want_none rfl _) (o_call (vs := [(.agg [u118].toArray)]) Try.func53 nm53 rfl rfl rfl ?_))
      refine Calls.mono (copyOf_dspec hX143.pins hr121 hsx) ?_
      rintro _ w152 ⟨u150, G151, rfl, hd153, hx154⟩
      refine ⟨_, rfl, ?_⟩
      have ha155 : ∀ b, lu.ownBlock = some b → w152.heap.size ≤ b ∨ b < w130.drew.heap.size := fun b hb => Or.inr (ho144.lt b hb).2
      have hX156 := hX143.tr hx154
      have ho157 := ho144.ext hx154
      have hb158 := hb145.ext hx154
      have hb159 := hb146.ext hx154
      have hb160 := hb147.ext hx154
      have hd161 := hd148.ext hx154
      have hs162 := Nat.le_trans hs149 hx154.size
      have hone163 := hd153.one
      refine ⟨fun _ => ⟨hb159.reads, hb160.reads⟩, ?_⟩
      refine dr_one (i := 4) (by kernel_rfl) (drOp1 (i := 4) rfl rfl rfl (want_none rfl _) (o_build1 (E := eVal) (e := 50) [u150] u150 Try.underlying28 sz50 zr50 ⟨rfl, hone163⟩ rfl (by decide) hX156.pins (fun u164 w165 ho166 hp167 hl168 hk169 => ?_)))
      have hX170 := hX156.step hp167 hl168
      have ho171 := ho157.below hl168
      have hb172 := hb158.below hl168
      have hb173 := hb159.below hl168
      have hb174 := hb160.below hl168
      have hd175 := hd161.below hl168
      have hs176 := Nat.le_trans hs162 hl168.size
      have hd177 := hd153.below hl168
      have hs178 := Nat.le_trans (Nat.le_refl w152.heap.size) hl168.size
      have ha179 : Apart u164.ownBlock lu.ownBlock := new_ne_own hk169 ho157.lt
      have ha180 : Apart u164.ownBlock (some b27) := new_ne_box hk169 hb158.lt
      have ha181 : Apart u164.ownBlock (some b35) := new_ne_box hk169 hb159.lt
      have ha182 : Apart u164.ownBlock (some b68) := new_ne_box hk169 hb160.lt
      have ho185 : Own eVal 50 G151 w165 w.heap.size u164 ([u150]) := ho166.weaken hX156.size
      refine ⟨fun _ => ⟨hb173.reads, hb174.reads⟩, ?_⟩
      refine dr_one (i := 5) (by kernel_rfl) (drOp1 (i := 5) rfl rfl rfl (want_none rfl _) (o_append (E := eVal) (v := lu) (u := u164) 24 Try.underlying28 ap50 (by decide) rfl rfl hX170.pins ho171 ho185.src (by first | omega | (rw [List.nil_append]; omega) | (rw [List.length_nil]; omega) | (rw [List.length_append]; omega) | (simp; done) | (simp; omega)) (by first | omega | (rw [List.nil_append]; omega) | (rw [List.length_nil]; omega) | (rw [List.length_append]; omega) | (simp; done) | (simp; omega)) (hX170.size) (fun u186 w187 ho188 hp189 hg190 hw191 => ?_)))
      have hX192 := hX170.write hp189 hg190 ((lo_own ho171))
      have ho193 := ho185.keptA hg190 ha179
      have hb194 := hb172.keptA hg190 ha61.symm
      have hb195 := hb173.keptA hg190 ha62.symm
      have hb196 := hb174.keptA hg190 ha80
      have hd197 := hd175.keptR hg190
      have hs198 := Nat.le_trans hs176 hg190.size
      have hd199 := hd177.keptO hg190 ha155
      have hs200 := Nat.le_trans hs178 hg190.size
      have ha201 : Apart u164.ownBlock u186.ownBlock := app_ne_own ha179 hw191 ho185.lt
      have ha202 : Apart (some b27) u186.ownBlock := app_ne_box ha61.symm hw191 hb172.lt
      have ha203 : Apart (some b35) u186.ownBlock := app_ne_box ha62.symm hw191 hb173.lt
      have ha204 : Apart (some b68) u186.ownBlock := app_ne_box ha80 hw191 hb174.lt
      have hm205 : (os ++ ([u150])).length = os.length + 1 := by simp
      refine ⟨fun _ => ⟨hb195.reads, hb196.reads⟩, ?_⟩
      refine dr_take (i := 6) rfl rfl rfl (want_none rfl _) (by kernel_rfl) (fun _ _ => r_fldp (k := 0) rfl Try.underlying30 rfl nz28 rfl) ⟨hb195.reads, hb196.reads⟩ ?_
      refine dr_one (i := 7) (by kernel_rfl) (drOp0 (i := 7) rfl rfl rfl (want_none rfl _) (o_stp (cs' := [u186, (.bool (!lf))]) (us := [u186]) (v := u186) sz28 rfl rfl (cells1 ho188.one) (ones1 ho188.one) hX192.pins hb195 (Nat.le_of_ble_eq_true rfl) rfl (fun w206 hb207 hp208 hg209 hz210 => ?_)))
      have hX211 := hX192.write hp208 hg209 ((lo_box hlo44))
      have ho212 := ho188.keptA hg209 ha203.symm
      have hb213 := hb194.keptA hg209 ha43.symm
      have hb214 := hb196.keptA hg209 ha82
      have hd215 := hd197.keptB hg209 (Or.inr hbm53)
      have hs216 := Nat.le_trans hs198 hg209.size
      have hd217 := hd199.keptO hg209 (fun b hb => by cases hb; exact (Or.inr hb146.lt))
      have hs218 := Nat.le_trans hs200 hg209.size
      refine ⟨fun h => absurd rfl h, ?_⟩
      refine dr_end (by kernel_rfl) ?_
      refine s_blkN ?_
      refine s_then ?_
      refine c_reg ?_
      refine qd rfl rfl rfl (r_add rfl rfl (by omega)) ?_
      refine qd rfl rfl rfl (r_move (v := (.int .i64 ((j : Int) + 1))) rfl) ?_
      refine qe ?_
      refine s_lopN ?_
      refine ⟨_, ?_, _, rfl, _, j + 1, u186, os ++ [u150], G151, (packS (x := 15) (packS (x := 14) (packS (x := 13) (packS (x := 5) (packS (x := 4) (packS (x := 3) (pack1 (x := 2) rfl) rfl) rfl) rfl) rfl) rfl) rfl), rfl, hX211, (Pin.le_trans (Pin.le_trans (Pin.le_trans hlek54 hx110.le) hx122.le) hx154.le), (by omega), (by simp; omega), (by rw [← playF_next, hpa]; exact ((hd215.row (hw191.imp_right fun ⟨k, h1, h2⟩ => ⟨k, h1, Nat.le_trans hs176 h2⟩)).snoc hd217 hs149 hx154.size (row_avoid hw191 (fun b hb => (ho144.lt b hb).2) hs178)).top hs218), ho212, hb213, hb207, ha202.symm, ha203.symm⟩
      omega
    · skip
      refine wp_skip ?_
      refine s_then ?_
      have hpa := play_no (lf := lf) (fs := fs) (o := o) h96
      rw [hpa] at hsx
      refine c_draw (S := fun w => BxR w b35 [lu, (.bool (!lf))] ∧ BxR w b68 [u64]) (last := 7) (by kernel_rfl) rfl ?_
      have hl219 : Below w85.heap.size w85 w85.drew := (Below.refl _ _).drew
      have hp220 := hX90.pins.below hl219
      have hX221 := hX90.step hp220 hl219
      have ho222 := ho91.below hl219
      have hb223 := hb92.below hl219
      have hb224 := hb93.below hl219
      have hb225 := hb86.below hl219
      have hd226 := hd94.below hl219
      have hs227 := Nat.le_trans hs95 hl219.size
      refine dr_take (i := 0) rfl rfl rfl (want_none rfl _) (by kernel_rfl) (fun _ _ => r_fldp (k := 0) rfl Try.underlying30 rfl nz28 rfl) ⟨hb224.reads, hb225.reads⟩ ?_
      refine dr_take (i := 1) rfl rfl rfl (want_none rfl _) (by kernel_rfl) (fun _ hS => r_ldp1 (u := lu) ag28 rfl (hS.1 0 _ rfl)) ⟨hb224.reads, hb225.reads⟩ ?_
      refine dr_take (i := 2) rfl rfl rfl (want_none rfl _) (by kernel_rfl) (fun _ hS => r_ldpA (cs := [u64]) ag50 sz50 rfl (fun j u hj => hS.2 _ _ (by simpa using hj))) ⟨hb224.reads, hb225.reads⟩ ?_
      refine dr_one (i := 3) (by kernel_rfl) (drOp1 (i := 3) rfl rfl rfl (want_none rfl _) (o_call (vs := [(.agg [u64].toArray)]) Try.func53 nm53 rfl rfl rfl ?_))
      refine Calls.mono (copyOf_dspec hX221.pins (hr65.mono (Pin.le_trans (Pin.le_trans hle10 hle23) hlek54)) hsx) ?_
      rintro _ w230 ⟨u228, G229, rfl, hd231, hx232⟩
      refine ⟨_, rfl, ?_⟩
      have ha233 : ∀ b, lu.ownBlock = some b → w230.heap.size ≤ b ∨ b < w85.drew.heap.size := fun b hb => Or.inr (ho222.lt b hb).2
      have hX234 := hX221.tr hx232
      have ho235 := ho222.ext hx232
      have hb236 := hb223.ext hx232
      have hb237 := hb224.ext hx232
      have hb238 := hb225.ext hx232
      have hd239 := hd226.ext hx232
      have hs240 := Nat.le_trans hs227 hx232.size
      have hone241 := hd231.one
      refine ⟨fun _ => ⟨hb237.reads, hb238.reads⟩, ?_⟩
      refine dr_one (i := 4) (by kernel_rfl) (drOp1 (i := 4) rfl rfl rfl (want_none rfl _) (o_build1 (E := eVal) (e := 50) [u228] u228 Try.underlying28 sz50 zr50 ⟨rfl, hone241⟩ rfl (by decide) hX234.pins (fun u242 w243 ho244 hp245 hl246 hk247 => ?_)))
      have hX248 := hX234.step hp245 hl246
      have ho249 := ho235.below hl246
      have hb250 := hb236.below hl246
      have hb251 := hb237.below hl246
      have hb252 := hb238.below hl246
      have hd253 := hd239.below hl246
      have hs254 := Nat.le_trans hs240 hl246.size
      have hd255 := hd231.below hl246
      have hs256 := Nat.le_trans (Nat.le_refl w230.heap.size) hl246.size
      have ha257 : Apart u242.ownBlock lu.ownBlock := new_ne_own hk247 ho235.lt
      have ha258 : Apart u242.ownBlock (some b27) := new_ne_box hk247 hb236.lt
      have ha259 : Apart u242.ownBlock (some b35) := new_ne_box hk247 hb237.lt
      have ha260 : Apart u242.ownBlock (some b68) := new_ne_box hk247 hb238.lt
      have ho263 : Own eVal 50 G229 w243 w.heap.size u242 ([u228]) := ho244.weaken hX234.size
      refine ⟨fun _ => ⟨hb251.reads, hb252.reads⟩, ?_⟩
      refine dr_one (i := 5) (by kernel_rfl) (drOp1 (i := 5) rfl rfl rfl (want_none rfl _) (o_append (E := eVal) (v := lu) (u := u242) 24 Try.underlying28 ap50 (by decide) rfl rfl hX248.pins ho249 ho263.src (by first | omega | (rw [List.nil_append]; omega) | (rw [List.length_nil]; omega) | (rw [List.length_append]; omega) | (simp; done) | (simp; omega)) (by first | omega | (rw [List.nil_append]; omega) | (rw [List.length_nil]; omega) | (rw [List.length_append]; omega) | (simp; done) | (simp; omega)) (hX248.size) (fun u264 w265 ho266 hp267 hg268 hw269 => ?_)))
      have hX270 := hX248.write hp267 hg268 ((lo_own ho249))
      have ho271 := ho263.keptA hg268 ha257
      have hb272 := hb250.keptA hg268 ha61.symm
      have hb273 := hb251.keptA hg268 ha62.symm
      have hb274 := hb252.keptA hg268 ha80
      have hd275 := hd253.keptR hg268
      have hs276 := Nat.le_trans hs254 hg268.size
      have hd277 := hd255.keptO hg268 ha233
      have hs278 := Nat.le_trans hs256 hg268.size
      have ha279 : Apart u242.ownBlock u264.ownBlock := app_ne_own ha257 hw269 ho263.lt
      have ha280 : Apart (some b27) u264.ownBlock := app_ne_box ha61.symm hw269 hb250.lt
      have ha281 : Apart (some b35) u264.ownBlock := app_ne_box ha62.symm hw269 hb251.lt
      have ha282 : Apart (some b68) u264.ownBlock := app_ne_box ha80 hw269 hb252.lt
      have hm283 : (os ++ ([u228])).length = os.length + 1 := by simp
      refine ⟨fun _ => ⟨hb273.reads, hb274.reads⟩, ?_⟩
      refine dr_take (i := 6) rfl rfl rfl (want_none rfl _) (by kernel_rfl) (fun _ _ => r_fldp (k := 0) rfl Try.underlying30 rfl nz28 rfl) ⟨hb273.reads, hb274.reads⟩ ?_
      refine dr_one (i := 7) (by kernel_rfl) (drOp0 (i := 7) rfl rfl rfl (want_none rfl _) (o_stp (cs' := [u264, (.bool (!lf))]) (us := [u264]) (v := u264) sz28 rfl rfl (cells1 ho266.one) (ones1 ho266.one) hX270.pins hb273 (Nat.le_of_ble_eq_true rfl) rfl (fun w284 hb285 hp286 hg287 hz288 => ?_)))
      have hX289 := hX270.write hp286 hg287 ((lo_box hlo44))
      have ho290 := ho266.keptA hg287 ha281.symm
      have hb291 := hb272.keptA hg287 ha43.symm
      have hb292 := hb274.keptA hg287 ha82
      have hd293 := hd275.keptB hg287 (Or.inr hbm53)
      have hs294 := Nat.le_trans hs276 hg287.size
      have hd295 := hd277.keptO hg287 (fun b hb => by cases hb; exact (Or.inr hb224.lt))
      have hs296 := Nat.le_trans hs278 hg287.size
      refine ⟨fun h => absurd rfl h, ?_⟩
      refine dr_end (by kernel_rfl) ?_
      refine s_blkN ?_
      refine s_then ?_
      refine c_reg ?_
      refine qd rfl rfl rfl (r_add rfl rfl (by omega)) ?_
      refine qd rfl rfl rfl (r_move (v := (.int .i64 ((j : Int) + 1))) rfl) ?_
      refine qe ?_
      refine s_lopN ?_
      refine ⟨_, ?_, _, rfl, _, j + 1, u264, os ++ [u228], G229, (packS (x := 15) (packS (x := 14) (packS (x := 13) (packS (x := 5) (packS (x := 4) (packS (x := 3) (pack1 (x := 2) rfl) rfl) rfl) rfl) rfl) rfl) rfl), rfl, hX289, (Pin.le_trans hlek54 hx232.le), (by omega), (by simp; omega), (by rw [← playF_next, hpa]; exact ((hd293.row (hw269.imp_right fun ⟨k, h1, h2⟩ => ⟨k, h1, Nat.le_trans hs254 h2⟩)).snoc hd295 hs227 hx232.size (row_avoid hw269 (fun b hb => (ho222.lt b hb).2) hs256)).top hs296), ho290, hb291, hb285, ha280.symm, ha281.symm⟩
      omega
  · skip
    refine wp_exit ?_
    refine s_thenE ?_
    refine s_lopE ?_
    refine s_blkE ?_
    refine s_then ?_
    refine s_seq ?_
    refine c_reg ?_
    refine qd rfl rfl rfl (r_ldpA (cs := [lu, (.bool (!lf))]) ag30 sz30 rfl (fun j u hj => hw60.cell (by simpa using hj))) ?_
    refine q0 rfl rfl rfl (o_stp (cs' := [lu, (.bool (!lf))]) (us := [lu, (.bool (!lf))]) (v := (.agg [lu, (.bool (!lf))].toArray)) sz30 rfl rfl rfl (ones2 hw58.one (by rfl)) hX57.pins hw59 (Nat.le_of_ble_eq_true rfl) rfl (fun w297 hb298 hp299 hg300 hz301 => ?_))
    have hX302 := hX57.write hp299 hg300 ((lo_box hlo34))
    have ho303 := hw58.keptA hg300 ha61
    have hb304 := hw60.keptA hg300 ha43
    have hd305 := hch.keptB hg300 (Or.inr hbm52)
    have hs306 := Nat.le_trans (Nat.le_refl w55.heap.size) hg300.size
    refine qe ?_
    refine s_then ?_
    refine wp_ret ?_
    refine s_ret ?_
    refine c_retc (cs := [lu, (.bool (!lf))]) rfl rfl rfl ag30 sz30 (fun j u hj => by rw [Nat.zero_add]; exact hb298.cell hj) ?_
    have hcc := hd305
    rw [show j = fs.length by omega] at hcc
    exact ⟨_, _, rfl, ⟨os, ho303, fun k hk => (ho303.lt k hk).2, (hcc.down hml).top hs306⟩, hX302⟩

theorem iPlayMove_dspec {w : World} {G : Pin} {v : Value} {lf : Bool} {fs : List (List Nd)} {p o : Int} (hP : Pins G w) (hv : RSl (eSl eNode) G v fs) :
    Calls Try.prog 9 [(.agg [v, (.bool lf)].toArray), (.agg [(.int .i64 p), (.int .i64 o)].toArray)].toArray w fun e w' => ∃ (u : Value) (G' : Pin), e = .returned (.tuple #[.agg [u, .bool (plB lf fs p o)].toArray, .bool (plOk lf fs p o)]) ∧ DForms 90 50 3 G' w' w.heap.size w'.heap.size u (plL lf fs p o) ∧ Ext noS G w G' w' := by
  refine s_enter (n := 41) Try.func9 Try.ntmps9 rfl rfl ?_
  have hX0 : Ext noS G w G w := Ext.refl hP
  refine s_seq ?_
  refine c_reg ?_
  refine q1 rfl rfl rfl (o_box [v, (.bool lf)] (v := (.agg [v, (.bool lf)].toArray)) rfl rfl hX0.pins (fun b1 w2 hk3 hb4 hp5 hl6 => ?_))
  have hX7 := hX0.step hp5 hl6
  have hlo8 : w.heap.size ≤ b1 := by have := hX0.size; omega
  obtain ⟨G9, hle10, hX11, hbp12, hf13⟩ := hb4.shut hX7 hlo8
  refine q1 rfl rfl rfl (o_box [(.int .i64 p), (.int .i64 o)] (v := (.agg [(.int .i64 p), (.int .i64 o)].toArray)) rfl rfl hX11.pins (fun b14 w15 hk16 hb17 hp18 hl19 => ?_))
  have hX20 := hX11.step hp18 hl19
  have hlo21 : w.heap.size ≤ b14 := by have := hX11.size; omega
  obtain ⟨G22, hle23, hX24, hbp25, hf26⟩ := hb17.shut hX20 hlo21
  refine q1 rfl rfl rfl (o_alloc [(.slice none 0 0), (.bool false)] zr30 rfl hX24.pins (fun b27 w28 hk29 hb30 hp31 hl32 => ?_))
  have hX33 := hX24.step hp31 hl32
  have hlo34 : w.heap.size ≤ b27 := by have := hX24.size; omega
  refine qd rfl rfl rfl (r_assign (v := (.bool false)) rfl) ?_
  refine qe ?_
  refine s_then ?_
  refine s_seq ?_
  refine s_seq ?_
  refine c_draw (S := fun w => Pins G22 w) (last := 31) (by kernel_rfl) rfl ?_
  have hl35 : Below w28.heap.size w28 w28.drew := (Below.refl _ _).drew
  have hp36 := hX33.pins.below hl35
  have hX37 := hX33.step hp36 hl35
  have hb38 := hb30.below hl35
  refine dr_take (i := 0) rfl rfl rfl (want_none rfl _) (by kernel_rfl) (fun _ hS => r_ldpA (cs := [v, (.bool lf)]) ag30 sz30 rfl (fun j u hj => (Pins.of_le hS hle23) _ _ _ (hbp12 _ _ (by simpa using hj)))) hX37.pins ?_
  refine dr_one (i := 1) (by kernel_rfl) (drOp1 (i := 1) rfl rfl rfl (want_none rfl _) (o_call (vs := [(.agg [v, (.bool lf)].toArray)]) Try.func28 nm28 rfl rfl rfl ?_))
  refine Calls.mono (iGoodTable_spec hX37.pins (hv.mono (Pin.le_trans hle10 hle23))) ?_
  rintro _ w40 ⟨G39, rfl, hx41⟩
  refine ⟨_, rfl, ?_⟩
  have hX42 := hX37.tr hx41
  have hb43 := hb38.ext hx41
  refine ⟨fun _ => (Pins.of_le hX42.pins hx41.le), ?_⟩
  refine dr_take (i := 2) rfl rfl rfl (want_none rfl _) (by kernel_rfl) (fun _ _ => r_not rfl) (Pins.of_le hX42.pins hx41.le) ?_
  refine dr_take (i := 3) rfl rfl rfl (want_none rfl _) (by kernel_rfl) (fun _ _ => r_move (v := (.bool (!(goodT fs)))) rfl) (Pins.of_le hX42.pins hx41.le) ?_
  refine drbn (t := 9) rfl (fun h44 => ?_) (fun h44 => ?_)
  · skip
    refine dr_take (i := 4) rfl rfl rfl (want_yes rfl rfl rfl rfl) (by kernel_rfl) (fun _ _ => r_fldp (k := 0) rfl Try.underlying34 rfl nz3 rfl) (Pins.of_le hX42.pins hx41.le) ?_
    refine dr_take (i := 5) rfl rfl rfl (want_yes rfl rfl rfl rfl) (by kernel_rfl) (fun _ hS => r_ldp1 (u := (.int .i64 p)) ag3 rfl (hS _ _ _ (hbp25 0 _ rfl))) (Pins.of_le hX42.pins hx41.le) ?_
    refine dr_take (i := 6) rfl rfl rfl (want_yes rfl rfl rfl rfl) (by kernel_rfl) (fun _ _ => r_lss rfl rfl) (Pins.of_le hX42.pins hx41.le) ?_
    refine dr_take (i := 7) rfl rfl rfl (want_none rfl _) (by kernel_rfl) (fun _ _ => r_pickF (v := (.bool (decide ((p : Int) < 0)))) rfl rfl) (Pins.of_le hX42.pins hx41.le) ?_
    refine dr_take (i := 8) rfl rfl rfl (want_none rfl _) (by kernel_rfl) (fun _ _ => r_move (v := (.bool (decide ((p : Int) < 0)))) rfl) (Pins.of_le hX42.pins hx41.le) ?_
    refine drbd (p := (p : Int) < 0) (t := 14) rfl (fun h45 => ?_) (fun h45 => ?_)
    · skip
      refine dr_skip (i := 9) rfl rfl (want_no rfl rfl rfl rfl rfl) (by kernel_rfl) (Pins.of_le hX42.pins hx41.le) ?_
      refine dr_skip (i := 10) rfl rfl (want_no rfl rfl rfl rfl rfl) (by kernel_rfl) (Pins.of_le hX42.pins hx41.le) ?_
      refine dr_skip (i := 11) rfl rfl (want_no rfl rfl rfl rfl rfl) (by kernel_rfl) (Pins.of_le hX42.pins hx41.le) ?_
      refine dr_skip (i := 12) rfl rfl (want_no rfl rfl rfl rfl rfl) (by kernel_rfl) (Pins.of_le hX42.pins hx41.le) ?_
      refine dr_skip (i := 13) rfl rfl (want_no rfl rfl rfl rfl rfl) (by kernel_rfl) (Pins.of_le hX42.pins hx41.le) ?_
      refine dr_skip (i := 14) rfl rfl (want_no rfl rfl rfl rfl rfl) (by kernel_rfl) (Pins.of_le hX42.pins hx41.le) ?_
      refine dr_take (i := 15) rfl rfl rfl (want_none rfl _) (by kernel_rfl) (fun _ _ => r_pickT (v := (.bool true)) rfl rfl) (Pins.of_le hX42.pins hx41.le) ?_
      refine dr_take (i := 16) rfl rfl rfl (want_none rfl _) (by kernel_rfl) (fun _ _ => r_move (v := (.bool true)) rfl) (Pins.of_le hX42.pins hx41.le) ?_
      refine dr_skip (i := 17) rfl rfl (want_no rfl rfl rfl rfl rfl) (by kernel_rfl) (Pins.of_le hX42.pins hx41.le) ?_
      refine dr_skip (i := 18) rfl rfl (want_no rfl rfl rfl rfl rfl) (by kernel_rfl) (Pins.of_le hX42.pins hx41.le) ?_
      refine dr_skip (i := 19) rfl rfl (want_no rfl rfl rfl rfl rfl) (by kernel_rfl) (Pins.of_le hX42.pins hx41.le) ?_
      refine dr_take (i := 20) rfl rfl rfl (want_none rfl _) (by kernel_rfl) (fun _ _ => r_pickT (v := (.bool true)) rfl rfl) (Pins.of_le hX42.pins hx41.le) ?_
      refine dr_take (i := 21) rfl rfl rfl (want_none rfl _) (by kernel_rfl) (fun _ _ => r_move (v := (.bool true)) rfl) (Pins.of_le hX42.pins hx41.le) ?_
      refine dr_skip (i := 22) rfl rfl (want_no rfl rfl rfl rfl rfl) (by kernel_rfl) (Pins.of_le hX42.pins hx41.le) ?_
      refine dr_skip (i := 23) rfl rfl (want_no rfl rfl rfl rfl rfl) (by kernel_rfl) (Pins.of_le hX42.pins hx41.le) ?_
      refine dr_skip (i := 24) rfl rfl (want_no rfl rfl rfl rfl rfl) (by kernel_rfl) (Pins.of_le hX42.pins hx41.le) ?_
      refine dr_skip (i := 25) rfl rfl (want_no rfl rfl rfl rfl rfl) (by kernel_rfl) (Pins.of_le hX42.pins hx41.le) ?_
      refine dr_skip (i := 26) rfl rfl (want_no rfl rfl rfl rfl rfl) (by kernel_rfl) (Pins.of_le hX42.pins hx41.le) ?_
      refine dr_skip (i := 27) rfl rfl (want_no rfl rfl rfl rfl rfl) (by kernel_rfl) (Pins.of_le hX42.pins hx41.le) ?_
      refine dr_skip (i := 28) rfl rfl (want_no rfl rfl rfl rfl rfl) (by kernel_rfl) (Pins.of_le hX42.pins hx41.le) ?_
      refine dr_skip (i := 29) rfl rfl (want_no rfl rfl rfl rfl rfl) (by kernel_rfl) (Pins.of_le hX42.pins hx41.le) ?_
      refine dr_take (i := 30) rfl rfl rfl (want_none rfl _) (by kernel_rfl) (fun _ _ => r_pickT (v := (.bool true)) rfl rfl) (Pins.of_le hX42.pins hx41.le) ?_
      refine dr_end (by kernel_rfl) ?_
      refine s_then ?_
      refine c_ifT rfl rfl ?_
      refine s_seq ?_
      refine c_reg ?_
      refine qd rfl rfl rfl (r_build [(.slice none 0 0), (.bool false)] [(.slice none 0 0), (.bool false)] [] Try.underlying30 zr30 rfl pl30 rfl (fun _ h => by cases h) rfl) ?_
      refine q0 rfl rfl rfl (o_stp (cs' := [(.slice none 0 0), (.bool false)]) (us := [(.slice none 0 0), (.bool false)]) (v := (.agg [(.slice none 0 0), (.bool false)].toArray)) sz30 rfl rfl rfl (ones2 (by rfl) (by rfl)) hX42.pins hb43 (Nat.le_of_ble_eq_true rfl) rfl (fun w46 hb47 hp48 hg49 hz50 => ?_))
      have hX51 := hX42.write hp48 hg49 ((lo_box hlo34))
      refine qd rfl rfl rfl (r_assign (v := (.bool false)) rfl) ?_
      refine qe ?_
      refine s_then ?_
      refine wp_ret ?_
      refine s_ret ?_
      refine c_retct (cs := [(.slice none 0 0), (.bool false)]) (v := (.bool false)) rfl rfl rfl rfl rfl ag30 sz30 (fun j u hj => by rw [Nat.zero_add]; exact hb47.cell hj) ?_
      obtain ⟨e1, e2, e3⟩ := pl_no (lf := lf) (fs := fs) (p := p) (o := o) (fun g => by have h2 := g.part; have h3 := g.opt; omega)
      rw [e1, e2, e3]
      exact ⟨_, _, rfl, DForms.nil (Own.nil _ _ _ _ _) (fun k hk => by cases hk) hX51.size, hX51⟩
    · skip
      refine dr_take (i := 9) rfl rfl rfl (want_yes rfl rfl rfl rfl) (by kernel_rfl) (fun _ _ => r_fldp (k := 0) rfl Try.underlying34 rfl nz3 rfl) (Pins.of_le hX42.pins hx41.le) ?_
      refine dr_take (i := 10) rfl rfl rfl (want_yes rfl rfl rfl rfl) (by kernel_rfl) (fun _ hS => r_ldp1 (u := (.int .i64 p)) ag3 rfl (hS _ _ _ (hbp25 0 _ rfl))) (Pins.of_le hX42.pins hx41.le) ?_
      refine dr_take (i := 11) rfl rfl rfl (want_yes rfl rfl rfl rfl) (by kernel_rfl) (fun _ _ => r_fldp (k := 0) rfl Try.underlying30 rfl nz28 rfl) (Pins.of_le hX42.pins hx41.le) ?_
      refine dr_take (i := 12) rfl rfl rfl (want_yes rfl rfl rfl rfl) (by kernel_rfl) (fun _ hS => r_ldp1 (u := v) ag28 rfl ((Pins.of_le hS hle23) _ _ _ (hbp12 0 _ rfl))) (Pins.of_le hX42.pins hx41.le) ?_
      refine dr_take (i := 13) rfl rfl rfl (want_yes rfl rfl rfl rfl) (by kernel_rfl) (fun _ _ => run_len Try.underlying28 (v := v) rfl hv) (Pins.of_le hX42.pins hx41.le) ?_
      refine dr_take (i := 14) rfl rfl rfl (want_yes rfl rfl rfl rfl) (by kernel_rfl) (fun _ _ => r_geq rfl rfl) (Pins.of_le hX42.pins hx41.le) ?_
      refine dr_take (i := 15) rfl rfl rfl (want_none rfl _) (by kernel_rfl) (fun _ _ => r_pickF (v := (.bool (decide (((fs.length : Int) : Int) ≤ p)))) rfl rfl) (Pins.of_le hX42.pins hx41.le) ?_
      refine dr_take (i := 16) rfl rfl rfl (want_none rfl _) (by kernel_rfl) (fun _ _ => r_move (v := (.bool (decide (((fs.length : Int) : Int) ≤ p)))) rfl) (Pins.of_le hX42.pins hx41.le) ?_
      refine drbd (p := ((fs.length : Int) : Int) ≤ p) (t := 22) rfl (fun h52 => ?_) (fun h52 => ?_)
      · skip
        refine dr_skip (i := 17) rfl rfl (want_no rfl rfl rfl rfl rfl) (by kernel_rfl) (Pins.of_le hX42.pins hx41.le) ?_
        refine dr_skip (i := 18) rfl rfl (want_no rfl rfl rfl rfl rfl) (by kernel_rfl) (Pins.of_le hX42.pins hx41.le) ?_
        refine dr_skip (i := 19) rfl rfl (want_no rfl rfl rfl rfl rfl) (by kernel_rfl) (Pins.of_le hX42.pins hx41.le) ?_
        refine dr_take (i := 20) rfl rfl rfl (want_none rfl _) (by kernel_rfl) (fun _ _ => r_pickT (v := (.bool true)) rfl rfl) (Pins.of_le hX42.pins hx41.le) ?_
        refine dr_take (i := 21) rfl rfl rfl (want_none rfl _) (by kernel_rfl) (fun _ _ => r_move (v := (.bool true)) rfl) (Pins.of_le hX42.pins hx41.le) ?_
        refine dr_skip (i := 22) rfl rfl (want_no rfl rfl rfl rfl rfl) (by kernel_rfl) (Pins.of_le hX42.pins hx41.le) ?_
        refine dr_skip (i := 23) rfl rfl (want_no rfl rfl rfl rfl rfl) (by kernel_rfl) (Pins.of_le hX42.pins hx41.le) ?_
        refine dr_skip (i := 24) rfl rfl (want_no rfl rfl rfl rfl rfl) (by kernel_rfl) (Pins.of_le hX42.pins hx41.le) ?_
        refine dr_skip (i := 25) rfl rfl (want_no rfl rfl rfl rfl rfl) (by kernel_rfl) (Pins.of_le hX42.pins hx41.le) ?_
        refine dr_skip (i := 26) rfl rfl (want_no rfl rfl rfl rfl rfl) (by kernel_rfl) (Pins.of_le hX42.pins hx41.le) ?_
        refine dr_skip (i := 27) rfl rfl (want_no rfl rfl rfl rfl rfl) (by kernel_rfl) (Pins.of_le hX42.pins hx41.le) ?_
        refine dr_skip (i := 28) rfl rfl (want_no rfl rfl rfl rfl rfl) (by kernel_rfl) (Pins.of_le hX42.pins hx41.le) ?_
        refine dr_skip (i := 29) rfl rfl (want_no rfl rfl rfl rfl rfl) (by kernel_rfl) (Pins.of_le hX42.pins hx41.le) ?_
        refine dr_take (i := 30) rfl rfl rfl (want_none rfl _) (by kernel_rfl) (fun _ _ => r_pickT (v := (.bool true)) rfl rfl) (Pins.of_le hX42.pins hx41.le) ?_
        refine dr_end (by kernel_rfl) ?_
        refine s_then ?_
        refine c_ifT rfl rfl ?_
        refine s_seq ?_
        refine c_reg ?_
        refine qd rfl rfl rfl (r_build [(.slice none 0 0), (.bool false)] [(.slice none 0 0), (.bool false)] [] Try.underlying30 zr30 rfl pl30 rfl (fun _ h => by cases h) rfl) ?_
        refine q0 rfl rfl rfl (o_stp (cs' := [(.slice none 0 0), (.bool false)]) (us := [(.slice none 0 0), (.bool false)]) (v := (.agg [(.slice none 0 0), (.bool false)].toArray)) sz30 rfl rfl rfl (ones2 (by rfl) (by rfl)) hX42.pins hb43 (Nat.le_of_ble_eq_true rfl) rfl (fun w53 hb54 hp55 hg56 hz57 => ?_))
        have hX58 := hX42.write hp55 hg56 ((lo_box hlo34))
        refine qd rfl rfl rfl (r_assign (v := (.bool false)) rfl) ?_
        refine qe ?_
        refine s_then ?_
        refine wp_ret ?_
        refine s_ret ?_
        refine c_retct (cs := [(.slice none 0 0), (.bool false)]) (v := (.bool false)) rfl rfl rfl rfl rfl ag30 sz30 (fun j u hj => by rw [Nat.zero_add]; exact hb54.cell hj) ?_
        obtain ⟨e1, e2, e3⟩ := pl_no (lf := lf) (fs := fs) (p := p) (o := o) (fun g => by have h2 := g.part; have h3 := g.opt; omega)
        rw [e1, e2, e3]
        exact ⟨_, _, rfl, DForms.nil (Own.nil _ _ _ _ _) (fun k hk => by cases hk) hX58.size, hX58⟩
      · skip
        refine dr_take (i := 17) rfl rfl rfl (want_yes rfl rfl rfl rfl) (by kernel_rfl) (fun _ _ => r_fldp (k := 1) rfl Try.underlying34 rfl nz3 rfl) (Pins.of_le hX42.pins hx41.le) ?_
        refine dr_take (i := 18) rfl rfl rfl (want_yes rfl rfl rfl rfl) (by kernel_rfl) (fun _ hS => r_ldp1 (u := (.int .i64 o)) ag3 rfl (hS _ _ _ (hbp25 1 _ rfl))) (Pins.of_le hX42.pins hx41.le) ?_
        refine dr_take (i := 19) rfl rfl rfl (want_yes rfl rfl rfl rfl) (by kernel_rfl) (fun _ _ => r_lss rfl rfl) (Pins.of_le hX42.pins hx41.le) ?_
        refine dr_take (i := 20) rfl rfl rfl (want_none rfl _) (by kernel_rfl) (fun _ _ => r_pickF (v := (.bool (decide ((o : Int) < 0)))) rfl rfl) (Pins.of_le hX42.pins hx41.le) ?_
        refine dr_take (i := 21) rfl rfl rfl (want_none rfl _) (by kernel_rfl) (fun _ _ => r_move (v := (.bool (decide ((o : Int) < 0)))) rfl) (Pins.of_le hX42.pins hx41.le) ?_
        refine drbd (p := (o : Int) < 0) (t := 27) rfl (fun h59 => ?_) (fun h59 => ?_)
        · skip
          refine dr_skip (i := 22) rfl rfl (want_no rfl rfl rfl rfl rfl) (by kernel_rfl) (Pins.of_le hX42.pins hx41.le) ?_
          refine dr_skip (i := 23) rfl rfl (want_no rfl rfl rfl rfl rfl) (by kernel_rfl) (Pins.of_le hX42.pins hx41.le) ?_
          refine dr_skip (i := 24) rfl rfl (want_no rfl rfl rfl rfl rfl) (by kernel_rfl) (Pins.of_le hX42.pins hx41.le) ?_
          refine dr_skip (i := 25) rfl rfl (want_no rfl rfl rfl rfl rfl) (by kernel_rfl) (Pins.of_le hX42.pins hx41.le) ?_
          refine dr_skip (i := 26) rfl rfl (want_no rfl rfl rfl rfl rfl) (by kernel_rfl) (Pins.of_le hX42.pins hx41.le) ?_
          refine dr_skip (i := 27) rfl rfl (want_no rfl rfl rfl rfl rfl) (by kernel_rfl) (Pins.of_le hX42.pins hx41.le) ?_
          refine dr_skip (i := 28) rfl rfl (want_no rfl rfl rfl rfl rfl) (by kernel_rfl) (Pins.of_le hX42.pins hx41.le) ?_
          refine dr_skip (i := 29) rfl rfl (want_no rfl rfl rfl rfl rfl) (by kernel_rfl) (Pins.of_le hX42.pins hx41.le) ?_
          refine dr_take (i := 30) rfl rfl rfl (want_none rfl _) (by kernel_rfl) (fun _ _ => r_pickT (v := (.bool true)) rfl rfl) (Pins.of_le hX42.pins hx41.le) ?_
          refine dr_end (by kernel_rfl) ?_
          refine s_then ?_
          refine c_ifT rfl rfl ?_
          refine s_seq ?_
          refine c_reg ?_
          refine qd rfl rfl rfl (r_build [(.slice none 0 0), (.bool false)] [(.slice none 0 0), (.bool false)] [] Try.underlying30 zr30 rfl pl30 rfl (fun _ h => by cases h) rfl) ?_
          refine q0 rfl rfl rfl (o_stp (cs' := [(.slice none 0 0), (.bool false)]) (us := [(.slice none 0 0), (.bool false)]) (v := (.agg [(.slice none 0 0), (.bool false)].toArray)) sz30 rfl rfl rfl (ones2 (by rfl) (by rfl)) hX42.pins hb43 (Nat.le_of_ble_eq_true rfl) rfl (fun w60 hb61 hp62 hg63 hz64 => ?_))
          have hX65 := hX42.write hp62 hg63 ((lo_box hlo34))
          refine qd rfl rfl rfl (r_assign (v := (.bool false)) rfl) ?_
          refine qe ?_
          refine s_then ?_
          refine wp_ret ?_
          refine s_ret ?_
          refine c_retct (cs := [(.slice none 0 0), (.bool false)]) (v := (.bool false)) rfl rfl rfl rfl rfl ag30 sz30 (fun j u hj => by rw [Nat.zero_add]; exact hb61.cell hj) ?_
          obtain ⟨e1, e2, e3⟩ := pl_no (lf := lf) (fs := fs) (p := p) (o := o) (fun g => by have h2 := g.part; have h3 := g.opt; omega)
          rw [e1, e2, e3]
          exact ⟨_, _, rfl, DForms.nil (Own.nil _ _ _ _ _) (fun k hk => by cases hk) hX65.size, hX65⟩
        · skip
          refine dr_take (i := 22) rfl rfl rfl (want_yes rfl rfl rfl rfl) (by kernel_rfl) (fun _ _ => r_fldp (k := 1) rfl Try.underlying34 rfl nz3 rfl) (Pins.of_le hX42.pins hx41.le) ?_
          refine dr_take (i := 23) rfl rfl rfl (want_yes rfl rfl rfl rfl) (by kernel_rfl) (fun _ hS => r_ldp1 (u := (.int .i64 o)) ag3 rfl (hS _ _ _ (hbp25 1 _ rfl))) (Pins.of_le hX42.pins hx41.le) ?_
          refine dr_take (i := 24) rfl rfl rfl (want_yes rfl rfl rfl rfl) (by kernel_rfl) (fun _ hS => r_ldpA (cs := [v, (.bool lf)]) ag30 sz30 rfl (fun j u hj => (Pins.of_le hS hle23) _ _ _ (hbp12 _ _ (by simpa using hj)))) (Pins.of_le hX42.pins hx41.le) ?_
          refine dr_take (i := 25) rfl rfl rfl (want_yes rfl rfl rfl rfl) (by kernel_rfl) (fun _ _ => r_fldp (k := 0) rfl Try.underlying34 rfl nz3 rfl) (Pins.of_le hX42.pins hx41.le) ?_
          refine dr_take (i := 26) rfl rfl rfl (want_yes rfl rfl rfl rfl) (by kernel_rfl) (fun _ hS => r_ldp1 (u := (.int .i64 p)) ag3 rfl (hS _ _ _ (hbp25 0 _ rfl))) (Pins.of_le hX42.pins hx41.le) ?_
          refine dr_one (i := 27) (by kernel_rfl) (drOp1 (i := 27) rfl rfl rfl (want_yes rfl rfl rfl rfl) (o_call (vs := [(.agg [v, (.bool lf)].toArray), (.int .i64 p)]) Try.func29 nm29 rfl rfl rfl ?_))
          refine Calls.mono (options_specZ hX42.pins (hv.mono (Pin.le_trans (Pin.le_trans hle10 hle23) hx41.le)) (by omega) (goodT_lo (by simpa using h44) (by omega))) ?_
          rintro _ w68 ⟨u66, G67, rfl, hr69, hx70⟩
          refine ⟨_, rfl, ?_⟩
          have hX71 := hX42.tr hx70
          have hb72 := hb43.ext hx70
          refine ⟨fun _ => (Pins.of_le hX71.pins (Pin.le_trans hx41.le hx70.le)), ?_⟩
          refine dr_take (i := 28) rfl rfl rfl (want_yes rfl rfl rfl rfl) (by kernel_rfl) (fun _ _ => run_len Try.underlying63 (v := u66) rfl hr69) (Pins.of_le hX71.pins (Pin.le_trans hx41.le hx70.le)) ?_
          refine dr_take (i := 29) rfl rfl rfl (want_yes rfl rfl rfl rfl) (by kernel_rfl) (fun _ _ => r_geq rfl rfl) (Pins.of_le hX71.pins (Pin.le_trans hx41.le hx70.le)) ?_
          refine dr_take (i := 30) rfl rfl rfl (want_none rfl _) (by kernel_rfl) (fun _ _ => r_pickF (v := (.bool (decide ((((optL lf (fs.getD (p).toNat [])).length : Int) : Int) ≤ o)))) rfl rfl) (Pins.of_le hX71.pins (Pin.le_trans hx41.le hx70.le)) ?_
          refine dr_end (by kernel_rfl) ?_
          refine s_then ?_
          refine c_ifd (p := (((optL lf (fs.getD (p).toNat [])).length : Int) : Int) ≤ o) rfl rfl (fun h73 => ?_) (fun h73 => ?_)
          · skip
            refine s_seq ?_
            refine c_reg ?_
            refine qd rfl rfl rfl (r_build [(.slice none 0 0), (.bool false)] [(.slice none 0 0), (.bool false)] [] Try.underlying30 zr30 rfl pl30 rfl (fun _ h => by cases h) rfl) ?_
            refine q0 rfl rfl rfl (o_stp (cs' := [(.slice none 0 0), (.bool false)]) (us := [(.slice none 0 0), (.bool false)]) (v := (.agg [(.slice none 0 0), (.bool false)].toArray)) sz30 rfl rfl rfl (ones2 (by rfl) (by rfl)) hX71.pins hb72 (Nat.le_of_ble_eq_true rfl) rfl (fun w74 hb75 hp76 hg77 hz78 => ?_))
            have hX79 := hX71.write hp76 hg77 ((lo_box hlo34))
            refine qd rfl rfl rfl (r_assign (v := (.bool false)) rfl) ?_
            refine qe ?_
            refine s_then ?_
            refine wp_ret ?_
            refine s_ret ?_
            refine c_retct (cs := [(.slice none 0 0), (.bool false)]) (v := (.bool false)) rfl rfl rfl rfl rfl ag30 sz30 (fun j u hj => by rw [Nat.zero_add]; exact hb75.cell hj) ?_
            obtain ⟨e1, e2, e3⟩ := pl_no (lf := lf) (fs := fs) (p := p) (o := o) (fun g => by have h2 := g.part; have h3 := g.opt; omega)
            rw [e1, e2, e3]
            exact ⟨_, _, rfl, DForms.nil (Own.nil _ _ _ _ _) (fun k hk => by cases hk) hX79.size, hX79⟩
          · skip
            refine wp_skip ?_
            refine s_then ?_
            refine s_seq ?_
            refine c_reg ?_
            have hpp : PlayP lf fs p o := playP_of (by simpa using h44) (by omega) (by omega)
            refine qd rfl rfl rfl (r_ldpA (cs := [v, (.bool lf)]) ag30 sz30 rfl (fun j u hj => (Pins.of_le hX71.pins (Pin.le_trans (Pin.le_trans hle23 hx41.le) hx70.le)) _ _ _ (hbp12 _ _ (by simpa using hj)))) ?_
            refine qd rfl rfl rfl (r_ldpA (cs := [(.int .i64 p), (.int .i64 o)]) ag34 sz34 rfl (fun j u hj => (Pins.of_le hX71.pins (Pin.le_trans hx41.le hx70.le)) _ _ _ (hbp25 _ _ (by simpa using hj)))) ?_
            refine q1 rfl rfl rfl (o_call (vs := [(.agg [v, (.bool lf)].toArray), (.agg [(.int .i64 p), (.int .i64 o)].toArray)]) Try.func30 nm30 rfl rfl rfl ?_)
            refine Calls.mono (after_dspec hX71.pins (hv.mono (Pin.le_trans (Pin.le_trans (Pin.le_trans hle10 hle23) hx41.le) hx70.le)) hpp) ?_
            rintro _ w82 ⟨u80, G81, rfl, hd83, hx84⟩
            refine ⟨_, rfl, ?_⟩
            have hX85 := hX71.tr hx84
            have hb86 := hb72.ext hx84
            have hone87 := hd83.one
            refine q0 rfl rfl rfl (o_stp (cs' := [u80, (.bool (!lf))]) (us := [u80, (.bool (!lf))]) (v := (.agg [u80, (.bool (!lf))].toArray)) sz30 rfl rfl rfl (ones2 hone87 (by rfl)) hX85.pins hb86 (Nat.le_of_ble_eq_true rfl) rfl (fun w88 hb89 hp90 hg91 hz92 => ?_))
            have hX93 := hX85.write hp90 hg91 ((lo_box hlo34))
            have hd94 := hd83.kept hg91 (Or.inr hb72.lt)
            have hs95 := Nat.le_trans (Nat.le_refl w82.heap.size) hg91.size
            refine qd rfl rfl rfl (r_assign (v := (.bool true)) rfl) ?_
            refine qe ?_
            refine s_then ?_
            refine wp_ret ?_
            refine s_ret ?_
            refine c_retct (cs := [u80, (.bool (!lf))]) (v := (.bool true)) rfl rfl rfl rfl rfl ag30 sz30 (fun j u hj => by rw [Nat.zero_add]; exact hb89.cell hj) ?_
            obtain ⟨e1, e2, e3⟩ := pl_yes hpp
            rw [e1, e2, e3]
            exact ⟨_, _, rfl, (hd94.wide hX71.size hs95), hX93⟩
  · skip
    refine dr_skip (i := 4) rfl rfl (want_no rfl rfl rfl rfl rfl) (by kernel_rfl) (Pins.of_le hX42.pins hx41.le) ?_
    refine dr_skip (i := 5) rfl rfl (want_no rfl rfl rfl rfl rfl) (by kernel_rfl) (Pins.of_le hX42.pins hx41.le) ?_
    refine dr_skip (i := 6) rfl rfl (want_no rfl rfl rfl rfl rfl) (by kernel_rfl) (Pins.of_le hX42.pins hx41.le) ?_
    refine dr_take (i := 7) rfl rfl rfl (want_none rfl _) (by kernel_rfl) (fun _ _ => r_pickT (v := (.bool true)) rfl rfl) (Pins.of_le hX42.pins hx41.le) ?_
    refine dr_take (i := 8) rfl rfl rfl (want_none rfl _) (by kernel_rfl) (fun _ _ => r_move (v := (.bool true)) rfl) (Pins.of_le hX42.pins hx41.le) ?_
    refine dr_skip (i := 9) rfl rfl (want_no rfl rfl rfl rfl rfl) (by kernel_rfl) (Pins.of_le hX42.pins hx41.le) ?_
    refine dr_skip (i := 10) rfl rfl (want_no rfl rfl rfl rfl rfl) (by kernel_rfl) (Pins.of_le hX42.pins hx41.le) ?_
    refine dr_skip (i := 11) rfl rfl (want_no rfl rfl rfl rfl rfl) (by kernel_rfl) (Pins.of_le hX42.pins hx41.le) ?_
    refine dr_skip (i := 12) rfl rfl (want_no rfl rfl rfl rfl rfl) (by kernel_rfl) (Pins.of_le hX42.pins hx41.le) ?_
    refine dr_skip (i := 13) rfl rfl (want_no rfl rfl rfl rfl rfl) (by kernel_rfl) (Pins.of_le hX42.pins hx41.le) ?_
    refine dr_skip (i := 14) rfl rfl (want_no rfl rfl rfl rfl rfl) (by kernel_rfl) (Pins.of_le hX42.pins hx41.le) ?_
    refine dr_take (i := 15) rfl rfl rfl (want_none rfl _) (by kernel_rfl) (fun _ _ => r_pickT (v := (.bool true)) rfl rfl) (Pins.of_le hX42.pins hx41.le) ?_
    refine dr_take (i := 16) rfl rfl rfl (want_none rfl _) (by kernel_rfl) (fun _ _ => r_move (v := (.bool true)) rfl) (Pins.of_le hX42.pins hx41.le) ?_
    refine dr_skip (i := 17) rfl rfl (want_no rfl rfl rfl rfl rfl) (by kernel_rfl) (Pins.of_le hX42.pins hx41.le) ?_
    refine dr_skip (i := 18) rfl rfl (want_no rfl rfl rfl rfl rfl) (by kernel_rfl) (Pins.of_le hX42.pins hx41.le) ?_
    refine dr_skip (i := 19) rfl rfl (want_no rfl rfl rfl rfl rfl) (by kernel_rfl) (Pins.of_le hX42.pins hx41.le) ?_
    refine dr_take (i := 20) rfl rfl rfl (want_none rfl _) (by kernel_rfl) (fun _ _ => r_pickT (v := (.bool true)) rfl rfl) (Pins.of_le hX42.pins hx41.le) ?_
    refine dr_take (i := 21) rfl rfl rfl (want_none rfl _) (by kernel_rfl) (fun _ _ => r_move (v := (.bool true)) rfl) (Pins.of_le hX42.pins hx41.le) ?_
    refine dr_skip (i := 22) rfl rfl (want_no rfl rfl rfl rfl rfl) (by kernel_rfl) (Pins.of_le hX42.pins hx41.le) ?_
    refine dr_skip (i := 23) rfl rfl (want_no rfl rfl rfl rfl rfl) (by kernel_rfl) (Pins.of_le hX42.pins hx41.le) ?_
    refine dr_skip (i := 24) rfl rfl (want_no rfl rfl rfl rfl rfl) (by kernel_rfl) (Pins.of_le hX42.pins hx41.le) ?_
    refine dr_skip (i := 25) rfl rfl (want_no rfl rfl rfl rfl rfl) (by kernel_rfl) (Pins.of_le hX42.pins hx41.le) ?_
    refine dr_skip (i := 26) rfl rfl (want_no rfl rfl rfl rfl rfl) (by kernel_rfl) (Pins.of_le hX42.pins hx41.le) ?_
    refine dr_skip (i := 27) rfl rfl (want_no rfl rfl rfl rfl rfl) (by kernel_rfl) (Pins.of_le hX42.pins hx41.le) ?_
    refine dr_skip (i := 28) rfl rfl (want_no rfl rfl rfl rfl rfl) (by kernel_rfl) (Pins.of_le hX42.pins hx41.le) ?_
    refine dr_skip (i := 29) rfl rfl (want_no rfl rfl rfl rfl rfl) (by kernel_rfl) (Pins.of_le hX42.pins hx41.le) ?_
    refine dr_take (i := 30) rfl rfl rfl (want_none rfl _) (by kernel_rfl) (fun _ _ => r_pickT (v := (.bool true)) rfl rfl) (Pins.of_le hX42.pins hx41.le) ?_
    refine dr_end (by kernel_rfl) ?_
    refine s_then ?_
    refine c_ifT rfl rfl ?_
    refine s_seq ?_
    refine c_reg ?_
    refine qd rfl rfl rfl (r_build [(.slice none 0 0), (.bool false)] [(.slice none 0 0), (.bool false)] [] Try.underlying30 zr30 rfl pl30 rfl (fun _ h => by cases h) rfl) ?_
    refine q0 rfl rfl rfl (o_stp (cs' := [(.slice none 0 0), (.bool false)]) (us := [(.slice none 0 0), (.bool false)]) (v := (.agg [(.slice none 0 0), (.bool false)].toArray)) sz30 rfl rfl rfl (ones2 (by rfl) (by rfl)) hX42.pins hb43 (Nat.le_of_ble_eq_true rfl) rfl (fun w96 hb97 hp98 hg99 hz100 => ?_))
    have hX101 := hX42.write hp98 hg99 ((lo_box hlo34))
    refine qd rfl rfl rfl (r_assign (v := (.bool false)) rfl) ?_
    refine qe ?_
    refine s_then ?_
    refine wp_ret ?_
    refine s_ret ?_
    refine c_retct (cs := [(.slice none 0 0), (.bool false)]) (v := (.bool false)) rfl rfl rfl rfl rfl ag30 sz30 (fun j u hj => by rw [Nat.zero_add]; exact hb97.cell hj) ?_
    obtain ⟨e1, e2, e3⟩ := pl_no (lf := lf) (fs := fs) (p := p) (o := o) (fun g => by rw [g.hgt] at h44; cases h44)
    rw [e1, e2, e3]
    exact ⟨_, _, rfl, DForms.nil (Own.nil _ _ _ _ _) (fun k hk => by cases hk) hX101.size, hX101⟩

theorem l1Own_spec {w : World} {G : Pin} {v : Value} {xs : List Int} (hP : Pins G w) (hv : RSl eInt G v xs) (hs : xs.length ≤ 1048576) :
    Calls Try.prog 83 [v].toArray w fun e w' => ∃ (u : Value) (G' : Pin), e = .returned u ∧ Own eInt 3 G' w' w.heap.size u xs ∧ Ext noS G w G' w' := by
  refine s_enter (n := 6) Try.func83 Try.ntmps83 rfl rfl ?_
  have hX0 : Ext noS G w G w := Ext.refl hP
  refine s_seq ?_
  refine c_reg ?_
  refine qd rfl rfl rfl (r_assign (v := (.slice none 0 0)) rfl) ?_
  refine qe ?_
  refine s_then ?_
  refine s_seq ?_
  refine c_reg ?_
  refine q1 rfl rfl rfl (o_build0 (E := eInt) (e := 3) Try.underlying63 sz3 hX0.pins (fun u1 w2 ho3 hp4 hl5 hk6 => ?_))
  have hX7 := hX0.step hp4 hl5
  have ho8 : Own eInt 3 G w2 w.heap.size u1 ([]) := ho3.weaken hX0.size
  refine qd rfl rfl rfl (r_move (v := v) rfl) ?_
  refine q1 rfl rfl rfl (o_append (E := eInt) (v := u1) (u := v) 8 Try.underlying63 ap3 (by decide) rfl rfl hX7.pins ho8 ((hv.mono (Pin.le_refl _)).src hX7.pins (by decide)) (by first | omega | (rw [List.nil_append]; omega) | (rw [List.length_nil]; omega) | (rw [List.length_append]; omega) | (simp; done) | (simp; omega)) (by first | omega | (rw [List.nil_append]; omega) | (rw [List.length_nil]; omega) | (rw [List.length_append]; omega) | (simp; done) | (simp; omega)) (hX7.size) (fun u9 w10 ho11 hp12 hg13 hw14 => ?_))
  have hX15 := hX7.write hp12 hg13 ((lo_own ho8))
  have hm16 : (([]) ++ xs).length = ([]).length + xs.length := List.length_append
  refine qd rfl rfl rfl (r_assign (v := u9) rfl) ?_
  refine qe ?_
  refine s_then ?_
  refine wp_ret ?_
  refine s_ret ?_
  refine c_ret1 (v := u9) rfl rfl rfl ?_
  exact ⟨_, _, rfl, (by simpa using ho11), hX15⟩

theorem l14Own_spec {w : World} {G : Pin} {v : Value} {ns : List Nd} (hP : Pins G w) (hv : RSl eNode G v ns) (hsm : Small ns) :
    Calls Try.prog 50 [(.agg [v].toArray)].toArray w fun e w' => ∃ (u : Value) (G' : Pin), e = .returned (.agg [u].toArray) ∧ RSl eNode G' u ns ∧ Ext noS G w G' w' := by
  refine s_enter (n := 35) Try.func50 Try.ntmps50 rfl rfl ?_
  have hX0 : Ext noS G w G w := Ext.refl hP
  have hln := hsm.len
  refine s_seq ?_
  refine c_reg ?_
  refine q1 rfl rfl rfl (o_box [v] (v := (.agg [v].toArray)) rfl rfl hX0.pins (fun b1 w2 hk3 hb4 hp5 hl6 => ?_))
  have hX7 := hX0.step hp5 hl6
  have hlo8 : w.heap.size ≤ b1 := by have := hX0.size; omega
  obtain ⟨G9, hle10, hX11, hbp12, hf13⟩ := hb4.shut hX7 hlo8
  refine q1 rfl rfl rfl (o_alloc [(.slice none 0 0)] zr50 rfl hX11.pins (fun b14 w15 hk16 hb17 hp18 hl19 => ?_))
  have hX20 := hX11.step hp18 hl19
  have hlo21 : w.heap.size ≤ b14 := by have := hX11.size; omega
  refine qe ?_
  refine s_then ?_
  refine s_seq ?_
  refine c_reg ?_
  refine q1 rfl rfl rfl (o_build0 (E := eNode) (e := 90) Try.underlying48 sz90 hX20.pins (fun u22 w23 ho24 hp25 hl26 hk27 => ?_))
  have hX28 := hX20.step hp25 hl26
  have hb29 := hb17.below hl26
  have ha30 : Apart u22.ownBlock (some b14) := new_ne_box hk27 hb17.lt
  have ho31 : Own eNode 90 G9 w23 w.heap.size u22 ([]) := ho24.weaken hX20.size
  refine qd rfl rfl rfl (r_build [(.slice none 0 0)] [u22] [(0, u22, [u22])] Try.underlying50 zr50 rfl pl50 rfl (List.forall_mem_cons.2 ⟨(cells_one ho31.one), (fun _ h => by cases h)⟩) rfl) ?_
  refine q1 rfl rfl rfl (o_alloc [(.slice none 0 0)] zr50 rfl hX28.pins (fun b32 w33 hk34 hb35 hp36 hl37 => ?_))
  have hX38 := hX28.step hp36 hl37
  have ho39 := ho31.below hl37
  have hb40 := hb29.below hl37
  have ha41 : Apart (some b32) u22.ownBlock := new_ne_own (congrArg some hk34) ho31.lt
  have ha42 : Apart (some b32) (some b14) := new_ne_box (congrArg some hk34) hb29.lt
  have hlo43 : w.heap.size ≤ b32 := by have := hX28.size; omega
  refine q0 rfl rfl rfl (o_stp (cs' := [u22]) (us := [u22]) (v := (.agg [u22].toArray)) sz50 rfl rfl rfl (ones1 ho39.one) hX38.pins hb35 (Nat.le_of_ble_eq_true rfl) rfl (fun w44 hb45 hp46 hg47 hz48 => ?_))
  have hX49 := hX38.write hp46 hg47 ((lo_box hlo43))
  have ho50 := ho39.keptA hg47 ha41.symm
  have hb51 := hb40.keptA hg47 ha42.symm
  refine qe ?_
  refine s_then ?_
  refine s_seq ?_
  refine s_seq ?_
  refine c_reg ?_
  refine qd rfl rfl rfl (r_assign (v := (.int .i64 0)) rfl) ?_
  refine qe ?_
  refine s_then ?_
  refine s_blk ?_
  refine s_loop (fun (k : Nat) (en : Nat → Value) (W : World) => ∃ (env1 : Nat → Value) (j : Nat) (ou : Value) (os : List Nd) (GL1 : Pin), en = (upd (upd (upd (upd env1 1 (.pointer (some ⟨b1, 0, none⟩))) 2 (.pointer (some ⟨b14, 0, none⟩))) 3 (.pointer (some ⟨b32, 0, none⟩))) 4 (.int .i64 (j : Int))) ∧ k = ns.length - j ∧ Ext noS G w GL1 W ∧ Pin.le G9 GL1 ∧ (j ≤ ns.length) ∧ (os = ns.take j) ∧ (os.length = j) ∧ (Own eNode 90 GL1 W w.heap.size ou (os)) ∧ (Bx GL1 W b14 [(.slice none 0 0)]) ∧ (Bx GL1 W b32 [ou]) ∧ (Apart ou.ownBlock (some b14)) ∧ (Apart ou.ownBlock (some b32))) _ ⟨_, 0, u22, [], G9, (packS (x := 4) (packS (x := 3) (packS (x := 2) (pack1 (x := 1) rfl) rfl) rfl) rfl), rfl, hX49, Pin.le_refl _, Nat.zero_le _, rfl, rfl, ho50, hb51, hb45, ha30, ha41.symm⟩ ?_
  rintro k52 _ w53 ⟨env1, j, ou, os, GL1, rfl, hk54, hX55, hlek52, hj, hos, hol, hw56, hw57, hw58, ha59, ha60⟩
  refine s_seq ?_
  refine s_seq ?_
  refine c_reg ?_
  refine qd rfl rfl rfl (r_move (v := (.int .i64 (j : Int))) rfl) ?_
  refine qd rfl rfl rfl (r_fldp (k := 0) rfl Try.underlying50 rfl nz48 rfl) ?_
  refine qd rfl rfl rfl (r_ldp1 (u := v) ag48 rfl ((Pins.of_le hX55.pins hlek52) _ _ _ (hbp12 0 _ rfl))) ?_
  refine qd rfl rfl rfl (run_len Try.underlying48 (v := v) rfl hv) ?_
  refine qd rfl rfl rfl (r_lss rfl rfl) ?_
  refine qe ?_
  refine s_then ?_
  refine c_ifd (p := ((j : Int) : Int) < (ns.length : Int)) rfl rfl (fun h61 => ?_) (fun h61 => ?_)
  · skip
    have hso := hsm.opts j (by omega)
    refine wp_skip ?_
    refine s_then ?_
    refine s_seq ?_
    refine s_blk ?_
    refine c_draw (S := fun w => BxR w b32 [ou] ∧ Pins GL1 w) (last := 20) (by kernel_rfl) rfl ?_
    have hl62 : Below w53.heap.size w53 w53.drew := (Below.refl _ _).drew
    have hp63 := hX55.pins.below hl62
    have hX64 := hX55.step hp63 hl62
    have ho65 := hw56.below hl62
    have hb66 := hw57.below hl62
    have hb67 := hw58.below hl62
    refine dr_take (i := 0) rfl rfl rfl (want_none rfl _) (by kernel_rfl) (fun _ _ => r_fldp (k := 0) rfl Try.underlying50 rfl nz48 rfl) ⟨hb67.reads, hX64.pins⟩ ?_
    refine dr_take (i := 1) rfl rfl rfl (want_none rfl _) (by kernel_rfl) (fun _ hS => r_ldp1 (u := ou) ag48 rfl (hS.1 0 _ rfl)) ⟨hb67.reads, hX64.pins⟩ ?_
    refine dr_take (i := 2) rfl rfl rfl (want_none rfl _) (by kernel_rfl) (fun _ _ => r_fldp (k := 0) rfl Try.underlying50 rfl nz48 rfl) ⟨hb67.reads, hX64.pins⟩ ?_
    refine dr_take (i := 3) rfl rfl rfl (want_none rfl _) (by kernel_rfl) (fun _ hS => r_ldp1 (u := v) ag48 rfl ((Pins.of_le hS.2 hlek52) _ _ _ (hbp12 0 _ rfl))) ⟨hb67.reads, hX64.pins⟩ ?_
    refine dr_take (i := 4) rfl rfl rfl (want_none rfl _) (by kernel_rfl) (fun _ _ => r_move (v := (.int .i64 (j : Int))) rfl) ⟨hb67.reads, hX64.pins⟩ ?_
    refine dr_take (i := 5) rfl rfl rfl (want_none rfl _) (by kernel_rfl) (fun _ _ => run_idx Try.underlying48 sz90 (v := v) rfl rfl hv (by omega) (by omega)) ⟨hb67.reads, hX64.pins⟩ ?_
    refine dr_take (i := 6) rfl rfl rfl (want_none rfl _) (by kernel_rfl) (fun _ _ => run_fld (off := 0) Try.underlying90 rfl rfl nz63 (z := (j : Int)) (k := 0) rfl hv (by omega) (by omega)) ⟨hb67.reads, hX64.pins⟩ ?_
    obtain ⟨u68, hr69, hl70⟩ := nm_nl (hv.at (z := (j : Int)) (by omega) (by omega)) (j := j) rfl
    have hm71 := hr69.max
    refine dr_take (i := 7) rfl rfl rfl (want_none rfl _) (by kernel_rfl) (fun _ hS => hl70 ag63 rfl (Pins.of_le hS.2 (Pin.le_trans hle10 hlek52))) ⟨hb67.reads, hX64.pins⟩ ?_
    refine dr_take (i := 9) rfl rfl rfl (want_none rfl _) (by kernel_rfl) (fun _ _ => r_fldp (k := 0) rfl Try.underlying50 rfl nz48 rfl) ⟨hb67.reads, hX64.pins⟩ ?_
    refine dr_take (i := 10) rfl rfl rfl (want_none rfl _) (by kernel_rfl) (fun _ hS => r_ldp1 (u := v) ag48 rfl ((Pins.of_le hS.2 hlek52) _ _ _ (hbp12 0 _ rfl))) ⟨hb67.reads, hX64.pins⟩ ?_
    refine dr_take (i := 11) rfl rfl rfl (want_none rfl _) (by kernel_rfl) (fun _ _ => r_move (v := (.int .i64 (j : Int))) rfl) ⟨hb67.reads, hX64.pins⟩ ?_
    refine dr_take (i := 12) rfl rfl rfl (want_none rfl _) (by kernel_rfl) (fun _ _ => run_idx Try.underlying48 sz90 (v := v) rfl rfl hv (by omega) (by omega)) ⟨hb67.reads, hX64.pins⟩ ?_
    refine dr_take (i := 13) rfl rfl rfl (want_none rfl _) (by kernel_rfl) (fun _ _ => run_fld (off := 1) Try.underlying90 rfl rfl nz63 (z := (j : Int)) (k := 0) rfl hv (by omega) (by omega)) ⟨hb67.reads, hX64.pins⟩ ?_
    obtain ⟨u72, hr73, hl74⟩ := nm_nr (hv.at (z := (j : Int)) (by omega) (by omega)) (j := j) rfl
    have hm75 := hr73.max
    refine dr_take (i := 14) rfl rfl rfl (want_none rfl _) (by kernel_rfl) (fun _ hS => hl74 ag63 rfl (Pins.of_le hS.2 (Pin.le_trans hle10 hlek52))) ⟨hb67.reads, hX64.pins⟩ ?_
    refine dr_one (i := 8) (by kernel_rfl) (drOp1 (i := 8) rfl rfl rfl (want_none rfl _) (o_call (vs := [u68]) Try.func83 nm83 rfl rfl rfl ?_))
    refine Calls.mono (l1Own_spec hX64.pins (hr69.mono (Pin.le_trans hle10 hlek52)) (by omega)) ?_
    rintro _ w78 ⟨u76, G77, rfl, ho79, hx80⟩
    refine ⟨_, rfl, ?_⟩
    have hX81 := hX64.tr hx80
    have ho82 := ho65.ext hx80
    have hb83 := hb66.ext hx80
    have hb84 := hb67.ext hx80
    have ha85 : Apart u76.ownBlock ou.ownBlock := made_ne_own ho79.lt ho65.lt
    have ha86 : Apart u76.ownBlock (some b14) := made_ne_box ho79.lt hb66.lt
    have ha87 : Apart u76.ownBlock (some b32) := made_ne_box ho79.lt hb67.lt
    have ho88 : Own eInt 3 G77 w78 w.heap.size u76 ((ns.getD j default).l) := ho79.weaken hX64.size
    refine ⟨fun _ => ⟨hb84.reads, (Pins.of_le hX81.pins hx80.le)⟩, ?_⟩
    refine dr_one (i := 15) (by kernel_rfl) (drOp1 (i := 15) rfl rfl rfl (want_none rfl _) (o_call (vs := [u72]) Try.func83 nm83 rfl rfl rfl ?_))
    refine Calls.mono (l1Own_spec hX81.pins (hr73.mono (Pin.le_trans (Pin.le_trans hle10 hlek52) hx80.le)) (by omega)) ?_
    rintro _ w91 ⟨u89, G90, rfl, ho92, hx93⟩
    refine ⟨_, rfl, ?_⟩
    have hX94 := hX81.tr hx93
    have ho95 := ho82.ext hx93
    have ho96 := ho88.ext hx93
    have hb97 := hb83.ext hx93
    have hb98 := hb84.ext hx93
    have ha99 : Apart u89.ownBlock ou.ownBlock := made_ne_own ho92.lt ho82.lt
    have ha100 : Apart u89.ownBlock u76.ownBlock := made_ne_own ho92.lt ho88.lt
    have ha101 : Apart u89.ownBlock (some b14) := made_ne_box ho92.lt hb83.lt
    have ha102 : Apart u89.ownBlock (some b32) := made_ne_box ho92.lt hb84.lt
    have ho103 : Own eInt 3 G90 w91 w.heap.size u89 ((ns.getD j default).r) := ho92.weaken hX81.size
    refine ⟨fun _ => ⟨hb98.reads, (Pins.of_le hX94.pins (Pin.le_trans hx80.le hx93.le))⟩, ?_⟩
    refine dr_take (i := 16) rfl rfl rfl (want_none rfl _) (by kernel_rfl) (fun _ _ => r_build [(.slice none 0 0), (.slice none 0 0)] [u76, u89] [(0, u76, [u76]), (1, u89, [u89])] Try.underlying90 zr90 rfl pl90 rfl (List.forall_mem_cons.2 ⟨(cells_one ho96.one), (List.forall_mem_cons.2 ⟨(cells_one ho103.one), (fun _ h => by cases h)⟩)⟩) rfl) ⟨hb98.reads, (Pins.of_le hX94.pins (Pin.le_trans hx80.le hx93.le))⟩ ?_
    obtain ⟨G104, hle107, hX106, hr105, hf108⟩ := ho96.sealed hX94
    have ho109 := ho95.moreO hle107 hf108 ha85.symm
    have ho110 := ho103.moreO hle107 hf108 ha100
    have hb111 := hb97.moreO hf108 ha86.symm
    have hb112 := hb98.moreO hf108 ha87.symm
    obtain ⟨G113, hle116, hX115, hr114, hf117⟩ := ho110.sealed hX106
    have ho118 := ho109.moreO hle116 hf117 ha99.symm
    have hb119 := hb111.moreO hf117 ha101.symm
    have hb120 := hb112.moreO hf117 ha102.symm
    refine dr_one (i := 17) (by kernel_rfl) (drOp1 (i := 17) rfl rfl rfl (want_none rfl _) (o_build1 (E := eNode) (e := 90) [u76, u89] (⟨(ns.getD j default).l, (ns.getD j default).r⟩ : Nd) Try.underlying48 sz90 zr90 ⟨_, _, rfl, (hr105.mono hle116), hr114⟩ rfl (by decide) hX115.pins (fun u121 w122 ho123 hp124 hl125 hk126 => ?_)))
    have hX127 := hX115.step hp124 hl125
    have ho128 := ho118.below hl125
    have hb129 := hb119.below hl125
    have hb130 := hb120.below hl125
    have ha131 : Apart u121.ownBlock ou.ownBlock := new_ne_own hk126 ho118.lt
    have ha132 : Apart u121.ownBlock (some b14) := new_ne_box hk126 hb119.lt
    have ha133 : Apart u121.ownBlock (some b32) := new_ne_box hk126 hb120.lt
    have ho134 : Own eNode 90 G113 w122 w.heap.size u121 ([(⟨(ns.getD j default).l, (ns.getD j default).r⟩ : Nd)]) := ho123.weaken hX115.size
    refine ⟨fun _ => ⟨hb130.reads, (Pins.of_le hX127.pins (Pin.le_trans (Pin.le_trans (Pin.le_trans hx80.le hx93.le) hle107) hle116))⟩, ?_⟩
    refine dr_one (i := 18) (by kernel_rfl) (drOp1 (i := 18) rfl rfl rfl (want_none rfl _) (o_append (E := eNode) (v := ou) (u := u121) 48 Try.underlying48 ap90 (by decide) rfl rfl hX127.pins ho128 ho134.src (by first | omega | (rw [List.nil_append]; omega) | (rw [List.length_nil]; omega) | (rw [List.length_append]; omega) | (simp; done) | (simp; omega)) (by first | omega | (rw [List.nil_append]; omega) | (rw [List.length_nil]; omega) | (rw [List.length_append]; omega) | (simp; done) | (simp; omega)) (hX127.size) (fun u135 w136 ho137 hp138 hg139 hw140 => ?_)))
    have hX141 := hX127.write hp138 hg139 ((lo_own ho128))
    have ho142 := ho134.keptA hg139 ha131
    have hb143 := hb129.keptA hg139 ha59.symm
    have hb144 := hb130.keptA hg139 ha60.symm
    have ha145 : Apart u121.ownBlock u135.ownBlock := app_ne_own ha131 hw140 ho134.lt
    have ha146 : Apart (some b14) u135.ownBlock := app_ne_box ha59.symm hw140 hb129.lt
    have ha147 : Apart (some b32) u135.ownBlock := app_ne_box ha60.symm hw140 hb130.lt
    have hm148 : (os ++ ([(⟨(ns.getD j default).l, (ns.getD j default).r⟩ : Nd)])).length = os.length + 1 := by simp
    refine ⟨fun _ => ⟨hb144.reads, (Pins.of_le hX141.pins (Pin.le_trans (Pin.le_trans (Pin.le_trans hx80.le hx93.le) hle107) hle116))⟩, ?_⟩
    refine dr_take (i := 19) rfl rfl rfl (want_none rfl _) (by kernel_rfl) (fun _ _ => r_fldp (k := 0) rfl Try.underlying50 rfl nz48 rfl) ⟨hb144.reads, (Pins.of_le hX141.pins (Pin.le_trans (Pin.le_trans (Pin.le_trans hx80.le hx93.le) hle107) hle116))⟩ ?_
    refine dr_one (i := 20) (by kernel_rfl) (drOp0 (i := 20) rfl rfl rfl (want_none rfl _) (o_stp (cs' := [u135]) (us := [u135]) (v := u135) sz48 rfl rfl (cells1 ho137.one) (ones1 ho137.one) hX141.pins hb144 (Nat.le_of_ble_eq_true rfl) rfl (fun w149 hb150 hp151 hg152 hz153 => ?_)))
    have hX154 := hX141.write hp151 hg152 ((lo_box hlo43))
    have ho155 := ho137.keptA hg152 ha147.symm
    have hb156 := hb143.keptA hg152 ha42.symm
    refine ⟨fun h => absurd rfl h, ?_⟩
    refine dr_end (by kernel_rfl) ?_
    refine s_blkN ?_
    refine s_then ?_
    refine c_reg ?_
    refine qd rfl rfl rfl (r_move (v := (.int .i64 (j : Int))) rfl) ?_
    refine qd rfl rfl rfl (r_add rfl rfl (by omega)) ?_
    refine qd rfl rfl rfl (r_assign (v := (.int .i64 ((j : Int) + 1))) rfl) ?_
    refine qe ?_
    refine s_lopN ?_
    refine ⟨_, ?_, _, rfl, _, j + 1, u135, os ++ ([(⟨(ns.getD j default).l, (ns.getD j default).r⟩ : Nd)]), G113, (packS (x := 4) (packS (x := 3) (packS (x := 2) (pack1 (x := 1) rfl) rfl) rfl) rfl), rfl, hX154, (Pin.le_trans (Pin.le_trans (Pin.le_trans (Pin.le_trans hlek52 hx80.le) hx93.le) hle107) hle116), (by omega), (by rw [hos, take_snoc ns default (by omega)]), (by simp; omega), ho155, hb156, hb150, ha146.symm, ha147.symm⟩
    omega
  · skip
    refine wp_exit ?_
    refine s_thenE ?_
    refine s_lopE ?_
    refine s_blkE ?_
    refine s_then ?_
    refine s_seq ?_
    refine c_reg ?_
    refine qd rfl rfl rfl (r_ldpA (cs := [ou]) ag50 sz50 rfl (fun j u hj => hw58.cell (by simpa using hj))) ?_
    refine q0 rfl rfl rfl (o_stp (cs' := [ou]) (us := [ou]) (v := (.agg [ou].toArray)) sz50 rfl rfl rfl (ones1 hw56.one) hX55.pins hw57 (Nat.le_of_ble_eq_true rfl) rfl (fun w157 hb158 hp159 hg160 hz161 => ?_))
    have hX162 := hX55.write hp159 hg160 ((lo_box hlo21))
    have ho163 := hw56.keptA hg160 ha59
    have hb164 := hw58.keptA hg160 ha42
    refine qe ?_
    refine s_then ?_
    refine wp_ret ?_
    refine s_ret ?_
    refine c_retc (cs := [ou]) rfl rfl rfl ag50 sz50 (fun j u hj => by rw [Nat.zero_add]; exact hb158.cell hj) ?_
    obtain ⟨G165, hle168, hX167, hr166, hf169⟩ := ho163.sealed hX162
    have hb170 := hb158.moreO hf169 ha59.symm
    have hb171 := hb164.moreO hf169 ha60.symm
    rw [take_all (by omega)] at hos
    exact ⟨_, _, rfl, (by rw [← hos]; exact hr166), hX167⟩

theorem l14Play_spec {w : World} {G : Pin} {v : Value} {lf : Bool} {fs : List (List Nd)} {p o : Int} (hP : Pins G w) (hv : RSl (eSl eNode) G v fs) (hpp : PlayP lf fs p o) :
    Calls Try.prog 26 [(.agg [v, (.bool lf)].toArray), (.agg [(.int .i64 p), (.int .i64 o)].toArray)].toArray w fun e w' => ∃ (u : Value) (G' : Pin), e = .returned (.agg [u, .bool (!lf)].toArray) ∧ RSl (eSl eNode) G' u (playF lf fs p o fs.length) ∧ Ext noS G w G' w' := by
  refine s_enter (n := 49) Try.func26 Try.ntmps26 rfl rfl ?_
  have hX0 : Ext noS G w G w := Ext.refl hP
  have hl6 := hpp.len
  refine s_seq ?_
  refine c_reg ?_
  refine q1 rfl rfl rfl (o_box [v, (.bool lf)] (v := (.agg [v, (.bool lf)].toArray)) rfl rfl hX0.pins (fun b1 w2 hk3 hb4 hp5 hl6 => ?_))
  have hX7 := hX0.step hp5 hl6
  have hlo8 : w.heap.size ≤ b1 := by have := hX0.size; omega
  obtain ⟨G9, hle10, hX11, hbp12, hf13⟩ := hb4.shut hX7 hlo8
  refine q1 rfl rfl rfl (o_box [(.int .i64 p), (.int .i64 o)] (v := (.agg [(.int .i64 p), (.int .i64 o)].toArray)) rfl rfl hX11.pins (fun b14 w15 hk16 hb17 hp18 hl19 => ?_))
  have hX20 := hX11.step hp18 hl19
  have hlo21 : w.heap.size ≤ b14 := by have := hX11.size; omega
  obtain ⟨G22, hle23, hX24, hbp25, hf26⟩ := hb17.shut hX20 hlo21
  refine q1 rfl rfl rfl (o_alloc [(.slice none 0 0), (.bool false)] zr30 rfl hX24.pins (fun b27 w28 hk29 hb30 hp31 hl32 => ?_))
  have hX33 := hX24.step hp31 hl32
  have hlo34 : w.heap.size ≤ b27 := by have := hX24.size; omega
  refine qe ?_
  refine s_then ?_
  refine s_seq ?_
  refine c_reg ?_
  refine q1 rfl rfl rfl (o_build0 (E := (eSl eNode)) (e := 50) Try.underlying28 sz50 hX33.pins (fun u35 w36 ho37 hp38 hl39 hk40 => ?_))
  have hX41 := hX33.step hp38 hl39
  have hb42 := hb30.below hl39
  have ha43 : Apart u35.ownBlock (some b27) := new_ne_box hk40 hb30.lt
  have ho44 : Own (eSl eNode) 50 G22 w36 w.heap.size u35 ([]) := ho37.weaken hX33.size
  refine qd rfl rfl rfl (r_fldp (k := 1) rfl Try.underlying30 rfl nz4 rfl) ?_
  refine qd rfl rfl rfl (r_ldp1 (u := (.bool lf)) ag4 rfl ((Pins.of_le hX41.pins hle23) _ _ _ (hbp12 1 _ rfl))) ?_
  refine qd rfl rfl rfl (r_not rfl) ?_
  refine qd rfl rfl rfl (r_build [(.slice none 0 0), (.bool false)] [u35, (.bool (!lf))] [(0, u35, [u35]), (1, (.bool (!lf)), [(.bool (!lf))])] Try.underlying30 zr30 rfl pl30 rfl (List.forall_mem_cons.2 ⟨(cells_one ho44.one), (List.forall_mem_cons.2 ⟨rfl, (fun _ h => by cases h)⟩)⟩) rfl) ?_
  refine q1 rfl rfl rfl (o_alloc [(.slice none 0 0), (.bool false)] zr30 rfl hX41.pins (fun b45 w46 hk47 hb48 hp49 hl50 => ?_))
  have hX51 := hX41.step hp49 hl50
  have ho52 := ho44.below hl50
  have hb53 := hb42.below hl50
  have ha54 : Apart (some b45) u35.ownBlock := new_ne_own (congrArg some hk47) ho44.lt
  have ha55 : Apart (some b45) (some b27) := new_ne_box (congrArg some hk47) hb42.lt
  have hlo56 : w.heap.size ≤ b45 := by have := hX41.size; omega
  refine q0 rfl rfl rfl (o_stp (cs' := [u35, (.bool (!lf))]) (us := [u35, (.bool (!lf))]) (v := (.agg [u35, (.bool (!lf))].toArray)) sz30 rfl rfl rfl (ones2 ho52.one (by rfl)) hX51.pins hb48 (Nat.le_of_ble_eq_true rfl) rfl (fun w57 hb58 hp59 hg60 hz61 => ?_))
  have hX62 := hX51.write hp59 hg60 ((lo_box hlo56))
  have ho63 := ho52.keptA hg60 ha54.symm
  have hb64 := hb53.keptA hg60 ha55.symm
  refine qe ?_
  refine s_then ?_
  refine s_seq ?_
  refine s_seq ?_
  refine c_reg ?_
  refine qd rfl rfl rfl (r_assign (v := (.int .i64 0)) rfl) ?_
  refine qe ?_
  refine s_then ?_
  refine s_blk ?_
  refine s_loop (fun (k : Nat) (en : Nat → Value) (W : World) => ∃ (env1 : Nat → Value) (j : Nat) (lu : Value) (os : List (List Nd)) (GL1 : Pin), en = (upd (upd (upd (upd (upd env1 2 (.pointer (some ⟨b1, 0, none⟩))) 3 (.pointer (some ⟨b14, 0, none⟩))) 4 (.pointer (some ⟨b27, 0, none⟩))) 5 (.pointer (some ⟨b45, 0, none⟩))) 6 (.int .i64 (j : Int))) ∧ k = fs.length - j ∧ Ext noS G w GL1 W ∧ Pin.le G22 GL1 ∧ (j ≤ fs.length) ∧ (os = playF lf fs p o j) ∧ (os.length = j) ∧ (Own (eSl eNode) 50 GL1 W w.heap.size lu (os)) ∧ (Bx GL1 W b27 [(.slice none 0 0), (.bool false)]) ∧ (Bx GL1 W b45 [lu, (.bool (!lf))]) ∧ (Apart lu.ownBlock (some b27)) ∧ (Apart lu.ownBlock (some b45))) _ ⟨_, 0, u35, [], G22, (packS (x := 6) (packS (x := 5) (packS (x := 4) (packS (x := 3) (pack1 (x := 2) rfl) rfl) rfl) rfl) rfl), rfl, hX62, Pin.le_refl _, Nat.zero_le _, rfl, rfl, ho63, hb64, hb58, ha43, ha54.symm⟩ ?_
  rintro k65 _ w66 ⟨env1, j, lu, os, GL1, rfl, hk67, hX68, hlek65, hj, hos, hol, hw69, hw70, hw71, ha72, ha73⟩
  refine s_seq ?_
  refine s_seq ?_
  refine c_reg ?_
  refine qd rfl rfl rfl (r_move (v := (.int .i64 (j : Int))) rfl) ?_
  refine qd rfl rfl rfl (r_fldp (k := 0) rfl Try.underlying30 rfl nz28 rfl) ?_
  refine qd rfl rfl rfl (r_ldp1 (u := v) ag28 rfl ((Pins.of_le hX68.pins (Pin.le_trans hle23 hlek65)) _ _ _ (hbp12 0 _ rfl))) ?_
  refine qd rfl rfl rfl (run_len Try.underlying28 (v := v) rfl hv) ?_
  refine qd rfl rfl rfl (r_lss rfl rfl) ?_
  refine qe ?_
  refine s_then ?_
  refine c_ifd (p := ((j : Int) : Int) < (fs.length : Int)) rfl rfl (fun h74 => ?_) (fun h74 => ?_)
  · skip
    have hgj := goodB_true.1 (hpp.good j (by omega))
    have hsj := (small_lens (good_lens hgj)).1
    have hsl := sideS_len lf (fs.getD j [])
    refine wp_skip ?_
    refine s_then ?_
    refine s_seq ?_
    refine s_blk ?_
    refine s_seq ?_
    refine c_reg ?_
    refine qd rfl rfl rfl (r_fldp (k := 0) rfl Try.underlying30 rfl nz28 rfl) ?_
    refine qd rfl rfl rfl (r_ldp1 (u := v) ag28 rfl ((Pins.of_le hX68.pins (Pin.le_trans hle23 hlek65)) _ _ _ (hbp12 0 _ rfl))) ?_
    refine qd rfl rfl rfl (r_move (v := (.int .i64 (j : Int))) rfl) ?_
    refine qd rfl rfl rfl (run_idx Try.underlying28 sz50 (v := v) rfl rfl hv (by omega) (by omega)) ?_
    obtain ⟨u75, hr76, hl77⟩ := nm_form (hv.at (z := (j : Int)) (by omega) (by omega)) (j := j) rfl
    have hm78 := hr76.max
    refine qd rfl rfl rfl (hl77 ag50 sz50 rfl (Pins.of_le hX68.pins (Pin.le_trans (Pin.le_trans hle10 hle23) hlek65))) ?_
    refine q1 rfl rfl rfl (o_call (vs := [(.agg [u75].toArray)]) Try.func50 nm50 rfl rfl rfl ?_)
    refine Calls.mono (l14Own_spec hX68.pins (hr76.mono (Pin.le_trans (Pin.le_trans hle10 hle23) hlek65)) hsj) ?_
    rintro _ w81 ⟨u79, G80, rfl, hr82, hx83⟩
    refine ⟨_, rfl, ?_⟩
    have hX84 := hX68.tr hx83
    have ho85 := hw69.ext hx83
    have hb86 := hw70.ext hx83
    have hb87 := hw71.ext hx83
    refine q1 rfl rfl rfl (o_alloc [(.slice none 0 0)] zr50 rfl hX84.pins (fun b88 w89 hk90 hb91 hp92 hl93 => ?_))
    have hX94 := hX84.step hp92 hl93
    have ho95 := ho85.below hl93
    have hb96 := hb86.below hl93
    have hb97 := hb87.below hl93
    have ha98 : Apart (some b88) lu.ownBlock := new_ne_own (congrArg some hk90) ho85.lt
    have ha99 : Apart (some b88) (some b27) := new_ne_box (congrArg some hk90) hb86.lt
    have ha100 : Apart (some b88) (some b45) := new_ne_box (congrArg some hk90) hb87.lt
    have hlo101 : w.heap.size ≤ b88 := by have := hX84.size; omega
    refine q0 rfl rfl rfl (o_stp (cs' := [u79]) (us := [u79]) (v := (.agg [u79].toArray)) sz50 rfl rfl rfl (ones1 hr82.one) hX94.pins hb91 (Nat.le_of_ble_eq_true rfl) rfl (fun w102 hb103 hp104 hg105 hz106 => ?_))
    have hX107 := hX94.write hp104 hg105 ((lo_box hlo101))
    have ho108 := ho95.keptA hg105 ha98.symm
    have hb109 := hb96.keptA hg105 ha99.symm
    have hb110 := hb97.keptA hg105 ha100.symm
    refine qe ?_
    refine s_then ?_
    refine s_seq ?_
    refine s_seq ?_
    refine c_reg ?_
    refine qd rfl rfl rfl (r_move (v := (.int .i64 (j : Int))) rfl) ?_
    refine qd rfl rfl rfl (r_fldp (k := 0) rfl Try.underlying34 rfl nz3 rfl) ?_
    refine qd rfl rfl rfl (r_ldp1 (u := (.int .i64 p)) ag3 rfl ((Pins.of_le hX107.pins (Pin.le_trans hlek65 hx83.le)) _ _ _ (hbp25 0 _ rfl))) ?_
    refine qd rfl rfl rfl (r_eql rfl rfl) ?_
    refine qe ?_
    refine s_then ?_
    refine c_ifd (p := ((j : Int) : Int) = p) rfl rfl (fun h111 => ?_) (fun h111 => ?_)
    · skip
      have hopt : 0 ≤ o ∧ o < (optL lf (fs.getD j [])).length := by have h0 := hpp.opt; rw [show p.toNat = j by omega] at h0; exact h0
      refine c_draw (S := fun w => Pins G80 w) (last := 12) (by kernel_rfl) rfl ?_
      have hl112 : Below w102.heap.size w102 w102.drew := (Below.refl _ _).drew
      have hp113 := hX107.pins.below hl112
      have hX114 := hX107.step hp113 hl112
      have ho115 := ho108.below hl112
      have hb116 := hb109.below hl112
      have hb117 := hb110.below hl112
      have hb118 := hb103.below hl112
      refine dr_take (i := 0) rfl rfl rfl (want_none rfl _) (by kernel_rfl) (fun _ _ => r_fldp (k := 0) rfl Try.underlying30 rfl nz28 rfl) hX114.pins ?_
      refine dr_take (i := 1) rfl rfl rfl (want_none rfl _) (by kernel_rfl) (fun _ hS => r_ldp1 (u := v) ag28 rfl ((Pins.of_le hS (Pin.le_trans (Pin.le_trans hle23 hlek65) hx83.le)) _ _ _ (hbp12 0 _ rfl))) hX114.pins ?_
      refine dr_take (i := 2) rfl rfl rfl (want_none rfl _) (by kernel_rfl) (fun _ _ => r_move (v := (.int .i64 (j : Int))) rfl) hX114.pins ?_
      refine dr_take (i := 3) rfl rfl rfl (want_none rfl _) (by kernel_rfl) (fun _ _ => run_idx Try.underlying28 sz50 (v := v) rfl rfl hv (by omega) (by omega)) hX114.pins ?_
      obtain ⟨u119, hr120, hl121⟩ := nm_form (hv.at (z := (j : Int)) (by omega) (by omega)) (j := j) rfl
      have hm122 := hr120.max
      refine dr_take (i := 4) rfl rfl rfl (want_none rfl _) (by kernel_rfl) (fun _ hS => hl121 ag50 sz50 rfl (Pins.of_le hS (Pin.le_trans (Pin.le_trans (Pin.le_trans hle10 hle23) hlek65) hx83.le))) hX114.pins ?_
      refine dr_take (i := 5) rfl rfl rfl (want_none rfl _) (by kernel_rfl) (fun _ _ => r_fldp (k := 1) rfl Try.underlying30 rfl nz4 rfl) hX114.pins ?_
      refine dr_take (i := 6) rfl rfl rfl (want_none rfl _) (by kernel_rfl) (fun _ hS => r_ldp1 (u := (.bool lf)) ag4 rfl ((Pins.of_le hS (Pin.le_trans (Pin.le_trans hle23 hlek65) hx83.le)) _ _ _ (hbp12 1 _ rfl))) hX114.pins ?_
      refine dr_take (i := 8) rfl rfl rfl (want_none rfl _) (by kernel_rfl) (fun _ _ => r_fldp (k := 1) rfl Try.underlying34 rfl nz3 rfl) hX114.pins ?_
      refine dr_take (i := 9) rfl rfl rfl (want_none rfl _) (by kernel_rfl) (fun _ hS => r_ldp1 (u := (.int .i64 o)) ag3 rfl ((Pins.of_le hS (Pin.le_trans hlek65 hx83.le)) _ _ _ (hbp25 1 _ rfl))) hX114.pins ?_
      refine dr_one (i := 7) (by kernel_rfl) (drOp1 (i := 7) rfl rfl rfl (want_none rfl _) (o_call (vs := [(.agg [u119].toArray), (.bool lf)]) Try.func25 nm25 rfl rfl rfl ?_))
      refine Calls.mono (l14Side_spec hX114.pins (hr120.mono (Pin.le_trans (Pin.le_trans (Pin.le_trans hle10 hle23) hlek65) hx83.le)) hgj) ?_
      rintro _ w125 ⟨u123, G124, rfl, hr126, hx127⟩
      refine ⟨_, rfl, ?_⟩
      have hX128 := hX114.tr hx127
      have ho129 := ho115.ext hx127
      have hb130 := hb116.ext hx127
      have hb131 := hb117.ext hx127
      have hb132 := hb118.ext hx127
      refine ⟨fun _ => (Pins.of_le hX128.pins hx127.le), ?_⟩
      refine dr_take (i := 10) rfl rfl rfl (want_none rfl _) (by kernel_rfl) (fun _ _ => run_idx Try.underlying28 sz50 (v := u123) rfl rfl hr126 (by omega) (by omega)) (Pins.of_le hX128.pins hx127.le) ?_
      refine dr_more (S' := fun w => Pins G80 w ∧ Pins G124 w) (fun _ h => h.1) ?_
      obtain ⟨u133, hr134, hl135⟩ := nm_form (hr126.at (z := o) (by omega) (by omega)) (j := (o).toNat) rfl
      have hm136 := hr134.max
      refine dr_take (i := 11) rfl rfl rfl (want_none rfl _) (by kernel_rfl) (fun _ hS => hl135 ag50 sz50 rfl hS.2) ⟨(Pins.of_le hX128.pins hx127.le), hX128.pins⟩ ?_
      refine dr_one (i := 12) (by kernel_rfl) (drOp0 (i := 12) rfl rfl rfl (want_none rfl _) (o_stp (cs' := [u133]) (us := [u133]) (v := (.agg [u133].toArray)) sz50 rfl rfl rfl (ones1 hr134.one) hX128.pins hb132 (Nat.le_of_ble_eq_true rfl) rfl (fun w137 hb138 hp139 hg140 hz141 => ?_)))
      have hX142 := hX128.write hp139 hg140 ((lo_box hlo101))
      have ho143 := ho129.keptA hg140 ha98.symm
      have hb144 := hb130.keptA hg140 ha99.symm
      have hb145 := hb131.keptA hg140 ha100.symm
      refine ⟨fun h => absurd rfl h, ?_⟩
      refine dr_end (by kernel_rfl) ?_
      refine s_then ?_
      refine c_reg ?_
      refine qd rfl rfl rfl (r_fldp (k := 0) rfl Try.underlying30 rfl nz28 rfl) ?_
      refine qd rfl rfl rfl (r_ldp1 (u := lu) ag28 rfl (hb145.cell (o := 0) rfl)) ?_
      refine qd rfl rfl rfl (r_ldpA (cs := [u133]) ag50 sz50 rfl (fun j u hj => hb138.cell (by simpa using hj))) ?_
      refine q1 rfl rfl rfl (o_build1 (E := (eSl eNode)) (e := 50) [u133] ((sideS lf (fs.getD j [])).getD (o).toNat []) Try.underlying28 sz50 zr50 ⟨_, rfl, hr134⟩ rfl (by decide) hX142.pins (fun u146 w147 ho148 hp149 hl150 hk151 => ?_))
      have hX152 := hX142.step hp149 hl150
      have ho153 := ho143.below hl150
      have hb154 := hb144.below hl150
      have hb155 := hb145.below hl150
      have hb156 := hb138.below hl150
      have ha157 : Apart u146.ownBlock lu.ownBlock := new_ne_own hk151 ho143.lt
      have ha158 : Apart u146.ownBlock (some b27) := new_ne_box hk151 hb144.lt
      have ha159 : Apart u146.ownBlock (some b45) := new_ne_box hk151 hb145.lt
      have ha160 : Apart u146.ownBlock (some b88) := new_ne_box hk151 hb138.lt
      have ho161 : Own (eSl eNode) 50 G124 w147 w.heap.size u146 ([(sideS lf (fs.getD j [])).getD (o).toNat []]) := ho148.weaken hX142.size
      refine q1 rfl rfl rfl (o_append (E := (eSl eNode)) (v := lu) (u := u146) 24 Try.underlying28 ap50 (by decide) rfl rfl hX152.pins ho153 ho161.src (by first | omega | (rw [List.nil_append]; omega) | (rw [List.length_nil]; omega) | (rw [List.length_append]; omega) | (simp; done) | (simp; omega)) (by first | omega | (rw [List.nil_append]; omega) | (rw [List.length_nil]; omega) | (rw [List.length_append]; omega) | (simp; done) | (simp; omega)) (hX152.size) (fun u162 w163 ho164 hp165 hg166 hw167 => ?_))
      have hX168 := hX152.write hp165 hg166 ((lo_own ho153))
      have ho169 := ho161.keptA hg166 ha157
      have hb170 := hb154.keptA hg166 ha72.symm
      have hb171 := hb155.keptA hg166 ha73.symm
      have hb172 := hb156.keptA hg166 ha98
      have ha173 : Apart u146.ownBlock u162.ownBlock := app_ne_own ha157 hw167 ho161.lt
      have ha174 : Apart (some b27) u162.ownBlock := app_ne_box ha72.symm hw167 hb154.lt
      have ha175 : Apart (some b45) u162.ownBlock := app_ne_box ha73.symm hw167 hb155.lt
      have ha176 : Apart (some b88) u162.ownBlock := app_ne_box ha98 hw167 hb156.lt
      have hm177 : (os ++ ([(sideS lf (fs.getD j [])).getD (o).toNat []])).length = os.length + 1 := by simp
      refine qd rfl rfl rfl (r_fldp (k := 0) rfl Try.underlying30 rfl nz28 rfl) ?_
      refine q0 rfl rfl rfl (o_stp (cs' := [u162, (.bool (!lf))]) (us := [u162]) (v := u162) sz28 rfl rfl (cells1 ho164.one) (ones1 ho164.one) hX168.pins hb171 (Nat.le_of_ble_eq_true rfl) rfl (fun w178 hb179 hp180 hg181 hz182 => ?_))
      have hX183 := hX168.write hp180 hg181 ((lo_box hlo56))
      have ho184 := ho164.keptA hg181 ha175.symm
      have hb185 := hb170.keptA hg181 ha55.symm
      have hb186 := hb172.keptA hg181 ha100
      refine qe ?_
      refine s_blkN ?_
      refine s_then ?_
      refine c_reg ?_
      refine qd rfl rfl rfl (r_move (v := (.int .i64 (j : Int))) rfl) ?_
      refine qd rfl rfl rfl (r_add rfl rfl (by omega)) ?_
      refine qd rfl rfl rfl (r_assign (v := (.int .i64 ((j : Int) + 1))) rfl) ?_
      refine qe ?_
      refine s_lopN ?_
      have hpa := play_yes (lf := lf) (fs := fs) (o := o) h111
      rw [← side_at (by omega)] at hpa
      refine ⟨_, ?_, _, rfl, _, j + 1, u162, os ++ ([(sideS lf (fs.getD j [])).getD (o).toNat []]), G124, (packS (x := 6) (packS (x := 5) (packS (x := 4) (packS (x := 3) (pack1 (x := 2) rfl) rfl) rfl) rfl) rfl), rfl, hX183, (Pin.le_trans (Pin.le_trans hlek65 hx83.le) hx127.le), (by omega), (by rw [← playF_next, hpa, hos]), (by simp; omega), ho184, hb185, hb179, ha174.symm, ha175.symm⟩
      omega
    · skip
      refine wp_skip ?_
      refine s_then ?_
      refine c_reg ?_
      refine qd rfl rfl rfl (r_fldp (k := 0) rfl Try.underlying30 rfl nz28 rfl) ?_
      refine qd rfl rfl rfl (r_ldp1 (u := lu) ag28 rfl (hb110.cell (o := 0) rfl)) ?_
      refine qd rfl rfl rfl (r_ldpA (cs := [u79]) ag50 sz50 rfl (fun j u hj => hb103.cell (by simpa using hj))) ?_
      refine q1 rfl rfl rfl (o_build1 (E := (eSl eNode)) (e := 50) [u79] (fs.getD j []) Try.underlying28 sz50 zr50 ⟨_, rfl, hr82⟩ rfl (by decide) hX107.pins (fun u187 w188 ho189 hp190 hl191 hk192 => ?_))
      have hX193 := hX107.step hp190 hl191
      have ho194 := ho108.below hl191
      have hb195 := hb109.below hl191
      have hb196 := hb110.below hl191
      have hb197 := hb103.below hl191
      have ha198 : Apart u187.ownBlock lu.ownBlock := new_ne_own hk192 ho108.lt
      have ha199 : Apart u187.ownBlock (some b27) := new_ne_box hk192 hb109.lt
      have ha200 : Apart u187.ownBlock (some b45) := new_ne_box hk192 hb110.lt
      have ha201 : Apart u187.ownBlock (some b88) := new_ne_box hk192 hb103.lt
      have ho202 : Own (eSl eNode) 50 G80 w188 w.heap.size u187 ([fs.getD j []]) := ho189.weaken hX107.size
      refine q1 rfl rfl rfl (o_append (E := (eSl eNode)) (v := lu) (u := u187) 24 Try.underlying28 ap50 (by decide) rfl rfl hX193.pins ho194 ho202.src (by first | omega | (rw [List.nil_append]; omega) | (rw [List.length_nil]; omega) | (rw [List.length_append]; omega) | (simp; done) | (simp; omega)) (by first | omega | (rw [List.nil_append]; omega) | (rw [List.length_nil]; omega) | (rw [List.length_append]; omega) | (simp; done) | (simp; omega)) (hX193.size) (fun u203 w204 ho205 hp206 hg207 hw208 => ?_))
      have hX209 := hX193.write hp206 hg207 ((lo_own ho194))
      have ho210 := ho202.keptA hg207 ha198
      have hb211 := hb195.keptA hg207 ha72.symm
      have hb212 := hb196.keptA hg207 ha73.symm
      have hb213 := hb197.keptA hg207 ha98
      have ha214 : Apart u187.ownBlock u203.ownBlock := app_ne_own ha198 hw208 ho202.lt
      have ha215 : Apart (some b27) u203.ownBlock := app_ne_box ha72.symm hw208 hb195.lt
      have ha216 : Apart (some b45) u203.ownBlock := app_ne_box ha73.symm hw208 hb196.lt
      have ha217 : Apart (some b88) u203.ownBlock := app_ne_box ha98 hw208 hb197.lt
      have hm218 : (os ++ ([fs.getD j []])).length = os.length + 1 := by simp
      refine qd rfl rfl rfl (r_fldp (k := 0) rfl Try.underlying30 rfl nz28 rfl) ?_
      refine q0 rfl rfl rfl (o_stp (cs' := [u203, (.bool (!lf))]) (us := [u203]) (v := u203) sz28 rfl rfl (cells1 ho205.one) (ones1 ho205.one) hX209.pins hb212 (Nat.le_of_ble_eq_true rfl) rfl (fun w219 hb220 hp221 hg222 hz223 => ?_))
      have hX224 := hX209.write hp221 hg222 ((lo_box hlo56))
      have ho225 := ho205.keptA hg222 ha216.symm
      have hb226 := hb211.keptA hg222 ha55.symm
      have hb227 := hb213.keptA hg222 ha100
      refine qe ?_
      refine s_blkN ?_
      refine s_then ?_
      refine c_reg ?_
      refine qd rfl rfl rfl (r_move (v := (.int .i64 (j : Int))) rfl) ?_
      refine qd rfl rfl rfl (r_add rfl rfl (by omega)) ?_
      refine qd rfl rfl rfl (r_assign (v := (.int .i64 ((j : Int) + 1))) rfl) ?_
      refine qe ?_
      refine s_lopN ?_
      have hpa := play_no (lf := lf) (fs := fs) (o := o) h111
      refine ⟨_, ?_, _, rfl, _, j + 1, u203, os ++ ([fs.getD j []]), G80, (packS (x := 6) (packS (x := 5) (packS (x := 4) (packS (x := 3) (pack1 (x := 2) rfl) rfl) rfl) rfl) rfl), rfl, hX224, (Pin.le_trans hlek65 hx83.le), (by omega), (by rw [← playF_next, hpa, hos]), (by simp; omega), ho225, hb226, hb220, ha215.symm, ha216.symm⟩
      omega
  · skip
    refine wp_exit ?_
    refine s_thenE ?_
    refine s_lopE ?_
    refine s_blkE ?_
    refine s_then ?_
    refine s_seq ?_
    refine c_reg ?_
    refine qd rfl rfl rfl (r_ldpA (cs := [lu, (.bool (!lf))]) ag30 sz30 rfl (fun j u hj => hw71.cell (by simpa using hj))) ?_
    refine q0 rfl rfl rfl (o_stp (cs' := [lu, (.bool (!lf))]) (us := [lu, (.bool (!lf))]) (v := (.agg [lu, (.bool (!lf))].toArray)) sz30 rfl rfl rfl (ones2 hw69.one (by rfl)) hX68.pins hw70 (Nat.le_of_ble_eq_true rfl) rfl (fun w228 hb229 hp230 hg231 hz232 => ?_))
    have hX233 := hX68.write hp230 hg231 ((lo_box hlo34))
    have ho234 := hw69.keptA hg231 ha72
    have hb235 := hw71.keptA hg231 ha55
    refine qe ?_
    refine s_then ?_
    refine wp_ret ?_
    refine s_ret ?_
    refine c_retc (cs := [lu, (.bool (!lf))]) rfl rfl rfl ag30 sz30 (fun j u hj => by rw [Nat.zero_add]; exact hb229.cell hj) ?_
    obtain ⟨G236, hle239, hX238, hr237, hf240⟩ := ho234.sealed hX233
    have hb241 := hb229.moreO hf240 ha72.symm
    have hb242 := hb235.moreO hf240 ha73.symm
    rw [show j = fs.length by omega] at hos
    exact ⟨_, _, rfl, (by rw [← hos]; exact hr237), hX238⟩

theorem sPlayMove_spec {w : World} {G : Pin} {v : Value} {lf : Bool} {fs : List (List Nd)} {p o : Int} (hP : Pins G w) (hv : RSl (eSl eNode) G v fs) :
    Calls Try.prog 6 [(.agg [v, (.bool lf)].toArray), (.agg [(.int .i64 p), (.int .i64 o)].toArray)].toArray w fun e w' => ∃ (u : Value) (G' : Pin), e = .returned (.tuple #[.agg [u, .bool (plB lf fs p o)].toArray, .bool (plOk lf fs p o)]) ∧ RSl (eSl eNode) G' u (plL lf fs p o) ∧ Ext noS G w G' w' := by
  refine s_enter (n := 40) Try.func6 Try.ntmps6 rfl rfl ?_
  have hX0 : Ext noS G w G w := Ext.refl hP
  have hsl := sideS_len lf (fs.getD (p).toNat [])
  have hvm := hv.max
  refine s_seq ?_
  refine c_reg ?_
  refine q1 rfl rfl rfl (o_box [v, (.bool lf)] (v := (.agg [v, (.bool lf)].toArray)) rfl rfl hX0.pins (fun b1 w2 hk3 hb4 hp5 hl6 => ?_))
  have hX7 := hX0.step hp5 hl6
  have hlo8 : w.heap.size ≤ b1 := by have := hX0.size; omega
  obtain ⟨G9, hle10, hX11, hbp12, hf13⟩ := hb4.shut hX7 hlo8
  refine q1 rfl rfl rfl (o_box [(.int .i64 p), (.int .i64 o)] (v := (.agg [(.int .i64 p), (.int .i64 o)].toArray)) rfl rfl hX11.pins (fun b14 w15 hk16 hb17 hp18 hl19 => ?_))
  have hX20 := hX11.step hp18 hl19
  have hlo21 : w.heap.size ≤ b14 := by have := hX11.size; omega
  obtain ⟨G22, hle23, hX24, hbp25, hf26⟩ := hb17.shut hX20 hlo21
  refine q1 rfl rfl rfl (o_alloc [(.slice none 0 0), (.bool false)] zr30 rfl hX24.pins (fun b27 w28 hk29 hb30 hp31 hl32 => ?_))
  have hX33 := hX24.step hp31 hl32
  have hlo34 : w.heap.size ≤ b27 := by have := hX24.size; omega
  refine qd rfl rfl rfl (r_assign (v := (.bool false)) rfl) ?_
  refine qe ?_
  refine s_then ?_
  refine s_seq ?_
  refine s_seq ?_
  refine c_draw (S := fun w => Pins G22 w) (last := 30) (by kernel_rfl) rfl ?_
  have hl35 : Below w28.heap.size w28 w28.drew := (Below.refl _ _).drew
  have hp36 := hX33.pins.below hl35
  have hX37 := hX33.step hp36 hl35
  have hb38 := hb30.below hl35
  refine dr_take (i := 0) rfl rfl rfl (want_none rfl _) (by kernel_rfl) (fun _ hS => r_ldpA (cs := [v, (.bool lf)]) ag30 sz30 rfl (fun j u hj => (Pins.of_le hS hle23) _ _ _ (hbp12 _ _ (by simpa using hj)))) hX37.pins ?_
  refine dr_one (i := 1) (by kernel_rfl) (drOp1 (i := 1) rfl rfl rfl (want_none rfl _) (o_call (vs := [(.agg [v, (.bool lf)].toArray)]) Try.func23 nm23 rfl rfl rfl ?_))
  refine Calls.mono (l14Good_spec hX37.pins (hv.mono (Pin.le_trans hle10 hle23))) ?_
  rintro _ w40 ⟨G39, rfl, hx41⟩
  refine ⟨_, rfl, ?_⟩
  have hX42 := hX37.tr hx41
  have hb43 := hb38.ext hx41
  refine ⟨fun _ => (Pins.of_le hX42.pins hx41.le), ?_⟩
  refine dr_take (i := 2) rfl rfl rfl (want_none rfl _) (by kernel_rfl) (fun _ _ => r_not rfl) (Pins.of_le hX42.pins hx41.le) ?_
  refine dr_take (i := 3) rfl rfl rfl (want_none rfl _) (by kernel_rfl) (fun _ _ => r_move (v := (.bool (!(goodT fs)))) rfl) (Pins.of_le hX42.pins hx41.le) ?_
  refine drbn (t := 9) rfl (fun h44 => ?_) (fun h44 => ?_)
  · skip
    refine dr_take (i := 4) rfl rfl rfl (want_yes rfl rfl rfl rfl) (by kernel_rfl) (fun _ _ => r_fldp (k := 0) rfl Try.underlying34 rfl nz3 rfl) (Pins.of_le hX42.pins hx41.le) ?_
    refine dr_take (i := 5) rfl rfl rfl (want_yes rfl rfl rfl rfl) (by kernel_rfl) (fun _ hS => r_ldp1 (u := (.int .i64 p)) ag3 rfl (hS _ _ _ (hbp25 0 _ rfl))) (Pins.of_le hX42.pins hx41.le) ?_
    refine dr_take (i := 6) rfl rfl rfl (want_yes rfl rfl rfl rfl) (by kernel_rfl) (fun _ _ => r_fldp (k := 0) rfl Try.underlying30 rfl nz28 rfl) (Pins.of_le hX42.pins hx41.le) ?_
    refine dr_take (i := 7) rfl rfl rfl (want_yes rfl rfl rfl rfl) (by kernel_rfl) (fun _ hS => r_ldp1 (u := v) ag28 rfl ((Pins.of_le hS hle23) _ _ _ (hbp12 0 _ rfl))) (Pins.of_le hX42.pins hx41.le) ?_
    refine dr_take (i := 8) rfl rfl rfl (want_yes rfl rfl rfl rfl) (by kernel_rfl) (fun _ _ => run_len Try.underlying28 (v := v) rfl hv) (Pins.of_le hX42.pins hx41.le) ?_
    refine dr_take (i := 9) rfl rfl rfl (want_yes rfl rfl rfl rfl) (by kernel_rfl) (fun _ _ => r_sub rfl rfl (by omega)) (Pins.of_le hX42.pins hx41.le) ?_
    refine dr_one (i := 10) (by kernel_rfl) (drOp1 (i := 10) rfl rfl rfl (want_yes rfl rfl rfl rfl) (o_call (vs := [(.int .i64 p), (.int .i64 0), (.int .i64 ((fs.length : Int) - 1))]) Try.func24 nm24 rfl rfl rfl ?_))
    refine Calls.mono (l1In_spec hX42.pins) ?_
    rintro _ _ ⟨rfl, rfl⟩
    refine ⟨_, rfl, ?_⟩
    refine ⟨fun _ => (Pins.of_le hX42.pins hx41.le), ?_⟩
    refine dr_take (i := 11) rfl rfl rfl (want_yes rfl rfl rfl rfl) (by kernel_rfl) (fun _ _ => r_not rfl) (Pins.of_le hX42.pins hx41.le) ?_
    refine dr_take (i := 12) rfl rfl rfl (want_none rfl _) (by kernel_rfl) (fun _ _ => r_pickF (v := (.bool (!(decide ((0 : Int) ≤ p ∧ (p : Int) ≤ ((fs.length : Int) - 1)))))) rfl rfl) (Pins.of_le hX42.pins hx41.le) ?_
    refine dr_take (i := 13) rfl rfl rfl (want_none rfl _) (by kernel_rfl) (fun _ _ => r_move (v := (.bool (!(decide ((0 : Int) ≤ p ∧ (p : Int) ≤ ((fs.length : Int) - 1)))))) rfl) (Pins.of_le hX42.pins hx41.le) ?_
    refine drbn (t := 19) rfl (fun h45 => ?_) (fun h45 => ?_)
    · skip
      replace h45 := of_decide_eq_true h45
      refine dr_take (i := 14) rfl rfl rfl (want_yes rfl rfl rfl rfl) (by kernel_rfl) (fun _ _ => r_fldp (k := 1) rfl Try.underlying34 rfl nz3 rfl) (Pins.of_le hX42.pins hx41.le) ?_
      refine dr_take (i := 15) rfl rfl rfl (want_yes rfl rfl rfl rfl) (by kernel_rfl) (fun _ hS => r_ldp1 (u := (.int .i64 o)) ag3 rfl (hS _ _ _ (hbp25 1 _ rfl))) (Pins.of_le hX42.pins hx41.le) ?_
      refine dr_take (i := 16) rfl rfl rfl (want_yes rfl rfl rfl rfl) (by kernel_rfl) (fun _ _ => r_fldp (k := 0) rfl Try.underlying30 rfl nz28 rfl) (Pins.of_le hX42.pins hx41.le) ?_
      refine dr_take (i := 17) rfl rfl rfl (want_yes rfl rfl rfl rfl) (by kernel_rfl) (fun _ hS => r_ldp1 (u := v) ag28 rfl ((Pins.of_le hS hle23) _ _ _ (hbp12 0 _ rfl))) (Pins.of_le hX42.pins hx41.le) ?_
      refine dr_take (i := 18) rfl rfl rfl (want_yes rfl rfl rfl rfl) (by kernel_rfl) (fun _ _ => r_fldp (k := 0) rfl Try.underlying34 rfl nz3 rfl) (Pins.of_le hX42.pins hx41.le) ?_
      refine dr_take (i := 19) rfl rfl rfl (want_yes rfl rfl rfl rfl) (by kernel_rfl) (fun _ hS => r_ldp1 (u := (.int .i64 p)) ag3 rfl (hS _ _ _ (hbp25 0 _ rfl))) (Pins.of_le hX42.pins hx41.le) ?_
      refine dr_take (i := 20) rfl rfl rfl (want_yes rfl rfl rfl rfl) (by kernel_rfl) (fun _ _ => run_idx Try.underlying28 sz50 (v := v) rfl rfl hv (by omega) (by omega)) (Pins.of_le hX42.pins hx41.le) ?_
      obtain ⟨u46, hr47, hl48⟩ := nm_form (hv.at (z := p) (by omega) (by omega)) (j := (p).toNat) rfl
      have hm49 := hr47.max
      refine dr_take (i := 21) rfl rfl rfl (want_yes rfl rfl rfl rfl) (by kernel_rfl) (fun _ hS => hl48 ag50 sz50 rfl (Pins.of_le hS (Pin.le_trans hle10 hle23))) (Pins.of_le hX42.pins hx41.le) ?_
      refine dr_take (i := 22) rfl rfl rfl (want_yes rfl rfl rfl rfl) (by kernel_rfl) (fun _ _ => r_fldp (k := 1) rfl Try.underlying30 rfl nz4 rfl) (Pins.of_le hX42.pins hx41.le) ?_
      refine dr_take (i := 23) rfl rfl rfl (want_yes rfl rfl rfl rfl) (by kernel_rfl) (fun _ hS => r_ldp1 (u := (.bool lf)) ag4 rfl ((Pins.of_le hS hle23) _ _ _ (hbp12 1 _ rfl))) (Pins.of_le hX42.pins hx41.le) ?_
      refine dr_one (i := 24) (by kernel_rfl) (drOp1 (i := 24) rfl rfl rfl (want_yes rfl rfl rfl rfl) (o_call (vs := [(.agg [u46].toArray), (.bool lf)]) Try.func25 nm25 rfl rfl rfl ?_))
      refine Calls.mono (l14Side_spec hX42.pins (hr47.mono (Pin.le_trans (Pin.le_trans hle10 hle23) hx41.le)) (goodT_lo (by simpa using h44) (by omega))) ?_
      rintro _ w52 ⟨u50, G51, rfl, hr53, hx54⟩
      refine ⟨_, rfl, ?_⟩
      have hX55 := hX42.tr hx54
      have hb56 := hb43.ext hx54
      refine ⟨fun _ => (Pins.of_le hX55.pins (Pin.le_trans hx41.le hx54.le)), ?_⟩
      have hm57 := hr53.max
      refine dr_take (i := 25) rfl rfl rfl (want_yes rfl rfl rfl rfl) (by kernel_rfl) (fun _ _ => run_len Try.underlying28 (v := u50) rfl hr53) (Pins.of_le hX55.pins (Pin.le_trans hx41.le hx54.le)) ?_
      refine dr_take (i := 26) rfl rfl rfl (want_yes rfl rfl rfl rfl) (by kernel_rfl) (fun _ _ => r_sub rfl rfl (by omega)) (Pins.of_le hX55.pins (Pin.le_trans hx41.le hx54.le)) ?_
      refine dr_one (i := 27) (by kernel_rfl) (drOp1 (i := 27) rfl rfl rfl (want_yes rfl rfl rfl rfl) (o_call (vs := [(.int .i64 o), (.int .i64 0), (.int .i64 (((sideS lf (fs.getD (p).toNat [])).length : Int) - 1))]) Try.func24 nm24 rfl rfl rfl ?_))
      refine Calls.mono (l1In_spec hX55.pins) ?_
      rintro _ _ ⟨rfl, rfl⟩
      refine ⟨_, rfl, ?_⟩
      refine ⟨fun _ => (Pins.of_le hX55.pins (Pin.le_trans hx41.le hx54.le)), ?_⟩
      refine dr_take (i := 28) rfl rfl rfl (want_yes rfl rfl rfl rfl) (by kernel_rfl) (fun _ _ => r_not rfl) (Pins.of_le hX55.pins (Pin.le_trans hx41.le hx54.le)) ?_
      refine dr_take (i := 29) rfl rfl rfl (want_none rfl _) (by kernel_rfl) (fun _ _ => r_pickF (v := (.bool (!(decide ((0 : Int) ≤ o ∧ (o : Int) ≤ (((sideS lf (fs.getD (p).toNat [])).length : Int) - 1)))))) rfl rfl) (Pins.of_le hX55.pins (Pin.le_trans hx41.le hx54.le)) ?_
      refine dr_end (by kernel_rfl) ?_
      refine s_then ?_
      refine c_ifn rfl rfl (fun h58 => ?_) (fun h58 => ?_)
      · skip
        replace h58 := of_decide_eq_true h58
        refine wp_skip ?_
        refine s_then ?_
        refine s_seq ?_
        refine c_reg ?_
        have hpp : PlayP lf fs p o := playP_of (by simpa using h44) (by omega) (by omega)
        refine qd rfl rfl rfl (r_ldpA (cs := [v, (.bool lf)]) ag30 sz30 rfl (fun j u hj => (Pins.of_le hX55.pins (Pin.le_trans (Pin.le_trans hle23 hx41.le) hx54.le)) _ _ _ (hbp12 _ _ (by simpa using hj)))) ?_
        refine qd rfl rfl rfl (r_ldpA (cs := [(.int .i64 p), (.int .i64 o)]) ag34 sz34 rfl (fun j u hj => (Pins.of_le hX55.pins (Pin.le_trans hx41.le hx54.le)) _ _ _ (hbp25 _ _ (by simpa using hj)))) ?_
        refine q1 rfl rfl rfl (o_call (vs := [(.agg [v, (.bool lf)].toArray), (.agg [(.int .i64 p), (.int .i64 o)].toArray)]) Try.func26 nm26 rfl rfl rfl ?_)
        refine Calls.mono (l14Play_spec hX55.pins (hv.mono (Pin.le_trans (Pin.le_trans (Pin.le_trans hle10 hle23) hx41.le) hx54.le)) hpp) ?_
        rintro _ w61 ⟨u59, G60, rfl, hr62, hx63⟩
        refine ⟨_, rfl, ?_⟩
        have hX64 := hX55.tr hx63
        have hb65 := hb56.ext hx63
        refine q0 rfl rfl rfl (o_stp (cs' := [u59, (.bool (!lf))]) (us := [u59, (.bool (!lf))]) (v := (.agg [u59, (.bool (!lf))].toArray)) sz30 rfl rfl rfl (ones2 hr62.one (by rfl)) hX64.pins hb65 (Nat.le_of_ble_eq_true rfl) rfl (fun w66 hb67 hp68 hg69 hz70 => ?_))
        have hX71 := hX64.write hp68 hg69 ((lo_box hlo34))
        refine qd rfl rfl rfl (r_assign (v := (.bool true)) rfl) ?_
        refine qe ?_
        refine s_then ?_
        refine wp_ret ?_
        refine s_ret ?_
        refine c_retct (cs := [u59, (.bool (!lf))]) (v := (.bool true)) rfl rfl rfl rfl rfl ag30 sz30 (fun j u hj => by rw [Nat.zero_add]; exact hb67.cell hj) ?_
        obtain ⟨e1, e2, e3⟩ := pl_yes hpp
        rw [e1, e2, e3]
        exact ⟨_, _, rfl, hr62, hX71⟩
      · skip
        replace h58 := of_decide_eq_false h58
        refine s_seq ?_
        refine c_reg ?_
        refine qd rfl rfl rfl (r_build [(.slice none 0 0), (.bool false)] [(.slice none 0 0), (.bool false)] [] Try.underlying30 zr30 rfl pl30 rfl (fun _ h => by cases h) rfl) ?_
        refine q0 rfl rfl rfl (o_stp (cs' := [(.slice none 0 0), (.bool false)]) (us := [(.slice none 0 0), (.bool false)]) (v := (.agg [(.slice none 0 0), (.bool false)].toArray)) sz30 rfl rfl rfl (ones2 (by rfl) (by rfl)) hX55.pins hb56 (Nat.le_of_ble_eq_true rfl) rfl (fun w72 hb73 hp74 hg75 hz76 => ?_))
        have hX77 := hX55.write hp74 hg75 ((lo_box hlo34))
        refine qd rfl rfl rfl (r_assign (v := (.bool false)) rfl) ?_
        refine qe ?_
        refine s_then ?_
        refine wp_ret ?_
        refine s_ret ?_
        refine c_retct (cs := [(.slice none 0 0), (.bool false)]) (v := (.bool false)) rfl rfl rfl rfl rfl ag30 sz30 (fun j u hj => by rw [Nat.zero_add]; exact hb73.cell hj) ?_
        obtain ⟨e1, e2, e3⟩ := pl_no (lf := lf) (fs := fs) (p := p) (o := o) (fun g => by have h2 := g.part; have h3 := g.opt; omega)
        rw [e1, e2, e3]
        exact ⟨_, _, rfl, nil_reads _ _, hX77⟩
    · skip
      replace h45 := of_decide_eq_false h45
      refine dr_skip (i := 14) rfl rfl (want_no rfl rfl rfl rfl rfl) (by kernel_rfl) (Pins.of_le hX42.pins hx41.le) ?_
      refine dr_skip (i := 15) rfl rfl (want_no rfl rfl rfl rfl rfl) (by kernel_rfl) (Pins.of_le hX42.pins hx41.le) ?_
      refine dr_skip (i := 16) rfl rfl (want_no rfl rfl rfl rfl rfl) (by kernel_rfl) (Pins.of_le hX42.pins hx41.le) ?_
      refine dr_skip (i := 17) rfl rfl (want_no rfl rfl rfl rfl rfl) (by kernel_rfl) (Pins.of_le hX42.pins hx41.le) ?_
      refine dr_skip (i := 18) rfl rfl (want_no rfl rfl rfl rfl rfl) (by kernel_rfl) (Pins.of_le hX42.pins hx41.le) ?_
      refine dr_skip (i := 19) rfl rfl (want_no rfl rfl rfl rfl rfl) (by kernel_rfl) (Pins.of_le hX42.pins hx41.le) ?_
      refine dr_skip (i := 20) rfl rfl (want_no rfl rfl rfl rfl rfl) (by kernel_rfl) (Pins.of_le hX42.pins hx41.le) ?_
      refine dr_skip (i := 21) rfl rfl (want_no rfl rfl rfl rfl rfl) (by kernel_rfl) (Pins.of_le hX42.pins hx41.le) ?_
      refine dr_skip (i := 22) rfl rfl (want_no rfl rfl rfl rfl rfl) (by kernel_rfl) (Pins.of_le hX42.pins hx41.le) ?_
      refine dr_skip (i := 23) rfl rfl (want_no rfl rfl rfl rfl rfl) (by kernel_rfl) (Pins.of_le hX42.pins hx41.le) ?_
      refine dr_skip (i := 24) rfl rfl (want_no rfl rfl rfl rfl rfl) (by kernel_rfl) (Pins.of_le hX42.pins hx41.le) ?_
      refine dr_skip (i := 25) rfl rfl (want_no rfl rfl rfl rfl rfl) (by kernel_rfl) (Pins.of_le hX42.pins hx41.le) ?_
      refine dr_skip (i := 26) rfl rfl (want_no rfl rfl rfl rfl rfl) (by kernel_rfl) (Pins.of_le hX42.pins hx41.le) ?_
      refine dr_skip (i := 27) rfl rfl (want_no rfl rfl rfl rfl rfl) (by kernel_rfl) (Pins.of_le hX42.pins hx41.le) ?_
      refine dr_skip (i := 28) rfl rfl (want_no rfl rfl rfl rfl rfl) (by kernel_rfl) (Pins.of_le hX42.pins hx41.le) ?_
      refine dr_take (i := 29) rfl rfl rfl (want_none rfl _) (by kernel_rfl) (fun _ _ => r_pickT (v := (.bool true)) rfl rfl) (Pins.of_le hX42.pins hx41.le) ?_
      refine dr_end (by kernel_rfl) ?_
      refine s_then ?_
      refine c_ifT rfl rfl ?_
      refine s_seq ?_
      refine c_reg ?_
      refine qd rfl rfl rfl (r_build [(.slice none 0 0), (.bool false)] [(.slice none 0 0), (.bool false)] [] Try.underlying30 zr30 rfl pl30 rfl (fun _ h => by cases h) rfl) ?_
      refine q0 rfl rfl rfl (o_stp (cs' := [(.slice none 0 0), (.bool false)]) (us := [(.slice none 0 0), (.bool false)]) (v := (.agg [(.slice none 0 0), (.bool false)].toArray)) sz30 rfl rfl rfl (ones2 (by rfl) (by rfl)) hX42.pins hb43 (Nat.le_of_ble_eq_true rfl) rfl (fun w78 hb79 hp80 hg81 hz82 => ?_))
      have hX83 := hX42.write hp80 hg81 ((lo_box hlo34))
      refine qd rfl rfl rfl (r_assign (v := (.bool false)) rfl) ?_
      refine qe ?_
      refine s_then ?_
      refine wp_ret ?_
      refine s_ret ?_
      refine c_retct (cs := [(.slice none 0 0), (.bool false)]) (v := (.bool false)) rfl rfl rfl rfl rfl ag30 sz30 (fun j u hj => by rw [Nat.zero_add]; exact hb79.cell hj) ?_
      obtain ⟨e1, e2, e3⟩ := pl_no (lf := lf) (fs := fs) (p := p) (o := o) (fun g => by have h2 := g.part; have h3 := g.opt; omega)
      rw [e1, e2, e3]
      exact ⟨_, _, rfl, nil_reads _ _, hX83⟩
  · skip
    refine dr_skip (i := 4) rfl rfl (want_no rfl rfl rfl rfl rfl) (by kernel_rfl) (Pins.of_le hX42.pins hx41.le) ?_
    refine dr_skip (i := 5) rfl rfl (want_no rfl rfl rfl rfl rfl) (by kernel_rfl) (Pins.of_le hX42.pins hx41.le) ?_
    refine dr_skip (i := 6) rfl rfl (want_no rfl rfl rfl rfl rfl) (by kernel_rfl) (Pins.of_le hX42.pins hx41.le) ?_
    refine dr_skip (i := 7) rfl rfl (want_no rfl rfl rfl rfl rfl) (by kernel_rfl) (Pins.of_le hX42.pins hx41.le) ?_
    refine dr_skip (i := 8) rfl rfl (want_no rfl rfl rfl rfl rfl) (by kernel_rfl) (Pins.of_le hX42.pins hx41.le) ?_
    refine dr_skip (i := 9) rfl rfl (want_no rfl rfl rfl rfl rfl) (by kernel_rfl) (Pins.of_le hX42.pins hx41.le) ?_
    refine dr_skip (i := 10) rfl rfl (want_no rfl rfl rfl rfl rfl) (by kernel_rfl) (Pins.of_le hX42.pins hx41.le) ?_
    refine dr_skip (i := 11) rfl rfl (want_no rfl rfl rfl rfl rfl) (by kernel_rfl) (Pins.of_le hX42.pins hx41.le) ?_
    refine dr_take (i := 12) rfl rfl rfl (want_none rfl _) (by kernel_rfl) (fun _ _ => r_pickT (v := (.bool true)) rfl rfl) (Pins.of_le hX42.pins hx41.le) ?_
    refine dr_take (i := 13) rfl rfl rfl (want_none rfl _) (by kernel_rfl) (fun _ _ => r_move (v := (.bool true)) rfl) (Pins.of_le hX42.pins hx41.le) ?_
    refine dr_skip (i := 14) rfl rfl (want_no rfl rfl rfl rfl rfl) (by kernel_rfl) (Pins.of_le hX42.pins hx41.le) ?_
    refine dr_skip (i := 15) rfl rfl (want_no rfl rfl rfl rfl rfl) (by kernel_rfl) (Pins.of_le hX42.pins hx41.le) ?_
    refine dr_skip (i := 16) rfl rfl (want_no rfl rfl rfl rfl rfl) (by kernel_rfl) (Pins.of_le hX42.pins hx41.le) ?_
    refine dr_skip (i := 17) rfl rfl (want_no rfl rfl rfl rfl rfl) (by kernel_rfl) (Pins.of_le hX42.pins hx41.le) ?_
    refine dr_skip (i := 18) rfl rfl (want_no rfl rfl rfl rfl rfl) (by kernel_rfl) (Pins.of_le hX42.pins hx41.le) ?_
    refine dr_skip (i := 19) rfl rfl (want_no rfl rfl rfl rfl rfl) (by kernel_rfl) (Pins.of_le hX42.pins hx41.le) ?_
    refine dr_skip (i := 20) rfl rfl (want_no rfl rfl rfl rfl rfl) (by kernel_rfl) (Pins.of_le hX42.pins hx41.le) ?_
    refine dr_skip (i := 21) rfl rfl (want_no rfl rfl rfl rfl rfl) (by kernel_rfl) (Pins.of_le hX42.pins hx41.le) ?_
    refine dr_skip (i := 22) rfl rfl (want_no rfl rfl rfl rfl rfl) (by kernel_rfl) (Pins.of_le hX42.pins hx41.le) ?_
    refine dr_skip (i := 23) rfl rfl (want_no rfl rfl rfl rfl rfl) (by kernel_rfl) (Pins.of_le hX42.pins hx41.le) ?_
    refine dr_skip (i := 24) rfl rfl (want_no rfl rfl rfl rfl rfl) (by kernel_rfl) (Pins.of_le hX42.pins hx41.le) ?_
    refine dr_skip (i := 25) rfl rfl (want_no rfl rfl rfl rfl rfl) (by kernel_rfl) (Pins.of_le hX42.pins hx41.le) ?_
    refine dr_skip (i := 26) rfl rfl (want_no rfl rfl rfl rfl rfl) (by kernel_rfl) (Pins.of_le hX42.pins hx41.le) ?_
    refine dr_skip (i := 27) rfl rfl (want_no rfl rfl rfl rfl rfl) (by kernel_rfl) (Pins.of_le hX42.pins hx41.le) ?_
    refine dr_skip (i := 28) rfl rfl (want_no rfl rfl rfl rfl rfl) (by kernel_rfl) (Pins.of_le hX42.pins hx41.le) ?_
    refine dr_take (i := 29) rfl rfl rfl (want_none rfl _) (by kernel_rfl) (fun _ _ => r_pickT (v := (.bool true)) rfl rfl) (Pins.of_le hX42.pins hx41.le) ?_
    refine dr_end (by kernel_rfl) ?_
    refine s_then ?_
    refine c_ifT rfl rfl ?_
    refine s_seq ?_
    refine c_reg ?_
    refine qd rfl rfl rfl (r_build [(.slice none 0 0), (.bool false)] [(.slice none 0 0), (.bool false)] [] Try.underlying30 zr30 rfl pl30 rfl (fun _ h => by cases h) rfl) ?_
    refine q0 rfl rfl rfl (o_stp (cs' := [(.slice none 0 0), (.bool false)]) (us := [(.slice none 0 0), (.bool false)]) (v := (.agg [(.slice none 0 0), (.bool false)].toArray)) sz30 rfl rfl rfl (ones2 (by rfl) (by rfl)) hX42.pins hb43 (Nat.le_of_ble_eq_true rfl) rfl (fun w84 hb85 hp86 hg87 hz88 => ?_))
    have hX89 := hX42.write hp86 hg87 ((lo_box hlo34))
    refine qd rfl rfl rfl (r_assign (v := (.bool false)) rfl) ?_
    refine qe ?_
    refine s_then ?_
    refine wp_ret ?_
    refine s_ret ?_
    refine c_retct (cs := [(.slice none 0 0), (.bool false)]) (v := (.bool false)) rfl rfl rfl rfl rfl ag30 sz30 (fun j u hj => by rw [Nat.zero_add]; exact hb85.cell hj) ?_
    obtain ⟨e1, e2, e3⟩ := pl_no (lf := lf) (fs := fs) (p := p) (o := o) (fun g => by rw [g.hgt] at h44; cases h44)
    rw [e1, e2, e3]
    exact ⟨_, _, rfl, nil_reads _ _, hX89⟩

end W1
end Go.Proofs.Ytphmcmkpcjlkfaa
