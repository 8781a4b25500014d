/- Walks, printed by a program (walkgen.py) from the spec specs_g. -/
import Derived.Test.YtndhhpaldhlghaaDoorChecked
import Derived.Test.YtndhhpaldhlghaaDoorRow
import Derived.Test.YtndhhpaldhlghaaDoorDeep
import Derived.Test.YtndhhpaldhlghaaDoorB1
import Derived.Test.YtndhhpaldhlghaaDoorC1
import Derived.Test.YtndhhpaldhlghaaDoorE1
import Derived.Test.YtndhhpaldhlghaaDoorL1
set_option maxRecDepth 20000
set_option maxHeartbeats 2000000
namespace Go.Proofs.YtndhhpaldhlghaaDoor
namespace G1
open Go.RowKit Go.GL Go.Proofs
open Go.Proofs.YtndhhpaldhlghaaDoor.B1
open Go.Proofs.YtndhhpaldhlghaaDoor.C1
open Go.Proofs.YtndhhpaldhlghaaDoor.E1
open Go.Proofs.YtndhhpaldhlghaaDoor.L1
theorem ag22 : (Tryd.prog.underlying 22).map aggD = some false := by kernel_rfl
theorem ag28 : (Tryd.prog.underlying 28).map aggD = some false := by kernel_rfl
theorem ag3 : (Tryd.prog.underlying 3).map aggD = some false := by kernel_rfl
theorem ag30 : (Tryd.prog.underlying 30).map aggD = some true := by kernel_rfl
theorem ag38 : (Tryd.prog.underlying 38).map aggD = some false := by kernel_rfl
theorem ag69 : (Tryd.prog.underlying 69).map aggD = some true := by kernel_rfl
theorem ag81 : (Tryd.prog.underlying 81).map aggD = some true := by kernel_rfl
theorem ap3 : (Tryd.prog.info? 3).map (fun i => (i.size, i.bytes, (i.zero.map (·.cells.size)))) = some (1, 8, some 1) := by kernel_rfl
theorem mk69 : (Tryd.prog.info? 69).map (fun i => (i.size, i.bytes, i.zero)) = some (2, 48, some (.agg #[(.slice none 0 0), (.slice none 0 0)])) := by kernel_rfl
theorem nm25 : (Tryd.f25.name == "runtime.NumGoroutine") = false := by kernel_rfl
theorem nm35 : (Tryd.f35.name == "runtime.NumGoroutine") = false := by kernel_rfl
theorem nm46 : (Tryd.f46.name == "runtime.NumGoroutine") = false := by kernel_rfl
theorem nm61 : (Tryd.f61.name == "runtime.NumGoroutine") = false := by kernel_rfl
theorem nm85 : (Tryd.f85.name == "runtime.NumGoroutine") = false := by kernel_rfl
theorem nz22 : (Tryd.prog.info? 22).map (·.size == 0) = some false := by kernel_rfl
theorem nz28 : (Tryd.prog.info? 28).map (·.size == 0) = some false := by kernel_rfl
theorem nz38 : (Tryd.prog.info? 38).map (·.size == 0) = some false := by kernel_rfl
theorem sz28 : (Tryd.prog.info? 28).map (·.size) = some 1 := by kernel_rfl
theorem sz3 : (Tryd.prog.info? 3).map (·.size) = some 1 := by kernel_rfl
theorem sz30 : (Tryd.prog.info? 30).map (·.size) = some 1 := by kernel_rfl
theorem sz38 : (Tryd.prog.info? 38).map (·.size) = some 1 := by kernel_rfl
theorem sz69 : (Tryd.prog.info? 69).map (·.size) = some 2 := by kernel_rfl
theorem sz81 : (Tryd.prog.info? 81).map (·.size) = some 2 := by kernel_rfl
theorem zr30 : (Tryd.prog.info? 30).bind (·.zero) = some (.agg #[(.slice none 0 0)]) := by kernel_rfl
theorem zr69 : (Tryd.prog.info? 69).bind (·.zero) = some (.agg #[(.slice none 0 0), (.slice none 0 0)]) := by kernel_rfl

theorem toNode_dspec {w : World} {G : Pin} {u v : Value} {n : Nd} (hP : Pins G w) (hu : RSl eInt G u n.l) (hv : RSl eInt G v n.r) (hs : n.l.length ≤ 1048576 ∧ n.r.length ≤ 1048576) :
    Calls Tryd.prog 61 [(.agg [u, v].toArray)].toArray w fun e w' => ∃ (u v : Value) (G' : Pin), e = .returned (.agg [u, v].toArray) ∧ Own eInt 3 G' w' w.heap.size u n.l ∧ Own eInt 3 G' w' w.heap.size v n.r ∧ Apart u.ownBlock v.ownBlock ∧ Ext noS G w G' w' := by
  refine s_enter (n := 13) Tryd.func61 Tryd.ntmps61 rfl rfl ?_
  have hX0 : Ext noS G w G w := Ext.refl hP
  refine s_seq ?_
  refine c_reg ?_
  refine q1 rfl rfl rfl (o_box [u, v] (v := (.agg [u, v].toArray)) rfl rfl hX0.pins (fun b1 w2 hk3 hb4 hp5 hl6 => ?_))
  have hX7 := hX0.step hp5 hl6
  have hlo8 : w.heap.size ≤ b1 := by have := hX0.size; omega
  obtain ⟨G9, hle10, hX11, hbp12, hf13⟩ := hb4.shut hX7 hlo8
  refine q1 rfl rfl rfl (o_alloc [(.slice none 0 0), (.slice none 0 0)] zr69 rfl hX11.pins (fun b14 w15 hk16 hb17 hp18 hl19 => ?_))
  have hX20 := hX11.step hp18 hl19
  have hlo21 : w.heap.size ≤ b14 := by have := hX11.size; omega
  refine qe ?_
  refine s_then ?_
  refine s_seq ?_
  refine c_reg ?_
  refine q1 rfl rfl rfl (o_alloc [(.slice none 0 0), (.slice none 0 0)] zr69 rfl hX20.pins (fun b22 w23 hk24 hb25 hp26 hl27 => ?_))
  have hX28 := hX20.step hp26 hl27
  have hb29 := hb17.below hl27
  have ha30 : Apart (some b22) (some b14) := new_ne_box (congrArg some hk24) hb17.lt
  have hlo31 : w.heap.size ≤ b22 := by have := hX20.size; omega
  refine qe ?_
  refine s_then ?_
  refine s_seq ?_
  refine c_reg ?_
  refine qd rfl rfl rfl (r_fldp (k := 0) rfl Tryd.underlying81 rfl nz38 rfl) ?_
  refine qd rfl rfl rfl (r_ldp1 (u := u) ag38 rfl (hX28.pins _ _ _ (hbp12 0 _ rfl))) ?_
  refine q1 rfl rfl rfl (o_call (vs := [u]) Tryd.func85 nm85 rfl rfl rfl ?_)
  refine Calls.mono (toIntS_spec hX28.pins (hu.mono hle10) (by omega)) ?_
  rintro _ w34 ⟨u32, G33, rfl, ho35, hx36⟩
  refine ⟨_, rfl, ?_⟩
  have hX37 := hX28.tr hx36
  have hb38 := hb29.ext hx36
  have hb39 := hb25.ext hx36
  have ha40 : Apart u32.ownBlock (some b14) := made_ne_box ho35.lt hb29.lt
  have ha41 : Apart u32.ownBlock (some b22) := made_ne_box ho35.lt hb25.lt
  have ho42 : Own eInt 3 G33 w34 w.heap.size u32 n.l := ho35.weaken hX28.size
  refine qd rfl rfl rfl (r_fldp (k := 0) rfl Tryd.underlying69 rfl nz38 rfl) ?_
  refine q0 rfl rfl rfl (o_stp (cs' := [u32, (.slice none 0 0)]) (us := [u32]) (v := u32) sz38 rfl rfl (cells1 ho42.one) (ones1 ho42.one) hX37.pins hb39 (Nat.le_of_ble_eq_true rfl) rfl (fun w43 hb44 hp45 hg46 hz47 => ?_))
  have hX48 := hX37.write hp45 hg46 ((lo_box hlo31))
  have ho49 := ho42.keptA hg46 ha41
  have hb50 := hb38.keptA hg46 ha30.symm
  refine qe ?_
  refine s_then ?_
  refine s_seq ?_
  refine c_reg ?_
  refine qd rfl rfl rfl (r_fldp (k := 1) rfl Tryd.underlying81 rfl nz38 rfl) ?_
  refine qd rfl rfl rfl (r_ldp1 (u := v) ag38 rfl ((Pins.of_le hX48.pins hx36.le) _ _ _ (hbp12 1 _ rfl))) ?_
  refine q1 rfl rfl rfl (o_call (vs := [v]) Tryd.func85 nm85 rfl rfl rfl ?_)
  refine Calls.mono (toIntS_spec hX48.pins (hv.mono (Pin.le_trans hle10 hx36.le)) (by omega)) ?_
  rintro _ w53 ⟨u51, G52, rfl, ho54, hx55⟩
  refine ⟨_, rfl, ?_⟩
  have hX56 := hX48.tr hx55
  have ho57 := ho49.ext hx55
  have hb58 := hb50.ext hx55
  have hb59 := hb44.ext hx55
  have ha60 : Apart u51.ownBlock u32.ownBlock := made_ne_own ho54.lt ho49.lt
  have ha61 : Apart u51.ownBlock (some b14) := made_ne_box ho54.lt hb50.lt
  have ha62 : Apart u51.ownBlock (some b22) := made_ne_box ho54.lt hb44.lt
  have ho63 : Own eInt 3 G52 w53 w.heap.size u51 n.r := ho54.weaken hX48.size
  refine qd rfl rfl rfl (r_fldp (k := 1) rfl Tryd.underlying69 rfl nz38 rfl) ?_
  refine q0 rfl rfl rfl (o_stp (cs' := [u32, u51]) (us := [u51]) (v := u51) sz38 rfl rfl (cells1 ho63.one) (ones1 ho63.one) hX56.pins hb59 (Nat.le_of_ble_eq_true rfl) rfl (fun w64 hb65 hp66 hg67 hz68 => ?_))
  have hX69 := hX56.write hp66 hg67 ((lo_box hlo31))
  have ho70 := ho57.keptA hg67 ha41
  have ho71 := ho63.keptA hg67 ha62
  have hb72 := hb58.keptA hg67 ha30.symm
  refine qe ?_
  refine s_then ?_
  refine s_seq ?_
  refine c_reg ?_
  refine qd rfl rfl rfl (r_ldpA (cs := [u32, u51]) ag69 sz69 rfl (fun j u hj => hb65.cell (by simpa using hj))) ?_
  refine q0 rfl rfl rfl (o_stp (cs' := [u32, u51]) (us := [u32, u51]) (v := (.agg [u32, u51].toArray)) sz69 rfl rfl rfl (ones2 ho70.one ho71.one) hX69.pins hb72 (Nat.le_of_ble_eq_true rfl) rfl (fun w73 hb74 hp75 hg76 hz77 => ?_))
  have hX78 := hX69.write hp75 hg76 ((lo_box hlo21))
  have ho79 := ho70.keptA hg76 ha40
  have ho80 := ho71.keptA hg76 ha61
  refine qe ?_
  refine s_then ?_
  refine wp_ret ?_
  refine s_ret ?_
  refine c_retc (cs := [u32, u51]) rfl rfl rfl ag69 sz69 (fun j u hj => by rw [Nat.zero_add]; exact hb74.cell hj) ?_
  exact ⟨_, _, _, rfl, ho79, ho80, ha60.symm, hX78⟩

theorem toNodeS_dspec {w : World} {G : Pin} {v : Value} {ns : List Nd} (hP : Pins G w) (hv : RSl eNode G v ns) (hsm : Small ns) :
    Calls Tryd.prog 35 [v].toArray w fun e w' => ∃ (u : Value) (G' : Pin), e = .returned u ∧ DForm 69 3 G' w' w.heap.size w'.heap.size u ns ∧ Ext noS G w G' w' := by
  refine s_enter (n := 23) Tryd.func35 Tryd.ntmps35 rfl rfl ?_
  have hX0 : Ext noS G w G w := Ext.refl hP
  have hlv0 : Lvs 3 G w w.heap.size w.heap.size [] := Lvs.nil
  have hln := hsm.len
  refine s_seq ?_
  refine c_reg ?_
  refine qd rfl rfl rfl (r_assign (v := (.slice none 0 0)) rfl) ?_
  refine qe ?_
  refine s_then ?_
  refine s_seq ?_
  refine c_reg ?_
  refine qd rfl rfl rfl (r_move (v := v) rfl) ?_
  refine qd rfl rfl rfl (run_len Tryd.underlying22 (v := v) rfl hv) ?_
  refine q1 rfl rfl rfl (o_make (E := eVal2) ((.slice none 0 0, .slice none 0 0) : Value × Value) 48 (.agg #[(.slice none 0 0), (.slice none 0 0)]) Tryd.underlying28 mk69 (fun _ => ⟨rfl, rfl, rfl⟩) rfl rfl hX0.pins (by omega) (by omega) (by omega) (fun u1 w2 ho3 hp4 hl5 hk6 => ?_))
  have hX7 := hX0.step hp4 hl5
  have hlv8 := (hlv0.below hl5).top
  have ha9 : ApL [] u1.ownBlock := ApL.fresh hlv0 (fun k hk => by rw [hk6] at hk; cases hk; exact Nat.le_refl _)
  have ho10 : Own eVal2 69 G w2 w.heap.size u1 (List.replicate ns.length ((.slice none 0 0, .slice none 0 0) : Value × Value)) := ho3.weaken hX0.size
  have hm11 : (List.replicate ns.length ((.slice none 0 0, .slice none 0 0) : Value × Value)).length = ns.length := List.length_replicate ..
  refine qd rfl rfl rfl (r_assign (v := u1) rfl) ?_
  refine qe ?_
  refine s_then ?_
  refine s_seq ?_
  refine s_seq ?_
  refine c_reg ?_
  refine qd rfl rfl rfl (r_assign (v := (.int .i64 0)) rfl) ?_
  refine qe ?_
  refine s_then ?_
  refine s_blk ?_
  refine s_loop (fun (k : Nat) (en : Nat → Value) (W : World) => ∃ (env1 : Nat → Value) (j : Nat) (os : List (Value × Value)) (LV : List Leaf) (GL1 : Pin), en = (upd (upd (upd (upd env1 0 v) 2 (.slice none 0 0)) 3 u1) 4 (.int .i64 (j : Int))) ∧ k = ns.length - j ∧ Ext noS G w GL1 W ∧ Pin.le G GL1 ∧ (j ≤ ns.length) ∧ (LV = lvN (os.take j) (ns.take j)) ∧ (os.length = ns.length) ∧ (Own eVal2 69 GL1 W w.heap.size u1 (os)) ∧ (Lvs 3 GL1 W w.heap.size W.heap.size LV) ∧ (ApL LV u1.ownBlock)) _ ⟨_, 0, List.replicate ns.length ((.slice none 0 0, .slice none 0 0) : Value × Value), [], G, (packS (x := 4) (packS (x := 3) (packS (x := 2) (pack1 (x := 0) rfl) rfl) rfl) rfl), rfl, hX7, Pin.le_refl _, Nat.zero_le _, rfl, (by simp), ho10, hlv8, ha9⟩ ?_
  rintro k12 _ w13 ⟨env1, j, os, LV, GL1, rfl, hk14, hX15, hlek12, hj, hLV, hol, hw16, hlv17, ha18⟩
  refine s_seq ?_
  refine s_seq ?_
  refine c_reg ?_
  refine qd rfl rfl rfl (r_move (v := (.int .i64 (j : Int))) rfl) ?_
  refine qd rfl rfl rfl (r_move (v := v) rfl) ?_
  refine qd rfl rfl rfl (run_len Tryd.underlying22 (v := v) rfl hv) ?_
  refine qd rfl rfl rfl (r_lss rfl rfl) ?_
  refine qe ?_
  refine s_then ?_
  refine c_ifd (p := ((j : Int) : Int) < (ns.length : Int)) rfl rfl (fun h19 => ?_) (fun h19 => ?_)
  · skip
    have hso := hsm.opts j (by omega)
    refine wp_skip ?_
    refine s_then ?_
    refine s_seq ?_
    refine s_blk ?_
    refine c_reg ?_
    refine qd rfl rfl rfl (r_move (v := u1) rfl) ?_
    refine qd rfl rfl rfl (r_move (v := (.int .i64 (j : Int))) rfl) ?_
    refine qd rfl rfl rfl (r_move (v := v) rfl) ?_
    refine qd rfl rfl rfl (r_move (v := (.int .i64 (j : Int))) rfl) ?_
    refine qd rfl rfl rfl (run_idx Tryd.underlying22 sz81 (v := v) rfl rfl hv (by omega) (by omega)) ?_
    obtain ⟨u20, u21, hr22, hr23, hl24⟩ := nm_node (hv.at (z := (j : Int)) (by omega) (by omega)) (j := j) rfl
    have hm25 := hr22.max
    have hm26 := hr23.max
    refine qd rfl rfl rfl (hl24 ag81 sz81 rfl (Pins.of_le hX15.pins hlek12)) ?_
    refine q1 rfl rfl rfl (o_call (vs := [(.agg [u20, u21].toArray)]) Tryd.func61 nm61 rfl rfl rfl ?_)
    refine Calls.mono (toNode_dspec (n := ⟨(ns.getD j default).l, (ns.getD j default).r⟩) hX15.pins (hr22.mono hlek12) (hr23.mono hlek12) (by omega)) ?_
    rintro _ w30 ⟨u27, v28, G29, rfl, ho31, ho32, ha33, hx34⟩
    refine ⟨_, rfl, ?_⟩
    have hX35 := hX15.tr hx34
    have ho36 := hw16.ext hx34
    have hlv37 := (hlv17.ext hx34).top
    have ha38 : Apart u27.ownBlock u1.ownBlock := made_ne_own ho31.lt hw16.lt
    have ha39 : ApL LV u27.ownBlock := ApL.fresh hlv17 (fun k hk => (ho31.lt k hk).1)
    have ho40 : Own eInt 3 G29 w30 w.heap.size u27 ((ns.getD j default).l) := ho31.weaken hX15.size
    have ha41 : Apart v28.ownBlock u1.ownBlock := made_ne_own ho32.lt hw16.lt
    have ha42 : ApL LV v28.ownBlock := ApL.fresh hlv17 (fun k hk => (ho32.lt k hk).1)
    have ho43 : Own eInt 3 G29 w30 w.heap.size v28 ((ns.getD j default).r) := ho32.weaken hX15.size
    refine qd rfl rfl rfl (run_idx Tryd.underlying28 sz69 (v := u1) rfl rfl ho36.read (by omega) (by omega)) ?_
    refine q0 rfl rfl rfl (o_set (E := eVal2) (v := u1) (u := (.agg [u27, v28].toArray)) (z := (j : Int)) (((u27, v28) : Value × Value)) sz69 rfl rfl rfl ⟨rfl, ho40.one, ho43.one⟩ hX35.pins ho36 (by omega) (by omega) (fun w44 ho45 hp46 hg47 hz48 => ?_))
    have hX49 := hX35.write hp46 hg47 ((lo_own ho36))
    have ho50 := ho40.keptA hg47 ha38
    have ho51 := ho43.keptA hg47 ha41
    have hlv52 := (hlv37.kept hg47 ha18).top
    refine qe ?_
    refine s_blkN ?_
    refine s_then ?_
    refine c_reg ?_
    refine qd rfl rfl rfl (r_move (v := (.int .i64 (j : Int))) rfl) ?_
    refine qd rfl rfl rfl (r_add rfl rfl (by omega)) ?_
    refine qd rfl rfl rfl (r_assign (v := (.int .i64 ((j : Int) + 1))) rfl) ?_
    refine qe ?_
    refine s_lopN ?_
    have hlv53 := hlv52.add ho50 ha39
    have ha54 : ApL (LV ++ [(u27, (ns.getD j default).l)]) u1.ownBlock := ha18.add ha38
    have ha55 : ApL (LV ++ [(u27, (ns.getD j default).l)]) v28.ownBlock := ha42.add ha33
    have hlv56 := hlv53.add ho51 ha55
    have ha57 : ApL ((LV ++ [(u27, (ns.getD j default).l)]) ++ [(v28, (ns.getD j default).r)]) u1.ownBlock := ha54.add ha41
    refine ⟨_, ?_, _, rfl, _, j + 1, os.set j (u27, v28), LV ++ [(u27, (ns.getD j default).l)] ++ [(v28, (ns.getD j default).r)], G29, (packS (x := 4) (packS (x := 3) (packS (x := 2) (pack1 (x := 0) rfl) rfl) rfl) rfl), rfl, hX49, (Pin.le_trans hlek12 hx34.le), (by omega), (lvN_step hLV (by omega) hol), ((List.length_set ..).trans hol), ho45, hlv56, ha57⟩
    omega
  refine wp_exit ?_
  refine s_thenE ?_
  refine s_lopE ?_
  refine s_blkE ?_
  refine s_then ?_
  refine s_seq ?_
  refine c_reg ?_
  refine qd rfl rfl rfl (r_move (v := u1) rfl) ?_
  refine qd rfl rfl rfl (r_assign (v := u1) rfl) ?_
  refine qe ?_
  refine s_then ?_
  refine wp_ret ?_
  refine s_ret ?_
  refine c_ret1 (v := u1) rfl rfl rfl ?_
  have hap := ha18
  have hlv := hlv17
  rw [hLV, take_all (by omega), take_all (by omega)] at hap hlv
  exact ⟨_, _, rfl, ⟨os, hol, hw16, fun k hk => (hw16.lt k hk).2, hlv, hap⟩, hX15⟩

theorem toForm_dspec {w : World} {G : Pin} {v : Value} {ns : List Nd} (hP : Pins G w) (hv : RSl eNode G v ns) (hsm : Small ns) :
    Calls Tryd.prog 11 [(.agg [v].toArray)].toArray w fun e w' => ∃ (u : Value) (G' : Pin), e = .returned (.agg [u].toArray) ∧ DForm 69 3 G' w' w.heap.size w'.heap.size u ns ∧ Ext noS G w G' w' := by
  refine s_enter (n := 9) Tryd.func11 Tryd.ntmps11 rfl rfl ?_
  have hX0 : Ext noS G w G w := Ext.refl hP
  refine s_seq ?_
  refine c_reg ?_
  refine q1 rfl rfl rfl (o_box [v] (v := (.agg [v].toArray)) rfl rfl hX0.pins (fun b1 w2 hk3 hb4 hp5 hl6 => ?_))
  have hX7 := hX0.step hp5 hl6
  have hlo8 : w.heap.size ≤ b1 := by have := hX0.size; omega
  obtain ⟨G9, hle10, hX11, hbp12, hf13⟩ := hb4.shut hX7 hlo8
  refine q1 rfl rfl rfl (o_alloc [(.slice none 0 0)] zr30 rfl hX11.pins (fun b14 w15 hk16 hb17 hp18 hl19 => ?_))
  have hX20 := hX11.step hp18 hl19
  have hlo21 : w.heap.size ≤ b14 := by have := hX11.size; omega
  refine qe ?_
  refine s_then ?_
  refine s_seq ?_
  refine c_reg ?_
  refine q1 rfl rfl rfl (o_alloc [(.slice none 0 0)] zr30 rfl hX20.pins (fun b22 w23 hk24 hb25 hp26 hl27 => ?_))
  have hX28 := hX20.step hp26 hl27
  have hb29 := hb17.below hl27
  have ha30 : Apart (some b22) (some b14) := new_ne_box (congrArg some hk24) hb17.lt
  have hlo31 : w.heap.size ≤ b22 := by have := hX20.size; omega
  refine qe ?_
  refine s_then ?_
  refine s_seq ?_
  refine c_reg ?_
  refine qd rfl rfl rfl (r_fldp (k := 0) rfl Tryd.underlying24 rfl nz22 rfl) ?_
  refine qd rfl rfl rfl (r_ldp1 (u := v) ag22 rfl (hX28.pins _ _ _ (hbp12 0 _ rfl))) ?_
  refine q1 rfl rfl rfl (o_call (vs := [v]) Tryd.func35 nm35 rfl rfl rfl ?_)
  refine Calls.mono (toNodeS_dspec hX28.pins (hv.mono hle10) hsm) ?_
  rintro _ w34 ⟨u32, G33, rfl, hd35, hx36⟩
  refine ⟨_, rfl, ?_⟩
  have hX37 := hX28.tr hx36
  have hb38 := hb29.ext hx36
  have hb39 := hb25.ext hx36
  have hone40 := hd35.one
  refine qd rfl rfl rfl (r_fldp (k := 0) rfl Tryd.underlying30 rfl nz28 rfl) ?_
  refine q0 rfl rfl rfl (o_stp (cs' := [u32]) (us := [u32]) (v := u32) sz28 rfl rfl (cells1 hone40) (ones1 hone40) hX37.pins hb39 (Nat.le_of_ble_eq_true rfl) rfl (fun w41 hb42 hp43 hg44 hz45 => ?_))
  have hX46 := hX37.write hp43 hg44 ((lo_box hlo31))
  have hb47 := hb38.keptA hg44 ha30.symm
  have hd48 := hd35.kept hg44 (Or.inr hb25.lt)
  have hs49 := Nat.le_trans (Nat.le_refl w34.heap.size) hg44.size
  refine qe ?_
  refine s_then ?_
  refine s_seq ?_
  refine c_reg ?_
  refine qd rfl rfl rfl (r_ldpA (cs := [u32]) ag30 sz30 rfl (fun j u hj => hb42.cell (by simpa using hj))) ?_
  refine q0 rfl rfl rfl (o_stp (cs' := [u32]) (us := [u32]) (v := (.agg [u32].toArray)) sz30 rfl rfl rfl (ones1 hone40) hX46.pins hb47 (Nat.le_of_ble_eq_true rfl) rfl (fun w50 hb51 hp52 hg53 hz54 => ?_))
  have hX55 := hX46.write hp52 hg53 ((lo_box hlo21))
  have hd57 := hd48.kept hg53 (Or.inr hb29.lt)
  have hs58 := Nat.le_trans hs49 hg53.size
  refine qe ?_
  refine s_then ?_
  refine wp_ret ?_
  refine s_ret ?_
  refine c_retc (cs := [u32]) rfl rfl rfl ag30 sz30 (fun j u hj => by rw [Nat.zero_add]; exact hb51.cell hj) ?_
  exact ⟨_, _, rfl, (hd57.wide hX28.size hs58), hX55⟩

theorem markIntS_spec {w : World} {G : Pin} {v : Value} {xs : List Int} {kz : Int} (hP : Pins G w) (ho : Own eInt 3 G w 0 v xs) (hk : 0 ≤ kz ∧ kz ≤ 4503599627370496) (hx : xs.length ≤ 1048576) :
    Calls Tryd.prog 25 [v, (.int .i64 kz)].toArray w fun e w' => e = .returned (.int .i64 (kz + xs.length)) ∧ Own eInt 3 G w' 0 v (upL kz xs.length) ∧ Ext (inV [v]) G w G w' := by
  refine s_enter (n := 19) Tryd.func25 Tryd.ntmps25 rfl rfl ?_
  have hX0 : Ext (inV [v]) G w G w := Ext.refl hP
  have hlo : Lo w (inV [v]) v.ownBlock := fun k hk => Or.inr ⟨v, List.mem_singleton_self _, hk⟩
  refine s_seq ?_
  refine c_reg ?_
  refine qd rfl rfl rfl (r_assign (v := (.int .i64 0)) rfl) ?_
  refine qe ?_
  refine s_then ?_
  refine s_seq ?_
  refine s_seq ?_
  refine c_reg ?_
  refine qd rfl rfl rfl (r_assign (v := (.int .i64 0)) rfl) ?_
  refine qe ?_
  refine s_then ?_
  refine s_blk ?_
  refine s_loop (fun (k : Nat) (en : Nat → Value) (W : World) => ∃ (env1 : Nat → Value) (j : Nat) (q : Int) (ys : List Int), en = (upd (upd (upd (upd env1 0 v) 1 (.int .i64 q)) 4 (.int .i64 0)) 5 (.int .i64 (j : Int))) ∧ k = xs.length - j ∧ Ext (inV [v]) G w G W ∧ (j ≤ xs.length) ∧ (q = kz + (j : Int)) ∧ (ys = markP kz xs j) ∧ (ys.length = xs.length) ∧ (Own eInt 3 G W 0 v (ys))) _ ⟨_, 0, kz, xs, (packS (x := 5) (packS (x := 4) (packS (x := 1) (pack1 (x := 0) rfl) rfl) rfl) rfl), rfl, hX0, Nat.zero_le _, (by omega), (by simp [markP, upL]), rfl, ho⟩ ?_
  rintro k1 _ w2 ⟨env1, j, q, ys, rfl, hk3, hX4, hj, hq, hys, hyl, hw5⟩
  refine s_seq ?_
  refine s_seq ?_
  refine c_reg ?_
  refine qd rfl rfl rfl (r_move (v := (.int .i64 (j : Int))) rfl) ?_
  refine qd rfl rfl rfl (r_move (v := v) rfl) ?_
  refine qd rfl rfl rfl (run_len Tryd.underlying38 (v := v) rfl hw5.read) ?_
  refine qd rfl rfl rfl (r_lss rfl rfl) ?_
  refine qe ?_
  refine s_then ?_
  refine c_ifd (p := ((j : Int) : Int) < (ys.length : Int)) rfl rfl (fun h6 => ?_) (fun h6 => ?_)
  · skip
    refine wp_skip ?_
    refine s_then ?_
    refine s_seq ?_
    refine s_blk ?_
    refine s_seq ?_
    refine c_reg ?_
    refine qd rfl rfl rfl (r_move (v := v) rfl) ?_
    refine qd rfl rfl rfl (r_move (v := (.int .i64 (j : Int))) rfl) ?_
    refine qd rfl rfl rfl (r_move (v := (.int .i64 q)) rfl) ?_
    refine qd rfl rfl rfl (run_idx Tryd.underlying38 sz3 (v := v) rfl rfl hw5.read (by omega) (by omega)) ?_
    refine q0 rfl rfl rfl (o_set (E := eInt) (v := v) (u := (.int .i64 q)) (z := (j : Int)) (q) sz3 rfl rfl rfl rfl hX4.pins hw5 (by omega) (by omega) (fun w7 ho8 hp9 hg10 hz11 => ?_))
    have hX12 := hX4.write hp9 hg10 (hlo)
    refine qe ?_
    refine s_then ?_
    refine c_reg ?_
    refine qd rfl rfl rfl (r_move (v := (.int .i64 q)) rfl) ?_
    refine qd rfl rfl rfl (r_add rfl rfl (by omega)) ?_
    refine qd rfl rfl rfl (r_assign (v := (.int .i64 (q + 1))) rfl) ?_
    refine qe ?_
    refine s_blkN ?_
    refine s_then ?_
    refine c_reg ?_
    refine qd rfl rfl rfl (r_move (v := (.int .i64 (j : Int))) rfl) ?_
    refine qd rfl rfl rfl (r_add rfl rfl (by omega)) ?_
    refine qd rfl rfl rfl (r_assign (v := (.int .i64 ((j : Int) + 1))) rfl) ?_
    refine qe ?_
    refine s_lopN ?_
    refine ⟨_, ?_, _, rfl, _, j + 1, q + 1, ys.set j q, (packS (x := 5) (packS (x := 4) (packS (x := 1) (pack1 (x := 0) rfl) rfl) rfl) rfl), rfl, hX12, (by omega), (by omega), (by rw [hys]; exact markP_next (by omega) hq), ((List.length_set ..).trans hyl), ho8⟩
    omega
  refine wp_exit ?_
  refine s_thenE ?_
  refine s_lopE ?_
  refine s_blkE ?_
  refine s_then ?_
  refine s_seq ?_
  refine c_reg ?_
  refine qd rfl rfl rfl (r_move (v := (.int .i64 q)) rfl) ?_
  refine qd rfl rfl rfl (r_assign (v := (.int .i64 q)) rfl) ?_
  refine qe ?_
  refine s_then ?_
  refine wp_ret ?_
  refine s_ret ?_
  refine c_ret1 (v := (.int .i64 q)) rfl rfl rfl ?_
  rw [hys, markP_end (by omega)] at hw5
  exact ⟨congrArg (fun z => Ending.returned (Value.int .i64 z)) (by omega), hw5, hX4⟩

theorem markNodeS_spec {w : World} {G : Pin} {v : Value} {ps : List (Value × Value)} {kz : Int} {lo hi : Nat} (hP : Pins G w) (ho : Own eVal2 69 G w 0 v ps) (hF : LvF 3 G w lo hi 1048576 (leafV ps)) (hav : ∀ u ∈ leafV ps, Apart u.ownBlock v.ownBlock) (hn : ps.length ≤ 1048576) (hk : 0 ≤ kz ∧ kz ≤ 1) :
    Calls Tryd.prog 46 [v, (.int .i64 kz)].toArray w fun e w' => ∃ z, e = .returned (.int .i64 z) ∧ 0 ≤ z ∧ Ext (inV (leafV ps)) G w G w' := by
  refine s_enter (n := 27) Tryd.func46 Tryd.ntmps46 rfl rfl ?_
  have hX0 : Ext (inV (leafV ps)) G w G w := Ext.refl hP
  refine s_seq ?_
  refine c_reg ?_
  refine qd rfl rfl rfl (r_assign (v := (.int .i64 0)) rfl) ?_
  refine qe ?_
  refine s_then ?_
  refine s_seq ?_
  refine s_seq ?_
  refine c_reg ?_
  refine qd rfl rfl rfl (r_assign (v := (.int .i64 0)) rfl) ?_
  refine qe ?_
  refine s_then ?_
  refine s_blk ?_
  refine s_loop (fun (k : Nat) (en : Nat → Value) (W : World) => ∃ (env1 : Nat → Value) (j : Nat) (q : Int), en = (upd (upd (upd (upd env1 0 v) 1 (.int .i64 q)) 4 (.int .i64 0)) 5 (.int .i64 (j : Int))) ∧ k = ps.length - j ∧ Ext (inV (leafV ps)) G w G W ∧ (j ≤ ps.length) ∧ (0 ≤ q ∧ q ≤ 1 + 2097152 * (j : Int)) ∧ (LvF 3 G W lo hi 1048576 (leafV ps)) ∧ (Own eVal2 69 G W 0 v (ps))) _ ⟨_, 0, kz, (packS (x := 5) (packS (x := 4) (packS (x := 1) (pack1 (x := 0) rfl) rfl) rfl) rfl), rfl, hX0, Nat.zero_le _, (by omega), hF, ho⟩ ?_
  rintro k1 _ w2 ⟨env1, j, q, rfl, hk3, hX4, hj, hq, hF1, hw5⟩
  refine s_seq ?_
  refine s_seq ?_
  refine c_reg ?_
  refine qd rfl rfl rfl (r_move (v := (.int .i64 (j : Int))) rfl) ?_
  refine qd rfl rfl rfl (r_move (v := v) rfl) ?_
  refine qd rfl rfl rfl (run_len Tryd.underlying28 (v := v) rfl hw5.read) ?_
  refine qd rfl rfl rfl (r_lss rfl rfl) ?_
  refine qe ?_
  refine s_then ?_
  refine c_ifd (p := ((j : Int) : Int) < (ps.length : Int)) rfl rfl (fun h6 => ?_) (fun h6 => ?_)
  · skip
    refine wp_skip ?_
    refine s_then ?_
    refine s_seq ?_
    refine s_blk ?_
    refine s_seq ?_
    refine c_reg ?_
    refine qd rfl rfl rfl (r_move (v := v) rfl) ?_
    refine qd rfl rfl rfl (r_move (v := (.int .i64 (j : Int))) rfl) ?_
    refine qd rfl rfl rfl (run_idx Tryd.underlying28 sz69 (v := v) rfl rfl hw5.read (by omega) (by omega)) ?_
    refine qd rfl rfl rfl (run_fld (off := 0) Tryd.underlying69 rfl rfl nz38 (z := (j : Int)) (k := 0) rfl hw5.read (by omega) (by omega)) ?_
    obtain ⟨cs7, hrep8, hagg9, hcell10⟩ := nm_el (j := j) default (hw5.at (z := (j : Int)) (by omega) (by omega)) rfl
    obtain ⟨rfl, hone13⟩ := hrep8
    obtain ⟨u11, hu12⟩ : ∃ u, u = (ps.getD j default).1 := ⟨_, rfl⟩
    refine qd rfl rfl rfl (hcell10 0 u11 (by rw [hu12]; rfl) ag38 rfl (Gadd.pins hX4.pins v)) ?_
    refine qd rfl rfl rfl (r_move (v := (.int .i64 q)) rfl) ?_
    have hmem19 : u11 ∈ leafV ps := by rw [hu12]; exact (leafV_mem (by omega)).1
    obtain ⟨xs14, hxl15, hxo16, hxr17, hst18⟩ := hF1.own hmem19
    refine q1 rfl rfl rfl (o_call (vs := [u11, (.int .i64 q)]) Tryd.func25 nm25 rfl rfl rfl ?_)
    refine Calls.mono (markIntS_spec hX4.pins (hxo16.weaken (Nat.zero_le _)) (by omega) hxl15) ?_
    rintro _ w20 ⟨rfl, ho21, hx22⟩
    refine ⟨_, rfl, ?_⟩
    have hg23 := mark_grown hx22
    have hX24 := hX4.write hx22.pins hg23 (fun k hk => Or.inr ⟨_, hmem19, hk⟩)
    have ho25 := hw5.keptA hg23 (hav _ hmem19).symm
    have hF26 := hst18 _ _ (by rw [upL_length]; exact hxl15) (ho21.up (fun k hk => (hxr17 k hk).1)) hg23
    refine qd rfl rfl rfl (r_assign (v := (.int .i64 (q + (xs14.length : Int)))) rfl) ?_
    refine qe ?_
    refine s_then ?_
    refine c_reg ?_
    refine qd rfl rfl rfl (r_move (v := v) rfl) ?_
    refine qd rfl rfl rfl (r_move (v := (.int .i64 (j : Int))) rfl) ?_
    refine qd rfl rfl rfl (run_idx Tryd.underlying28 sz69 (v := v) rfl rfl ho25.read (by omega) (by omega)) ?_
    refine qd rfl rfl rfl (run_fld (off := 1) Tryd.underlying69 rfl rfl nz38 (z := (j : Int)) (k := 0) rfl ho25.read (by omega) (by omega)) ?_
    obtain ⟨cs27, hrep28, hagg29, hcell30⟩ := nm_el (j := j) default (ho25.at (z := (j : Int)) (by omega) (by omega)) rfl
    obtain ⟨rfl, hone33⟩ := hrep28
    obtain ⟨u31, hu32⟩ : ∃ u, u = (ps.getD j default).2 := ⟨_, rfl⟩
    refine qd rfl rfl rfl (hcell30 1 u31 (by rw [hu32]; rfl) ag38 rfl (Gadd.pins hX24.pins v)) ?_
    refine qd rfl rfl rfl (r_move (v := (.int .i64 (q + (xs14.length : Int)))) rfl) ?_
    have hmem39 : u31 ∈ leafV ps := by rw [hu32]; exact (leafV_mem (by omega)).2
    obtain ⟨xs34, hxl35, hxo36, hxr37, hst38⟩ := hF26.own hmem39
    refine q1 rfl rfl rfl (o_call (vs := [u31, (.int .i64 (q + (xs14.length : Int)))]) Tryd.func25 nm25 rfl rfl rfl ?_)
    refine Calls.mono (markIntS_spec hX24.pins (hxo36.weaken (Nat.zero_le _)) (by omega) hxl35) ?_
    rintro _ w40 ⟨rfl, ho41, hx42⟩
    refine ⟨_, rfl, ?_⟩
    have hg43 := mark_grown hx42
    have hX44 := hX24.write hx42.pins hg43 (fun k hk => Or.inr ⟨_, hmem39, hk⟩)
    have ho45 := ho25.keptA hg43 (hav _ hmem39).symm
    have hF46 := hst38 _ _ (by rw [upL_length]; exact hxl35) (ho41.up (fun k hk => (hxr37 k hk).1)) hg43
    refine qd rfl rfl rfl (r_assign (v := (.int .i64 ((q + (xs14.length : Int)) + (xs34.length : Int)))) rfl) ?_
    refine qe ?_
    refine s_blkN ?_
    refine s_then ?_
    refine c_reg ?_
    refine qd rfl rfl rfl (r_move (v := (.int .i64 (j : Int))) rfl) ?_
    refine qd rfl rfl rfl (r_add rfl rfl (by omega)) ?_
    refine qd rfl rfl rfl (r_assign (v := (.int .i64 ((j : Int) + 1))) rfl) ?_
    refine qe ?_
    refine s_lopN ?_
    refine ⟨_, ?_, _, rfl, _, j + 1, (q + (xs14.length : Int)) + (xs34.length : Int), (packS (x := 5) (packS (x := 4) (packS (x := 1) (pack1 (x := 0) rfl) rfl) rfl) rfl), rfl, hX44, (by omega), (by omega), hF46, ho45⟩
    omega
  refine wp_exit ?_
  refine s_thenE ?_
  refine s_lopE ?_
  refine s_blkE ?_
  refine s_then ?_
  refine s_seq ?_
  refine c_reg ?_
  refine qd rfl rfl rfl (r_move (v := (.int .i64 q)) rfl) ?_
  refine qd rfl rfl rfl (r_assign (v := (.int .i64 q)) rfl) ?_
  refine qe ?_
  refine s_then ?_
  refine wp_ret ?_
  refine s_ret ?_
  refine c_ret1 (v := (.int .i64 q)) rfl rfl rfl ?_
  exact ⟨_, rfl, by omega, hX4⟩

theorem markForm_spec {w : World} {G : Pin} {v : Value} {ns : List Nd} {kz : Int} {lo hi : Nat} (hP : Pins G w) (hd : DForm 69 3 G w lo hi v ns) (hsz : hi ≤ w.heap.size) (hsm : Small ns) (hk : 0 ≤ kz ∧ kz ≤ 1) :
    Calls Tryd.prog 29 [(.agg [v].toArray), (.int .i64 kz)].toArray w fun e w' => ∃ z, e = .returned (.int .i64 z) ∧ 0 ≤ z ∧ Ext (inR lo hi) G w G w' := by
  refine s_enter (n := 10) Tryd.func29 Tryd.ntmps29 rfl rfl ?_
  have hX0 : Ext (inR lo hi) G w G w := Ext.refl hP
  refine s_seq ?_
  refine c_reg ?_
  refine q1 rfl rfl rfl (o_box [v] (v := (.agg [v].toArray)) rfl rfl hX0.pins (fun b1 w2 hk3 hb4 hp5 hl6 => ?_))
  have hX7 := hX0.step hp5 hl6
  have hd8 := hd.below hl6
  have hs9 := Nat.le_trans hsz hl6.size
  have ha10 : hi ≤ b1 ∨ b1 < lo := Or.inl (by have e := Option.some.inj (congrArg some hk3); have := hsz; omega)
  have hlo11 : w.heap.size ≤ b1 := by have := hX0.size; omega
  obtain ⟨G12, hle13, hX14, hbp15, hf16⟩ := hb4.shut hX7 hlo11
  have hd17 := hd8.more hle13 hf16 ha10
  refine qd rfl rfl rfl (r_assign (v := (.int .i64 0)) rfl) ?_
  refine qe ?_
  refine s_then ?_
  refine s_seq ?_
  refine c_reg ?_
  refine qd rfl rfl rfl (r_fldp (k := 0) rfl Tryd.underlying30 rfl nz28 rfl) ?_
  refine qd rfl rfl rfl (r_ldp1 (u := v) ag28 rfl (hX14.pins _ _ _ (hbp15 0 _ rfl))) ?_
  refine qd rfl rfl rfl (r_move (v := (.int .i64 kz)) rfl) ?_
  obtain ⟨ps18, ho19, hF20, hav21, hn22, hin23⟩ := hd17.loose hsm
  refine q1 rfl rfl rfl (o_call (vs := [v, (.int .i64 kz)]) Tryd.func46 nm46 rfl rfl rfl ?_)
  refine Calls.mono (markNodeS_spec hX14.pins ho19 hF20 hav21 hn22 (by omega)) ?_
  rintro _ w25 ⟨z24, rfl, hz26, hx27⟩
  refine ⟨_, rfl, ?_⟩
  have hX28 := hX14.trans hx27 (fun i hi => Or.inr (hin23 i hi))
  refine qd rfl rfl rfl (r_assign (v := (.int .i64 z24)) rfl) ?_
  refine qe ?_
  refine s_then ?_
  refine s_seq ?_
  refine c_reg ?_
  refine qd rfl rfl rfl (r_move (v := (.int .i64 z24)) rfl) ?_
  refine qd rfl rfl rfl (r_assign (v := (.int .i64 z24)) rfl) ?_
  refine qe ?_
  refine s_then ?_
  refine wp_ret ?_
  refine s_ret ?_
  refine c_ret1 (v := (.int .i64 z24)) rfl rfl rfl ?_
  exact ⟨_, rfl, hz26, hX28.shrink⟩

theorem heldIntS_spec {w : World} {G : Pin} {v : Value} {kz : Int} {n : Nat} (hP : Pins G w) (hv : RSl eInt G v (upL kz n)) (hk : 0 ≤ kz ∧ kz ≤ 4503599627370496) (hn : n ≤ 1048576) :
    Calls Tryd.prog 26 [v, (.int .i64 kz)].toArray w fun e w' => e = .returned (.int .i64 (kz + n)) ∧ w' = w := by
  refine s_enter (n := 21) Tryd.func26 Tryd.ntmps26 rfl rfl ?_
  have hX0 : Ext noS G w G w := Ext.refl hP
  have hul := upL_length kz n
  refine s_seq ?_
  refine c_reg ?_
  refine qd rfl rfl rfl (r_assign (v := (.int .i64 0)) rfl) ?_
  refine qe ?_
  refine s_then ?_
  refine s_seq ?_
  refine s_seq ?_
  refine c_reg ?_
  refine qd rfl rfl rfl (r_assign (v := (.int .i64 0)) rfl) ?_
  refine qe ?_
  refine s_then ?_
  refine s_blk ?_
  refine s_loop (fun (k : Nat) (en : Nat → Value) (W : World) => ∃ (env1 : Nat → Value) (j : Nat) (q : Int), en = (upd (upd (upd env1 0 v) 1 (.int .i64 q)) 5 (.int .i64 (j : Int))) ∧ k = n - j ∧ Ext noS G w G W ∧ (j ≤ n) ∧ (W = w) ∧ (q = kz + (j : Int))) _ ⟨_, 0, kz, (packS (x := 5) (packS (x := 1) (pack1 (x := 0) rfl) rfl) rfl), rfl, hX0, Nat.zero_le _, rfl, (by omega)⟩ ?_
  rintro k1 _ w2 ⟨env1, j, q, rfl, hk3, hX4, hj, hw, hq⟩
  subst hw
  refine s_seq ?_
  refine s_seq ?_
  refine c_reg ?_
  refine qd rfl rfl rfl (r_move (v := (.int .i64 (j : Int))) rfl) ?_
  refine qd rfl rfl rfl (r_move (v := v) rfl) ?_
  refine qd rfl rfl rfl (run_len Tryd.underlying38 (v := v) rfl hv) ?_
  refine qd rfl rfl rfl (r_lss rfl rfl) ?_
  refine qe ?_
  refine s_then ?_
  refine c_ifd (p := ((j : Int) : Int) < ((upL kz n).length : Int)) rfl rfl (fun h5 => ?_) (fun h5 => ?_)
  · skip
    have hge := upL_getD (k := kz) (n := n) (j := j) (by omega)
    refine wp_skip ?_
    refine s_then ?_
    refine s_seq ?_
    refine s_blk ?_
    refine s_seq ?_
    refine s_seq ?_
    refine c_reg ?_
    refine qd rfl rfl rfl (r_move (v := v) rfl) ?_
    refine qd rfl rfl rfl (r_move (v := (.int .i64 (j : Int))) rfl) ?_
    refine qd rfl rfl rfl (run_idx Tryd.underlying38 sz3 (v := v) rfl rfl hv (by omega) (by omega)) ?_
    refine qd rfl rfl rfl (run_load_int (r := (upL kz n).getD j 0) rfl ag3 (z := (j : Int)) rfl hv hX4.pins (by omega) (by omega)) ?_
    refine qd rfl rfl rfl (r_move (v := (.int .i64 q)) rfl) ?_
    refine qd rfl rfl rfl (r_neq rfl rfl) ?_
    refine qe ?_
    refine s_then ?_
    refine c_ifd (p := ((upL kz n).getD j 0 : Int) ≠ q) rfl rfl (fun h6 => ?_) (fun h6 => ?_)
    · skip
      refine s_seq ?_
      refine c_reg ?_
      refine qd rfl rfl rfl (r_assign (v := (.int .i64 (-1))) rfl) ?_
      refine qe ?_
      refine s_then ?_
      refine wp_ret ?_
      refine s_ret ?_
      refine c_ret1 (v := (.int .i64 (-1))) rfl rfl rfl ?_
      exact absurd (by rw [hge, hq]) h6
    refine wp_skip ?_
    refine s_then ?_
    refine c_reg ?_
    refine qd rfl rfl rfl (r_move (v := (.int .i64 q)) rfl) ?_
    refine qd rfl rfl rfl (r_add rfl rfl (by omega)) ?_
    refine qd rfl rfl rfl (r_assign (v := (.int .i64 (q + 1))) rfl) ?_
    refine qe ?_
    refine s_blkN ?_
    refine s_then ?_
    refine c_reg ?_
    refine qd rfl rfl rfl (r_move (v := (.int .i64 (j : Int))) rfl) ?_
    refine qd rfl rfl rfl (r_add rfl rfl (by omega)) ?_
    refine qd rfl rfl rfl (r_assign (v := (.int .i64 ((j : Int) + 1))) rfl) ?_
    refine qe ?_
    refine s_lopN ?_
    refine ⟨_, ?_, _, rfl, _, j + 1, q + 1, (packS (x := 5) (packS (x := 1) (pack1 (x := 0) rfl) rfl) rfl), rfl, hX4, (by omega), rfl, (by omega)⟩
    omega
  refine wp_exit ?_
  refine s_thenE ?_
  refine s_lopE ?_
  refine s_blkE ?_
  refine s_then ?_
  refine s_seq ?_
  refine c_reg ?_
  refine qd rfl rfl rfl (r_move (v := (.int .i64 q)) rfl) ?_
  refine qd rfl rfl rfl (r_assign (v := (.int .i64 q)) rfl) ?_
  refine qe ?_
  refine s_then ?_
  refine wp_ret ?_
  refine s_ret ?_
  refine c_ret1 (v := (.int .i64 q)) rfl rfl rfl ?_
  exact ⟨congrArg (fun z => Ending.returned (Value.int .i64 z)) (by omega), rfl⟩

theorem clone_spec {w : World} {G : Pin} {v : Value} {xs : List Int} (hP : Pins G w) (hv : RSl eInt G v xs) (hs : xs.length ≤ 1048576) :
    Calls Tryd.prog 94 [v].toArray w fun e w' => ∃ (u : Value) (G' : Pin), e = .returned u ∧ Own eInt 3 G' w' w.heap.size u xs ∧ Ext noS G w G' w' := by
  refine s_enter (n := 8) Tryd.func94 Tryd.ntmps94 rfl rfl ?_
  have hX0 : Ext noS G w G w := Ext.refl hP
  refine s_seq ?_
  refine c_reg ?_
  refine qd rfl rfl rfl (r_assign (v := (.slice none 0 0)) rfl) ?_
  refine qe ?_
  refine s_then ?_
  refine s_seq ?_
  refine s_seq ?_
  refine c_reg ?_
  refine qd rfl rfl rfl (r_move (v := v) rfl) ?_
  refine qd rfl rfl rfl (r_eqlNil Tryd.underlying38 hv rfl rfl) ?_
  refine qe ?_
  refine s_then ?_
  refine c_if rfl rfl (fun h1 => ?_) (fun h1 => ?_)
  · skip
    refine s_seq ?_
    refine c_reg ?_
    refine qd rfl rfl rfl (r_assign (v := (.slice none 0 0)) rfl) ?_
    refine qe ?_
    refine s_then ?_
    refine wp_ret ?_
    refine s_ret ?_
    refine c_ret1 (v := (.slice none 0 0)) rfl rfl rfl ?_
    have hx0 := nil_of hv h1
    subst hx0
    exact ⟨_, _, rfl, Own.nil _ _ _ _ _, hX0⟩
  refine wp_skip ?_
  refine s_then ?_
  refine s_seq ?_
  refine c_reg ?_
  refine q1 rfl rfl rfl (o_build0 (E := eInt) (e := 3) Tryd.underlying38 sz3 hX0.pins (fun u2 w3 ho4 hp5 hl6 hk7 => ?_))
  have hX8 := hX0.step hp5 hl6
  have ho9 : Own eInt 3 G w3 w.heap.size u2 ([]) := ho4.weaken hX0.size
  refine qd rfl rfl rfl (r_move (v := v) rfl) ?_
  refine q1 rfl rfl rfl (o_append (E := eInt) (v := u2) (u := v) 8 Tryd.underlying38 ap3 (by decide) rfl rfl hX8.pins ho9 ((hv.mono (Pin.le_refl _)).src hX8.pins (by decide)) (by first | omega | (rw [List.nil_append]; omega) | (rw [List.length_nil]; omega) | (rw [List.length_append]; omega) | (simp; done) | (simp; omega) | (simp only [List.length_append, List.length_cons, List.length_nil]; omega)) (by first | omega | (rw [List.nil_append]; omega) | (rw [List.length_nil]; omega) | (rw [List.length_append]; omega) | (simp; done) | (simp; omega) | (simp only [List.length_append, List.length_cons, List.length_nil]; omega)) (hX8.size) (fun u10 w11 ho12 hp13 hg14 hw15 => ?_))
  have hX16 := hX8.write hp13 hg14 ((lo_own ho9))
  have hm17 : (([]) ++ xs).length = ([]).length + xs.length := List.length_append
  refine qd rfl rfl rfl (r_assign (v := u10) rfl) ?_
  refine qe ?_
  refine s_then ?_
  refine wp_ret ?_
  refine s_ret ?_
  refine c_ret1 (v := u10) rfl rfl rfl ?_
  exact ⟨_, _, rfl, ho12, hX16⟩

end G1
end Go.Proofs.YtndhhpaldhlghaaDoor
