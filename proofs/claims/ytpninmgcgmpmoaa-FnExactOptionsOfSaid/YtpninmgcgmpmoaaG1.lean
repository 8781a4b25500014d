/- Walks, printed by a program (walkgen.py) from the spec specs_g. -/
import Derived.Test.YtpninmgcgmpmoaaChecked
import Derived.Test.YtpninmgcgmpmoaaRow
import Derived.Test.YtpninmgcgmpmoaaDeep
import Derived.Test.YtpninmgcgmpmoaaB1
import Derived.Test.YtpninmgcgmpmoaaC1
import Derived.Test.YtpninmgcgmpmoaaE1
import Derived.Test.YtpninmgcgmpmoaaL1
set_option maxRecDepth 20000
set_option maxHeartbeats 1000000
namespace Go.Proofs.Ytpninmgcgmpmoaa
namespace G1
open Go.RowKit Go.GL Go.Proofs
open Go.Proofs.Ytpninmgcgmpmoaa.B1
open Go.Proofs.Ytpninmgcgmpmoaa.C1
open Go.Proofs.Ytpninmgcgmpmoaa.E1
open Go.Proofs.Ytpninmgcgmpmoaa.L1
theorem ag135 : (Try.prog.underlying 135).map aggD = some true := by kernel_rfl
theorem ag24 : (Try.prog.underlying 24).map aggD = some false := by kernel_rfl
theorem ag26 : (Try.prog.underlying 26).map aggD = some true := by kernel_rfl
theorem ag29 : (Try.prog.underlying 29).map aggD = some false := by kernel_rfl
theorem ag3 : (Try.prog.underlying 3).map aggD = some false := by kernel_rfl
theorem ag38 : (Try.prog.underlying 38).map aggD = some false := by kernel_rfl
theorem ag42 : (Try.prog.underlying 42).map aggD = some false := by kernel_rfl
theorem ag44 : (Try.prog.underlying 44).map aggD = some true := by kernel_rfl
theorem ag82 : (Try.prog.underlying 82).map aggD = some true := by kernel_rfl
theorem ap29 : (Try.prog.info? 29).map (fun i => (i.size, i.bytes, (i.zero.map (·.cells.size)))) = some (1, 24, some 1) := by kernel_rfl
theorem ap3 : (Try.prog.info? 3).map (fun i => (i.size, i.bytes, (i.zero.map (·.cells.size)))) = some (1, 8, some 1) := by kernel_rfl
theorem mk82 : (Try.prog.info? 82).map (fun i => (i.size, i.bytes, i.zero)) = some (2, 48, some (.agg #[(.slice none 0 0), (.slice none 0 0)])) := by kernel_rfl
theorem nm126 : (Try.f126.name == "runtime.NumGoroutine") = false := by kernel_rfl
theorem nm46 : (Try.f46.name == "runtime.NumGoroutine") = false := by kernel_rfl
theorem nm49 : (Try.f49.name == "runtime.NumGoroutine") = false := by kernel_rfl
theorem nm53 : (Try.f53.name == "runtime.NumGoroutine") = false := by kernel_rfl
theorem nm54 : (Try.f54.name == "runtime.NumGoroutine") = false := by kernel_rfl
theorem nm55 : (Try.f55.name == "runtime.NumGoroutine") = false := by kernel_rfl
theorem nm56 : (Try.f56.name == "runtime.NumGoroutine") = false := by kernel_rfl
theorem nm58 : (Try.f58.name == "runtime.NumGoroutine") = false := by kernel_rfl
theorem nm59 : (Try.f59.name == "runtime.NumGoroutine") = false := by kernel_rfl
theorem nm60 : (Try.f60.name == "runtime.NumGoroutine") = false := by kernel_rfl
theorem nm93 : (Try.f93.name == "runtime.NumGoroutine") = false := by kernel_rfl
theorem nm94 : (Try.f94.name == "runtime.NumGoroutine") = false := by kernel_rfl
theorem nm96 : (Try.f96.name == "runtime.NumGoroutine") = false := by kernel_rfl
theorem nm97 : (Try.f97.name == "runtime.NumGoroutine") = false := by kernel_rfl
theorem nz24 : (Try.prog.info? 24).map (·.size == 0) = some false := by kernel_rfl
theorem nz29 : (Try.prog.info? 29).map (·.size == 0) = some false := by kernel_rfl
theorem nz38 : (Try.prog.info? 38).map (·.size == 0) = some false := by kernel_rfl
theorem nz42 : (Try.prog.info? 42).map (·.size == 0) = some false := by kernel_rfl
theorem pl44 : (Try.prog.underlying 44).bind (placesD Try.prog) = some [(0, 1), (1, 1)] := by kernel_rfl
theorem sz135 : (Try.prog.info? 135).map (·.size) = some 2 := by kernel_rfl
theorem sz24 : (Try.prog.info? 24).map (·.size) = some 1 := by kernel_rfl
theorem sz26 : (Try.prog.info? 26).map (·.size) = some 1 := by kernel_rfl
theorem sz29 : (Try.prog.info? 29).map (·.size) = some 1 := by kernel_rfl
theorem sz3 : (Try.prog.info? 3).map (·.size) = some 1 := by kernel_rfl
theorem sz42 : (Try.prog.info? 42).map (·.size) = some 1 := by kernel_rfl
theorem sz44 : (Try.prog.info? 44).map (·.size) = some 2 := by kernel_rfl
theorem sz82 : (Try.prog.info? 82).map (·.size) = some 2 := by kernel_rfl
theorem zr26 : (Try.prog.info? 26).bind (·.zero) = some (.agg #[(.slice none 0 0)]) := by kernel_rfl
theorem zr29 : (Try.prog.info? 29).bind (·.zero) = some (.slice none 0 0) := by kernel_rfl
theorem zr44 : (Try.prog.info? 44).bind (·.zero) = some (.agg #[(.slice none 0 0), (.slice none 0 0)]) := by kernel_rfl
theorem zr82 : (Try.prog.info? 82).bind (·.zero) = some (.agg #[(.slice none 0 0), (.slice none 0 0)]) := by kernel_rfl

theorem toNode_dspec {w : World} {G : Pin} {u v : Value} {n : Nd} (hP : Pins G w) (hu : RSl eInt G u n.l) (hv : RSl eInt G v n.r) (hs : n.l.length ≤ 1048576 ∧ n.r.length ≤ 1048576) :
    Calls Try.prog 93 [(.agg [u, v].toArray)].toArray w fun e w' => ∃ (u v : Value) (G' : Pin), e = .returned (.agg [u, v].toArray) ∧ Own eInt 3 G' w' w.heap.size u n.l ∧ Own eInt 3 G' w' w.heap.size v n.r ∧ Apart u.ownBlock v.ownBlock ∧ Ext noS G w G' w' := by
  refine s_enter (n := 13) Try.func93 Try.ntmps93 rfl rfl ?_
  have hX0 : Ext noS G w G w := Ext.refl hP
  refine s_seq ?_
  refine c_reg ?_
  refine q1 rfl rfl rfl (o_box [u, v] (v := (.agg [u, v].toArray)) rfl rfl hX0.pins (fun b1 w2 hk3 hb4 hp5 hl6 => ?_))
  have hX7 := hX0.step hp5 hl6
  have hlo8 : w.heap.size ≤ b1 := by have := hX0.size; omega
  obtain ⟨G9, hle10, hX11, hbp12, hf13⟩ := hb4.shut hX7 hlo8
  refine q1 rfl rfl rfl (o_alloc [(.slice none 0 0), (.slice none 0 0)] zr82 rfl hX11.pins (fun b14 w15 hk16 hb17 hp18 hl19 => ?_))
  have hX20 := hX11.step hp18 hl19
  have hlo21 : w.heap.size ≤ b14 := by have := hX11.size; omega
  refine qe ?_
  refine s_then ?_
  refine s_seq ?_
  refine c_reg ?_
  refine q1 rfl rfl rfl (o_alloc [(.slice none 0 0), (.slice none 0 0)] zr82 rfl hX20.pins (fun b22 w23 hk24 hb25 hp26 hl27 => ?_))
  have hX28 := hX20.step hp26 hl27
  have hb29 := hb17.below hl27
  have ha30 : Apart (some b22) (some b14) := new_ne_box (congrArg some hk24) hb17.lt
  have hlo31 : w.heap.size ≤ b22 := by have := hX20.size; omega
  refine qe ?_
  refine s_then ?_
  refine s_seq ?_
  refine c_reg ?_
  refine qd rfl rfl rfl (r_fldp (k := 0) rfl Try.underlying135 rfl nz29 rfl) ?_
  refine qd rfl rfl rfl (r_ldp1 (u := u) ag29 rfl (hX28.pins _ _ _ (hbp12 0 _ rfl))) ?_
  refine q1 rfl rfl rfl (o_call (vs := [u]) Try.func126 nm126 rfl rfl rfl ?_)
  refine Calls.mono (toIntS_spec hX28.pins (hu.mono hle10) (by omega)) ?_
  rintro _ w34 ⟨u32, G33, rfl, ho35, hx36⟩
  refine ⟨_, rfl, ?_⟩
  have hX37 := hX28.tr hx36
  have hb38 := hb29.ext hx36
  have hb39 := hb25.ext hx36
  have ha40 : Apart u32.ownBlock (some b14) := made_ne_box ho35.lt hb29.lt
  have ha41 : Apart u32.ownBlock (some b22) := made_ne_box ho35.lt hb25.lt
  have ho42 : Own eInt 3 G33 w34 w.heap.size u32 n.l := ho35.weaken hX28.size
  refine qd rfl rfl rfl (r_fldp (k := 0) rfl Try.underlying82 rfl nz29 rfl) ?_
  refine q0 rfl rfl rfl (o_stp (cs' := [u32, (.slice none 0 0)]) (us := [u32]) (v := u32) sz29 rfl rfl (cells1 ho42.one) (ones1 ho42.one) hX37.pins hb39 (Nat.le_of_ble_eq_true rfl) rfl (fun w43 hb44 hp45 hg46 hz47 => ?_))
  have hX48 := hX37.write hp45 hg46 ((lo_box hlo31))
  have ho49 := ho42.keptA hg46 ha41
  have hb50 := hb38.keptA hg46 ha30.symm
  refine qe ?_
  refine s_then ?_
  refine s_seq ?_
  refine c_reg ?_
  refine qd rfl rfl rfl (r_fldp (k := 1) rfl Try.underlying135 rfl nz29 rfl) ?_
  refine qd rfl rfl rfl (r_ldp1 (u := v) ag29 rfl ((Pins.of_le hX48.pins hx36.le) _ _ _ (hbp12 1 _ rfl))) ?_
  refine q1 rfl rfl rfl (o_call (vs := [v]) Try.func126 nm126 rfl rfl rfl ?_)
  refine Calls.mono (toIntS_spec hX48.pins (hv.mono (Pin.le_trans hle10 hx36.le)) (by omega)) ?_
  rintro _ w53 ⟨u51, G52, rfl, ho54, hx55⟩
  refine ⟨_, rfl, ?_⟩
  have hX56 := hX48.tr hx55
  have ho57 := ho49.ext hx55
  have hb58 := hb50.ext hx55
  have hb59 := hb44.ext hx55
  have ha60 : Apart u51.ownBlock u32.ownBlock := made_ne_own ho54.lt ho49.lt
  have ha61 : Apart u51.ownBlock (some b14) := made_ne_box ho54.lt hb50.lt
  have ha62 : Apart u51.ownBlock (some b22) := made_ne_box ho54.lt hb44.lt
  have ho63 : Own eInt 3 G52 w53 w.heap.size u51 n.r := ho54.weaken hX48.size
  refine qd rfl rfl rfl (r_fldp (k := 1) rfl Try.underlying82 rfl nz29 rfl) ?_
  refine q0 rfl rfl rfl (o_stp (cs' := [u32, u51]) (us := [u51]) (v := u51) sz29 rfl rfl (cells1 ho63.one) (ones1 ho63.one) hX56.pins hb59 (Nat.le_of_ble_eq_true rfl) rfl (fun w64 hb65 hp66 hg67 hz68 => ?_))
  have hX69 := hX56.write hp66 hg67 ((lo_box hlo31))
  have ho70 := ho57.keptA hg67 ha41
  have ho71 := ho63.keptA hg67 ha62
  have hb72 := hb58.keptA hg67 ha30.symm
  refine qe ?_
  refine s_then ?_
  refine s_seq ?_
  refine c_reg ?_
  refine qd rfl rfl rfl (r_ldpA (cs := [u32, u51]) ag82 sz82 rfl (fun j u hj => hb65.cell (by simpa using hj))) ?_
  refine q0 rfl rfl rfl (o_stp (cs' := [u32, u51]) (us := [u32, u51]) (v := (.agg [u32, u51].toArray)) sz82 rfl rfl rfl (ones2 ho70.one ho71.one) hX69.pins hb72 (Nat.le_of_ble_eq_true rfl) rfl (fun w73 hb74 hp75 hg76 hz77 => ?_))
  have hX78 := hX69.write hp75 hg76 ((lo_box hlo21))
  have ho79 := ho70.keptA hg76 ha40
  have ho80 := ho71.keptA hg76 ha61
  have hb81 := hb65.keptA hg76 ha30
  refine qe ?_
  refine s_then ?_
  refine wp_ret ?_
  refine s_ret ?_
  refine c_retc (cs := [u32, u51]) rfl rfl rfl ag82 sz82 (fun j u hj => by rw [Nat.zero_add]; exact hb74.cell hj) ?_
  exact ⟨_, _, _, rfl, ho79, ho80, ha60.symm, hX78⟩

theorem toNodeS_dspec {w : World} {G : Pin} {v : Value} {ns : List Nd} (hP : Pins G w) (hv : RSl eNode G v ns) (hsm : Small ns) :
    Calls Try.prog 54 [v].toArray w fun e w' => ∃ (u : Value) (G' : Pin), e = .returned u ∧ DForm 82 3 G' w' w.heap.size w'.heap.size u ns ∧ Ext noS G w G' w' := by
  refine s_enter (n := 23) Try.func54 Try.ntmps54 rfl rfl ?_
  have hX0 : Ext noS G w G w := Ext.refl hP
  have hlv0 : Lvs 3 G w w.heap.size w.heap.size [] := Lvs.nil
  have hln := hsm.len
  refine s_seq ?_
  refine c_reg ?_
  refine qd rfl rfl rfl (r_assign (v := (.slice none 0 0)) rfl) ?_
  refine qe ?_
  refine s_then ?_
  refine s_seq ?_
  refine c_reg ?_
  refine qd rfl rfl rfl (r_move (v := v) rfl) ?_
  refine qd rfl rfl rfl (run_len Try.underlying38 (v := v) rfl hv) ?_
  refine q1 rfl rfl rfl (o_make (E := eVal2) ((.slice none 0 0, .slice none 0 0) : Value × Value) 48 (.agg #[(.slice none 0 0), (.slice none 0 0)]) Try.underlying24 mk82 (fun _ => ⟨rfl, rfl, rfl⟩) rfl rfl hX0.pins (by omega) (by omega) (by omega) (fun u1 w2 ho3 hp4 hl5 hk6 => ?_))
  have hX7 := hX0.step hp4 hl5
  have hlv8 := (hlv0.below hl5).top
  have ha9 : ApL [] u1.ownBlock := ApL.fresh hlv0 (fun k hk => by rw [hk6] at hk; cases hk; exact Nat.le_refl _)
  have ho10 : Own eVal2 82 G w2 w.heap.size u1 (List.replicate ns.length ((.slice none 0 0, .slice none 0 0) : Value × Value)) := ho3.weaken hX0.size
  have hm11 : (List.replicate ns.length ((.slice none 0 0, .slice none 0 0) : Value × Value)).length = ns.length := List.length_replicate ..
  refine qd rfl rfl rfl (r_assign (v := u1) rfl) ?_
  refine qe ?_
  refine s_then ?_
  refine s_seq ?_
  refine s_seq ?_
  refine c_reg ?_
  refine qd rfl rfl rfl (r_assign (v := (.int .i64 0)) rfl) ?_
  refine qe ?_
  refine s_then ?_
  refine s_blk ?_
  refine s_loop (fun (k : Nat) (en : Nat → Value) (W : World) => ∃ (env1 : Nat → Value) (j : Nat) (os : List (Value × Value)) (LV : List Leaf) (GL1 : Pin), en = (upd (upd (upd (upd env1 0 v) 2 (.slice none 0 0)) 3 u1) 4 (.int .i64 (j : Int))) ∧ k = ns.length - j ∧ Ext noS G w GL1 W ∧ Pin.le G GL1 ∧ (j ≤ ns.length) ∧ (LV = lvN (os.take j) (ns.take j)) ∧ (os.length = ns.length) ∧ (Own eVal2 82 GL1 W w.heap.size u1 (os)) ∧ (Lvs 3 GL1 W w.heap.size W.heap.size LV) ∧ (ApL LV u1.ownBlock)) _ ⟨_, 0, List.replicate ns.length ((.slice none 0 0, .slice none 0 0) : Value × Value), [], G, (packS (x := 4) (packS (x := 3) (packS (x := 2) (pack1 (x := 0) rfl) rfl) rfl) rfl), rfl, hX7, Pin.le_refl _, Nat.zero_le _, rfl, (by simp), ho10, hlv8, ha9⟩ ?_
  rintro k12 _ w13 ⟨env1, j, os, LV, GL1, rfl, hk14, hX15, hlek12, hj, hLV, hol, hw16, hlv17, ha18⟩
  refine s_seq ?_
  refine s_seq ?_
  refine c_reg ?_
  refine qd rfl rfl rfl (r_move (v := (.int .i64 (j : Int))) rfl) ?_
  refine qd rfl rfl rfl (r_move (v := v) rfl) ?_
  refine qd rfl rfl rfl (run_len Try.underlying38 (v := v) rfl hv) ?_
  refine qd rfl rfl rfl (r_lss rfl rfl) ?_
  refine qe ?_
  refine s_then ?_
  refine c_ifd (p := ((j : Int) : Int) < (ns.length : Int)) rfl rfl (fun h19 => ?_) (fun h19 => ?_)
  · skip
    have hso := hsm.opts j (by omega)
    refine wp_skip ?_
    refine s_then ?_
    refine s_seq ?_
    refine s_blk ?_
    refine c_reg ?_
    refine qd rfl rfl rfl (r_move (v := u1) rfl) ?_
    refine qd rfl rfl rfl (r_move (v := (.int .i64 (j : Int))) rfl) ?_
    refine qd rfl rfl rfl (r_move (v := v) rfl) ?_
    refine qd rfl rfl rfl (r_move (v := (.int .i64 (j : Int))) rfl) ?_
    refine qd rfl rfl rfl (run_idx Try.underlying38 sz135 (v := v) rfl rfl hv (by omega) (by omega)) ?_
    obtain ⟨u20, u21, hr22, hr23, hl24⟩ := nm_node (hv.at (z := (j : Int)) (by omega) (by omega)) (j := j) rfl
    have hm25 := hr22.max
    have hm26 := hr23.max
    refine qd rfl rfl rfl (hl24 ag135 sz135 rfl (Pins.of_le hX15.pins hlek12)) ?_
    refine q1 rfl rfl rfl (o_call (vs := [(.agg [u20, u21].toArray)]) Try.func93 nm93 rfl rfl rfl ?_)
    refine Calls.mono (toNode_dspec (n := ⟨(ns.getD j default).l, (ns.getD j default).r⟩) hX15.pins (hr22.mono hlek12) (hr23.mono hlek12) (by omega)) ?_
    rintro _ w30 ⟨u27, v28, G29, rfl, ho31, ho32, ha33, hx34⟩
    refine ⟨_, rfl, ?_⟩
    have hX35 := hX15.tr hx34
    have ho36 := hw16.ext hx34
    have hlv37 := (hlv17.ext hx34).top
    have ha38 : Apart u27.ownBlock u1.ownBlock := made_ne_own ho31.lt hw16.lt
    have ha39 : ApL LV u27.ownBlock := ApL.fresh hlv17 (fun k hk => (ho31.lt k hk).1)
    have ho40 : Own eInt 3 G29 w30 w.heap.size u27 ((ns.getD j default).l) := ho31.weaken hX15.size
    have ha41 : Apart v28.ownBlock u1.ownBlock := made_ne_own ho32.lt hw16.lt
    have ha42 : ApL LV v28.ownBlock := ApL.fresh hlv17 (fun k hk => (ho32.lt k hk).1)
    have ho43 : Own eInt 3 G29 w30 w.heap.size v28 ((ns.getD j default).r) := ho32.weaken hX15.size
    refine qd rfl rfl rfl (run_idx Try.underlying24 sz82 (v := u1) rfl rfl ho36.read (by omega) (by omega)) ?_
    refine q0 rfl rfl rfl (o_set (E := eVal2) (v := u1) (u := (.agg [u27, v28].toArray)) (z := (j : Int)) (((u27, v28) : Value × Value)) sz82 rfl rfl rfl ⟨rfl, ho40.one, ho43.one⟩ hX35.pins ho36 (by omega) (by omega) (fun w44 ho45 hp46 hg47 hz48 => ?_))
    have hX49 := hX35.write hp46 hg47 ((lo_own ho36))
    have ho50 := ho40.keptA hg47 ha38
    have ho51 := ho43.keptA hg47 ha41
    have hlv52 := (hlv37.kept hg47 ha18).top
    refine qe ?_
    refine s_blkN ?_
    refine s_then ?_
    refine c_reg ?_
    refine qd rfl rfl rfl (r_move (v := (.int .i64 (j : Int))) rfl) ?_
    refine qd rfl rfl rfl (r_add rfl rfl (by omega)) ?_
    refine qd rfl rfl rfl (r_assign (v := (.int .i64 ((j : Int) + 1))) rfl) ?_
    refine qe ?_
    refine s_lopN ?_
    have hlv53 := hlv52.add ho50 ha39
    have ha54 : ApL (LV ++ [(u27, (ns.getD j default).l)]) u1.ownBlock := ha18.add ha38
    have ha55 : ApL (LV ++ [(u27, (ns.getD j default).l)]) v28.ownBlock := ha42.add ha33
    have hlv56 := hlv53.add ho51 ha55
    have ha57 : ApL ((LV ++ [(u27, (ns.getD j default).l)]) ++ [(v28, (ns.getD j default).r)]) u1.ownBlock := ha54.add ha41
    refine ⟨_, ?_, _, rfl, _, j + 1, os.set j (u27, v28), LV ++ [(u27, (ns.getD j default).l)] ++ [(v28, (ns.getD j default).r)], G29, (packS (x := 4) (packS (x := 3) (packS (x := 2) (pack1 (x := 0) rfl) rfl) rfl) rfl), rfl, hX49, (Pin.le_trans hlek12 hx34.le), (by omega), (lvN_step hLV (by omega) hol), ((List.length_set ..).trans hol), ho45, hlv56, ha57⟩
    omega
  · skip
    refine wp_exit ?_
    refine s_thenE ?_
    refine s_lopE ?_
    refine s_blkE ?_
    refine s_then ?_
    refine s_seq ?_
    refine c_reg ?_
    refine qd rfl rfl rfl (r_move (v := u1) rfl) ?_
    refine qd rfl rfl rfl (r_assign (v := u1) rfl) ?_
    refine qe ?_
    refine s_then ?_
    refine wp_ret ?_
    refine s_ret ?_
    refine c_ret1 (v := u1) rfl rfl rfl ?_
    have hap := ha18
    have hlv := hlv17
    rw [hLV, take_all (by omega), take_all (by omega)] at hap hlv
    exact ⟨_, _, rfl, ⟨os, hol, hw16, fun k hk => (hw16.lt k hk).2, hlv, hap⟩, hX15⟩

theorem toForm_dspec {w : World} {G : Pin} {v : Value} {ns : List Nd} (hP : Pins G w) (hv : RSl eNode G v ns) (hsm : Small ns) :
    Calls Try.prog 18 [(.agg [v].toArray)].toArray w fun e w' => ∃ (u : Value) (G' : Pin), e = .returned (.agg [u].toArray) ∧ DForm 82 3 G' w' w.heap.size w'.heap.size u ns ∧ Ext noS G w G' w' := by
  refine s_enter (n := 9) Try.func18 Try.ntmps18 rfl rfl ?_
  have hX0 : Ext noS G w G w := Ext.refl hP
  refine s_seq ?_
  refine c_reg ?_
  refine q1 rfl rfl rfl (o_box [v] (v := (.agg [v].toArray)) rfl rfl hX0.pins (fun b1 w2 hk3 hb4 hp5 hl6 => ?_))
  have hX7 := hX0.step hp5 hl6
  have hlo8 : w.heap.size ≤ b1 := by have := hX0.size; omega
  obtain ⟨G9, hle10, hX11, hbp12, hf13⟩ := hb4.shut hX7 hlo8
  refine q1 rfl rfl rfl (o_alloc [(.slice none 0 0)] zr26 rfl hX11.pins (fun b14 w15 hk16 hb17 hp18 hl19 => ?_))
  have hX20 := hX11.step hp18 hl19
  have hlo21 : w.heap.size ≤ b14 := by have := hX11.size; omega
  refine qe ?_
  refine s_then ?_
  refine s_seq ?_
  refine c_reg ?_
  refine q1 rfl rfl rfl (o_alloc [(.slice none 0 0)] zr26 rfl hX20.pins (fun b22 w23 hk24 hb25 hp26 hl27 => ?_))
  have hX28 := hX20.step hp26 hl27
  have hb29 := hb17.below hl27
  have ha30 : Apart (some b22) (some b14) := new_ne_box (congrArg some hk24) hb17.lt
  have hlo31 : w.heap.size ≤ b22 := by have := hX20.size; omega
  refine qe ?_
  refine s_then ?_
  refine s_seq ?_
  refine c_reg ?_
  refine qd rfl rfl rfl (r_fldp (k := 0) rfl Try.underlying40 rfl nz38 rfl) ?_
  refine qd rfl rfl rfl (r_ldp1 (u := v) ag38 rfl (hX28.pins _ _ _ (hbp12 0 _ rfl))) ?_
  refine q1 rfl rfl rfl (o_call (vs := [v]) Try.func54 nm54 rfl rfl rfl ?_)
  refine Calls.mono (toNodeS_dspec hX28.pins (hv.mono hle10) hsm) ?_
  rintro _ w34 ⟨u32, G33, rfl, hd35, hx36⟩
  refine ⟨_, rfl, ?_⟩
  have hX37 := hX28.tr hx36
  have hb38 := hb29.ext hx36
  have hb39 := hb25.ext hx36
  have hone40 := hd35.one
  refine qd rfl rfl rfl (r_fldp (k := 0) rfl Try.underlying26 rfl nz24 rfl) ?_
  refine q0 rfl rfl rfl (o_stp (cs' := [u32]) (us := [u32]) (v := u32) sz24 rfl rfl (cells1 hone40) (ones1 hone40) hX37.pins hb39 (Nat.le_of_ble_eq_true rfl) rfl (fun w41 hb42 hp43 hg44 hz45 => ?_))
  have hX46 := hX37.write hp43 hg44 ((lo_box hlo31))
  have hb47 := hb38.keptA hg44 ha30.symm
  have hd48 := hd35.kept hg44 (Or.inr hb25.lt)
  have hs49 := Nat.le_trans (Nat.le_refl w34.heap.size) hg44.size
  refine qe ?_
  refine s_then ?_
  refine s_seq ?_
  refine c_reg ?_
  refine qd rfl rfl rfl (r_ldpA (cs := [u32]) ag26 sz26 rfl (fun j u hj => hb42.cell (by simpa using hj))) ?_
  refine q0 rfl rfl rfl (o_stp (cs' := [u32]) (us := [u32]) (v := (.agg [u32].toArray)) sz26 rfl rfl rfl (ones1 hone40) hX46.pins hb47 (Nat.le_of_ble_eq_true rfl) rfl (fun w50 hb51 hp52 hg53 hz54 => ?_))
  have hX55 := hX46.write hp52 hg53 ((lo_box hlo21))
  have hb56 := hb42.keptA hg53 ha30
  have hd57 := hd48.kept hg53 (Or.inr hb29.lt)
  have hs58 := Nat.le_trans hs49 hg53.size
  refine qe ?_
  refine s_then ?_
  refine wp_ret ?_
  refine s_ret ?_
  refine c_retc (cs := [u32]) rfl rfl rfl ag26 sz26 (fun j u hj => by rw [Nat.zero_add]; exact hb51.cell hj) ?_
  exact ⟨_, _, rfl, (hd57.wide hX28.size hs58), hX55⟩

theorem markIntS_spec {w : World} {G : Pin} {v : Value} {xs : List Int} {kz : Int} (hP : Pins G w) (ho : Own eInt 3 G w 0 v xs) (hk : 0 ≤ kz ∧ kz ≤ 4503599627370496) (hx : xs.length ≤ 1048576) :
    Calls Try.prog 96 [v, (.int .i64 kz)].toArray w fun e w' => e = .returned (.int .i64 (kz + xs.length)) ∧ Own eInt 3 G w' 0 v (upL kz xs.length) ∧ Ext (inV [v]) G w G w' := by
  refine s_enter (n := 19) Try.func96 Try.ntmps96 rfl rfl ?_
  have hX0 : Ext (inV [v]) G w G w := Ext.refl hP
  have hlo : Lo w (inV [v]) v.ownBlock := fun k hk => Or.inr ⟨v, List.mem_singleton_self _, hk⟩
  refine s_seq ?_
  refine c_reg ?_
  refine qd rfl rfl rfl (r_assign (v := (.int .i64 0)) rfl) ?_
  refine qe ?_
  refine s_then ?_
  refine s_seq ?_
  refine s_seq ?_
  refine c_reg ?_
  refine qd rfl rfl rfl (r_assign (v := (.int .i64 0)) rfl) ?_
  refine qe ?_
  refine s_then ?_
  refine s_blk ?_
  refine s_loop (fun (k : Nat) (en : Nat → Value) (W : World) => ∃ (env1 : Nat → Value) (j : Nat) (q : Int) (ys : List Int), en = (upd (upd (upd (upd env1 0 v) 1 (.int .i64 q)) 4 (.int .i64 0)) 5 (.int .i64 (j : Int))) ∧ k = xs.length - j ∧ Ext (inV [v]) G w G W ∧ (j ≤ xs.length) ∧ (q = kz + (j : Int)) ∧ (ys = markP kz xs j) ∧ (ys.length = xs.length) ∧ (Own eInt 3 G W 0 v (ys))) _ ⟨_, 0, kz, xs, (packS (x := 5) (packS (x := 4) (packS (x := 1) (pack1 (x := 0) rfl) rfl) rfl) rfl), rfl, hX0, Nat.zero_le _, (by omega), (by simp [markP, upL]), rfl, ho⟩ ?_
  rintro k1 _ w2 ⟨env1, j, q, ys, rfl, hk3, hX4, hj, hq, hys, hyl, hw5⟩
  refine s_seq ?_
  refine s_seq ?_
  refine c_reg ?_
  refine qd rfl rfl rfl (r_move (v := (.int .i64 (j : Int))) rfl) ?_
  refine qd rfl rfl rfl (r_move (v := v) rfl) ?_
  refine qd rfl rfl rfl (run_len Try.underlying29 (v := v) rfl hw5.read) ?_
  refine qd rfl rfl rfl (r_lss rfl rfl) ?_
  refine qe ?_
  refine s_then ?_
  refine c_ifd (p := ((j : Int) : Int) < (ys.length : Int)) rfl rfl (fun h6 => ?_) (fun h6 => ?_)
  · skip
    refine wp_skip ?_
    refine s_then ?_
    refine s_seq ?_
    refine s_blk ?_
    refine s_seq ?_
    refine c_reg ?_
    refine qd rfl rfl rfl (r_move (v := v) rfl) ?_
    refine qd rfl rfl rfl (r_move (v := (.int .i64 (j : Int))) rfl) ?_
    refine qd rfl rfl rfl (r_move (v := (.int .i64 q)) rfl) ?_
    refine qd rfl rfl rfl (run_idx Try.underlying29 sz3 (v := v) rfl rfl hw5.read (by omega) (by omega)) ?_
    refine q0 rfl rfl rfl (o_set (E := eInt) (v := v) (u := (.int .i64 q)) (z := (j : Int)) (q) sz3 rfl rfl rfl rfl hX4.pins hw5 (by omega) (by omega) (fun w7 ho8 hp9 hg10 hz11 => ?_))
    have hX12 := hX4.write hp9 hg10 (hlo)
    refine qe ?_
    refine s_then ?_
    refine c_reg ?_
    refine qd rfl rfl rfl (r_move (v := (.int .i64 q)) rfl) ?_
    refine qd rfl rfl rfl (r_add rfl rfl (by omega)) ?_
    refine qd rfl rfl rfl (r_assign (v := (.int .i64 (q + 1))) rfl) ?_
    refine qe ?_
    refine s_blkN ?_
    refine s_then ?_
    refine c_reg ?_
    refine qd rfl rfl rfl (r_move (v := (.int .i64 (j : Int))) rfl) ?_
    refine qd rfl rfl rfl (r_add rfl rfl (by omega)) ?_
    refine qd rfl rfl rfl (r_assign (v := (.int .i64 ((j : Int) + 1))) rfl) ?_
    refine qe ?_
    refine s_lopN ?_
    refine ⟨_, ?_, _, rfl, _, j + 1, q + 1, ys.set j q, (packS (x := 5) (packS (x := 4) (packS (x := 1) (pack1 (x := 0) rfl) rfl) rfl) rfl), rfl, hX12, (by omega), (by omega), (by rw [hys]; exact markP_next (by omega) hq), ((List.length_set ..).trans hyl), ho8⟩
    omega
  · skip
    refine wp_exit ?_
    refine s_thenE ?_
    refine s_lopE ?_
    refine s_blkE ?_
    refine s_then ?_
    refine s_seq ?_
    refine c_reg ?_
    refine qd rfl rfl rfl (r_move (v := (.int .i64 q)) rfl) ?_
    refine qd rfl rfl rfl (r_assign (v := (.int .i64 q)) rfl) ?_
    refine qe ?_
    refine s_then ?_
    refine wp_ret ?_
    refine s_ret ?_
    refine c_ret1 (v := (.int .i64 q)) rfl rfl rfl ?_
    rw [hys, markP_end (by omega)] at hw5
    exact ⟨congrArg (fun z => Ending.returned (Value.int .i64 z)) (by omega), hw5, hX4⟩

theorem markNodeS_spec {w : World} {G : Pin} {v : Value} {ps : List (Value × Value)} {kz : Int} {lo hi : Nat} (hP : Pins G w) (ho : Own eVal2 82 G w 0 v ps) (hF : LvF 3 G w lo hi 1048576 (leafV ps)) (hav : ∀ u ∈ leafV ps, Apart u.ownBlock v.ownBlock) (hn : ps.length ≤ 1048576) (hk : 0 ≤ kz ∧ kz ≤ 1) :
    Calls Try.prog 58 [v, (.int .i64 kz)].toArray w fun e w' => ∃ z, e = .returned (.int .i64 z) ∧ 0 ≤ z ∧ Ext (inV (leafV ps)) G w G w' := by
  refine s_enter (n := 27) Try.func58 Try.ntmps58 rfl rfl ?_
  have hX0 : Ext (inV (leafV ps)) G w G w := Ext.refl hP
  refine s_seq ?_
  refine c_reg ?_
  refine qd rfl rfl rfl (r_assign (v := (.int .i64 0)) rfl) ?_
  refine qe ?_
  refine s_then ?_
  refine s_seq ?_
  refine s_seq ?_
  refine c_reg ?_
  refine qd rfl rfl rfl (r_assign (v := (.int .i64 0)) rfl) ?_
  refine qe ?_
  refine s_then ?_
  refine s_blk ?_
  refine s_loop (fun (k : Nat) (en : Nat → Value) (W : World) => ∃ (env1 : Nat → Value) (j : Nat) (q : Int), en = (upd (upd (upd (upd env1 0 v) 1 (.int .i64 q)) 4 (.int .i64 0)) 5 (.int .i64 (j : Int))) ∧ k = ps.length - j ∧ Ext (inV (leafV ps)) G w G W ∧ (j ≤ ps.length) ∧ (0 ≤ q ∧ q ≤ 1 + 2097152 * (j : Int)) ∧ (LvF 3 G W lo hi 1048576 (leafV ps)) ∧ (Own eVal2 82 G W 0 v (ps))) _ ⟨_, 0, kz, (packS (x := 5) (packS (x := 4) (packS (x := 1) (pack1 (x := 0) rfl) rfl) rfl) rfl), rfl, hX0, Nat.zero_le _, (by omega), hF, ho⟩ ?_
  rintro k1 _ w2 ⟨env1, j, q, rfl, hk3, hX4, hj, hq, hF1, hw5⟩
  refine s_seq ?_
  refine s_seq ?_
  refine c_reg ?_
  refine qd rfl rfl rfl (r_move (v := (.int .i64 (j : Int))) rfl) ?_
  refine qd rfl rfl rfl (r_move (v := v) rfl) ?_
  refine qd rfl rfl rfl (run_len Try.underlying24 (v := v) rfl hw5.read) ?_
  refine qd rfl rfl rfl (r_lss rfl rfl) ?_
  refine qe ?_
  refine s_then ?_
  refine c_ifd (p := ((j : Int) : Int) < (ps.length : Int)) rfl rfl (fun h6 => ?_) (fun h6 => ?_)
  · skip
    refine wp_skip ?_
    refine s_then ?_
    refine s_seq ?_
    refine s_blk ?_
    refine s_seq ?_
    refine c_reg ?_
    refine qd rfl rfl rfl (r_move (v := v) rfl) ?_
    refine qd rfl rfl rfl (r_move (v := (.int .i64 (j : Int))) rfl) ?_
    refine qd rfl rfl rfl (run_idx Try.underlying24 sz82 (v := v) rfl rfl hw5.read (by omega) (by omega)) ?_
    refine qd rfl rfl rfl (run_fld (off := 0) Try.underlying82 rfl rfl nz29 (z := (j : Int)) (k := 0) rfl hw5.read (by omega) (by omega)) ?_
    obtain ⟨cs7, hrep8, hagg9, hcell10⟩ := nm_el (j := j) default (hw5.at (z := (j : Int)) (by omega) (by omega)) rfl
    obtain ⟨rfl, hone13⟩ := hrep8
    obtain ⟨u11, hu12⟩ : ∃ u, u = (ps.getD j default).1 := ⟨_, rfl⟩
    refine qd rfl rfl rfl (hcell10 0 u11 (by rw [hu12]; rfl) ag29 rfl (Gadd.pins hX4.pins v)) ?_
    refine qd rfl rfl rfl (r_move (v := (.int .i64 q)) rfl) ?_
    have hmem19 : u11 ∈ leafV ps := by rw [hu12]; exact (leafV_mem (by omega)).1
    obtain ⟨xs14, hxl15, hxo16, hxr17, hst18⟩ := hF1.own hmem19
    refine q1 rfl rfl rfl (o_call (vs := [u11, (.int .i64 q)]) Try.func96 nm96 rfl rfl rfl ?_)
    refine Calls.mono (markIntS_spec hX4.pins (hxo16.weaken (Nat.zero_le _)) (by omega) hxl15) ?_
    rintro _ w20 ⟨rfl, ho21, hx22⟩
    refine ⟨_, rfl, ?_⟩
    have hg23 := mark_grown hx22
    have hX24 := hX4.write hx22.pins hg23 (fun k hk => Or.inr ⟨_, hmem19, hk⟩)
    have ho25 := hw5.keptA hg23 (hav _ hmem19).symm
    have hF26 := hst18 _ _ (by rw [upL_length]; exact hxl15) (ho21.up (fun k hk => (hxr17 k hk).1)) hg23
    refine qd rfl rfl rfl (r_assign (v := (.int .i64 (q + (xs14.length : Int)))) rfl) ?_
    refine qe ?_
    refine s_then ?_
    refine c_reg ?_
    refine qd rfl rfl rfl (r_move (v := v) rfl) ?_
    refine qd rfl rfl rfl (r_move (v := (.int .i64 (j : Int))) rfl) ?_
    refine qd rfl rfl rfl (run_idx Try.underlying24 sz82 (v := v) rfl rfl ho25.read (by omega) (by omega)) ?_
    refine qd rfl rfl rfl (run_fld (off := 1) Try.underlying82 rfl rfl nz29 (z := (j : Int)) (k := 0) rfl ho25.read (by omega) (by omega)) ?_
    obtain ⟨cs27, hrep28, hagg29, hcell30⟩ := nm_el (j := j) default (ho25.at (z := (j : Int)) (by omega) (by omega)) rfl
    obtain ⟨rfl, hone33⟩ := hrep28
    obtain ⟨u31, hu32⟩ : ∃ u, u = (ps.getD j default).2 := ⟨_, rfl⟩
    refine qd rfl rfl rfl (hcell30 1 u31 (by rw [hu32]; rfl) ag29 rfl (Gadd.pins hX24.pins v)) ?_
    refine qd rfl rfl rfl (r_move (v := (.int .i64 (q + (xs14.length : Int)))) rfl) ?_
    have hmem39 : u31 ∈ leafV ps := by rw [hu32]; exact (leafV_mem (by omega)).2
    obtain ⟨xs34, hxl35, hxo36, hxr37, hst38⟩ := hF26.own hmem39
    refine q1 rfl rfl rfl (o_call (vs := [u31, (.int .i64 (q + (xs14.length : Int)))]) Try.func96 nm96 rfl rfl rfl ?_)
    refine Calls.mono (markIntS_spec hX24.pins (hxo36.weaken (Nat.zero_le _)) (by omega) hxl35) ?_
    rintro _ w40 ⟨rfl, ho41, hx42⟩
    refine ⟨_, rfl, ?_⟩
    have hg43 := mark_grown hx42
    have hX44 := hX24.write hx42.pins hg43 (fun k hk => Or.inr ⟨_, hmem39, hk⟩)
    have ho45 := ho25.keptA hg43 (hav _ hmem39).symm
    have hF46 := hst38 _ _ (by rw [upL_length]; exact hxl35) (ho41.up (fun k hk => (hxr37 k hk).1)) hg43
    refine qd rfl rfl rfl (r_assign (v := (.int .i64 ((q + (xs14.length : Int)) + (xs34.length : Int)))) rfl) ?_
    refine qe ?_
    refine s_blkN ?_
    refine s_then ?_
    refine c_reg ?_
    refine qd rfl rfl rfl (r_move (v := (.int .i64 (j : Int))) rfl) ?_
    refine qd rfl rfl rfl (r_add rfl rfl (by omega)) ?_
    refine qd rfl rfl rfl (r_assign (v := (.int .i64 ((j : Int) + 1))) rfl) ?_
    refine qe ?_
    refine s_lopN ?_
    refine ⟨_, ?_, _, rfl, _, j + 1, (q + (xs14.length : Int)) + (xs34.length : Int), (packS (x := 5) (packS (x := 4) (packS (x := 1) (pack1 (x := 0) rfl) rfl) rfl) rfl), rfl, hX44, (by omega), (by omega), hF46, ho45⟩
    omega
  · skip
    refine wp_exit ?_
    refine s_thenE ?_
    refine s_lopE ?_
    refine s_blkE ?_
    refine s_then ?_
    refine s_seq ?_
    refine c_reg ?_
    refine qd rfl rfl rfl (r_move (v := (.int .i64 q)) rfl) ?_
    refine qd rfl rfl rfl (r_assign (v := (.int .i64 q)) rfl) ?_
    refine qe ?_
    refine s_then ?_
    refine wp_ret ?_
    refine s_ret ?_
    refine c_ret1 (v := (.int .i64 q)) rfl rfl rfl ?_
    exact ⟨_, rfl, by omega, hX4⟩

theorem markForm_spec {w : World} {G : Pin} {v : Value} {ns : List Nd} {kz : Int} {lo hi : Nat} (hP : Pins G w) (hd : DForm 82 3 G w lo hi v ns) (hsz : hi ≤ w.heap.size) (hsm : Small ns) (hk : 0 ≤ kz ∧ kz ≤ 1) :
    Calls Try.prog 22 [(.agg [v].toArray), (.int .i64 kz)].toArray w fun e w' => ∃ z, e = .returned (.int .i64 z) ∧ 0 ≤ z ∧ Ext (inR lo hi) G w G w' := by
  refine s_enter (n := 10) Try.func22 Try.ntmps22 rfl rfl ?_
  have hX0 : Ext (inR lo hi) G w G w := Ext.refl hP
  refine s_seq ?_
  refine c_reg ?_
  refine q1 rfl rfl rfl (o_box [v] (v := (.agg [v].toArray)) rfl rfl hX0.pins (fun b1 w2 hk3 hb4 hp5 hl6 => ?_))
  have hX7 := hX0.step hp5 hl6
  have hd8 := hd.below hl6
  have hs9 := Nat.le_trans hsz hl6.size
  have ha10 : hi ≤ b1 ∨ b1 < lo := Or.inl (by have e := Option.some.inj (congrArg some hk3); have := hsz; omega)
  have hlo11 : w.heap.size ≤ b1 := by have := hX0.size; omega
  obtain ⟨G12, hle13, hX14, hbp15, hf16⟩ := hb4.shut hX7 hlo11
  have hd17 := hd8.more hle13 hf16 ha10
  refine qd rfl rfl rfl (r_assign (v := (.int .i64 0)) rfl) ?_
  refine qe ?_
  refine s_then ?_
  refine s_seq ?_
  refine c_reg ?_
  refine qd rfl rfl rfl (r_fldp (k := 0) rfl Try.underlying26 rfl nz24 rfl) ?_
  refine qd rfl rfl rfl (r_ldp1 (u := v) ag24 rfl (hX14.pins _ _ _ (hbp15 0 _ rfl))) ?_
  refine qd rfl rfl rfl (r_move (v := (.int .i64 kz)) rfl) ?_
  obtain ⟨ps18, ho19, hF20, hav21, hn22, hin23⟩ := hd17.loose hsm
  refine q1 rfl rfl rfl (o_call (vs := [v, (.int .i64 kz)]) Try.func58 nm58 rfl rfl rfl ?_)
  refine Calls.mono (markNodeS_spec hX14.pins ho19 hF20 hav21 hn22 (by omega)) ?_
  rintro _ w25 ⟨z24, rfl, hz26, hx27⟩
  refine ⟨_, rfl, ?_⟩
  have hX28 := hX14.trans hx27 (fun i hi => Or.inr (hin23 i hi))
  refine qd rfl rfl rfl (r_assign (v := (.int .i64 z24)) rfl) ?_
  refine qe ?_
  refine s_then ?_
  refine s_seq ?_
  refine c_reg ?_
  refine qd rfl rfl rfl (r_move (v := (.int .i64 z24)) rfl) ?_
  refine qd rfl rfl rfl (r_assign (v := (.int .i64 z24)) rfl) ?_
  refine qe ?_
  refine s_then ?_
  refine wp_ret ?_
  refine s_ret ?_
  refine c_ret1 (v := (.int .i64 z24)) rfl rfl rfl ?_
  exact ⟨_, rfl, hz26, hX28.shrink⟩

theorem markIntSS_spec {w : World} {G : Pin} {v : Value} {us : List Value} {xss : List (List Int)} {kz : Int} {lo hi : Nat} (hP : Pins G w) (ho : Own eVal 29 G w 0 v us) (hul : us.length = xss.length) (hav : ∀ u ∈ us, Apart u.ownBlock v.ownBlock) (hF : Lvs 3 G w lo hi (lvL us xss)) (hk : 0 ≤ kz ∧ kz ≤ 1099511627776) (hb : ∀ x ∈ xss, x.length ≤ 1048576) (hn : xss.length ≤ 1048576) :
    Calls Try.prog 59 [v, (.int .i64 kz)].toArray w fun e w' => e = .returned (.int .i64 (kz + tot xss)) ∧ Lvs 3 G w' lo hi (lvL us (markSS kz xss)) ∧ Ext (inV us) G w G w' := by
  refine s_enter (n := 19) Try.func59 Try.ntmps59 rfl rfl ?_
  have hX0 : Ext (inV us) G w G w := Ext.refl hP
  refine s_seq ?_
  refine c_reg ?_
  refine qd rfl rfl rfl (r_assign (v := (.int .i64 0)) rfl) ?_
  refine qe ?_
  refine s_then ?_
  refine s_seq ?_
  refine s_seq ?_
  refine c_reg ?_
  refine qd rfl rfl rfl (r_assign (v := (.int .i64 0)) rfl) ?_
  refine qe ?_
  refine s_then ?_
  refine s_blk ?_
  refine s_loop (fun (k : Nat) (en : Nat → Value) (W : World) => ∃ (env1 : Nat → Value) (j : Nat) (q : Int) (A : List Leaf), en = (upd (upd (upd (upd env1 0 v) 1 (.int .i64 q)) 4 (.int .i64 0)) 5 (.int .i64 (j : Int))) ∧ k = xss.length - j ∧ Ext (inV us) G w G W ∧ (j ≤ xss.length) ∧ (0 ≤ q ∧ q ≤ kz + 1048576 * (j : Int)) ∧ (kz + tot xss = q + tot (xss.drop j)) ∧ (lvL us (markSS kz xss) = A ++ lvL (us.drop j) (markSS q (xss.drop j))) ∧ (Lvs 3 G W lo hi (A ++ lvL (us.drop j) (xss.drop j))) ∧ (Own eVal 29 G W 0 v (us))) _ ⟨_, 0, kz, [], (packS (x := 5) (packS (x := 4) (packS (x := 1) (pack1 (x := 0) rfl) rfl) rfl) rfl), rfl, hX0, Nat.zero_le _, (by omega), rfl, rfl, hF, ho⟩ ?_
  rintro k1 _ w2 ⟨env1, j, q, A, rfl, hk3, hX4, hj, hq, hqt, hA, hF1, hw5⟩
  refine s_seq ?_
  refine s_seq ?_
  refine c_reg ?_
  refine qd rfl rfl rfl (r_move (v := (.int .i64 (j : Int))) rfl) ?_
  refine qd rfl rfl rfl (r_move (v := v) rfl) ?_
  refine qd rfl rfl rfl (run_len Try.underlying42 (v := v) rfl hw5.read) ?_
  refine qd rfl rfl rfl (r_lss rfl rfl) ?_
  refine qe ?_
  refine s_then ?_
  refine c_ifd (p := ((j : Int) : Int) < (us.length : Int)) rfl rfl (fun h6 => ?_) (fun h6 => ?_)
  · skip
    have hbj := hb _ (mem_getD_of (d := []) (show j < xss.length by omega))
    refine wp_skip ?_
    refine s_then ?_
    refine s_seq ?_
    refine s_blk ?_
    refine c_reg ?_
    refine qd rfl rfl rfl (r_move (v := v) rfl) ?_
    refine qd rfl rfl rfl (r_move (v := (.int .i64 (j : Int))) rfl) ?_
    refine qd rfl rfl rfl (run_idx Try.underlying42 sz29 (v := v) rfl rfl hw5.read (by omega) (by omega)) ?_
    obtain ⟨cs7, hrep8, hagg9, hcell10⟩ := nm_el (j := j) default (hw5.at (z := (j : Int)) (by omega) (by omega)) rfl
    obtain ⟨rfl, hone13⟩ := hrep8
    obtain ⟨u11, hu12⟩ : ∃ u, u = (us.getD j default) := ⟨_, rfl⟩
    refine qd rfl rfl rfl (hcell10 0 u11 (by rw [hu12]; rfl) ag29 rfl (Gadd.pins hX4.pins v)) ?_
    refine qd rfl rfl rfl (r_move (v := (.int .i64 q)) rfl) ?_
    have hmem17 : u11 ∈ us := by rw [hu12]; exact mem_getD_of (by omega)
    have hL18 : Lvs 3 G w2 lo hi (A ++ (u11, xss.getD j []) :: lvL (us.drop (j + 1)) (xss.drop (j + 1))) := by rw [hu12, ← lvL_next default (by omega) (by omega)]; exact hF1
    refine q1 rfl rfl rfl (o_call (vs := [u11, (.int .i64 q)]) Try.func96 nm96 rfl rfl rfl ?_)
    refine Calls.mono (markIntS_spec hX4.pins ((hL18.own _ (List.mem_append_right _ List.mem_cons_self)).weaken (Nat.zero_le _)) (by omega) (hb _ (mem_getD_of (by omega)))) ?_
    rintro _ w14 ⟨rfl, ho15, hx16⟩
    refine ⟨_, rfl, ?_⟩
    have hg20 := mark_grown hx16
    have hX21 := hX4.write hx16.pins hg20 (fun k hk => Or.inr ⟨_, hmem17, hk⟩)
    have ho22 := hw5.keptA hg20 (hav _ hmem17).symm
    have hL19 := Lvs.step hL18 (ho15.up (fun k hk => ((hL18.own _ (List.mem_append_right _ List.mem_cons_self)).lt k hk).1)) hg20
    refine qd rfl rfl rfl (r_assign (v := (.int .i64 (q + ((xss.getD j []).length : Int)))) rfl) ?_
    refine qe ?_
    refine s_blkN ?_
    refine s_then ?_
    refine c_reg ?_
    refine qd rfl rfl rfl (r_move (v := (.int .i64 (j : Int))) rfl) ?_
    refine qd rfl rfl rfl (r_add rfl rfl (by omega)) ?_
    refine qd rfl rfl rfl (r_assign (v := (.int .i64 ((j : Int) + 1))) rfl) ?_
    refine qe ?_
    refine s_lopN ?_
    refine ⟨_, ?_, _, rfl, _, j + 1, q + ((xss.getD j []).length : Int), A ++ [(u11, upL q (xss.getD j []).length)], (packS (x := 5) (packS (x := 4) (packS (x := 1) (pack1 (x := 0) rfl) rfl) rfl) rfl), rfl, hX21, (by omega), (by omega), (hqt.trans (by rw [tot_next (by omega)]; omega)), (hA.trans (by rw [lvL_mark default (by omega) (by omega), List.append_assoc, ← hu12]; rfl)), (by rw [List.append_assoc]; exact hL19), ho22⟩
    omega
  · skip
    refine wp_exit ?_
    refine s_thenE ?_
    refine s_lopE ?_
    refine s_blkE ?_
    refine s_then ?_
    refine s_seq ?_
    refine c_reg ?_
    refine qd rfl rfl rfl (r_move (v := (.int .i64 q)) rfl) ?_
    refine qd rfl rfl rfl (r_assign (v := (.int .i64 q)) rfl) ?_
    refine qe ?_
    refine s_then ?_
    refine wp_ret ?_
    refine s_ret ?_
    refine c_ret1 (v := (.int .i64 q)) rfl rfl rfl ?_
    rw [lvL_end (by omega), List.append_nil] at hA
    rw [lvL_end (by omega), List.append_nil] at hF1
    exact ⟨congrArg (fun z => Ending.returned (Value.int .i64 z)) (by rw [hqt, tot_end (by omega)]; omega), (by rw [hA]; exact hF1), hX4⟩

theorem markLoop_spec {w : World} {G : Pin} {u v : Value} {ls rs : List (List Int)} {kz : Int} {lo hi : Nat} (hP : Pins G w) (hd : DLoop 29 3 G w lo hi u v ls rs) (hsz : hi ≤ w.heap.size) (hk : 0 ≤ kz ∧ kz ≤ 1) (hbL : ∀ x ∈ ls, x.length ≤ 1048576) (hbR : ∀ x ∈ rs, x.length ≤ 1048576) (hnL : ls.length ≤ 1048576) (hnR : rs.length ≤ 1048576) (htL : tot ls ≤ 1099511627774) :
    Calls Try.prog 23 [(.agg [u, v].toArray), (.int .i64 kz)].toArray w fun e w' => e = .returned (.int .i64 (kz + tot ls + tot rs)) ∧ DLoop 29 3 G w' lo hi u v (markSS kz ls) (markSS (kz + tot ls) rs) ∧ Ext (inR lo hi) G w G w' := by
  refine s_enter (n := 14) Try.func23 Try.ntmps23 rfl rfl ?_
  have hX0 : Ext (inR lo hi) G w G w := Ext.refl hP
  have htn := tot_nonneg ls
  refine s_seq ?_
  refine c_reg ?_
  refine q1 rfl rfl rfl (o_box [u, v] (v := (.agg [u, v].toArray)) rfl rfl hX0.pins (fun b1 w2 hk3 hb4 hp5 hl6 => ?_))
  have hX7 := hX0.step hp5 hl6
  have hd8 := hd.below hl6
  have hs9 := Nat.le_trans hsz hl6.size
  have ha10 : hi ≤ b1 ∨ b1 < lo := Or.inl (by have e := Option.some.inj (congrArg some hk3); have := hsz; omega)
  have hlo11 : w.heap.size ≤ b1 := by have := hX0.size; omega
  obtain ⟨G12, hle13, hX14, hbp15, hf16⟩ := hb4.shut hX7 hlo11
  have hd17 := hd8.more hle13 hf16 ha10
  refine qd rfl rfl rfl (r_assign (v := (.int .i64 0)) rfl) ?_
  refine qe ?_
  refine s_then ?_
  refine s_seq ?_
  refine c_reg ?_
  refine qd rfl rfl rfl (r_fldp (k := 0) rfl Try.underlying44 rfl nz42 rfl) ?_
  refine qd rfl rfl rfl (r_ldp1 (u := u) ag42 rfl (hX14.pins _ _ _ (hbp15 0 _ rfl))) ?_
  refine qd rfl rfl rfl (r_move (v := (.int .i64 kz)) rfl) ?_
  obtain ⟨us18, ho19, hl20, hav21, hL22, hin23, hst24⟩ := hd17.markL
  refine q1 rfl rfl rfl (o_call (vs := [u, (.int .i64 kz)]) Try.func59 nm59 rfl rfl rfl ?_)
  refine Calls.mono (markIntSS_spec hX14.pins ho19 hl20 hav21 hL22 (by omega) hbL hnL) ?_
  rintro _ w25 ⟨rfl, hL26, hx27⟩
  refine ⟨_, rfl, ?_⟩
  have hX28 := hX14.trans hx27 (fun i hi => Or.inr (hin23 i hi))
  have hd29 := hst24 (markSS_length _ _) hL26 hx27
  refine qd rfl rfl rfl (r_assign (v := (.int .i64 (kz + tot ls))) rfl) ?_
  refine qe ?_
  refine s_then ?_
  refine s_seq ?_
  refine c_reg ?_
  refine qd rfl rfl rfl (r_fldp (k := 1) rfl Try.underlying44 rfl nz42 rfl) ?_
  refine qd rfl rfl rfl (r_ldp1 (u := v) ag42 rfl (hX28.pins _ _ _ (hbp15 1 _ rfl))) ?_
  refine qd rfl rfl rfl (r_move (v := (.int .i64 (kz + tot ls))) rfl) ?_
  obtain ⟨us30, ho31, hl32, hav33, hL34, hin35, hst36⟩ := hd29.markR
  refine q1 rfl rfl rfl (o_call (vs := [v, (.int .i64 (kz + tot ls))]) Try.func59 nm59 rfl rfl rfl ?_)
  refine Calls.mono (markIntSS_spec hX28.pins ho31 hl32 hav33 hL34 (by omega) hbR hnR) ?_
  rintro _ w37 ⟨rfl, hL38, hx39⟩
  refine ⟨_, rfl, ?_⟩
  have hX40 := hX28.trans hx39 (fun i hi => Or.inr (hin35 i hi))
  have hd41 := hst36 (markSS_length _ _) hL38 hx39
  refine qd rfl rfl rfl (r_assign (v := (.int .i64 ((kz + tot ls) + tot rs))) rfl) ?_
  refine qe ?_
  refine s_then ?_
  refine s_seq ?_
  refine c_reg ?_
  refine qd rfl rfl rfl (r_move (v := (.int .i64 ((kz + tot ls) + tot rs))) rfl) ?_
  refine qd rfl rfl rfl (r_assign (v := (.int .i64 ((kz + tot ls) + tot rs))) rfl) ?_
  refine qe ?_
  refine s_then ?_
  refine wp_ret ?_
  refine s_ret ?_
  refine c_ret1 (v := (.int .i64 ((kz + tot ls) + tot rs))) rfl rfl rfl ?_
  exact ⟨rfl, hd41.anti hle13, hX40.shrink⟩

theorem heldIntS_spec {w : World} {G : Pin} {v : Value} {kz : Int} {n : Nat} (hP : Pins G w) (hv : RSl eInt G v (upL kz n)) (hk : 0 ≤ kz ∧ kz ≤ 4503599627370496) (hn : n ≤ 1048576) :
    Calls Try.prog 97 [v, (.int .i64 kz)].toArray w fun e w' => e = .returned (.int .i64 (kz + n)) ∧ w' = w := by
  refine s_enter (n := 21) Try.func97 Try.ntmps97 rfl rfl ?_
  have hX0 : Ext noS G w G w := Ext.refl hP
  have hul := upL_length kz n
  refine s_seq ?_
  refine c_reg ?_
  refine qd rfl rfl rfl (r_assign (v := (.int .i64 0)) rfl) ?_
  refine qe ?_
  refine s_then ?_
  refine s_seq ?_
  refine s_seq ?_
  refine c_reg ?_
  refine qd rfl rfl rfl (r_assign (v := (.int .i64 0)) rfl) ?_
  refine qe ?_
  refine s_then ?_
  refine s_blk ?_
  refine s_loop (fun (k : Nat) (en : Nat → Value) (W : World) => ∃ (env1 : Nat → Value) (j : Nat) (q : Int), en = (upd (upd (upd env1 0 v) 1 (.int .i64 q)) 5 (.int .i64 (j : Int))) ∧ k = n - j ∧ Ext noS G w G W ∧ (j ≤ n) ∧ (W = w) ∧ (q = kz + (j : Int))) _ ⟨_, 0, kz, (packS (x := 5) (packS (x := 1) (pack1 (x := 0) rfl) rfl) rfl), rfl, hX0, Nat.zero_le _, rfl, (by omega)⟩ ?_
  rintro k1 _ w2 ⟨env1, j, q, rfl, hk3, hX4, hj, hw, hq⟩
  subst hw
  refine s_seq ?_
  refine s_seq ?_
  refine c_reg ?_
  refine qd rfl rfl rfl (r_move (v := (.int .i64 (j : Int))) rfl) ?_
  refine qd rfl rfl rfl (r_move (v := v) rfl) ?_
  refine qd rfl rfl rfl (run_len Try.underlying29 (v := v) rfl hv) ?_
  refine qd rfl rfl rfl (r_lss rfl rfl) ?_
  refine qe ?_
  refine s_then ?_
  refine c_ifd (p := ((j : Int) : Int) < ((upL kz n).length : Int)) rfl rfl (fun h5 => ?_) (fun h5 => ?_)
  · skip
    have hge := upL_getD (k := kz) (n := n) (j := j) (by omega)
    refine wp_skip ?_
    refine s_then ?_
    refine s_seq ?_
    refine s_blk ?_
    refine s_seq ?_
    refine s_seq ?_
    refine c_reg ?_
    refine qd rfl rfl rfl (r_move (v := v) rfl) ?_
    refine qd rfl rfl rfl (r_move (v := (.int .i64 (j : Int))) rfl) ?_
    refine qd rfl rfl rfl (run_idx Try.underlying29 sz3 (v := v) rfl rfl hv (by omega) (by omega)) ?_
    refine qd rfl rfl rfl (run_load_int (r := (upL kz n).getD j 0) rfl ag3 (z := (j : Int)) rfl hv hX4.pins (by omega) (by omega)) ?_
    refine qd rfl rfl rfl (r_move (v := (.int .i64 q)) rfl) ?_
    refine qd rfl rfl rfl (r_neq rfl rfl) ?_
    refine qe ?_
    refine s_then ?_
    refine c_ifd (p := ((upL kz n).getD j 0 : Int) ≠ q) rfl rfl (fun h6 => ?_) (fun h6 => ?_)
    · skip
      refine s_seq ?_
      refine c_reg ?_
      refine qd rfl rfl rfl (r_assign (v := (.int .i64 (-1))) rfl) ?_
      refine qe ?_
      refine s_then ?_
      refine wp_ret ?_
      refine s_ret ?_
      refine c_ret1 (v := (.int .i64 (-1))) rfl rfl rfl ?_
      exact absurd (by rw [hge, hq]) h6
    · skip
      refine wp_skip ?_
      refine s_then ?_
      refine c_reg ?_
      refine qd rfl rfl rfl (r_move (v := (.int .i64 q)) rfl) ?_
      refine qd rfl rfl rfl (r_add rfl rfl (by omega)) ?_
      refine qd rfl rfl rfl (r_assign (v := (.int .i64 (q + 1))) rfl) ?_
      refine qe ?_
      refine s_blkN ?_
      refine s_then ?_
      refine c_reg ?_
      refine qd rfl rfl rfl (r_move (v := (.int .i64 (j : Int))) rfl) ?_
      refine qd rfl rfl rfl (r_add rfl rfl (by omega)) ?_
      refine qd rfl rfl rfl (r_assign (v := (.int .i64 ((j : Int) + 1))) rfl) ?_
      refine qe ?_
      refine s_lopN ?_
      refine ⟨_, ?_, _, rfl, _, j + 1, q + 1, (packS (x := 5) (packS (x := 1) (pack1 (x := 0) rfl) rfl) rfl), rfl, hX4, (by omega), rfl, (by omega)⟩
      omega
  · skip
    refine wp_exit ?_
    refine s_thenE ?_
    refine s_lopE ?_
    refine s_blkE ?_
    refine s_then ?_
    refine s_seq ?_
    refine c_reg ?_
    refine qd rfl rfl rfl (r_move (v := (.int .i64 q)) rfl) ?_
    refine qd rfl rfl rfl (r_assign (v := (.int .i64 q)) rfl) ?_
    refine qe ?_
    refine s_then ?_
    refine wp_ret ?_
    refine s_ret ?_
    refine c_ret1 (v := (.int .i64 q)) rfl rfl rfl ?_
    exact ⟨congrArg (fun z => Ending.returned (Value.int .i64 z)) (by omega), rfl⟩

theorem heldIntSS_spec {w : World} {G : Pin} {v : Value} {xss : List (List Int)} {kz : Int} (hP : Pins G w) (hv : RSl (eSl eInt) G v (markSS kz xss)) (hk : 0 ≤ kz ∧ kz ≤ 1099511627776) (hb : ∀ x ∈ xss, x.length ≤ 1048576) (hn : xss.length ≤ 1048576) :
    Calls Try.prog 60 [v, (.int .i64 kz)].toArray w fun e w' => e = .returned (.int .i64 (kz + tot xss)) ∧ w' = w := by
  refine s_enter (n := 21) Try.func60 Try.ntmps60 rfl rfl ?_
  have hX0 : Ext noS G w G w := Ext.refl hP
  have hul := markSS_length kz xss
  refine s_seq ?_
  refine c_reg ?_
  refine qd rfl rfl rfl (r_assign (v := (.int .i64 0)) rfl) ?_
  refine qe ?_
  refine s_then ?_
  refine s_seq ?_
  refine s_seq ?_
  refine c_reg ?_
  refine qd rfl rfl rfl (r_assign (v := (.int .i64 0)) rfl) ?_
  refine qe ?_
  refine s_then ?_
  refine s_blk ?_
  refine s_loop (fun (k : Nat) (en : Nat → Value) (W : World) => ∃ (env1 : Nat → Value) (j : Nat) (q : Int), en = (upd (upd (upd env1 0 v) 1 (.int .i64 q)) 5 (.int .i64 (j : Int))) ∧ k = xss.length - j ∧ Ext noS G w G W ∧ (j ≤ xss.length) ∧ (W = w) ∧ (0 ≤ q ∧ q ≤ kz + 1048576 * (j : Int)) ∧ (kz + tot xss = q + tot (xss.drop j)) ∧ (markSS kz xss).drop j = markSS q (xss.drop j)) _ ⟨_, 0, kz, (packS (x := 5) (packS (x := 1) (pack1 (x := 0) rfl) rfl) rfl), rfl, hX0, Nat.zero_le _, rfl, (by omega), rfl, rfl⟩ ?_
  rintro k1 _ w2 ⟨env1, j, q, rfl, hk3, hX4, hj, hw, hq, hqt, hA⟩
  subst hw
  refine s_seq ?_
  refine s_seq ?_
  refine c_reg ?_
  refine qd rfl rfl rfl (r_move (v := (.int .i64 (j : Int))) rfl) ?_
  refine qd rfl rfl rfl (r_move (v := v) rfl) ?_
  refine qd rfl rfl rfl (run_len Try.underlying42 (v := v) rfl hv) ?_
  refine qd rfl rfl rfl (r_lss rfl rfl) ?_
  refine qe ?_
  refine s_then ?_
  refine c_ifd (p := ((j : Int) : Int) < ((markSS kz xss).length : Int)) rfl rfl (fun h5 => ?_) (fun h5 => ?_)
  · skip
    have hbj := hb _ (mem_getD_of (d := []) (show j < xss.length by omega))
    have hAj : (markSS kz xss).getD j [] :: (markSS kz xss).drop (j + 1) = upL q (xss.getD j []).length :: markSS (q + ((xss.getD j []).length : Int)) (xss.drop (j + 1)) := by rw [← drop_getD (markSS kz xss) [] (by omega), hA, markSS_next (by omega)]
    have hge : (markSS kz xss).getD j [] = upL q (xss.getD j []).length := (List.cons.inj hAj).1
    refine wp_skip ?_
    refine s_then ?_
    refine s_seq ?_
    refine s_blk ?_
    refine s_seq ?_
    refine c_reg ?_
    refine qd rfl rfl rfl (r_move (v := v) rfl) ?_
    refine qd rfl rfl rfl (r_move (v := (.int .i64 (j : Int))) rfl) ?_
    refine qd rfl rfl rfl (run_idx Try.underlying42 sz29 (v := v) rfl rfl hv (by omega) (by omega)) ?_
    obtain ⟨u6, hr7, hl8⟩ := nm_sl (hv.at (z := (j : Int)) (by omega) (by omega)) (j := j) rfl
    have hm9 := hr7.max
    refine qd rfl rfl rfl (hl8 ag29 rfl hX4.pins) ?_
    refine qd rfl rfl rfl (r_move (v := (.int .i64 q)) rfl) ?_
    refine q1 rfl rfl rfl (o_call (vs := [u6, (.int .i64 q)]) Try.func97 nm97 rfl rfl rfl ?_)
    refine Calls.mono (heldIntS_spec (n := (xss.getD j []).length) hX4.pins (by rw [← hge]; exact hr7) (by omega) hbj) ?_
    rintro _ _ ⟨rfl, rfl⟩
    refine ⟨_, rfl, ?_⟩
    refine qd rfl rfl rfl (r_assign (v := (.int .i64 (q + (((xss.getD j []).length : Int) : Int)))) rfl) ?_
    refine qe ?_
    refine s_then ?_
    refine s_seq ?_
    refine c_reg ?_
    refine qd rfl rfl rfl (r_move (v := (.int .i64 (q + (((xss.getD j []).length : Int) : Int)))) rfl) ?_
    refine qd rfl rfl rfl (r_lss rfl rfl) ?_
    refine qe ?_
    refine s_then ?_
    refine c_ifd (p := (q + (((xss.getD j []).length : Int) : Int) : Int) < 0) rfl rfl (fun h10 => ?_) (fun h10 => ?_)
    · skip
      refine s_seq ?_
      refine c_reg ?_
      refine qd rfl rfl rfl (r_assign (v := (.int .i64 (-1))) rfl) ?_
      refine qe ?_
      refine s_then ?_
      refine wp_ret ?_
      refine s_ret ?_
      refine c_ret1 (v := (.int .i64 (-1))) rfl rfl rfl ?_
      exact absurd h10 (by omega)
    · skip
      refine wp_skip ?_
      refine s_blkN ?_
      refine s_then ?_
      refine c_reg ?_
      refine qd rfl rfl rfl (r_move (v := (.int .i64 (j : Int))) rfl) ?_
      refine qd rfl rfl rfl (r_add rfl rfl (by omega)) ?_
      refine qd rfl rfl rfl (r_assign (v := (.int .i64 ((j : Int) + 1))) rfl) ?_
      refine qe ?_
      refine s_lopN ?_
      refine ⟨_, ?_, _, rfl, _, j + 1, q + (((xss.getD j []).length : Int) : Int), (packS (x := 5) (packS (x := 1) (pack1 (x := 0) rfl) rfl) rfl), rfl, hX4, (by omega), rfl, (by omega), (hqt.trans (by rw [tot_next (by omega)]; omega)), ((List.cons.inj hAj).2)⟩
      omega
  · skip
    refine wp_exit ?_
    refine s_thenE ?_
    refine s_lopE ?_
    refine s_blkE ?_
    refine s_then ?_
    refine s_seq ?_
    refine c_reg ?_
    refine qd rfl rfl rfl (r_move (v := (.int .i64 q)) rfl) ?_
    refine qd rfl rfl rfl (r_assign (v := (.int .i64 q)) rfl) ?_
    refine qe ?_
    refine s_then ?_
    refine wp_ret ?_
    refine s_ret ?_
    refine c_ret1 (v := (.int .i64 q)) rfl rfl rfl ?_
    exact ⟨congrArg (fun z => Ending.returned (Value.int .i64 z)) (by rw [hqt, tot_end (by omega)]; omega), rfl⟩

theorem heldLoop_spec {w : World} {G : Pin} {u v : Value} {ls rs : List (List Int)} {kz : Int} (hP : Pins G w) (hu : RSl (eSl eInt) G u (markSS kz ls)) (hv : RSl (eSl eInt) G v (markSS (kz + tot ls) rs)) (hk : 0 ≤ kz ∧ kz ≤ 1) (hbL : ∀ x ∈ ls, x.length ≤ 1048576) (hbR : ∀ x ∈ rs, x.length ≤ 1048576) (hnL : ls.length ≤ 1048576) (hnR : rs.length ≤ 1048576) (htL : tot ls ≤ 1099511627774) :
    Calls Try.prog 24 [(.agg [u, v].toArray), (.int .i64 kz)].toArray w fun e w' => ∃ G', e = .returned (.int .i64 (kz + tot ls + tot rs)) ∧ Ext noS G w G' w' := by
  refine s_enter (n := 18) Try.func24 Try.ntmps24 rfl rfl ?_
  have hX0 : Ext noS G w G w := Ext.refl hP
  have htn := tot_nonneg ls
  have htr := tot_nonneg rs
  refine s_seq ?_
  refine c_reg ?_
  refine q1 rfl rfl rfl (o_box [u, v] (v := (.agg [u, v].toArray)) rfl rfl hX0.pins (fun b1 w2 hk3 hb4 hp5 hl6 => ?_))
  have hX7 := hX0.step hp5 hl6
  have hlo8 : w.heap.size ≤ b1 := by have := hX0.size; omega
  obtain ⟨G9, hle10, hX11, hbp12, hf13⟩ := hb4.shut hX7 hlo8
  refine qd rfl rfl rfl (r_assign (v := (.int .i64 0)) rfl) ?_
  refine qe ?_
  refine s_then ?_
  refine s_seq ?_
  refine c_reg ?_
  refine qd rfl rfl rfl (r_fldp (k := 0) rfl Try.underlying44 rfl nz42 rfl) ?_
  refine qd rfl rfl rfl (r_ldp1 (u := u) ag42 rfl (hX11.pins _ _ _ (hbp12 0 _ rfl))) ?_
  refine qd rfl rfl rfl (r_move (v := (.int .i64 kz)) rfl) ?_
  refine q1 rfl rfl rfl (o_call (vs := [u, (.int .i64 kz)]) Try.func60 nm60 rfl rfl rfl ?_)
  refine Calls.mono (heldIntSS_spec hX11.pins (hu.mono hle10) (by omega) hbL hnL) ?_
  rintro _ _ ⟨rfl, rfl⟩
  refine ⟨_, rfl, ?_⟩
  refine qd rfl rfl rfl (r_assign (v := (.int .i64 (kz + tot ls))) rfl) ?_
  refine qe ?_
  refine s_then ?_
  refine s_seq ?_
  refine s_seq ?_
  refine c_reg ?_
  refine qd rfl rfl rfl (r_move (v := (.int .i64 (kz + tot ls))) rfl) ?_
  refine qd rfl rfl rfl (r_lss rfl rfl) ?_
  refine qe ?_
  refine s_then ?_
  refine c_ifd (p := (kz + tot ls : Int) < 0) rfl rfl (fun h14 => ?_) (fun h14 => ?_)
  · skip
    refine s_seq ?_
    refine c_reg ?_
    refine qd rfl rfl rfl (r_assign (v := (.int .i64 (-1))) rfl) ?_
    refine qe ?_
    refine s_then ?_
    refine wp_ret ?_
    refine s_ret ?_
    refine c_ret1 (v := (.int .i64 (-1))) rfl rfl rfl ?_
    exact absurd h14 (by omega)
  · skip
    refine wp_skip ?_
    refine s_then ?_
    refine s_seq ?_
    refine c_reg ?_
    refine qd rfl rfl rfl (r_fldp (k := 1) rfl Try.underlying44 rfl nz42 rfl) ?_
    refine qd rfl rfl rfl (r_ldp1 (u := v) ag42 rfl (hX11.pins _ _ _ (hbp12 1 _ rfl))) ?_
    refine qd rfl rfl rfl (r_move (v := (.int .i64 (kz + tot ls))) rfl) ?_
    refine q1 rfl rfl rfl (o_call (vs := [v, (.int .i64 (kz + tot ls))]) Try.func60 nm60 rfl rfl rfl ?_)
    refine Calls.mono (heldIntSS_spec hX11.pins (hv.mono hle10) (by omega) hbR hnR) ?_
    rintro _ _ ⟨rfl, rfl⟩
    refine ⟨_, rfl, ?_⟩
    refine qd rfl rfl rfl (r_assign (v := (.int .i64 ((kz + tot ls) + tot rs))) rfl) ?_
    refine qe ?_
    refine s_then ?_
    refine s_seq ?_
    refine s_seq ?_
    refine c_reg ?_
    refine qd rfl rfl rfl (r_move (v := (.int .i64 ((kz + tot ls) + tot rs))) rfl) ?_
    refine qd rfl rfl rfl (r_lss rfl rfl) ?_
    refine qe ?_
    refine s_then ?_
    refine c_ifd (p := ((kz + tot ls) + tot rs : Int) < 0) rfl rfl (fun h15 => ?_) (fun h15 => ?_)
    · skip
      refine s_seq ?_
      refine c_reg ?_
      refine qd rfl rfl rfl (r_assign (v := (.int .i64 (-1))) rfl) ?_
      refine qe ?_
      refine s_then ?_
      refine wp_ret ?_
      refine s_ret ?_
      refine c_ret1 (v := (.int .i64 (-1))) rfl rfl rfl ?_
      exact absurd h15 (by omega)
    · skip
      refine wp_skip ?_
      refine s_then ?_
      refine s_seq ?_
      refine c_reg ?_
      refine qd rfl rfl rfl (r_move (v := (.int .i64 ((kz + tot ls) + tot rs))) rfl) ?_
      refine qd rfl rfl rfl (r_assign (v := (.int .i64 ((kz + tot ls) + tot rs))) rfl) ?_
      refine qe ?_
      refine s_then ?_
      refine wp_ret ?_
      refine s_ret ?_
      refine c_ret1 (v := (.int .i64 ((kz + tot ls) + tot rs))) rfl rfl rfl ?_
      exact ⟨_, rfl, hX11⟩

theorem eqIntSS_spec {w : World} {G : Pin} {u v : Value} {xs ys : List (List Int)} (hP : Pins G w) (hu : RSl (eSl eInt) G u xs) (hv : RSl (eSl eInt) G v ys) :
    Calls Try.prog 56 [u, v].toArray w fun e w' => ∃ G', e = .returned (.bool (decide (xs = ys))) ∧ Ext noS G w G' w' := by
  refine s_enter (n := 27) Try.func56 Try.ntmps56 rfl rfl ?_
  have hX0 : Ext noS G w G w := Ext.refl hP
  have hm := hu.max
  refine s_seq ?_
  refine c_reg ?_
  refine qd rfl rfl rfl (r_assign (v := (.bool false)) rfl) ?_
  refine qe ?_
  refine s_then ?_
  refine s_seq ?_
  refine s_seq ?_
  refine c_reg ?_
  refine qd rfl rfl rfl (r_move (v := u) rfl) ?_
  refine qd rfl rfl rfl (run_len Try.underlying42 (v := u) rfl hu) ?_
  refine qd rfl rfl rfl (r_move (v := v) rfl) ?_
  refine qd rfl rfl rfl (run_len Try.underlying42 (v := v) rfl hv) ?_
  refine qd rfl rfl rfl (r_neq rfl rfl) ?_
  refine qe ?_
  refine s_then ?_
  refine c_ifd (p := ((xs.length : Int) : Int) ≠ (ys.length : Int)) rfl rfl (fun h1 => ?_) (fun h1 => ?_)
  · skip
    refine s_seq ?_
    refine c_reg ?_
    refine qd rfl rfl rfl (r_assign (v := (.bool false)) rfl) ?_
    refine qe ?_
    refine s_then ?_
    refine wp_ret ?_
    refine s_ret ?_
    refine c_ret1 (v := (.bool false)) rfl rfl rfl ?_
    exact ⟨_, congrArg (fun z => Ending.returned (Value.bool z)) (decide_eq_false (fun e => h1 (by rw [e]))).symm, hX0⟩
  · skip
    refine wp_skip ?_
    refine s_then ?_
    refine s_seq ?_
    refine s_seq ?_
    refine c_reg ?_
    refine qd rfl rfl rfl (r_assign (v := (.int .i64 0)) rfl) ?_
    refine qe ?_
    refine s_then ?_
    refine s_blk ?_
    refine s_loop (fun (k : Nat) (en : Nat → Value) (W : World) => ∃ (env1 : Nat → Value) (j : Nat) (GL1 : Pin), en = (upd (upd (upd env1 0 u) 1 v) 5 (.int .i64 (j : Int))) ∧ k = xs.length - j ∧ Ext noS G w GL1 W ∧ Pin.le G GL1 ∧ (j ≤ xs.length) ∧ (xs.length = ys.length) ∧ (∀ i, i < j → xs.getD i [] = ys.getD i [])) _ ⟨_, 0, G, (packS (x := 5) (packS (x := 1) (pack1 (x := 0) rfl) rfl) rfl), rfl, hX0, Pin.le_refl _, Nat.zero_le _, (by omega), (fun i hi => absurd hi (Nat.not_lt_zero i))⟩ ?_
    rintro k2 _ w3 ⟨env1, j, GL1, rfl, hk4, hX5, hlek2, hj, heq, hp⟩
    refine s_seq ?_
    refine s_seq ?_
    refine c_reg ?_
    refine qd rfl rfl rfl (r_move (v := (.int .i64 (j : Int))) rfl) ?_
    refine qd rfl rfl rfl (r_move (v := u) rfl) ?_
    refine qd rfl rfl rfl (run_len Try.underlying42 (v := u) rfl hu) ?_
    refine qd rfl rfl rfl (r_lss rfl rfl) ?_
    refine qe ?_
    refine s_then ?_
    refine c_ifd (p := ((j : Int) : Int) < (xs.length : Int)) rfl rfl (fun h6 => ?_) (fun h6 => ?_)
    · skip
      refine wp_skip ?_
      refine s_then ?_
      refine s_seq ?_
      refine s_blk ?_
      refine s_seq ?_
      refine c_draw (S := fun w => Pins GL1 w) (last := 10) (by kernel_rfl) rfl ?_
      have hl7 : Below w3.heap.size w3 w3.drew := (Below.refl _ _).drew
      have hp8 := hX5.pins.below hl7
      have hX9 := hX5.step hp8 hl7
      refine dr_take (i := 0) rfl rfl rfl (want_none rfl _) (by kernel_rfl) (fun _ _ => r_move (v := u) rfl) hX9.pins ?_
      refine dr_take (i := 1) rfl rfl rfl (want_none rfl _) (by kernel_rfl) (fun _ _ => r_move (v := (.int .i64 (j : Int))) rfl) hX9.pins ?_
      refine dr_take (i := 2) rfl rfl rfl (want_none rfl _) (by kernel_rfl) (fun _ _ => run_idx Try.underlying42 sz29 (v := u) rfl rfl hu (by omega) (by omega)) hX9.pins ?_
      obtain ⟨u10, hr11, hl12⟩ := nm_sl (hu.at (z := (j : Int)) (by omega) (by omega)) (j := j) rfl
      have hm13 := hr11.max
      refine dr_take (i := 3) rfl rfl rfl (want_none rfl _) (by kernel_rfl) (fun _ hS => hl12 ag29 rfl (Pins.of_le hS hlek2)) hX9.pins ?_
      refine dr_take (i := 4) rfl rfl rfl (want_none rfl _) (by kernel_rfl) (fun _ _ => r_move (v := v) rfl) hX9.pins ?_
      refine dr_take (i := 5) rfl rfl rfl (want_none rfl _) (by kernel_rfl) (fun _ _ => r_move (v := (.int .i64 (j : Int))) rfl) hX9.pins ?_
      refine dr_take (i := 6) rfl rfl rfl (want_none rfl _) (by kernel_rfl) (fun _ _ => run_idx Try.underlying42 sz29 (v := v) rfl rfl hv (by omega) (by omega)) hX9.pins ?_
      obtain ⟨u14, hr15, hl16⟩ := nm_sl (hv.at (z := (j : Int)) (by omega) (by omega)) (j := j) rfl
      have hm17 := hr15.max
      refine dr_take (i := 7) rfl rfl rfl (want_none rfl _) (by kernel_rfl) (fun _ hS => hl16 ag29 rfl (Pins.of_le hS hlek2)) hX9.pins ?_
      refine dr_one (i := 8) (by kernel_rfl) (drOp1 (i := 8) rfl rfl rfl (want_none rfl _) (o_call (vs := [u10, u14]) Try.func94 nm94 rfl rfl rfl ?_))
      refine Calls.mono (eqIntS_spec hX9.pins (hr11.mono hlek2) (hr15.mono hlek2)) ?_
      rintro _ w18 ⟨rfl, hx19⟩
      refine ⟨_, rfl, ?_⟩
      have hX20 := hX9.step hx19.pins hx19.below
      refine ⟨fun _ => hX20.pins, ?_⟩
      refine dr_take (i := 9) rfl rfl rfl (want_none rfl _) (by kernel_rfl) (fun _ _ => r_not rfl) hX20.pins ?_
      refine dr_end (by kernel_rfl) ?_
      refine s_then ?_
      refine c_ifn rfl rfl (fun h21 => ?_) (fun h21 => ?_)
      · skip
        replace h21 := of_decide_eq_true h21
        refine wp_skip ?_
        refine s_blkN ?_
        refine s_then ?_
        refine c_reg ?_
        refine qd rfl rfl rfl (r_move (v := (.int .i64 (j : Int))) rfl) ?_
        refine qd rfl rfl rfl (r_add rfl rfl (by omega)) ?_
        refine qd rfl rfl rfl (r_assign (v := (.int .i64 ((j : Int) + 1))) rfl) ?_
        refine qe ?_
        refine s_lopN ?_
        refine ⟨_, ?_, _, rfl, _, j + 1, GL1, (packS (x := 5) (packS (x := 1) (pack1 (x := 0) rfl) rfl) rfl), rfl, hX20, hlek2, (by omega), heq, (eqstepG hp h21)⟩
        omega
      · skip
        replace h21 := of_decide_eq_false h21
        refine s_seq ?_
        refine c_reg ?_
        refine qd rfl rfl rfl (r_assign (v := (.bool false)) rfl) ?_
        refine qe ?_
        refine s_then ?_
        refine wp_ret ?_
        refine s_ret ?_
        refine c_ret1 (v := (.bool false)) rfl rfl rfl ?_
        exact ⟨_, congrArg (fun z => Ending.returned (Value.bool z)) (decide_eq_false (fun e => h21 (by rw [e]))).symm, hX20⟩
    · skip
      refine wp_exit ?_
      refine s_thenE ?_
      refine s_lopE ?_
      refine s_blkE ?_
      refine s_then ?_
      refine s_seq ?_
      refine c_reg ?_
      refine qd rfl rfl rfl (r_assign (v := (.bool true)) rfl) ?_
      refine qe ?_
      refine s_then ?_
      refine wp_ret ?_
      refine s_ret ?_
      refine c_ret1 (v := (.bool true)) rfl rfl rfl ?_
      exact ⟨_, congrArg (fun z => Ending.returned (Value.bool z)) (decide_eq_true (eqdoneG heq (by omega) hp)).symm, hX5⟩

theorem eqLoop_spec {w : World} {G : Pin} {u v x y : Value} {a b c d : List (List Int)} (hP : Pins G w) (hu : RSl (eSl eInt) G u a) (hv : RSl (eSl eInt) G v b) (hx : RSl (eSl eInt) G x c) (hy : RSl (eSl eInt) G y d) :
    Calls Try.prog 20 [(.agg [u, v].toArray), (.agg [x, y].toArray)].toArray w fun e w' => ∃ G', e = .returned (.bool (decide (a = c ∧ b = d))) ∧ Ext noS G w G' w' := by
  refine s_enter (n := 17) Try.func20 Try.ntmps20 rfl rfl ?_
  have hX0 : Ext noS G w G w := Ext.refl hP
  refine s_seq ?_
  refine c_reg ?_
  refine q1 rfl rfl rfl (o_box [u, v] (v := (.agg [u, v].toArray)) rfl rfl hX0.pins (fun b1 w2 hk3 hb4 hp5 hl6 => ?_))
  have hX7 := hX0.step hp5 hl6
  have hlo8 : w.heap.size ≤ b1 := by have := hX0.size; omega
  obtain ⟨G9, hle10, hX11, hbp12, hf13⟩ := hb4.shut hX7 hlo8
  refine q1 rfl rfl rfl (o_box [x, y] (v := (.agg [x, y].toArray)) rfl rfl hX11.pins (fun b14 w15 hk16 hb17 hp18 hl19 => ?_))
  have hX20 := hX11.step hp18 hl19
  have hlo21 : w.heap.size ≤ b14 := by have := hX11.size; omega
  obtain ⟨G22, hle23, hX24, hbp25, hf26⟩ := hb17.shut hX20 hlo21
  refine qd rfl rfl rfl (r_assign (v := (.bool false)) rfl) ?_
  refine qe ?_
  refine s_then ?_
  refine s_seq ?_
  refine s_seq ?_
  refine c_reg ?_
  refine qd rfl rfl rfl (r_fldp (k := 0) rfl Try.underlying44 rfl nz42 rfl) ?_
  refine qd rfl rfl rfl (r_ldp1 (u := u) ag42 rfl ((Pins.of_le hX24.pins hle23) _ _ _ (hbp12 0 _ rfl))) ?_
  refine qd rfl rfl rfl (r_fldp (k := 0) rfl Try.underlying44 rfl nz42 rfl) ?_
  refine qd rfl rfl rfl (r_ldp1 (u := x) ag42 rfl (hX24.pins _ _ _ (hbp25 0 _ rfl))) ?_
  refine q1 rfl rfl rfl (o_call (vs := [u, x]) Try.func56 nm56 rfl rfl rfl ?_)
  refine Calls.mono (eqIntSS_spec hX24.pins (hu.mono (Pin.le_trans hle10 hle23)) (hx.mono (Pin.le_trans hle10 hle23))) ?_
  rintro _ w28 ⟨G27, rfl, hx29⟩
  refine ⟨_, rfl, ?_⟩
  have hX30 := hX24.tr hx29
  refine qd rfl rfl rfl (r_not rfl) ?_
  refine qe ?_
  refine s_then ?_
  refine c_ifn rfl rfl (fun h31 => ?_) (fun h31 => ?_)
  · skip
    replace h31 := of_decide_eq_true h31
    refine wp_skip ?_
    refine s_then ?_
    refine s_seq ?_
    refine s_seq ?_
    refine c_reg ?_
    refine qd rfl rfl rfl (r_fldp (k := 1) rfl Try.underlying44 rfl nz42 rfl) ?_
    refine qd rfl rfl rfl (r_ldp1 (u := v) ag42 rfl ((Pins.of_le hX30.pins (Pin.le_trans hle23 hx29.le)) _ _ _ (hbp12 1 _ rfl))) ?_
    refine qd rfl rfl rfl (r_fldp (k := 1) rfl Try.underlying44 rfl nz42 rfl) ?_
    refine qd rfl rfl rfl (r_ldp1 (u := y) ag42 rfl ((Pins.of_le hX30.pins hx29.le) _ _ _ (hbp25 1 _ rfl))) ?_
    refine q1 rfl rfl rfl (o_call (vs := [v, y]) Try.func56 nm56 rfl rfl rfl ?_)
    refine Calls.mono (eqIntSS_spec hX30.pins (hv.mono (Pin.le_trans (Pin.le_trans hle10 hle23) hx29.le)) (hy.mono (Pin.le_trans (Pin.le_trans hle10 hle23) hx29.le))) ?_
    rintro _ w33 ⟨G32, rfl, hx34⟩
    refine ⟨_, rfl, ?_⟩
    have hX35 := hX30.tr hx34
    refine qd rfl rfl rfl (r_not rfl) ?_
    refine qe ?_
    refine s_then ?_
    refine c_ifn rfl rfl (fun h36 => ?_) (fun h36 => ?_)
    · skip
      replace h36 := of_decide_eq_true h36
      refine wp_skip ?_
      refine s_then ?_
      refine s_seq ?_
      refine c_reg ?_
      refine qd rfl rfl rfl (r_assign (v := (.bool true)) rfl) ?_
      refine qe ?_
      refine s_then ?_
      refine wp_ret ?_
      refine s_ret ?_
      refine c_ret1 (v := (.bool true)) rfl rfl rfl ?_
      exact ⟨_, congrArg (fun z => Ending.returned (Value.bool z)) (decide_eq_true ⟨h31, h36⟩).symm, hX35⟩
    · skip
      replace h36 := of_decide_eq_false h36
      refine s_seq ?_
      refine c_reg ?_
      refine qd rfl rfl rfl (r_assign (v := (.bool false)) rfl) ?_
      refine qe ?_
      refine s_then ?_
      refine wp_ret ?_
      refine s_ret ?_
      refine c_ret1 (v := (.bool false)) rfl rfl rfl ?_
      exact ⟨_, congrArg (fun z => Ending.returned (Value.bool z)) (decide_eq_false (fun e => h36 e.2)).symm, hX35⟩
  · skip
    replace h31 := of_decide_eq_false h31
    refine s_seq ?_
    refine c_reg ?_
    refine qd rfl rfl rfl (r_assign (v := (.bool false)) rfl) ?_
    refine qe ?_
    refine s_then ?_
    refine wp_ret ?_
    refine s_ret ?_
    refine c_ret1 (v := (.bool false)) rfl rfl rfl ?_
    exact ⟨_, congrArg (fun z => Ending.returned (Value.bool z)) (decide_eq_false (fun e => h31 e.1)).symm, hX30⟩

theorem sGoodForm_spec {w : World} {G : Pin} {v : Value} {ns : List Nd} (hP : Pins G w) (hv : RSl eNode G v ns) :
    Calls Try.prog 53 [(.agg [v].toArray)].toArray w fun e w' => ∃ G', e = .returned (.bool (decP (GoodS ns))) ∧ Ext noS G w G' w' := by
  refine s_enter (n := 5) Try.func53 Try.ntmps53 rfl rfl ?_
  have hX0 : Ext noS G w G w := Ext.refl hP
  refine s_seq ?_
  refine c_reg ?_
  refine q1 rfl rfl rfl (o_box [v] (v := (.agg [v].toArray)) rfl rfl hX0.pins (fun b1 w2 hk3 hb4 hp5 hl6 => ?_))
  have hX7 := hX0.step hp5 hl6
  have hlo8 : w.heap.size ≤ b1 := by have := hX0.size; omega
  obtain ⟨G9, hle10, hX11, hbp12, hf13⟩ := hb4.shut hX7 hlo8
  refine qd rfl rfl rfl (r_assign (v := (.bool false)) rfl) ?_
  refine qe ?_
  refine s_then ?_
  refine s_seq ?_
  refine c_reg ?_
  refine qd rfl rfl rfl (r_ldpA (cs := [v]) ag26 sz26 rfl (fun j u hj => hX11.pins _ _ _ (hbp12 _ _ (by simpa using hj)))) ?_
  refine q1 rfl rfl rfl (o_call (vs := [(.agg [v].toArray)]) Try.func49 nm49 rfl rfl rfl ?_)
  refine Calls.mono (l3Good_spec hX11.pins (hv.mono hle10)) ?_
  rintro _ w15 ⟨G14, rfl, hx16⟩
  refine ⟨_, rfl, ?_⟩
  have hX17 := hX11.tr hx16
  refine qd rfl rfl rfl (r_assign (v := (.bool (decP (GoodS ns)))) rfl) ?_
  refine qe ?_
  refine s_then ?_
  refine wp_ret ?_
  refine s_ret ?_
  refine c_ret1 (v := (.bool (decP (GoodS ns)))) rfl rfl rfl ?_
  exact ⟨_, rfl, hX17⟩

theorem sLoopOf_spec {w : World} {G : Pin} {v : Value} {ns : List Nd} (hP : Pins G w) (hv : RSl eNode G v ns) (hsm : Small ns) :
    Calls Try.prog 17 [(.agg [v].toArray)].toArray w fun e w' => ∃ (u v : Value) (G' : Pin), e = .returned (.tuple #[.agg [u, v].toArray, .bool (lpOk ns)]) ∧ RSl (eSl eInt) G' u (lpL ns) ∧ RSl (eSl eInt) G' v (lpR ns) ∧ Ext noS G w G' w' := by
  refine s_enter (n := 51) Try.func17 Try.ntmps17 rfl rfl ?_
  have hX0 : Ext noS G w G w := Ext.refl hP
  have hln := hsm.len
  refine s_seq ?_
  refine c_reg ?_
  refine q1 rfl rfl rfl (o_box [v] (v := (.agg [v].toArray)) rfl rfl hX0.pins (fun b1 w2 hk3 hb4 hp5 hl6 => ?_))
  have hX7 := hX0.step hp5 hl6
  have hlo8 : w.heap.size ≤ b1 := by have := hX0.size; omega
  obtain ⟨G9, hle10, hX11, hbp12, hf13⟩ := hb4.shut hX7 hlo8
  refine q1 rfl rfl rfl (o_alloc [(.slice none 0 0), (.slice none 0 0)] zr44 rfl hX11.pins (fun b14 w15 hk16 hb17 hp18 hl19 => ?_))
  have hX20 := hX11.step hp18 hl19
  have hlo21 : w.heap.size ≤ b14 := by have := hX11.size; omega
  refine qd rfl rfl rfl (r_assign (v := (.bool false)) rfl) ?_
  refine qe ?_
  refine s_then ?_
  refine s_seq ?_
  refine s_seq ?_
  refine c_reg ?_
  refine qd rfl rfl rfl (r_ldpA (cs := [v]) ag26 sz26 rfl (fun j u hj => hX20.pins _ _ _ (hbp12 _ _ (by simpa using hj)))) ?_
  refine q1 rfl rfl rfl (o_call (vs := [(.agg [v].toArray)]) Try.func53 nm53 rfl rfl rfl ?_)
  refine Calls.mono (sGoodForm_spec hX20.pins (hv.mono hle10)) ?_
  rintro _ w23 ⟨G22, rfl, hx24⟩
  refine ⟨_, rfl, ?_⟩
  have hX25 := hX20.tr hx24
  have hb26 := hb17.ext hx24
  refine qd rfl rfl rfl (r_not rfl) ?_
  refine qd rfl rfl rfl (r_move (v := (.bool (!(decP (GoodS ns))))) rfl) ?_
  refine qbn (t := 9) rfl (fun h27 => ?_) (fun h27 => ?_)
  · skip
    refine qdg rfl rfl rfl rfl rfl rfl (r_fldp (k := 0) rfl Try.underlying26 rfl nz24 rfl) ?_
    refine qdg rfl rfl rfl rfl rfl rfl (r_ldp1 (u := v) ag24 rfl ((Pins.of_le hX25.pins hx24.le) _ _ _ (hbp12 0 _ rfl))) ?_
    refine qdg rfl rfl rfl rfl rfl rfl (run_len Try.underlying24 (v := v) rfl hv) ?_
    refine qdg rfl rfl rfl rfl rfl rfl (r_gtr rfl rfl) ?_
    refine qd rfl rfl rfl (r_pickF (v := (.bool (decide ((36 : Int) < (ns.length : Int))))) rfl rfl) ?_
    refine qe ?_
    refine s_then ?_
    refine c_ifd (p := (36 : Int) < (ns.length : Int)) rfl rfl (fun h28 => ?_) (fun h28 => ?_)
    · skip
      refine s_seq ?_
      refine c_reg ?_
      refine qd rfl rfl rfl (r_build [(.slice none 0 0), (.slice none 0 0)] [(.slice none 0 0), (.slice none 0 0)] [] Try.underlying44 zr44 rfl pl44 rfl (fun _ h => by cases h) rfl) ?_
      refine q0 rfl rfl rfl (o_stp (cs' := [(.slice none 0 0), (.slice none 0 0)]) (us := [(.slice none 0 0), (.slice none 0 0)]) (v := (.agg [(.slice none 0 0), (.slice none 0 0)].toArray)) sz44 rfl rfl rfl (ones2 (by rfl) (by rfl)) hX25.pins hb26 (Nat.le_of_ble_eq_true rfl) rfl (fun w29 hb30 hp31 hg32 hz33 => ?_))
      have hX34 := hX25.write hp31 hg32 ((lo_box hlo21))
      refine qd rfl rfl rfl (r_assign (v := (.bool false)) rfl) ?_
      refine qe ?_
      refine s_then ?_
      refine wp_ret ?_
      refine s_ret ?_
      refine c_retct (cs := [(.slice none 0 0), (.slice none 0 0)]) (v := (.bool false)) rfl rfl rfl rfl rfl ag44 sz44 (fun j u hj => by rw [Nat.zero_add]; exact hb30.cell hj) ?_
      obtain ⟨e1, e2, e3⟩ := lp_no (ns := ns) (Or.inr h28)
      rw [e1, e2, e3]
      exact ⟨_, _, _, rfl, nil_reads _ _, nil_reads _ _, hX34⟩
    · skip
      refine wp_skip ?_
      refine s_then ?_
      refine s_seq ?_
      refine c_reg ?_
      refine qd rfl rfl rfl (r_build [(.slice none 0 0), (.slice none 0 0)] [(.slice none 0 0), (.slice none 0 0)] [] Try.underlying44 zr44 rfl pl44 rfl (fun _ h => by cases h) rfl) ?_
      refine q1 rfl rfl rfl (o_alloc [(.slice none 0 0), (.slice none 0 0)] zr44 rfl hX25.pins (fun b35 w36 hk37 hb38 hp39 hl40 => ?_))
      have hX41 := hX25.step hp39 hl40
      have hb42 := hb26.below hl40
      have ha43 : Apart (some b35) (some b14) := new_ne_box (congrArg some hk37) hb26.lt
      have hlo44 : w.heap.size ≤ b35 := by have := hX25.size; omega
      refine q0 rfl rfl rfl (o_stp (cs' := [(.slice none 0 0), (.slice none 0 0)]) (us := [(.slice none 0 0), (.slice none 0 0)]) (v := (.agg [(.slice none 0 0), (.slice none 0 0)].toArray)) sz44 rfl rfl rfl (ones2 (by rfl) (by rfl)) hX41.pins hb38 (Nat.le_of_ble_eq_true rfl) rfl (fun w45 hb46 hp47 hg48 hz49 => ?_))
      have hX50 := hX41.write hp47 hg48 ((lo_box hlo44))
      have hb51 := hb42.keptA hg48 ha43.symm
      refine qe ?_
      refine s_then ?_
      refine s_seq ?_
      refine s_seq ?_
      refine c_reg ?_
      refine qd rfl rfl rfl (r_assign (v := (.int .i64 0)) rfl) ?_
      refine qe ?_
      refine s_then ?_
      refine s_blk ?_
      refine s_loop (fun (k : Nat) (en : Nat → Value) (W : World) => ∃ (env1 : Nat → Value) (j : Nat) (lu : Value) (rv : Value) (ls : List (List Int)) (rs : List (List Int)) (GL1 : Pin), en = (upd (upd (upd (upd (upd env1 1 (.pointer (some ⟨b1, 0, none⟩))) 2 (.pointer (some ⟨b14, 0, none⟩))) 3 (.bool false)) 4 (.pointer (some ⟨b35, 0, none⟩))) 5 (.int .i64 (j : Int))) ∧ k = ns.length - j ∧ Ext noS G w GL1 W ∧ Pin.le G22 GL1 ∧ (j ≤ ns.length) ∧ (ls = (ns.take j).map Nd.l) ∧ (rs = (ns.take j).map Nd.r) ∧ (ls.length = j) ∧ (rs.length = j) ∧ (Own (eSl eInt) 29 GL1 W w.heap.size lu (ls)) ∧ (Own (eSl eInt) 29 GL1 W w.heap.size rv (rs)) ∧ (Bx GL1 W b14 [(.slice none 0 0), (.slice none 0 0)]) ∧ (Bx GL1 W b35 [lu, rv]) ∧ (Apart lu.ownBlock rv.ownBlock) ∧ (Apart lu.ownBlock (some b14)) ∧ (Apart lu.ownBlock (some b35)) ∧ (Apart rv.ownBlock (some b14)) ∧ (Apart rv.ownBlock (some b35))) _ ⟨_, 0, (.slice none 0 0), (.slice none 0 0), [], [], G22, (packS (x := 5) (packS (x := 4) (packS (x := 3) (packS (x := 2) (pack1 (x := 1) rfl) rfl) rfl) rfl) rfl), rfl, hX50, Pin.le_refl _, Nat.zero_le _, rfl, rfl, rfl, rfl, (Own.nil _ _ _ _ _), (Own.nil _ _ _ _ _), hb51, hb46, apart_none, apart_none, apart_none, apart_none, apart_none⟩ ?_
      rintro k52 _ w53 ⟨env1, j, lu, rv, ls, rs, GL1, rfl, hk54, hX55, hlek52, hj, hls, hrs, hll, hrl, hw56, hw57, hw58, hw59, ha60, ha61, ha62, ha63, ha64⟩
      refine s_seq ?_
      refine s_seq ?_
      refine c_reg ?_
      refine qd rfl rfl rfl (r_move (v := (.int .i64 (j : Int))) rfl) ?_
      refine qd rfl rfl rfl (r_fldp (k := 0) rfl Try.underlying26 rfl nz24 rfl) ?_
      refine qd rfl rfl rfl (r_ldp1 (u := v) ag24 rfl ((Pins.of_le hX55.pins (Pin.le_trans hx24.le hlek52)) _ _ _ (hbp12 0 _ rfl))) ?_
      refine qd rfl rfl rfl (run_len Try.underlying24 (v := v) rfl hv) ?_
      refine qd rfl rfl rfl (r_lss rfl rfl) ?_
      refine qe ?_
      refine s_then ?_
      refine c_ifd (p := ((j : Int) : Int) < (ns.length : Int)) rfl rfl (fun h65 => ?_) (fun h65 => ?_)
      · skip
        have hso := hsm.opts j (by omega)
        refine wp_skip ?_
        refine s_then ?_
        refine s_seq ?_
        refine s_blk ?_
        refine s_seq ?_
        refine c_draw (S := fun w => BxR w b35 [lu, rv] ∧ Pins GL1 w) (last := 13) (by kernel_rfl) rfl ?_
        have hl66 : Below w53.heap.size w53 w53.drew := (Below.refl _ _).drew
        have hp67 := hX55.pins.below hl66
        have hX68 := hX55.step hp67 hl66
        have ho69 := hw56.below hl66
        have ho70 := hw57.below hl66
        have hb71 := hw58.below hl66
        have hb72 := hw59.below hl66
        refine dr_take (i := 0) rfl rfl rfl (want_none rfl _) (by kernel_rfl) (fun _ _ => r_fldp (k := 0) rfl Try.underlying44 rfl nz42 rfl) ⟨hb72.reads, hX68.pins⟩ ?_
        refine dr_take (i := 1) rfl rfl rfl (want_none rfl _) (by kernel_rfl) (fun _ hS => r_ldp1 (u := lu) ag42 rfl (hS.1 0 _ rfl)) ⟨hb72.reads, hX68.pins⟩ ?_
        refine dr_take (i := 3) rfl rfl rfl (want_none rfl _) (by kernel_rfl) (fun _ _ => r_fldp (k := 0) rfl Try.underlying26 rfl nz24 rfl) ⟨hb72.reads, hX68.pins⟩ ?_
        refine dr_take (i := 4) rfl rfl rfl (want_none rfl _) (by kernel_rfl) (fun _ hS => r_ldp1 (u := v) ag24 rfl ((Pins.of_le hS.2 (Pin.le_trans hx24.le hlek52)) _ _ _ (hbp12 0 _ rfl))) ⟨hb72.reads, hX68.pins⟩ ?_
        refine dr_take (i := 5) rfl rfl rfl (want_none rfl _) (by kernel_rfl) (fun _ _ => r_move (v := (.int .i64 (j : Int))) rfl) ⟨hb72.reads, hX68.pins⟩ ?_
        refine dr_take (i := 6) rfl rfl rfl (want_none rfl _) (by kernel_rfl) (fun _ _ => run_idx Try.underlying24 sz82 (v := v) rfl rfl hv (by omega) (by omega)) ⟨hb72.reads, hX68.pins⟩ ?_
        refine dr_take (i := 7) rfl rfl rfl (want_none rfl _) (by kernel_rfl) (fun _ _ => run_fld (off := 0) Try.underlying82 rfl rfl nz29 (z := (j : Int)) (k := 0) rfl hv (by omega) (by omega)) ⟨hb72.reads, hX68.pins⟩ ?_
        obtain ⟨u73, hr74, hl75⟩ := nm_nl (hv.at (z := (j : Int)) (by omega) (by omega)) (j := j) rfl
        have hm76 := hr74.max
        refine dr_take (i := 8) rfl rfl rfl (want_none rfl _) (by kernel_rfl) (fun _ hS => hl75 ag29 rfl (Pins.of_le hS.2 (Pin.le_trans (Pin.le_trans hle10 hx24.le) hlek52))) ⟨hb72.reads, hX68.pins⟩ ?_
        refine dr_one (i := 2) (by kernel_rfl) (drOp1 (i := 2) rfl rfl rfl (want_none rfl _) (o_build0 (E := eInt) (e := 3) Try.underlying29 sz3 hX68.pins (fun u77 w78 ho79 hp80 hl81 hk82 => ?_)))
        have hX83 := hX68.step hp80 hl81
        have ho84 := ho69.below hl81
        have ho85 := ho70.below hl81
        have hb86 := hb71.below hl81
        have hb87 := hb72.below hl81
        have ha88 : Apart u77.ownBlock lu.ownBlock := new_ne_own hk82 ho69.lt
        have ha89 : Apart u77.ownBlock rv.ownBlock := new_ne_own hk82 ho70.lt
        have ha90 : Apart u77.ownBlock (some b14) := new_ne_box hk82 hb71.lt
        have ha91 : Apart u77.ownBlock (some b35) := new_ne_box hk82 hb72.lt
        have ho92 : Own eInt 3 GL1 w78 w.heap.size u77 ([]) := ho79.weaken hX68.size
        refine ⟨fun _ => ⟨hb87.reads, hX83.pins⟩, ?_⟩
        refine dr_one (i := 9) (by kernel_rfl) (drOp1 (i := 9) rfl rfl rfl (want_none rfl _) (o_append (E := eInt) (v := u77) (u := u73) 8 Try.underlying29 ap3 (by decide) rfl rfl hX83.pins ho92 ((hr74.mono (Pin.le_trans (Pin.le_trans hle10 hx24.le) hlek52)).src hX83.pins (by decide)) (by first | omega | (rw [List.nil_append]; omega) | (rw [List.length_nil]; omega) | (rw [List.length_append]; omega) | (simp; done) | (simp; omega)) (by first | omega | (rw [List.nil_append]; omega) | (rw [List.length_nil]; omega) | (rw [List.length_append]; omega) | (simp; done) | (simp; omega)) (hX83.size) (fun u93 w94 ho95 hp96 hg97 hw98 => ?_)))
        have hX99 := hX83.write hp96 hg97 ((lo_own ho92))
        have ho100 := ho84.keptA hg97 ha88.symm
        have ho101 := ho85.keptA hg97 ha89.symm
        have hb102 := hb86.keptA hg97 ha90.symm
        have hb103 := hb87.keptA hg97 ha91.symm
        have ha104 : Apart lu.ownBlock u93.ownBlock := app_ne_own ha88.symm hw98 ho84.lt
        have ha105 : Apart rv.ownBlock u93.ownBlock := app_ne_own ha89.symm hw98 ho85.lt
        have ha106 : Apart (some b14) u93.ownBlock := app_ne_box ha90.symm hw98 hb86.lt
        have ha107 : Apart (some b35) u93.ownBlock := app_ne_box ha91.symm hw98 hb87.lt
        have hm108 : (([]) ++ ((ns.getD j default).l)).length = ([]).length + ((ns.getD j default).l).length := List.length_append
        refine ⟨fun _ => ⟨hb103.reads, hX99.pins⟩, ?_⟩
        obtain ⟨G109, hle112, hX111, hr110, hf113⟩ := ho95.sealed hX99
        have ho114 := ho100.moreO hle112 hf113 ha104
        have ho115 := ho101.moreO hle112 hf113 ha105
        have hb116 := hb102.moreO hf113 ha106
        have hb117 := hb103.moreO hf113 ha107
        refine dr_one (i := 10) (by kernel_rfl) (drOp1 (i := 10) rfl rfl rfl (want_none rfl _) (o_buildF (E := (eSl eInt)) (e := 29) [u93] [([]) ++ ((ns.getD j default).l)] Try.underlying42 sz29 zr29 (by exact reps1 (⟨_, rfl, hr110⟩)) (ones1 hr110.one) rfl rfl rfl rfl (by decide) hX111.pins (fun u118 w119 ho120 hp121 hl122 hk123 => ?_)))
        have hX124 := hX111.step hp121 hl122
        have ho125 := ho114.below hl122
        have ho126 := ho115.below hl122
        have hb127 := hb116.below hl122
        have hb128 := hb117.below hl122
        have ha129 : Apart u118.ownBlock lu.ownBlock := new_ne_own hk123 ho114.lt
        have ha130 : Apart u118.ownBlock rv.ownBlock := new_ne_own hk123 ho115.lt
        have ha131 : Apart u118.ownBlock (some b14) := new_ne_box hk123 hb116.lt
        have ha132 : Apart u118.ownBlock (some b35) := new_ne_box hk123 hb117.lt
        have ho133 : Own (eSl eInt) 29 G109 w119 w.heap.size u118 ([([]) ++ ((ns.getD j default).l)]) := ho120.weaken hX111.size
        refine ⟨fun _ => ⟨hb128.reads, (Pins.of_le hX124.pins hle112)⟩, ?_⟩
        refine dr_one (i := 11) (by kernel_rfl) (drOp1 (i := 11) rfl rfl rfl (want_none rfl _) (o_append (E := (eSl eInt)) (v := lu) (u := u118) 24 Try.underlying42 ap29 (by decide) rfl rfl hX124.pins ho125 ho133.src (by first | omega | (rw [List.nil_append]; omega) | (rw [List.length_nil]; omega) | (rw [List.length_append]; omega) | (simp; done) | (simp; omega)) (by first | omega | (rw [List.nil_append]; omega) | (rw [List.length_nil]; omega) | (rw [List.length_append]; omega) | (simp; done) | (simp; omega)) (hX124.size) (fun u134 w135 ho136 hp137 hg138 hw139 => ?_)))
        have hX140 := hX124.write hp137 hg138 ((lo_own ho125))
        have ho141 := ho126.keptA hg138 ha60.symm
        have ho142 := ho133.keptA hg138 ha129
        have hb143 := hb127.keptA hg138 ha61.symm
        have hb144 := hb128.keptA hg138 ha62.symm
        have ha145 : Apart rv.ownBlock u134.ownBlock := app_ne_own ha60.symm hw139 ho126.lt
        have ha146 : Apart u118.ownBlock u134.ownBlock := app_ne_own ha129 hw139 ho133.lt
        have ha147 : Apart (some b14) u134.ownBlock := app_ne_box ha61.symm hw139 hb127.lt
        have ha148 : Apart (some b35) u134.ownBlock := app_ne_box ha62.symm hw139 hb128.lt
        have hm149 : (ls ++ ([([]) ++ ((ns.getD j default).l)])).length = ls.length + 1 := by simp
        refine ⟨fun _ => ⟨hb144.reads, (Pins.of_le hX140.pins hle112)⟩, ?_⟩
        refine dr_take (i := 12) rfl rfl rfl (want_none rfl _) (by kernel_rfl) (fun _ _ => r_fldp (k := 0) rfl Try.underlying44 rfl nz42 rfl) ⟨hb144.reads, (Pins.of_le hX140.pins hle112)⟩ ?_
        refine dr_one (i := 13) (by kernel_rfl) (drOp0 (i := 13) rfl rfl rfl (want_none rfl _) (o_stp (cs' := [u134, rv]) (us := [u134]) (v := u134) sz42 rfl rfl (cells1 ho136.one) (ones1 ho136.one) hX140.pins hb144 (Nat.le_of_ble_eq_true rfl) rfl (fun w150 hb151 hp152 hg153 hz154 => ?_)))
        have hX155 := hX140.write hp152 hg153 ((lo_box hlo44))
        have ho156 := ho141.keptA hg153 ha64
        have ho157 := ho136.keptA hg153 ha148.symm
        have hb158 := hb143.keptA hg153 ha43.symm
        refine ⟨fun h => absurd rfl h, ?_⟩
        refine dr_end (by kernel_rfl) ?_
        refine s_then ?_
        refine c_draw (S := fun w => BxR w b35 [u134, rv] ∧ Pins G109 w) (last := 13) (by kernel_rfl) rfl ?_
        have hl159 : Below w150.heap.size w150 w150.drew := (Below.refl _ _).drew
        have hp160 := hX155.pins.below hl159
        have hX161 := hX155.step hp160 hl159
        have ho162 := ho156.below hl159
        have ho163 := ho157.below hl159
        have hb164 := hb158.below hl159
        have hb165 := hb151.below hl159
        refine dr_take (i := 0) rfl rfl rfl (want_none rfl _) (by kernel_rfl) (fun _ _ => r_fldp (k := 1) rfl Try.underlying44 rfl nz42 rfl) ⟨hb165.reads, hX161.pins⟩ ?_
        refine dr_take (i := 1) rfl rfl rfl (want_none rfl _) (by kernel_rfl) (fun _ hS => r_ldp1 (u := rv) ag42 rfl (hS.1 1 _ rfl)) ⟨hb165.reads, hX161.pins⟩ ?_
        refine dr_take (i := 3) rfl rfl rfl (want_none rfl _) (by kernel_rfl) (fun _ _ => r_fldp (k := 0) rfl Try.underlying26 rfl nz24 rfl) ⟨hb165.reads, hX161.pins⟩ ?_
        refine dr_take (i := 4) rfl rfl rfl (want_none rfl _) (by kernel_rfl) (fun _ hS => r_ldp1 (u := v) ag24 rfl ((Pins.of_le hS.2 (Pin.le_trans (Pin.le_trans hx24.le hlek52) hle112)) _ _ _ (hbp12 0 _ rfl))) ⟨hb165.reads, hX161.pins⟩ ?_
        refine dr_take (i := 5) rfl rfl rfl (want_none rfl _) (by kernel_rfl) (fun _ _ => r_move (v := (.int .i64 (j : Int))) rfl) ⟨hb165.reads, hX161.pins⟩ ?_
        refine dr_take (i := 6) rfl rfl rfl (want_none rfl _) (by kernel_rfl) (fun _ _ => run_idx Try.underlying24 sz82 (v := v) rfl rfl hv (by omega) (by omega)) ⟨hb165.reads, hX161.pins⟩ ?_
        refine dr_take (i := 7) rfl rfl rfl (want_none rfl _) (by kernel_rfl) (fun _ _ => run_fld (off := 1) Try.underlying82 rfl rfl nz29 (z := (j : Int)) (k := 0) rfl hv (by omega) (by omega)) ⟨hb165.reads, hX161.pins⟩ ?_
        obtain ⟨u166, hr167, hl168⟩ := nm_nr (hv.at (z := (j : Int)) (by omega) (by omega)) (j := j) rfl
        have hm169 := hr167.max
        refine dr_take (i := 8) rfl rfl rfl (want_none rfl _) (by kernel_rfl) (fun _ hS => hl168 ag29 rfl (Pins.of_le hS.2 (Pin.le_trans (Pin.le_trans (Pin.le_trans hle10 hx24.le) hlek52) hle112))) ⟨hb165.reads, hX161.pins⟩ ?_
        refine dr_one (i := 2) (by kernel_rfl) (drOp1 (i := 2) rfl rfl rfl (want_none rfl _) (o_build0 (E := eInt) (e := 3) Try.underlying29 sz3 hX161.pins (fun u170 w171 ho172 hp173 hl174 hk175 => ?_)))
        have hX176 := hX161.step hp173 hl174
        have ho177 := ho162.below hl174
        have ho178 := ho163.below hl174
        have hb179 := hb164.below hl174
        have hb180 := hb165.below hl174
        have ha181 : Apart u170.ownBlock rv.ownBlock := new_ne_own hk175 ho162.lt
        have ha182 : Apart u170.ownBlock u134.ownBlock := new_ne_own hk175 ho163.lt
        have ha183 : Apart u170.ownBlock (some b14) := new_ne_box hk175 hb164.lt
        have ha184 : Apart u170.ownBlock (some b35) := new_ne_box hk175 hb165.lt
        have ho185 : Own eInt 3 G109 w171 w.heap.size u170 ([]) := ho172.weaken hX161.size
        refine ⟨fun _ => ⟨hb180.reads, hX176.pins⟩, ?_⟩
        refine dr_one (i := 9) (by kernel_rfl) (drOp1 (i := 9) rfl rfl rfl (want_none rfl _) (o_append (E := eInt) (v := u170) (u := u166) 8 Try.underlying29 ap3 (by decide) rfl rfl hX176.pins ho185 ((hr167.mono (Pin.le_trans (Pin.le_trans (Pin.le_trans hle10 hx24.le) hlek52) hle112)).src hX176.pins (by decide)) (by first | omega | (rw [List.nil_append]; omega) | (rw [List.length_nil]; omega) | (rw [List.length_append]; omega) | (simp; done) | (simp; omega)) (by first | omega | (rw [List.nil_append]; omega) | (rw [List.length_nil]; omega) | (rw [List.length_append]; omega) | (simp; done) | (simp; omega)) (hX176.size) (fun u186 w187 ho188 hp189 hg190 hw191 => ?_)))
        have hX192 := hX176.write hp189 hg190 ((lo_own ho185))
        have ho193 := ho177.keptA hg190 ha181.symm
        have ho194 := ho178.keptA hg190 ha182.symm
        have hb195 := hb179.keptA hg190 ha183.symm
        have hb196 := hb180.keptA hg190 ha184.symm
        have ha197 : Apart rv.ownBlock u186.ownBlock := app_ne_own ha181.symm hw191 ho177.lt
        have ha198 : Apart u134.ownBlock u186.ownBlock := app_ne_own ha182.symm hw191 ho178.lt
        have ha199 : Apart (some b14) u186.ownBlock := app_ne_box ha183.symm hw191 hb179.lt
        have ha200 : Apart (some b35) u186.ownBlock := app_ne_box ha184.symm hw191 hb180.lt
        have hm201 : (([]) ++ ((ns.getD j default).r)).length = ([]).length + ((ns.getD j default).r).length := List.length_append
        refine ⟨fun _ => ⟨hb196.reads, hX192.pins⟩, ?_⟩
        obtain ⟨G202, hle205, hX204, hr203, hf206⟩ := ho188.sealed hX192
        have ho207 := ho193.moreO hle205 hf206 ha197
        have ho208 := ho194.moreO hle205 hf206 ha198
        have hb209 := hb195.moreO hf206 ha199
        have hb210 := hb196.moreO hf206 ha200
        refine dr_one (i := 10) (by kernel_rfl) (drOp1 (i := 10) rfl rfl rfl (want_none rfl _) (o_buildF (E := (eSl eInt)) (e := 29) [u186] [([]) ++ ((ns.getD j default).r)] Try.underlying42 sz29 zr29 (by exact reps1 (⟨_, rfl, hr203⟩)) (ones1 hr203.one) rfl rfl rfl rfl (by decide) hX204.pins (fun u211 w212 ho213 hp214 hl215 hk216 => ?_)))
        have hX217 := hX204.step hp214 hl215
        have ho218 := ho207.below hl215
        have ho219 := ho208.below hl215
        have hb220 := hb209.below hl215
        have hb221 := hb210.below hl215
        have ha222 : Apart u211.ownBlock rv.ownBlock := new_ne_own hk216 ho207.lt
        have ha223 : Apart u211.ownBlock u134.ownBlock := new_ne_own hk216 ho208.lt
        have ha224 : Apart u211.ownBlock (some b14) := new_ne_box hk216 hb209.lt
        have ha225 : Apart u211.ownBlock (some b35) := new_ne_box hk216 hb210.lt
        have ho226 : Own (eSl eInt) 29 G202 w212 w.heap.size u211 ([([]) ++ ((ns.getD j default).r)]) := ho213.weaken hX204.size
        refine ⟨fun _ => ⟨hb221.reads, (Pins.of_le hX217.pins hle205)⟩, ?_⟩
        refine dr_one (i := 11) (by kernel_rfl) (drOp1 (i := 11) rfl rfl rfl (want_none rfl _) (o_append (E := (eSl eInt)) (v := rv) (u := u211) 24 Try.underlying42 ap29 (by decide) rfl rfl hX217.pins ho218 ho226.src (by first | omega | (rw [List.nil_append]; omega) | (rw [List.length_nil]; omega) | (rw [List.length_append]; omega) | (simp; done) | (simp; omega)) (by first | omega | (rw [List.nil_append]; omega) | (rw [List.length_nil]; omega) | (rw [List.length_append]; omega) | (simp; done) | (simp; omega)) (hX217.size) (fun u227 w228 ho229 hp230 hg231 hw232 => ?_)))
        have hX233 := hX217.write hp230 hg231 ((lo_own ho218))
        have ho234 := ho219.keptA hg231 ha145.symm
        have ho235 := ho226.keptA hg231 ha222
        have hb236 := hb220.keptA hg231 ha63.symm
        have hb237 := hb221.keptA hg231 ha64.symm
        have ha238 : Apart u134.ownBlock u227.ownBlock := app_ne_own ha145.symm hw232 ho219.lt
        have ha239 : Apart u211.ownBlock u227.ownBlock := app_ne_own ha222 hw232 ho226.lt
        have ha240 : Apart (some b14) u227.ownBlock := app_ne_box ha63.symm hw232 hb220.lt
        have ha241 : Apart (some b35) u227.ownBlock := app_ne_box ha64.symm hw232 hb221.lt
        have hm242 : (rs ++ ([([]) ++ ((ns.getD j default).r)])).length = rs.length + 1 := by simp
        refine ⟨fun _ => ⟨hb237.reads, (Pins.of_le hX233.pins hle205)⟩, ?_⟩
        refine dr_take (i := 12) rfl rfl rfl (want_none rfl _) (by kernel_rfl) (fun _ _ => r_fldp (k := 1) rfl Try.underlying44 rfl nz42 rfl) ⟨hb237.reads, (Pins.of_le hX233.pins hle205)⟩ ?_
        refine dr_one (i := 13) (by kernel_rfl) (drOp0 (i := 13) rfl rfl rfl (want_none rfl _) (o_stp (cs' := [u134, u227]) (us := [u227]) (v := u227) sz42 rfl rfl (cells1 ho229.one) (ones1 ho229.one) hX233.pins hb237 (Nat.le_of_ble_eq_true rfl) rfl (fun w243 hb244 hp245 hg246 hz247 => ?_)))
        have hX248 := hX233.write hp245 hg246 ((lo_box hlo44))
        have ho249 := ho234.keptA hg246 ha148.symm
        have ho250 := ho229.keptA hg246 ha241.symm
        have hb251 := hb236.keptA hg246 ha43.symm
        refine ⟨fun h => absurd rfl h, ?_⟩
        refine dr_end (by kernel_rfl) ?_
        refine s_blkN ?_
        refine s_then ?_
        refine c_reg ?_
        refine qd rfl rfl rfl (r_move (v := (.int .i64 (j : Int))) rfl) ?_
        refine qd rfl rfl rfl (r_add rfl rfl (by omega)) ?_
        refine qd rfl rfl rfl (r_assign (v := (.int .i64 ((j : Int) + 1))) rfl) ?_
        refine qe ?_
        refine s_lopN ?_
        refine ⟨_, ?_, _, rfl, _, j + 1, u134, u227, ls ++ [[] ++ (ns.getD j default).l], rs ++ [[] ++ (ns.getD j default).r], G202, (packS (x := 5) (packS (x := 4) (packS (x := 3) (packS (x := 2) (pack1 (x := 1) rfl) rfl) rfl) rfl) rfl), rfl, hX248, (Pin.le_trans (Pin.le_trans hlek52 hle112) hle205), (by omega), (by rw [hls]; exact map_next (f := Nd.l) default (by omega)), (by rw [hrs]; exact map_next (f := Nd.r) default (by omega)), (by simp; omega), (by simp; omega), ho249, ho250, hb251, hb244, ha238, ha147.symm, ha148.symm, ha240.symm, ha241.symm⟩
        omega
      · skip
        refine wp_exit ?_
        refine s_thenE ?_
        refine s_lopE ?_
        refine s_blkE ?_
        refine s_then ?_
        refine s_seq ?_
        refine c_reg ?_
        refine qd rfl rfl rfl (r_ldpA (cs := [lu, rv]) ag44 sz44 rfl (fun j u hj => hw59.cell (by simpa using hj))) ?_
        refine q0 rfl rfl rfl (o_stp (cs' := [lu, rv]) (us := [lu, rv]) (v := (.agg [lu, rv].toArray)) sz44 rfl rfl rfl (ones2 hw56.one hw57.one) hX55.pins hw58 (Nat.le_of_ble_eq_true rfl) rfl (fun w252 hb253 hp254 hg255 hz256 => ?_))
        have hX257 := hX55.write hp254 hg255 ((lo_box hlo21))
        have ho258 := hw56.keptA hg255 ha61
        have ho259 := hw57.keptA hg255 ha63
        have hb260 := hw59.keptA hg255 ha43
        refine qd rfl rfl rfl (r_assign (v := (.bool true)) rfl) ?_
        refine qe ?_
        refine s_then ?_
        refine wp_ret ?_
        refine s_ret ?_
        refine c_retct (cs := [lu, rv]) (v := (.bool true)) rfl rfl rfl rfl rfl ag44 sz44 (fun j u hj => by rw [Nat.zero_add]; exact hb253.cell hj) ?_
        obtain ⟨G261, hle264, hX263, hr262, hf265⟩ := ho258.sealed hX257
        have ho266 := ho259.moreO hle264 hf265 ha60.symm
        have hb267 := hb253.moreO hf265 ha61.symm
        have hb268 := hb260.moreO hf265 ha62.symm
        obtain ⟨G269, hle272, hX271, hr270, hf273⟩ := ho266.sealed hX263
        have hb274 := hb267.moreO hf273 ha63.symm
        have hb275 := hb268.moreO hf273 ha64.symm
        obtain ⟨e1, e2, e3⟩ := lp_yes (ns := ns) ((good_eq ns).symm.trans h27) h28
        rw [e1, e2, e3]
        rw [take_all (by omega)] at hls hrs
        rw [← hls, ← hrs]
        exact ⟨_, _, _, rfl, (hr262.mono hle272), hr270, hX271⟩
  · skip
    refine qs rfl rfl rfl rfl rfl rfl ?_
    refine qs rfl rfl rfl rfl rfl rfl ?_
    refine qs rfl rfl rfl rfl rfl rfl ?_
    refine qs rfl rfl rfl rfl rfl rfl ?_
    refine qd rfl rfl rfl (r_pickT (v := (.bool true)) rfl rfl) ?_
    refine qe ?_
    refine s_then ?_
    refine c_ifT rfl rfl ?_
    refine s_seq ?_
    refine c_reg ?_
    refine qd rfl rfl rfl (r_build [(.slice none 0 0), (.slice none 0 0)] [(.slice none 0 0), (.slice none 0 0)] [] Try.underlying44 zr44 rfl pl44 rfl (fun _ h => by cases h) rfl) ?_
    refine q0 rfl rfl rfl (o_stp (cs' := [(.slice none 0 0), (.slice none 0 0)]) (us := [(.slice none 0 0), (.slice none 0 0)]) (v := (.agg [(.slice none 0 0), (.slice none 0 0)].toArray)) sz44 rfl rfl rfl (ones2 (by rfl) (by rfl)) hX25.pins hb26 (Nat.le_of_ble_eq_true rfl) rfl (fun w276 hb277 hp278 hg279 hz280 => ?_))
    have hX281 := hX25.write hp278 hg279 ((lo_box hlo21))
    refine qd rfl rfl rfl (r_assign (v := (.bool false)) rfl) ?_
    refine qe ?_
    refine s_then ?_
    refine wp_ret ?_
    refine s_ret ?_
    refine c_retct (cs := [(.slice none 0 0), (.slice none 0 0)]) (v := (.bool false)) rfl rfl rfl rfl rfl ag44 sz44 (fun j u hj => by rw [Nat.zero_add]; exact hb277.cell hj) ?_
    obtain ⟨e1, e2, e3⟩ := lp_no (ns := ns) (Or.inl ((good_eq ns).symm.trans h27))
    rw [e1, e2, e3]
    exact ⟨_, _, _, rfl, nil_reads _ _, nil_reads _ _, hX281⟩

theorem clone_spec {w : World} {G : Pin} {v : Value} {xs : List Int} (hP : Pins G w) (hv : RSl eInt G v xs) (hs : xs.length ≤ 1048576) :
    Calls Try.prog 55 [v].toArray w fun e w' => ∃ (u : Value) (G' : Pin), e = .returned u ∧ Own eInt 3 G' w' w.heap.size u xs ∧ Ext noS G w G' w' := by
  refine s_enter (n := 8) Try.func55 Try.ntmps55 rfl rfl ?_
  have hX0 : Ext noS G w G w := Ext.refl hP
  refine s_seq ?_
  refine c_reg ?_
  refine qd rfl rfl rfl (r_assign (v := (.slice none 0 0)) rfl) ?_
  refine qe ?_
  refine s_then ?_
  refine s_seq ?_
  refine s_seq ?_
  refine c_reg ?_
  refine qd rfl rfl rfl (r_move (v := v) rfl) ?_
  refine qd rfl rfl rfl (r_eqlNil Try.underlying29 hv rfl rfl) ?_
  refine qe ?_
  refine s_then ?_
  refine c_if rfl rfl (fun h1 => ?_) (fun h1 => ?_)
  · skip
    refine s_seq ?_
    refine c_reg ?_
    refine qd rfl rfl rfl (r_assign (v := (.slice none 0 0)) rfl) ?_
    refine qe ?_
    refine s_then ?_
    refine wp_ret ?_
    refine s_ret ?_
    refine c_ret1 (v := (.slice none 0 0)) rfl rfl rfl ?_
    have hx0 := nil_of hv h1
    subst hx0
    exact ⟨_, _, rfl, Own.nil _ _ _ _ _, hX0⟩
  · skip
    refine wp_skip ?_
    refine s_then ?_
    refine s_seq ?_
    refine c_reg ?_
    refine q1 rfl rfl rfl (o_build0 (E := eInt) (e := 3) Try.underlying29 sz3 hX0.pins (fun u2 w3 ho4 hp5 hl6 hk7 => ?_))
    have hX8 := hX0.step hp5 hl6
    have ho9 : Own eInt 3 G w3 w.heap.size u2 ([]) := ho4.weaken hX0.size
    refine qd rfl rfl rfl (r_move (v := v) rfl) ?_
    refine q1 rfl rfl rfl (o_append (E := eInt) (v := u2) (u := v) 8 Try.underlying29 ap3 (by decide) rfl rfl hX8.pins ho9 ((hv.mono (Pin.le_refl _)).src hX8.pins (by decide)) (by first | omega | (rw [List.nil_append]; omega) | (rw [List.length_nil]; omega) | (rw [List.length_append]; omega) | (simp; done) | (simp; omega)) (by first | omega | (rw [List.nil_append]; omega) | (rw [List.length_nil]; omega) | (rw [List.length_append]; omega) | (simp; done) | (simp; omega)) (hX8.size) (fun u10 w11 ho12 hp13 hg14 hw15 => ?_))
    have hX16 := hX8.write hp13 hg14 ((lo_own ho9))
    have hm17 : (([]) ++ xs).length = ([]).length + xs.length := List.length_append
    refine qd rfl rfl rfl (r_assign (v := u10) rfl) ?_
    refine qe ?_
    refine s_then ?_
    refine wp_ret ?_
    refine s_ret ?_
    refine c_ret1 (v := u10) rfl rfl rfl ?_
    exact ⟨_, _, rfl, ho12, hX16⟩

theorem iLoopOf_dspec {w : World} {G : Pin} {v : Value} {ns : List Nd} (hP : Pins G w) (hv : RSl eNode G v ns) (hsm : Small ns) :
    Calls Try.prog 19 [(.agg [v].toArray)].toArray w fun e w' => ∃ (u v : Value) (G' : Pin), e = .returned (.tuple #[.agg [u, v].toArray, .bool (lpOk ns)]) ∧ DLoop 29 3 G' w' w.heap.size w'.heap.size u v (lpL ns) (lpR ns) ∧ Ext noS G w G' w' := by
  refine s_enter (n := 43) Try.func19 Try.ntmps19 rfl rfl ?_
  have hX0 : Ext noS G w G w := Ext.refl hP
  have hlv0 : Lvs 3 G w w.heap.size w.heap.size [] := Lvs.nil
  have hln := hsm.len
  refine s_seq ?_
  refine c_reg ?_
  refine q1 rfl rfl rfl (o_box [v] (v := (.agg [v].toArray)) rfl rfl hX0.pins (fun b1 w2 hk3 hb4 hp5 hl6 => ?_))
  have hX7 := hX0.step hp5 hl6
  have hlv8 := (hlv0.below hl6).top
  have ha9 : ApL [] (some b1) := ApL.fresh hlv0 (fun k hk => by rw [(congrArg some hk3)] at hk; cases hk; exact Nat.le_refl _)
  have hlo10 : w.heap.size ≤ b1 := by have := hX0.size; omega
  obtain ⟨G11, hle12, hX13, hbp14, hf15⟩ := hb4.shut hX7 hlo10
  have hlv16 := hlv8.more hle12 hf15 ha9
  refine q1 rfl rfl rfl (o_alloc [(.slice none 0 0), (.slice none 0 0)] zr44 rfl hX13.pins (fun b17 w18 hk19 hb20 hp21 hl22 => ?_))
  have hX23 := hX13.step hp21 hl22
  have hlv24 := (hlv16.below hl22).top
  have ha25 : ApL [] (some b17) := ApL.fresh hlv16 (fun k hk => by rw [(congrArg some hk19)] at hk; cases hk; exact Nat.le_refl _)
  have hlo26 : w.heap.size ≤ b17 := by have := hX13.size; omega
  refine qd rfl rfl rfl (r_assign (v := (.bool false)) rfl) ?_
  refine qe ?_
  refine s_then ?_
  refine s_seq ?_
  refine s_seq ?_
  refine c_reg ?_
  refine qd rfl rfl rfl (r_ldpA (cs := [v]) ag26 sz26 rfl (fun j u hj => hX23.pins _ _ _ (hbp14 _ _ (by simpa using hj)))) ?_
  refine q1 rfl rfl rfl (o_call (vs := [(.agg [v].toArray)]) Try.func46 nm46 rfl rfl rfl ?_)
  refine Calls.mono (goodForm_spec hX23.pins (hv.mono hle12)) ?_
  rintro _ w28 ⟨G27, rfl, hx29⟩
  refine ⟨_, rfl, ?_⟩
  have hX30 := hX23.tr hx29
  have hb31 := hb20.ext hx29
  have hlv32 := (hlv24.ext hx29).top
  refine qd rfl rfl rfl (r_not rfl) ?_
  refine qd rfl rfl rfl (r_move (v := (.bool (!(goodB ns)))) rfl) ?_
  refine qbn (t := 10) rfl (fun h33 => ?_) (fun h33 => ?_)
  · skip
    refine qdg rfl rfl rfl rfl rfl rfl (r_fldp (k := 0) rfl Try.underlying26 rfl nz24 rfl) ?_
    refine qdg rfl rfl rfl rfl rfl rfl (r_ldp1 (u := v) ag24 rfl ((Pins.of_le hX30.pins hx29.le) _ _ _ (hbp14 0 _ rfl))) ?_
    refine qdg rfl rfl rfl rfl rfl rfl (run_len Try.underlying24 (v := v) rfl hv) ?_
    refine qdg rfl rfl rfl rfl rfl rfl (r_gtr rfl rfl) ?_
    refine qd rfl rfl rfl (r_pickF (v := (.bool (decide ((36 : Int) < (ns.length : Int))))) rfl rfl) ?_
    refine qe ?_
    refine s_then ?_
    refine c_ifd (p := (36 : Int) < (ns.length : Int)) rfl rfl (fun h34 => ?_) (fun h34 => ?_)
    · skip
      refine s_seq ?_
      refine c_reg ?_
      refine qd rfl rfl rfl (r_build [(.slice none 0 0), (.slice none 0 0)] [(.slice none 0 0), (.slice none 0 0)] [] Try.underlying44 zr44 rfl pl44 rfl (fun _ h => by cases h) rfl) ?_
      refine q0 rfl rfl rfl (o_stp (cs' := [(.slice none 0 0), (.slice none 0 0)]) (us := [(.slice none 0 0), (.slice none 0 0)]) (v := (.agg [(.slice none 0 0), (.slice none 0 0)].toArray)) sz44 rfl rfl rfl (ones2 (by rfl) (by rfl)) hX30.pins hb31 (Nat.le_of_ble_eq_true rfl) rfl (fun w35 hb36 hp37 hg38 hz39 => ?_))
      have hX40 := hX30.write hp37 hg38 ((lo_box hlo26))
      have hlv41 := (hlv32.kept hg38 ha25).top
      refine qd rfl rfl rfl (r_assign (v := (.bool false)) rfl) ?_
      refine qe ?_
      refine s_then ?_
      refine wp_ret ?_
      refine s_ret ?_
      refine c_retct (cs := [(.slice none 0 0), (.slice none 0 0)]) (v := (.bool false)) rfl rfl rfl rfl rfl ag44 sz44 (fun j u hj => by rw [Nat.zero_add]; exact hb36.cell hj) ?_
      obtain ⟨e1, e2, e3⟩ := lp_no (ns := ns) (Or.inr h34)
      rw [e1, e2, e3]
      exact ⟨_, _, _, rfl, ⟨[], [], rfl, rfl, Own.nil _ _ _ _ _, Own.nil _ _ _ _ _, fun k hk => (by cases hk), fun k hk => (by cases hk), Lvs.nil, ApL.nil, ApL.nil, apart_none⟩, hX40⟩
    · skip
      refine wp_skip ?_
      refine s_then ?_
      refine s_seq ?_
      refine c_reg ?_
      refine qd rfl rfl rfl (r_build [(.slice none 0 0), (.slice none 0 0)] [(.slice none 0 0), (.slice none 0 0)] [] Try.underlying44 zr44 rfl pl44 rfl (fun _ h => by cases h) rfl) ?_
      refine q1 rfl rfl rfl (o_alloc [(.slice none 0 0), (.slice none 0 0)] zr44 rfl hX30.pins (fun b42 w43 hk44 hb45 hp46 hl47 => ?_))
      have hX48 := hX30.step hp46 hl47
      have hb49 := hb31.below hl47
      have hlv50 := (hlv32.below hl47).top
      have ha51 : Apart (some b42) (some b17) := new_ne_box (congrArg some hk44) hb31.lt
      have ha52 : ApL [] (some b42) := ApL.fresh hlv32 (fun k hk => by rw [(congrArg some hk44)] at hk; cases hk; exact Nat.le_refl _)
      have hlo53 : w.heap.size ≤ b42 := by have := hX30.size; omega
      refine q0 rfl rfl rfl (o_stp (cs' := [(.slice none 0 0), (.slice none 0 0)]) (us := [(.slice none 0 0), (.slice none 0 0)]) (v := (.agg [(.slice none 0 0), (.slice none 0 0)].toArray)) sz44 rfl rfl rfl (ones2 (by rfl) (by rfl)) hX48.pins hb45 (Nat.le_of_ble_eq_true rfl) rfl (fun w54 hb55 hp56 hg57 hz58 => ?_))
      have hX59 := hX48.write hp56 hg57 ((lo_box hlo53))
      have hb60 := hb49.keptA hg57 ha51.symm
      have hlv61 := (hlv50.kept hg57 ha52).top
      refine qe ?_
      refine s_then ?_
      refine s_seq ?_
      refine s_seq ?_
      refine c_reg ?_
      refine qd rfl rfl rfl (r_fldp (k := 0) rfl Try.underlying26 rfl nz24 rfl) ?_
      refine qd rfl rfl rfl (r_ldp1 (u := v) ag24 rfl ((Pins.of_le hX59.pins hx29.le) _ _ _ (hbp14 0 _ rfl))) ?_
      refine qd rfl rfl rfl (run_len Try.underlying24 (v := v) rfl hv) ?_
      refine qd rfl rfl rfl (r_move (v := (.int .i64 0)) rfl) ?_
      refine qe ?_
      refine s_then ?_
      refine s_blk ?_
      refine s_loop (fun (k : Nat) (en : Nat → Value) (W : World) => ∃ (env1 : Nat → Value) (j : Nat) (lu : Value) (rv : Value) (us : List Value) (vs : List Value) (LV : List Leaf) (GL1 : Pin), en = (upd (upd (upd (upd (upd (upd env1 2 (.pointer (some ⟨b17, 0, none⟩))) 3 (.bool false)) 4 (.pointer (some ⟨b42, 0, none⟩))) 19 v) 20 (.int .i64 (ns.length : Int))) 21 (.int .i64 (j : Int))) ∧ k = ns.length - j ∧ Ext noS G w GL1 W ∧ Pin.le G27 GL1 ∧ (j ≤ ns.length) ∧ (LV = lvN (us.zip vs) (ns.take j)) ∧ (us.length = j) ∧ (vs.length = j) ∧ (Own eVal 29 GL1 W w.heap.size lu (us)) ∧ (Own eVal 29 GL1 W w.heap.size rv (vs)) ∧ (Bx GL1 W b17 [(.slice none 0 0), (.slice none 0 0)]) ∧ (Bx GL1 W b42 [lu, rv]) ∧ (Apart lu.ownBlock rv.ownBlock) ∧ (Apart lu.ownBlock (some b17)) ∧ (Apart lu.ownBlock (some b42)) ∧ (Apart rv.ownBlock (some b17)) ∧ (Apart rv.ownBlock (some b42)) ∧ (Lvs 3 GL1 W w.heap.size W.heap.size LV) ∧ (ApL LV lu.ownBlock) ∧ (ApL LV rv.ownBlock) ∧ (ApL LV (some b17)) ∧ (ApL LV (some b42))) _ ⟨_, 0, (.slice none 0 0), (.slice none 0 0), [], [], [], G27, (packS (x := 21) (packS (x := 20) (packS (x := 19) (packS (x := 4) (packS (x := 3) (pack1 (x := 2) rfl) rfl) rfl) rfl) rfl) rfl), rfl, hX59, Pin.le_refl _, Nat.zero_le _, rfl, rfl, rfl, (Own.nil _ _ _ _ _), (Own.nil _ _ _ _ _), hb60, hb55, apart_none, apart_none, apart_none, apart_none, apart_none, hlv61, (fun _ _ => apart_none.symm), (fun _ _ => apart_none.symm), ha25, ha52⟩ ?_
      rintro k62 _ w63 ⟨env1, j, lu, rv, us, vs, LV, GL1, rfl, hk64, hX65, hlek62, hj, hLV, hul, hvl, hw66, hw67, hw68, hw69, ha70, ha71, ha72, ha73, ha74, hlv75, ha76, ha77, ha78, ha79⟩
      refine s_seq ?_
      refine c_reg ?_
      refine qd rfl rfl rfl (r_lss rfl rfl) ?_
      refine qe ?_
      refine s_then ?_
      refine s_seq ?_
      refine c_ifd (p := ((j : Int) : Int) < (ns.length : Int)) rfl rfl (fun h80 => ?_) (fun h80 => ?_)
      · skip
        have hso := hsm.opts j (by omega)
        refine wp_skip ?_
        refine s_then ?_
        refine s_seq ?_
        refine s_blk ?_
        refine s_seq ?_
        refine c_reg ?_
        refine qd rfl rfl rfl (run_idx Try.underlying24 sz82 (v := v) rfl rfl hv (by omega) (by omega)) ?_
        obtain ⟨u81, u82, hr83, hr84, hl85⟩ := nm_node (hv.at (z := (j : Int)) (by omega) (by omega)) (j := j) rfl
        have hm86 := hr83.max
        have hm87 := hr84.max
        refine qd rfl rfl rfl (hl85 ag82 sz82 rfl (Pins.of_le hX65.pins (Pin.le_trans (Pin.le_trans hle12 hx29.le) hlek62))) ?_
        refine q1 rfl rfl rfl (o_alloc [(.slice none 0 0), (.slice none 0 0)] zr82 rfl hX65.pins (fun b88 w89 hk90 hb91 hp92 hl93 => ?_))
        have hX94 := hX65.step hp92 hl93
        have ho95 := hw66.below hl93
        have ho96 := hw67.below hl93
        have hb97 := hw68.below hl93
        have hb98 := hw69.below hl93
        have hlv99 := (hlv75.below hl93).top
        have ha100 : Apart (some b88) lu.ownBlock := new_ne_own (congrArg some hk90) hw66.lt
        have ha101 : Apart (some b88) rv.ownBlock := new_ne_own (congrArg some hk90) hw67.lt
        have ha102 : Apart (some b88) (some b17) := new_ne_box (congrArg some hk90) hw68.lt
        have ha103 : Apart (some b88) (some b42) := new_ne_box (congrArg some hk90) hw69.lt
        have ha104 : ApL LV (some b88) := ApL.fresh hlv75 (fun k hk => by rw [(congrArg some hk90)] at hk; cases hk; exact Nat.le_refl _)
        have hlo105 : w.heap.size ≤ b88 := by have := hX65.size; omega
        refine q0 rfl rfl rfl (o_stp (cs' := [u81, u82]) (us := [u81, u82]) (v := (.agg [u81, u82].toArray)) sz82 rfl rfl rfl (ones2 hr83.one hr84.one) hX94.pins hb91 (Nat.le_of_ble_eq_true rfl) rfl (fun w106 hb107 hp108 hg109 hz110 => ?_))
        have hX111 := hX94.write hp108 hg109 ((lo_box hlo105))
        have ho112 := ho95.keptA hg109 ha100.symm
        have ho113 := ho96.keptA hg109 ha101.symm
        have hb114 := hb97.keptA hg109 ha102.symm
        have hb115 := hb98.keptA hg109 ha103.symm
        have hlv116 := (hlv99.kept hg109 ha104).top
        obtain ⟨G117, hle118, hX119, hbp120, hf121⟩ := hb107.shut hX111 hlo105
        have ho122 := ho112.moreA hle118 hf121 ha100.symm
        have ho123 := ho113.moreA hle118 hf121 ha101.symm
        have hb124 := hb114.moreA hf121 ha102.symm
        have hb125 := hb115.moreA hf121 ha103.symm
        have hlv126 := hlv116.more hle118 hf121 ha104
        refine qe ?_
        refine s_then ?_
        refine s_seq ?_
        refine c_draw (S := fun w => BxR w b42 [lu, rv] ∧ Pins G117 w) (last := 8) (by kernel_rfl) rfl ?_
        have hl127 : Below w106.heap.size w106 w106.drew := (Below.refl _ _).drew
        have hp128 := hX119.pins.below hl127
        have hX129 := hX119.step hp128 hl127
        have ho130 := ho122.below hl127
        have ho131 := ho123.below hl127
        have hb132 := hb124.below hl127
        have hb133 := hb125.below hl127
        have hlv134 := (hlv126.below hl127).top
        refine dr_take (i := 0) rfl rfl rfl (want_none rfl _) (by kernel_rfl) (fun _ _ => r_fldp (k := 0) rfl Try.underlying44 rfl nz42 rfl) ⟨hb133.reads, hX129.pins⟩ ?_
        refine dr_take (i := 1) rfl rfl rfl (want_none rfl _) (by kernel_rfl) (fun _ hS => r_ldp1 (u := lu) ag42 rfl (hS.1 0 _ rfl)) ⟨hb133.reads, hX129.pins⟩ ?_
        refine dr_take (i := 2) rfl rfl rfl (want_none rfl _) (by kernel_rfl) (fun _ _ => r_fldp (k := 0) rfl Try.underlying82 rfl nz29 rfl) ⟨hb133.reads, hX129.pins⟩ ?_
        refine dr_take (i := 3) rfl rfl rfl (want_none rfl _) (by kernel_rfl) (fun _ hS => r_ldp1 (u := u81) ag29 rfl (hS.2 _ _ _ (hbp120 0 _ rfl))) ⟨hb133.reads, hX129.pins⟩ ?_
        refine dr_one (i := 4) (by kernel_rfl) (drOp1 (i := 4) rfl rfl rfl (want_none rfl _) (o_call (vs := [u81]) Try.func55 nm55 rfl rfl rfl ?_))
        refine Calls.mono (clone_spec hX129.pins (hr83.mono (Pin.le_trans (Pin.le_trans (Pin.le_trans hle12 hx29.le) hlek62) hle118)) (by omega)) ?_
        rintro _ w137 ⟨u135, G136, rfl, ho138, hx139⟩
        refine ⟨_, rfl, ?_⟩
        have hX140 := hX129.tr hx139
        have ho141 := ho130.ext hx139
        have ho142 := ho131.ext hx139
        have hb143 := hb132.ext hx139
        have hb144 := hb133.ext hx139
        have hlv145 := (hlv134.ext hx139).top
        have ha146 : Apart u135.ownBlock lu.ownBlock := made_ne_own ho138.lt ho130.lt
        have ha147 : Apart u135.ownBlock rv.ownBlock := made_ne_own ho138.lt ho131.lt
        have ha148 : Apart u135.ownBlock (some b17) := made_ne_box ho138.lt hb132.lt
        have ha149 : Apart u135.ownBlock (some b42) := made_ne_box ho138.lt hb133.lt
        have ha150 : ApL LV u135.ownBlock := ApL.fresh hlv134 (fun k hk => (ho138.lt k hk).1)
        have ho151 : Own eInt 3 G136 w137 w.heap.size u135 ((ns.getD j default).l) := ho138.weaken hX129.size
        refine ⟨fun _ => ⟨hb144.reads, (Pins.of_le hX140.pins hx139.le)⟩, ?_⟩
        refine dr_one (i := 5) (by kernel_rfl) (drOp1 (i := 5) rfl rfl rfl (want_none rfl _) (o_buildF (E := eVal) (e := 29) [u135] [u135] Try.underlying42 sz29 zr29 (by exact reps1 (⟨rfl, ho151.one⟩)) (ones1 ho151.one) rfl rfl rfl rfl (by decide) hX140.pins (fun u152 w153 ho154 hp155 hl156 hk157 => ?_)))
        have hX158 := hX140.step hp155 hl156
        have ho159 := ho141.below hl156
        have ho160 := ho142.below hl156
        have ho161 := ho151.below hl156
        have hb162 := hb143.below hl156
        have hb163 := hb144.below hl156
        have hlv164 := (hlv145.below hl156).top
        have ha165 : Apart u152.ownBlock lu.ownBlock := new_ne_own hk157 ho141.lt
        have ha166 : Apart u152.ownBlock rv.ownBlock := new_ne_own hk157 ho142.lt
        have ha167 : Apart u152.ownBlock u135.ownBlock := new_ne_own hk157 ho151.lt
        have ha168 : Apart u152.ownBlock (some b17) := new_ne_box hk157 hb143.lt
        have ha169 : Apart u152.ownBlock (some b42) := new_ne_box hk157 hb144.lt
        have ha170 : ApL LV u152.ownBlock := ApL.fresh hlv145 (fun k hk => by rw [hk157] at hk; cases hk; exact Nat.le_refl _)
        have ho171 : Own eVal 29 G136 w153 w.heap.size u152 ([u135]) := ho154.weaken hX140.size
        refine ⟨fun _ => ⟨hb163.reads, (Pins.of_le hX158.pins hx139.le)⟩, ?_⟩
        refine dr_one (i := 6) (by kernel_rfl) (drOp1 (i := 6) rfl rfl rfl (want_none rfl _) (o_append (E := eVal) (v := lu) (u := u152) 24 Try.underlying42 ap29 (by decide) rfl rfl hX158.pins ho159 ho171.src (by first | omega | (rw [List.nil_append]; omega) | (rw [List.length_nil]; omega) | (rw [List.length_append]; omega) | (simp; done) | (simp; omega)) (by first | omega | (rw [List.nil_append]; omega) | (rw [List.length_nil]; omega) | (rw [List.length_append]; omega) | (simp; done) | (simp; omega)) (hX158.size) (fun u172 w173 ho174 hp175 hg176 hw177 => ?_)))
        have hX178 := hX158.write hp175 hg176 ((lo_own ho159))
        have ho179 := ho160.keptA hg176 ha70.symm
        have ho180 := ho161.keptA hg176 ha146
        have ho181 := ho171.keptA hg176 ha165
        have hb182 := hb162.keptA hg176 ha71.symm
        have hb183 := hb163.keptA hg176 ha72.symm
        have hlv184 := (hlv164.kept hg176 ha76).top
        have ha185 : Apart rv.ownBlock u172.ownBlock := app_ne_own ha70.symm hw177 ho160.lt
        have ha186 : Apart u135.ownBlock u172.ownBlock := app_ne_own ha146 hw177 ho161.lt
        have ha187 : Apart u152.ownBlock u172.ownBlock := app_ne_own ha165 hw177 ho171.lt
        have ha188 : Apart (some b17) u172.ownBlock := app_ne_box ha71.symm hw177 hb162.lt
        have ha189 : Apart (some b42) u172.ownBlock := app_ne_box ha72.symm hw177 hb163.lt
        have ha190 : ApL LV u172.ownBlock := ApL.app hlv164 ha76 hw177
        have hm191 : (us ++ ([u135])).length = us.length + 1 := by simp
        refine ⟨fun _ => ⟨hb183.reads, (Pins.of_le hX178.pins hx139.le)⟩, ?_⟩
        refine dr_take (i := 7) rfl rfl rfl (want_none rfl _) (by kernel_rfl) (fun _ _ => r_fldp (k := 0) rfl Try.underlying44 rfl nz42 rfl) ⟨hb183.reads, (Pins.of_le hX178.pins hx139.le)⟩ ?_
        refine dr_one (i := 8) (by kernel_rfl) (drOp0 (i := 8) rfl rfl rfl (want_none rfl _) (o_stp (cs' := [u172, rv]) (us := [u172]) (v := u172) sz42 rfl rfl (cells1 ho174.one) (ones1 ho174.one) hX178.pins hb183 (Nat.le_of_ble_eq_true rfl) rfl (fun w192 hb193 hp194 hg195 hz196 => ?_)))
        have hX197 := hX178.write hp194 hg195 ((lo_box hlo53))
        have ho198 := ho179.keptA hg195 ha74
        have ho199 := ho180.keptA hg195 ha149
        have ho200 := ho174.keptA hg195 ha189.symm
        have hb201 := hb182.keptA hg195 ha51.symm
        have hlv202 := (hlv184.kept hg195 ha79).top
        refine ⟨fun h => absurd rfl h, ?_⟩
        refine dr_end (by kernel_rfl) ?_
        refine s_then ?_
        refine c_draw (S := fun w => BxR w b42 [u172, rv] ∧ Pins G136 w) (last := 8) (by kernel_rfl) rfl ?_
        have hl203 : Below w192.heap.size w192 w192.drew := (Below.refl _ _).drew
        have hp204 := hX197.pins.below hl203
        have hX205 := hX197.step hp204 hl203
        have ho206 := ho198.below hl203
        have ho207 := ho199.below hl203
        have ho208 := ho200.below hl203
        have hb209 := hb201.below hl203
        have hb210 := hb193.below hl203
        have hlv211 := (hlv202.below hl203).top
        refine dr_take (i := 0) rfl rfl rfl (want_none rfl _) (by kernel_rfl) (fun _ _ => r_fldp (k := 1) rfl Try.underlying44 rfl nz42 rfl) ⟨hb210.reads, hX205.pins⟩ ?_
        refine dr_take (i := 1) rfl rfl rfl (want_none rfl _) (by kernel_rfl) (fun _ hS => r_ldp1 (u := rv) ag42 rfl (hS.1 1 _ rfl)) ⟨hb210.reads, hX205.pins⟩ ?_
        refine dr_take (i := 2) rfl rfl rfl (want_none rfl _) (by kernel_rfl) (fun _ _ => r_fldp (k := 1) rfl Try.underlying82 rfl nz29 rfl) ⟨hb210.reads, hX205.pins⟩ ?_
        refine dr_take (i := 3) rfl rfl rfl (want_none rfl _) (by kernel_rfl) (fun _ hS => r_ldp1 (u := u82) ag29 rfl ((Pins.of_le hS.2 hx139.le) _ _ _ (hbp120 1 _ rfl))) ⟨hb210.reads, hX205.pins⟩ ?_
        refine dr_one (i := 4) (by kernel_rfl) (drOp1 (i := 4) rfl rfl rfl (want_none rfl _) (o_call (vs := [u82]) Try.func55 nm55 rfl rfl rfl ?_))
        refine Calls.mono (clone_spec hX205.pins (hr84.mono (Pin.le_trans (Pin.le_trans (Pin.le_trans (Pin.le_trans hle12 hx29.le) hlek62) hle118) hx139.le)) (by omega)) ?_
        rintro _ w214 ⟨u212, G213, rfl, ho215, hx216⟩
        refine ⟨_, rfl, ?_⟩
        have hX217 := hX205.tr hx216
        have ho218 := ho206.ext hx216
        have ho219 := ho207.ext hx216
        have ho220 := ho208.ext hx216
        have hb221 := hb209.ext hx216
        have hb222 := hb210.ext hx216
        have hlv223 := (hlv211.ext hx216).top
        have ha224 : Apart u212.ownBlock rv.ownBlock := made_ne_own ho215.lt ho206.lt
        have ha225 : Apart u212.ownBlock u135.ownBlock := made_ne_own ho215.lt ho207.lt
        have ha226 : Apart u212.ownBlock u172.ownBlock := made_ne_own ho215.lt ho208.lt
        have ha227 : Apart u212.ownBlock (some b17) := made_ne_box ho215.lt hb209.lt
        have ha228 : Apart u212.ownBlock (some b42) := made_ne_box ho215.lt hb210.lt
        have ha229 : ApL LV u212.ownBlock := ApL.fresh hlv211 (fun k hk => (ho215.lt k hk).1)
        have ho230 : Own eInt 3 G213 w214 w.heap.size u212 ((ns.getD j default).r) := ho215.weaken hX205.size
        refine ⟨fun _ => ⟨hb222.reads, (Pins.of_le hX217.pins hx216.le)⟩, ?_⟩
        refine dr_one (i := 5) (by kernel_rfl) (drOp1 (i := 5) rfl rfl rfl (want_none rfl _) (o_buildF (E := eVal) (e := 29) [u212] [u212] Try.underlying42 sz29 zr29 (by exact reps1 (⟨rfl, ho230.one⟩)) (ones1 ho230.one) rfl rfl rfl rfl (by decide) hX217.pins (fun u231 w232 ho233 hp234 hl235 hk236 => ?_)))
        have hX237 := hX217.step hp234 hl235
        have ho238 := ho218.below hl235
        have ho239 := ho219.below hl235
        have ho240 := ho220.below hl235
        have ho241 := ho230.below hl235
        have hb242 := hb221.below hl235
        have hb243 := hb222.below hl235
        have hlv244 := (hlv223.below hl235).top
        have ha245 : Apart u231.ownBlock rv.ownBlock := new_ne_own hk236 ho218.lt
        have ha246 : Apart u231.ownBlock u135.ownBlock := new_ne_own hk236 ho219.lt
        have ha247 : Apart u231.ownBlock u172.ownBlock := new_ne_own hk236 ho220.lt
        have ha248 : Apart u231.ownBlock u212.ownBlock := new_ne_own hk236 ho230.lt
        have ha249 : Apart u231.ownBlock (some b17) := new_ne_box hk236 hb221.lt
        have ha250 : Apart u231.ownBlock (some b42) := new_ne_box hk236 hb222.lt
        have ha251 : ApL LV u231.ownBlock := ApL.fresh hlv223 (fun k hk => by rw [hk236] at hk; cases hk; exact Nat.le_refl _)
        have ho252 : Own eVal 29 G213 w232 w.heap.size u231 ([u212]) := ho233.weaken hX217.size
        refine ⟨fun _ => ⟨hb243.reads, (Pins.of_le hX237.pins hx216.le)⟩, ?_⟩
        refine dr_one (i := 6) (by kernel_rfl) (drOp1 (i := 6) rfl rfl rfl (want_none rfl _) (o_append (E := eVal) (v := rv) (u := u231) 24 Try.underlying42 ap29 (by decide) rfl rfl hX237.pins ho238 ho252.src (by first | omega | (rw [List.nil_append]; omega) | (rw [List.length_nil]; omega) | (rw [List.length_append]; omega) | (simp; done) | (simp; omega)) (by first | omega | (rw [List.nil_append]; omega) | (rw [List.length_nil]; omega) | (rw [List.length_append]; omega) | (simp; done) | (simp; omega)) (hX237.size) (fun u253 w254 ho255 hp256 hg257 hw258 => ?_)))
        have hX259 := hX237.write hp256 hg257 ((lo_own ho238))
        have ho260 := ho239.keptA hg257 ha147
        have ho261 := ho240.keptA hg257 ha185.symm
        have ho262 := ho241.keptA hg257 ha224
        have ho263 := ho252.keptA hg257 ha245
        have hb264 := hb242.keptA hg257 ha73.symm
        have hb265 := hb243.keptA hg257 ha74.symm
        have hlv266 := (hlv244.kept hg257 ha77).top
        have ha267 : Apart u135.ownBlock u253.ownBlock := app_ne_own ha147 hw258 ho239.lt
        have ha268 : Apart u172.ownBlock u253.ownBlock := app_ne_own ha185.symm hw258 ho240.lt
        have ha269 : Apart u212.ownBlock u253.ownBlock := app_ne_own ha224 hw258 ho241.lt
        have ha270 : Apart u231.ownBlock u253.ownBlock := app_ne_own ha245 hw258 ho252.lt
        have ha271 : Apart (some b17) u253.ownBlock := app_ne_box ha73.symm hw258 hb242.lt
        have ha272 : Apart (some b42) u253.ownBlock := app_ne_box ha74.symm hw258 hb243.lt
        have ha273 : ApL LV u253.ownBlock := ApL.app hlv244 ha77 hw258
        have hm274 : (vs ++ ([u212])).length = vs.length + 1 := by simp
        refine ⟨fun _ => ⟨hb265.reads, (Pins.of_le hX259.pins hx216.le)⟩, ?_⟩
        refine dr_take (i := 7) rfl rfl rfl (want_none rfl _) (by kernel_rfl) (fun _ _ => r_fldp (k := 1) rfl Try.underlying44 rfl nz42 rfl) ⟨hb265.reads, (Pins.of_le hX259.pins hx216.le)⟩ ?_
        refine dr_one (i := 8) (by kernel_rfl) (drOp0 (i := 8) rfl rfl rfl (want_none rfl _) (o_stp (cs' := [u172, u253]) (us := [u253]) (v := u253) sz42 rfl rfl (cells1 ho255.one) (ones1 ho255.one) hX259.pins hb265 (Nat.le_of_ble_eq_true rfl) rfl (fun w275 hb276 hp277 hg278 hz279 => ?_)))
        have hX280 := hX259.write hp277 hg278 ((lo_box hlo53))
        have ho281 := ho260.keptA hg278 ha149
        have ho282 := ho261.keptA hg278 ha189.symm
        have ho283 := ho262.keptA hg278 ha228
        have ho284 := ho255.keptA hg278 ha272.symm
        have hb285 := hb264.keptA hg278 ha51.symm
        have hlv286 := (hlv266.kept hg278 ha79).top
        refine ⟨fun h => absurd rfl h, ?_⟩
        refine dr_end (by kernel_rfl) ?_
        refine s_blkN ?_
        refine s_then ?_
        refine c_reg ?_
        refine qd rfl rfl rfl (r_add rfl rfl (by omega)) ?_
        refine qd rfl rfl rfl (r_move (v := (.int .i64 ((j : Int) + 1))) rfl) ?_
        refine qe ?_
        refine s_lopN ?_
        have hlv287 := hlv286.add ho281 ha150
        have ha288 : ApL (LV ++ [(u135, (ns.getD j default).l)]) u172.ownBlock := ha190.add ha186
        have ha289 : ApL (LV ++ [(u135, (ns.getD j default).l)]) u212.ownBlock := ha229.add ha225.symm
        have ha290 : ApL (LV ++ [(u135, (ns.getD j default).l)]) u253.ownBlock := ha273.add ha267
        have ha291 : ApL (LV ++ [(u135, (ns.getD j default).l)]) (some b17) := ha78.add ha148
        have ha292 : ApL (LV ++ [(u135, (ns.getD j default).l)]) (some b42) := ha79.add ha149
        have hlv293 := hlv287.add ho283 ha289
        have ha294 : ApL ((LV ++ [(u135, (ns.getD j default).l)]) ++ [(u212, (ns.getD j default).r)]) u172.ownBlock := ha288.add ha226
        have ha295 : ApL ((LV ++ [(u135, (ns.getD j default).l)]) ++ [(u212, (ns.getD j default).r)]) u253.ownBlock := ha290.add ha269
        have ha296 : ApL ((LV ++ [(u135, (ns.getD j default).l)]) ++ [(u212, (ns.getD j default).r)]) (some b17) := ha291.add ha227
        have ha297 : ApL ((LV ++ [(u135, (ns.getD j default).l)]) ++ [(u212, (ns.getD j default).r)]) (some b42) := ha292.add ha228
        refine ⟨_, ?_, _, rfl, _, j + 1, u172, u253, us ++ [u135], vs ++ [u212], LV ++ [(u135, (ns.getD j default).l)] ++ [(u212, (ns.getD j default).r)], G213, (packS (x := 21) (packS (x := 20) (packS (x := 19) (packS (x := 4) (packS (x := 3) (pack1 (x := 2) rfl) rfl) rfl) rfl) rfl) rfl), rfl, hX280, (Pin.le_trans (Pin.le_trans (Pin.le_trans hlek62 hle118) hx139.le) hx216.le), (by omega), (lvN_zip hLV (by omega) hul hvl), (by simp; omega), (by simp; omega), ho282, ho284, hb285, hb276, ha268, ha188.symm, ha189.symm, ha271.symm, ha272.symm, hlv293, ha294, ha295, ha296, ha297⟩
        omega
      · skip
        refine wp_exit ?_
        refine s_thenE ?_
        refine s_lopE ?_
        refine s_blkE ?_
        refine s_then ?_
        refine s_seq ?_
        refine c_reg ?_
        refine qd rfl rfl rfl (r_ldpA (cs := [lu, rv]) ag44 sz44 rfl (fun j u hj => hw69.cell (by simpa using hj))) ?_
        refine q0 rfl rfl rfl (o_stp (cs' := [lu, rv]) (us := [lu, rv]) (v := (.agg [lu, rv].toArray)) sz44 rfl rfl rfl (ones2 hw66.one hw67.one) hX65.pins hw68 (Nat.le_of_ble_eq_true rfl) rfl (fun w298 hb299 hp300 hg301 hz302 => ?_))
        have hX303 := hX65.write hp300 hg301 ((lo_box hlo26))
        have ho304 := hw66.keptA hg301 ha71
        have ho305 := hw67.keptA hg301 ha73
        have hb306 := hw69.keptA hg301 ha51
        have hlv307 := (hlv75.kept hg301 ha78).top
        refine qd rfl rfl rfl (r_assign (v := (.bool true)) rfl) ?_
        refine qe ?_
        refine s_then ?_
        refine wp_ret ?_
        refine s_ret ?_
        refine c_retct (cs := [lu, rv]) (v := (.bool true)) rfl rfl rfl rfl rfl ag44 sz44 (fun j u hj => by rw [Nat.zero_add]; exact hb299.cell hj) ?_
        have hjn : j = ns.length := by omega
        subst hjn
        have hpm := lvN_perm hul hvl
        rw [List.take_length] at hLV
        rw [← hLV] at hpm
        obtain ⟨e1, e2, e3⟩ := lp_yes (ns := ns) h33 h34
        rw [e1, e2, e3]
        exact ⟨_, _, _, rfl, ⟨us, vs, by simp [hul], by simp [hvl], ho304, ho305, fun k hk => (ho304.lt k hk).2, fun k hk => (ho305.lt k hk).2, hlv307.perm hpm, ha76.perm hpm, ha77.perm hpm, ha70⟩, hX303⟩
  · skip
    refine qs rfl rfl rfl rfl rfl rfl ?_
    refine qs rfl rfl rfl rfl rfl rfl ?_
    refine qs rfl rfl rfl rfl rfl rfl ?_
    refine qs rfl rfl rfl rfl rfl rfl ?_
    refine qd rfl rfl rfl (r_pickT (v := (.bool true)) rfl rfl) ?_
    refine qe ?_
    refine s_then ?_
    refine c_ifT rfl rfl ?_
    refine s_seq ?_
    refine c_reg ?_
    refine qd rfl rfl rfl (r_build [(.slice none 0 0), (.slice none 0 0)] [(.slice none 0 0), (.slice none 0 0)] [] Try.underlying44 zr44 rfl pl44 rfl (fun _ h => by cases h) rfl) ?_
    refine q0 rfl rfl rfl (o_stp (cs' := [(.slice none 0 0), (.slice none 0 0)]) (us := [(.slice none 0 0), (.slice none 0 0)]) (v := (.agg [(.slice none 0 0), (.slice none 0 0)].toArray)) sz44 rfl rfl rfl (ones2 (by rfl) (by rfl)) hX30.pins hb31 (Nat.le_of_ble_eq_true rfl) rfl (fun w308 hb309 hp310 hg311 hz312 => ?_))
    have hX313 := hX30.write hp310 hg311 ((lo_box hlo26))
    have hlv314 := (hlv32.kept hg311 ha25).top
    refine qd rfl rfl rfl (r_assign (v := (.bool false)) rfl) ?_
    refine qe ?_
    refine s_then ?_
    refine wp_ret ?_
    refine s_ret ?_
    refine c_retct (cs := [(.slice none 0 0), (.slice none 0 0)]) (v := (.bool false)) rfl rfl rfl rfl rfl ag44 sz44 (fun j u hj => by rw [Nat.zero_add]; exact hb309.cell hj) ?_
    obtain ⟨e1, e2, e3⟩ := lp_no (ns := ns) (Or.inl h33)
    rw [e1, e2, e3]
    exact ⟨_, _, _, rfl, ⟨[], [], rfl, rfl, Own.nil _ _ _ _ _, Own.nil _ _ _ _ _, fun k hk => (by cases hk), fun k hk => (by cases hk), Lvs.nil, ApL.nil, ApL.nil, apart_none⟩, hX313⟩

end G1
end Go.Proofs.Ytpninmgcgmpmoaa
