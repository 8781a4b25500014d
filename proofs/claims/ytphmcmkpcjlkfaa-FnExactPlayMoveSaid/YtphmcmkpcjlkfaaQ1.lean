/- Walks, printed by a program (walkgen.py) from the spec specs_q. -/
import Derived.Test.YtphmcmkpcjlkfaaChecked
import Derived.Test.YtphmcmkpcjlkfaaRow
import Derived.Test.YtphmcmkpcjlkfaaOpts
import Derived.Test.YtphmcmkpcjlkfaaB1
import Derived.Test.YtphmcmkpcjlkfaaC1
import Derived.Test.YtphmcmkpcjlkfaaE1
import Derived.Test.YtphmcmkpcjlkfaaL1
import Derived.Test.YtphmcmkpcjlkfaaG1
import Derived.Test.YtphmcmkpcjlkfaaM1
import Derived.Test.YtphmcmkpcjlkfaaN1
set_option maxRecDepth 20000
set_option maxHeartbeats 2000000
namespace Go.Proofs.Ytphmcmkpcjlkfaa
namespace Q1
open Go.RowKit Go.GL Go.Proofs
open Go.Proofs.Ytphmcmkpcjlkfaa.B1
open Go.Proofs.Ytphmcmkpcjlkfaa.C1
open Go.Proofs.Ytphmcmkpcjlkfaa.E1
open Go.Proofs.Ytphmcmkpcjlkfaa.L1
open Go.Proofs.Ytphmcmkpcjlkfaa.G1
open Go.Proofs.Ytphmcmkpcjlkfaa.M1
open Go.Proofs.Ytphmcmkpcjlkfaa.N1
theorem ag3 : (Try.prog.underlying 3).map aggD = some false := by kernel_rfl
theorem ag4 : (Try.prog.underlying 4).map aggD = some false := by kernel_rfl
theorem ag48 : (Try.prog.underlying 48).map aggD = some false := by kernel_rfl
theorem ag50 : (Try.prog.underlying 50).map aggD = some true := by kernel_rfl
theorem ag63 : (Try.prog.underlying 63).map aggD = some false := by kernel_rfl
theorem ag90 : (Try.prog.underlying 90).map aggD = some true := by kernel_rfl
theorem ap90 : (Try.prog.info? 90).map (fun i => (i.size, i.bytes, (i.zero.map (·.cells.size)))) = some (2, 48, some 2) := by kernel_rfl
theorem mk3 : (Try.prog.info? 3).map (fun i => (i.size, i.bytes, i.zero)) = some (1, 8, some (.int .i64 0)) := by kernel_rfl
theorem nm54 : (Try.f54.name == "runtime.NumGoroutine") = false := by kernel_rfl
theorem nm73 : (Try.f73.name == "runtime.NumGoroutine") = false := by kernel_rfl
theorem nm77 : (Try.f77.name == "runtime.NumGoroutine") = false := by kernel_rfl
theorem nm81 : (Try.f81.name == "runtime.NumGoroutine") = false := by kernel_rfl
theorem nz48 : (Try.prog.info? 48).map (·.size == 0) = some false := by kernel_rfl
theorem nz63 : (Try.prog.info? 63).map (·.size == 0) = some false := by kernel_rfl
theorem pl50 : (Try.prog.underlying 50).bind (placesD Try.prog) = some [(0, 1)] := by kernel_rfl
theorem pl90 : (Try.prog.underlying 90).bind (placesD Try.prog) = some [(0, 1), (1, 1)] := by kernel_rfl
theorem sz3 : (Try.prog.info? 3).map (·.size) = some 1 := by kernel_rfl
theorem sz4 : (Try.prog.info? 4).map (·.size) = some 1 := by kernel_rfl
theorem sz50 : (Try.prog.info? 50).map (·.size) = some 1 := by kernel_rfl
theorem sz90 : (Try.prog.info? 90).map (·.size) = some 2 := by kernel_rfl
theorem zr50 : (Try.prog.info? 50).bind (·.zero) = some (.agg #[(.slice none 0 0)]) := by kernel_rfl
theorem zr90 : (Try.prog.info? 90).bind (·.zero) = some (.agg #[(.slice none 0 0), (.slice none 0 0)]) := by kernel_rfl

theorem renamed_spec {w : World} {G : Pin} {u v : Value} {xs ys : List Int} (hP : Pins G w) (hu : RSl eInt G u xs) (hv : RSl eInt G v ys) (hs : xs.length ≤ 1048576) (hb : ∀ i, i < xs.length → 0 ≤ xs.getD i 0 ∧ xs.getD i 0 < ys.length) :
    Calls Try.prog 77 [u, v].toArray w fun e w' => ∃ (u : Value) (G' : Pin), e = .returned u ∧ Own eInt 3 G' w' w.heap.size u (atL ys xs) ∧ Ext noS G w G' w' := by
  refine s_enter (n := 27) Try.func77 Try.ntmps77 rfl rfl ?_
  have hX0 : Ext noS G w G w := Ext.refl hP
  have hm := hu.max
  have hal : (atL ys xs).length = xs.length := at_length
  have hrl : (List.replicate xs.length (0 : Int)).length = xs.length := List.length_replicate
  refine s_seq ?_
  refine c_reg ?_
  refine qd rfl rfl rfl (r_assign (v := (.slice none 0 0)) rfl) ?_
  refine qe ?_
  refine s_then ?_
  refine s_seq ?_
  refine c_reg ?_
  refine qd rfl rfl rfl (r_move (v := u) rfl) ?_
  refine qd rfl rfl rfl (run_len Try.underlying63 (v := u) rfl hu) ?_
  refine q1 rfl rfl rfl (o_make (E := eInt) 0 8 (.int .i64 0) Try.underlying63 mk3 (fun _ => rfl) rfl rfl hX0.pins (by omega) (by omega) (by omega) (fun u1 w2 ho3 hp4 hl5 hk6 => ?_))
  have hX7 := hX0.step hp4 hl5
  have ho8 : Own eInt 3 G w2 w.heap.size u1 (List.replicate xs.length 0) := ho3.weaken hX0.size
  have hm9 : (List.replicate xs.length 0).length = xs.length := List.length_replicate ..
  refine qd rfl rfl rfl (r_assign (v := u1) rfl) ?_
  refine qe ?_
  refine s_then ?_
  refine s_seq ?_
  refine s_seq ?_
  refine c_reg ?_
  refine qd rfl rfl rfl (r_move (v := u) rfl) ?_
  refine qd rfl rfl rfl (run_len Try.underlying63 (v := u) rfl hu) ?_
  refine qd rfl rfl rfl (r_move (v := (.int .i64 0)) rfl) ?_
  refine qe ?_
  refine s_then ?_
  refine s_blk ?_
  refine s_loop (fun (k : Nat) (en : Nat → Value) (W : World) => ∃ (env1 : Nat → Value) (j : Nat) (os : List Int), en = (upd (upd (upd (upd (upd (upd env1 1 v) 4 (.slice none 0 0)) 5 u1) 11 u) 12 (.int .i64 (xs.length : Int))) 13 (.int .i64 (j : Int))) ∧ k = xs.length - j ∧ Ext noS G w G W ∧ (j ≤ xs.length) ∧ (os = (atL ys xs).take j ++ (List.replicate xs.length 0).drop j) ∧ (os.length = xs.length) ∧ (Own eInt 3 G W w.heap.size u1 (os))) _ ⟨_, 0, List.replicate xs.length 0, (packS (x := 13) (packS (x := 12) (packS (x := 11) (packS (x := 5) (packS (x := 4) (pack1 (x := 1) rfl) rfl) rfl) rfl) rfl) rfl), rfl, hX7, Nat.zero_le _, rfl, hrl, ho8⟩ ?_
  rintro k10 _ w11 ⟨env1, j, os, rfl, hk12, hX13, hj, hr, hol, hw14⟩
  refine s_seq ?_
  refine c_reg ?_
  refine qd rfl rfl rfl (r_lss rfl rfl) ?_
  refine qe ?_
  refine s_then ?_
  refine s_seq ?_
  refine c_ifd (p := ((j : Int) : Int) < (xs.length : Int)) rfl rfl (fun h15 => ?_) (fun h15 => ?_)
  · skip
    have hbj := hb j (by omega)
    refine wp_skip ?_
    refine s_then ?_
    refine s_seq ?_
    refine s_blk ?_
    refine s_seq ?_
    refine c_reg ?_
    refine qd rfl rfl rfl (r_move (v := (.int .i64 (j : Int))) rfl) ?_
    refine qd rfl rfl rfl (run_idx Try.underlying63 sz3 (v := u) rfl rfl hu (by omega) (by omega)) ?_
    refine qd rfl rfl rfl (run_load_int (r := xs.getD j 0) rfl ag3 (z := (j : Int)) rfl hu hX13.pins (by omega) (by omega)) ?_
    refine qd rfl rfl rfl (r_assign (v := (.int .i64 (j : Int))) rfl) ?_
    refine qd rfl rfl rfl (r_assign (v := (.int .i64 (xs.getD j 0))) rfl) ?_
    refine qe ?_
    refine s_then ?_
    refine c_reg ?_
    refine qd rfl rfl rfl (r_move (v := u1) rfl) ?_
    refine qd rfl rfl rfl (r_move (v := (.int .i64 (j : Int))) rfl) ?_
    refine qd rfl rfl rfl (r_move (v := v) rfl) ?_
    refine qd rfl rfl rfl (r_move (v := (.int .i64 (xs.getD j 0))) rfl) ?_
    refine qd rfl rfl rfl (run_idx Try.underlying63 sz3 (v := v) rfl rfl hv (by omega) (by omega)) ?_
    refine qd rfl rfl rfl (run_load_int (r := ys.getD (xs.getD j 0).toNat 0) rfl ag3 (z := (xs.getD j 0)) rfl hv hX13.pins (by omega) (by omega)) ?_
    refine qd rfl rfl rfl (run_idx Try.underlying63 sz3 (v := u1) rfl rfl hw14.read (by omega) (by omega)) ?_
    refine q0 rfl rfl rfl (o_set (E := eInt) (v := u1) (u := (.int .i64 (ys.getD (xs.getD j 0).toNat 0))) (z := (j : Int)) (ys.getD (xs.getD j 0).toNat 0) sz3 rfl rfl rfl rfl hX13.pins hw14 (by omega) (by omega) (fun w16 ho17 hp18 hg19 hz20 => ?_))
    have hX21 := hX13.write hp18 hg19 ((lo_own hw14))
    refine qe ?_
    refine s_blkN ?_
    refine s_then ?_
    refine c_reg ?_
    refine qd rfl rfl rfl (r_add rfl rfl (by omega)) ?_
    refine qd rfl rfl rfl (r_move (v := (.int .i64 ((j : Int) + 1))) rfl) ?_
    refine qe ?_
    refine s_lopN ?_
    refine ⟨_, ?_, _, rfl, _, j + 1, os.set j (ys.getD (xs.getD j 0).toNat 0), (packS (x := 13) (packS (x := 12) (packS (x := 11) (packS (x := 5) (packS (x := 4) (pack1 (x := 1) rfl) rfl) rfl) rfl) rfl) rfl), rfl, hX21, (by omega), (by rw [hr]; exact cur_set 0 (by omega) (by omega) (at_getD (by omega))), ((List.length_set ..).trans hol), ho17⟩
    omega
  · skip
    refine wp_exit ?_
    refine s_thenE ?_
    refine s_lopE ?_
    refine s_blkE ?_
    refine s_then ?_
    refine s_seq ?_
    refine c_reg ?_
    refine qd rfl rfl rfl (r_move (v := u1) rfl) ?_
    refine qd rfl rfl rfl (r_assign (v := u1) rfl) ?_
    refine qe ?_
    refine s_then ?_
    refine wp_ret ?_
    refine s_ret ?_
    refine c_ret1 (v := u1) rfl rfl rfl ?_
    rw [cur_end (by omega) (by omega)] at hr
    exact ⟨_, _, rfl, (by rw [← hr]; exact hw14), hX13⟩

theorem part_dspec {w : World} {G : Pin} {v : Value} {ns : List Nd} {m : Nat} (hP : Pins G w) (hv : RSl eNode G v ns) (hg : GoodP ns) (hm : m < ns.length) :
    Calls Try.prog 52 [(.agg [v].toArray), (.int .i64 (m : Int))].toArray w fun e w' => ∃ (u : Value) (G' : Pin), e = .returned (.agg [u].toArray) ∧ DForm 90 3 G' w' w.heap.size w'.heap.size u (partI ns m) ∧ Ext noS G w G' w' := by
  refine s_enter (n := 54) Try.func52 Try.ntmps52 rfl rfl ?_
  have hX0 : Ext noS G w G w := Ext.refl hP
  have hlv0 : Lvs 3 G w w.heap.size w.heap.size [] := Lvs.nil
  have hhi := hg.hi
  obtain ⟨hwf, -, -⟩ := wf_good hg
  refine s_seq ?_
  refine c_reg ?_
  refine q1 rfl rfl rfl (o_box [v] (v := (.agg [v].toArray)) rfl rfl hX0.pins (fun b1 w2 hk3 hb4 hp5 hl6 => ?_))
  have hX7 := hX0.step hp5 hl6
  have hlv8 := (hlv0.below hl6).top
  have ha9 : ApL [] (some b1) := ApL.fresh hlv0 (fun k hk => by rw [(congrArg some hk3)] at hk; cases hk; exact Nat.le_refl _)
  have hlo10 : w.heap.size ≤ b1 := by have := hX0.size; omega
  obtain ⟨G11, hle12, hX13, hbp14, hf15⟩ := hb4.shut hX7 hlo10
  have hlv16 := hlv8.more hle12 hf15 ha9
  refine q1 rfl rfl rfl (o_alloc [(.slice none 0 0)] zr50 rfl hX13.pins (fun b17 w18 hk19 hb20 hp21 hl22 => ?_))
  have hX23 := hX13.step hp21 hl22
  have hlv24 := (hlv16.below hl22).top
  have ha25 : ApL [] (some b17) := ApL.fresh hlv16 (fun k hk => by rw [(congrArg some hk19)] at hk; cases hk; exact Nat.le_refl _)
  have hlo26 : w.heap.size ≤ b17 := by have := hX13.size; omega
  refine qe ?_
  refine s_then ?_
  refine s_seq ?_
  refine c_reg ?_
  refine qd rfl rfl rfl (r_fldp (k := 0) rfl Try.underlying50 rfl nz48 rfl) ?_
  refine qd rfl rfl rfl (r_ldp1 (u := v) ag48 rfl (hX23.pins _ _ _ (hbp14 0 _ rfl))) ?_
  refine qd rfl rfl rfl (r_move (v := (.int .i64 (m : Int))) rfl) ?_
  refine q1 rfl rfl rfl (o_call (vs := [v, (.int .i64 (m : Int))]) Try.func73 nm73 rfl rfl rfl ?_)
  refine Calls.mono (used_spec hX23.pins (hv.mono hle12) hwf.ok.opts (by omega)) ?_
  rintro _ w29 ⟨u27, G28, rfl, ho30, hx31⟩
  refine ⟨_, rfl, ?_⟩
  have hX32 := hX23.tr hx31
  have hb33 := hb20.ext hx31
  have hlv34 := (hlv24.ext hx31).top
  have ha35 : Apart u27.ownBlock (some b17) := made_ne_box ho30.lt hb20.lt
  have ha36 : ApL [] u27.ownBlock := ApL.fresh hlv24 (fun k hk => (ho30.lt k hk).1)
  have ho37 : Own eBool 4 G28 w29 w.heap.size u27 (usedM ns ((m : Int)).toNat) := ho30.weaken hX23.size
  refine qd rfl rfl rfl (r_assign (v := u27) rfl) ?_
  refine qe ?_
  refine s_then ?_
  refine s_seq ?_
  refine c_reg ?_
  refine qd rfl rfl rfl (r_fldp (k := 0) rfl Try.underlying50 rfl nz48 rfl) ?_
  refine qd rfl rfl rfl (r_ldp1 (u := v) ag48 rfl ((Pins.of_le hX32.pins hx31.le) _ _ _ (hbp14 0 _ rfl))) ?_
  refine qd rfl rfl rfl (run_len Try.underlying48 (v := v) rfl hv) ?_
  refine q1 rfl rfl rfl (o_make (E := eInt) 0 8 (.int .i64 0) Try.underlying63 mk3 (fun _ => rfl) rfl rfl hX32.pins (by omega) (by omega) (by omega) (fun u38 w39 ho40 hp41 hl42 hk43 => ?_))
  have hX44 := hX32.step hp41 hl42
  have ho45 := ho37.below hl42
  have hb46 := hb33.below hl42
  have hlv47 := (hlv34.below hl42).top
  have ha48 : Apart u38.ownBlock u27.ownBlock := new_ne_own hk43 ho37.lt
  have ha49 : Apart u38.ownBlock (some b17) := new_ne_box hk43 hb33.lt
  have ha50 : ApL [] u38.ownBlock := ApL.fresh hlv34 (fun k hk => by rw [hk43] at hk; cases hk; exact Nat.le_refl _)
  have ho51 : Own eInt 3 G28 w39 w.heap.size u38 (List.replicate ns.length 0) := ho40.weaken hX32.size
  have hm52 : (List.replicate ns.length 0).length = ns.length := List.length_replicate ..
  refine qd rfl rfl rfl (r_assign (v := u38) rfl) ?_
  refine qe ?_
  refine s_then ?_
  refine s_seq ?_
  refine c_reg ?_
  refine q1 rfl rfl rfl (o_build0 (E := eVal2) (e := 90) Try.underlying48 sz90 hX44.pins (fun u53 w54 ho55 hp56 hl57 hk58 => ?_))
  have hX59 := hX44.step hp56 hl57
  have ho60 := ho45.below hl57
  have ho61 := ho51.below hl57
  have hb62 := hb46.below hl57
  have hlv63 := (hlv47.below hl57).top
  have ha64 : Apart u53.ownBlock u27.ownBlock := new_ne_own hk58 ho45.lt
  have ha65 : Apart u53.ownBlock u38.ownBlock := new_ne_own hk58 ho51.lt
  have ha66 : Apart u53.ownBlock (some b17) := new_ne_box hk58 hb46.lt
  have ha67 : ApL [] u53.ownBlock := ApL.fresh hlv47 (fun k hk => by rw [hk58] at hk; cases hk; exact Nat.le_refl _)
  have ho68 : Own eVal2 90 G28 w54 w.heap.size u53 ([]) := ho55.weaken hX44.size
  refine qd rfl rfl rfl (r_assign (v := u53) rfl) ?_
  refine qe ?_
  refine s_then ?_
  refine s_seq ?_
  refine s_seq ?_
  refine c_reg ?_
  refine qd rfl rfl rfl (r_fldp (k := 0) rfl Try.underlying50 rfl nz48 rfl) ?_
  refine qd rfl rfl rfl (r_ldp1 (u := v) ag48 rfl ((Pins.of_le hX59.pins hx31.le) _ _ _ (hbp14 0 _ rfl))) ?_
  refine qd rfl rfl rfl (r_move (v := (.int .i64 (m : Int))) rfl) ?_
  refine qd rfl rfl rfl (r_add rfl rfl (by omega)) ?_
  obtain ⟨u69, hr70, hl71⟩ := name_slice hv (lo := none) (hi := (some ((m : Int) + 1))) (0) (((m : Int) + 1).toNat) (Or.inl ⟨rfl, rfl⟩) (Or.inr ⟨_, rfl, (by omega), rfl⟩) (by omega) (by omega)
  refine qd rfl rfl rfl (hl71 Try.underlying48 sz90 rfl rfl rfl) ?_
  refine qd rfl rfl rfl (run_len Try.underlying48 (v := u69) rfl hr70) ?_
  refine qd rfl rfl rfl (r_move (v := (.int .i64 0)) rfl) ?_
  refine qe ?_
  refine s_then ?_
  refine s_blk ?_
  have htl : ((ns.take ((m : Int) + 1).toNat).drop 0).length = m + 1 := by rw [List.drop_zero, List.length_take]; omega
  have hul : (usedM ns (m : Int).toNat).length = ns.length := by unfold usedM; rw [ugo_length]; simp
  refine s_loop (fun (k : Nat) (en : Nat → Value) (W : World) => ∃ (env1 : Nat → Value) (j : Nat) (nms : List Int) (nv : Value) (ps : List (Value × Value)) (LV : List Leaf) (GL1 : Pin), en = (upd (upd (upd (upd (upd (upd (upd env1 4 (.pointer (some ⟨b17, 0, none⟩))) 5 u27) 6 u38) 7 nv) 23 u69) 24 (.int .i64 (((ns.take ((m : Int) + 1).toNat).drop 0).length : Int))) 25 (.int .i64 (j : Int))) ∧ k = m + 1 - j ∧ Ext noS G w GL1 W ∧ Pin.le G28 GL1 ∧ (j ≤ m + 1) ∧ (PartOk (useU ns m) j nms) ∧ (nms.length = ns.length) ∧ (ps.length = posU (useU ns m) j) ∧ (LV = lvN ps (partN (useU ns m) ns j)) ∧ (Own eInt 3 GL1 W w.heap.size u38 (nms)) ∧ (Own eVal2 90 GL1 W w.heap.size nv (ps)) ∧ (Own eBool 4 GL1 W w.heap.size u27 (usedM ns ((m : Int)).toNat)) ∧ (Bx GL1 W b17 [(.slice none 0 0)]) ∧ (Apart u38.ownBlock nv.ownBlock) ∧ (Apart nv.ownBlock u27.ownBlock) ∧ (Apart nv.ownBlock (some b17)) ∧ (Lvs 3 GL1 W w.heap.size W.heap.size LV) ∧ (ApL LV u38.ownBlock) ∧ (ApL LV nv.ownBlock) ∧ (ApL LV u27.ownBlock) ∧ (ApL LV (some b17))) _ ⟨_, 0, List.replicate ns.length 0, u53, [], [], G28, (packS (x := 25) (packS (x := 24) (packS (x := 23) (packS (x := 7) (packS (x := 6) (packS (x := 5) (pack1 (x := 4) rfl) rfl) rfl) rfl) rfl) rfl) rfl), rfl, hX59, Pin.le_refl _, Nat.zero_le _, ⟨fun k hk => absurd hk (Nat.not_lt_zero k)⟩, (by simp), rfl, rfl, ho61, ho68, ho60, hb62, ha65.symm, ha64, ha66, hlv63, ha50, ha67, ha36, ha25⟩ ?_
  rintro k72 _ w73 ⟨env1, j, nms, nv, ps, LV, GL1, rfl, hk74, hX75, hlek72, hj, hnp, hnl, hpl, hLV, hw76, hw77, hw78, hw79, ha80, ha81, ha82, hlv83, ha84, ha85, ha86, ha87⟩
  refine s_seq ?_
  refine c_reg ?_
  refine qd rfl rfl rfl (r_lss rfl rfl) ?_
  refine qe ?_
  refine s_then ?_
  refine s_seq ?_
  refine c_ifd (p := ((j : Int) : Int) < (((ns.take ((m : Int) + 1).toNat).drop 0).length : Int)) rfl rfl (fun h88 => ?_) (fun h88 => ?_)
  · skip
    have hgj : ((ns.take ((m : Int) + 1).toNat).drop 0).getD j default = ns.getD j default := by rw [List.drop_zero, getD_take (by omega)]
    have hplo := posU_lower (useU ns m) j
    have hlj := hg.lenl (i := j) (by omega)
    have hrj := hg.lenr (i := j) (by omega)
    rw [← hgj] at hlj hrj
    refine wp_skip ?_
    refine s_then ?_
    refine s_seq ?_
    refine s_blk ?_
    refine s_seq ?_
    refine c_reg ?_
    refine qd rfl rfl rfl (r_move (v := (.int .i64 (j : Int))) rfl) ?_
    refine qd rfl rfl rfl (run_idx Try.underlying48 sz90 (v := u69) rfl rfl hr70 (by omega) (by omega)) ?_
    obtain ⟨u89, u90, hr91, hr92, hl93⟩ := nm_node (hr70.at (z := (j : Int)) (by omega) (by omega)) (j := j) rfl
    have hm94 := hr91.max
    have hm95 := hr92.max
    refine qd rfl rfl rfl (hl93 ag90 sz90 rfl (Pins.of_le hX75.pins (Pin.le_trans (Pin.le_trans hle12 hx31.le) hlek72))) ?_
    refine q1 rfl rfl rfl (o_alloc [(.slice none 0 0), (.slice none 0 0)] zr90 rfl hX75.pins (fun b96 w97 hk98 hb99 hp100 hl101 => ?_))
    have hX102 := hX75.step hp100 hl101
    have ho103 := hw76.below hl101
    have ho104 := hw77.below hl101
    have ho105 := hw78.below hl101
    have hb106 := hw79.below hl101
    have hlv107 := (hlv83.below hl101).top
    have ha108 : Apart (some b96) u38.ownBlock := new_ne_own (congrArg some hk98) hw76.lt
    have ha109 : Apart (some b96) nv.ownBlock := new_ne_own (congrArg some hk98) hw77.lt
    have ha110 : Apart (some b96) u27.ownBlock := new_ne_own (congrArg some hk98) hw78.lt
    have ha111 : Apart (some b96) (some b17) := new_ne_box (congrArg some hk98) hw79.lt
    have ha112 : ApL LV (some b96) := ApL.fresh hlv83 (fun k hk => by rw [(congrArg some hk98)] at hk; cases hk; exact Nat.le_refl _)
    have hlo113 : w.heap.size ≤ b96 := by have := hX75.size; omega
    refine qd rfl rfl rfl (r_assign (v := (.int .i64 (j : Int))) rfl) ?_
    refine q0 rfl rfl rfl (o_stp (cs' := [u89, u90]) (us := [u89, u90]) (v := (.agg [u89, u90].toArray)) sz90 rfl rfl rfl (ones2 hr91.one hr92.one) hX102.pins hb99 (Nat.le_of_ble_eq_true rfl) rfl (fun w114 hb115 hp116 hg117 hz118 => ?_))
    have hX119 := hX102.write hp116 hg117 ((lo_box hlo113))
    have ho120 := ho103.keptA hg117 ha108.symm
    have ho121 := ho104.keptA hg117 ha109.symm
    have ho122 := ho105.keptA hg117 ha110.symm
    have hb123 := hb106.keptA hg117 ha111.symm
    have hlv124 := (hlv107.kept hg117 ha112).top
    obtain ⟨G125, hle126, hX127, hbp128, hf129⟩ := hb115.shut hX119 hlo113
    have ho130 := ho120.moreA hle126 hf129 ha108.symm
    have ho131 := ho121.moreA hle126 hf129 ha109.symm
    have ho132 := ho122.moreA hle126 hf129 ha110.symm
    have hb133 := hb123.moreA hf129 ha111.symm
    have hlv134 := hlv124.more hle126 hf129 ha112
    refine qe ?_
    refine s_then ?_
    refine s_seq ?_
    refine c_reg ?_
    refine qd rfl rfl rfl (r_move (v := u27) rfl) ?_
    refine qd rfl rfl rfl (r_move (v := (.int .i64 (j : Int))) rfl) ?_
    refine qd rfl rfl rfl (run_idx Try.underlying104 sz4 (v := u27) rfl rfl ho132.read (by omega) (by omega)) ?_
    refine qd rfl rfl rfl (run_load_bool (r := (usedM ns ((m : Int)).toNat).getD j false) rfl ag4 (z := (j : Int)) rfl ho132.read (Gadd.pins hX127.pins u27) (by omega) (by omega)) ?_
    refine qe ?_
    refine s_then ?_
    refine c_if rfl rfl (fun h135 => ?_) (fun h135 => ?_)
    · skip
      refine s_seq ?_
      refine c_reg ?_
      have hpo := part_opts hg hm (show j ≤ m by omega) h135
      refine qd rfl rfl rfl (r_move (v := u38) rfl) ?_
      refine qd rfl rfl rfl (r_move (v := (.int .i64 (j : Int))) rfl) ?_
      refine qd rfl rfl rfl (r_move (v := nv) rfl) ?_
      refine qd rfl rfl rfl (run_len Try.underlying48 (v := nv) rfl ho131.read) ?_
      refine qd rfl rfl rfl (run_idx Try.underlying63 sz3 (v := u38) rfl rfl ho130.read (by omega) (by omega)) ?_
      refine q0 rfl rfl rfl (o_set (E := eInt) (v := u38) (u := (.int .i64 (ps.length : Int))) (z := (j : Int)) ((ps.length : Int)) sz3 rfl rfl rfl rfl hX127.pins ho130 (by omega) (by omega) (fun w136 ho137 hp138 hg139 hz140 => ?_))
      have hX141 := hX127.write hp138 hg139 ((lo_own ho130))
      have ho142 := ho131.keptA hg139 ha80.symm
      have ho143 := ho132.keptA hg139 ha48.symm
      have hb144 := hb133.keptA hg139 ha49.symm
      have hlv145 := (hlv134.kept hg139 ha84).top
      refine qe ?_
      refine s_then ?_
      refine c_draw (S := fun w => Pins G125 w) (last := 13) (by kernel_rfl) rfl ?_
      have hl146 : Below w136.heap.size w136 w136.drew := (Below.refl _ _).drew
      have hp147 := hX141.pins.below hl146
      have hX148 := hX141.step hp147 hl146
      have ho149 := ho137.below hl146
      have ho150 := ho142.below hl146
      have ho151 := ho143.below hl146
      have hb152 := hb144.below hl146
      have hlv153 := (hlv145.below hl146).top
      refine dr_take (i := 0) rfl rfl rfl (want_none rfl _) (by kernel_rfl) (fun _ _ => r_move (v := nv) rfl) hX148.pins ?_
      refine dr_take (i := 1) rfl rfl rfl (want_none rfl _) (by kernel_rfl) (fun _ _ => r_fldp (k := 0) rfl Try.underlying90 rfl nz63 rfl) hX148.pins ?_
      refine dr_take (i := 2) rfl rfl rfl (want_none rfl _) (by kernel_rfl) (fun _ hS => r_ldp1 (u := u89) ag63 rfl (hS _ _ _ (hbp128 0 _ rfl))) hX148.pins ?_
      refine dr_take (i := 3) rfl rfl rfl (want_none rfl _) (by kernel_rfl) (fun _ _ => r_move (v := u38) rfl) hX148.pins ?_
      refine dr_take (i := 5) rfl rfl rfl (want_none rfl _) (by kernel_rfl) (fun _ _ => r_fldp (k := 1) rfl Try.underlying90 rfl nz63 rfl) hX148.pins ?_
      refine dr_take (i := 6) rfl rfl rfl (want_none rfl _) (by kernel_rfl) (fun _ hS => r_ldp1 (u := u90) ag63 rfl (hS _ _ _ (hbp128 1 _ rfl))) hX148.pins ?_
      refine dr_take (i := 7) rfl rfl rfl (want_none rfl _) (by kernel_rfl) (fun _ _ => r_move (v := u38) rfl) hX148.pins ?_
      refine dr_one (i := 4) (by kernel_rfl) (drOp1 (i := 4) rfl rfl rfl (want_none rfl _) (o_call (vs := [u89, u38]) Try.func77 nm77 rfl rfl rfl ?_))
      refine Calls.mono (renamed_spec (Gadd.pins hX148.pins u38) ((hr91.mono (Pin.le_trans (Pin.le_trans (Pin.le_trans hle12 hx31.le) hlek72) hle126)).mono (Gadd.le _ _ _)) ho149.read (by omega) (fun i hi => by rw [hgj] at hi ⊢; have h1 := hpo.1 _ (getD_mem (d := (0 : Int)) hi); rw [List.length_set]; omega)) ?_
      rintro _ w156 ⟨u154, G155, rfl, ho157, hx158⟩
      refine ⟨_, rfl, ?_⟩
      have hx159 := deep_back hX148.pins hx158
      have ho160 := ho157.anti flat_int (Pin.le_trans (Gadd.le G125 w136.drew u38) hx158.le)
      have hX161 := hX148.step hx159.pins hx159.below
      have ho162 := ho149.below hx159.below
      have ho163 := ho150.below hx159.below
      have ho164 := ho151.below hx159.below
      have hb165 := hb152.below hx159.below
      have hlv166 := (hlv153.below hx159.below).top
      have ha167 : Apart u154.ownBlock u38.ownBlock := made_ne_own ho160.lt ho149.lt
      have ha168 : Apart u154.ownBlock nv.ownBlock := made_ne_own ho160.lt ho150.lt
      have ha169 : Apart u154.ownBlock u27.ownBlock := made_ne_own ho160.lt ho151.lt
      have ha170 : Apart u154.ownBlock (some b17) := made_ne_box ho160.lt hb152.lt
      have ha171 : ApL LV u154.ownBlock := ApL.fresh hlv153 (fun k hk => (ho160.lt k hk).1)
      have ho172 : Own eInt 3 G125 w156 w.heap.size u154 (atL ((nms).set j (ps.length : Int)) ((((ns.take ((m : Int) + 1).toNat).drop 0).getD j default).l)) := ho160.weaken hX148.size
      have hm173 : (atL ((nms).set j (ps.length : Int)) ((((ns.take ((m : Int) + 1).toNat).drop 0).getD j default).l)).length = ((((ns.take ((m : Int) + 1).toNat).drop 0).getD j default).l).length := at_length
      refine ⟨fun _ => hX161.pins, ?_⟩
      refine dr_one (i := 8) (by kernel_rfl) (drOp1 (i := 8) rfl rfl rfl (want_none rfl _) (o_call (vs := [u90, u38]) Try.func77 nm77 rfl rfl rfl ?_))
      refine Calls.mono (renamed_spec (Gadd.pins hX161.pins u38) ((hr92.mono (Pin.le_trans (Pin.le_trans (Pin.le_trans hle12 hx31.le) hlek72) hle126)).mono (Gadd.le _ _ _)) ho162.read (by omega) (fun i hi => by rw [hgj] at hi ⊢; have h1 := hpo.2 _ (getD_mem (d := (0 : Int)) hi); rw [List.length_set]; omega)) ?_
      rintro _ w176 ⟨u174, G175, rfl, ho177, hx178⟩
      refine ⟨_, rfl, ?_⟩
      have hx179 := deep_back hX161.pins hx178
      have ho180 := ho177.anti flat_int (Pin.le_trans (Gadd.le G125 w156 u38) hx178.le)
      have hX181 := hX161.step hx179.pins hx179.below
      have ho182 := ho162.below hx179.below
      have ho183 := ho163.below hx179.below
      have ho184 := ho164.below hx179.below
      have ho185 := ho172.below hx179.below
      have hb186 := hb165.below hx179.below
      have hlv187 := (hlv166.below hx179.below).top
      have ha188 : Apart u174.ownBlock u38.ownBlock := made_ne_own ho180.lt ho162.lt
      have ha189 : Apart u174.ownBlock nv.ownBlock := made_ne_own ho180.lt ho163.lt
      have ha190 : Apart u174.ownBlock u27.ownBlock := made_ne_own ho180.lt ho164.lt
      have ha191 : Apart u174.ownBlock u154.ownBlock := made_ne_own ho180.lt ho172.lt
      have ha192 : Apart u174.ownBlock (some b17) := made_ne_box ho180.lt hb165.lt
      have ha193 : ApL LV u174.ownBlock := ApL.fresh hlv166 (fun k hk => (ho180.lt k hk).1)
      have ho194 : Own eInt 3 G125 w176 w.heap.size u174 (atL ((nms).set j (ps.length : Int)) ((((ns.take ((m : Int) + 1).toNat).drop 0).getD j default).r)) := ho180.weaken hX161.size
      have hm195 : (atL ((nms).set j (ps.length : Int)) ((((ns.take ((m : Int) + 1).toNat).drop 0).getD j default).r)).length = ((((ns.take ((m : Int) + 1).toNat).drop 0).getD j default).r).length := at_length
      refine ⟨fun _ => hX181.pins, ?_⟩
      refine dr_take (i := 9) rfl rfl rfl (want_none rfl _) (by kernel_rfl) (fun _ _ => r_build [(.slice none 0 0), (.slice none 0 0)] [u154, u174] [(0, u154, [u154]), (1, u174, [u174])] Try.underlying90 zr90 rfl pl90 rfl (List.forall_mem_cons.2 ⟨(cells_one ho185.one), (List.forall_mem_cons.2 ⟨(cells_one ho194.one), (fun _ h => by cases h)⟩)⟩) rfl) hX181.pins ?_
      refine dr_one (i := 10) (by kernel_rfl) (drOp1 (i := 10) rfl rfl rfl (want_none rfl _) (o_build1 (E := eVal2) (e := 90) [u154, u174] ((u154, u174) : Value × Value) Try.underlying48 sz90 zr90 ⟨rfl, ho185.one, ho194.one⟩ rfl (by decide) hX181.pins (fun u196 w197 ho198 hp199 hl200 hk201 => ?_)))
      have hX202 := hX181.step hp199 hl200
      have ho203 := ho182.below hl200
      have ho204 := ho183.below hl200
      have ho205 := ho184.below hl200
      have ho206 := ho185.below hl200
      have ho207 := ho194.below hl200
      have hb208 := hb186.below hl200
      have hlv209 := (hlv187.below hl200).top
      have ha210 : Apart u196.ownBlock u38.ownBlock := new_ne_own hk201 ho182.lt
      have ha211 : Apart u196.ownBlock nv.ownBlock := new_ne_own hk201 ho183.lt
      have ha212 : Apart u196.ownBlock u27.ownBlock := new_ne_own hk201 ho184.lt
      have ha213 : Apart u196.ownBlock u154.ownBlock := new_ne_own hk201 ho185.lt
      have ha214 : Apart u196.ownBlock u174.ownBlock := new_ne_own hk201 ho194.lt
      have ha215 : Apart u196.ownBlock (some b17) := new_ne_box hk201 hb186.lt
      have ha216 : ApL LV u196.ownBlock := ApL.fresh hlv187 (fun k hk => by rw [hk201] at hk; cases hk; exact Nat.le_refl _)
      have ho217 : Own eVal2 90 G125 w197 w.heap.size u196 ([((u154, u174) : Value × Value)]) := ho198.weaken hX181.size
      refine ⟨fun _ => hX202.pins, ?_⟩
      refine dr_one (i := 11) (by kernel_rfl) (drOp1 (i := 11) rfl rfl rfl (want_none rfl _) (o_append (E := eVal2) (v := nv) (u := u196) 48 Try.underlying48 ap90 (by decide) rfl rfl hX202.pins ho204 ho217.src (by first | omega | (rw [List.nil_append]; omega) | (rw [List.length_nil]; omega) | (rw [List.length_append]; omega) | (simp; done) | (simp; omega)) (by first | omega | (rw [List.nil_append]; omega) | (rw [List.length_nil]; omega) | (rw [List.length_append]; omega) | (simp; done) | (simp; omega)) (hX202.size) (fun u218 w219 ho220 hp221 hg222 hw223 => ?_)))
      have hX224 := hX202.write hp221 hg222 ((lo_own ho204))
      have ho225 := ho203.keptA hg222 ha80
      have ho226 := ho205.keptA hg222 ha81.symm
      have ho227 := ho206.keptA hg222 ha168
      have ho228 := ho207.keptA hg222 ha189
      have ho229 := ho217.keptA hg222 ha211
      have hb230 := hb208.keptA hg222 ha82.symm
      have hlv231 := (hlv209.kept hg222 ha85).top
      have ha232 : Apart u38.ownBlock u218.ownBlock := app_ne_own ha80 hw223 ho203.lt
      have ha233 : Apart u27.ownBlock u218.ownBlock := app_ne_own ha81.symm hw223 ho205.lt
      have ha234 : Apart u154.ownBlock u218.ownBlock := app_ne_own ha168 hw223 ho206.lt
      have ha235 : Apart u174.ownBlock u218.ownBlock := app_ne_own ha189 hw223 ho207.lt
      have ha236 : Apart u196.ownBlock u218.ownBlock := app_ne_own ha211 hw223 ho217.lt
      have ha237 : Apart (some b17) u218.ownBlock := app_ne_box ha82.symm hw223 hb208.lt
      have ha238 : ApL LV u218.ownBlock := ApL.app hlv209 ha85 hw223
      have hm239 : (ps ++ ([((u154, u174) : Value × Value)])).length = ps.length + 1 := by simp
      refine ⟨fun _ => hX224.pins, ?_⟩
      refine dr_take (i := 12) rfl rfl rfl (want_none rfl _) (by kernel_rfl) (fun _ _ => r_assign (v := u218) rfl) hX224.pins ?_
      refine dr_end (by kernel_rfl) ?_
      refine s_blkN ?_
      refine s_then ?_
      refine c_reg ?_
      refine qd rfl rfl rfl (r_add rfl rfl (by omega)) ?_
      refine qd rfl rfl rfl (r_move (v := (.int .i64 ((j : Int) + 1))) rfl) ?_
      refine qe ?_
      refine s_lopN ?_
      have hlv240 := hlv231.add ho227 ha171
      have ha241 : ApL (LV ++ [(u154, atL ((nms).set j (ps.length : Int)) ((((ns.take ((m : Int) + 1).toNat).drop 0).getD j default).l))]) u38.ownBlock := ha84.add ha167
      have ha242 : ApL (LV ++ [(u154, atL ((nms).set j (ps.length : Int)) ((((ns.take ((m : Int) + 1).toNat).drop 0).getD j default).l))]) u27.ownBlock := ha86.add ha169
      have ha243 : ApL (LV ++ [(u154, atL ((nms).set j (ps.length : Int)) ((((ns.take ((m : Int) + 1).toNat).drop 0).getD j default).l))]) u174.ownBlock := ha193.add ha191.symm
      have ha244 : ApL (LV ++ [(u154, atL ((nms).set j (ps.length : Int)) ((((ns.take ((m : Int) + 1).toNat).drop 0).getD j default).l))]) u218.ownBlock := ha238.add ha234
      have ha245 : ApL (LV ++ [(u154, atL ((nms).set j (ps.length : Int)) ((((ns.take ((m : Int) + 1).toNat).drop 0).getD j default).l))]) (some b17) := ha87.add ha170
      have hlv246 := hlv240.add ho228 ha243
      have ha247 : ApL ((LV ++ [(u154, atL ((nms).set j (ps.length : Int)) ((((ns.take ((m : Int) + 1).toNat).drop 0).getD j default).l))]) ++ [(u174, atL ((nms).set j (ps.length : Int)) ((((ns.take ((m : Int) + 1).toNat).drop 0).getD j default).r))]) u38.ownBlock := ha241.add ha188
      have ha248 : ApL ((LV ++ [(u154, atL ((nms).set j (ps.length : Int)) ((((ns.take ((m : Int) + 1).toNat).drop 0).getD j default).l))]) ++ [(u174, atL ((nms).set j (ps.length : Int)) ((((ns.take ((m : Int) + 1).toNat).drop 0).getD j default).r))]) u27.ownBlock := ha242.add ha190
      have ha249 : ApL ((LV ++ [(u154, atL ((nms).set j (ps.length : Int)) ((((ns.take ((m : Int) + 1).toNat).drop 0).getD j default).l))]) ++ [(u174, atL ((nms).set j (ps.length : Int)) ((((ns.take ((m : Int) + 1).toNat).drop 0).getD j default).r))]) u218.ownBlock := ha244.add ha235
      have ha250 : ApL ((LV ++ [(u154, atL ((nms).set j (ps.length : Int)) ((((ns.take ((m : Int) + 1).toNat).drop 0).getD j default).l))]) ++ [(u174, atL ((nms).set j (ps.length : Int)) ((((ns.take ((m : Int) + 1).toNat).drop 0).getD j default).r))]) (some b17) := ha245.add ha192
      refine ⟨_, ?_, _, rfl, _, j + 1, (nms).set j (ps.length : Int), u218, ps ++ [(u154, u174)], (LV ++ [(u154, atL ((nms).set j (ps.length : Int)) ((((ns.take ((m : Int) + 1).toNat).drop 0).getD j default).l))]) ++ [(u174, atL ((nms).set j (ps.length : Int)) ((((ns.take ((m : Int) + 1).toNat).drop 0).getD j default).r))], G125, (packS (x := 25) (packS (x := 24) (packS (x := 23) (packS (x := 7) (packS (x := 6) (packS (x := 5) (pack1 (x := 4) rfl) rfl) rfl) rfl) rfl) rfl) rfl), rfl, hX224, (Pin.le_trans hlek72 hle126), (by omega), (hnp.step (by omega) (by omega)), ((List.length_set ..).trans hnl), (by rw [posU_succ, if_pos (show useU ns m j = true from h135), List.length_append]; simp; omega), (part_leaf hgj hLV hpl h135 (hnp.step (by omega) (by omega)) hpo.1 hpo.2), ho225, ho220, ho226, hb230, ha232, ha233.symm, ha237.symm, hlv246, ha247, ha249, ha248, ha250⟩
      omega
    · skip
      refine wp_skip ?_
      refine s_blkN ?_
      refine s_then ?_
      refine c_reg ?_
      refine qd rfl rfl rfl (r_add rfl rfl (by omega)) ?_
      refine qd rfl rfl rfl (r_move (v := (.int .i64 ((j : Int) + 1))) rfl) ?_
      refine qe ?_
      refine s_lopN ?_
      refine ⟨_, ?_, _, rfl, _, j + 1, nms, nv, ps, LV, G125, (packS (x := 25) (packS (x := 24) (packS (x := 23) (packS (x := 7) (packS (x := 6) (packS (x := 5) (pack1 (x := 4) rfl) rfl) rfl) rfl) rfl) rfl) rfl), rfl, hX127, (Pin.le_trans hlek72 hle126), (by omega), (hnp.skip h135), hnl, (by rw [posU_succ, if_neg (by rw [show useU ns m j = false from h135]; decide)]; exact hpl), (by rw [partN_no (show useU ns m j = false from h135)]; exact hLV), ho130, ho131, ho132, hb133, ha80, ha81, ha82, hlv134, ha84, ha85, ha86, ha87⟩
      omega
  · skip
    refine wp_exit ?_
    refine s_thenE ?_
    refine s_lopE ?_
    refine s_blkE ?_
    refine s_then ?_
    refine s_seq ?_
    refine c_reg ?_
    refine qd rfl rfl rfl (r_move (v := nv) rfl) ?_
    refine qd rfl rfl rfl (r_build [(.slice none 0 0)] [nv] [(0, nv, [nv])] Try.underlying50 zr50 rfl pl50 rfl (List.forall_mem_cons.2 ⟨(cells_one hw77.one), (fun _ h => by cases h)⟩) rfl) ?_
    refine q0 rfl rfl rfl (o_stp (cs' := [nv]) (us := [nv]) (v := (.agg [nv].toArray)) sz50 rfl rfl rfl (ones1 hw77.one) hX75.pins hw79 (Nat.le_of_ble_eq_true rfl) rfl (fun w251 hb252 hp253 hg254 hz255 => ?_))
    have hX256 := hX75.write hp253 hg254 ((lo_box hlo26))
    have ho257 := hw76.keptA hg254 ha49
    have ho258 := hw77.keptA hg254 ha82
    have ho259 := hw78.keptA hg254 ha35
    have hlv260 := (hlv83.kept hg254 ha87).top
    refine qe ?_
    refine s_then ?_
    refine wp_ret ?_
    refine s_ret ?_
    refine c_retc (cs := [nv]) rfl rfl rfl ag50 sz50 (fun j u hj => by rw [Nat.zero_add]; exact hb252.cell hj) ?_
    have hap := ha85
    have hlv := hlv260
    have hjm : j = m + 1 := by omega
    subst hjm
    rw [hLV] at hap hlv
    exact ⟨_, _, rfl, ⟨ps, hpl.trans (partN_length _ _ _).symm, ho258, fun k hk => (ho258.lt k hk).2, hlv, hap⟩, hX256⟩

theorem part_dspecZ {w : World} {G : Pin} {v : Value} {ns : List Nd} {z : Int} (hP : Pins G w) (hv : RSl eNode G v ns) (hg : GoodP ns) (hz : 0 ≤ z ∧ z < ns.length) :
    Calls Try.prog 52 [(.agg [v].toArray), (.int .i64 z)].toArray w fun e w' => ∃ (u : Value) (G' : Pin), e = .returned (.agg [u].toArray) ∧ DForm 90 3 G' w' w.heap.size w'.heap.size u (partS ns z) ∧ Ext noS G w G' w' := by
  rw [part_eq hg hz]
  obtain ⟨m, hm⟩ : ∃ m : Nat, z = m := ⟨z.toNat, by omega⟩
  subst hm
  exact part_dspec hP hv hg (by omega)

theorem heldNodeS_spec {w : World} {G : Pin} {v : Value} {ns : List Nd} {kz : Int} (hP : Pins G w) (hv : RSl eNode G v (markN kz ns)) (hsm : Small ns) (hk : 0 ≤ kz ∧ kz ≤ 1099511627776) :
    Calls Try.prog 54 [v, (.int .i64 kz)].toArray w fun e w' => e = .returned (.int .i64 (kz + totN ns)) ∧ w' = w := by
  refine s_enter (n := 31) Try.func54 Try.ntmps54 rfl rfl ?_
  have hX0 : Ext noS G w G w := Ext.refl hP
  have hul := markN_length kz ns
  have hln := hsm.len
  refine s_seq ?_
  refine c_reg ?_
  refine qd rfl rfl rfl (r_assign (v := (.int .i64 0)) rfl) ?_
  refine qe ?_
  refine s_then ?_
  refine s_seq ?_
  refine s_seq ?_
  refine c_reg ?_
  refine qd rfl rfl rfl (r_assign (v := (.int .i64 0)) rfl) ?_
  refine qe ?_
  refine s_then ?_
  refine s_blk ?_
  refine s_loop (fun (k : Nat) (en : Nat → Value) (W : World) => ∃ (env1 : Nat → Value) (j : Nat) (q : Int), en = (upd (upd (upd env1 0 v) 1 (.int .i64 q)) 5 (.int .i64 (j : Int))) ∧ k = ns.length - j ∧ Ext noS G w G W ∧ (j ≤ ns.length) ∧ (W = w) ∧ (0 ≤ q ∧ q ≤ kz + 2097152 * (j : Int)) ∧ (kz + totN ns = q + totN (ns.drop j)) ∧ (markN kz ns).drop j = markN q (ns.drop j)) _ ⟨_, 0, kz, (packS (x := 5) (packS (x := 1) (pack1 (x := 0) rfl) rfl) rfl), rfl, hX0, Nat.zero_le _, rfl, (by omega), rfl, rfl⟩ ?_
  rintro k1 _ w2 ⟨env1, j, q, rfl, hk3, hX4, hj, hw, hq, hqt, hA⟩
  subst hw
  refine s_seq ?_
  refine s_seq ?_
  refine c_reg ?_
  refine qd rfl rfl rfl (r_move (v := (.int .i64 (j : Int))) rfl) ?_
  refine qd rfl rfl rfl (r_move (v := v) rfl) ?_
  refine qd rfl rfl rfl (run_len Try.underlying48 (v := v) rfl hv) ?_
  refine qd rfl rfl rfl (r_lss rfl rfl) ?_
  refine qe ?_
  refine s_then ?_
  refine c_ifd (p := ((j : Int) : Int) < ((markN kz ns).length : Int)) rfl rfl (fun h5 => ?_) (fun h5 => ?_)
  · skip
    have hso := hsm.opts j (by omega)
    have hAj := markN_at (show j < ns.length by omega) hA
    refine wp_skip ?_
    refine s_then ?_
    refine s_seq ?_
    refine s_blk ?_
    refine s_seq ?_
    refine c_reg ?_
    refine qd rfl rfl rfl (r_move (v := v) rfl) ?_
    refine qd rfl rfl rfl (r_move (v := (.int .i64 (j : Int))) rfl) ?_
    refine qd rfl rfl rfl (run_idx Try.underlying48 sz90 (v := v) rfl rfl hv (by omega) (by omega)) ?_
    refine qd rfl rfl rfl (run_fld (off := 0) Try.underlying90 rfl rfl nz63 (z := (j : Int)) (k := 0) rfl hv (by omega) (by omega)) ?_
    obtain ⟨u6, hr7, hl8⟩ := nm_nl (hv.at (z := (j : Int)) (by omega) (by omega)) (j := j) rfl
    have hm9 := hr7.max
    refine qd rfl rfl rfl (hl8 ag63 rfl hX4.pins) ?_
    refine qd rfl rfl rfl (r_move (v := (.int .i64 q)) rfl) ?_
    refine q1 rfl rfl rfl (o_call (vs := [u6, (.int .i64 q)]) Try.func81 nm81 rfl rfl rfl ?_)
    refine Calls.mono (heldIntS_spec (n := (ns.getD j default).l.length) hX4.pins (by rw [← hAj.1]; exact hr7) (by omega) (hso.1)) ?_
    rintro _ _ ⟨rfl, rfl⟩
    refine ⟨_, rfl, ?_⟩
    refine qd rfl rfl rfl (r_assign (v := (.int .i64 (q + (((ns.getD j default).l.length : Int) : Int)))) rfl) ?_
    refine qe ?_
    refine s_then ?_
    refine s_seq ?_
    refine s_seq ?_
    refine c_reg ?_
    refine qd rfl rfl rfl (r_move (v := (.int .i64 (q + (((ns.getD j default).l.length : Int) : Int)))) rfl) ?_
    refine qd rfl rfl rfl (r_lss rfl rfl) ?_
    refine qe ?_
    refine s_then ?_
    refine c_ifd (p := (q + (((ns.getD j default).l.length : Int) : Int) : Int) < 0) rfl rfl (fun h10 => ?_) (fun h10 => ?_)
    · skip
      refine s_seq ?_
      refine c_reg ?_
      refine qd rfl rfl rfl (r_assign (v := (.int .i64 (-1))) rfl) ?_
      refine qe ?_
      refine s_then ?_
      refine wp_ret ?_
      refine s_ret ?_
      refine c_ret1 (v := (.int .i64 (-1))) rfl rfl rfl ?_
      exact absurd h10 (by omega)
    · skip
      refine wp_skip ?_
      refine s_then ?_
      refine s_seq ?_
      refine c_reg ?_
      refine qd rfl rfl rfl (r_move (v := v) rfl) ?_
      refine qd rfl rfl rfl (r_move (v := (.int .i64 (j : Int))) rfl) ?_
      refine qd rfl rfl rfl (run_idx Try.underlying48 sz90 (v := v) rfl rfl hv (by omega) (by omega)) ?_
      refine qd rfl rfl rfl (run_fld (off := 1) Try.underlying90 rfl rfl nz63 (z := (j : Int)) (k := 0) rfl hv (by omega) (by omega)) ?_
      obtain ⟨u11, hr12, hl13⟩ := nm_nr (hv.at (z := (j : Int)) (by omega) (by omega)) (j := j) rfl
      have hm14 := hr12.max
      refine qd rfl rfl rfl (hl13 ag63 rfl hX4.pins) ?_
      refine qd rfl rfl rfl (r_move (v := (.int .i64 (q + (((ns.getD j default).l.length : Int) : Int)))) rfl) ?_
      refine q1 rfl rfl rfl (o_call (vs := [u11, (.int .i64 (q + (((ns.getD j default).l.length : Int) : Int)))]) Try.func81 nm81 rfl rfl rfl ?_)
      refine Calls.mono (heldIntS_spec (n := (ns.getD j default).r.length) hX4.pins (by rw [← hAj.2.1]; exact hr12) (by omega) (hso.2)) ?_
      rintro _ _ ⟨rfl, rfl⟩
      refine ⟨_, rfl, ?_⟩
      refine qd rfl rfl rfl (r_assign (v := (.int .i64 ((q + (((ns.getD j default).l.length : Int) : Int)) + (((ns.getD j default).r.length : Int) : Int)))) rfl) ?_
      refine qe ?_
      refine s_then ?_
      refine s_seq ?_
      refine c_reg ?_
      refine qd rfl rfl rfl (r_move (v := (.int .i64 ((q + (((ns.getD j default).l.length : Int) : Int)) + (((ns.getD j default).r.length : Int) : Int)))) rfl) ?_
      refine qd rfl rfl rfl (r_lss rfl rfl) ?_
      refine qe ?_
      refine s_then ?_
      refine c_ifd (p := ((q + (((ns.getD j default).l.length : Int) : Int)) + (((ns.getD j default).r.length : Int) : Int) : Int) < 0) rfl rfl (fun h15 => ?_) (fun h15 => ?_)
      · skip
        refine s_seq ?_
        refine c_reg ?_
        refine qd rfl rfl rfl (r_assign (v := (.int .i64 (-1))) rfl) ?_
        refine qe ?_
        refine s_then ?_
        refine wp_ret ?_
        refine s_ret ?_
        refine c_ret1 (v := (.int .i64 (-1))) rfl rfl rfl ?_
        exact absurd h15 (by omega)
      · skip
        refine wp_skip ?_
        refine s_blkN ?_
        refine s_then ?_
        refine c_reg ?_
        refine qd rfl rfl rfl (r_move (v := (.int .i64 (j : Int))) rfl) ?_
        refine qd rfl rfl rfl (r_add rfl rfl (by omega)) ?_
        refine qd rfl rfl rfl (r_assign (v := (.int .i64 ((j : Int) + 1))) rfl) ?_
        refine qe ?_
        refine s_lopN ?_
        refine ⟨_, ?_, _, rfl, _, j + 1, (q + (((ns.getD j default).l.length : Int) : Int)) + (((ns.getD j default).r.length : Int) : Int), (packS (x := 5) (packS (x := 1) (pack1 (x := 0) rfl) rfl) rfl), rfl, hX4, (by omega), rfl, (by omega), (hqt.trans (by rw [totN_next (by omega)]; omega)), hAj.2.2⟩
        omega
  · skip
    refine wp_exit ?_
    refine s_thenE ?_
    refine s_lopE ?_
    refine s_blkE ?_
    refine s_then ?_
    refine s_seq ?_
    refine c_reg ?_
    refine qd rfl rfl rfl (r_move (v := (.int .i64 q)) rfl) ?_
    refine qd rfl rfl rfl (r_assign (v := (.int .i64 q)) rfl) ?_
    refine qe ?_
    refine s_then ?_
    refine wp_ret ?_
    refine s_ret ?_
    refine c_ret1 (v := (.int .i64 q)) rfl rfl rfl ?_
    exact ⟨congrArg (fun z => Ending.returned (Value.int .i64 z)) (by rw [hqt, totN_end (by omega)]; omega), rfl⟩

theorem heldFormS_spec {w : World} {G : Pin} {v : Value} {fs : List (List Nd)} {kz : Int} (hP : Pins G w) (hv : RSl (eSl eNode) G v (markF kz fs)) (hsf : SmallF fs) (hk : 0 ≤ kz ∧ kz ≤ 1073741824) :
    Calls Try.prog 33 [v, (.int .i64 kz)].toArray w fun e w' => e = .returned (.int .i64 (kz + totF fs)) ∧ w' = w := by
  refine s_enter (n := 22) Try.func33 Try.ntmps33 rfl rfl ?_
  have hX0 : Ext noS G w G w := Ext.refl hP
  have hul := markF_length kz fs
  have hln := hsf.len
  have htt := hsf.tot
  refine s_seq ?_
  refine c_reg ?_
  refine qd rfl rfl rfl (r_assign (v := (.int .i64 0)) rfl) ?_
  refine qe ?_
  refine s_then ?_
  refine s_seq ?_
  refine s_seq ?_
  refine c_reg ?_
  refine qd rfl rfl rfl (r_assign (v := (.int .i64 0)) rfl) ?_
  refine qe ?_
  refine s_then ?_
  refine s_blk ?_
  refine s_loop (fun (k : Nat) (en : Nat → Value) (W : World) => ∃ (env1 : Nat → Value) (j : Nat) (q : Int), en = (upd (upd (upd env1 0 v) 1 (.int .i64 q)) 5 (.int .i64 (j : Int))) ∧ k = fs.length - j ∧ Ext noS G w G W ∧ (j ≤ fs.length) ∧ (W = w) ∧ (0 ≤ q) ∧ (kz + totF fs = q + totF (fs.drop j)) ∧ (markF kz fs).drop j = markF q (fs.drop j)) _ ⟨_, 0, kz, (packS (x := 5) (packS (x := 1) (pack1 (x := 0) rfl) rfl) rfl), rfl, hX0, Nat.zero_le _, rfl, hk.1, rfl, rfl⟩ ?_
  rintro k1 _ w2 ⟨env1, j, q, rfl, hk3, hX4, hj, hw, hq, hqt, hA⟩
  subst hw
  refine s_seq ?_
  refine s_seq ?_
  refine c_reg ?_
  refine qd rfl rfl rfl (r_move (v := (.int .i64 (j : Int))) rfl) ?_
  refine qd rfl rfl rfl (r_move (v := v) rfl) ?_
  refine qd rfl rfl rfl (run_len Try.underlying28 (v := v) rfl hv) ?_
  refine qd rfl rfl rfl (r_lss rfl rfl) ?_
  refine qe ?_
  refine s_then ?_
  refine c_ifd (p := ((j : Int) : Int) < ((markF kz fs).length : Int)) rfl rfl (fun h5 => ?_) (fun h5 => ?_)
  · skip
    have hsj := hsf.small j (by omega)
    have htd := totF_nonneg (fs.drop j)
    have htj := totN_nonneg (fs.getD j [])
    have hAj := markF_at (show j < fs.length by omega) hA
    refine wp_skip ?_
    refine s_then ?_
    refine s_seq ?_
    refine s_blk ?_
    refine s_seq ?_
    refine c_reg ?_
    refine qd rfl rfl rfl (r_move (v := v) rfl) ?_
    refine qd rfl rfl rfl (r_move (v := (.int .i64 (j : Int))) rfl) ?_
    refine qd rfl rfl rfl (run_idx Try.underlying28 sz50 (v := v) rfl rfl hv (by omega) (by omega)) ?_
    refine qd rfl rfl rfl (run_fld (off := 0) Try.underlying50 rfl rfl nz48 (z := (j : Int)) (k := 0) rfl hv (by omega) (by omega)) ?_
    obtain ⟨u6, hr7, hl8⟩ := nm_sl (hv.at (z := (j : Int)) (by omega) (by omega)) (j := j) rfl
    have hm9 := hr7.max
    refine qd rfl rfl rfl (hl8 ag48 rfl hX4.pins) ?_
    refine qd rfl rfl rfl (r_move (v := (.int .i64 q)) rfl) ?_
    refine q1 rfl rfl rfl (o_call (vs := [u6, (.int .i64 q)]) Try.func54 nm54 rfl rfl rfl ?_)
    refine Calls.mono (heldNodeS_spec hX4.pins (by rw [← hAj.1]; exact hr7) hsj (by omega)) ?_
    rintro _ _ ⟨rfl, rfl⟩
    refine ⟨_, rfl, ?_⟩
    refine qd rfl rfl rfl (r_assign (v := (.int .i64 (q + totN (fs.getD j [])))) rfl) ?_
    refine qe ?_
    refine s_then ?_
    refine s_seq ?_
    refine c_reg ?_
    refine qd rfl rfl rfl (r_move (v := (.int .i64 (q + totN (fs.getD j [])))) rfl) ?_
    refine qd rfl rfl rfl (r_lss rfl rfl) ?_
    refine qe ?_
    refine s_then ?_
    refine c_ifd (p := (q + totN (fs.getD j []) : Int) < 0) rfl rfl (fun h10 => ?_) (fun h10 => ?_)
    · skip
      refine s_seq ?_
      refine c_reg ?_
      refine qd rfl rfl rfl (r_assign (v := (.int .i64 (-1))) rfl) ?_
      refine qe ?_
      refine s_then ?_
      refine wp_ret ?_
      refine s_ret ?_
      refine c_ret1 (v := (.int .i64 (-1))) rfl rfl rfl ?_
      exact absurd h10 (by omega)
    · skip
      refine wp_skip ?_
      refine s_blkN ?_
      refine s_then ?_
      refine c_reg ?_
      refine qd rfl rfl rfl (r_move (v := (.int .i64 (j : Int))) rfl) ?_
      refine qd rfl rfl rfl (r_add rfl rfl (by omega)) ?_
      refine qd rfl rfl rfl (r_assign (v := (.int .i64 ((j : Int) + 1))) rfl) ?_
      refine qe ?_
      refine s_lopN ?_
      refine ⟨_, ?_, _, rfl, _, j + 1, q + totN (fs.getD j []), (packS (x := 5) (packS (x := 1) (pack1 (x := 0) rfl) rfl) rfl), rfl, hX4, (by omega), rfl, (by omega), (hqt.trans (by rw [totF_next (show j < fs.length by omega)]; omega)), hAj.2⟩
      omega
  · skip
    refine wp_exit ?_
    refine s_thenE ?_
    refine s_lopE ?_
    refine s_blkE ?_
    refine s_then ?_
    refine s_seq ?_
    refine c_reg ?_
    refine qd rfl rfl rfl (r_move (v := (.int .i64 q)) rfl) ?_
    refine qd rfl rfl rfl (r_assign (v := (.int .i64 q)) rfl) ?_
    refine qe ?_
    refine s_then ?_
    refine wp_ret ?_
    refine s_ret ?_
    refine c_ret1 (v := (.int .i64 q)) rfl rfl rfl ?_
    exact ⟨congrArg (fun z => Ending.returned (Value.int .i64 z)) (by rw [hqt, totF_end (by omega)]; omega), rfl⟩

end Q1
end Go.Proofs.Ytphmcmkpcjlkfaa
