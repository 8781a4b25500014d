/- Walks, printed by a program (walkgen.py) from the spec specs_ds. -/
import Derived.Test.YtndhhpaldhlghaaDoorChecked
import Derived.Test.YtndhhpaldhlghaaDoorRow
import Derived.Test.YtndhhpaldhlghaaDoorDom
import Derived.Test.YtndhhpaldhlghaaDoorB1
import Derived.Test.YtndhhpaldhlghaaDoorC1
import Derived.Test.YtndhhpaldhlghaaDoorD1
import Derived.Test.YtndhhpaldhlghaaDoorE1
import Derived.Test.YtndhhpaldhlghaaDoorOR1
set_option maxRecDepth 20000
set_option maxHeartbeats 2000000
namespace Go.Proofs.YtndhhpaldhlghaaDoor
namespace DS1
open Go.RowKit Go.GL Go.Proofs
open Go.Proofs.YtndhhpaldhlghaaDoor.B1
open Go.Proofs.YtndhhpaldhlghaaDoor.C1
open Go.Proofs.YtndhhpaldhlghaaDoor.D1
open Go.Proofs.YtndhhpaldhlghaaDoor.E1
open Go.Proofs.YtndhhpaldhlghaaDoor.OR1
theorem ag3 : (Tryd.prog.underlying 3).map aggD = some false := by kernel_rfl
theorem nm60 : (Tryd.f60.name == "runtime.NumGoroutine") = false := by kernel_rfl
theorem nm71 : (Tryd.f71.name == "runtime.NumGoroutine") = false := by kernel_rfl
theorem sz3 : (Tryd.prog.info? 3).map (·.size) = some 1 := by kernel_rfl

theorem l6Dominated_spec {w : World} {G : Pin} {o b : Nat} {bu bv kv : Value} {ns : List Nd} {bs : List Int} {ks : List Int} {x : Value} {xs : List Int} {lf : Bool} (hP : Pins G w) (hO : Od 69 3 G w o b bu bv kv ns bs ks) (hx : RSl eInt G x xs) (hxl : xs.length ≤ 1048576) (hpl : ∀ i, i < xs.length → 0 ≤ xs.getD i 0 ∧ xs.getD i 0 < ns.length) (hok : BookOk ns bs) (hka : KAll ns ks) :
    Calls Tryd.prog 48 [(.pointer (some ⟨o, 0, none⟩)), x, (.bool lf)].toArray w fun e w' => ∃ (u : Value) (ks' : List Int) (G' : Pin), e = .returned u ∧ RSl eInt G' u (domL (gN ns xs) lf xs.length xs.length) ∧ Od 69 3 G' w' o b bu bv kv ns bs ks' ∧ KAll ns ks' ∧ Ext (inO kv.ownBlock) G w G' w' := by
  refine s_enter (n := 68) Tryd.func48 Tryd.ntmps48 rfl rfl ?_
  have hX0 : Ext (inO kv.ownBlock) G w G w := Ext.refl hP
  have hB := hO.bk
  have hbx := hB.bx
  have hou := hB.ou
  have hov := hB.ov
  have habu := hB.abu
  have habv := hB.abv
  have hauv := hB.auv
  have hlen := hok.len
  have hlim := hok.lim
  have hox := hO.ox
  have hok2 := hO.ok
  have haok := hO.aok
  have habk := hO.abk
  have hauk := hO.auk
  have havk := hO.avk
  have hlok : Lo w (inO kv.ownBlock) kv.ownBlock := lo_self
  have hoo : OptsOk ns := hok.optsOk
  have hlens := hok.lens
  have hxm := hx.max
  refine s_seq ?_
  refine c_reg ?_
  refine qd rfl rfl rfl (r_assign (v := (.slice none 0 0)) rfl) ?_
  refine qe ?_
  refine s_then ?_
  refine s_seq ?_
  refine c_reg ?_
  refine q1 rfl rfl rfl (o_build0 (E := eInt) (e := 3) Tryd.underlying38 sz3 hX0.pins (fun u1 w2 ho3 hp4 hl5 hk6 => ?_))
  have hX7 := hX0.step hp4 hl5
  have ho8 := hou.below hl5
  have ho9 := hov.below hl5
  have ho10 := hok2.below hl5
  have hb11 := hbx.below hl5
  have hb12 := hox.below hl5
  have ha13 : Apart u1.ownBlock bu.ownBlock := new_ne_own hk6 hou.lt
  have ha14 : Apart u1.ownBlock bv.ownBlock := new_ne_own hk6 hov.lt
  have ha15 : Apart u1.ownBlock kv.ownBlock := new_ne_own hk6 hok2.lt
  have ha16 : Apart u1.ownBlock (some b) := new_ne_box hk6 hbx.lt
  have ha17 : Apart u1.ownBlock (some o) := new_ne_box hk6 hox.lt
  have ho18 : Own eInt 3 G w2 w.heap.size u1 ([]) := ho3.weaken hX0.size
  refine qd rfl rfl rfl (r_assign (v := u1) rfl) ?_
  refine qe ?_
  refine s_then ?_
  refine s_seq ?_
  refine s_seq ?_
  refine c_reg ?_
  refine qd rfl rfl rfl (r_assign (v := (.int .i64 0)) rfl) ?_
  refine qe ?_
  refine s_then ?_
  refine s_blk ?_
  obtain ⟨G23, hle26, hX25, hr24, hf27⟩ := ho18.sealed hX7
  have ho28 := ho8.moreO hle26 hf27 ha13.symm
  have ho29 := ho9.moreO hle26 hf27 ha14.symm
  have ho30 := ho10.moreO hle26 hf27 ha15.symm
  have hb31 := hb11.moreO hf27 ha16.symm
  have hb32 := hb12.moreO hf27 ha17.symm
  refine s_loop (fun (k : Nat) (en : Nat → Value) (W : World) => ∃ (env1 : Nat → Value) (i : Nat) (kq : List Int) (ov : Value) (out : List Int) (GL1 : Pin), en = (upd (upd (upd (upd (upd (upd env1 0 (.pointer (some ⟨o, 0, none⟩))) 1 x) 2 (.bool lf)) 6 (.slice none 0 0)) 7 ov) 8 (.int .i64 (i : Int))) ∧ k = xs.length - i ∧ Ext (inO kv.ownBlock) G w GL1 W ∧ Pin.le G23 GL1 ∧ (i ≤ xs.length) ∧ (KAll ns kq) ∧ (out = domL (gN ns xs) lf xs.length i) ∧ (Own eInt 3 GL1 W 0 kv (kq)) ∧ (Own eNode 69 GL1 W 0 bu (ns)) ∧ (Own eInt 3 GL1 W 0 bv (bs)) ∧ (Bx GL1 W b [bu, bv]) ∧ (Bx GL1 W o [(.pointer (some ⟨b, 0, none⟩)), kv]) ∧ (RSl eInt GL1 ov (out))) _ ⟨_, 0, ks, u1, [], G23, (packS (x := 8) (packS (x := 7) (packS (x := 6) (packS (x := 2) (packS (x := 1) (pack1 (x := 0) rfl) rfl) rfl) rfl) rfl) rfl), rfl, hX25, Pin.le_refl _, Nat.zero_le _, hka, rfl, ho30, ho28, ho29, hb31, hb32, hr24⟩ ?_
  rintro k19 _ w20 ⟨env1, i, kq, ov, out, GL1, rfl, hk21, hX22, hlek19, hi, hka1, hout, hw33, hw34, hw35, hw36, hw37, hr38⟩
  have hol : out.length ≤ i := by rw [hout]; exact (dom_len i).1
  refine s_seq ?_
  refine s_seq ?_
  refine c_reg ?_
  refine qd rfl rfl rfl (r_move (v := (.int .i64 (i : Int))) rfl) ?_
  refine qd rfl rfl rfl (r_move (v := x) rfl) ?_
  refine qd rfl rfl rfl (run_len Tryd.underlying38 (v := x) rfl hx) ?_
  refine qd rfl rfl rfl (r_lss rfl rfl) ?_
  refine qe ?_
  refine s_then ?_
  refine c_ifd (p := ((i : Int) : Int) < (xs.length : Int)) rfl rfl (fun h39 => ?_) (fun h39 => ?_)
  · skip
    refine wp_skip ?_
    refine s_then ?_
    refine s_seq ?_
    refine s_blk ?_
    refine s_seq ?_
    refine c_reg ?_
    refine qd rfl rfl rfl (r_assign (v := (.int .i64 0)) rfl) ?_
    refine qe ?_
    refine s_then ?_
    refine s_blk ?_
    refine s_loop (fun (k : Nat) (en : Nat → Value) (W : World) => ∃ (env1 : Nat → Value) (j : Nat) (kq2 : List Int) (ov2 : Value) (out2 : List Int) (GL2 : Pin), en = (upd (upd (upd (upd (upd (upd (upd env1 0 (.pointer (some ⟨o, 0, none⟩))) 1 x) 2 (.bool lf)) 6 (.slice none 0 0)) 7 ov2) 8 (.int .i64 (i : Int))) 9 (.int .i64 (j : Int))) ∧ k = xs.length - j ∧ Ext (inO kv.ownBlock) G w GL2 W ∧ Pin.le GL1 GL2 ∧ (j ≤ xs.length) ∧ (KAll ns kq2) ∧ (out2 = domI out (domB (gN ns xs) lf i j) (i : Int)) ∧ (Own eInt 3 GL2 W 0 kv (kq2)) ∧ (Own eNode 69 GL2 W 0 bu (ns)) ∧ (Own eInt 3 GL2 W 0 bv (bs)) ∧ (Bx GL2 W b [bu, bv]) ∧ (Bx GL2 W o [(.pointer (some ⟨b, 0, none⟩)), kv]) ∧ (RSl eInt GL2 ov2 (out2))) _ ⟨_, 0, kq, ov, out, GL1, (packS (x := 9) (packS (x := 8) (packS (x := 7) (packS (x := 6) (packS (x := 2) (packS (x := 1) (pack1 (x := 0) rfl) rfl) rfl) rfl) rfl) rfl) rfl), rfl, hX22, Pin.le_refl _, Nat.zero_le _, hka1, domI_start, hw33, hw34, hw35, hw36, hw37, hr38⟩ ?_
    rintro k40 _ w41 ⟨env1, j, kq2, ov2, out2, GL2, rfl, hk42, hX43, hlek40, hj, hka2, hout2, hw44, hw45, hw46, hw47, hw48, hr49⟩
    have hol2 : out2.length ≤ out.length + 1 := by rw [hout2]; exact domI_len
    refine s_seq ?_
    refine s_seq ?_
    refine c_reg ?_
    refine qd rfl rfl rfl (r_move (v := (.int .i64 (j : Int))) rfl) ?_
    refine qd rfl rfl rfl (r_move (v := x) rfl) ?_
    refine qd rfl rfl rfl (run_len Tryd.underlying38 (v := x) rfl hx) ?_
    refine qd rfl rfl rfl (r_lss rfl rfl) ?_
    refine qe ?_
    refine s_then ?_
    refine c_ifd (p := ((j : Int) : Int) < (xs.length : Int)) rfl rfl (fun h50 => ?_) (fun h50 => ?_)
    · skip
      refine wp_skip ?_
      refine s_then ?_
      refine s_seq ?_
      refine s_blk ?_
      refine s_seq ?_
      refine c_draw (S := fun wz => Pins GL2 wz) (last := 22) (by kernel_rfl) rfl ?_
      have hl51 : Below w41.heap.size w41 w41.drew := (Below.refl _ _).drew
      have hp52 := hX43.pins.below hl51
      have hX53 := hX43.step hp52 hl51
      have ho54 := hw44.below hl51
      have ho55 := hw45.below hl51
      have ho56 := hw46.below hl51
      have hb57 := hw47.below hl51
      have hb58 := hw48.below hl51
      refine dr_take (i := 0) rfl rfl rfl (want_none rfl _) (by kernel_rfl) (fun _ _ => r_move (v := (.pointer (some ⟨o, 0, none⟩))) rfl) hX53.pins ?_
      refine dr_take (i := 1) rfl rfl rfl (want_none rfl _) (by kernel_rfl) (fun _ _ => r_move (v := x) rfl) hX53.pins ?_
      refine dr_take (i := 2) rfl rfl rfl (want_none rfl _) (by kernel_rfl) (fun _ _ => r_move (v := (.int .i64 (j : Int))) rfl) hX53.pins ?_
      refine dr_take (i := 3) rfl rfl rfl (want_none rfl _) (by kernel_rfl) (fun _ _ => run_idx Tryd.underlying38 sz3 (v := x) rfl rfl hx (by omega) (by omega)) hX53.pins ?_
      refine dr_take (i := 4) rfl rfl rfl (want_none rfl _) (by kernel_rfl) (fun _ hS => run_load_int (r := xs.getD j 0) rfl ag3 (z := (j : Int)) rfl hx (Pins.of_le hS (Pin.le_trans (Pin.le_trans hle26 hlek19) hlek40)) (by omega) (by omega)) hX53.pins ?_
      refine dr_take (i := 5) rfl rfl rfl (want_none rfl _) (by kernel_rfl) (fun _ _ => r_move (v := x) rfl) hX53.pins ?_
      refine dr_take (i := 6) rfl rfl rfl (want_none rfl _) (by kernel_rfl) (fun _ _ => r_move (v := (.int .i64 (i : Int))) rfl) hX53.pins ?_
      refine dr_take (i := 7) rfl rfl rfl (want_none rfl _) (by kernel_rfl) (fun _ _ => run_idx Tryd.underlying38 sz3 (v := x) rfl rfl hx (by omega) (by omega)) hX53.pins ?_
      refine dr_take (i := 8) rfl rfl rfl (want_none rfl _) (by kernel_rfl) (fun _ hS => run_load_int (r := xs.getD i 0) rfl ag3 (z := (i : Int)) rfl hx (Pins.of_le hS (Pin.le_trans (Pin.le_trans hle26 hlek19) hlek40)) (by omega) (by omega)) hX53.pins ?_
      refine dr_take (i := 10) rfl rfl rfl (want_none rfl _) (by kernel_rfl) (fun _ _ => r_move (v := (.pointer (some ⟨o, 0, none⟩))) rfl) hX53.pins ?_
      refine dr_take (i := 11) rfl rfl rfl (want_none rfl _) (by kernel_rfl) (fun _ _ => r_move (v := x) rfl) hX53.pins ?_
      refine dr_take (i := 12) rfl rfl rfl (want_none rfl _) (by kernel_rfl) (fun _ _ => r_move (v := (.int .i64 (i : Int))) rfl) hX53.pins ?_
      refine dr_take (i := 13) rfl rfl rfl (want_none rfl _) (by kernel_rfl) (fun _ _ => run_idx Tryd.underlying38 sz3 (v := x) rfl rfl hx (by omega) (by omega)) hX53.pins ?_
      refine dr_take (i := 14) rfl rfl rfl (want_none rfl _) (by kernel_rfl) (fun _ hS => run_load_int (r := xs.getD i 0) rfl ag3 (z := (i : Int)) rfl hx (Pins.of_le hS (Pin.le_trans (Pin.le_trans hle26 hlek19) hlek40)) (by omega) (by omega)) hX53.pins ?_
      refine dr_take (i := 15) rfl rfl rfl (want_none rfl _) (by kernel_rfl) (fun _ _ => r_move (v := x) rfl) hX53.pins ?_
      refine dr_take (i := 16) rfl rfl rfl (want_none rfl _) (by kernel_rfl) (fun _ _ => r_move (v := (.int .i64 (j : Int))) rfl) hX53.pins ?_
      refine dr_take (i := 17) rfl rfl rfl (want_none rfl _) (by kernel_rfl) (fun _ _ => run_idx Tryd.underlying38 sz3 (v := x) rfl rfl hx (by omega) (by omega)) hX53.pins ?_
      refine dr_take (i := 18) rfl rfl rfl (want_none rfl _) (by kernel_rfl) (fun _ hS => run_load_int (r := xs.getD j 0) rfl ag3 (z := (j : Int)) rfl hx (Pins.of_le hS (Pin.le_trans (Pin.le_trans hle26 hlek19) hlek40)) (by omega) (by omega)) hX53.pins ?_
      refine dr_one (i := 9) (by kernel_rfl) (drOp1 (i := 9) rfl rfl rfl (want_none rfl _) (o_call (vs := [(.pointer (some ⟨o, 0, none⟩)), (.int .i64 (xs.getD j 0)), (.int .i64 (xs.getD i 0))]) Tryd.func60 nm60 rfl rfl rfl ?_))
      refine Calls.mono (geq_spec hX53.pins ⟨⟨hb57, ho55, ho56, habu, habv, hauv⟩, hb58, ho54, haok, habk, hauk, havk⟩ (hpl j (by omega)) (hpl i (by omega)) hka2.1 hok (hka2.2 _)) ?_
      rintro _ w61 ⟨ks59, G60, rfl, hd62, hr63, hx64⟩
      refine ⟨_, rfl, ?_⟩
      have hX65 := hX53.trans hx64 (fun i hi => hlok i hi)
      have ho66 := ho55.extS hx64 (notO hauk)
      have ho67 := ho56.extS hx64 (notO havk)
      have hb68 := hb57.extS hx64 (notOb habk)
      have hb69 := hb58.extS hx64 (notOb haok)
      have hkl71 := hr63.len
      have hka72 := KAll.res hka2 hr63
      refine ⟨fun _ => (Pins.of_le hX65.pins hx64.le), ?_⟩
      refine dr_one (i := 19) (by kernel_rfl) (drOp1 (i := 19) rfl rfl rfl (want_none rfl _) (o_call (vs := [(.pointer (some ⟨o, 0, none⟩)), (.int .i64 (xs.getD i 0)), (.int .i64 (xs.getD j 0))]) Tryd.func60 nm60 rfl rfl rfl ?_))
      refine Calls.mono (geq_spec hX65.pins ⟨⟨hb68, ho66, ho67, habu, habv, hauv⟩, hb69, hd62.ok, haok, habk, hauk, havk⟩ (hpl i (by omega)) (hpl j (by omega)) hka72.1 hok (hka72.2 _)) ?_
      rintro _ w75 ⟨ks73, G74, rfl, hd76, hr77, hx78⟩
      refine ⟨_, rfl, ?_⟩
      have hX79 := hX65.trans hx78 (fun i hi => hlok i hi)
      have ho80 := ho66.extS hx78 (notO hauk)
      have ho81 := ho67.extS hx78 (notO havk)
      have hb82 := hb68.extS hx78 (notOb habk)
      have hb83 := hb69.extS hx78 (notOb haok)
      have hkl85 := hr77.len
      have hka86 := KAll.res hka72 hr77
      refine ⟨fun _ => (Pins.of_le hX79.pins (Pin.le_trans hx64.le hx78.le)), ?_⟩
      refine dr_take (i := 20) rfl rfl rfl (want_none rfl _) (by kernel_rfl) (fun _ _ => r_assign (v := (.bool (geB ns (xs.getD j 0) (xs.getD i 0)))) rfl) (Pins.of_le hX79.pins (Pin.le_trans hx64.le hx78.le)) ?_
      refine dr_take (i := 21) rfl rfl rfl (want_none rfl _) (by kernel_rfl) (fun _ _ => r_assign (v := (.bool (geB ns (xs.getD i 0) (xs.getD j 0)))) rfl) (Pins.of_le hX79.pins (Pin.le_trans hx64.le hx78.le)) ?_
      refine dr_end (by kernel_rfl) ?_
      refine s_then ?_
      refine s_seq ?_
      refine s_seq ?_
      refine c_reg ?_
      refine qd rfl rfl rfl (r_move (v := (.bool lf)) rfl) ?_
      refine qd rfl rfl rfl (r_not rfl) ?_
      refine qe ?_
      refine s_then ?_
      refine c_ifn rfl rfl (fun h87 => ?_) (fun h87 => ?_)
      · skip
        refine wp_skip ?_
        refine s_then ?_
        refine s_seq ?_
        refine c_reg ?_
        refine qd rfl rfl rfl (r_move (v := (.int .i64 (j : Int))) rfl) ?_
        refine qd rfl rfl rfl (r_move (v := (.int .i64 (i : Int))) rfl) ?_
        refine qd rfl rfl rfl (r_neq rfl rfl) ?_
        refine qd rfl rfl rfl (r_move (v := (.bool (decide (((j : Int) : Int) ≠ (i : Int))))) rfl) ?_
        refine qbd (p := ((j : Int) : Int) ≠ (i : Int)) (t := 52) rfl (fun h88 => ?_) (fun h88 => ?_)
        · skip
          refine qdg rfl rfl rfl rfl rfl rfl (r_move (v := (.bool (geB ns (xs.getD j 0) (xs.getD i 0)))) rfl) ?_
          refine qd rfl rfl rfl (r_pickT (v := (.bool (geB ns (xs.getD j 0) (xs.getD i 0)))) rfl rfl) ?_
          refine qd rfl rfl rfl (r_move (v := (.bool (geB ns (xs.getD j 0) (xs.getD i 0)))) rfl) ?_
          refine qb (t := 55) rfl (fun h89 => ?_) (fun h89 => ?_)
          · skip
            refine qdg rfl rfl rfl rfl rfl rfl (r_move (v := (.bool (geB ns (xs.getD i 0) (xs.getD j 0)))) rfl) ?_
            refine qdg rfl rfl rfl rfl rfl rfl (r_not rfl) ?_
            refine qdg rfl rfl rfl rfl rfl rfl (r_move (v := (.bool (!(geB ns (xs.getD i 0) (xs.getD j 0))))) rfl) ?_
            refine qbn (t := 58) rfl (fun h90 => ?_) (fun h90 => ?_)
            · skip
              refine qdg rfl rfl rfl rfl rfl rfl (r_move (v := (.int .i64 (j : Int))) rfl) ?_
              refine qdg rfl rfl rfl rfl rfl rfl (r_move (v := (.int .i64 (i : Int))) rfl) ?_
              refine qdg rfl rfl rfl rfl rfl rfl (r_lss rfl rfl) ?_
              refine qdg rfl rfl rfl rfl rfl rfl (r_pickF (v := (.bool (decide (((j : Int) : Int) < (i : Int))))) rfl rfl) ?_
              refine qd rfl rfl rfl (r_pickT (v := (.bool (decide (((j : Int) : Int) < (i : Int))))) rfl rfl) ?_
              refine qe ?_
              refine s_then ?_
              refine c_ifd (p := ((j : Int) : Int) < (i : Int)) rfl rfl (fun h91 => ?_) (fun h91 => ?_)
              · skip
                refine c_reg ?_
                refine qd rfl rfl rfl (r_move (v := ov2) rfl) ?_
                refine qd rfl rfl rfl (r_move (v := (.int .i64 (i : Int))) rfl) ?_
                refine q1 rfl rfl rfl (o_call (vs := [ov2, (.int .i64 (i : Int))]) Tryd.func71 nm71 rfl rfl rfl ?_)
                refine Calls.mono (l1Put_spec hX79.pins (hr49.mono (Pin.le_trans hx64.le hx78.le)) (by omega)) ?_
                rintro _ w94 ⟨u92, G93, rfl, hr95, hx96⟩
                refine ⟨_, rfl, ?_⟩
                have hX97 := hX79.tr hx96
                have ho98 := hd76.ok.ext hx96
                have ho99 := ho80.ext hx96
                have ho100 := ho81.ext hx96
                have hb101 := hb82.ext hx96
                have hb102 := hb83.ext hx96
                refine qd rfl rfl rfl (r_assign (v := u92) rfl) ?_
                refine qe ?_
                refine s_blkN ?_
                refine s_then ?_
                refine c_reg ?_
                refine qd rfl rfl rfl (r_move (v := (.int .i64 (j : Int))) rfl) ?_
                refine qd rfl rfl rfl (r_add rfl rfl (by omega)) ?_
                refine qd rfl rfl rfl (r_assign (v := (.int .i64 ((j : Int) + 1))) rfl) ?_
                refine qe ?_
                refine s_lopN ?_
                refine ⟨_, ?_, _, rfl, _, j + 1, ks73, u92, putL out2 (i : Int), G93, (packS (x := 9) (packS (x := 8) (packS (x := 7) (packS (x := 6) (packS (x := 2) (packS (x := 1) (pack1 (x := 0) rfl) rfl) rfl) rfl) rfl) rfl) rfl), rfl, hX97, (Pin.le_trans (Pin.le_trans (Pin.le_trans hlek40 hx64.le) hx78.le) hx96.le), (by omega), hka86, (domI_yes hout2 (by rw [hout]; exact (dom_len i).2) ⟨h88, (geD_t h87).2 (decP_true.1 h89), Or.inr h91⟩), ho98, ho99, ho100, hb101, hb102, hr95⟩
                omega
              refine wp_skip ?_
              refine s_blkN ?_
              refine s_then ?_
              refine c_reg ?_
              refine qd rfl rfl rfl (r_move (v := (.int .i64 (j : Int))) rfl) ?_
              refine qd rfl rfl rfl (r_add rfl rfl (by omega)) ?_
              refine qd rfl rfl rfl (r_assign (v := (.int .i64 ((j : Int) + 1))) rfl) ?_
              refine qe ?_
              refine s_lopN ?_
              refine ⟨_, ?_, _, rfl, _, j + 1, ks73, ov2, out2, G74, (packS (x := 9) (packS (x := 8) (packS (x := 7) (packS (x := 6) (packS (x := 2) (packS (x := 1) (pack1 (x := 0) rfl) rfl) rfl) rfl) rfl) rfl) rfl), rfl, hX79, (Pin.le_trans (Pin.le_trans hlek40 hx64.le) hx78.le), (by omega), hka86, (domI_no hout2 (fun p => p.2.2.elim (fun h => h ((geD_t h87).2 (decP_true.1 h90))) h91)), hd76.ok, ho80, ho81, hb82, hb83, (hr49.mono (Pin.le_trans hx64.le hx78.le))⟩
              omega
            refine qs rfl rfl rfl rfl rfl rfl ?_
            refine qs rfl rfl rfl rfl rfl rfl ?_
            refine qs rfl rfl rfl rfl rfl rfl ?_
            refine qdg rfl rfl rfl rfl rfl rfl (r_pickT (v := (.bool true)) rfl rfl) ?_
            refine qd rfl rfl rfl (r_pickT (v := (.bool true)) rfl rfl) ?_
            refine qe ?_
            refine s_then ?_
            refine c_ifT rfl rfl ?_
            refine c_reg ?_
            refine qd rfl rfl rfl (r_move (v := ov2) rfl) ?_
            refine qd rfl rfl rfl (r_move (v := (.int .i64 (i : Int))) rfl) ?_
            refine q1 rfl rfl rfl (o_call (vs := [ov2, (.int .i64 (i : Int))]) Tryd.func71 nm71 rfl rfl rfl ?_)
            refine Calls.mono (l1Put_spec hX79.pins (hr49.mono (Pin.le_trans hx64.le hx78.le)) (by omega)) ?_
            rintro _ w105 ⟨u103, G104, rfl, hr106, hx107⟩
            refine ⟨_, rfl, ?_⟩
            have hX108 := hX79.tr hx107
            have ho109 := hd76.ok.ext hx107
            have ho110 := ho80.ext hx107
            have ho111 := ho81.ext hx107
            have hb112 := hb82.ext hx107
            have hb113 := hb83.ext hx107
            refine qd rfl rfl rfl (r_assign (v := u103) rfl) ?_
            refine qe ?_
            refine s_blkN ?_
            refine s_then ?_
            refine c_reg ?_
            refine qd rfl rfl rfl (r_move (v := (.int .i64 (j : Int))) rfl) ?_
            refine qd rfl rfl rfl (r_add rfl rfl (by omega)) ?_
            refine qd rfl rfl rfl (r_assign (v := (.int .i64 ((j : Int) + 1))) rfl) ?_
            refine qe ?_
            refine s_lopN ?_
            refine ⟨_, ?_, _, rfl, _, j + 1, ks73, u103, putL out2 (i : Int), G104, (packS (x := 9) (packS (x := 8) (packS (x := 7) (packS (x := 6) (packS (x := 2) (packS (x := 1) (pack1 (x := 0) rfl) rfl) rfl) rfl) rfl) rfl) rfl), rfl, hX108, (Pin.le_trans (Pin.le_trans (Pin.le_trans hlek40 hx64.le) hx78.le) hx107.le), (by omega), hka86, (domI_yes hout2 (by rw [hout]; exact (dom_len i).2) ⟨h88, (geD_t h87).2 (decP_true.1 h89), Or.inl (fun h => (decP_false.1 h90) ((geD_t h87).1 h))⟩), ho109, ho110, ho111, hb112, hb113, hr106⟩
            omega
          refine qs rfl rfl rfl rfl rfl rfl ?_
          refine qs rfl rfl rfl rfl rfl rfl ?_
          refine qs rfl rfl rfl rfl rfl rfl ?_
          refine qsu rfl rfl rfl rfl rfl ?_
          refine qsu rfl rfl rfl rfl rfl ?_
          refine qsu rfl rfl rfl rfl rfl ?_
          refine qs rfl rfl rfl rfl rfl rfl ?_
          refine qd rfl rfl rfl (r_pickF (v := (.bool false)) rfl rfl) ?_
          refine qe ?_
          refine s_then ?_
          refine c_ifF rfl rfl ?_
          refine wp_skip ?_
          refine s_blkN ?_
          refine s_then ?_
          refine c_reg ?_
          refine qd rfl rfl rfl (r_move (v := (.int .i64 (j : Int))) rfl) ?_
          refine qd rfl rfl rfl (r_add rfl rfl (by omega)) ?_
          refine qd rfl rfl rfl (r_assign (v := (.int .i64 ((j : Int) + 1))) rfl) ?_
          refine qe ?_
          refine s_lopN ?_
          refine ⟨_, ?_, _, rfl, _, j + 1, ks73, ov2, out2, G74, (packS (x := 9) (packS (x := 8) (packS (x := 7) (packS (x := 6) (packS (x := 2) (packS (x := 1) (pack1 (x := 0) rfl) rfl) rfl) rfl) rfl) rfl) rfl), rfl, hX79, (Pin.le_trans (Pin.le_trans hlek40 hx64.le) hx78.le), (by omega), hka86, (domI_no hout2 (fun p => (decP_false.1 h89) ((geD_t h87).1 p.2.1))), hd76.ok, ho80, ho81, hb82, hb83, (hr49.mono (Pin.le_trans hx64.le hx78.le))⟩
          omega
        refine qs rfl rfl rfl rfl rfl rfl ?_
        refine qd rfl rfl rfl (r_pickF (v := (.bool false)) rfl rfl) ?_
        refine qd rfl rfl rfl (r_move (v := (.bool false)) rfl) ?_
        refine qs rfl rfl rfl rfl rfl rfl ?_
        refine qs rfl rfl rfl rfl rfl rfl ?_
        refine qs rfl rfl rfl rfl rfl rfl ?_
        refine qsu rfl rfl rfl rfl rfl ?_
        refine qsu rfl rfl rfl rfl rfl ?_
        refine qsu rfl rfl rfl rfl rfl ?_
        refine qs rfl rfl rfl rfl rfl rfl ?_
        refine qd rfl rfl rfl (r_pickF (v := (.bool false)) rfl rfl) ?_
        refine qe ?_
        refine s_then ?_
        refine c_ifF rfl rfl ?_
        refine wp_skip ?_
        refine s_blkN ?_
        refine s_then ?_
        refine c_reg ?_
        refine qd rfl rfl rfl (r_move (v := (.int .i64 (j : Int))) rfl) ?_
        refine qd rfl rfl rfl (r_add rfl rfl (by omega)) ?_
        refine qd rfl rfl rfl (r_assign (v := (.int .i64 ((j : Int) + 1))) rfl) ?_
        refine qe ?_
        refine s_lopN ?_
        refine ⟨_, ?_, _, rfl, _, j + 1, ks73, ov2, out2, G74, (packS (x := 9) (packS (x := 8) (packS (x := 7) (packS (x := 6) (packS (x := 2) (packS (x := 1) (pack1 (x := 0) rfl) rfl) rfl) rfl) rfl) rfl) rfl), rfl, hX79, (Pin.le_trans (Pin.le_trans hlek40 hx64.le) hx78.le), (by omega), hka86, (domI_no hout2 (fun p => h88 p.1)), hd76.ok, ho80, ho81, hb82, hb83, (hr49.mono (Pin.le_trans hx64.le hx78.le))⟩
        omega
      refine c_reg ?_
      refine qd rfl rfl rfl (r_move (v := (.bool (geB ns (xs.getD i 0) (xs.getD j 0)))) rfl) ?_
      refine qd rfl rfl rfl (r_move (v := (.bool (geB ns (xs.getD j 0) (xs.getD i 0)))) rfl) ?_
      refine qd rfl rfl rfl (r_assign (v := (.bool (geB ns (xs.getD i 0) (xs.getD j 0)))) rfl) ?_
      refine qd rfl rfl rfl (r_assign (v := (.bool (geB ns (xs.getD j 0) (xs.getD i 0)))) rfl) ?_
      refine qe ?_
      refine s_then ?_
      refine s_seq ?_
      refine c_reg ?_
      refine qd rfl rfl rfl (r_move (v := (.int .i64 (j : Int))) rfl) ?_
      refine qd rfl rfl rfl (r_move (v := (.int .i64 (i : Int))) rfl) ?_
      refine qd rfl rfl rfl (r_neq rfl rfl) ?_
      refine qd rfl rfl rfl (r_move (v := (.bool (decide (((j : Int) : Int) ≠ (i : Int))))) rfl) ?_
      refine qbd (p := ((j : Int) : Int) ≠ (i : Int)) (t := 52) rfl (fun h114 => ?_) (fun h114 => ?_)
      · skip
        refine qdg rfl rfl rfl rfl rfl rfl (r_move (v := (.bool (geB ns (xs.getD i 0) (xs.getD j 0)))) rfl) ?_
        refine qd rfl rfl rfl (r_pickT (v := (.bool (geB ns (xs.getD i 0) (xs.getD j 0)))) rfl rfl) ?_
        refine qd rfl rfl rfl (r_move (v := (.bool (geB ns (xs.getD i 0) (xs.getD j 0)))) rfl) ?_
        refine qb (t := 55) rfl (fun h115 => ?_) (fun h115 => ?_)
        · skip
          refine qdg rfl rfl rfl rfl rfl rfl (r_move (v := (.bool (geB ns (xs.getD j 0) (xs.getD i 0)))) rfl) ?_
          refine qdg rfl rfl rfl rfl rfl rfl (r_not rfl) ?_
          refine qdg rfl rfl rfl rfl rfl rfl (r_move (v := (.bool (!(geB ns (xs.getD j 0) (xs.getD i 0))))) rfl) ?_
          refine qbn (t := 58) rfl (fun h116 => ?_) (fun h116 => ?_)
          · skip
            refine qdg rfl rfl rfl rfl rfl rfl (r_move (v := (.int .i64 (j : Int))) rfl) ?_
            refine qdg rfl rfl rfl rfl rfl rfl (r_move (v := (.int .i64 (i : Int))) rfl) ?_
            refine qdg rfl rfl rfl rfl rfl rfl (r_lss rfl rfl) ?_
            refine qdg rfl rfl rfl rfl rfl rfl (r_pickF (v := (.bool (decide (((j : Int) : Int) < (i : Int))))) rfl rfl) ?_
            refine qd rfl rfl rfl (r_pickT (v := (.bool (decide (((j : Int) : Int) < (i : Int))))) rfl rfl) ?_
            refine qe ?_
            refine s_then ?_
            refine c_ifd (p := ((j : Int) : Int) < (i : Int)) rfl rfl (fun h117 => ?_) (fun h117 => ?_)
            · skip
              refine c_reg ?_
              refine qd rfl rfl rfl (r_move (v := ov2) rfl) ?_
              refine qd rfl rfl rfl (r_move (v := (.int .i64 (i : Int))) rfl) ?_
              refine q1 rfl rfl rfl (o_call (vs := [ov2, (.int .i64 (i : Int))]) Tryd.func71 nm71 rfl rfl rfl ?_)
              refine Calls.mono (l1Put_spec hX79.pins (hr49.mono (Pin.le_trans hx64.le hx78.le)) (by omega)) ?_
              rintro _ w120 ⟨u118, G119, rfl, hr121, hx122⟩
              refine ⟨_, rfl, ?_⟩
              have hX123 := hX79.tr hx122
              have ho124 := hd76.ok.ext hx122
              have ho125 := ho80.ext hx122
              have ho126 := ho81.ext hx122
              have hb127 := hb82.ext hx122
              have hb128 := hb83.ext hx122
              refine qd rfl rfl rfl (r_assign (v := u118) rfl) ?_
              refine qe ?_
              refine s_blkN ?_
              refine s_then ?_
              refine c_reg ?_
              refine qd rfl rfl rfl (r_move (v := (.int .i64 (j : Int))) rfl) ?_
              refine qd rfl rfl rfl (r_add rfl rfl (by omega)) ?_
              refine qd rfl rfl rfl (r_assign (v := (.int .i64 ((j : Int) + 1))) rfl) ?_
              refine qe ?_
              refine s_lopN ?_
              refine ⟨_, ?_, _, rfl, _, j + 1, ks73, u118, putL out2 (i : Int), G119, (packS (x := 9) (packS (x := 8) (packS (x := 7) (packS (x := 6) (packS (x := 2) (packS (x := 1) (pack1 (x := 0) rfl) rfl) rfl) rfl) rfl) rfl) rfl), rfl, hX123, (Pin.le_trans (Pin.le_trans (Pin.le_trans hlek40 hx64.le) hx78.le) hx122.le), (by omega), hka86, (domI_yes hout2 (by rw [hout]; exact (dom_len i).2) ⟨h114, (geD_f h87).2 (decP_true.1 h115), Or.inr h117⟩), ho124, ho125, ho126, hb127, hb128, hr121⟩
              omega
            refine wp_skip ?_
            refine s_blkN ?_
            refine s_then ?_
            refine c_reg ?_
            refine qd rfl rfl rfl (r_move (v := (.int .i64 (j : Int))) rfl) ?_
            refine qd rfl rfl rfl (r_add rfl rfl (by omega)) ?_
            refine qd rfl rfl rfl (r_assign (v := (.int .i64 ((j : Int) + 1))) rfl) ?_
            refine qe ?_
            refine s_lopN ?_
            refine ⟨_, ?_, _, rfl, _, j + 1, ks73, ov2, out2, G74, (packS (x := 9) (packS (x := 8) (packS (x := 7) (packS (x := 6) (packS (x := 2) (packS (x := 1) (pack1 (x := 0) rfl) rfl) rfl) rfl) rfl) rfl) rfl), rfl, hX79, (Pin.le_trans (Pin.le_trans hlek40 hx64.le) hx78.le), (by omega), hka86, (domI_no hout2 (fun p => p.2.2.elim (fun h => h ((geD_f h87).2 (decP_true.1 h116))) h117)), hd76.ok, ho80, ho81, hb82, hb83, (hr49.mono (Pin.le_trans hx64.le hx78.le))⟩
            omega
          refine qs rfl rfl rfl rfl rfl rfl ?_
          refine qs rfl rfl rfl rfl rfl rfl ?_
          refine qs rfl rfl rfl rfl rfl rfl ?_
          refine qdg rfl rfl rfl rfl rfl rfl (r_pickT (v := (.bool true)) rfl rfl) ?_
          refine qd rfl rfl rfl (r_pickT (v := (.bool true)) rfl rfl) ?_
          refine qe ?_
          refine s_then ?_
          refine c_ifT rfl rfl ?_
          refine c_reg ?_
          refine qd rfl rfl rfl (r_move (v := ov2) rfl) ?_
          refine qd rfl rfl rfl (r_move (v := (.int .i64 (i : Int))) rfl) ?_
          refine q1 rfl rfl rfl (o_call (vs := [ov2, (.int .i64 (i : Int))]) Tryd.func71 nm71 rfl rfl rfl ?_)
          refine Calls.mono (l1Put_spec hX79.pins (hr49.mono (Pin.le_trans hx64.le hx78.le)) (by omega)) ?_
          rintro _ w131 ⟨u129, G130, rfl, hr132, hx133⟩
          refine ⟨_, rfl, ?_⟩
          have hX134 := hX79.tr hx133
          have ho135 := hd76.ok.ext hx133
          have ho136 := ho80.ext hx133
          have ho137 := ho81.ext hx133
          have hb138 := hb82.ext hx133
          have hb139 := hb83.ext hx133
          refine qd rfl rfl rfl (r_assign (v := u129) rfl) ?_
          refine qe ?_
          refine s_blkN ?_
          refine s_then ?_
          refine c_reg ?_
          refine qd rfl rfl rfl (r_move (v := (.int .i64 (j : Int))) rfl) ?_
          refine qd rfl rfl rfl (r_add rfl rfl (by omega)) ?_
          refine qd rfl rfl rfl (r_assign (v := (.int .i64 ((j : Int) + 1))) rfl) ?_
          refine qe ?_
          refine s_lopN ?_
          refine ⟨_, ?_, _, rfl, _, j + 1, ks73, u129, putL out2 (i : Int), G130, (packS (x := 9) (packS (x := 8) (packS (x := 7) (packS (x := 6) (packS (x := 2) (packS (x := 1) (pack1 (x := 0) rfl) rfl) rfl) rfl) rfl) rfl) rfl), rfl, hX134, (Pin.le_trans (Pin.le_trans (Pin.le_trans hlek40 hx64.le) hx78.le) hx133.le), (by omega), hka86, (domI_yes hout2 (by rw [hout]; exact (dom_len i).2) ⟨h114, (geD_f h87).2 (decP_true.1 h115), Or.inl (fun h => (decP_false.1 h116) ((geD_f h87).1 h))⟩), ho135, ho136, ho137, hb138, hb139, hr132⟩
          omega
        refine qs rfl rfl rfl rfl rfl rfl ?_
        refine qs rfl rfl rfl rfl rfl rfl ?_
        refine qs rfl rfl rfl rfl rfl rfl ?_
        refine qsu rfl rfl rfl rfl rfl ?_
        refine qsu rfl rfl rfl rfl rfl ?_
        refine qsu rfl rfl rfl rfl rfl ?_
        refine qs rfl rfl rfl rfl rfl rfl ?_
        refine qd rfl rfl rfl (r_pickF (v := (.bool false)) rfl rfl) ?_
        refine qe ?_
        refine s_then ?_
        refine c_ifF rfl rfl ?_
        refine wp_skip ?_
        refine s_blkN ?_
        refine s_then ?_
        refine c_reg ?_
        refine qd rfl rfl rfl (r_move (v := (.int .i64 (j : Int))) rfl) ?_
        refine qd rfl rfl rfl (r_add rfl rfl (by omega)) ?_
        refine qd rfl rfl rfl (r_assign (v := (.int .i64 ((j : Int) + 1))) rfl) ?_
        refine qe ?_
        refine s_lopN ?_
        refine ⟨_, ?_, _, rfl, _, j + 1, ks73, ov2, out2, G74, (packS (x := 9) (packS (x := 8) (packS (x := 7) (packS (x := 6) (packS (x := 2) (packS (x := 1) (pack1 (x := 0) rfl) rfl) rfl) rfl) rfl) rfl) rfl), rfl, hX79, (Pin.le_trans (Pin.le_trans hlek40 hx64.le) hx78.le), (by omega), hka86, (domI_no hout2 (fun p => (decP_false.1 h115) ((geD_f h87).1 p.2.1))), hd76.ok, ho80, ho81, hb82, hb83, (hr49.mono (Pin.le_trans hx64.le hx78.le))⟩
        omega
      refine qs rfl rfl rfl rfl rfl rfl ?_
      refine qd rfl rfl rfl (r_pickF (v := (.bool false)) rfl rfl) ?_
      refine qd rfl rfl rfl (r_move (v := (.bool false)) rfl) ?_
      refine qs rfl rfl rfl rfl rfl rfl ?_
      refine qs rfl rfl rfl rfl rfl rfl ?_
      refine qs rfl rfl rfl rfl rfl rfl ?_
      refine qsu rfl rfl rfl rfl rfl ?_
      refine qsu rfl rfl rfl rfl rfl ?_
      refine qsu rfl rfl rfl rfl rfl ?_
      refine qs rfl rfl rfl rfl rfl rfl ?_
      refine qd rfl rfl rfl (r_pickF (v := (.bool false)) rfl rfl) ?_
      refine qe ?_
      refine s_then ?_
      refine c_ifF rfl rfl ?_
      refine wp_skip ?_
      refine s_blkN ?_
      refine s_then ?_
      refine c_reg ?_
      refine qd rfl rfl rfl (r_move (v := (.int .i64 (j : Int))) rfl) ?_
      refine qd rfl rfl rfl (r_add rfl rfl (by omega)) ?_
      refine qd rfl rfl rfl (r_assign (v := (.int .i64 ((j : Int) + 1))) rfl) ?_
      refine qe ?_
      refine s_lopN ?_
      refine ⟨_, ?_, _, rfl, _, j + 1, ks73, ov2, out2, G74, (packS (x := 9) (packS (x := 8) (packS (x := 7) (packS (x := 6) (packS (x := 2) (packS (x := 1) (pack1 (x := 0) rfl) rfl) rfl) rfl) rfl) rfl) rfl), rfl, hX79, (Pin.le_trans (Pin.le_trans hlek40 hx64.le) hx78.le), (by omega), hka86, (domI_no hout2 (fun p => h114 p.1)), hd76.ok, ho80, ho81, hb82, hb83, (hr49.mono (Pin.le_trans hx64.le hx78.le))⟩
      omega
    refine wp_exit ?_
    refine s_thenE ?_
    refine s_lopE ?_
    refine s_blkE ?_
    refine s_blkN ?_
    refine s_then ?_
    refine c_reg ?_
    refine qd rfl rfl rfl (r_move (v := (.int .i64 (i : Int))) rfl) ?_
    refine qd rfl rfl rfl (r_add rfl rfl (by omega)) ?_
    refine qd rfl rfl rfl (r_assign (v := (.int .i64 ((i : Int) + 1))) rfl) ?_
    refine qe ?_
    refine s_lopN ?_
    have hjn : j = xs.length := by omega
    rw [hjn, hout] at hout2
    refine ⟨_, ?_, _, rfl, _, i + 1, kq2, ov2, out2, GL2, (packS (x := 8) (packS (x := 7) (packS (x := 6) (packS (x := 2) (packS (x := 1) (pack1 (x := 0) rfl) rfl) rfl) rfl) rfl) rfl), rfl, hX43, (Pin.le_trans hlek19 hlek40), (by omega), hka2, (domI_end hout2), hw44, hw45, hw46, hw47, hw48, hr49⟩
    omega
  refine wp_exit ?_
  refine s_thenE ?_
  refine s_lopE ?_
  refine s_blkE ?_
  refine s_then ?_
  refine s_seq ?_
  refine c_reg ?_
  refine qd rfl rfl rfl (r_move (v := ov) rfl) ?_
  refine qd rfl rfl rfl (r_assign (v := ov) rfl) ?_
  refine qe ?_
  refine s_then ?_
  refine wp_ret ?_
  refine s_ret ?_
  refine c_ret1 (v := ov) rfl rfl rfl ?_
  have hin : i = xs.length := by omega
  rw [hin] at hout
  exact ⟨_, _, _, rfl, (by rw [← hout]; exact hr38), ⟨⟨hw36, hw34, hw35, habu, habv, hauv⟩, hw37, hw33, haok, habk, hauk, havk⟩, hka1, hX22⟩

end DS1
end Go.Proofs.YtndhhpaldhlghaaDoor
