/- Walks, printed by a program (walkgen.py) from the spec specs_e. -/
import Derived.Test.YtndhhpaldhlghaaDoorChecked
import Derived.Test.YtndhhpaldhlghaaDoorRow
import Derived.Test.YtndhhpaldhlghaaDoorBook
import Derived.Test.YtndhhpaldhlghaaDoorC1
import Derived.Test.YtndhhpaldhlghaaDoorD1
set_option maxRecDepth 20000
set_option maxHeartbeats 2000000
namespace Go.Proofs.YtndhhpaldhlghaaDoor
namespace E1
open Go.RowKit Go.GL Go.Proofs
open Go.Proofs.YtndhhpaldhlghaaDoor.C1
open Go.Proofs.YtndhhpaldhlghaaDoor.D1
theorem ag28 : (Tryd.prog.underlying 28).map aggD = some false := by kernel_rfl
theorem ag3 : (Tryd.prog.underlying 3).map aggD = some false := by kernel_rfl
theorem ag30 : (Tryd.prog.underlying 30).map aggD = some true := by kernel_rfl
theorem ag38 : (Tryd.prog.underlying 38).map aggD = some false := by kernel_rfl
theorem ag4 : (Tryd.prog.underlying 4).map aggD = some false := by kernel_rfl
theorem ag69 : (Tryd.prog.underlying 69).map aggD = some true := by kernel_rfl
theorem ap3 : (Tryd.prog.info? 3).map (fun i => (i.size, i.bytes, (i.zero.map (·.cells.size)))) = some (1, 8, some 1) := by kernel_rfl
theorem ap69 : (Tryd.prog.info? 69).map (fun i => (i.size, i.bytes, (i.zero.map (·.cells.size)))) = some (2, 48, some 2) := by kernel_rfl
theorem mk3 : (Tryd.prog.info? 3).map (fun i => (i.size, i.bytes, i.zero)) = some (1, 8, some (.int .i64 0)) := by kernel_rfl
theorem mk4 : (Tryd.prog.info? 4).map (fun i => (i.size, i.bytes, i.zero)) = some (1, 1, some (.bool false)) := by kernel_rfl
theorem nm54 : (Tryd.f54.name == "runtime.NumGoroutine") = false := by kernel_rfl
theorem nm55 : (Tryd.f55.name == "runtime.NumGoroutine") = false := by kernel_rfl
theorem nm56 : (Tryd.f56.name == "runtime.NumGoroutine") = false := by kernel_rfl
theorem nm57 : (Tryd.f57.name == "runtime.NumGoroutine") = false := by kernel_rfl
theorem nm58 : (Tryd.f58.name == "runtime.NumGoroutine") = false := by kernel_rfl
theorem nm79 : (Tryd.f79.name == "runtime.NumGoroutine") = false := by kernel_rfl
theorem nm80 : (Tryd.f80.name == "runtime.NumGoroutine") = false := by kernel_rfl
theorem nm81 : (Tryd.f81.name == "runtime.NumGoroutine") = false := by kernel_rfl
theorem nm82 : (Tryd.f82.name == "runtime.NumGoroutine") = false := by kernel_rfl
theorem nm83 : (Tryd.f83.name == "runtime.NumGoroutine") = false := by kernel_rfl
theorem nm90 : (Tryd.f90.name == "runtime.NumGoroutine") = false := by kernel_rfl
theorem nz28 : (Tryd.prog.info? 28).map (·.size == 0) = some false := by kernel_rfl
theorem nz38 : (Tryd.prog.info? 38).map (·.size == 0) = some false := by kernel_rfl
theorem pl30 : (Tryd.prog.underlying 30).bind (placesD Tryd.prog) = some [(0, 1)] := by kernel_rfl
theorem pl69 : (Tryd.prog.underlying 69).bind (placesD Tryd.prog) = some [(0, 1), (1, 1)] := by kernel_rfl
theorem pl71 : (Tryd.prog.underlying 71).bind (placesD Tryd.prog) = some [(0, 1), (1, 1)] := by kernel_rfl
theorem sz28 : (Tryd.prog.info? 28).map (·.size) = some 1 := by kernel_rfl
theorem sz3 : (Tryd.prog.info? 3).map (·.size) = some 1 := by kernel_rfl
theorem sz30 : (Tryd.prog.info? 30).map (·.size) = some 1 := by kernel_rfl
theorem sz4 : (Tryd.prog.info? 4).map (·.size) = some 1 := by kernel_rfl
theorem sz69 : (Tryd.prog.info? 69).map (·.size) = some 2 := by kernel_rfl
theorem zr3 : (Tryd.prog.info? 3).bind (·.zero) = some (.int .i64 0) := by kernel_rfl
theorem zr30 : (Tryd.prog.info? 30).bind (·.zero) = some (.agg #[(.slice none 0 0)]) := by kernel_rfl
theorem zr69 : (Tryd.prog.info? 69).bind (·.zero) = some (.agg #[(.slice none 0 0), (.slice none 0 0)]) := by kernel_rfl
theorem zr71 : (Tryd.prog.info? 71).bind (·.zero) = some (.agg #[(.slice none 0 0), (.slice none 0 0)]) := by kernel_rfl

theorem add_spec {w : World} {G : Pin} {b : Nat} {bu bv : Value} {ns : List Nd} {bs : List Int} (hP : Pins G w) (hB : Bk 69 3 G w b bu bv ns bs) (hok : BookOk ns bs) {x : Value} {fs : List Nd} (hx : RSl eNode G x fs) (hf : FormOk fs) (hl : ns.length + fs.length ≤ 1048576) :
    Calls Tryd.prog 83 [(.pointer (some ⟨b, 0, none⟩)), (.agg [x].toArray)].toArray w fun e w' => ∃ (r u' v' : Value) (G' : Pin), e = .returned r ∧ RSl eInt G' r (addM ns bs fs).1 ∧ Bk 69 3 G' w' b u' v' (addM ns bs fs).2.1 (addM ns bs fs).2.2 ∧ Ext (inS b bu bv) G w G' w' ∧ Lo w (inS b bu bv) u'.ownBlock ∧ Lo w (inS b bu bv) v'.ownBlock := by
  refine s_enter (n := 37) Tryd.func83 Tryd.ntmps83 rfl rfl ?_
  have hX0 : Ext (inS b bu bv) G w G w := Ext.refl hP
  have hbx := hB.bx
  have hou := hB.ou
  have hov := hB.ov
  have habu := hB.abu
  have habv := hB.abv
  have hauv := hB.auv
  have hlob : Lo w (inS b bu bv) (some b) := lo_b
  have hlou : Lo w (inS b bu bv) bu.ownBlock := lo_u
  have hlov : Lo w (inS b bu bv) bv.ownBlock := lo_v
  have hlen := hok.len
  have hlim := hok.lim
  refine s_seq ?_
  refine c_reg ?_
  refine q1 rfl rfl rfl (o_box [x] (v := (.agg [x].toArray)) rfl rfl hX0.pins (fun b1 w2 hk3 hb4 hp5 hl6 => ?_))
  have hX7 := hX0.step hp5 hl6
  have ho8 := hou.below hl6
  have ho9 := hov.below hl6
  have hb10 := hbx.below hl6
  have ha11 : Apart (some b1) bu.ownBlock := new_ne_own (congrArg some hk3) hou.lt
  have ha12 : Apart (some b1) bv.ownBlock := new_ne_own (congrArg some hk3) hov.lt
  have ha13 : Apart (some b1) (some b) := new_ne_box (congrArg some hk3) hbx.lt
  have hlo14 : w.heap.size ≤ b1 := by have := hX0.size; omega
  obtain ⟨G15, hle16, hX17, hbp18, hf19⟩ := hb4.shut hX7 hlo14
  have ho20 := ho8.moreA hle16 hf19 ha11.symm
  have ho21 := ho9.moreA hle16 hf19 ha12.symm
  have hb22 := hb10.moreA hf19 ha13.symm
  refine qd rfl rfl rfl (r_assign (v := (.slice none 0 0)) rfl) ?_
  refine qe ?_
  refine s_then ?_
  refine s_seq ?_
  refine c_reg ?_
  refine q1 rfl rfl rfl (o_build0 (E := eInt) (e := 3) Tryd.underlying38 sz3 hX17.pins (fun u23 w24 ho25 hp26 hl27 hk28 => ?_))
  have hX29 := hX17.step hp26 hl27
  have ho30 := ho20.below hl27
  have ho31 := ho21.below hl27
  have hb32 := hb22.below hl27
  have ha33 : Apart u23.ownBlock bu.ownBlock := new_ne_own hk28 ho20.lt
  have ha34 : Apart u23.ownBlock bv.ownBlock := new_ne_own hk28 ho21.lt
  have ha35 : Apart u23.ownBlock (some b) := new_ne_box hk28 hb22.lt
  have ho36 : Own eInt 3 G15 w24 w.heap.size u23 ([]) := ho25.weaken hX17.size
  refine qd rfl rfl rfl (r_assign (v := u23) rfl) ?_
  refine qe ?_
  refine s_then ?_
  refine s_seq ?_
  refine s_seq ?_
  refine c_reg ?_
  refine qd rfl rfl rfl (r_assign (v := (.int .i64 0)) rfl) ?_
  refine qe ?_
  refine s_then ?_
  refine s_blk ?_
  refine s_loop (fun (k : Nat) (en : Nat → Value) (W : World) => ∃ (env1 : Nat → Value) (k4 : Nat) (at_ : Value) (ats : List Int) (u2 : Value) (v2 : Value) (ns2 : List Nd) (bs2 : List Int) (GL1 : Pin), en = (upd (upd (upd (upd (upd env1 0 (.pointer (some ⟨b, 0, none⟩))) 3 (.pointer (some ⟨b1, 0, none⟩))) 4 (.slice none 0 0)) 5 at_) 6 (.int .i64 (k4 : Int))) ∧ k = fs.length - k4 ∧ Ext (inS b bu bv) G w GL1 W ∧ Pin.le G15 GL1 ∧ (k4 ≤ fs.length) ∧ (addM ns bs (fs.take k4) = (ats, ns2, bs2)) ∧ (AddOk ns k4 ats ns2 bs2) ∧ (Own eInt 3 GL1 W w.heap.size at_ (ats)) ∧ (Own eNode 69 GL1 W 0 u2 (ns2)) ∧ (Own eInt 3 GL1 W 0 v2 (bs2)) ∧ (Bx GL1 W b [u2, v2]) ∧ (Apart at_.ownBlock u2.ownBlock) ∧ (Apart at_.ownBlock v2.ownBlock) ∧ (Apart at_.ownBlock (some b)) ∧ (Apart u2.ownBlock v2.ownBlock) ∧ (Apart u2.ownBlock (some b)) ∧ (Apart v2.ownBlock (some b)) ∧ (Lo w (inS b bu bv) u2.ownBlock) ∧ (Lo w (inS b bu bv) v2.ownBlock)) _ ⟨_, 0, u23, [], bu, bv, ns, bs, G15, (packS (x := 6) (packS (x := 5) (packS (x := 4) (packS (x := 3) (pack1 (x := 0) rfl) rfl) rfl) rfl) rfl), rfl, hX29, Pin.le_refl _, Nat.zero_le _, rfl, AddOk.start hok, ho36, ho30, ho31, hb32, ha33, ha34, ha35, hauv, habu.symm, habv.symm, hlou, hlov⟩ ?_
  rintro k37 _ w38 ⟨env1, k4, at_, ats, u2, v2, ns2, bs2, GL1, rfl, hk39, hX40, hlek37, hj, hr, hao, hw41, hw42, hw43, hw44, ha45, ha46, ha47, ha48, ha49, ha50, hlo51, hlo52⟩
  have hal := hao.len
  have hah := hao.hi
  have hfl := hf.len
  refine s_seq ?_
  refine s_seq ?_
  refine c_reg ?_
  refine qd rfl rfl rfl (r_move (v := (.int .i64 (k4 : Int))) rfl) ?_
  refine qd rfl rfl rfl (r_fldp (k := 0) rfl Tryd.underlying30 rfl nz28 rfl) ?_
  refine qd rfl rfl rfl (r_ldp1 (u := x) ag28 rfl ((Pins.of_le hX40.pins hlek37) _ _ _ (hbp18 0 _ rfl))) ?_
  refine qd rfl rfl rfl (run_len Tryd.underlying28 (v := x) rfl hx) ?_
  refine qd rfl rfl rfl (r_lss rfl rfl) ?_
  refine qe ?_
  refine s_then ?_
  refine c_ifd (p := ((k4 : Int) : Int) < (fs.length : Int)) rfl rfl (fun h53 => ?_) (fun h53 => ?_)
  · skip
    have hat1 := hao.at1 hf (by omega)
    have hfe := hf.lens k4 (by omega)
    refine wp_skip ?_
    refine s_then ?_
    refine s_seq ?_
    refine s_blk ?_
    refine c_draw (S := fun wz => Pins GL1 wz) (last := 22) (by kernel_rfl) rfl ?_
    have hl54 : Below w38.heap.size w38 w38.drew := (Below.refl _ _).drew
    have hp55 := hX40.pins.below hl54
    have hX56 := hX40.step hp55 hl54
    have ho57 := hw41.below hl54
    have ho58 := hw42.below hl54
    have ho59 := hw43.below hl54
    have hb60 := hw44.below hl54
    refine dr_take (i := 0) rfl rfl rfl (want_none rfl _) (by kernel_rfl) (fun _ _ => r_move (v := at_) rfl) hX56.pins ?_
    refine dr_take (i := 1) rfl rfl rfl (want_none rfl _) (by kernel_rfl) (fun _ _ => r_move (v := (.pointer (some ⟨b, 0, none⟩))) rfl) hX56.pins ?_
    refine dr_take (i := 2) rfl rfl rfl (want_none rfl _) (by kernel_rfl) (fun _ _ => r_move (v := at_) rfl) hX56.pins ?_
    refine dr_take (i := 3) rfl rfl rfl (want_none rfl _) (by kernel_rfl) (fun _ _ => r_fldp (k := 0) rfl Tryd.underlying30 rfl nz28 rfl) hX56.pins ?_
    refine dr_take (i := 4) rfl rfl rfl (want_none rfl _) (by kernel_rfl) (fun _ hS => r_ldp1 (u := x) ag28 rfl ((Pins.of_le hS hlek37) _ _ _ (hbp18 0 _ rfl))) hX56.pins ?_
    refine dr_take (i := 5) rfl rfl rfl (want_none rfl _) (by kernel_rfl) (fun _ _ => r_move (v := (.int .i64 (k4 : Int))) rfl) hX56.pins ?_
    refine dr_take (i := 6) rfl rfl rfl (want_none rfl _) (by kernel_rfl) (fun _ _ => run_idx Tryd.underlying28 sz69 (v := x) rfl rfl hx (by omega) (by omega)) hX56.pins ?_
    refine dr_take (i := 7) rfl rfl rfl (want_none rfl _) (by kernel_rfl) (fun _ _ => run_fld (off := 0) Tryd.underlying69 rfl rfl nz38 (z := (k4 : Int)) (k := 0) rfl hx (by omega) (by omega)) hX56.pins ?_
    obtain ⟨u61, hr62, hl63⟩ := nm_nl (hx.at (z := (k4 : Int)) (by omega) (by omega)) (j := k4) rfl
    have hm64 := hr62.max
    refine dr_take (i := 8) rfl rfl rfl (want_none rfl _) (by kernel_rfl) (fun _ hS => hl63 ag38 rfl (Pins.of_le hS (Pin.le_trans hle16 hlek37))) hX56.pins ?_
    refine dr_take (i := 10) rfl rfl rfl (want_none rfl _) (by kernel_rfl) (fun _ _ => r_move (v := at_) rfl) hX56.pins ?_
    refine dr_take (i := 11) rfl rfl rfl (want_none rfl _) (by kernel_rfl) (fun _ _ => r_fldp (k := 0) rfl Tryd.underlying30 rfl nz28 rfl) hX56.pins ?_
    refine dr_take (i := 12) rfl rfl rfl (want_none rfl _) (by kernel_rfl) (fun _ hS => r_ldp1 (u := x) ag28 rfl ((Pins.of_le hS hlek37) _ _ _ (hbp18 0 _ rfl))) hX56.pins ?_
    refine dr_take (i := 13) rfl rfl rfl (want_none rfl _) (by kernel_rfl) (fun _ _ => r_move (v := (.int .i64 (k4 : Int))) rfl) hX56.pins ?_
    refine dr_take (i := 14) rfl rfl rfl (want_none rfl _) (by kernel_rfl) (fun _ _ => run_idx Tryd.underlying28 sz69 (v := x) rfl rfl hx (by omega) (by omega)) hX56.pins ?_
    refine dr_take (i := 15) rfl rfl rfl (want_none rfl _) (by kernel_rfl) (fun _ _ => run_fld (off := 1) Tryd.underlying69 rfl rfl nz38 (z := (k4 : Int)) (k := 0) rfl hx (by omega) (by omega)) hX56.pins ?_
    obtain ⟨u65, hr66, hl67⟩ := nm_nr (hx.at (z := (k4 : Int)) (by omega) (by omega)) (j := k4) rfl
    have hm68 := hr66.max
    refine dr_take (i := 16) rfl rfl rfl (want_none rfl _) (by kernel_rfl) (fun _ hS => hl67 ag38 rfl (Pins.of_le hS (Pin.le_trans hle16 hlek37))) hX56.pins ?_
    refine dr_one (i := 9) (by kernel_rfl) (drOp1 (i := 9) rfl rfl rfl (want_none rfl _) (o_call (vs := [at_, u61]) Tryd.func81 nm81 rfl rfl rfl ?_))
    refine Calls.mono (l3At_spec hX56.pins (Gadd.pins hX56.pins at_) ho57.read (hr62.mono (Pin.le_trans hle16 hlek37)) (by omega) hat1.1) ?_
    rintro _ w71 ⟨u69, G70, rfl, ho72, hx73⟩
    refine ⟨_, rfl, ?_⟩
    have hX74 := hX56.tr hx73
    have ho75 := ho57.ext hx73
    have ho76 := ho58.ext hx73
    have ho77 := ho59.ext hx73
    have hb78 := hb60.ext hx73
    have ha79 : Apart u69.ownBlock at_.ownBlock := made_ne_own ho72.lt ho57.lt
    have ha80 : Apart u69.ownBlock u2.ownBlock := made_ne_own ho72.lt ho58.lt
    have ha81 : Apart u69.ownBlock v2.ownBlock := made_ne_own ho72.lt ho59.lt
    have ha82 : Apart u69.ownBlock (some b) := made_ne_box ho72.lt hb60.lt
    have ho83 : Own eInt 3 G70 w71 w.heap.size u69 (atL ats ((fs.getD k4 default).l)) := ho72.weaken hX56.size
    refine ⟨fun _ => (Pins.of_le hX74.pins hx73.le), ?_⟩
    refine dr_one (i := 17) (by kernel_rfl) (drOp1 (i := 17) rfl rfl rfl (want_none rfl _) (o_call (vs := [at_, u65]) Tryd.func81 nm81 rfl rfl rfl ?_))
    refine Calls.mono (l3At_spec hX74.pins (Gadd.pins hX74.pins at_) ho75.read (hr66.mono (Pin.le_trans (Pin.le_trans hle16 hlek37) hx73.le)) (by omega) hat1.2) ?_
    rintro _ w86 ⟨u84, G85, rfl, ho87, hx88⟩
    refine ⟨_, rfl, ?_⟩
    have hX89 := hX74.tr hx88
    have ho90 := ho75.ext hx88
    have ho91 := ho76.ext hx88
    have ho92 := ho77.ext hx88
    have ho93 := ho83.ext hx88
    have hb94 := hb78.ext hx88
    have ha95 : Apart u84.ownBlock at_.ownBlock := made_ne_own ho87.lt ho75.lt
    have ha96 : Apart u84.ownBlock u2.ownBlock := made_ne_own ho87.lt ho76.lt
    have ha97 : Apart u84.ownBlock v2.ownBlock := made_ne_own ho87.lt ho77.lt
    have ha98 : Apart u84.ownBlock u69.ownBlock := made_ne_own ho87.lt ho83.lt
    have ha99 : Apart u84.ownBlock (some b) := made_ne_box ho87.lt hb78.lt
    have ho100 : Own eInt 3 G85 w86 w.heap.size u84 (atL ats ((fs.getD k4 default).r)) := ho87.weaken hX74.size
    refine ⟨fun _ => (Pins.of_le hX89.pins (Pin.le_trans hx73.le hx88.le)), ?_⟩
    obtain ⟨G101, hle104, hX103, hr102, hf105⟩ := ho93.sealed hX89
    have ho106 := ho90.moreO hle104 hf105 ha79.symm
    have ho107 := ho91.moreO hle104 hf105 ha80.symm
    have ho108 := ho92.moreO hle104 hf105 ha81.symm
    have ho109 := ho100.moreO hle104 hf105 ha98
    have hb110 := hb94.moreO hf105 ha82.symm
    obtain ⟨G111, hle114, hX113, hr112, hf115⟩ := ho109.sealed hX103
    have ho116 := ho106.moreO hle114 hf115 ha95.symm
    have ho117 := ho107.moreO hle114 hf115 ha96.symm
    have ho118 := ho108.moreO hle114 hf115 ha97.symm
    have hb119 := hb110.moreO hf115 ha99.symm
    refine dr_one (i := 18) (by kernel_rfl) (drOp1 (i := 18) rfl rfl rfl (want_none rfl _) (o_call (vs := [(.pointer (some ⟨b, 0, none⟩)), u69, u84]) Tryd.func90 nm90 rfl rfl rfl ?_))
    refine Calls.mono (put_spec hX113.pins ⟨hb119, ho117, ho118, ha49.symm, ha50.symm, ha48⟩ hao.book (hr102.mono hle114) hr112 ⟨by rw [at_length]; omega, by rw [at_length]; omega⟩ (at_bounds hao.places hat1.1) (at_bounds hao.places hat1.2)) ?_
    rintro _ w123 ⟨u120, v121, G122, rfl, hbk124, hx125, hlu126, hlv127⟩
    refine ⟨_, rfl, ?_⟩
    have hin130 : ∀ i, inS b u2 v2 i → w.heap.size ≤ i ∨ (inS b bu bv) i := inS_lo hlob hlo51 hlo52
    have hX131 := hX113.trans hx125 hin130
    have hn132 := notS (u := u2) (v := v2) ha47 ha45 ha46
    have ho133 := ho116.extS hx125 hn132
    have ha134 : Apart at_.ownBlock u120.ownBlock := ap_call hlu126 hn132 (own_lt ho116)
    have ha135 : Apart at_.ownBlock v121.ownBlock := ap_call hlv127 hn132 (own_lt ho116)
    have hb136 := hbk124.bx
    have ho137 := hbk124.ou
    have ho138 := hbk124.ov
    have ha139 := hbk124.abu
    have ha140 := hbk124.abv
    have ha141 := hbk124.auv
    have hlo142 := lo_call hlu126 hin130 hX113.size
    have hlo143 := lo_call hlv127 hin130 hX113.size
    refine ⟨fun _ => (Pins.of_le hX131.pins (Pin.le_trans (Pin.le_trans (Pin.le_trans (Pin.le_trans hx73.le hx88.le) hle104) hle114) hx125.le)), ?_⟩
    refine dr_one (i := 19) (by kernel_rfl) (drOp1 (i := 19) rfl rfl rfl (want_none rfl _) (o_buildF (E := eInt) (e := 3) [(.int .i64 (putK ns2 bs2 (atL ats ((fs.getD k4 default).l)) (atL ats ((fs.getD k4 default).r))))] [putK ns2 bs2 (atL ats ((fs.getD k4 default).l)) (atL ats ((fs.getD k4 default).r))] Tryd.underlying38 sz3 zr3 (by exact reps1 (by rfl)) (ones1 (by rfl)) rfl rfl rfl rfl (by decide) hX131.pins (fun u144 w145 ho146 hp147 hl148 hk149 => ?_)))
    have hX150 := hX131.step hp147 hl148
    have ho151 := ho133.below hl148
    have ho152 := ho137.below hl148
    have ho153 := ho138.below hl148
    have hb154 := hb136.below hl148
    have ha155 : Apart u144.ownBlock at_.ownBlock := new_ne_own hk149 ho133.lt
    have ha156 : Apart u144.ownBlock u120.ownBlock := new_ne_own hk149 ho137.lt
    have ha157 : Apart u144.ownBlock v121.ownBlock := new_ne_own hk149 ho138.lt
    have ha158 : Apart u144.ownBlock (some b) := new_ne_box hk149 hb136.lt
    have ho159 : Own eInt 3 G122 w145 w.heap.size u144 ([putK ns2 bs2 (atL ats ((fs.getD k4 default).l)) (atL ats ((fs.getD k4 default).r))]) := ho146.weaken hX131.size
    refine ⟨fun _ => (Pins.of_le hX150.pins (Pin.le_trans (Pin.le_trans (Pin.le_trans (Pin.le_trans hx73.le hx88.le) hle104) hle114) hx125.le)), ?_⟩
    refine dr_one (i := 20) (by kernel_rfl) (drOp1 (i := 20) rfl rfl rfl (want_none rfl _) (o_append (E := eInt) (v := at_) (u := u144) 8 Tryd.underlying38 ap3 (by decide) rfl rfl hX150.pins ho151 ho159.src (by first | omega | (rw [List.nil_append]; omega) | (rw [List.length_nil]; omega) | (rw [List.length_append]; omega) | (simp; done) | (simp; omega)) (by first | omega | (rw [List.nil_append]; omega) | (rw [List.length_nil]; omega) | (rw [List.length_append]; omega) | (simp; done) | (simp; omega)) (hX150.size) (fun u160 w161 ho162 hp163 hg164 hw165 => ?_)))
    have hX166 := hX150.write hp163 hg164 ((lo_own ho151))
    have ho167 := ho152.keptA hg164 ha134.symm
    have ho168 := ho153.keptA hg164 ha135.symm
    have ho169 := ho159.keptA hg164 ha155
    have hb170 := hb154.keptA hg164 ha47.symm
    have ha171 : Apart u120.ownBlock u160.ownBlock := app_ne_own ha134.symm hw165 ho152.lt
    have ha172 : Apart v121.ownBlock u160.ownBlock := app_ne_own ha135.symm hw165 ho153.lt
    have ha173 : Apart u144.ownBlock u160.ownBlock := app_ne_own ha155 hw165 ho159.lt
    have ha174 : Apart (some b) u160.ownBlock := app_ne_box ha47.symm hw165 hb154.lt
    have hm175 : (ats ++ ([putK ns2 bs2 (atL ats ((fs.getD k4 default).l)) (atL ats ((fs.getD k4 default).r))])).length = ats.length + 1 := by simp
    refine ⟨fun _ => (Pins.of_le hX166.pins (Pin.le_trans (Pin.le_trans (Pin.le_trans (Pin.le_trans hx73.le hx88.le) hle104) hle114) hx125.le)), ?_⟩
    refine dr_take (i := 21) rfl rfl rfl (want_none rfl _) (by kernel_rfl) (fun _ _ => r_assign (v := u160) rfl) (Pins.of_le hX166.pins (Pin.le_trans (Pin.le_trans (Pin.le_trans (Pin.le_trans hx73.le hx88.le) hle104) hle114) hx125.le)) ?_
    refine dr_end (by kernel_rfl) ?_
    refine s_blkN ?_
    refine s_then ?_
    refine c_reg ?_
    refine qd rfl rfl rfl (r_move (v := (.int .i64 (k4 : Int))) rfl) ?_
    refine qd rfl rfl rfl (r_add rfl rfl (by omega)) ?_
    refine qd rfl rfl rfl (r_assign (v := (.int .i64 ((k4 : Int) + 1))) rfl) ?_
    refine qe ?_
    refine s_lopN ?_
    refine ⟨_, ?_, _, rfl, _, k4 + 1, u160, (addStep (ats, ns2, bs2) (fs.getD k4 default)).1, u120, v121, (addStep (ats, ns2, bs2) (fs.getD k4 default)).2.1, (addStep (ats, ns2, bs2) (fs.getD k4 default)).2.2, G122, (packS (x := 6) (packS (x := 5) (packS (x := 4) (packS (x := 3) (pack1 (x := 0) rfl) rfl) rfl) rfl) rfl), rfl, hX166, (Pin.le_trans (Pin.le_trans (Pin.le_trans (Pin.le_trans (Pin.le_trans hlek37 hx73.le) hx88.le) hle104) hle114) hx125.le), (by omega), ((addM_next (by omega)).trans (by rw [hr])), (hao.step hf (by omega) hl), ho162, ho167, ho168, hb170, ha171.symm, ha172.symm, ha174.symm, ha141, ha139.symm, ha140.symm, hlo142, hlo143⟩
    omega
  refine wp_exit ?_
  refine s_thenE ?_
  refine s_lopE ?_
  refine s_blkE ?_
  refine s_then ?_
  refine s_seq ?_
  refine c_reg ?_
  refine qd rfl rfl rfl (r_move (v := at_) rfl) ?_
  refine qd rfl rfl rfl (r_assign (v := at_) rfl) ?_
  refine qe ?_
  refine s_then ?_
  refine wp_ret ?_
  refine s_ret ?_
  refine c_ret1 (v := at_) rfl rfl rfl ?_
  obtain ⟨G176, hle179, hX178, hr177, hf180⟩ := hw41.sealed hX40
  have ho181 := hw42.moreO hle179 hf180 ha45.symm
  have ho182 := hw43.moreO hle179 hf180 ha46.symm
  have hb183 := hw44.moreO hf180 ha47.symm
  rw [take_all (by omega)] at hr
  refine ⟨_, u2, v2, _, rfl, ?_, ?_, hX178, hlo51, hlo52⟩
  · rw [hr]; exact hr177
  · rw [hr]; exact ⟨hb183, ho181, ho182, ha49.symm, ha50.symm, ha48⟩

theorem root_spec {w : World} {G : Pin} {b : Nat} {bu bv : Value} {ns : List Nd} {bs : List Int} (hP : Pins G w) (hB : Bk 69 3 G w b bu bv ns bs) (hok : BookOk ns bs) {x : Value} {fs : List Nd} (hx : RSl eNode G x fs) (hf : FormOk fs ∧ 1 ≤ fs.length) (hl : ns.length + fs.length ≤ 1048576) :
    Calls Tryd.prog 58 [(.pointer (some ⟨b, 0, none⟩)), (.agg [x].toArray)].toArray w fun e w' => ∃ (u' v' : Value) (G' : Pin), e = .returned (.int .i64 (rootM ns bs fs)) ∧ Bk 69 3 G' w' b u' v' (addM ns bs fs).2.1 (addM ns bs fs).2.2 ∧ Ext (inS b bu bv) G w G' w' ∧ Lo w (inS b bu bv) u'.ownBlock ∧ Lo w (inS b bu bv) v'.ownBlock := by
  refine s_enter (n := 15) Tryd.func58 Tryd.ntmps58 rfl rfl ?_
  have hX0 : Ext (inS b bu bv) G w G w := Ext.refl hP
  have hbx := hB.bx
  have hou := hB.ou
  have hov := hB.ov
  have habu := hB.abu
  have habv := hB.abv
  have hauv := hB.auv
  have hlob : Lo w (inS b bu bv) (some b) := lo_b
  have hlou : Lo w (inS b bu bv) bu.ownBlock := lo_u
  have hlov : Lo w (inS b bu bv) bv.ownBlock := lo_v
  have hlen := hok.len
  have hlim := hok.lim
  have hal := (addM_all hok hf.1 hl).len
  have hfl := hf.1.len
  refine s_seq ?_
  refine c_reg ?_
  refine q1 rfl rfl rfl (o_box [x] (v := (.agg [x].toArray)) rfl rfl hX0.pins (fun b1 w2 hk3 hb4 hp5 hl6 => ?_))
  have hX7 := hX0.step hp5 hl6
  have ho8 := hou.below hl6
  have ho9 := hov.below hl6
  have hb10 := hbx.below hl6
  have ha11 : Apart (some b1) bu.ownBlock := new_ne_own (congrArg some hk3) hou.lt
  have ha12 : Apart (some b1) bv.ownBlock := new_ne_own (congrArg some hk3) hov.lt
  have ha13 : Apart (some b1) (some b) := new_ne_box (congrArg some hk3) hbx.lt
  have hlo14 : w.heap.size ≤ b1 := by have := hX0.size; omega
  obtain ⟨G15, hle16, hX17, hbp18, hf19⟩ := hb4.shut hX7 hlo14
  have ho20 := ho8.moreA hle16 hf19 ha11.symm
  have ho21 := ho9.moreA hle16 hf19 ha12.symm
  have hb22 := hb10.moreA hf19 ha13.symm
  refine qd rfl rfl rfl (r_assign (v := (.int .i64 0)) rfl) ?_
  refine qe ?_
  refine s_then ?_
  refine s_seq ?_
  refine c_reg ?_
  refine qd rfl rfl rfl (r_move (v := (.pointer (some ⟨b, 0, none⟩))) rfl) ?_
  refine qd rfl rfl rfl (r_ldpA (cs := [x]) ag30 sz30 rfl (fun j u hj => hX17.pins _ _ _ (hbp18 _ _ (by simpa using hj)))) ?_
  refine q1 rfl rfl rfl (o_call (vs := [(.pointer (some ⟨b, 0, none⟩)), (.agg [x].toArray)]) Tryd.func83 nm83 rfl rfl rfl ?_)
  refine Calls.mono (add_spec hX17.pins ⟨hb22, ho20, ho21, habu, habv, hauv⟩ hok (hx.mono hle16) hf.1 (by first | omega | (simp; omega))) ?_
  rintro _ w26 ⟨u31, u23, v24, G25, rfl, hr32, hbk27, hx28, hlu29, hlv30⟩
  refine ⟨_, rfl, ?_⟩
  have hin33 : ∀ i, inS b bu bv i → w.heap.size ≤ i ∨ (inS b bu bv) i := inS_lo hlob hlou hlov
  have hX34 := hX17.trans hx28 hin33
  have hb35 := hbk27.bx
  have ho36 := hbk27.ou
  have ho37 := hbk27.ov
  have ha38 := hbk27.abu
  have ha39 := hbk27.abv
  have ha40 := hbk27.auv
  have hlo41 := lo_call hlu29 hin33 hX17.size
  have hlo42 := lo_call hlv30 hin33 hX17.size
  refine qd rfl rfl rfl (r_assign (v := u31) rfl) ?_
  refine qe ?_
  refine s_then ?_
  refine s_seq ?_
  refine c_reg ?_
  refine qd rfl rfl rfl (r_move (v := u31) rfl) ?_
  refine qd rfl rfl rfl (r_move (v := u31) rfl) ?_
  refine qd rfl rfl rfl (run_len Tryd.underlying38 (v := u31) rfl hr32) ?_
  refine qd rfl rfl rfl (r_sub rfl rfl (by omega)) ?_
  refine qd rfl rfl rfl (run_idx Tryd.underlying38 sz3 (v := u31) rfl rfl hr32 (by omega) (by omega)) ?_
  refine qd rfl rfl rfl (run_load_int (r := ((addM ns bs fs).1).getD ((((addM ns bs fs).1).length : Int) - 1).toNat 0) rfl ag3 (z := ((((addM ns bs fs).1).length : Int) - 1)) rfl hr32 hX34.pins (by omega) (by omega)) ?_
  refine qd rfl rfl rfl (r_assign (v := (.int .i64 (((addM ns bs fs).1).getD ((((addM ns bs fs).1).length : Int) - 1).toNat 0))) rfl) ?_
  refine qe ?_
  refine s_then ?_
  refine wp_ret ?_
  refine s_ret ?_
  refine c_ret1 (v := (.int .i64 (((addM ns bs fs).1).getD ((((addM ns bs fs).1).length : Int) - 1).toNat 0))) rfl rfl rfl ?_
  exact ⟨_, _, _, congrArg (fun z => Ending.returned (Value.int .i64 z)) (by unfold rootM; rw [show (((addM ns bs fs).1.length : Int) - 1).toNat = (addM ns bs fs).1.length - 1 by omega]), ⟨hb35, ho36, ho37, ha38, ha39, ha40⟩, hX34, hlo41, hlo42⟩

theorem reached_spec {w : World} {G : Pin} {b : Nat} {bu bv : Value} {ns : List Nd} {bs : List Int} (hP : Pins G w) (hB : Bk 69 3 G w b bu bv ns bs) (hok : BookOk ns bs) {m : Int} (hm : 0 ≤ m ∧ m < ns.length) :
    Calls Tryd.prog 79 [(.pointer (some ⟨b, 0, none⟩)), (.int .i64 m)].toArray w fun e w' => ∃ (u : Value) (G' : Pin), e = .returned u ∧ Own eBool 4 G' w' w.heap.size u (reachM ns m.toNat) ∧ Ext noS G w G' w' := by
  refine s_enter (n := 78) Tryd.func79 Tryd.ntmps79 rfl rfl ?_
  have hX0 : Ext noS G w G w := Ext.refl hP
  have hbx := hB.bx
  have hou := hB.ou
  have hov := hB.ov
  have habu := hB.abu
  have habv := hB.abv
  have hauv := hB.auv
  have hlob : Lo w (inS b bu bv) (some b) := lo_b
  have hlou : Lo w (inS b bu bv) bu.ownBlock := lo_u
  have hlov : Lo w (inS b bu bv) bv.ownBlock := lo_v
  have hlen := hok.len
  have hlim := hok.lim
  have hoo : OptsOk ns := hok.optsOk
  refine s_seq ?_
  refine c_reg ?_
  refine qd rfl rfl rfl (r_assign (v := (.slice none 0 0)) rfl) ?_
  refine qe ?_
  refine s_then ?_
  refine s_seq ?_
  refine c_reg ?_
  refine qd rfl rfl rfl (r_move (v := (.int .i64 m)) rfl) ?_
  refine qd rfl rfl rfl (r_add rfl rfl (by omega)) ?_
  refine q1 rfl rfl rfl (o_make (E := eBool) false 1 (.bool false) Tryd.underlying91 mk4 (fun _ => rfl) rfl rfl hX0.pins (by omega) (by omega) (by omega) (fun u1 w2 ho3 hp4 hl5 hk6 => ?_))
  have hX7 := hX0.step hp4 hl5
  have ho8 := hou.below hl5
  have ho9 := hov.below hl5
  have hb10 := hbx.below hl5
  have ha11 : Apart u1.ownBlock bu.ownBlock := new_ne_own hk6 hou.lt
  have ha12 : Apart u1.ownBlock bv.ownBlock := new_ne_own hk6 hov.lt
  have ha13 : Apart u1.ownBlock (some b) := new_ne_box hk6 hbx.lt
  have ho14 : Own eBool 4 G w2 w.heap.size u1 (List.replicate (m + 1).toNat false) := ho3.weaken hX0.size
  have hm15 : (List.replicate (m + 1).toNat false).length = (m + 1).toNat := List.length_replicate ..
  refine qd rfl rfl rfl (r_assign (v := u1) rfl) ?_
  refine qe ?_
  refine s_then ?_
  refine s_seq ?_
  refine c_reg ?_
  refine qd rfl rfl rfl (r_move (v := u1) rfl) ?_
  refine qd rfl rfl rfl (r_move (v := (.int .i64 m)) rfl) ?_
  refine qd rfl rfl rfl (run_idx Tryd.underlying91 sz4 (v := u1) rfl rfl ho14.read (by omega) (by omega)) ?_
  refine q0 rfl rfl rfl (o_set (E := eBool) (v := u1) (u := (.bool true)) (z := m) (true) sz4 rfl rfl rfl rfl hX7.pins ho14 (by omega) (by omega) (fun w16 ho17 hp18 hg19 hz20 => ?_))
  have hX21 := hX7.write hp18 hg19 ((lo_own ho14))
  have ho22 := ho8.keptA hg19 ha11.symm
  have ho23 := ho9.keptA hg19 ha12.symm
  have hb24 := hb10.keptA hg19 ha13.symm
  refine qe ?_
  refine s_then ?_
  refine s_seq ?_
  refine s_seq ?_
  refine c_reg ?_
  refine qd rfl rfl rfl (r_move (v := (.int .i64 m)) rfl) ?_
  refine qd rfl rfl rfl (r_assign (v := (.int .i64 m)) rfl) ?_
  refine qe ?_
  refine s_then ?_
  refine s_blk ?_
  refine s_loop (fun (k : Nat) (en : Nat → Value) (W : World) => ∃ (env1 : Nat → Value) (z : Int) (is : List Bool), en = (upd (upd (upd (upd env1 0 (.pointer (some ⟨b, 0, none⟩))) 4 (.slice none 0 0)) 5 u1) 6 (.int .i64 z)) ∧ k = (z + 1).toNat ∧ Ext noS G w G W ∧ (-1 ≤ z ∧ z ≤ m) ∧ (is.length = m.toNat + 1) ∧ (reachM ns m.toNat = ugo ns (z + 1).toNat is) ∧ (Own eBool 4 G W w.heap.size u1 (is)) ∧ (Own eNode 69 G W 0 bu (ns)) ∧ (Own eInt 3 G W 0 bv (bs)) ∧ (Bx G W b [bu, bv])) _ ⟨_, m, (List.replicate (m + 1).toNat false).set m.toNat true, (packS (x := 6) (packS (x := 5) (packS (x := 4) (pack1 (x := 0) rfl) rfl) rfl) rfl), rfl, hX21, (by omega), (by simp; omega), (by rw [show (m + 1).toNat = m.toNat + 1 by omega]; rfl), ho17, ho22, ho23, hb24⟩ ?_
  rintro k25 _ w26 ⟨env1, z, is, rfl, hk27, hX28, hz, hnis, hr, hw29, hw30, hw31, hw32⟩
  refine s_seq ?_
  refine s_seq ?_
  refine c_reg ?_
  refine qd rfl rfl rfl (r_move (v := (.int .i64 z)) rfl) ?_
  refine qd rfl rfl rfl (r_geq rfl rfl) ?_
  refine qe ?_
  refine s_then ?_
  refine c_ifd (p := (0 : Int) ≤ z) rfl rfl (fun h33 => ?_) (fun h33 => ?_)
  · skip
    refine wp_skip ?_
    refine s_then ?_
    refine s_seq ?_
    refine s_blk ?_
    refine s_seq ?_
    refine s_seq ?_
    refine c_reg ?_
    refine qd rfl rfl rfl (r_move (v := u1) rfl) ?_
    refine qd rfl rfl rfl (r_move (v := (.int .i64 z)) rfl) ?_
    refine qd rfl rfl rfl (run_idx Tryd.underlying91 sz4 (v := u1) rfl rfl hw29.read (by omega) (by omega)) ?_
    refine qd rfl rfl rfl (run_load_bool (r := is.getD (z).toNat false) rfl ag4 (z := z) rfl hw29.read (Gadd.pins hX28.pins u1) (by omega) (by omega)) ?_
    refine qd rfl rfl rfl (r_not rfl) ?_
    refine qe ?_
    refine s_then ?_
    refine c_ifn rfl rfl (fun h34 => ?_) (fun h34 => ?_)
    · skip
      refine wp_skip ?_
      refine s_then ?_
      refine s_seq ?_
      refine s_seq ?_
      refine c_reg ?_
      refine qd rfl rfl rfl (r_assign (v := (.int .i64 0)) rfl) ?_
      refine qe ?_
      refine s_then ?_
      refine s_blk ?_
      refine s_loop (fun (k : Nat) (en : Nat → Value) (W : World) => ∃ (env1 : Nat → Value) (i : Nat) (is2 : List Bool), en = (upd (upd (upd (upd (upd env1 0 (.pointer (some ⟨b, 0, none⟩))) 4 (.slice none 0 0)) 5 u1) 6 (.int .i64 z)) 7 (.int .i64 (i : Int))) ∧ k = (ns.getD (z).toNat default).l.length - i ∧ Ext noS G w G W ∧ (i ≤ (ns.getD (z).toNat default).l.length) ∧ (is2.length = m.toNat + 1) ∧ (setAll is (ns.getD (z).toNat default).l = setAll is2 ((ns.getD (z).toNat default).l.drop i)) ∧ (Own eBool 4 G W w.heap.size u1 (is2)) ∧ (Own eNode 69 G W 0 bu (ns)) ∧ (Own eInt 3 G W 0 bv (bs)) ∧ (Bx G W b [bu, bv])) _ ⟨_, 0, is, (packS (x := 7) (packS (x := 6) (packS (x := 5) (packS (x := 4) (pack1 (x := 0) rfl) rfl) rfl) rfl) rfl), rfl, hX28, Nat.zero_le _, hnis, rfl, hw29, hw30, hw31, hw32⟩ ?_
      rintro k35 _ w36 ⟨env1, i, is2, rfl, hk37, hX38, hii, hnis2, hris2, hw39, hw40, hw41, hw42⟩
      refine s_seq ?_
      refine s_seq ?_
      refine c_reg ?_
      refine qd rfl rfl rfl (r_move (v := (.int .i64 (i : Int))) rfl) ?_
      refine qd rfl rfl rfl (r_move (v := (.pointer (some ⟨b, 0, none⟩))) rfl) ?_
      refine qd rfl rfl rfl (r_nil rfl) ?_
      refine qd rfl rfl rfl (r_fldp (k := 0) rfl Tryd.underlying71 rfl nz28 rfl) ?_
      refine qd rfl rfl rfl (r_ldp1 (u := bu) ag28 rfl (hw42.cell (o := 0) rfl)) ?_
      refine qd rfl rfl rfl (r_move (v := (.int .i64 z)) rfl) ?_
      refine qd rfl rfl rfl (run_idx Tryd.underlying28 sz69 (v := bu) rfl rfl hw40.read (by omega) (by omega)) ?_
      refine qd rfl rfl rfl (run_fld (off := 0) Tryd.underlying69 rfl rfl nz38 (z := z) (k := 0) rfl hw40.read (by omega) (by omega)) ?_
      obtain ⟨u43, hr44, hl45⟩ := nm_nl (hw40.at (z := z) (by omega) (by omega)) (j := (z).toNat) rfl
      have hm46 := hr44.max
      refine qd rfl rfl rfl (hl45 ag38 rfl (Gadd.pins hX38.pins bu)) ?_
      refine qd rfl rfl rfl (run_len Tryd.underlying38 (v := u43) rfl hr44) ?_
      refine qd rfl rfl rfl (r_lss rfl rfl) ?_
      refine qe ?_
      refine s_then ?_
      refine c_ifd (p := ((i : Int) : Int) < (((ns.getD (z).toNat default).l).length : Int)) rfl rfl (fun h47 => ?_) (fun h47 => ?_)
      · skip
        have hk := hoo.left (j := (z).toNat) (i := i) (by omega) (by omega)
        refine wp_skip ?_
        refine s_then ?_
        refine s_seq ?_
        refine s_blk ?_
        refine c_reg ?_
        refine qd rfl rfl rfl (r_move (v := u1) rfl) ?_
        refine qd rfl rfl rfl (r_move (v := (.pointer (some ⟨b, 0, none⟩))) rfl) ?_
        refine qd rfl rfl rfl (r_nil rfl) ?_
        refine qd rfl rfl rfl (r_fldp (k := 0) rfl Tryd.underlying71 rfl nz28 rfl) ?_
        refine qd rfl rfl rfl (r_ldp1 (u := bu) ag28 rfl (hw42.cell (o := 0) rfl)) ?_
        refine qd rfl rfl rfl (r_move (v := (.int .i64 z)) rfl) ?_
        refine qd rfl rfl rfl (run_idx Tryd.underlying28 sz69 (v := bu) rfl rfl hw40.read (by omega) (by omega)) ?_
        refine qd rfl rfl rfl (run_fld (off := 0) Tryd.underlying69 rfl rfl nz38 (z := z) (k := 0) rfl hw40.read (by omega) (by omega)) ?_
        obtain ⟨u48, hr49, hl50⟩ := nm_nl (hw40.at (z := z) (by omega) (by omega)) (j := (z).toNat) rfl
        have hm51 := hr49.max
        refine qd rfl rfl rfl (hl50 ag38 rfl (Gadd.pins hX38.pins bu)) ?_
        refine qd rfl rfl rfl (r_move (v := (.int .i64 (i : Int))) rfl) ?_
        refine qd rfl rfl rfl (run_idx Tryd.underlying38 sz3 (v := u48) rfl rfl hr49 (by omega) (by omega)) ?_
        refine qd rfl rfl rfl (run_load_int (r := ((ns.getD (z).toNat default).l).getD i 0) rfl ag3 (z := (i : Int)) rfl hr49 hX38.pins (by omega) (by omega)) ?_
        refine qd rfl rfl rfl (run_idx Tryd.underlying91 sz4 (v := u1) rfl rfl hw39.read (by omega) (by omega)) ?_
        refine q0 rfl rfl rfl (o_set (E := eBool) (v := u1) (u := (.bool true)) (z := (((ns.getD (z).toNat default).l).getD i 0)) (true) sz4 rfl rfl rfl rfl hX38.pins hw39 (by omega) (by omega) (fun w52 ho53 hp54 hg55 hz56 => ?_))
        have hX57 := hX38.write hp54 hg55 ((lo_own hw39))
        have ho58 := hw40.keptA hg55 ha11.symm
        have ho59 := hw41.keptA hg55 ha12.symm
        have hb60 := hw42.keptA hg55 ha13.symm
        refine qe ?_
        refine s_blkN ?_
        refine s_then ?_
        refine c_reg ?_
        refine qd rfl rfl rfl (r_move (v := (.int .i64 (i : Int))) rfl) ?_
        refine qd rfl rfl rfl (r_add rfl rfl (by omega)) ?_
        refine qd rfl rfl rfl (r_assign (v := (.int .i64 ((i : Int) + 1))) rfl) ?_
        refine qe ?_
        refine s_lopN ?_
        refine ⟨_, ?_, _, rfl, _, i + 1, is2.set ((ns.getD (z).toNat default).l.getD i 0).toNat true, (packS (x := 7) (packS (x := 6) (packS (x := 5) (packS (x := 4) (pack1 (x := 0) rfl) rfl) rfl) rfl) rfl), rfl, hX57, (by omega), ((List.length_set ..).trans hnis2), (hris2.trans (setAll_next (by omega))), ho53, ho58, ho59, hb60⟩
        omega
      refine wp_exit ?_
      refine s_thenE ?_
      refine s_lopE ?_
      refine s_blkE ?_
      refine s_then ?_
      refine s_seq ?_
      refine c_reg ?_
      refine qd rfl rfl rfl (r_assign (v := (.int .i64 0)) rfl) ?_
      refine qe ?_
      refine s_then ?_
      refine s_blk ?_
      refine s_loop (fun (k : Nat) (en : Nat → Value) (W : World) => ∃ (env1 : Nat → Value) (i3 : Nat) (is3 : List Bool), en = (upd (upd (upd (upd (upd env1 0 (.pointer (some ⟨b, 0, none⟩))) 4 (.slice none 0 0)) 5 u1) 6 (.int .i64 z)) 8 (.int .i64 (i3 : Int))) ∧ k = (ns.getD (z).toNat default).r.length - i3 ∧ Ext noS G w G W ∧ (i3 ≤ (ns.getD (z).toNat default).r.length) ∧ (is3.length = m.toNat + 1) ∧ (setAll is2 (ns.getD (z).toNat default).r = setAll is3 ((ns.getD (z).toNat default).r.drop i3)) ∧ (Own eBool 4 G W w.heap.size u1 (is3)) ∧ (Own eNode 69 G W 0 bu (ns)) ∧ (Own eInt 3 G W 0 bv (bs)) ∧ (Bx G W b [bu, bv])) _ ⟨_, 0, is2, (packS (x := 8) (packS (x := 6) (packS (x := 5) (packS (x := 4) (pack1 (x := 0) rfl) rfl) rfl) rfl) rfl), rfl, hX38, Nat.zero_le _, hnis2, rfl, hw39, hw40, hw41, hw42⟩ ?_
      rintro k61 _ w62 ⟨env1, i3, is3, rfl, hk63, hX64, hii3, hnis3, hris3, hw65, hw66, hw67, hw68⟩
      refine s_seq ?_
      refine s_seq ?_
      refine c_reg ?_
      refine qd rfl rfl rfl (r_move (v := (.int .i64 (i3 : Int))) rfl) ?_
      refine qd rfl rfl rfl (r_move (v := (.pointer (some ⟨b, 0, none⟩))) rfl) ?_
      refine qd rfl rfl rfl (r_nil rfl) ?_
      refine qd rfl rfl rfl (r_fldp (k := 0) rfl Tryd.underlying71 rfl nz28 rfl) ?_
      refine qd rfl rfl rfl (r_ldp1 (u := bu) ag28 rfl (hw68.cell (o := 0) rfl)) ?_
      refine qd rfl rfl rfl (r_move (v := (.int .i64 z)) rfl) ?_
      refine qd rfl rfl rfl (run_idx Tryd.underlying28 sz69 (v := bu) rfl rfl hw66.read (by omega) (by omega)) ?_
      refine qd rfl rfl rfl (run_fld (off := 1) Tryd.underlying69 rfl rfl nz38 (z := z) (k := 0) rfl hw66.read (by omega) (by omega)) ?_
      obtain ⟨u69, hr70, hl71⟩ := nm_nr (hw66.at (z := z) (by omega) (by omega)) (j := (z).toNat) rfl
      have hm72 := hr70.max
      refine qd rfl rfl rfl (hl71 ag38 rfl (Gadd.pins hX64.pins bu)) ?_
      refine qd rfl rfl rfl (run_len Tryd.underlying38 (v := u69) rfl hr70) ?_
      refine qd rfl rfl rfl (r_lss rfl rfl) ?_
      refine qe ?_
      refine s_then ?_
      refine c_ifd (p := ((i3 : Int) : Int) < (((ns.getD (z).toNat default).r).length : Int)) rfl rfl (fun h73 => ?_) (fun h73 => ?_)
      · skip
        have hk := hoo.right (j := (z).toNat) (i := i3) (by omega) (by omega)
        refine wp_skip ?_
        refine s_then ?_
        refine s_seq ?_
        refine s_blk ?_
        refine c_reg ?_
        refine qd rfl rfl rfl (r_move (v := u1) rfl) ?_
        refine qd rfl rfl rfl (r_move (v := (.pointer (some ⟨b, 0, none⟩))) rfl) ?_
        refine qd rfl rfl rfl (r_nil rfl) ?_
        refine qd rfl rfl rfl (r_fldp (k := 0) rfl Tryd.underlying71 rfl nz28 rfl) ?_
        refine qd rfl rfl rfl (r_ldp1 (u := bu) ag28 rfl (hw68.cell (o := 0) rfl)) ?_
        refine qd rfl rfl rfl (r_move (v := (.int .i64 z)) rfl) ?_
        refine qd rfl rfl rfl (run_idx Tryd.underlying28 sz69 (v := bu) rfl rfl hw66.read (by omega) (by omega)) ?_
        refine qd rfl rfl rfl (run_fld (off := 1) Tryd.underlying69 rfl rfl nz38 (z := z) (k := 0) rfl hw66.read (by omega) (by omega)) ?_
        obtain ⟨u74, hr75, hl76⟩ := nm_nr (hw66.at (z := z) (by omega) (by omega)) (j := (z).toNat) rfl
        have hm77 := hr75.max
        refine qd rfl rfl rfl (hl76 ag38 rfl (Gadd.pins hX64.pins bu)) ?_
        refine qd rfl rfl rfl (r_move (v := (.int .i64 (i3 : Int))) rfl) ?_
        refine qd rfl rfl rfl (run_idx Tryd.underlying38 sz3 (v := u74) rfl rfl hr75 (by omega) (by omega)) ?_
        refine qd rfl rfl rfl (run_load_int (r := ((ns.getD (z).toNat default).r).getD i3 0) rfl ag3 (z := (i3 : Int)) rfl hr75 hX64.pins (by omega) (by omega)) ?_
        refine qd rfl rfl rfl (run_idx Tryd.underlying91 sz4 (v := u1) rfl rfl hw65.read (by omega) (by omega)) ?_
        refine q0 rfl rfl rfl (o_set (E := eBool) (v := u1) (u := (.bool true)) (z := (((ns.getD (z).toNat default).r).getD i3 0)) (true) sz4 rfl rfl rfl rfl hX64.pins hw65 (by omega) (by omega) (fun w78 ho79 hp80 hg81 hz82 => ?_))
        have hX83 := hX64.write hp80 hg81 ((lo_own hw65))
        have ho84 := hw66.keptA hg81 ha11.symm
        have ho85 := hw67.keptA hg81 ha12.symm
        have hb86 := hw68.keptA hg81 ha13.symm
        refine qe ?_
        refine s_blkN ?_
        refine s_then ?_
        refine c_reg ?_
        refine qd rfl rfl rfl (r_move (v := (.int .i64 (i3 : Int))) rfl) ?_
        refine qd rfl rfl rfl (r_add rfl rfl (by omega)) ?_
        refine qd rfl rfl rfl (r_assign (v := (.int .i64 ((i3 : Int) + 1))) rfl) ?_
        refine qe ?_
        refine s_lopN ?_
        refine ⟨_, ?_, _, rfl, _, i3 + 1, is3.set ((ns.getD (z).toNat default).r.getD i3 0).toNat true, (packS (x := 8) (packS (x := 6) (packS (x := 5) (packS (x := 4) (pack1 (x := 0) rfl) rfl) rfl) rfl) rfl), rfl, hX83, (by omega), ((List.length_set ..).trans hnis3), (hris3.trans (setAll_next (by omega))), ho79, ho84, ho85, hb86⟩
        omega
      refine wp_exit ?_
      refine s_thenE ?_
      refine s_lopE ?_
      refine s_blkE ?_
      refine s_blkN ?_
      refine s_then ?_
      refine c_reg ?_
      refine qd rfl rfl rfl (r_move (v := (.int .i64 z)) rfl) ?_
      refine qd rfl rfl rfl (r_sub rfl rfl (by omega)) ?_
      refine qd rfl rfl rfl (r_assign (v := (.int .i64 (z - 1))) rfl) ?_
      refine qe ?_
      refine s_lopN ?_
      refine ⟨_, ?_, _, rfl, _, z - 1, is3, (packS (x := 6) (packS (x := 5) (packS (x := 4) (pack1 (x := 0) rfl) rfl) rfl) rfl), rfl, hX64, (by omega), hnis3, (hr.trans ((ugo_step (by omega)).trans (by rw [ustep_yes h34, hris2, setAll_end (by omega), hris3, setAll_end (by omega)]))), hw65, hw66, hw67, hw68⟩
      omega
    refine wp_exit ?_
    refine s_thenE ?_
    refine s_blkE ?_
    refine s_then ?_
    refine c_reg ?_
    refine qd rfl rfl rfl (r_move (v := (.int .i64 z)) rfl) ?_
    refine qd rfl rfl rfl (r_sub rfl rfl (by omega)) ?_
    refine qd rfl rfl rfl (r_assign (v := (.int .i64 (z - 1))) rfl) ?_
    refine qe ?_
    refine s_lopN ?_
    refine ⟨_, ?_, _, rfl, _, z - 1, is, (packS (x := 6) (packS (x := 5) (packS (x := 4) (pack1 (x := 0) rfl) rfl) rfl) rfl), rfl, hX28, (by omega), hnis, (hr.trans ((ugo_step (by omega)).trans (by rw [ustep_no h34]))), hw29, hw30, hw31, hw32⟩
    omega
  refine wp_exit ?_
  refine s_thenE ?_
  refine s_lopE ?_
  refine s_blkE ?_
  refine s_then ?_
  refine s_seq ?_
  refine c_reg ?_
  refine qd rfl rfl rfl (r_move (v := u1) rfl) ?_
  refine qd rfl rfl rfl (r_assign (v := u1) rfl) ?_
  refine qe ?_
  refine s_then ?_
  refine wp_ret ?_
  refine s_ret ?_
  refine c_ret1 (v := u1) rfl rfl rfl ?_
  exact ⟨_, _, rfl, (by rw [hr, ugo_end (by omega)]; exact hw29), hX28⟩

theorem form_spec {w : World} {G : Pin} {b : Nat} {bu bv : Value} {ns : List Nd} {bs : List Int} (hP : Pins G w) (hB : Bk 69 3 G w b bu bv ns bs) (hok : BookOk ns bs) {m : Int} (hm : 0 ≤ m ∧ m < ns.length) :
    Calls Tryd.prog 57 [(.pointer (some ⟨b, 0, none⟩)), (.int .i64 m)].toArray w fun e w' => ∃ (u : Value) (G' : Pin), e = .returned (.agg [u].toArray) ∧ RSl eNode G' u (formM ns bs m.toNat) ∧ Ext noS G w G' w' := by
  refine s_enter (n := 143) Tryd.func57 Tryd.ntmps57 rfl rfl ?_
  have hX0 : Ext noS G w G w := Ext.refl hP
  have hbx := hB.bx
  have hou := hB.ou
  have hov := hB.ov
  have habu := hB.abu
  have habv := hB.abv
  have hauv := hB.auv
  have hlob : Lo w (inS b bu bv) (some b) := lo_b
  have hlou : Lo w (inS b bu bv) bu.ownBlock := lo_u
  have hlov : Lo w (inS b bu bv) bv.ownBlock := lo_v
  have hlen := hok.len
  have hlim := hok.lim
  have hoo : OptsOk ns := hok.optsOk
  refine s_seq ?_
  refine c_reg ?_
  refine q1 rfl rfl rfl (o_alloc [(.slice none 0 0)] zr30 rfl hX0.pins (fun b1 w2 hk3 hb4 hp5 hl6 => ?_))
  have hX7 := hX0.step hp5 hl6
  have ho8 := hou.below hl6
  have ho9 := hov.below hl6
  have hb10 := hbx.below hl6
  have ha11 : Apart (some b1) bu.ownBlock := new_ne_own (congrArg some hk3) hou.lt
  have ha12 : Apart (some b1) bv.ownBlock := new_ne_own (congrArg some hk3) hov.lt
  have ha13 : Apart (some b1) (some b) := new_ne_box (congrArg some hk3) hbx.lt
  have hlo14 : w.heap.size ≤ b1 := by have := hX0.size; omega
  refine qe ?_
  refine s_then ?_
  refine s_seq ?_
  refine c_reg ?_
  refine qd rfl rfl rfl (r_move (v := (.pointer (some ⟨b, 0, none⟩))) rfl) ?_
  refine qd rfl rfl rfl (r_move (v := (.int .i64 m)) rfl) ?_
  refine q1 rfl rfl rfl (o_call (vs := [(.pointer (some ⟨b, 0, none⟩)), (.int .i64 m)]) Tryd.func79 nm79 rfl rfl rfl ?_)
  refine Calls.mono (reached_spec hX7.pins ⟨hb10, ho8, ho9, habu, habv, hauv⟩ hok hm) ?_
  rintro _ w17 ⟨u15, G16, rfl, ho18, hx19⟩
  refine ⟨_, rfl, ?_⟩
  have hX20 := hX7.tr hx19
  have ho21 := ho8.ext hx19
  have ho22 := ho9.ext hx19
  have hb23 := hb10.ext hx19
  have hb24 := hb4.ext hx19
  have ha25 : Apart u15.ownBlock bu.ownBlock := made_ne_own ho18.lt ho8.lt
  have ha26 : Apart u15.ownBlock bv.ownBlock := made_ne_own ho18.lt ho9.lt
  have ha27 : Apart u15.ownBlock (some b) := made_ne_box ho18.lt hb10.lt
  have ha28 : Apart u15.ownBlock (some b1) := made_ne_box ho18.lt hb4.lt
  have ho29 : Own eBool 4 G16 w17 w.heap.size u15 (reachM ns (m).toNat) := ho18.weaken hX7.size
  obtain ⟨G30, hle33, hX32, hr31, hf34⟩ := ho29.sealed hX20
  have ho35 := ho21.moreO hle33 hf34 ha25.symm
  have ho36 := ho22.moreO hle33 hf34 ha26.symm
  have hb37 := hb23.moreO hf34 ha27.symm
  have hb38 := hb24.moreO hf34 ha28.symm
  have hnl := reach_length ns m.toNat
  refine qd rfl rfl rfl (r_assign (v := u15) rfl) ?_
  refine qe ?_
  refine s_then ?_
  refine s_seq ?_
  refine c_reg ?_
  refine qd rfl rfl rfl (r_move (v := (.int .i64 m)) rfl) ?_
  refine qd rfl rfl rfl (r_add rfl rfl (by omega)) ?_
  refine q1 rfl rfl rfl (o_make (E := eInt) 0 8 (.int .i64 0) Tryd.underlying38 mk3 (fun _ => rfl) rfl rfl hX32.pins (by omega) (by omega) (by omega) (fun u39 w40 ho41 hp42 hl43 hk44 => ?_))
  have hX45 := hX32.step hp42 hl43
  have ho46 := ho35.below hl43
  have ho47 := ho36.below hl43
  have hb48 := hb37.below hl43
  have hb49 := hb38.below hl43
  have ha50 : Apart u39.ownBlock bu.ownBlock := new_ne_own hk44 ho35.lt
  have ha51 : Apart u39.ownBlock bv.ownBlock := new_ne_own hk44 ho36.lt
  have ha52 : Apart u39.ownBlock (some b) := new_ne_box hk44 hb37.lt
  have ha53 : Apart u39.ownBlock (some b1) := new_ne_box hk44 hb38.lt
  have ho54 : Own eInt 3 G30 w40 w.heap.size u39 (List.replicate (m + 1).toNat 0) := ho41.weaken hX32.size
  have hm55 : (List.replicate (m + 1).toNat 0).length = (m + 1).toNat := List.length_replicate ..
  refine qd rfl rfl rfl (r_assign (v := u39) rfl) ?_
  refine qe ?_
  refine s_then ?_
  refine s_seq ?_
  refine c_reg ?_
  refine q1 rfl rfl rfl (o_build0 (E := eNode) (e := 69) Tryd.underlying28 sz69 hX45.pins (fun u56 w57 ho58 hp59 hl60 hk61 => ?_))
  have hX62 := hX45.step hp59 hl60
  have ho63 := ho46.below hl60
  have ho64 := ho47.below hl60
  have ho65 := ho54.below hl60
  have hb66 := hb48.below hl60
  have hb67 := hb49.below hl60
  have ha68 : Apart u56.ownBlock bu.ownBlock := new_ne_own hk61 ho46.lt
  have ha69 : Apart u56.ownBlock bv.ownBlock := new_ne_own hk61 ho47.lt
  have ha70 : Apart u56.ownBlock u39.ownBlock := new_ne_own hk61 ho54.lt
  have ha71 : Apart u56.ownBlock (some b) := new_ne_box hk61 hb48.lt
  have ha72 : Apart u56.ownBlock (some b1) := new_ne_box hk61 hb49.lt
  have ho73 : Own eNode 69 G30 w57 w.heap.size u56 ([]) := ho58.weaken hX45.size
  refine qd rfl rfl rfl (r_build [(.slice none 0 0)] [u56] [(0, u56, [u56])] Tryd.underlying30 zr30 rfl pl30 rfl (List.forall_mem_cons.2 ⟨(cells_one ho73.one), (fun _ h => by cases h)⟩) rfl) ?_
  refine q1 rfl rfl rfl (o_alloc [(.slice none 0 0)] zr30 rfl hX62.pins (fun b74 w75 hk76 hb77 hp78 hl79 => ?_))
  have hX80 := hX62.step hp78 hl79
  have ho81 := ho63.below hl79
  have ho82 := ho64.below hl79
  have ho83 := ho65.below hl79
  have ho84 := ho73.below hl79
  have hb85 := hb66.below hl79
  have hb86 := hb67.below hl79
  have ha87 : Apart (some b74) bu.ownBlock := new_ne_own (congrArg some hk76) ho63.lt
  have ha88 : Apart (some b74) bv.ownBlock := new_ne_own (congrArg some hk76) ho64.lt
  have ha89 : Apart (some b74) u39.ownBlock := new_ne_own (congrArg some hk76) ho65.lt
  have ha90 : Apart (some b74) u56.ownBlock := new_ne_own (congrArg some hk76) ho73.lt
  have ha91 : Apart (some b74) (some b) := new_ne_box (congrArg some hk76) hb66.lt
  have ha92 : Apart (some b74) (some b1) := new_ne_box (congrArg some hk76) hb67.lt
  have hlo93 : w.heap.size ≤ b74 := by have := hX62.size; omega
  refine q0 rfl rfl rfl (o_stp (cs' := [u56]) (us := [u56]) (v := (.agg [u56].toArray)) sz30 rfl rfl rfl (ones1 ho84.one) hX80.pins hb77 (Nat.le_of_ble_eq_true rfl) rfl (fun w94 hb95 hp96 hg97 hz98 => ?_))
  have hX99 := hX80.write hp96 hg97 ((lo_box hlo93))
  have ho100 := ho81.keptA hg97 ha87.symm
  have ho101 := ho82.keptA hg97 ha88.symm
  have ho102 := ho83.keptA hg97 ha89.symm
  have ho103 := ho84.keptA hg97 ha90.symm
  have hb104 := hb85.keptA hg97 ha91.symm
  have hb105 := hb86.keptA hg97 ha92.symm
  refine qe ?_
  refine s_then ?_
  refine s_seq ?_
  refine s_seq ?_
  refine c_reg ?_
  refine qd rfl rfl rfl (r_assign (v := (.int .i64 0)) rfl) ?_
  refine qe ?_
  refine s_then ?_
  refine s_blk ?_
  refine s_loop (fun (k : Nat) (en : Nat → Value) (W : World) => ∃ (env1 : Nat → Value) (q : Nat) (at_ : Value) (ats : List Int) (ov : Value) (outs : List Nd) (GL1 : Pin), en = (upd (upd (upd (upd (upd (upd (upd env1 0 (.pointer (some ⟨b, 0, none⟩))) 1 (.int .i64 m)) 4 (.pointer (some ⟨b1, 0, none⟩))) 5 u15) 6 at_) 7 (.pointer (some ⟨b74, 0, none⟩))) 8 (.int .i64 (q : Int))) ∧ k = (bs.getD m.toNat 0).toNat + 1 - q ∧ Ext noS G w GL1 W ∧ Pin.le G30 GL1 ∧ (q ≤ (bs.getD m.toNat 0).toNat + 1) ∧ (formGo ns bs (reachM ns m.toNat) (m.toNat + 1) q = (ats, outs)) ∧ (ats.length = m.toNat + 1) ∧ (outs.length ≤ q * 1048576) ∧ (Own eInt 3 GL1 W w.heap.size at_ (ats)) ∧ (Own eNode 69 GL1 W w.heap.size ov (outs)) ∧ (Own eNode 69 GL1 W 0 bu (ns)) ∧ (Own eInt 3 GL1 W 0 bv (bs)) ∧ (Bx GL1 W b [bu, bv]) ∧ (Bx GL1 W b1 [(.slice none 0 0)]) ∧ (Bx GL1 W b74 [ov]) ∧ (Apart at_.ownBlock ov.ownBlock) ∧ (Apart at_.ownBlock bu.ownBlock) ∧ (Apart at_.ownBlock bv.ownBlock) ∧ (Apart at_.ownBlock (some b)) ∧ (Apart at_.ownBlock (some b1)) ∧ (Apart at_.ownBlock (some b74)) ∧ (Apart ov.ownBlock bu.ownBlock) ∧ (Apart ov.ownBlock bv.ownBlock) ∧ (Apart ov.ownBlock (some b)) ∧ (Apart ov.ownBlock (some b1)) ∧ (Apart ov.ownBlock (some b74))) _ ⟨_, 0, u39, List.replicate (m + 1).toNat 0, u56, [], G30, (packS (x := 8) (packS (x := 7) (packS (x := 6) (packS (x := 5) (packS (x := 4) (packS (x := 1) (pack1 (x := 0) rfl) rfl) rfl) rfl) rfl) rfl) rfl), rfl, hX99, Pin.le_refl _, Nat.zero_le _, (by rw [show (m + 1).toNat = m.toNat + 1 by omega]; rfl), (by simp; omega), Nat.le_refl 0, ho102, ho103, ho100, ho101, hb104, hb105, hb95, ha70.symm, ha50, ha51, ha52, ha53, ha89.symm, ha68, ha69, ha71, ha72, ha90.symm⟩ ?_
  rintro k106 _ w107 ⟨env1, q, at_, ats, ov, outs, GL1, rfl, hk108, hX109, hlek106, hq, hr, hatl, hol, hw110, hw111, hw112, hw113, hw114, hw115, hw116, ha117, ha118, ha119, ha120, ha121, ha122, ha123, ha124, ha125, ha126, ha127⟩
  have hbm := hok.born m.toNat (by omega)
  refine s_seq ?_
  refine s_seq ?_
  refine c_reg ?_
  refine qd rfl rfl rfl (r_move (v := (.int .i64 (q : Int))) rfl) ?_
  refine qd rfl rfl rfl (r_move (v := (.pointer (some ⟨b, 0, none⟩))) rfl) ?_
  refine qd rfl rfl rfl (r_nil rfl) ?_
  refine qd rfl rfl rfl (r_fldp (k := 1) rfl Tryd.underlying71 rfl nz38 rfl) ?_
  refine qd rfl rfl rfl (r_ldp1 (u := bv) ag38 rfl (hw114.cell (o := 1) rfl)) ?_
  refine qd rfl rfl rfl (r_move (v := (.int .i64 m)) rfl) ?_
  refine qd rfl rfl rfl (run_idx Tryd.underlying38 sz3 (v := bv) rfl rfl hw113.read (by omega) (by omega)) ?_
  refine qd rfl rfl rfl (run_load_int (r := bs.getD (m).toNat 0) rfl ag3 (z := m) rfl hw113.read (Gadd.pins hX109.pins bv) (by omega) (by omega)) ?_
  refine qd rfl rfl rfl (r_leq rfl rfl) ?_
  refine qe ?_
  refine s_then ?_
  refine c_ifd (p := ((q : Int) : Int) ≤ (bs.getD (m).toNat 0)) rfl rfl (fun h128 => ?_) (fun h128 => ?_)
  · skip
    refine wp_skip ?_
    refine s_then ?_
    refine s_seq ?_
    refine s_blk ?_
    refine s_seq ?_
    refine c_reg ?_
    refine q1 rfl rfl rfl (o_build0 (E := eNode) (e := 69) Tryd.underlying28 sz69 hX109.pins (fun u129 w130 ho131 hp132 hl133 hk134 => ?_))
    have hX135 := hX109.step hp132 hl133
    have ho136 := hw110.below hl133
    have ho137 := hw111.below hl133
    have ho138 := hw112.below hl133
    have ho139 := hw113.below hl133
    have hb140 := hw114.below hl133
    have hb141 := hw115.below hl133
    have hb142 := hw116.below hl133
    have ha143 : Apart u129.ownBlock at_.ownBlock := new_ne_own hk134 hw110.lt
    have ha144 : Apart u129.ownBlock ov.ownBlock := new_ne_own hk134 hw111.lt
    have ha145 : Apart u129.ownBlock bu.ownBlock := new_ne_own hk134 hw112.lt
    have ha146 : Apart u129.ownBlock bv.ownBlock := new_ne_own hk134 hw113.lt
    have ha147 : Apart u129.ownBlock (some b) := new_ne_box hk134 hw114.lt
    have ha148 : Apart u129.ownBlock (some b1) := new_ne_box hk134 hw115.lt
    have ha149 : Apart u129.ownBlock (some b74) := new_ne_box hk134 hw116.lt
    have ho150 : Own eNode 69 GL1 w130 w.heap.size u129 ([]) := ho131.weaken hX109.size
    refine q1 rfl rfl rfl (o_build0 (E := eInt) (e := 3) Tryd.underlying38 sz3 hX135.pins (fun u151 w152 ho153 hp154 hl155 hk156 => ?_))
    have hX157 := hX135.step hp154 hl155
    have ho158 := ho136.below hl155
    have ho159 := ho137.below hl155
    have ho160 := ho138.below hl155
    have ho161 := ho139.below hl155
    have ho162 := ho150.below hl155
    have hb163 := hb140.below hl155
    have hb164 := hb141.below hl155
    have hb165 := hb142.below hl155
    have ha166 : Apart u151.ownBlock at_.ownBlock := new_ne_own hk156 ho136.lt
    have ha167 : Apart u151.ownBlock ov.ownBlock := new_ne_own hk156 ho137.lt
    have ha168 : Apart u151.ownBlock bu.ownBlock := new_ne_own hk156 ho138.lt
    have ha169 : Apart u151.ownBlock bv.ownBlock := new_ne_own hk156 ho139.lt
    have ha170 : Apart u151.ownBlock u129.ownBlock := new_ne_own hk156 ho150.lt
    have ha171 : Apart u151.ownBlock (some b) := new_ne_box hk156 hb140.lt
    have ha172 : Apart u151.ownBlock (some b1) := new_ne_box hk156 hb141.lt
    have ha173 : Apart u151.ownBlock (some b74) := new_ne_box hk156 hb142.lt
    have ho174 : Own eInt 3 GL1 w152 w.heap.size u151 ([]) := ho153.weaken hX135.size
    refine qd rfl rfl rfl (r_assign (v := u129) rfl) ?_
    refine qd rfl rfl rfl (r_assign (v := u151) rfl) ?_
    refine qe ?_
    refine s_then ?_
    refine s_seq ?_
    refine s_seq ?_
    refine c_reg ?_
    refine qd rfl rfl rfl (r_assign (v := (.int .i64 0)) rfl) ?_
    refine qe ?_
    refine s_then ?_
    refine s_blk ?_
    obtain ⟨G179, hle182, hX181, hr180, hf183⟩ := ho162.sealed hX157
    have ho184 := ho158.moreO hle182 hf183 ha143.symm
    have ho185 := ho159.moreO hle182 hf183 ha144.symm
    have ho186 := ho160.moreO hle182 hf183 ha145.symm
    have ho187 := ho161.moreO hle182 hf183 ha146.symm
    have ho188 := ho174.moreO hle182 hf183 ha170
    have hb189 := hb163.moreO hf183 ha147.symm
    have hb190 := hb164.moreO hf183 ha148.symm
    have hb191 := hb165.moreO hf183 ha149.symm
    obtain ⟨G192, hle195, hX194, hr193, hf196⟩ := ho188.sealed hX181
    have ho197 := ho184.moreO hle195 hf196 ha166.symm
    have ho198 := ho185.moreO hle195 hf196 ha167.symm
    have ho199 := ho186.moreO hle195 hf196 ha168.symm
    have ho200 := ho187.moreO hle195 hf196 ha169.symm
    have hb201 := hb189.moreO hf196 ha171.symm
    have hb202 := hb190.moreO hf196 ha172.symm
    have hb203 := hb191.moreO hf196 ha173.symm
    refine s_loop (fun (k : Nat) (en : Nat → Value) (W : World) => ∃ (env1 : Nat → Value) (k5 : Nat) (lv : Value) (ls : List Nd) (fv : Value) (fr : List Int) (GL2 : Pin), en = (upd (upd (upd (upd (upd (upd (upd (upd (upd (upd env1 0 (.pointer (some ⟨b, 0, none⟩))) 1 (.int .i64 m)) 4 (.pointer (some ⟨b1, 0, none⟩))) 5 u15) 6 at_) 7 (.pointer (some ⟨b74, 0, none⟩))) 8 (.int .i64 (q : Int))) 9 lv) 10 fv) 11 (.int .i64 (k5 : Int))) ∧ k = m.toNat + 1 - k5 ∧ Ext noS G w GL2 W ∧ Pin.le G192 GL2 ∧ (k5 ≤ m.toNat + 1) ∧ (lvM ns bs (reachM ns m.toNat) ats q k5 = (ls, fr)) ∧ (ls.length = fr.length ∧ ls.length ≤ k5) ∧ (∀ i, i < fr.length → 0 ≤ fr.getD i 0 ∧ fr.getD i 0 ≤ m) ∧ (Own eInt 3 GL2 W w.heap.size at_ (ats)) ∧ (Own eNode 69 GL2 W w.heap.size ov (outs)) ∧ (Own eNode 69 GL2 W 0 bu (ns)) ∧ (Own eInt 3 GL2 W 0 bv (bs)) ∧ (Bx GL2 W b [bu, bv]) ∧ (Bx GL2 W b1 [(.slice none 0 0)]) ∧ (Bx GL2 W b74 [ov]) ∧ (RSl eNode GL2 lv (ls)) ∧ (RSl eInt GL2 fv (fr))) _ ⟨_, 0, u129, [], u151, [], G192, (packS (x := 11) (packS (x := 10) (packS (x := 9) (packS (x := 8) (packS (x := 7) (packS (x := 6) (packS (x := 5) (packS (x := 4) (packS (x := 1) (pack1 (x := 0) rfl) rfl) rfl) rfl) rfl) rfl) rfl) rfl) rfl) rfl), rfl, hX194, Pin.le_refl _, Nat.zero_le _, rfl, ⟨rfl, Nat.le_refl 0⟩, (fun i hi => absurd hi (Nat.not_lt_zero i)), ho197, ho198, ho199, ho200, hb201, hb202, hb203, (hr180.mono hle195), hr193⟩ ?_
    rintro k175 _ w176 ⟨env1, k5, lv, ls, fv, fr, GL2, rfl, hk177, hX178, hlek175, hk5, hrl, hll, hfb, hw204, hw205, hw206, hw207, hw208, hw209, hw210, hr211, hr212⟩
    refine s_seq ?_
    refine s_seq ?_
    refine c_reg ?_
    refine qd rfl rfl rfl (r_move (v := (.int .i64 (k5 : Int))) rfl) ?_
    refine qd rfl rfl rfl (r_move (v := (.int .i64 m)) rfl) ?_
    refine qd rfl rfl rfl (r_leq rfl rfl) ?_
    refine qe ?_
    refine s_then ?_
    refine c_ifd (p := ((k5 : Int) : Int) ≤ m) rfl rfl (fun h213 => ?_) (fun h213 => ?_)
    · skip
      have hlk := hok.lens k5 (by omega)
      refine wp_skip ?_
      refine s_then ?_
      refine s_seq ?_
      refine s_blk ?_
      refine s_seq ?_
      refine s_seq ?_
      refine c_reg ?_
      refine qd rfl rfl rfl (r_move (v := u15) rfl) ?_
      refine qd rfl rfl rfl (r_move (v := (.int .i64 (k5 : Int))) rfl) ?_
      refine qd rfl rfl rfl (run_idx Tryd.underlying91 sz4 (v := u15) rfl rfl hr31 (by omega) (by omega)) ?_
      refine qd rfl rfl rfl (run_load_bool (r := (reachM ns (m).toNat).getD k5 false) rfl ag4 (z := (k5 : Int)) rfl hr31 (Pins.of_le hX178.pins (Pin.le_trans (Pin.le_trans (Pin.le_trans hlek106 hle182) hle195) hlek175)) (by omega) (by omega)) ?_
      refine qd rfl rfl rfl (r_not rfl) ?_
      refine qd rfl rfl rfl (r_move (v := (.bool (!((reachM ns (m).toNat).getD k5 false)))) rfl) ?_
      refine qbn (t := 46) rfl (fun h214 => ?_) (fun h214 => ?_)
      · skip
        refine qdg rfl rfl rfl rfl rfl rfl (r_move (v := (.pointer (some ⟨b, 0, none⟩))) rfl) ?_
        refine qdg rfl rfl rfl rfl rfl rfl (r_nil rfl) ?_
        refine qdg rfl rfl rfl rfl rfl rfl (r_fldp (k := 1) rfl Tryd.underlying71 rfl nz38 rfl) ?_
        refine qdg rfl rfl rfl rfl rfl rfl (r_ldp1 (u := bv) ag38 rfl (hw208.cell (o := 1) rfl)) ?_
        refine qdg rfl rfl rfl rfl rfl rfl (r_move (v := (.int .i64 (k5 : Int))) rfl) ?_
        refine qdg rfl rfl rfl rfl rfl rfl (run_idx Tryd.underlying38 sz3 (v := bv) rfl rfl hw207.read (by omega) (by omega)) ?_
        refine qdg rfl rfl rfl rfl rfl rfl (run_load_int (r := bs.getD k5 0) rfl ag3 (z := (k5 : Int)) rfl hw207.read (Gadd.pins hX178.pins bv) (by omega) (by omega)) ?_
        refine qdg rfl rfl rfl rfl rfl rfl (r_move (v := (.int .i64 (q : Int))) rfl) ?_
        refine qdg rfl rfl rfl rfl rfl rfl (r_neq rfl rfl) ?_
        refine qd rfl rfl rfl (r_pickF (v := (.bool (decide ((bs.getD k5 0 : Int) ≠ (q : Int))))) rfl rfl) ?_
        refine qe ?_
        refine s_then ?_
        refine c_ifd (p := (bs.getD k5 0 : Int) ≠ (q : Int)) rfl rfl (fun h215 => ?_) (fun h215 => ?_)
        · skip
          refine wp_exit ?_
          refine s_thenE ?_
          refine s_blkE ?_
          refine s_then ?_
          refine c_reg ?_
          refine qd rfl rfl rfl (r_move (v := (.int .i64 (k5 : Int))) rfl) ?_
          refine qd rfl rfl rfl (r_add rfl rfl (by omega)) ?_
          refine qd rfl rfl rfl (r_assign (v := (.int .i64 ((k5 : Int) + 1))) rfl) ?_
          refine qe ?_
          refine s_lopN ?_
          refine ⟨_, ?_, _, rfl, _, k5 + 1, lv, ls, fv, fr, GL2, (packS (x := 11) (packS (x := 10) (packS (x := 9) (packS (x := 8) (packS (x := 7) (packS (x := 6) (packS (x := 5) (packS (x := 4) (packS (x := 1) (pack1 (x := 0) rfl) rfl) rfl) rfl) rfl) rfl) rfl) rfl) rfl) rfl), rfl, hX178, hlek175, (by omega), (lv_skip hrl (fun g => by have := g.2; omega)), (by omega), hfb, hw204, hw205, hw206, hw207, hw208, hw209, hw210, hr211, hr212⟩
          omega
        refine wp_skip ?_
        refine s_then ?_
        refine s_seq ?_
        refine c_cut (fun (en : Nat → Value) (W : World) => ∃ (env1 : Nat → Value) (c216 : Nat) (c217 : Value) (c218 : Value) (G219 : Pin), en = (upd (upd (upd (upd (upd (upd (upd (upd (upd (upd (upd env1 0 (.pointer (some ⟨b, 0, none⟩))) 1 (.int .i64 m)) 4 (.pointer (some ⟨b1, 0, none⟩))) 5 u15) 6 at_) 7 (.pointer (some ⟨b74, 0, none⟩))) 8 (.int .i64 (q : Int))) 9 lv) 10 fv) 11 (.int .i64 (k5 : Int))) 12 (.pointer (some ⟨c216, 0, none⟩))) ∧ Ext noS G w G219 W ∧ Pin.le GL2 G219 ∧ (RSl eInt G219 c217 (sortL (atL ats ((ns.getD k5 default).l)))) ∧ (RSl eInt G219 c218 (sortL (atL ats ((ns.getD k5 default).r)))) ∧ (Own eInt 3 G219 W w.heap.size at_ ats) ∧ (Own eNode 69 G219 W w.heap.size ov outs) ∧ (Own eNode 69 G219 W 0 bu ns) ∧ (Own eInt 3 G219 W 0 bv bs) ∧ (Bx G219 W b [bu, bv]) ∧ (Bx G219 W b1 [(.slice none 0 0)]) ∧ (Bx G219 W b74 [ov]) ∧ (BxP G219 c216 [c217, c218])) ?_ ?_
        · rintro _ w220 ⟨env1, c216, c217, c218, G219, rfl, hX231, hle232, hr221, hr222, ho223, ho224, ho225, ho226, hb227, hb228, hb229, hb230⟩
          refine s_then ?_
          refine s_seq ?_
          refine c_reg ?_
          refine qd rfl rfl rfl (r_assign (v := (.int .i64 0)) rfl) ?_
          refine qe ?_
          refine s_then ?_
          refine s_seq ?_
          refine s_blk ?_
          refine s_loop (fun (k : Nat) (en : Nat → Value) (W : World) => ∃ (env1 : Nat → Value) (i : Nat) (GL3 : Pin), en = (upd (upd (upd (upd (upd (upd (upd (upd (upd (upd (upd (upd env1 0 (.pointer (some ⟨b, 0, none⟩))) 1 (.int .i64 m)) 4 (.pointer (some ⟨b1, 0, none⟩))) 5 u15) 6 at_) 7 (.pointer (some ⟨b74, 0, none⟩))) 8 (.int .i64 (q : Int))) 9 lv) 10 fv) 11 (.int .i64 (k5 : Int))) 12 (.pointer (some ⟨c216, 0, none⟩))) 13 (.int .i64 (i : Int))) ∧ k = ls.length - i ∧ Ext noS G w GL3 W ∧ Pin.le G219 GL3 ∧ (i ≤ ls.length) ∧ (posM ls (ndAt ats (ns.getD k5 default)) = i + posM (ls.drop i) (ndAt ats (ns.getD k5 default))) ∧ (Own eInt 3 GL3 W w.heap.size at_ (ats)) ∧ (Own eNode 69 GL3 W w.heap.size ov (outs)) ∧ (Own eNode 69 GL3 W 0 bu (ns)) ∧ (Own eInt 3 GL3 W 0 bv (bs)) ∧ (Bx GL3 W b [bu, bv]) ∧ (Bx GL3 W b1 [(.slice none 0 0)]) ∧ (Bx GL3 W b74 [ov])) _ ⟨_, 0, G219, (packS (x := 13) (packS (x := 12) (packS (x := 11) (packS (x := 10) (packS (x := 9) (packS (x := 8) (packS (x := 7) (packS (x := 6) (packS (x := 5) (packS (x := 4) (packS (x := 1) (pack1 (x := 0) rfl) rfl) rfl) rfl) rfl) rfl) rfl) rfl) rfl) rfl) rfl) rfl), rfl, hX231, Pin.le_refl _, Nat.zero_le _, (Nat.zero_add _).symm, ho223, ho224, ho225, ho226, hb227, hb228, hb229⟩ ?_
          rintro k233 _ w234 ⟨env1, i, GL3, rfl, hk235, hX236, hlek233, hi, hpp, hw237, hw238, hw239, hw240, hw241, hw242, hw243⟩
          refine s_seq ?_
          refine s_seq ?_
          refine c_draw (S := fun wz => Pins GL3 wz) (last := 12) (by kernel_rfl) rfl ?_
          have hl244 : Below w234.heap.size w234 w234.drew := (Below.refl _ _).drew
          have hp245 := hX236.pins.below hl244
          have hX246 := hX236.step hp245 hl244
          have ho247 := hw237.below hl244
          have ho248 := hw238.below hl244
          have ho249 := hw239.below hl244
          have ho250 := hw240.below hl244
          have hb251 := hw241.below hl244
          have hb252 := hw242.below hl244
          have hb253 := hw243.below hl244
          refine dr_take (i := 0) rfl rfl rfl (want_none rfl _) (by kernel_rfl) (fun _ _ => r_move (v := (.int .i64 (i : Int))) rfl) hX246.pins ?_
          refine dr_take (i := 1) rfl rfl rfl (want_none rfl _) (by kernel_rfl) (fun _ _ => r_move (v := lv) rfl) hX246.pins ?_
          refine dr_take (i := 2) rfl rfl rfl (want_none rfl _) (by kernel_rfl) (fun _ _ => run_len Tryd.underlying28 (v := lv) rfl hr211) hX246.pins ?_
          refine dr_take (i := 3) rfl rfl rfl (want_none rfl _) (by kernel_rfl) (fun _ _ => r_lss rfl rfl) hX246.pins ?_
          refine dr_take (i := 4) rfl rfl rfl (want_none rfl _) (by kernel_rfl) (fun _ _ => r_move (v := (.bool (decide (((i : Int) : Int) < (ls.length : Int))))) rfl) hX246.pins ?_
          refine drbd (p := ((i : Int) : Int) < (ls.length : Int)) (t := 84) rfl (fun h254 => ?_) (fun h254 => ?_)
          · skip
            refine dr_take (i := 5) rfl rfl rfl (want_yes rfl rfl rfl rfl) (by kernel_rfl) (fun _ _ => r_move (v := lv) rfl) hX246.pins ?_
            refine dr_take (i := 6) rfl rfl rfl (want_yes rfl rfl rfl rfl) (by kernel_rfl) (fun _ _ => r_move (v := (.int .i64 (i : Int))) rfl) hX246.pins ?_
            refine dr_take (i := 7) rfl rfl rfl (want_yes rfl rfl rfl rfl) (by kernel_rfl) (fun _ _ => run_idx Tryd.underlying28 sz69 (v := lv) rfl rfl hr211 (by omega) (by omega)) hX246.pins ?_
            obtain ⟨u255, u256, hr257, hr258, hl259⟩ := nm_node (hr211.at (z := (i : Int)) (by omega) (by omega)) (j := i) rfl
            have hm260 := hr257.max
            have hm261 := hr258.max
            refine dr_take (i := 8) rfl rfl rfl (want_yes rfl rfl rfl rfl) (by kernel_rfl) (fun _ hS => hl259 ag69 sz69 rfl (Pins.of_le hS (Pin.le_trans hle232 hlek233))) hX246.pins ?_
            refine dr_take (i := 9) rfl rfl rfl (want_yes rfl rfl rfl rfl) (by kernel_rfl) (fun _ hS => r_ldpA (cs := [c217, c218]) ag69 sz69 rfl (fun j u hj => (Pins.of_le hS hlek233) _ _ _ (hb230 _ _ (by simpa using hj)))) hX246.pins ?_
            refine dr_one (i := 10) (by kernel_rfl) (drOp1 (i := 10) rfl rfl rfl (want_yes rfl rfl rfl rfl) (o_call (vs := [(.agg [u255, u256].toArray), (.agg [c217, c218].toArray)]) Tryd.func82 nm82 rfl rfl rfl ?_))
            refine Calls.mono (l3NodeAhead_spec (a := ⟨(ls.getD i default).l, (ls.getD i default).r⟩) (b := ⟨sortL (atL ats ((ns.getD k5 default).l)), sortL (atL ats ((ns.getD k5 default).r))⟩) hX246.pins (hr257.mono (Pin.le_trans hle232 hlek233)) (hr258.mono (Pin.le_trans hle232 hlek233)) (hr221.mono hlek233) (hr222.mono hlek233)) ?_
            rintro _ w263 ⟨G262, rfl, hx264⟩
            refine ⟨_, rfl, ?_⟩
            have hX265 := hX246.tr hx264
            have ho266 := ho247.ext hx264
            have ho267 := ho248.ext hx264
            have ho268 := ho249.ext hx264
            have ho269 := ho250.ext hx264
            have hb270 := hb251.ext hx264
            have hb271 := hb252.ext hx264
            have hb272 := hb253.ext hx264
            refine ⟨fun _ => (Pins.of_le hX265.pins hx264.le), ?_⟩
            refine dr_take (i := 11) rfl rfl rfl (want_none rfl _) (by kernel_rfl) (fun _ _ => r_pickT (v := (.bool (decide ((aheadI (⟨(ls.getD i default).l, (ls.getD i default).r⟩ : Nd) (⟨sortL (atL ats ((ns.getD k5 default).l)), sortL (atL ats ((ns.getD k5 default).r))⟩ : Nd)) < 0)))) rfl rfl) (Pins.of_le hX265.pins hx264.le) ?_
            refine dr_end (by kernel_rfl) ?_
            refine s_then ?_
            refine c_ifd (p := ((aheadI (⟨(ls.getD i default).l, (ls.getD i default).r⟩ : Nd) (⟨sortL (atL ats ((ns.getD k5 default).l)), sortL (atL ats ((ns.getD k5 default).r))⟩ : Nd)) < 0)) rfl rfl (fun h273 => ?_) (fun h273 => ?_)
            · skip
              refine wp_skip ?_
              refine s_then ?_
              refine s_blk ?_
              refine c_reg ?_
              refine qd rfl rfl rfl (r_move (v := (.int .i64 (i : Int))) rfl) ?_
              refine qd rfl rfl rfl (r_add rfl rfl (by omega)) ?_
              refine qd rfl rfl rfl (r_assign (v := (.int .i64 ((i : Int) + 1))) rfl) ?_
              refine qe ?_
              refine s_blkN ?_
              refine s_lopN ?_
              refine ⟨_, ?_, _, rfl, _, i + 1, G262, (packS (x := 13) (packS (x := 12) (packS (x := 11) (packS (x := 10) (packS (x := 9) (packS (x := 8) (packS (x := 7) (packS (x := 6) (packS (x := 5) (packS (x := 4) (packS (x := 1) (pack1 (x := 0) rfl) rfl) rfl) rfl) rfl) rfl) rfl) rfl) rfl) rfl) rfl) rfl), rfl, hX265, (Pin.le_trans hlek233 hx264.le), (by omega), (pos_next (by omega) h273 hpp), ho266, ho267, ho268, ho269, hb270, hb271, hb272⟩
              omega
            refine wp_exit ?_
            refine s_thenE ?_
            refine s_lopE ?_
            refine s_blkE ?_
            refine s_then ?_
            refine s_seq ?_
            have hpe : posM ls (ndAt ats (ns.getD k5 default)) = i := pos_stop (by omega) h273 hpp
            refine c_cut (fun (en : Nat → Value) (W : World) => ∃ (env1 : Nat → Value) (c274 : Value) (G275 : Pin), en = (upd (upd (upd (upd (upd (upd (upd (upd (upd (upd (upd env1 0 (.pointer (some ⟨b, 0, none⟩))) 1 (.int .i64 m)) 4 (.pointer (some ⟨b1, 0, none⟩))) 5 u15) 6 at_) 7 (.pointer (some ⟨b74, 0, none⟩))) 8 (.int .i64 (q : Int))) 9 c274) 10 fv) 11 (.int .i64 (k5 : Int))) 13 (.int .i64 (i : Int))) ∧ Ext noS G w G275 W ∧ Pin.le G262 G275 ∧ (Own eInt 3 G275 W w.heap.size at_ ats) ∧ (Own eNode 69 G275 W w.heap.size ov outs) ∧ (Own eNode 69 G275 W 0 bu ns) ∧ (Own eInt 3 G275 W 0 bv bs) ∧ (Own eNode 69 G275 W w.heap.size c274 (((([]) ++ ((ls.take i).drop 0)) ++ ([(⟨sortL (atL ats ((ns.getD k5 default).l)), sortL (atL ats ((ns.getD k5 default).r))⟩ : Nd)])) ++ ((ls.take ls.length).drop i))) ∧ (Bx G275 W b [bu, bv]) ∧ (Bx G275 W b1 [(.slice none 0 0)]) ∧ (Bx G275 W b74 [ov]) ∧ (Apart at_.ownBlock c274.ownBlock) ∧ (Apart ov.ownBlock c274.ownBlock) ∧ (Apart bu.ownBlock c274.ownBlock) ∧ (Apart bv.ownBlock c274.ownBlock) ∧ (Apart c274.ownBlock (some b)) ∧ (Apart c274.ownBlock (some b1)) ∧ (Apart c274.ownBlock (some b74))) ?_ ?_
            · rintro _ w276 ⟨env1, c274, G275, rfl, hX292, hle293, ho277, ho278, ho279, ho280, ho281, hb282, hb283, hb284, ha285, ha286, ha287, ha288, ha289, ha290, ha291⟩
              refine s_then ?_
              refine c_cut (fun (en : Nat → Value) (W : World) => ∃ (env1 : Nat → Value) (c294 : Value) (G295 : Pin), en = (upd (upd (upd (upd (upd (upd (upd (upd (upd (upd env1 0 (.pointer (some ⟨b, 0, none⟩))) 1 (.int .i64 m)) 4 (.pointer (some ⟨b1, 0, none⟩))) 5 u15) 6 at_) 7 (.pointer (some ⟨b74, 0, none⟩))) 8 (.int .i64 (q : Int))) 9 c274) 10 c294) 11 (.int .i64 (k5 : Int))) ∧ Ext noS G w G295 W ∧ Pin.le G275 G295 ∧ (Own eInt 3 G295 W w.heap.size at_ ats) ∧ (Own eNode 69 G295 W w.heap.size ov outs) ∧ (Own eNode 69 G295 W 0 bu ns) ∧ (Own eInt 3 G295 W 0 bv bs) ∧ (Own eNode 69 G295 W w.heap.size c274 (((([]) ++ ((ls.take i).drop 0)) ++ ([(⟨sortL (atL ats ((ns.getD k5 default).l)), sortL (atL ats ((ns.getD k5 default).r))⟩ : Nd)])) ++ ((ls.take ls.length).drop i))) ∧ (Own eInt 3 G295 W w.heap.size c294 (((([]) ++ ((fr.take i).drop 0)) ++ ([(k5 : Int)])) ++ ((fr.take fr.length).drop i))) ∧ (Bx G295 W b [bu, bv]) ∧ (Bx G295 W b1 [(.slice none 0 0)]) ∧ (Bx G295 W b74 [ov]) ∧ (Apart at_.ownBlock c294.ownBlock) ∧ (Apart ov.ownBlock c294.ownBlock) ∧ (Apart bu.ownBlock c294.ownBlock) ∧ (Apart bv.ownBlock c294.ownBlock) ∧ (Apart c274.ownBlock c294.ownBlock) ∧ (Apart c294.ownBlock (some b)) ∧ (Apart c294.ownBlock (some b1)) ∧ (Apart c294.ownBlock (some b74))) ?_ ?_
              · rintro _ w296 ⟨env1, c294, G295, rfl, hX314, hle315, ho297, ho298, ho299, ho300, ho301, ho302, hb303, hb304, hb305, ha306, ha307, ha308, ha309, ha310, ha311, ha312, ha313⟩
                refine s_blkN ?_
                refine s_then ?_
                refine c_reg ?_
                refine qd rfl rfl rfl (r_move (v := (.int .i64 (k5 : Int))) rfl) ?_
                refine qd rfl rfl rfl (r_add rfl rfl (by omega)) ?_
                refine qd rfl rfl rfl (r_assign (v := (.int .i64 ((k5 : Int) + 1))) rfl) ?_
                refine qe ?_
                refine s_lopN ?_
                obtain ⟨G316, hle319, hX318, hr317, hf320⟩ := ho301.sealed hX314
                have ho321 := ho297.moreO hle319 hf320 ha285
                have ho322 := ho298.moreO hle319 hf320 ha286
                have ho323 := ho299.moreO hle319 hf320 ha287
                have ho324 := ho300.moreO hle319 hf320 ha288
                have ho325 := ho302.moreO hle319 hf320 ha310.symm
                have hb326 := hb303.moreO hf320 ha289.symm
                have hb327 := hb304.moreO hf320 ha290.symm
                have hb328 := hb305.moreO hf320 ha291.symm
                obtain ⟨G329, hle332, hX331, hr330, hf333⟩ := ho325.sealed hX318
                have ho334 := ho321.moreO hle332 hf333 ha306
                have ho335 := ho322.moreO hle332 hf333 ha307
                have ho336 := ho323.moreO hle332 hf333 ha308
                have ho337 := ho324.moreO hle332 hf333 ha309
                have hb338 := hb326.moreO hf333 ha311.symm
                have hb339 := hb327.moreO hf333 ha312.symm
                have hb340 := hb328.moreO hf333 ha313.symm
                have hi1 := ins_len (x := ndAt ats (ns.getD k5 default)) (l := ls) (i := i) (by omega)
                have hi2 := ins_len (x := (k5 : Int)) (l := fr) (i := i) (by omega)
                refine ⟨_, ?_, _, rfl, _, k5 + 1, c274, ((([]) ++ ((ls.take i).drop 0)) ++ ([(⟨sortL (atL ats ((ns.getD k5 default).l)), sortL (atL ats ((ns.getD k5 default).r))⟩ : Nd)])) ++ ((ls.take ls.length).drop i), c294, ((([]) ++ ((fr.take i).drop 0)) ++ ([(k5 : Int)])) ++ ((fr.take fr.length).drop i), G329, (packS (x := 11) (packS (x := 10) (packS (x := 9) (packS (x := 8) (packS (x := 7) (packS (x := 6) (packS (x := 5) (packS (x := 4) (packS (x := 1) (pack1 (x := 0) rfl) rfl) rfl) rfl) rfl) rfl) rfl) rfl) rfl) rfl), rfl, hX331, (Pin.le_trans (Pin.le_trans (Pin.le_trans (Pin.le_trans (Pin.le_trans (Pin.le_trans (Pin.le_trans hlek175 hle232) hlek233) hx264.le) hle293) hle315) hle319) hle332), (by omega), (lv_ins hrl h214 (by omega) hpe), ⟨hi1.trans ((congrArg (· + 1) hll.1).trans hi2.symm), (by have : _ = _ := hi1; exact Nat.le_trans (Nat.le_of_eq hi1) (by omega))⟩, (ins_all (P := fun x => 0 ≤ x ∧ x ≤ m) hfb (by omega)), ho334, ho335, ho336, ho337, hb338, hb339, hb340, (hr317.mono hle332), hr330⟩
                omega
              · skip
                refine c_draw (S := fun wz => Pins G275 wz) (last := 13) (by kernel_rfl) rfl ?_
                have hl341 : Below w276.heap.size w276 w276.drew := (Below.refl _ _).drew
                have hp342 := hX292.pins.below hl341
                have hX343 := hX292.step hp342 hl341
                have ho344 := ho277.below hl341
                have ho345 := ho278.below hl341
                have ho346 := ho279.below hl341
                have ho347 := ho280.below hl341
                have ho348 := ho281.below hl341
                have hb349 := hb282.below hl341
                have hb350 := hb283.below hl341
                have hb351 := hb284.below hl341
                refine dr_take (i := 1) rfl rfl rfl (want_none rfl _) (by kernel_rfl) (fun _ _ => r_move (v := fv) rfl) hX343.pins ?_
                refine dr_take (i := 2) rfl rfl rfl (want_none rfl _) (by kernel_rfl) (fun _ _ => r_move (v := (.int .i64 (i : Int))) rfl) hX343.pins ?_
                obtain ⟨u352, hr353, hl354⟩ := name_slice hr212 (lo := none) (hi := (some ((i : Int)))) (0) (i) (Or.inl ⟨rfl, rfl⟩) (Or.inr ⟨_, rfl, (by omega), rfl⟩) (by omega) (by omega)
                refine dr_take (i := 3) rfl rfl rfl (want_none rfl _) (by kernel_rfl) (fun _ _ => hl354 Tryd.underlying38 sz3 rfl rfl rfl) hX343.pins ?_
                refine dr_take (i := 5) rfl rfl rfl (want_none rfl _) (by kernel_rfl) (fun _ _ => r_move (v := (.int .i64 (k5 : Int))) rfl) hX343.pins ?_
                refine dr_take (i := 8) rfl rfl rfl (want_none rfl _) (by kernel_rfl) (fun _ _ => r_move (v := fv) rfl) hX343.pins ?_
                refine dr_take (i := 9) rfl rfl rfl (want_none rfl _) (by kernel_rfl) (fun _ _ => r_move (v := (.int .i64 (i : Int))) rfl) hX343.pins ?_
                obtain ⟨u355, hr356, hl357⟩ := name_slice hr212 (lo := (some ((i : Int)))) (hi := none) (i) (fr.length) (Or.inr ⟨_, rfl, (by omega), rfl⟩) (Or.inl ⟨rfl, rfl⟩) (by omega) (by omega)
                refine dr_take (i := 10) rfl rfl rfl (want_none rfl _) (by kernel_rfl) (fun _ _ => hl357 Tryd.underlying38 sz3 rfl rfl rfl) hX343.pins ?_
                refine dr_two (i := 0) (j := 6) (by kernel_rfl) ?_ ?_
                · skip
                  refine (drOp1 (i := 0) rfl rfl rfl (want_none rfl _) (o_build0 (E := eInt) (e := 3) Tryd.underlying38 sz3 hX343.pins (fun u358 w359 ho360 hp361 hl362 hk363 => ?_)))
                  have hX364 := hX343.step hp361 hl362
                  have ho365 := ho344.below hl362
                  have ho366 := ho345.below hl362
                  have ho367 := ho346.below hl362
                  have ho368 := ho347.below hl362
                  have ho369 := ho348.below hl362
                  have hb370 := hb349.below hl362
                  have hb371 := hb350.below hl362
                  have hb372 := hb351.below hl362
                  have ha373 : Apart u358.ownBlock at_.ownBlock := new_ne_own hk363 ho344.lt
                  have ha374 : Apart u358.ownBlock ov.ownBlock := new_ne_own hk363 ho345.lt
                  have ha375 : Apart u358.ownBlock bu.ownBlock := new_ne_own hk363 ho346.lt
                  have ha376 : Apart u358.ownBlock bv.ownBlock := new_ne_own hk363 ho347.lt
                  have ha377 : Apart u358.ownBlock c274.ownBlock := new_ne_own hk363 ho348.lt
                  have ha378 : Apart u358.ownBlock (some b) := new_ne_box hk363 hb349.lt
                  have ha379 : Apart u358.ownBlock (some b1) := new_ne_box hk363 hb350.lt
                  have ha380 : Apart u358.ownBlock (some b74) := new_ne_box hk363 hb351.lt
                  have ho381 : Own eInt 3 G275 w359 w.heap.size u358 ([]) := ho360.weaken hX343.size
                  refine ⟨fun _ => hX364.pins, ?_⟩
                  refine dr_two (i := 4) (j := 6) (by kernel_rfl) ?_ ?_
                  · skip
                    refine (drOp1 (i := 4) rfl rfl rfl (want_none rfl _) (o_append (E := eInt) (v := u358) (u := u352) 8 Tryd.underlying38 ap3 (by decide) rfl rfl hX364.pins ho381 ((hr353.mono (Pin.le_trans (Pin.le_trans (Pin.le_trans hle232 hlek233) hx264.le) hle293)).src hX364.pins (by decide)) (by first | omega | (rw [List.nil_append]; omega) | (rw [List.length_nil]; omega) | (rw [List.length_append]; omega) | (simp; done) | (simp; omega)) (by first | omega | (rw [List.nil_append]; omega) | (rw [List.length_nil]; omega) | (rw [List.length_append]; omega) | (simp; done) | (simp; omega)) (hX364.size) (fun u382 w383 ho384 hp385 hg386 hw387 => ?_)))
                    have hX388 := hX364.write hp385 hg386 ((lo_own ho381))
                    have ho389 := ho365.keptA hg386 ha373.symm
                    have ho390 := ho366.keptA hg386 ha374.symm
                    have ho391 := ho367.keptA hg386 ha375.symm
                    have ho392 := ho368.keptA hg386 ha376.symm
                    have ho393 := ho369.keptA hg386 ha377.symm
                    have hb394 := hb370.keptA hg386 ha378.symm
                    have hb395 := hb371.keptA hg386 ha379.symm
                    have hb396 := hb372.keptA hg386 ha380.symm
                    have ha397 : Apart at_.ownBlock u382.ownBlock := app_ne_own ha373.symm hw387 ho365.lt
                    have ha398 : Apart ov.ownBlock u382.ownBlock := app_ne_own ha374.symm hw387 ho366.lt
                    have ha399 : Apart bu.ownBlock u382.ownBlock := app_ne_own ha375.symm hw387 ho367.lt
                    have ha400 : Apart bv.ownBlock u382.ownBlock := app_ne_own ha376.symm hw387 ho368.lt
                    have ha401 : Apart c274.ownBlock u382.ownBlock := app_ne_own ha377.symm hw387 ho369.lt
                    have ha402 : Apart (some b) u382.ownBlock := app_ne_box ha378.symm hw387 hb370.lt
                    have ha403 : Apart (some b1) u382.ownBlock := app_ne_box ha379.symm hw387 hb371.lt
                    have ha404 : Apart (some b74) u382.ownBlock := app_ne_box ha380.symm hw387 hb372.lt
                    have hm405 : (([]) ++ ((fr.take i).drop 0)).length = ([]).length + ((fr.take i).drop 0).length := List.length_append
                    refine ⟨fun _ => hX388.pins, ?_⟩
                    refine dr_one (i := 6) (by kernel_rfl) (drOp1 (i := 6) rfl rfl rfl (want_none rfl _) (o_buildF (E := eInt) (e := 3) [(.int .i64 (k5 : Int))] [(k5 : Int)] Tryd.underlying38 sz3 zr3 (by exact reps1 (by rfl)) (ones1 (by rfl)) rfl rfl rfl rfl (by decide) hX388.pins (fun u406 w407 ho408 hp409 hl410 hk411 => ?_)))
                    have hX412 := hX388.step hp409 hl410
                    have ho413 := ho389.below hl410
                    have ho414 := ho390.below hl410
                    have ho415 := ho391.below hl410
                    have ho416 := ho392.below hl410
                    have ho417 := ho393.below hl410
                    have ho418 := ho384.below hl410
                    have hb419 := hb394.below hl410
                    have hb420 := hb395.below hl410
                    have hb421 := hb396.below hl410
                    have ha422 : Apart u406.ownBlock at_.ownBlock := new_ne_own hk411 ho389.lt
                    have ha423 : Apart u406.ownBlock ov.ownBlock := new_ne_own hk411 ho390.lt
                    have ha424 : Apart u406.ownBlock bu.ownBlock := new_ne_own hk411 ho391.lt
                    have ha425 : Apart u406.ownBlock bv.ownBlock := new_ne_own hk411 ho392.lt
                    have ha426 : Apart u406.ownBlock c274.ownBlock := new_ne_own hk411 ho393.lt
                    have ha427 : Apart u406.ownBlock u382.ownBlock := new_ne_own hk411 ho384.lt
                    have ha428 : Apart u406.ownBlock (some b) := new_ne_box hk411 hb394.lt
                    have ha429 : Apart u406.ownBlock (some b1) := new_ne_box hk411 hb395.lt
                    have ha430 : Apart u406.ownBlock (some b74) := new_ne_box hk411 hb396.lt
                    have ho431 : Own eInt 3 G275 w407 w.heap.size u406 ([(k5 : Int)]) := ho408.weaken hX388.size
                    refine ⟨fun _ => hX412.pins, ?_⟩
                    refine dr_one (i := 7) (by kernel_rfl) (drOp1 (i := 7) rfl rfl rfl (want_none rfl _) (o_append (E := eInt) (v := u382) (u := u406) 8 Tryd.underlying38 ap3 (by decide) rfl rfl hX412.pins ho418 ho431.src (by first | omega | (rw [List.nil_append]; omega) | (rw [List.length_nil]; omega) | (rw [List.length_append]; omega) | (simp; done) | (simp; omega)) (by first | omega | (rw [List.nil_append]; omega) | (rw [List.length_nil]; omega) | (rw [List.length_append]; omega) | (simp; done) | (simp; omega)) (hX412.size) (fun u432 w433 ho434 hp435 hg436 hw437 => ?_)))
                    have hX438 := hX412.write hp435 hg436 ((lo_own ho418))
                    have ho439 := ho413.keptA hg436 ha397
                    have ho440 := ho414.keptA hg436 ha398
                    have ho441 := ho415.keptA hg436 ha399
                    have ho442 := ho416.keptA hg436 ha400
                    have ho443 := ho417.keptA hg436 ha401
                    have ho444 := ho431.keptA hg436 ha427
                    have hb445 := hb419.keptA hg436 ha402
                    have hb446 := hb420.keptA hg436 ha403
                    have hb447 := hb421.keptA hg436 ha404
                    have ha448 : Apart at_.ownBlock u432.ownBlock := app_ne_own ha397 hw437 ho413.lt
                    have ha449 : Apart ov.ownBlock u432.ownBlock := app_ne_own ha398 hw437 ho414.lt
                    have ha450 : Apart bu.ownBlock u432.ownBlock := app_ne_own ha399 hw437 ho415.lt
                    have ha451 : Apart bv.ownBlock u432.ownBlock := app_ne_own ha400 hw437 ho416.lt
                    have ha452 : Apart c274.ownBlock u432.ownBlock := app_ne_own ha401 hw437 ho417.lt
                    have ha453 : Apart u406.ownBlock u432.ownBlock := app_ne_own ha427 hw437 ho431.lt
                    have ha454 : Apart (some b) u432.ownBlock := app_ne_box ha402 hw437 hb419.lt
                    have ha455 : Apart (some b1) u432.ownBlock := app_ne_box ha403 hw437 hb420.lt
                    have ha456 : Apart (some b74) u432.ownBlock := app_ne_box ha404 hw437 hb421.lt
                    have hm457 : ((([]) ++ ((fr.take i).drop 0)) ++ ([(k5 : Int)])).length = (([]) ++ ((fr.take i).drop 0)).length + 1 := by simp
                    refine ⟨fun _ => hX438.pins, ?_⟩
                    refine dr_one (i := 11) (by kernel_rfl) (drOp1 (i := 11) rfl rfl rfl (want_none rfl _) (o_append (E := eInt) (v := u432) (u := u355) 8 Tryd.underlying38 ap3 (by decide) rfl rfl hX438.pins ho434 ((hr356.mono (Pin.le_trans (Pin.le_trans (Pin.le_trans hle232 hlek233) hx264.le) hle293)).src hX438.pins (by decide)) (by first | omega | (rw [List.nil_append]; omega) | (rw [List.length_nil]; omega) | (rw [List.length_append]; omega) | (simp; done) | (simp; omega)) (by first | omega | (rw [List.nil_append]; omega) | (rw [List.length_nil]; omega) | (rw [List.length_append]; omega) | (simp; done) | (simp; omega)) (hX438.size) (fun u458 w459 ho460 hp461 hg462 hw463 => ?_)))
                    have hX464 := hX438.write hp461 hg462 ((lo_own ho434))
                    have ho465 := ho439.keptA hg462 ha448
                    have ho466 := ho440.keptA hg462 ha449
                    have ho467 := ho441.keptA hg462 ha450
                    have ho468 := ho442.keptA hg462 ha451
                    have ho469 := ho443.keptA hg462 ha452
                    have hb470 := hb445.keptA hg462 ha454
                    have hb471 := hb446.keptA hg462 ha455
                    have hb472 := hb447.keptA hg462 ha456
                    have ha473 : Apart at_.ownBlock u458.ownBlock := app_ne_own ha448 hw463 ho439.lt
                    have ha474 : Apart ov.ownBlock u458.ownBlock := app_ne_own ha449 hw463 ho440.lt
                    have ha475 : Apart bu.ownBlock u458.ownBlock := app_ne_own ha450 hw463 ho441.lt
                    have ha476 : Apart bv.ownBlock u458.ownBlock := app_ne_own ha451 hw463 ho442.lt
                    have ha477 : Apart c274.ownBlock u458.ownBlock := app_ne_own ha452 hw463 ho443.lt
                    have ha478 : Apart (some b) u458.ownBlock := app_ne_box ha454 hw463 hb445.lt
                    have ha479 : Apart (some b1) u458.ownBlock := app_ne_box ha455 hw463 hb446.lt
                    have ha480 : Apart (some b74) u458.ownBlock := app_ne_box ha456 hw463 hb447.lt
                    have hm481 : (((([]) ++ ((fr.take i).drop 0)) ++ ([(k5 : Int)])) ++ ((fr.take fr.length).drop i)).length = ((([]) ++ ((fr.take i).drop 0)) ++ ([(k5 : Int)])).length + ((fr.take fr.length).drop i).length := List.length_append
                    refine ⟨fun _ => hX464.pins, ?_⟩
                    refine dr_take (i := 12) rfl rfl rfl (want_none rfl _) (by kernel_rfl) (fun _ _ => r_assign (v := u458) rfl) hX464.pins ?_
                    refine dr_end (by kernel_rfl) ?_
                    exact cut_in ⟨_, u458, G275, (packS (x := 11) (packS (x := 10) (packS (x := 9) (packS (x := 8) (packS (x := 7) (packS (x := 6) (packS (x := 5) (packS (x := 4) (packS (x := 1) (pack1 (x := 0) rfl) rfl) rfl) rfl) rfl) rfl) rfl) rfl) rfl) rfl), hX464, (Pin.le_refl _), ho465, ho466, ho467, ho468, ho469, ho460, hb470, hb471, hb472, ha473, ha474, ha475, ha476, ha477, ha478.symm, ha479.symm, ha480.symm⟩
                  · skip
                    refine (drOp1 (i := 6) rfl rfl rfl (want_none rfl _) (o_buildF (E := eInt) (e := 3) [(.int .i64 (k5 : Int))] [(k5 : Int)] Tryd.underlying38 sz3 zr3 (by exact reps1 (by rfl)) (ones1 (by rfl)) rfl rfl rfl rfl (by decide) hX364.pins (fun u482 w483 ho484 hp485 hl486 hk487 => ?_)))
                    have hX488 := hX364.step hp485 hl486
                    have ho489 := ho365.below hl486
                    have ho490 := ho366.below hl486
                    have ho491 := ho367.below hl486
                    have ho492 := ho368.below hl486
                    have ho493 := ho369.below hl486
                    have ho494 := ho381.below hl486
                    have hb495 := hb370.below hl486
                    have hb496 := hb371.below hl486
                    have hb497 := hb372.below hl486
                    have ha498 : Apart u482.ownBlock at_.ownBlock := new_ne_own hk487 ho365.lt
                    have ha499 : Apart u482.ownBlock ov.ownBlock := new_ne_own hk487 ho366.lt
                    have ha500 : Apart u482.ownBlock bu.ownBlock := new_ne_own hk487 ho367.lt
                    have ha501 : Apart u482.ownBlock bv.ownBlock := new_ne_own hk487 ho368.lt
                    have ha502 : Apart u482.ownBlock c274.ownBlock := new_ne_own hk487 ho369.lt
                    have ha503 : Apart u482.ownBlock u358.ownBlock := new_ne_own hk487 ho381.lt
                    have ha504 : Apart u482.ownBlock (some b) := new_ne_box hk487 hb370.lt
                    have ha505 : Apart u482.ownBlock (some b1) := new_ne_box hk487 hb371.lt
                    have ha506 : Apart u482.ownBlock (some b74) := new_ne_box hk487 hb372.lt
                    have ho507 : Own eInt 3 G275 w483 w.heap.size u482 ([(k5 : Int)]) := ho484.weaken hX364.size
                    refine ⟨fun _ => hX488.pins, ?_⟩
                    refine dr_one (i := 4) (by kernel_rfl) (drOp1 (i := 4) rfl rfl rfl (want_none rfl _) (o_append (E := eInt) (v := u358) (u := u352) 8 Tryd.underlying38 ap3 (by decide) rfl rfl hX488.pins ho494 ((hr353.mono (Pin.le_trans (Pin.le_trans (Pin.le_trans hle232 hlek233) hx264.le) hle293)).src hX488.pins (by decide)) (by first | omega | (rw [List.nil_append]; omega) | (rw [List.length_nil]; omega) | (rw [List.length_append]; omega) | (simp; done) | (simp; omega)) (by first | omega | (rw [List.nil_append]; omega) | (rw [List.length_nil]; omega) | (rw [List.length_append]; omega) | (simp; done) | (simp; omega)) (hX488.size) (fun u508 w509 ho510 hp511 hg512 hw513 => ?_)))
                    have hX514 := hX488.write hp511 hg512 ((lo_own ho494))
                    have ho515 := ho489.keptA hg512 ha373.symm
                    have ho516 := ho490.keptA hg512 ha374.symm
                    have ho517 := ho491.keptA hg512 ha375.symm
                    have ho518 := ho492.keptA hg512 ha376.symm
                    have ho519 := ho493.keptA hg512 ha377.symm
                    have ho520 := ho507.keptA hg512 ha503
                    have hb521 := hb495.keptA hg512 ha378.symm
                    have hb522 := hb496.keptA hg512 ha379.symm
                    have hb523 := hb497.keptA hg512 ha380.symm
                    have ha524 : Apart at_.ownBlock u508.ownBlock := app_ne_own ha373.symm hw513 ho489.lt
                    have ha525 : Apart ov.ownBlock u508.ownBlock := app_ne_own ha374.symm hw513 ho490.lt
                    have ha526 : Apart bu.ownBlock u508.ownBlock := app_ne_own ha375.symm hw513 ho491.lt
                    have ha527 : Apart bv.ownBlock u508.ownBlock := app_ne_own ha376.symm hw513 ho492.lt
                    have ha528 : Apart c274.ownBlock u508.ownBlock := app_ne_own ha377.symm hw513 ho493.lt
                    have ha529 : Apart u482.ownBlock u508.ownBlock := app_ne_own ha503 hw513 ho507.lt
                    have ha530 : Apart (some b) u508.ownBlock := app_ne_box ha378.symm hw513 hb495.lt
                    have ha531 : Apart (some b1) u508.ownBlock := app_ne_box ha379.symm hw513 hb496.lt
                    have ha532 : Apart (some b74) u508.ownBlock := app_ne_box ha380.symm hw513 hb497.lt
                    have hm533 : (([]) ++ ((fr.take i).drop 0)).length = ([]).length + ((fr.take i).drop 0).length := List.length_append
                    refine ⟨fun _ => hX514.pins, ?_⟩
                    refine dr_one (i := 7) (by kernel_rfl) (drOp1 (i := 7) rfl rfl rfl (want_none rfl _) (o_append (E := eInt) (v := u508) (u := u482) 8 Tryd.underlying38 ap3 (by decide) rfl rfl hX514.pins ho510 ho520.src (by first | omega | (rw [List.nil_append]; omega) | (rw [List.length_nil]; omega) | (rw [List.length_append]; omega) | (simp; done) | (simp; omega)) (by first | omega | (rw [List.nil_append]; omega) | (rw [List.length_nil]; omega) | (rw [List.length_append]; omega) | (simp; done) | (simp; omega)) (hX514.size) (fun u534 w535 ho536 hp537 hg538 hw539 => ?_)))
                    have hX540 := hX514.write hp537 hg538 ((lo_own ho510))
                    have ho541 := ho515.keptA hg538 ha524
                    have ho542 := ho516.keptA hg538 ha525
                    have ho543 := ho517.keptA hg538 ha526
                    have ho544 := ho518.keptA hg538 ha527
                    have ho545 := ho519.keptA hg538 ha528
                    have ho546 := ho520.keptA hg538 ha529
                    have hb547 := hb521.keptA hg538 ha530
                    have hb548 := hb522.keptA hg538 ha531
                    have hb549 := hb523.keptA hg538 ha532
                    have ha550 : Apart at_.ownBlock u534.ownBlock := app_ne_own ha524 hw539 ho515.lt
                    have ha551 : Apart ov.ownBlock u534.ownBlock := app_ne_own ha525 hw539 ho516.lt
                    have ha552 : Apart bu.ownBlock u534.ownBlock := app_ne_own ha526 hw539 ho517.lt
                    have ha553 : Apart bv.ownBlock u534.ownBlock := app_ne_own ha527 hw539 ho518.lt
                    have ha554 : Apart c274.ownBlock u534.ownBlock := app_ne_own ha528 hw539 ho519.lt
                    have ha555 : Apart u482.ownBlock u534.ownBlock := app_ne_own ha529 hw539 ho520.lt
                    have ha556 : Apart (some b) u534.ownBlock := app_ne_box ha530 hw539 hb521.lt
                    have ha557 : Apart (some b1) u534.ownBlock := app_ne_box ha531 hw539 hb522.lt
                    have ha558 : Apart (some b74) u534.ownBlock := app_ne_box ha532 hw539 hb523.lt
                    have hm559 : ((([]) ++ ((fr.take i).drop 0)) ++ ([(k5 : Int)])).length = (([]) ++ ((fr.take i).drop 0)).length + 1 := by simp
                    refine ⟨fun _ => hX540.pins, ?_⟩
                    refine dr_one (i := 11) (by kernel_rfl) (drOp1 (i := 11) rfl rfl rfl (want_none rfl _) (o_append (E := eInt) (v := u534) (u := u355) 8 Tryd.underlying38 ap3 (by decide) rfl rfl hX540.pins ho536 ((hr356.mono (Pin.le_trans (Pin.le_trans (Pin.le_trans hle232 hlek233) hx264.le) hle293)).src hX540.pins (by decide)) (by first | omega | (rw [List.nil_append]; omega) | (rw [List.length_nil]; omega) | (rw [List.length_append]; omega) | (simp; done) | (simp; omega)) (by first | omega | (rw [List.nil_append]; omega) | (rw [List.length_nil]; omega) | (rw [List.length_append]; omega) | (simp; done) | (simp; omega)) (hX540.size) (fun u560 w561 ho562 hp563 hg564 hw565 => ?_)))
                    have hX566 := hX540.write hp563 hg564 ((lo_own ho536))
                    have ho567 := ho541.keptA hg564 ha550
                    have ho568 := ho542.keptA hg564 ha551
                    have ho569 := ho543.keptA hg564 ha552
                    have ho570 := ho544.keptA hg564 ha553
                    have ho571 := ho545.keptA hg564 ha554
                    have hb572 := hb547.keptA hg564 ha556
                    have hb573 := hb548.keptA hg564 ha557
                    have hb574 := hb549.keptA hg564 ha558
                    have ha575 : Apart at_.ownBlock u560.ownBlock := app_ne_own ha550 hw565 ho541.lt
                    have ha576 : Apart ov.ownBlock u560.ownBlock := app_ne_own ha551 hw565 ho542.lt
                    have ha577 : Apart bu.ownBlock u560.ownBlock := app_ne_own ha552 hw565 ho543.lt
                    have ha578 : Apart bv.ownBlock u560.ownBlock := app_ne_own ha553 hw565 ho544.lt
                    have ha579 : Apart c274.ownBlock u560.ownBlock := app_ne_own ha554 hw565 ho545.lt
                    have ha580 : Apart (some b) u560.ownBlock := app_ne_box ha556 hw565 hb547.lt
                    have ha581 : Apart (some b1) u560.ownBlock := app_ne_box ha557 hw565 hb548.lt
                    have ha582 : Apart (some b74) u560.ownBlock := app_ne_box ha558 hw565 hb549.lt
                    have hm583 : (((([]) ++ ((fr.take i).drop 0)) ++ ([(k5 : Int)])) ++ ((fr.take fr.length).drop i)).length = ((([]) ++ ((fr.take i).drop 0)) ++ ([(k5 : Int)])).length + ((fr.take fr.length).drop i).length := List.length_append
                    refine ⟨fun _ => hX566.pins, ?_⟩
                    refine dr_take (i := 12) rfl rfl rfl (want_none rfl _) (by kernel_rfl) (fun _ _ => r_assign (v := u560) rfl) hX566.pins ?_
                    refine dr_end (by kernel_rfl) ?_
                    exact cut_in ⟨_, u560, G275, (packS (x := 11) (packS (x := 10) (packS (x := 9) (packS (x := 8) (packS (x := 7) (packS (x := 6) (packS (x := 5) (packS (x := 4) (packS (x := 1) (pack1 (x := 0) rfl) rfl) rfl) rfl) rfl) rfl) rfl) rfl) rfl) rfl), hX566, (Pin.le_refl _), ho567, ho568, ho569, ho570, ho571, ho562, hb572, hb573, hb574, ha575, ha576, ha577, ha578, ha579, ha580.symm, ha581.symm, ha582.symm⟩
                · skip
                  refine (drOp1 (i := 6) rfl rfl rfl (want_none rfl _) (o_buildF (E := eInt) (e := 3) [(.int .i64 (k5 : Int))] [(k5 : Int)] Tryd.underlying38 sz3 zr3 (by exact reps1 (by rfl)) (ones1 (by rfl)) rfl rfl rfl rfl (by decide) hX343.pins (fun u584 w585 ho586 hp587 hl588 hk589 => ?_)))
                  have hX590 := hX343.step hp587 hl588
                  have ho591 := ho344.below hl588
                  have ho592 := ho345.below hl588
                  have ho593 := ho346.below hl588
                  have ho594 := ho347.below hl588
                  have ho595 := ho348.below hl588
                  have hb596 := hb349.below hl588
                  have hb597 := hb350.below hl588
                  have hb598 := hb351.below hl588
                  have ha599 : Apart u584.ownBlock at_.ownBlock := new_ne_own hk589 ho344.lt
                  have ha600 : Apart u584.ownBlock ov.ownBlock := new_ne_own hk589 ho345.lt
                  have ha601 : Apart u584.ownBlock bu.ownBlock := new_ne_own hk589 ho346.lt
                  have ha602 : Apart u584.ownBlock bv.ownBlock := new_ne_own hk589 ho347.lt
                  have ha603 : Apart u584.ownBlock c274.ownBlock := new_ne_own hk589 ho348.lt
                  have ha604 : Apart u584.ownBlock (some b) := new_ne_box hk589 hb349.lt
                  have ha605 : Apart u584.ownBlock (some b1) := new_ne_box hk589 hb350.lt
                  have ha606 : Apart u584.ownBlock (some b74) := new_ne_box hk589 hb351.lt
                  have ho607 : Own eInt 3 G275 w585 w.heap.size u584 ([(k5 : Int)]) := ho586.weaken hX343.size
                  refine ⟨fun _ => hX590.pins, ?_⟩
                  refine dr_one (i := 0) (by kernel_rfl) (drOp1 (i := 0) rfl rfl rfl (want_none rfl _) (o_build0 (E := eInt) (e := 3) Tryd.underlying38 sz3 hX590.pins (fun u608 w609 ho610 hp611 hl612 hk613 => ?_)))
                  have hX614 := hX590.step hp611 hl612
                  have ho615 := ho591.below hl612
                  have ho616 := ho592.below hl612
                  have ho617 := ho593.below hl612
                  have ho618 := ho594.below hl612
                  have ho619 := ho595.below hl612
                  have ho620 := ho607.below hl612
                  have hb621 := hb596.below hl612
                  have hb622 := hb597.below hl612
                  have hb623 := hb598.below hl612
                  have ha624 : Apart u608.ownBlock at_.ownBlock := new_ne_own hk613 ho591.lt
                  have ha625 : Apart u608.ownBlock ov.ownBlock := new_ne_own hk613 ho592.lt
                  have ha626 : Apart u608.ownBlock bu.ownBlock := new_ne_own hk613 ho593.lt
                  have ha627 : Apart u608.ownBlock bv.ownBlock := new_ne_own hk613 ho594.lt
                  have ha628 : Apart u608.ownBlock c274.ownBlock := new_ne_own hk613 ho595.lt
                  have ha629 : Apart u608.ownBlock u584.ownBlock := new_ne_own hk613 ho607.lt
                  have ha630 : Apart u608.ownBlock (some b) := new_ne_box hk613 hb596.lt
                  have ha631 : Apart u608.ownBlock (some b1) := new_ne_box hk613 hb597.lt
                  have ha632 : Apart u608.ownBlock (some b74) := new_ne_box hk613 hb598.lt
                  have ho633 : Own eInt 3 G275 w609 w.heap.size u608 ([]) := ho610.weaken hX590.size
                  refine ⟨fun _ => hX614.pins, ?_⟩
                  refine dr_one (i := 4) (by kernel_rfl) (drOp1 (i := 4) rfl rfl rfl (want_none rfl _) (o_append (E := eInt) (v := u608) (u := u352) 8 Tryd.underlying38 ap3 (by decide) rfl rfl hX614.pins ho633 ((hr353.mono (Pin.le_trans (Pin.le_trans (Pin.le_trans hle232 hlek233) hx264.le) hle293)).src hX614.pins (by decide)) (by first | omega | (rw [List.nil_append]; omega) | (rw [List.length_nil]; omega) | (rw [List.length_append]; omega) | (simp; done) | (simp; omega)) (by first | omega | (rw [List.nil_append]; omega) | (rw [List.length_nil]; omega) | (rw [List.length_append]; omega) | (simp; done) | (simp; omega)) (hX614.size) (fun u634 w635 ho636 hp637 hg638 hw639 => ?_)))
                  have hX640 := hX614.write hp637 hg638 ((lo_own ho633))
                  have ho641 := ho615.keptA hg638 ha624.symm
                  have ho642 := ho616.keptA hg638 ha625.symm
                  have ho643 := ho617.keptA hg638 ha626.symm
                  have ho644 := ho618.keptA hg638 ha627.symm
                  have ho645 := ho619.keptA hg638 ha628.symm
                  have ho646 := ho620.keptA hg638 ha629.symm
                  have hb647 := hb621.keptA hg638 ha630.symm
                  have hb648 := hb622.keptA hg638 ha631.symm
                  have hb649 := hb623.keptA hg638 ha632.symm
                  have ha650 : Apart at_.ownBlock u634.ownBlock := app_ne_own ha624.symm hw639 ho615.lt
                  have ha651 : Apart ov.ownBlock u634.ownBlock := app_ne_own ha625.symm hw639 ho616.lt
                  have ha652 : Apart bu.ownBlock u634.ownBlock := app_ne_own ha626.symm hw639 ho617.lt
                  have ha653 : Apart bv.ownBlock u634.ownBlock := app_ne_own ha627.symm hw639 ho618.lt
                  have ha654 : Apart c274.ownBlock u634.ownBlock := app_ne_own ha628.symm hw639 ho619.lt
                  have ha655 : Apart u584.ownBlock u634.ownBlock := app_ne_own ha629.symm hw639 ho620.lt
                  have ha656 : Apart (some b) u634.ownBlock := app_ne_box ha630.symm hw639 hb621.lt
                  have ha657 : Apart (some b1) u634.ownBlock := app_ne_box ha631.symm hw639 hb622.lt
                  have ha658 : Apart (some b74) u634.ownBlock := app_ne_box ha632.symm hw639 hb623.lt
                  have hm659 : (([]) ++ ((fr.take i).drop 0)).length = ([]).length + ((fr.take i).drop 0).length := List.length_append
                  refine ⟨fun _ => hX640.pins, ?_⟩
                  refine dr_one (i := 7) (by kernel_rfl) (drOp1 (i := 7) rfl rfl rfl (want_none rfl _) (o_append (E := eInt) (v := u634) (u := u584) 8 Tryd.underlying38 ap3 (by decide) rfl rfl hX640.pins ho636 ho646.src (by first | omega | (rw [List.nil_append]; omega) | (rw [List.length_nil]; omega) | (rw [List.length_append]; omega) | (simp; done) | (simp; omega)) (by first | omega | (rw [List.nil_append]; omega) | (rw [List.length_nil]; omega) | (rw [List.length_append]; omega) | (simp; done) | (simp; omega)) (hX640.size) (fun u660 w661 ho662 hp663 hg664 hw665 => ?_)))
                  have hX666 := hX640.write hp663 hg664 ((lo_own ho636))
                  have ho667 := ho641.keptA hg664 ha650
                  have ho668 := ho642.keptA hg664 ha651
                  have ho669 := ho643.keptA hg664 ha652
                  have ho670 := ho644.keptA hg664 ha653
                  have ho671 := ho645.keptA hg664 ha654
                  have ho672 := ho646.keptA hg664 ha655
                  have hb673 := hb647.keptA hg664 ha656
                  have hb674 := hb648.keptA hg664 ha657
                  have hb675 := hb649.keptA hg664 ha658
                  have ha676 : Apart at_.ownBlock u660.ownBlock := app_ne_own ha650 hw665 ho641.lt
                  have ha677 : Apart ov.ownBlock u660.ownBlock := app_ne_own ha651 hw665 ho642.lt
                  have ha678 : Apart bu.ownBlock u660.ownBlock := app_ne_own ha652 hw665 ho643.lt
                  have ha679 : Apart bv.ownBlock u660.ownBlock := app_ne_own ha653 hw665 ho644.lt
                  have ha680 : Apart c274.ownBlock u660.ownBlock := app_ne_own ha654 hw665 ho645.lt
                  have ha681 : Apart u584.ownBlock u660.ownBlock := app_ne_own ha655 hw665 ho646.lt
                  have ha682 : Apart (some b) u660.ownBlock := app_ne_box ha656 hw665 hb647.lt
                  have ha683 : Apart (some b1) u660.ownBlock := app_ne_box ha657 hw665 hb648.lt
                  have ha684 : Apart (some b74) u660.ownBlock := app_ne_box ha658 hw665 hb649.lt
                  have hm685 : ((([]) ++ ((fr.take i).drop 0)) ++ ([(k5 : Int)])).length = (([]) ++ ((fr.take i).drop 0)).length + 1 := by simp
                  refine ⟨fun _ => hX666.pins, ?_⟩
                  refine dr_one (i := 11) (by kernel_rfl) (drOp1 (i := 11) rfl rfl rfl (want_none rfl _) (o_append (E := eInt) (v := u660) (u := u355) 8 Tryd.underlying38 ap3 (by decide) rfl rfl hX666.pins ho662 ((hr356.mono (Pin.le_trans (Pin.le_trans (Pin.le_trans hle232 hlek233) hx264.le) hle293)).src hX666.pins (by decide)) (by first | omega | (rw [List.nil_append]; omega) | (rw [List.length_nil]; omega) | (rw [List.length_append]; omega) | (simp; done) | (simp; omega)) (by first | omega | (rw [List.nil_append]; omega) | (rw [List.length_nil]; omega) | (rw [List.length_append]; omega) | (simp; done) | (simp; omega)) (hX666.size) (fun u686 w687 ho688 hp689 hg690 hw691 => ?_)))
                  have hX692 := hX666.write hp689 hg690 ((lo_own ho662))
                  have ho693 := ho667.keptA hg690 ha676
                  have ho694 := ho668.keptA hg690 ha677
                  have ho695 := ho669.keptA hg690 ha678
                  have ho696 := ho670.keptA hg690 ha679
                  have ho697 := ho671.keptA hg690 ha680
                  have hb698 := hb673.keptA hg690 ha682
                  have hb699 := hb674.keptA hg690 ha683
                  have hb700 := hb675.keptA hg690 ha684
                  have ha701 : Apart at_.ownBlock u686.ownBlock := app_ne_own ha676 hw691 ho667.lt
                  have ha702 : Apart ov.ownBlock u686.ownBlock := app_ne_own ha677 hw691 ho668.lt
                  have ha703 : Apart bu.ownBlock u686.ownBlock := app_ne_own ha678 hw691 ho669.lt
                  have ha704 : Apart bv.ownBlock u686.ownBlock := app_ne_own ha679 hw691 ho670.lt
                  have ha705 : Apart c274.ownBlock u686.ownBlock := app_ne_own ha680 hw691 ho671.lt
                  have ha706 : Apart (some b) u686.ownBlock := app_ne_box ha682 hw691 hb673.lt
                  have ha707 : Apart (some b1) u686.ownBlock := app_ne_box ha683 hw691 hb674.lt
                  have ha708 : Apart (some b74) u686.ownBlock := app_ne_box ha684 hw691 hb675.lt
                  have hm709 : (((([]) ++ ((fr.take i).drop 0)) ++ ([(k5 : Int)])) ++ ((fr.take fr.length).drop i)).length = ((([]) ++ ((fr.take i).drop 0)) ++ ([(k5 : Int)])).length + ((fr.take fr.length).drop i).length := List.length_append
                  refine ⟨fun _ => hX692.pins, ?_⟩
                  refine dr_take (i := 12) rfl rfl rfl (want_none rfl _) (by kernel_rfl) (fun _ _ => r_assign (v := u686) rfl) hX692.pins ?_
                  refine dr_end (by kernel_rfl) ?_
                  exact cut_in ⟨_, u686, G275, (packS (x := 11) (packS (x := 10) (packS (x := 9) (packS (x := 8) (packS (x := 7) (packS (x := 6) (packS (x := 5) (packS (x := 4) (packS (x := 1) (pack1 (x := 0) rfl) rfl) rfl) rfl) rfl) rfl) rfl) rfl) rfl) rfl), hX692, (Pin.le_refl _), ho693, ho694, ho695, ho696, ho697, ho688, hb698, hb699, hb700, ha701, ha702, ha703, ha704, ha705, ha706.symm, ha707.symm, ha708.symm⟩
            · skip
              refine c_draw (S := fun wz => Pins G262 wz) (last := 13) (by kernel_rfl) rfl ?_
              have hl710 : Below w263.heap.size w263 w263.drew := (Below.refl _ _).drew
              have hp711 := hX265.pins.below hl710
              have hX712 := hX265.step hp711 hl710
              have ho713 := ho266.below hl710
              have ho714 := ho267.below hl710
              have ho715 := ho268.below hl710
              have ho716 := ho269.below hl710
              have hb717 := hb270.below hl710
              have hb718 := hb271.below hl710
              have hb719 := hb272.below hl710
              refine dr_take (i := 1) rfl rfl rfl (want_none rfl _) (by kernel_rfl) (fun _ _ => r_move (v := lv) rfl) hX712.pins ?_
              refine dr_take (i := 2) rfl rfl rfl (want_none rfl _) (by kernel_rfl) (fun _ _ => r_move (v := (.int .i64 (i : Int))) rfl) hX712.pins ?_
              obtain ⟨u720, hr721, hl722⟩ := name_slice hr211 (lo := none) (hi := (some ((i : Int)))) (0) (i) (Or.inl ⟨rfl, rfl⟩) (Or.inr ⟨_, rfl, (by omega), rfl⟩) (by omega) (by omega)
              refine dr_take (i := 3) rfl rfl rfl (want_none rfl _) (by kernel_rfl) (fun _ _ => hl722 Tryd.underlying28 sz69 rfl rfl rfl) hX712.pins ?_
              refine dr_take (i := 5) rfl rfl rfl (want_none rfl _) (by kernel_rfl) (fun _ hS => r_ldpA (cs := [c217, c218]) ag69 sz69 rfl (fun j u hj => (Pins.of_le hS (Pin.le_trans hlek233 hx264.le)) _ _ _ (hb230 _ _ (by simpa using hj)))) hX712.pins ?_
              refine dr_take (i := 8) rfl rfl rfl (want_none rfl _) (by kernel_rfl) (fun _ _ => r_move (v := lv) rfl) hX712.pins ?_
              refine dr_take (i := 9) rfl rfl rfl (want_none rfl _) (by kernel_rfl) (fun _ _ => r_move (v := (.int .i64 (i : Int))) rfl) hX712.pins ?_
              obtain ⟨u723, hr724, hl725⟩ := name_slice hr211 (lo := (some ((i : Int)))) (hi := none) (i) (ls.length) (Or.inr ⟨_, rfl, (by omega), rfl⟩) (Or.inl ⟨rfl, rfl⟩) (by omega) (by omega)
              refine dr_take (i := 10) rfl rfl rfl (want_none rfl _) (by kernel_rfl) (fun _ _ => hl725 Tryd.underlying28 sz69 rfl rfl rfl) hX712.pins ?_
              refine dr_two (i := 0) (j := 6) (by kernel_rfl) ?_ ?_
              · skip
                refine (drOp1 (i := 0) rfl rfl rfl (want_none rfl _) (o_build0 (E := eNode) (e := 69) Tryd.underlying28 sz69 hX712.pins (fun u726 w727 ho728 hp729 hl730 hk731 => ?_)))
                have hX732 := hX712.step hp729 hl730
                have ho733 := ho713.below hl730
                have ho734 := ho714.below hl730
                have ho735 := ho715.below hl730
                have ho736 := ho716.below hl730
                have hb737 := hb717.below hl730
                have hb738 := hb718.below hl730
                have hb739 := hb719.below hl730
                have ha740 : Apart u726.ownBlock at_.ownBlock := new_ne_own hk731 ho713.lt
                have ha741 : Apart u726.ownBlock ov.ownBlock := new_ne_own hk731 ho714.lt
                have ha742 : Apart u726.ownBlock bu.ownBlock := new_ne_own hk731 ho715.lt
                have ha743 : Apart u726.ownBlock bv.ownBlock := new_ne_own hk731 ho716.lt
                have ha744 : Apart u726.ownBlock (some b) := new_ne_box hk731 hb717.lt
                have ha745 : Apart u726.ownBlock (some b1) := new_ne_box hk731 hb718.lt
                have ha746 : Apart u726.ownBlock (some b74) := new_ne_box hk731 hb719.lt
                have ho747 : Own eNode 69 G262 w727 w.heap.size u726 ([]) := ho728.weaken hX712.size
                refine ⟨fun _ => hX732.pins, ?_⟩
                refine dr_two (i := 4) (j := 6) (by kernel_rfl) ?_ ?_
                · skip
                  refine (drOp1 (i := 4) rfl rfl rfl (want_none rfl _) (o_append (E := eNode) (v := u726) (u := u720) 48 Tryd.underlying28 ap69 (by decide) rfl rfl hX732.pins ho747 ((hr721.mono (Pin.le_trans (Pin.le_trans hle232 hlek233) hx264.le)).src hX732.pins (by decide)) (by first | omega | (rw [List.nil_append]; omega) | (rw [List.length_nil]; omega) | (rw [List.length_append]; omega) | (simp; done) | (simp; omega)) (by first | omega | (rw [List.nil_append]; omega) | (rw [List.length_nil]; omega) | (rw [List.length_append]; omega) | (simp; done) | (simp; omega)) (hX732.size) (fun u748 w749 ho750 hp751 hg752 hw753 => ?_)))
                  have hX754 := hX732.write hp751 hg752 ((lo_own ho747))
                  have ho755 := ho733.keptA hg752 ha740.symm
                  have ho756 := ho734.keptA hg752 ha741.symm
                  have ho757 := ho735.keptA hg752 ha742.symm
                  have ho758 := ho736.keptA hg752 ha743.symm
                  have hb759 := hb737.keptA hg752 ha744.symm
                  have hb760 := hb738.keptA hg752 ha745.symm
                  have hb761 := hb739.keptA hg752 ha746.symm
                  have ha762 : Apart at_.ownBlock u748.ownBlock := app_ne_own ha740.symm hw753 ho733.lt
                  have ha763 : Apart ov.ownBlock u748.ownBlock := app_ne_own ha741.symm hw753 ho734.lt
                  have ha764 : Apart bu.ownBlock u748.ownBlock := app_ne_own ha742.symm hw753 ho735.lt
                  have ha765 : Apart bv.ownBlock u748.ownBlock := app_ne_own ha743.symm hw753 ho736.lt
                  have ha766 : Apart (some b) u748.ownBlock := app_ne_box ha744.symm hw753 hb737.lt
                  have ha767 : Apart (some b1) u748.ownBlock := app_ne_box ha745.symm hw753 hb738.lt
                  have ha768 : Apart (some b74) u748.ownBlock := app_ne_box ha746.symm hw753 hb739.lt
                  have hm769 : (([]) ++ ((ls.take i).drop 0)).length = ([]).length + ((ls.take i).drop 0).length := List.length_append
                  refine ⟨fun _ => hX754.pins, ?_⟩
                  refine dr_one (i := 6) (by kernel_rfl) (drOp1 (i := 6) rfl rfl rfl (want_none rfl _) (o_build1 (E := eNode) (e := 69) [c217, c218] (⟨sortL (atL ats ((ns.getD k5 default).l)), sortL (atL ats ((ns.getD k5 default).r))⟩ : Nd) Tryd.underlying28 sz69 zr69 ⟨_, _, rfl, (hr221.mono (Pin.le_trans hlek233 hx264.le)), (hr222.mono (Pin.le_trans hlek233 hx264.le))⟩ rfl (by decide) hX754.pins (fun u770 w771 ho772 hp773 hl774 hk775 => ?_)))
                  have hX776 := hX754.step hp773 hl774
                  have ho777 := ho755.below hl774
                  have ho778 := ho756.below hl774
                  have ho779 := ho757.below hl774
                  have ho780 := ho758.below hl774
                  have ho781 := ho750.below hl774
                  have hb782 := hb759.below hl774
                  have hb783 := hb760.below hl774
                  have hb784 := hb761.below hl774
                  have ha785 : Apart u770.ownBlock at_.ownBlock := new_ne_own hk775 ho755.lt
                  have ha786 : Apart u770.ownBlock ov.ownBlock := new_ne_own hk775 ho756.lt
                  have ha787 : Apart u770.ownBlock bu.ownBlock := new_ne_own hk775 ho757.lt
                  have ha788 : Apart u770.ownBlock bv.ownBlock := new_ne_own hk775 ho758.lt
                  have ha789 : Apart u770.ownBlock u748.ownBlock := new_ne_own hk775 ho750.lt
                  have ha790 : Apart u770.ownBlock (some b) := new_ne_box hk775 hb759.lt
                  have ha791 : Apart u770.ownBlock (some b1) := new_ne_box hk775 hb760.lt
                  have ha792 : Apart u770.ownBlock (some b74) := new_ne_box hk775 hb761.lt
                  have ho793 : Own eNode 69 G262 w771 w.heap.size u770 ([(⟨sortL (atL ats ((ns.getD k5 default).l)), sortL (atL ats ((ns.getD k5 default).r))⟩ : Nd)]) := ho772.weaken hX754.size
                  refine ⟨fun _ => hX776.pins, ?_⟩
                  refine dr_one (i := 7) (by kernel_rfl) (drOp1 (i := 7) rfl rfl rfl (want_none rfl _) (o_append (E := eNode) (v := u748) (u := u770) 48 Tryd.underlying28 ap69 (by decide) rfl rfl hX776.pins ho781 ho793.src (by first | omega | (rw [List.nil_append]; omega) | (rw [List.length_nil]; omega) | (rw [List.length_append]; omega) | (simp; done) | (simp; omega)) (by first | omega | (rw [List.nil_append]; omega) | (rw [List.length_nil]; omega) | (rw [List.length_append]; omega) | (simp; done) | (simp; omega)) (hX776.size) (fun u794 w795 ho796 hp797 hg798 hw799 => ?_)))
                  have hX800 := hX776.write hp797 hg798 ((lo_own ho781))
                  have ho801 := ho777.keptA hg798 ha762
                  have ho802 := ho778.keptA hg798 ha763
                  have ho803 := ho779.keptA hg798 ha764
                  have ho804 := ho780.keptA hg798 ha765
                  have ho805 := ho793.keptA hg798 ha789
                  have hb806 := hb782.keptA hg798 ha766
                  have hb807 := hb783.keptA hg798 ha767
                  have hb808 := hb784.keptA hg798 ha768
                  have ha809 : Apart at_.ownBlock u794.ownBlock := app_ne_own ha762 hw799 ho777.lt
                  have ha810 : Apart ov.ownBlock u794.ownBlock := app_ne_own ha763 hw799 ho778.lt
                  have ha811 : Apart bu.ownBlock u794.ownBlock := app_ne_own ha764 hw799 ho779.lt
                  have ha812 : Apart bv.ownBlock u794.ownBlock := app_ne_own ha765 hw799 ho780.lt
                  have ha813 : Apart u770.ownBlock u794.ownBlock := app_ne_own ha789 hw799 ho793.lt
                  have ha814 : Apart (some b) u794.ownBlock := app_ne_box ha766 hw799 hb782.lt
                  have ha815 : Apart (some b1) u794.ownBlock := app_ne_box ha767 hw799 hb783.lt
                  have ha816 : Apart (some b74) u794.ownBlock := app_ne_box ha768 hw799 hb784.lt
                  have hm817 : ((([]) ++ ((ls.take i).drop 0)) ++ ([(⟨sortL (atL ats ((ns.getD k5 default).l)), sortL (atL ats ((ns.getD k5 default).r))⟩ : Nd)])).length = (([]) ++ ((ls.take i).drop 0)).length + 1 := by simp
                  refine ⟨fun _ => hX800.pins, ?_⟩
                  refine dr_one (i := 11) (by kernel_rfl) (drOp1 (i := 11) rfl rfl rfl (want_none rfl _) (o_append (E := eNode) (v := u794) (u := u723) 48 Tryd.underlying28 ap69 (by decide) rfl rfl hX800.pins ho796 ((hr724.mono (Pin.le_trans (Pin.le_trans hle232 hlek233) hx264.le)).src hX800.pins (by decide)) (by first | omega | (rw [List.nil_append]; omega) | (rw [List.length_nil]; omega) | (rw [List.length_append]; omega) | (simp; done) | (simp; omega)) (by first | omega | (rw [List.nil_append]; omega) | (rw [List.length_nil]; omega) | (rw [List.length_append]; omega) | (simp; done) | (simp; omega)) (hX800.size) (fun u818 w819 ho820 hp821 hg822 hw823 => ?_)))
                  have hX824 := hX800.write hp821 hg822 ((lo_own ho796))
                  have ho825 := ho801.keptA hg822 ha809
                  have ho826 := ho802.keptA hg822 ha810
                  have ho827 := ho803.keptA hg822 ha811
                  have ho828 := ho804.keptA hg822 ha812
                  have hb829 := hb806.keptA hg822 ha814
                  have hb830 := hb807.keptA hg822 ha815
                  have hb831 := hb808.keptA hg822 ha816
                  have ha832 : Apart at_.ownBlock u818.ownBlock := app_ne_own ha809 hw823 ho801.lt
                  have ha833 : Apart ov.ownBlock u818.ownBlock := app_ne_own ha810 hw823 ho802.lt
                  have ha834 : Apart bu.ownBlock u818.ownBlock := app_ne_own ha811 hw823 ho803.lt
                  have ha835 : Apart bv.ownBlock u818.ownBlock := app_ne_own ha812 hw823 ho804.lt
                  have ha836 : Apart (some b) u818.ownBlock := app_ne_box ha814 hw823 hb806.lt
                  have ha837 : Apart (some b1) u818.ownBlock := app_ne_box ha815 hw823 hb807.lt
                  have ha838 : Apart (some b74) u818.ownBlock := app_ne_box ha816 hw823 hb808.lt
                  have hm839 : (((([]) ++ ((ls.take i).drop 0)) ++ ([(⟨sortL (atL ats ((ns.getD k5 default).l)), sortL (atL ats ((ns.getD k5 default).r))⟩ : Nd)])) ++ ((ls.take ls.length).drop i)).length = ((([]) ++ ((ls.take i).drop 0)) ++ ([(⟨sortL (atL ats ((ns.getD k5 default).l)), sortL (atL ats ((ns.getD k5 default).r))⟩ : Nd)])).length + ((ls.take ls.length).drop i).length := List.length_append
                  refine ⟨fun _ => hX824.pins, ?_⟩
                  refine dr_take (i := 12) rfl rfl rfl (want_none rfl _) (by kernel_rfl) (fun _ _ => r_assign (v := u818) rfl) hX824.pins ?_
                  refine dr_end (by kernel_rfl) ?_
                  exact cut_in ⟨_, u818, G262, (packS (x := 13) (packS (x := 11) (packS (x := 10) (packS (x := 9) (packS (x := 8) (packS (x := 7) (packS (x := 6) (packS (x := 5) (packS (x := 4) (packS (x := 1) (pack1 (x := 0) rfl) rfl) rfl) rfl) rfl) rfl) rfl) rfl) rfl) rfl) rfl), hX824, (Pin.le_refl _), ho825, ho826, ho827, ho828, ho820, hb829, hb830, hb831, ha832, ha833, ha834, ha835, ha836.symm, ha837.symm, ha838.symm⟩
                · skip
                  refine (drOp1 (i := 6) rfl rfl rfl (want_none rfl _) (o_build1 (E := eNode) (e := 69) [c217, c218] (⟨sortL (atL ats ((ns.getD k5 default).l)), sortL (atL ats ((ns.getD k5 default).r))⟩ : Nd) Tryd.underlying28 sz69 zr69 ⟨_, _, rfl, (hr221.mono (Pin.le_trans hlek233 hx264.le)), (hr222.mono (Pin.le_trans hlek233 hx264.le))⟩ rfl (by decide) hX732.pins (fun u840 w841 ho842 hp843 hl844 hk845 => ?_)))
                  have hX846 := hX732.step hp843 hl844
                  have ho847 := ho733.below hl844
                  have ho848 := ho734.below hl844
                  have ho849 := ho735.below hl844
                  have ho850 := ho736.below hl844
                  have ho851 := ho747.below hl844
                  have hb852 := hb737.below hl844
                  have hb853 := hb738.below hl844
                  have hb854 := hb739.below hl844
                  have ha855 : Apart u840.ownBlock at_.ownBlock := new_ne_own hk845 ho733.lt
                  have ha856 : Apart u840.ownBlock ov.ownBlock := new_ne_own hk845 ho734.lt
                  have ha857 : Apart u840.ownBlock bu.ownBlock := new_ne_own hk845 ho735.lt
                  have ha858 : Apart u840.ownBlock bv.ownBlock := new_ne_own hk845 ho736.lt
                  have ha859 : Apart u840.ownBlock u726.ownBlock := new_ne_own hk845 ho747.lt
                  have ha860 : Apart u840.ownBlock (some b) := new_ne_box hk845 hb737.lt
                  have ha861 : Apart u840.ownBlock (some b1) := new_ne_box hk845 hb738.lt
                  have ha862 : Apart u840.ownBlock (some b74) := new_ne_box hk845 hb739.lt
                  have ho863 : Own eNode 69 G262 w841 w.heap.size u840 ([(⟨sortL (atL ats ((ns.getD k5 default).l)), sortL (atL ats ((ns.getD k5 default).r))⟩ : Nd)]) := ho842.weaken hX732.size
                  refine ⟨fun _ => hX846.pins, ?_⟩
                  refine dr_one (i := 4) (by kernel_rfl) (drOp1 (i := 4) rfl rfl rfl (want_none rfl _) (o_append (E := eNode) (v := u726) (u := u720) 48 Tryd.underlying28 ap69 (by decide) rfl rfl hX846.pins ho851 ((hr721.mono (Pin.le_trans (Pin.le_trans hle232 hlek233) hx264.le)).src hX846.pins (by decide)) (by first | omega | (rw [List.nil_append]; omega) | (rw [List.length_nil]; omega) | (rw [List.length_append]; omega) | (simp; done) | (simp; omega)) (by first | omega | (rw [List.nil_append]; omega) | (rw [List.length_nil]; omega) | (rw [List.length_append]; omega) | (simp; done) | (simp; omega)) (hX846.size) (fun u864 w865 ho866 hp867 hg868 hw869 => ?_)))
                  have hX870 := hX846.write hp867 hg868 ((lo_own ho851))
                  have ho871 := ho847.keptA hg868 ha740.symm
                  have ho872 := ho848.keptA hg868 ha741.symm
                  have ho873 := ho849.keptA hg868 ha742.symm
                  have ho874 := ho850.keptA hg868 ha743.symm
                  have ho875 := ho863.keptA hg868 ha859
                  have hb876 := hb852.keptA hg868 ha744.symm
                  have hb877 := hb853.keptA hg868 ha745.symm
                  have hb878 := hb854.keptA hg868 ha746.symm
                  have ha879 : Apart at_.ownBlock u864.ownBlock := app_ne_own ha740.symm hw869 ho847.lt
                  have ha880 : Apart ov.ownBlock u864.ownBlock := app_ne_own ha741.symm hw869 ho848.lt
                  have ha881 : Apart bu.ownBlock u864.ownBlock := app_ne_own ha742.symm hw869 ho849.lt
                  have ha882 : Apart bv.ownBlock u864.ownBlock := app_ne_own ha743.symm hw869 ho850.lt
                  have ha883 : Apart u840.ownBlock u864.ownBlock := app_ne_own ha859 hw869 ho863.lt
                  have ha884 : Apart (some b) u864.ownBlock := app_ne_box ha744.symm hw869 hb852.lt
                  have ha885 : Apart (some b1) u864.ownBlock := app_ne_box ha745.symm hw869 hb853.lt
                  have ha886 : Apart (some b74) u864.ownBlock := app_ne_box ha746.symm hw869 hb854.lt
                  have hm887 : (([]) ++ ((ls.take i).drop 0)).length = ([]).length + ((ls.take i).drop 0).length := List.length_append
                  refine ⟨fun _ => hX870.pins, ?_⟩
                  refine dr_one (i := 7) (by kernel_rfl) (drOp1 (i := 7) rfl rfl rfl (want_none rfl _) (o_append (E := eNode) (v := u864) (u := u840) 48 Tryd.underlying28 ap69 (by decide) rfl rfl hX870.pins ho866 ho875.src (by first | omega | (rw [List.nil_append]; omega) | (rw [List.length_nil]; omega) | (rw [List.length_append]; omega) | (simp; done) | (simp; omega)) (by first | omega | (rw [List.nil_append]; omega) | (rw [List.length_nil]; omega) | (rw [List.length_append]; omega) | (simp; done) | (simp; omega)) (hX870.size) (fun u888 w889 ho890 hp891 hg892 hw893 => ?_)))
                  have hX894 := hX870.write hp891 hg892 ((lo_own ho866))
                  have ho895 := ho871.keptA hg892 ha879
                  have ho896 := ho872.keptA hg892 ha880
                  have ho897 := ho873.keptA hg892 ha881
                  have ho898 := ho874.keptA hg892 ha882
                  have ho899 := ho875.keptA hg892 ha883
                  have hb900 := hb876.keptA hg892 ha884
                  have hb901 := hb877.keptA hg892 ha885
                  have hb902 := hb878.keptA hg892 ha886
                  have ha903 : Apart at_.ownBlock u888.ownBlock := app_ne_own ha879 hw893 ho871.lt
                  have ha904 : Apart ov.ownBlock u888.ownBlock := app_ne_own ha880 hw893 ho872.lt
                  have ha905 : Apart bu.ownBlock u888.ownBlock := app_ne_own ha881 hw893 ho873.lt
                  have ha906 : Apart bv.ownBlock u888.ownBlock := app_ne_own ha882 hw893 ho874.lt
                  have ha907 : Apart u840.ownBlock u888.ownBlock := app_ne_own ha883 hw893 ho875.lt
                  have ha908 : Apart (some b) u888.ownBlock := app_ne_box ha884 hw893 hb876.lt
                  have ha909 : Apart (some b1) u888.ownBlock := app_ne_box ha885 hw893 hb877.lt
                  have ha910 : Apart (some b74) u888.ownBlock := app_ne_box ha886 hw893 hb878.lt
                  have hm911 : ((([]) ++ ((ls.take i).drop 0)) ++ ([(⟨sortL (atL ats ((ns.getD k5 default).l)), sortL (atL ats ((ns.getD k5 default).r))⟩ : Nd)])).length = (([]) ++ ((ls.take i).drop 0)).length + 1 := by simp
                  refine ⟨fun _ => hX894.pins, ?_⟩
                  refine dr_one (i := 11) (by kernel_rfl) (drOp1 (i := 11) rfl rfl rfl (want_none rfl _) (o_append (E := eNode) (v := u888) (u := u723) 48 Tryd.underlying28 ap69 (by decide) rfl rfl hX894.pins ho890 ((hr724.mono (Pin.le_trans (Pin.le_trans hle232 hlek233) hx264.le)).src hX894.pins (by decide)) (by first | omega | (rw [List.nil_append]; omega) | (rw [List.length_nil]; omega) | (rw [List.length_append]; omega) | (simp; done) | (simp; omega)) (by first | omega | (rw [List.nil_append]; omega) | (rw [List.length_nil]; omega) | (rw [List.length_append]; omega) | (simp; done) | (simp; omega)) (hX894.size) (fun u912 w913 ho914 hp915 hg916 hw917 => ?_)))
                  have hX918 := hX894.write hp915 hg916 ((lo_own ho890))
                  have ho919 := ho895.keptA hg916 ha903
                  have ho920 := ho896.keptA hg916 ha904
                  have ho921 := ho897.keptA hg916 ha905
                  have ho922 := ho898.keptA hg916 ha906
                  have hb923 := hb900.keptA hg916 ha908
                  have hb924 := hb901.keptA hg916 ha909
                  have hb925 := hb902.keptA hg916 ha910
                  have ha926 : Apart at_.ownBlock u912.ownBlock := app_ne_own ha903 hw917 ho895.lt
                  have ha927 : Apart ov.ownBlock u912.ownBlock := app_ne_own ha904 hw917 ho896.lt
                  have ha928 : Apart bu.ownBlock u912.ownBlock := app_ne_own ha905 hw917 ho897.lt
                  have ha929 : Apart bv.ownBlock u912.ownBlock := app_ne_own ha906 hw917 ho898.lt
                  have ha930 : Apart (some b) u912.ownBlock := app_ne_box ha908 hw917 hb900.lt
                  have ha931 : Apart (some b1) u912.ownBlock := app_ne_box ha909 hw917 hb901.lt
                  have ha932 : Apart (some b74) u912.ownBlock := app_ne_box ha910 hw917 hb902.lt
                  have hm933 : (((([]) ++ ((ls.take i).drop 0)) ++ ([(⟨sortL (atL ats ((ns.getD k5 default).l)), sortL (atL ats ((ns.getD k5 default).r))⟩ : Nd)])) ++ ((ls.take ls.length).drop i)).length = ((([]) ++ ((ls.take i).drop 0)) ++ ([(⟨sortL (atL ats ((ns.getD k5 default).l)), sortL (atL ats ((ns.getD k5 default).r))⟩ : Nd)])).length + ((ls.take ls.length).drop i).length := List.length_append
                  refine ⟨fun _ => hX918.pins, ?_⟩
                  refine dr_take (i := 12) rfl rfl rfl (want_none rfl _) (by kernel_rfl) (fun _ _ => r_assign (v := u912) rfl) hX918.pins ?_
                  refine dr_end (by kernel_rfl) ?_
                  exact cut_in ⟨_, u912, G262, (packS (x := 13) (packS (x := 11) (packS (x := 10) (packS (x := 9) (packS (x := 8) (packS (x := 7) (packS (x := 6) (packS (x := 5) (packS (x := 4) (packS (x := 1) (pack1 (x := 0) rfl) rfl) rfl) rfl) rfl) rfl) rfl) rfl) rfl) rfl) rfl), hX918, (Pin.le_refl _), ho919, ho920, ho921, ho922, ho914, hb923, hb924, hb925, ha926, ha927, ha928, ha929, ha930.symm, ha931.symm, ha932.symm⟩
              · skip
                refine (drOp1 (i := 6) rfl rfl rfl (want_none rfl _) (o_build1 (E := eNode) (e := 69) [c217, c218] (⟨sortL (atL ats ((ns.getD k5 default).l)), sortL (atL ats ((ns.getD k5 default).r))⟩ : Nd) Tryd.underlying28 sz69 zr69 ⟨_, _, rfl, (hr221.mono (Pin.le_trans hlek233 hx264.le)), (hr222.mono (Pin.le_trans hlek233 hx264.le))⟩ rfl (by decide) hX712.pins (fun u934 w935 ho936 hp937 hl938 hk939 => ?_)))
                have hX940 := hX712.step hp937 hl938
                have ho941 := ho713.below hl938
                have ho942 := ho714.below hl938
                have ho943 := ho715.below hl938
                have ho944 := ho716.below hl938
                have hb945 := hb717.below hl938
                have hb946 := hb718.below hl938
                have hb947 := hb719.below hl938
                have ha948 : Apart u934.ownBlock at_.ownBlock := new_ne_own hk939 ho713.lt
                have ha949 : Apart u934.ownBlock ov.ownBlock := new_ne_own hk939 ho714.lt
                have ha950 : Apart u934.ownBlock bu.ownBlock := new_ne_own hk939 ho715.lt
                have ha951 : Apart u934.ownBlock bv.ownBlock := new_ne_own hk939 ho716.lt
                have ha952 : Apart u934.ownBlock (some b) := new_ne_box hk939 hb717.lt
                have ha953 : Apart u934.ownBlock (some b1) := new_ne_box hk939 hb718.lt
                have ha954 : Apart u934.ownBlock (some b74) := new_ne_box hk939 hb719.lt
                have ho955 : Own eNode 69 G262 w935 w.heap.size u934 ([(⟨sortL (atL ats ((ns.getD k5 default).l)), sortL (atL ats ((ns.getD k5 default).r))⟩ : Nd)]) := ho936.weaken hX712.size
                refine ⟨fun _ => hX940.pins, ?_⟩
                refine dr_one (i := 0) (by kernel_rfl) (drOp1 (i := 0) rfl rfl rfl (want_none rfl _) (o_build0 (E := eNode) (e := 69) Tryd.underlying28 sz69 hX940.pins (fun u956 w957 ho958 hp959 hl960 hk961 => ?_)))
                have hX962 := hX940.step hp959 hl960
                have ho963 := ho941.below hl960
                have ho964 := ho942.below hl960
                have ho965 := ho943.below hl960
                have ho966 := ho944.below hl960
                have ho967 := ho955.below hl960
                have hb968 := hb945.below hl960
                have hb969 := hb946.below hl960
                have hb970 := hb947.below hl960
                have ha971 : Apart u956.ownBlock at_.ownBlock := new_ne_own hk961 ho941.lt
                have ha972 : Apart u956.ownBlock ov.ownBlock := new_ne_own hk961 ho942.lt
                have ha973 : Apart u956.ownBlock bu.ownBlock := new_ne_own hk961 ho943.lt
                have ha974 : Apart u956.ownBlock bv.ownBlock := new_ne_own hk961 ho944.lt
                have ha975 : Apart u956.ownBlock u934.ownBlock := new_ne_own hk961 ho955.lt
                have ha976 : Apart u956.ownBlock (some b) := new_ne_box hk961 hb945.lt
                have ha977 : Apart u956.ownBlock (some b1) := new_ne_box hk961 hb946.lt
                have ha978 : Apart u956.ownBlock (some b74) := new_ne_box hk961 hb947.lt
                have ho979 : Own eNode 69 G262 w957 w.heap.size u956 ([]) := ho958.weaken hX940.size
                refine ⟨fun _ => hX962.pins, ?_⟩
                refine dr_one (i := 4) (by kernel_rfl) (drOp1 (i := 4) rfl rfl rfl (want_none rfl _) (o_append (E := eNode) (v := u956) (u := u720) 48 Tryd.underlying28 ap69 (by decide) rfl rfl hX962.pins ho979 ((hr721.mono (Pin.le_trans (Pin.le_trans hle232 hlek233) hx264.le)).src hX962.pins (by decide)) (by first | omega | (rw [List.nil_append]; omega) | (rw [List.length_nil]; omega) | (rw [List.length_append]; omega) | (simp; done) | (simp; omega)) (by first | omega | (rw [List.nil_append]; omega) | (rw [List.length_nil]; omega) | (rw [List.length_append]; omega) | (simp; done) | (simp; omega)) (hX962.size) (fun u980 w981 ho982 hp983 hg984 hw985 => ?_)))
                have hX986 := hX962.write hp983 hg984 ((lo_own ho979))
                have ho987 := ho963.keptA hg984 ha971.symm
                have ho988 := ho964.keptA hg984 ha972.symm
                have ho989 := ho965.keptA hg984 ha973.symm
                have ho990 := ho966.keptA hg984 ha974.symm
                have ho991 := ho967.keptA hg984 ha975.symm
                have hb992 := hb968.keptA hg984 ha976.symm
                have hb993 := hb969.keptA hg984 ha977.symm
                have hb994 := hb970.keptA hg984 ha978.symm
                have ha995 : Apart at_.ownBlock u980.ownBlock := app_ne_own ha971.symm hw985 ho963.lt
                have ha996 : Apart ov.ownBlock u980.ownBlock := app_ne_own ha972.symm hw985 ho964.lt
                have ha997 : Apart bu.ownBlock u980.ownBlock := app_ne_own ha973.symm hw985 ho965.lt
                have ha998 : Apart bv.ownBlock u980.ownBlock := app_ne_own ha974.symm hw985 ho966.lt
                have ha999 : Apart u934.ownBlock u980.ownBlock := app_ne_own ha975.symm hw985 ho967.lt
                have ha1000 : Apart (some b) u980.ownBlock := app_ne_box ha976.symm hw985 hb968.lt
                have ha1001 : Apart (some b1) u980.ownBlock := app_ne_box ha977.symm hw985 hb969.lt
                have ha1002 : Apart (some b74) u980.ownBlock := app_ne_box ha978.symm hw985 hb970.lt
                have hm1003 : (([]) ++ ((ls.take i).drop 0)).length = ([]).length + ((ls.take i).drop 0).length := List.length_append
                refine ⟨fun _ => hX986.pins, ?_⟩
                refine dr_one (i := 7) (by kernel_rfl) (drOp1 (i := 7) rfl rfl rfl (want_none rfl _) (o_append (E := eNode) (v := u980) (u := u934) 48 Tryd.underlying28 ap69 (by decide) rfl rfl hX986.pins ho982 ho991.src (by first | omega | (rw [List.nil_append]; omega) | (rw [List.length_nil]; omega) | (rw [List.length_append]; omega) | (simp; done) | (simp; omega)) (by first | omega | (rw [List.nil_append]; omega) | (rw [List.length_nil]; omega) | (rw [List.length_append]; omega) | (simp; done) | (simp; omega)) (hX986.size) (fun u1004 w1005 ho1006 hp1007 hg1008 hw1009 => ?_)))
                have hX1010 := hX986.write hp1007 hg1008 ((lo_own ho982))
                have ho1011 := ho987.keptA hg1008 ha995
                have ho1012 := ho988.keptA hg1008 ha996
                have ho1013 := ho989.keptA hg1008 ha997
                have ho1014 := ho990.keptA hg1008 ha998
                have ho1015 := ho991.keptA hg1008 ha999
                have hb1016 := hb992.keptA hg1008 ha1000
                have hb1017 := hb993.keptA hg1008 ha1001
                have hb1018 := hb994.keptA hg1008 ha1002
                have ha1019 : Apart at_.ownBlock u1004.ownBlock := app_ne_own ha995 hw1009 ho987.lt
                have ha1020 : Apart ov.ownBlock u1004.ownBlock := app_ne_own ha996 hw1009 ho988.lt
                have ha1021 : Apart bu.ownBlock u1004.ownBlock := app_ne_own ha997 hw1009 ho989.lt
                have ha1022 : Apart bv.ownBlock u1004.ownBlock := app_ne_own ha998 hw1009 ho990.lt
                have ha1023 : Apart u934.ownBlock u1004.ownBlock := app_ne_own ha999 hw1009 ho991.lt
                have ha1024 : Apart (some b) u1004.ownBlock := app_ne_box ha1000 hw1009 hb992.lt
                have ha1025 : Apart (some b1) u1004.ownBlock := app_ne_box ha1001 hw1009 hb993.lt
                have ha1026 : Apart (some b74) u1004.ownBlock := app_ne_box ha1002 hw1009 hb994.lt
                have hm1027 : ((([]) ++ ((ls.take i).drop 0)) ++ ([(⟨sortL (atL ats ((ns.getD k5 default).l)), sortL (atL ats ((ns.getD k5 default).r))⟩ : Nd)])).length = (([]) ++ ((ls.take i).drop 0)).length + 1 := by simp
                refine ⟨fun _ => hX1010.pins, ?_⟩
                refine dr_one (i := 11) (by kernel_rfl) (drOp1 (i := 11) rfl rfl rfl (want_none rfl _) (o_append (E := eNode) (v := u1004) (u := u723) 48 Tryd.underlying28 ap69 (by decide) rfl rfl hX1010.pins ho1006 ((hr724.mono (Pin.le_trans (Pin.le_trans hle232 hlek233) hx264.le)).src hX1010.pins (by decide)) (by first | omega | (rw [List.nil_append]; omega) | (rw [List.length_nil]; omega) | (rw [List.length_append]; omega) | (simp; done) | (simp; omega)) (by first | omega | (rw [List.nil_append]; omega) | (rw [List.length_nil]; omega) | (rw [List.length_append]; omega) | (simp; done) | (simp; omega)) (hX1010.size) (fun u1028 w1029 ho1030 hp1031 hg1032 hw1033 => ?_)))
                have hX1034 := hX1010.write hp1031 hg1032 ((lo_own ho1006))
                have ho1035 := ho1011.keptA hg1032 ha1019
                have ho1036 := ho1012.keptA hg1032 ha1020
                have ho1037 := ho1013.keptA hg1032 ha1021
                have ho1038 := ho1014.keptA hg1032 ha1022
                have hb1039 := hb1016.keptA hg1032 ha1024
                have hb1040 := hb1017.keptA hg1032 ha1025
                have hb1041 := hb1018.keptA hg1032 ha1026
                have ha1042 : Apart at_.ownBlock u1028.ownBlock := app_ne_own ha1019 hw1033 ho1011.lt
                have ha1043 : Apart ov.ownBlock u1028.ownBlock := app_ne_own ha1020 hw1033 ho1012.lt
                have ha1044 : Apart bu.ownBlock u1028.ownBlock := app_ne_own ha1021 hw1033 ho1013.lt
                have ha1045 : Apart bv.ownBlock u1028.ownBlock := app_ne_own ha1022 hw1033 ho1014.lt
                have ha1046 : Apart (some b) u1028.ownBlock := app_ne_box ha1024 hw1033 hb1016.lt
                have ha1047 : Apart (some b1) u1028.ownBlock := app_ne_box ha1025 hw1033 hb1017.lt
                have ha1048 : Apart (some b74) u1028.ownBlock := app_ne_box ha1026 hw1033 hb1018.lt
                have hm1049 : (((([]) ++ ((ls.take i).drop 0)) ++ ([(⟨sortL (atL ats ((ns.getD k5 default).l)), sortL (atL ats ((ns.getD k5 default).r))⟩ : Nd)])) ++ ((ls.take ls.length).drop i)).length = ((([]) ++ ((ls.take i).drop 0)) ++ ([(⟨sortL (atL ats ((ns.getD k5 default).l)), sortL (atL ats ((ns.getD k5 default).r))⟩ : Nd)])).length + ((ls.take ls.length).drop i).length := List.length_append
                refine ⟨fun _ => hX1034.pins, ?_⟩
                refine dr_take (i := 12) rfl rfl rfl (want_none rfl _) (by kernel_rfl) (fun _ _ => r_assign (v := u1028) rfl) hX1034.pins ?_
                refine dr_end (by kernel_rfl) ?_
                exact cut_in ⟨_, u1028, G262, (packS (x := 13) (packS (x := 11) (packS (x := 10) (packS (x := 9) (packS (x := 8) (packS (x := 7) (packS (x := 6) (packS (x := 5) (packS (x := 4) (packS (x := 1) (pack1 (x := 0) rfl) rfl) rfl) rfl) rfl) rfl) rfl) rfl) rfl) rfl) rfl), hX1034, (Pin.le_refl _), ho1035, ho1036, ho1037, ho1038, ho1030, hb1039, hb1040, hb1041, ha1042, ha1043, ha1044, ha1045, ha1046.symm, ha1047.symm, ha1048.symm⟩
          refine dr_skip (i := 5) rfl rfl (want_no rfl rfl rfl rfl rfl) (by kernel_rfl) hX246.pins ?_
          refine dr_skip (i := 6) rfl rfl (want_no rfl rfl rfl rfl rfl) (by kernel_rfl) hX246.pins ?_
          refine dr_skip (i := 7) rfl rfl (want_no rfl rfl rfl rfl rfl) (by kernel_rfl) hX246.pins ?_
          refine dr_skip (i := 8) rfl rfl (want_no rfl rfl rfl rfl rfl) (by kernel_rfl) hX246.pins ?_
          refine dr_skip (i := 9) rfl rfl (want_no rfl rfl rfl rfl rfl) (by kernel_rfl) hX246.pins ?_
          refine dr_skip (i := 10) rfl rfl (want_no rfl rfl rfl rfl rfl) (by kernel_rfl) hX246.pins ?_
          refine dr_take (i := 11) rfl rfl rfl (want_none rfl _) (by kernel_rfl) (fun _ _ => r_pickF (v := (.bool false)) rfl rfl) hX246.pins ?_
          refine dr_end (by kernel_rfl) ?_
          refine s_then ?_
          refine c_ifF rfl rfl ?_
          refine wp_exit ?_
          refine s_thenE ?_
          refine s_lopE ?_
          refine s_blkE ?_
          refine s_then ?_
          refine s_seq ?_
          have hpe : posM ls (ndAt ats (ns.getD k5 default)) = i := pos_end (by omega) hpp
          refine c_cut (fun (en : Nat → Value) (W : World) => ∃ (env1 : Nat → Value) (c1050 : Value) (G1051 : Pin), en = (upd (upd (upd (upd (upd (upd (upd (upd (upd (upd (upd env1 0 (.pointer (some ⟨b, 0, none⟩))) 1 (.int .i64 m)) 4 (.pointer (some ⟨b1, 0, none⟩))) 5 u15) 6 at_) 7 (.pointer (some ⟨b74, 0, none⟩))) 8 (.int .i64 (q : Int))) 9 c1050) 10 fv) 11 (.int .i64 (k5 : Int))) 13 (.int .i64 (i : Int))) ∧ Ext noS G w G1051 W ∧ Pin.le GL3 G1051 ∧ (Own eInt 3 G1051 W w.heap.size at_ ats) ∧ (Own eNode 69 G1051 W w.heap.size ov outs) ∧ (Own eNode 69 G1051 W 0 bu ns) ∧ (Own eInt 3 G1051 W 0 bv bs) ∧ (Own eNode 69 G1051 W w.heap.size c1050 (((([]) ++ ((ls.take i).drop 0)) ++ ([(⟨sortL (atL ats ((ns.getD k5 default).l)), sortL (atL ats ((ns.getD k5 default).r))⟩ : Nd)])) ++ ((ls.take ls.length).drop i))) ∧ (Bx G1051 W b [bu, bv]) ∧ (Bx G1051 W b1 [(.slice none 0 0)]) ∧ (Bx G1051 W b74 [ov]) ∧ (Apart at_.ownBlock c1050.ownBlock) ∧ (Apart ov.ownBlock c1050.ownBlock) ∧ (Apart bu.ownBlock c1050.ownBlock) ∧ (Apart bv.ownBlock c1050.ownBlock) ∧ (Apart c1050.ownBlock (some b)) ∧ (Apart c1050.ownBlock (some b1)) ∧ (Apart c1050.ownBlock (some b74))) ?_ ?_
          · rintro _ w1052 ⟨env1, c1050, G1051, rfl, hX1068, hle1069, ho1053, ho1054, ho1055, ho1056, ho1057, hb1058, hb1059, hb1060, ha1061, ha1062, ha1063, ha1064, ha1065, ha1066, ha1067⟩
            refine s_then ?_
            refine c_cut (fun (en : Nat → Value) (W : World) => ∃ (env1 : Nat → Value) (c1070 : Value) (G1071 : Pin), en = (upd (upd (upd (upd (upd (upd (upd (upd (upd (upd env1 0 (.pointer (some ⟨b, 0, none⟩))) 1 (.int .i64 m)) 4 (.pointer (some ⟨b1, 0, none⟩))) 5 u15) 6 at_) 7 (.pointer (some ⟨b74, 0, none⟩))) 8 (.int .i64 (q : Int))) 9 c1050) 10 c1070) 11 (.int .i64 (k5 : Int))) ∧ Ext noS G w G1071 W ∧ Pin.le G1051 G1071 ∧ (Own eInt 3 G1071 W w.heap.size at_ ats) ∧ (Own eNode 69 G1071 W w.heap.size ov outs) ∧ (Own eNode 69 G1071 W 0 bu ns) ∧ (Own eInt 3 G1071 W 0 bv bs) ∧ (Own eNode 69 G1071 W w.heap.size c1050 (((([]) ++ ((ls.take i).drop 0)) ++ ([(⟨sortL (atL ats ((ns.getD k5 default).l)), sortL (atL ats ((ns.getD k5 default).r))⟩ : Nd)])) ++ ((ls.take ls.length).drop i))) ∧ (Own eInt 3 G1071 W w.heap.size c1070 (((([]) ++ ((fr.take i).drop 0)) ++ ([(k5 : Int)])) ++ ((fr.take fr.length).drop i))) ∧ (Bx G1071 W b [bu, bv]) ∧ (Bx G1071 W b1 [(.slice none 0 0)]) ∧ (Bx G1071 W b74 [ov]) ∧ (Apart at_.ownBlock c1070.ownBlock) ∧ (Apart ov.ownBlock c1070.ownBlock) ∧ (Apart bu.ownBlock c1070.ownBlock) ∧ (Apart bv.ownBlock c1070.ownBlock) ∧ (Apart c1050.ownBlock c1070.ownBlock) ∧ (Apart c1070.ownBlock (some b)) ∧ (Apart c1070.ownBlock (some b1)) ∧ (Apart c1070.ownBlock (some b74))) ?_ ?_
            · rintro _ w1072 ⟨env1, c1070, G1071, rfl, hX1090, hle1091, ho1073, ho1074, ho1075, ho1076, ho1077, ho1078, hb1079, hb1080, hb1081, ha1082, ha1083, ha1084, ha1085, ha1086, ha1087, ha1088, ha1089⟩
              refine s_blkN ?_
              refine s_then ?_
              refine c_reg ?_
              refine qd rfl rfl rfl (r_move (v := (.int .i64 (k5 : Int))) rfl) ?_
              refine qd rfl rfl rfl (r_add rfl rfl (by omega)) ?_
              refine qd rfl rfl rfl (r_assign (v := (.int .i64 ((k5 : Int) + 1))) rfl) ?_
              refine qe ?_
              refine s_lopN ?_
              obtain ⟨G1092, hle1095, hX1094, hr1093, hf1096⟩ := ho1077.sealed hX1090
              have ho1097 := ho1073.moreO hle1095 hf1096 ha1061
              have ho1098 := ho1074.moreO hle1095 hf1096 ha1062
              have ho1099 := ho1075.moreO hle1095 hf1096 ha1063
              have ho1100 := ho1076.moreO hle1095 hf1096 ha1064
              have ho1101 := ho1078.moreO hle1095 hf1096 ha1086.symm
              have hb1102 := hb1079.moreO hf1096 ha1065.symm
              have hb1103 := hb1080.moreO hf1096 ha1066.symm
              have hb1104 := hb1081.moreO hf1096 ha1067.symm
              obtain ⟨G1105, hle1108, hX1107, hr1106, hf1109⟩ := ho1101.sealed hX1094
              have ho1110 := ho1097.moreO hle1108 hf1109 ha1082
              have ho1111 := ho1098.moreO hle1108 hf1109 ha1083
              have ho1112 := ho1099.moreO hle1108 hf1109 ha1084
              have ho1113 := ho1100.moreO hle1108 hf1109 ha1085
              have hb1114 := hb1102.moreO hf1109 ha1087.symm
              have hb1115 := hb1103.moreO hf1109 ha1088.symm
              have hb1116 := hb1104.moreO hf1109 ha1089.symm
              have hi1 := ins_len (x := ndAt ats (ns.getD k5 default)) (l := ls) (i := i) (by omega)
              have hi2 := ins_len (x := (k5 : Int)) (l := fr) (i := i) (by omega)
              refine ⟨_, ?_, _, rfl, _, k5 + 1, c1050, ((([]) ++ ((ls.take i).drop 0)) ++ ([(⟨sortL (atL ats ((ns.getD k5 default).l)), sortL (atL ats ((ns.getD k5 default).r))⟩ : Nd)])) ++ ((ls.take ls.length).drop i), c1070, ((([]) ++ ((fr.take i).drop 0)) ++ ([(k5 : Int)])) ++ ((fr.take fr.length).drop i), G1105, (packS (x := 11) (packS (x := 10) (packS (x := 9) (packS (x := 8) (packS (x := 7) (packS (x := 6) (packS (x := 5) (packS (x := 4) (packS (x := 1) (pack1 (x := 0) rfl) rfl) rfl) rfl) rfl) rfl) rfl) rfl) rfl) rfl), rfl, hX1107, (Pin.le_trans (Pin.le_trans (Pin.le_trans (Pin.le_trans (Pin.le_trans (Pin.le_trans hlek175 hle232) hlek233) hle1069) hle1091) hle1095) hle1108), (by omega), (lv_ins hrl h214 (by omega) hpe), ⟨hi1.trans ((congrArg (· + 1) hll.1).trans hi2.symm), (by have : _ = _ := hi1; exact Nat.le_trans (Nat.le_of_eq hi1) (by omega))⟩, (ins_all (P := fun x => 0 ≤ x ∧ x ≤ m) hfb (by omega)), ho1110, ho1111, ho1112, ho1113, hb1114, hb1115, hb1116, (hr1093.mono hle1108), hr1106⟩
              omega
            · skip
              refine c_draw (S := fun wz => Pins G1051 wz) (last := 13) (by kernel_rfl) rfl ?_
              have hl1117 : Below w1052.heap.size w1052 w1052.drew := (Below.refl _ _).drew
              have hp1118 := hX1068.pins.below hl1117
              have hX1119 := hX1068.step hp1118 hl1117
              have ho1120 := ho1053.below hl1117
              have ho1121 := ho1054.below hl1117
              have ho1122 := ho1055.below hl1117
              have ho1123 := ho1056.below hl1117
              have ho1124 := ho1057.below hl1117
              have hb1125 := hb1058.below hl1117
              have hb1126 := hb1059.below hl1117
              have hb1127 := hb1060.below hl1117
              refine dr_take (i := 1) rfl rfl rfl (want_none rfl _) (by kernel_rfl) (fun _ _ => r_move (v := fv) rfl) hX1119.pins ?_
              refine dr_take (i := 2) rfl rfl rfl (want_none rfl _) (by kernel_rfl) (fun _ _ => r_move (v := (.int .i64 (i : Int))) rfl) hX1119.pins ?_
              obtain ⟨u1128, hr1129, hl1130⟩ := name_slice hr212 (lo := none) (hi := (some ((i : Int)))) (0) (i) (Or.inl ⟨rfl, rfl⟩) (Or.inr ⟨_, rfl, (by omega), rfl⟩) (by omega) (by omega)
              refine dr_take (i := 3) rfl rfl rfl (want_none rfl _) (by kernel_rfl) (fun _ _ => hl1130 Tryd.underlying38 sz3 rfl rfl rfl) hX1119.pins ?_
              refine dr_take (i := 5) rfl rfl rfl (want_none rfl _) (by kernel_rfl) (fun _ _ => r_move (v := (.int .i64 (k5 : Int))) rfl) hX1119.pins ?_
              refine dr_take (i := 8) rfl rfl rfl (want_none rfl _) (by kernel_rfl) (fun _ _ => r_move (v := fv) rfl) hX1119.pins ?_
              refine dr_take (i := 9) rfl rfl rfl (want_none rfl _) (by kernel_rfl) (fun _ _ => r_move (v := (.int .i64 (i : Int))) rfl) hX1119.pins ?_
              obtain ⟨u1131, hr1132, hl1133⟩ := name_slice hr212 (lo := (some ((i : Int)))) (hi := none) (i) (fr.length) (Or.inr ⟨_, rfl, (by omega), rfl⟩) (Or.inl ⟨rfl, rfl⟩) (by omega) (by omega)
              refine dr_take (i := 10) rfl rfl rfl (want_none rfl _) (by kernel_rfl) (fun _ _ => hl1133 Tryd.underlying38 sz3 rfl rfl rfl) hX1119.pins ?_
              refine dr_two (i := 0) (j := 6) (by kernel_rfl) ?_ ?_
              · skip
                refine (drOp1 (i := 0) rfl rfl rfl (want_none rfl _) (o_build0 (E := eInt) (e := 3) Tryd.underlying38 sz3 hX1119.pins (fun u1134 w1135 ho1136 hp1137 hl1138 hk1139 => ?_)))
                have hX1140 := hX1119.step hp1137 hl1138
                have ho1141 := ho1120.below hl1138
                have ho1142 := ho1121.below hl1138
                have ho1143 := ho1122.below hl1138
                have ho1144 := ho1123.below hl1138
                have ho1145 := ho1124.below hl1138
                have hb1146 := hb1125.below hl1138
                have hb1147 := hb1126.below hl1138
                have hb1148 := hb1127.below hl1138
                have ha1149 : Apart u1134.ownBlock at_.ownBlock := new_ne_own hk1139 ho1120.lt
                have ha1150 : Apart u1134.ownBlock ov.ownBlock := new_ne_own hk1139 ho1121.lt
                have ha1151 : Apart u1134.ownBlock bu.ownBlock := new_ne_own hk1139 ho1122.lt
                have ha1152 : Apart u1134.ownBlock bv.ownBlock := new_ne_own hk1139 ho1123.lt
                have ha1153 : Apart u1134.ownBlock c1050.ownBlock := new_ne_own hk1139 ho1124.lt
                have ha1154 : Apart u1134.ownBlock (some b) := new_ne_box hk1139 hb1125.lt
                have ha1155 : Apart u1134.ownBlock (some b1) := new_ne_box hk1139 hb1126.lt
                have ha1156 : Apart u1134.ownBlock (some b74) := new_ne_box hk1139 hb1127.lt
                have ho1157 : Own eInt 3 G1051 w1135 w.heap.size u1134 ([]) := ho1136.weaken hX1119.size
                refine ⟨fun _ => hX1140.pins, ?_⟩
                refine dr_two (i := 4) (j := 6) (by kernel_rfl) ?_ ?_
                · skip
                  refine (drOp1 (i := 4) rfl rfl rfl (want_none rfl _) (o_append (E := eInt) (v := u1134) (u := u1128) 8 Tryd.underlying38 ap3 (by decide) rfl rfl hX1140.pins ho1157 ((hr1129.mono (Pin.le_trans (Pin.le_trans hle232 hlek233) hle1069)).src hX1140.pins (by decide)) (by first | omega | (rw [List.nil_append]; omega) | (rw [List.length_nil]; omega) | (rw [List.length_append]; omega) | (simp; done) | (simp; omega)) (by first | omega | (rw [List.nil_append]; omega) | (rw [List.length_nil]; omega) | (rw [List.length_append]; omega) | (simp; done) | (simp; omega)) (hX1140.size) (fun u1158 w1159 ho1160 hp1161 hg1162 hw1163 => ?_)))
                  have hX1164 := hX1140.write hp1161 hg1162 ((lo_own ho1157))
                  have ho1165 := ho1141.keptA hg1162 ha1149.symm
                  have ho1166 := ho1142.keptA hg1162 ha1150.symm
                  have ho1167 := ho1143.keptA hg1162 ha1151.symm
                  have ho1168 := ho1144.keptA hg1162 ha1152.symm
                  have ho1169 := ho1145.keptA hg1162 ha1153.symm
                  have hb1170 := hb1146.keptA hg1162 ha1154.symm
                  have hb1171 := hb1147.keptA hg1162 ha1155.symm
                  have hb1172 := hb1148.keptA hg1162 ha1156.symm
                  have ha1173 : Apart at_.ownBlock u1158.ownBlock := app_ne_own ha1149.symm hw1163 ho1141.lt
                  have ha1174 : Apart ov.ownBlock u1158.ownBlock := app_ne_own ha1150.symm hw1163 ho1142.lt
                  have ha1175 : Apart bu.ownBlock u1158.ownBlock := app_ne_own ha1151.symm hw1163 ho1143.lt
                  have ha1176 : Apart bv.ownBlock u1158.ownBlock := app_ne_own ha1152.symm hw1163 ho1144.lt
                  have ha1177 : Apart c1050.ownBlock u1158.ownBlock := app_ne_own ha1153.symm hw1163 ho1145.lt
                  have ha1178 : Apart (some b) u1158.ownBlock := app_ne_box ha1154.symm hw1163 hb1146.lt
                  have ha1179 : Apart (some b1) u1158.ownBlock := app_ne_box ha1155.symm hw1163 hb1147.lt
                  have ha1180 : Apart (some b74) u1158.ownBlock := app_ne_box ha1156.symm hw1163 hb1148.lt
                  have hm1181 : (([]) ++ ((fr.take i).drop 0)).length = ([]).length + ((fr.take i).drop 0).length := List.length_append
                  refine ⟨fun _ => hX1164.pins, ?_⟩
                  refine dr_one (i := 6) (by kernel_rfl) (drOp1 (i := 6) rfl rfl rfl (want_none rfl _) (o_buildF (E := eInt) (e := 3) [(.int .i64 (k5 : Int))] [(k5 : Int)] Tryd.underlying38 sz3 zr3 (by exact reps1 (by rfl)) (ones1 (by rfl)) rfl rfl rfl rfl (by decide) hX1164.pins (fun u1182 w1183 ho1184 hp1185 hl1186 hk1187 => ?_)))
                  have hX1188 := hX1164.step hp1185 hl1186
                  have ho1189 := ho1165.below hl1186
                  have ho1190 := ho1166.below hl1186
                  have ho1191 := ho1167.below hl1186
                  have ho1192 := ho1168.below hl1186
                  have ho1193 := ho1169.below hl1186
                  have ho1194 := ho1160.below hl1186
                  have hb1195 := hb1170.below hl1186
                  have hb1196 := hb1171.below hl1186
                  have hb1197 := hb1172.below hl1186
                  have ha1198 : Apart u1182.ownBlock at_.ownBlock := new_ne_own hk1187 ho1165.lt
                  have ha1199 : Apart u1182.ownBlock ov.ownBlock := new_ne_own hk1187 ho1166.lt
                  have ha1200 : Apart u1182.ownBlock bu.ownBlock := new_ne_own hk1187 ho1167.lt
                  have ha1201 : Apart u1182.ownBlock bv.ownBlock := new_ne_own hk1187 ho1168.lt
                  have ha1202 : Apart u1182.ownBlock c1050.ownBlock := new_ne_own hk1187 ho1169.lt
                  have ha1203 : Apart u1182.ownBlock u1158.ownBlock := new_ne_own hk1187 ho1160.lt
                  have ha1204 : Apart u1182.ownBlock (some b) := new_ne_box hk1187 hb1170.lt
                  have ha1205 : Apart u1182.ownBlock (some b1) := new_ne_box hk1187 hb1171.lt
                  have ha1206 : Apart u1182.ownBlock (some b74) := new_ne_box hk1187 hb1172.lt
                  have ho1207 : Own eInt 3 G1051 w1183 w.heap.size u1182 ([(k5 : Int)]) := ho1184.weaken hX1164.size
                  refine ⟨fun _ => hX1188.pins, ?_⟩
                  refine dr_one (i := 7) (by kernel_rfl) (drOp1 (i := 7) rfl rfl rfl (want_none rfl _) (o_append (E := eInt) (v := u1158) (u := u1182) 8 Tryd.underlying38 ap3 (by decide) rfl rfl hX1188.pins ho1194 ho1207.src (by first | omega | (rw [List.nil_append]; omega) | (rw [List.length_nil]; omega) | (rw [List.length_append]; omega) | (simp; done) | (simp; omega)) (by first | omega | (rw [List.nil_append]; omega) | (rw [List.length_nil]; omega) | (rw [List.length_append]; omega) | (simp; done) | (simp; omega)) (hX1188.size) (fun u1208 w1209 ho1210 hp1211 hg1212 hw1213 => ?_)))
                  have hX1214 := hX1188.write hp1211 hg1212 ((lo_own ho1194))
                  have ho1215 := ho1189.keptA hg1212 ha1173
                  have ho1216 := ho1190.keptA hg1212 ha1174
                  have ho1217 := ho1191.keptA hg1212 ha1175
                  have ho1218 := ho1192.keptA hg1212 ha1176
                  have ho1219 := ho1193.keptA hg1212 ha1177
                  have ho1220 := ho1207.keptA hg1212 ha1203
                  have hb1221 := hb1195.keptA hg1212 ha1178
                  have hb1222 := hb1196.keptA hg1212 ha1179
                  have hb1223 := hb1197.keptA hg1212 ha1180
                  have ha1224 : Apart at_.ownBlock u1208.ownBlock := app_ne_own ha1173 hw1213 ho1189.lt
                  have ha1225 : Apart ov.ownBlock u1208.ownBlock := app_ne_own ha1174 hw1213 ho1190.lt
                  have ha1226 : Apart bu.ownBlock u1208.ownBlock := app_ne_own ha1175 hw1213 ho1191.lt
                  have ha1227 : Apart bv.ownBlock u1208.ownBlock := app_ne_own ha1176 hw1213 ho1192.lt
                  have ha1228 : Apart c1050.ownBlock u1208.ownBlock := app_ne_own ha1177 hw1213 ho1193.lt
                  have ha1229 : Apart u1182.ownBlock u1208.ownBlock := app_ne_own ha1203 hw1213 ho1207.lt
                  have ha1230 : Apart (some b) u1208.ownBlock := app_ne_box ha1178 hw1213 hb1195.lt
                  have ha1231 : Apart (some b1) u1208.ownBlock := app_ne_box ha1179 hw1213 hb1196.lt
                  have ha1232 : Apart (some b74) u1208.ownBlock := app_ne_box ha1180 hw1213 hb1197.lt
                  have hm1233 : ((([]) ++ ((fr.take i).drop 0)) ++ ([(k5 : Int)])).length = (([]) ++ ((fr.take i).drop 0)).length + 1 := by simp
                  refine ⟨fun _ => hX1214.pins, ?_⟩
                  refine dr_one (i := 11) (by kernel_rfl) (drOp1 (i := 11) rfl rfl rfl (want_none rfl _) (o_append (E := eInt) (v := u1208) (u := u1131) 8 Tryd.underlying38 ap3 (by decide) rfl rfl hX1214.pins ho1210 ((hr1132.mono (Pin.le_trans (Pin.le_trans hle232 hlek233) hle1069)).src hX1214.pins (by decide)) (by first | omega | (rw [List.nil_append]; omega) | (rw [List.length_nil]; omega) | (rw [List.length_append]; omega) | (simp; done) | (simp; omega)) (by first | omega | (rw [List.nil_append]; omega) | (rw [List.length_nil]; omega) | (rw [List.length_append]; omega) | (simp; done) | (simp; omega)) (hX1214.size) (fun u1234 w1235 ho1236 hp1237 hg1238 hw1239 => ?_)))
                  have hX1240 := hX1214.write hp1237 hg1238 ((lo_own ho1210))
                  have ho1241 := ho1215.keptA hg1238 ha1224
                  have ho1242 := ho1216.keptA hg1238 ha1225
                  have ho1243 := ho1217.keptA hg1238 ha1226
                  have ho1244 := ho1218.keptA hg1238 ha1227
                  have ho1245 := ho1219.keptA hg1238 ha1228
                  have hb1246 := hb1221.keptA hg1238 ha1230
                  have hb1247 := hb1222.keptA hg1238 ha1231
                  have hb1248 := hb1223.keptA hg1238 ha1232
                  have ha1249 : Apart at_.ownBlock u1234.ownBlock := app_ne_own ha1224 hw1239 ho1215.lt
                  have ha1250 : Apart ov.ownBlock u1234.ownBlock := app_ne_own ha1225 hw1239 ho1216.lt
                  have ha1251 : Apart bu.ownBlock u1234.ownBlock := app_ne_own ha1226 hw1239 ho1217.lt
                  have ha1252 : Apart bv.ownBlock u1234.ownBlock := app_ne_own ha1227 hw1239 ho1218.lt
                  have ha1253 : Apart c1050.ownBlock u1234.ownBlock := app_ne_own ha1228 hw1239 ho1219.lt
                  have ha1254 : Apart (some b) u1234.ownBlock := app_ne_box ha1230 hw1239 hb1221.lt
                  have ha1255 : Apart (some b1) u1234.ownBlock := app_ne_box ha1231 hw1239 hb1222.lt
                  have ha1256 : Apart (some b74) u1234.ownBlock := app_ne_box ha1232 hw1239 hb1223.lt
                  have hm1257 : (((([]) ++ ((fr.take i).drop 0)) ++ ([(k5 : Int)])) ++ ((fr.take fr.length).drop i)).length = ((([]) ++ ((fr.take i).drop 0)) ++ ([(k5 : Int)])).length + ((fr.take fr.length).drop i).length := List.length_append
                  refine ⟨fun _ => hX1240.pins, ?_⟩
                  refine dr_take (i := 12) rfl rfl rfl (want_none rfl _) (by kernel_rfl) (fun _ _ => r_assign (v := u1234) rfl) hX1240.pins ?_
                  refine dr_end (by kernel_rfl) ?_
                  exact cut_in ⟨_, u1234, G1051, (packS (x := 11) (packS (x := 10) (packS (x := 9) (packS (x := 8) (packS (x := 7) (packS (x := 6) (packS (x := 5) (packS (x := 4) (packS (x := 1) (pack1 (x := 0) rfl) rfl) rfl) rfl) rfl) rfl) rfl) rfl) rfl) rfl), hX1240, (Pin.le_refl _), ho1241, ho1242, ho1243, ho1244, ho1245, ho1236, hb1246, hb1247, hb1248, ha1249, ha1250, ha1251, ha1252, ha1253, ha1254.symm, ha1255.symm, ha1256.symm⟩
                · skip
                  refine (drOp1 (i := 6) rfl rfl rfl (want_none rfl _) (o_buildF (E := eInt) (e := 3) [(.int .i64 (k5 : Int))] [(k5 : Int)] Tryd.underlying38 sz3 zr3 (by exact reps1 (by rfl)) (ones1 (by rfl)) rfl rfl rfl rfl (by decide) hX1140.pins (fun u1258 w1259 ho1260 hp1261 hl1262 hk1263 => ?_)))
                  have hX1264 := hX1140.step hp1261 hl1262
                  have ho1265 := ho1141.below hl1262
                  have ho1266 := ho1142.below hl1262
                  have ho1267 := ho1143.below hl1262
                  have ho1268 := ho1144.below hl1262
                  have ho1269 := ho1145.below hl1262
                  have ho1270 := ho1157.below hl1262
                  have hb1271 := hb1146.below hl1262
                  have hb1272 := hb1147.below hl1262
                  have hb1273 := hb1148.below hl1262
                  have ha1274 : Apart u1258.ownBlock at_.ownBlock := new_ne_own hk1263 ho1141.lt
                  have ha1275 : Apart u1258.ownBlock ov.ownBlock := new_ne_own hk1263 ho1142.lt
                  have ha1276 : Apart u1258.ownBlock bu.ownBlock := new_ne_own hk1263 ho1143.lt
                  have ha1277 : Apart u1258.ownBlock bv.ownBlock := new_ne_own hk1263 ho1144.lt
                  have ha1278 : Apart u1258.ownBlock c1050.ownBlock := new_ne_own hk1263 ho1145.lt
                  have ha1279 : Apart u1258.ownBlock u1134.ownBlock := new_ne_own hk1263 ho1157.lt
                  have ha1280 : Apart u1258.ownBlock (some b) := new_ne_box hk1263 hb1146.lt
                  have ha1281 : Apart u1258.ownBlock (some b1) := new_ne_box hk1263 hb1147.lt
                  have ha1282 : Apart u1258.ownBlock (some b74) := new_ne_box hk1263 hb1148.lt
                  have ho1283 : Own eInt 3 G1051 w1259 w.heap.size u1258 ([(k5 : Int)]) := ho1260.weaken hX1140.size
                  refine ⟨fun _ => hX1264.pins, ?_⟩
                  refine dr_one (i := 4) (by kernel_rfl) (drOp1 (i := 4) rfl rfl rfl (want_none rfl _) (o_append (E := eInt) (v := u1134) (u := u1128) 8 Tryd.underlying38 ap3 (by decide) rfl rfl hX1264.pins ho1270 ((hr1129.mono (Pin.le_trans (Pin.le_trans hle232 hlek233) hle1069)).src hX1264.pins (by decide)) (by first | omega | (rw [List.nil_append]; omega) | (rw [List.length_nil]; omega) | (rw [List.length_append]; omega) | (simp; done) | (simp; omega)) (by first | omega | (rw [List.nil_append]; omega) | (rw [List.length_nil]; omega) | (rw [List.length_append]; omega) | (simp; done) | (simp; omega)) (hX1264.size) (fun u1284 w1285 ho1286 hp1287 hg1288 hw1289 => ?_)))
                  have hX1290 := hX1264.write hp1287 hg1288 ((lo_own ho1270))
                  have ho1291 := ho1265.keptA hg1288 ha1149.symm
                  have ho1292 := ho1266.keptA hg1288 ha1150.symm
                  have ho1293 := ho1267.keptA hg1288 ha1151.symm
                  have ho1294 := ho1268.keptA hg1288 ha1152.symm
                  have ho1295 := ho1269.keptA hg1288 ha1153.symm
                  have ho1296 := ho1283.keptA hg1288 ha1279
                  have hb1297 := hb1271.keptA hg1288 ha1154.symm
                  have hb1298 := hb1272.keptA hg1288 ha1155.symm
                  have hb1299 := hb1273.keptA hg1288 ha1156.symm
                  have ha1300 : Apart at_.ownBlock u1284.ownBlock := app_ne_own ha1149.symm hw1289 ho1265.lt
                  have ha1301 : Apart ov.ownBlock u1284.ownBlock := app_ne_own ha1150.symm hw1289 ho1266.lt
                  have ha1302 : Apart bu.ownBlock u1284.ownBlock := app_ne_own ha1151.symm hw1289 ho1267.lt
                  have ha1303 : Apart bv.ownBlock u1284.ownBlock := app_ne_own ha1152.symm hw1289 ho1268.lt
                  have ha1304 : Apart c1050.ownBlock u1284.ownBlock := app_ne_own ha1153.symm hw1289 ho1269.lt
                  have ha1305 : Apart u1258.ownBlock u1284.ownBlock := app_ne_own ha1279 hw1289 ho1283.lt
                  have ha1306 : Apart (some b) u1284.ownBlock := app_ne_box ha1154.symm hw1289 hb1271.lt
                  have ha1307 : Apart (some b1) u1284.ownBlock := app_ne_box ha1155.symm hw1289 hb1272.lt
                  have ha1308 : Apart (some b74) u1284.ownBlock := app_ne_box ha1156.symm hw1289 hb1273.lt
                  have hm1309 : (([]) ++ ((fr.take i).drop 0)).length = ([]).length + ((fr.take i).drop 0).length := List.length_append
                  refine ⟨fun _ => hX1290.pins, ?_⟩
                  refine dr_one (i := 7) (by kernel_rfl) (drOp1 (i := 7) rfl rfl rfl (want_none rfl _) (o_append (E := eInt) (v := u1284) (u := u1258) 8 Tryd.underlying38 ap3 (by decide) rfl rfl hX1290.pins ho1286 ho1296.src (by first | omega | (rw [List.nil_append]; omega) | (rw [List.length_nil]; omega) | (rw [List.length_append]; omega) | (simp; done) | (simp; omega)) (by first | omega | (rw [List.nil_append]; omega) | (rw [List.length_nil]; omega) | (rw [List.length_append]; omega) | (simp; done) | (simp; omega)) (hX1290.size) (fun u1310 w1311 ho1312 hp1313 hg1314 hw1315 => ?_)))
                  have hX1316 := hX1290.write hp1313 hg1314 ((lo_own ho1286))
                  have ho1317 := ho1291.keptA hg1314 ha1300
                  have ho1318 := ho1292.keptA hg1314 ha1301
                  have ho1319 := ho1293.keptA hg1314 ha1302
                  have ho1320 := ho1294.keptA hg1314 ha1303
                  have ho1321 := ho1295.keptA hg1314 ha1304
                  have ho1322 := ho1296.keptA hg1314 ha1305
                  have hb1323 := hb1297.keptA hg1314 ha1306
                  have hb1324 := hb1298.keptA hg1314 ha1307
                  have hb1325 := hb1299.keptA hg1314 ha1308
                  have ha1326 : Apart at_.ownBlock u1310.ownBlock := app_ne_own ha1300 hw1315 ho1291.lt
                  have ha1327 : Apart ov.ownBlock u1310.ownBlock := app_ne_own ha1301 hw1315 ho1292.lt
                  have ha1328 : Apart bu.ownBlock u1310.ownBlock := app_ne_own ha1302 hw1315 ho1293.lt
                  have ha1329 : Apart bv.ownBlock u1310.ownBlock := app_ne_own ha1303 hw1315 ho1294.lt
                  have ha1330 : Apart c1050.ownBlock u1310.ownBlock := app_ne_own ha1304 hw1315 ho1295.lt
                  have ha1331 : Apart u1258.ownBlock u1310.ownBlock := app_ne_own ha1305 hw1315 ho1296.lt
                  have ha1332 : Apart (some b) u1310.ownBlock := app_ne_box ha1306 hw1315 hb1297.lt
                  have ha1333 : Apart (some b1) u1310.ownBlock := app_ne_box ha1307 hw1315 hb1298.lt
                  have ha1334 : Apart (some b74) u1310.ownBlock := app_ne_box ha1308 hw1315 hb1299.lt
                  have hm1335 : ((([]) ++ ((fr.take i).drop 0)) ++ ([(k5 : Int)])).length = (([]) ++ ((fr.take i).drop 0)).length + 1 := by simp
                  refine ⟨fun _ => hX1316.pins, ?_⟩
                  refine dr_one (i := 11) (by kernel_rfl) (drOp1 (i := 11) rfl rfl rfl (want_none rfl _) (o_append (E := eInt) (v := u1310) (u := u1131) 8 Tryd.underlying38 ap3 (by decide) rfl rfl hX1316.pins ho1312 ((hr1132.mono (Pin.le_trans (Pin.le_trans hle232 hlek233) hle1069)).src hX1316.pins (by decide)) (by first | omega | (rw [List.nil_append]; omega) | (rw [List.length_nil]; omega) | (rw [List.length_append]; omega) | (simp; done) | (simp; omega)) (by first | omega | (rw [List.nil_append]; omega) | (rw [List.length_nil]; omega) | (rw [List.length_append]; omega) | (simp; done) | (simp; omega)) (hX1316.size) (fun u1336 w1337 ho1338 hp1339 hg1340 hw1341 => ?_)))
                  have hX1342 := hX1316.write hp1339 hg1340 ((lo_own ho1312))
                  have ho1343 := ho1317.keptA hg1340 ha1326
                  have ho1344 := ho1318.keptA hg1340 ha1327
                  have ho1345 := ho1319.keptA hg1340 ha1328
                  have ho1346 := ho1320.keptA hg1340 ha1329
                  have ho1347 := ho1321.keptA hg1340 ha1330
                  have hb1348 := hb1323.keptA hg1340 ha1332
                  have hb1349 := hb1324.keptA hg1340 ha1333
                  have hb1350 := hb1325.keptA hg1340 ha1334
                  have ha1351 : Apart at_.ownBlock u1336.ownBlock := app_ne_own ha1326 hw1341 ho1317.lt
                  have ha1352 : Apart ov.ownBlock u1336.ownBlock := app_ne_own ha1327 hw1341 ho1318.lt
                  have ha1353 : Apart bu.ownBlock u1336.ownBlock := app_ne_own ha1328 hw1341 ho1319.lt
                  have ha1354 : Apart bv.ownBlock u1336.ownBlock := app_ne_own ha1329 hw1341 ho1320.lt
                  have ha1355 : Apart c1050.ownBlock u1336.ownBlock := app_ne_own ha1330 hw1341 ho1321.lt
                  have ha1356 : Apart (some b) u1336.ownBlock := app_ne_box ha1332 hw1341 hb1323.lt
                  have ha1357 : Apart (some b1) u1336.ownBlock := app_ne_box ha1333 hw1341 hb1324.lt
                  have ha1358 : Apart (some b74) u1336.ownBlock := app_ne_box ha1334 hw1341 hb1325.lt
                  have hm1359 : (((([]) ++ ((fr.take i).drop 0)) ++ ([(k5 : Int)])) ++ ((fr.take fr.length).drop i)).length = ((([]) ++ ((fr.take i).drop 0)) ++ ([(k5 : Int)])).length + ((fr.take fr.length).drop i).length := List.length_append
                  refine ⟨fun _ => hX1342.pins, ?_⟩
                  refine dr_take (i := 12) rfl rfl rfl (want_none rfl _) (by kernel_rfl) (fun _ _ => r_assign (v := u1336) rfl) hX1342.pins ?_
                  refine dr_end (by kernel_rfl) ?_
                  exact cut_in ⟨_, u1336, G1051, (packS (x := 11) (packS (x := 10) (packS (x := 9) (packS (x := 8) (packS (x := 7) (packS (x := 6) (packS (x := 5) (packS (x := 4) (packS (x := 1) (pack1 (x := 0) rfl) rfl) rfl) rfl) rfl) rfl) rfl) rfl) rfl) rfl), hX1342, (Pin.le_refl _), ho1343, ho1344, ho1345, ho1346, ho1347, ho1338, hb1348, hb1349, hb1350, ha1351, ha1352, ha1353, ha1354, ha1355, ha1356.symm, ha1357.symm, ha1358.symm⟩
              · skip
                refine (drOp1 (i := 6) rfl rfl rfl (want_none rfl _) (o_buildF (E := eInt) (e := 3) [(.int .i64 (k5 : Int))] [(k5 : Int)] Tryd.underlying38 sz3 zr3 (by exact reps1 (by rfl)) (ones1 (by rfl)) rfl rfl rfl rfl (by decide) hX1119.pins (fun u1360 w1361 ho1362 hp1363 hl1364 hk1365 => ?_)))
                have hX1366 := hX1119.step hp1363 hl1364
                have ho1367 := ho1120.below hl1364
                have ho1368 := ho1121.below hl1364
                have ho1369 := ho1122.below hl1364
                have ho1370 := ho1123.below hl1364
                have ho1371 := ho1124.below hl1364
                have hb1372 := hb1125.below hl1364
                have hb1373 := hb1126.below hl1364
                have hb1374 := hb1127.below hl1364
                have ha1375 : Apart u1360.ownBlock at_.ownBlock := new_ne_own hk1365 ho1120.lt
                have ha1376 : Apart u1360.ownBlock ov.ownBlock := new_ne_own hk1365 ho1121.lt
                have ha1377 : Apart u1360.ownBlock bu.ownBlock := new_ne_own hk1365 ho1122.lt
                have ha1378 : Apart u1360.ownBlock bv.ownBlock := new_ne_own hk1365 ho1123.lt
                have ha1379 : Apart u1360.ownBlock c1050.ownBlock := new_ne_own hk1365 ho1124.lt
                have ha1380 : Apart u1360.ownBlock (some b) := new_ne_box hk1365 hb1125.lt
                have ha1381 : Apart u1360.ownBlock (some b1) := new_ne_box hk1365 hb1126.lt
                have ha1382 : Apart u1360.ownBlock (some b74) := new_ne_box hk1365 hb1127.lt
                have ho1383 : Own eInt 3 G1051 w1361 w.heap.size u1360 ([(k5 : Int)]) := ho1362.weaken hX1119.size
                refine ⟨fun _ => hX1366.pins, ?_⟩
                refine dr_one (i := 0) (by kernel_rfl) (drOp1 (i := 0) rfl rfl rfl (want_none rfl _) (o_build0 (E := eInt) (e := 3) Tryd.underlying38 sz3 hX1366.pins (fun u1384 w1385 ho1386 hp1387 hl1388 hk1389 => ?_)))
                have hX1390 := hX1366.step hp1387 hl1388
                have ho1391 := ho1367.below hl1388
                have ho1392 := ho1368.below hl1388
                have ho1393 := ho1369.below hl1388
                have ho1394 := ho1370.below hl1388
                have ho1395 := ho1371.below hl1388
                have ho1396 := ho1383.below hl1388
                have hb1397 := hb1372.below hl1388
                have hb1398 := hb1373.below hl1388
                have hb1399 := hb1374.below hl1388
                have ha1400 : Apart u1384.ownBlock at_.ownBlock := new_ne_own hk1389 ho1367.lt
                have ha1401 : Apart u1384.ownBlock ov.ownBlock := new_ne_own hk1389 ho1368.lt
                have ha1402 : Apart u1384.ownBlock bu.ownBlock := new_ne_own hk1389 ho1369.lt
                have ha1403 : Apart u1384.ownBlock bv.ownBlock := new_ne_own hk1389 ho1370.lt
                have ha1404 : Apart u1384.ownBlock c1050.ownBlock := new_ne_own hk1389 ho1371.lt
                have ha1405 : Apart u1384.ownBlock u1360.ownBlock := new_ne_own hk1389 ho1383.lt
                have ha1406 : Apart u1384.ownBlock (some b) := new_ne_box hk1389 hb1372.lt
                have ha1407 : Apart u1384.ownBlock (some b1) := new_ne_box hk1389 hb1373.lt
                have ha1408 : Apart u1384.ownBlock (some b74) := new_ne_box hk1389 hb1374.lt
                have ho1409 : Own eInt 3 G1051 w1385 w.heap.size u1384 ([]) := ho1386.weaken hX1366.size
                refine ⟨fun _ => hX1390.pins, ?_⟩
                refine dr_one (i := 4) (by kernel_rfl) (drOp1 (i := 4) rfl rfl rfl (want_none rfl _) (o_append (E := eInt) (v := u1384) (u := u1128) 8 Tryd.underlying38 ap3 (by decide) rfl rfl hX1390.pins ho1409 ((hr1129.mono (Pin.le_trans (Pin.le_trans hle232 hlek233) hle1069)).src hX1390.pins (by decide)) (by first | omega | (rw [List.nil_append]; omega) | (rw [List.length_nil]; omega) | (rw [List.length_append]; omega) | (simp; done) | (simp; omega)) (by first | omega | (rw [List.nil_append]; omega) | (rw [List.length_nil]; omega) | (rw [List.length_append]; omega) | (simp; done) | (simp; omega)) (hX1390.size) (fun u1410 w1411 ho1412 hp1413 hg1414 hw1415 => ?_)))
                have hX1416 := hX1390.write hp1413 hg1414 ((lo_own ho1409))
                have ho1417 := ho1391.keptA hg1414 ha1400.symm
                have ho1418 := ho1392.keptA hg1414 ha1401.symm
                have ho1419 := ho1393.keptA hg1414 ha1402.symm
                have ho1420 := ho1394.keptA hg1414 ha1403.symm
                have ho1421 := ho1395.keptA hg1414 ha1404.symm
                have ho1422 := ho1396.keptA hg1414 ha1405.symm
                have hb1423 := hb1397.keptA hg1414 ha1406.symm
                have hb1424 := hb1398.keptA hg1414 ha1407.symm
                have hb1425 := hb1399.keptA hg1414 ha1408.symm
                have ha1426 : Apart at_.ownBlock u1410.ownBlock := app_ne_own ha1400.symm hw1415 ho1391.lt
                have ha1427 : Apart ov.ownBlock u1410.ownBlock := app_ne_own ha1401.symm hw1415 ho1392.lt
                have ha1428 : Apart bu.ownBlock u1410.ownBlock := app_ne_own ha1402.symm hw1415 ho1393.lt
                have ha1429 : Apart bv.ownBlock u1410.ownBlock := app_ne_own ha1403.symm hw1415 ho1394.lt
                have ha1430 : Apart c1050.ownBlock u1410.ownBlock := app_ne_own ha1404.symm hw1415 ho1395.lt
                have ha1431 : Apart u1360.ownBlock u1410.ownBlock := app_ne_own ha1405.symm hw1415 ho1396.lt
                have ha1432 : Apart (some b) u1410.ownBlock := app_ne_box ha1406.symm hw1415 hb1397.lt
                have ha1433 : Apart (some b1) u1410.ownBlock := app_ne_box ha1407.symm hw1415 hb1398.lt
                have ha1434 : Apart (some b74) u1410.ownBlock := app_ne_box ha1408.symm hw1415 hb1399.lt
                have hm1435 : (([]) ++ ((fr.take i).drop 0)).length = ([]).length + ((fr.take i).drop 0).length := List.length_append
                refine ⟨fun _ => hX1416.pins, ?_⟩
                refine dr_one (i := 7) (by kernel_rfl) (drOp1 (i := 7) rfl rfl rfl (want_none rfl _) (o_append (E := eInt) (v := u1410) (u := u1360) 8 Tryd.underlying38 ap3 (by decide) rfl rfl hX1416.pins ho1412 ho1422.src (by first | omega | (rw [List.nil_append]; omega) | (rw [List.length_nil]; omega) | (rw [List.length_append]; omega) | (simp; done) | (simp; omega)) (by first | omega | (rw [List.nil_append]; omega) | (rw [List.length_nil]; omega) | (rw [List.length_append]; omega) | (simp; done) | (simp; omega)) (hX1416.size) (fun u1436 w1437 ho1438 hp1439 hg1440 hw1441 => ?_)))
                have hX1442 := hX1416.write hp1439 hg1440 ((lo_own ho1412))
                have ho1443 := ho1417.keptA hg1440 ha1426
                have ho1444 := ho1418.keptA hg1440 ha1427
                have ho1445 := ho1419.keptA hg1440 ha1428
                have ho1446 := ho1420.keptA hg1440 ha1429
                have ho1447 := ho1421.keptA hg1440 ha1430
                have ho1448 := ho1422.keptA hg1440 ha1431
                have hb1449 := hb1423.keptA hg1440 ha1432
                have hb1450 := hb1424.keptA hg1440 ha1433
                have hb1451 := hb1425.keptA hg1440 ha1434
                have ha1452 : Apart at_.ownBlock u1436.ownBlock := app_ne_own ha1426 hw1441 ho1417.lt
                have ha1453 : Apart ov.ownBlock u1436.ownBlock := app_ne_own ha1427 hw1441 ho1418.lt
                have ha1454 : Apart bu.ownBlock u1436.ownBlock := app_ne_own ha1428 hw1441 ho1419.lt
                have ha1455 : Apart bv.ownBlock u1436.ownBlock := app_ne_own ha1429 hw1441 ho1420.lt
                have ha1456 : Apart c1050.ownBlock u1436.ownBlock := app_ne_own ha1430 hw1441 ho1421.lt
                have ha1457 : Apart u1360.ownBlock u1436.ownBlock := app_ne_own ha1431 hw1441 ho1422.lt
                have ha1458 : Apart (some b) u1436.ownBlock := app_ne_box ha1432 hw1441 hb1423.lt
                have ha1459 : Apart (some b1) u1436.ownBlock := app_ne_box ha1433 hw1441 hb1424.lt
                have ha1460 : Apart (some b74) u1436.ownBlock := app_ne_box ha1434 hw1441 hb1425.lt
                have hm1461 : ((([]) ++ ((fr.take i).drop 0)) ++ ([(k5 : Int)])).length = (([]) ++ ((fr.take i).drop 0)).length + 1 := by simp
                refine ⟨fun _ => hX1442.pins, ?_⟩
                refine dr_one (i := 11) (by kernel_rfl) (drOp1 (i := 11) rfl rfl rfl (want_none rfl _) (o_append (E := eInt) (v := u1436) (u := u1131) 8 Tryd.underlying38 ap3 (by decide) rfl rfl hX1442.pins ho1438 ((hr1132.mono (Pin.le_trans (Pin.le_trans hle232 hlek233) hle1069)).src hX1442.pins (by decide)) (by first | omega | (rw [List.nil_append]; omega) | (rw [List.length_nil]; omega) | (rw [List.length_append]; omega) | (simp; done) | (simp; omega)) (by first | omega | (rw [List.nil_append]; omega) | (rw [List.length_nil]; omega) | (rw [List.length_append]; omega) | (simp; done) | (simp; omega)) (hX1442.size) (fun u1462 w1463 ho1464 hp1465 hg1466 hw1467 => ?_)))
                have hX1468 := hX1442.write hp1465 hg1466 ((lo_own ho1438))
                have ho1469 := ho1443.keptA hg1466 ha1452
                have ho1470 := ho1444.keptA hg1466 ha1453
                have ho1471 := ho1445.keptA hg1466 ha1454
                have ho1472 := ho1446.keptA hg1466 ha1455
                have ho1473 := ho1447.keptA hg1466 ha1456
                have hb1474 := hb1449.keptA hg1466 ha1458
                have hb1475 := hb1450.keptA hg1466 ha1459
                have hb1476 := hb1451.keptA hg1466 ha1460
                have ha1477 : Apart at_.ownBlock u1462.ownBlock := app_ne_own ha1452 hw1467 ho1443.lt
                have ha1478 : Apart ov.ownBlock u1462.ownBlock := app_ne_own ha1453 hw1467 ho1444.lt
                have ha1479 : Apart bu.ownBlock u1462.ownBlock := app_ne_own ha1454 hw1467 ho1445.lt
                have ha1480 : Apart bv.ownBlock u1462.ownBlock := app_ne_own ha1455 hw1467 ho1446.lt
                have ha1481 : Apart c1050.ownBlock u1462.ownBlock := app_ne_own ha1456 hw1467 ho1447.lt
                have ha1482 : Apart (some b) u1462.ownBlock := app_ne_box ha1458 hw1467 hb1449.lt
                have ha1483 : Apart (some b1) u1462.ownBlock := app_ne_box ha1459 hw1467 hb1450.lt
                have ha1484 : Apart (some b74) u1462.ownBlock := app_ne_box ha1460 hw1467 hb1451.lt
                have hm1485 : (((([]) ++ ((fr.take i).drop 0)) ++ ([(k5 : Int)])) ++ ((fr.take fr.length).drop i)).length = ((([]) ++ ((fr.take i).drop 0)) ++ ([(k5 : Int)])).length + ((fr.take fr.length).drop i).length := List.length_append
                refine ⟨fun _ => hX1468.pins, ?_⟩
                refine dr_take (i := 12) rfl rfl rfl (want_none rfl _) (by kernel_rfl) (fun _ _ => r_assign (v := u1462) rfl) hX1468.pins ?_
                refine dr_end (by kernel_rfl) ?_
                exact cut_in ⟨_, u1462, G1051, (packS (x := 11) (packS (x := 10) (packS (x := 9) (packS (x := 8) (packS (x := 7) (packS (x := 6) (packS (x := 5) (packS (x := 4) (packS (x := 1) (pack1 (x := 0) rfl) rfl) rfl) rfl) rfl) rfl) rfl) rfl) rfl) rfl), hX1468, (Pin.le_refl _), ho1469, ho1470, ho1471, ho1472, ho1473, ho1464, hb1474, hb1475, hb1476, ha1477, ha1478, ha1479, ha1480, ha1481, ha1482.symm, ha1483.symm, ha1484.symm⟩
          · skip
            refine c_draw (S := fun wz => Pins GL3 wz) (last := 13) (by kernel_rfl) rfl ?_
            have hl1486 : Below w234.drew.heap.size w234.drew w234.drew.drew := (Below.refl _ _).drew
            have hp1487 := hX246.pins.below hl1486
            have hX1488 := hX246.step hp1487 hl1486
            have ho1489 := ho247.below hl1486
            have ho1490 := ho248.below hl1486
            have ho1491 := ho249.below hl1486
            have ho1492 := ho250.below hl1486
            have hb1493 := hb251.below hl1486
            have hb1494 := hb252.below hl1486
            have hb1495 := hb253.below hl1486
            refine dr_take (i := 1) rfl rfl rfl (want_none rfl _) (by kernel_rfl) (fun _ _ => r_move (v := lv) rfl) hX1488.pins ?_
            refine dr_take (i := 2) rfl rfl rfl (want_none rfl _) (by kernel_rfl) (fun _ _ => r_move (v := (.int .i64 (i : Int))) rfl) hX1488.pins ?_
            obtain ⟨u1496, hr1497, hl1498⟩ := name_slice hr211 (lo := none) (hi := (some ((i : Int)))) (0) (i) (Or.inl ⟨rfl, rfl⟩) (Or.inr ⟨_, rfl, (by omega), rfl⟩) (by omega) (by omega)
            refine dr_take (i := 3) rfl rfl rfl (want_none rfl _) (by kernel_rfl) (fun _ _ => hl1498 Tryd.underlying28 sz69 rfl rfl rfl) hX1488.pins ?_
            refine dr_take (i := 5) rfl rfl rfl (want_none rfl _) (by kernel_rfl) (fun _ hS => r_ldpA (cs := [c217, c218]) ag69 sz69 rfl (fun j u hj => (Pins.of_le hS hlek233) _ _ _ (hb230 _ _ (by simpa using hj)))) hX1488.pins ?_
            refine dr_take (i := 8) rfl rfl rfl (want_none rfl _) (by kernel_rfl) (fun _ _ => r_move (v := lv) rfl) hX1488.pins ?_
            refine dr_take (i := 9) rfl rfl rfl (want_none rfl _) (by kernel_rfl) (fun _ _ => r_move (v := (.int .i64 (i : Int))) rfl) hX1488.pins ?_
            obtain ⟨u1499, hr1500, hl1501⟩ := name_slice hr211 (lo := (some ((i : Int)))) (hi := none) (i) (ls.length) (Or.inr ⟨_, rfl, (by omega), rfl⟩) (Or.inl ⟨rfl, rfl⟩) (by omega) (by omega)
            refine dr_take (i := 10) rfl rfl rfl (want_none rfl _) (by kernel_rfl) (fun _ _ => hl1501 Tryd.underlying28 sz69 rfl rfl rfl) hX1488.pins ?_
            refine dr_two (i := 0) (j := 6) (by kernel_rfl) ?_ ?_
            · skip
              refine (drOp1 (i := 0) rfl rfl rfl (want_none rfl _) (o_build0 (E := eNode) (e := 69) Tryd.underlying28 sz69 hX1488.pins (fun u1502 w1503 ho1504 hp1505 hl1506 hk1507 => ?_)))
              have hX1508 := hX1488.step hp1505 hl1506
              have ho1509 := ho1489.below hl1506
              have ho1510 := ho1490.below hl1506
              have ho1511 := ho1491.below hl1506
              have ho1512 := ho1492.below hl1506
              have hb1513 := hb1493.below hl1506
              have hb1514 := hb1494.below hl1506
              have hb1515 := hb1495.below hl1506
              have ha1516 : Apart u1502.ownBlock at_.ownBlock := new_ne_own hk1507 ho1489.lt
              have ha1517 : Apart u1502.ownBlock ov.ownBlock := new_ne_own hk1507 ho1490.lt
              have ha1518 : Apart u1502.ownBlock bu.ownBlock := new_ne_own hk1507 ho1491.lt
              have ha1519 : Apart u1502.ownBlock bv.ownBlock := new_ne_own hk1507 ho1492.lt
              have ha1520 : Apart u1502.ownBlock (some b) := new_ne_box hk1507 hb1493.lt
              have ha1521 : Apart u1502.ownBlock (some b1) := new_ne_box hk1507 hb1494.lt
              have ha1522 : Apart u1502.ownBlock (some b74) := new_ne_box hk1507 hb1495.lt
              have ho1523 : Own eNode 69 GL3 w1503 w.heap.size u1502 ([]) := ho1504.weaken hX1488.size
              refine ⟨fun _ => hX1508.pins, ?_⟩
              refine dr_two (i := 4) (j := 6) (by kernel_rfl) ?_ ?_
              · skip
                refine (drOp1 (i := 4) rfl rfl rfl (want_none rfl _) (o_append (E := eNode) (v := u1502) (u := u1496) 48 Tryd.underlying28 ap69 (by decide) rfl rfl hX1508.pins ho1523 ((hr1497.mono (Pin.le_trans hle232 hlek233)).src hX1508.pins (by decide)) (by first | omega | (rw [List.nil_append]; omega) | (rw [List.length_nil]; omega) | (rw [List.length_append]; omega) | (simp; done) | (simp; omega)) (by first | omega | (rw [List.nil_append]; omega) | (rw [List.length_nil]; omega) | (rw [List.length_append]; omega) | (simp; done) | (simp; omega)) (hX1508.size) (fun u1524 w1525 ho1526 hp1527 hg1528 hw1529 => ?_)))
                have hX1530 := hX1508.write hp1527 hg1528 ((lo_own ho1523))
                have ho1531 := ho1509.keptA hg1528 ha1516.symm
                have ho1532 := ho1510.keptA hg1528 ha1517.symm
                have ho1533 := ho1511.keptA hg1528 ha1518.symm
                have ho1534 := ho1512.keptA hg1528 ha1519.symm
                have hb1535 := hb1513.keptA hg1528 ha1520.symm
                have hb1536 := hb1514.keptA hg1528 ha1521.symm
                have hb1537 := hb1515.keptA hg1528 ha1522.symm
                have ha1538 : Apart at_.ownBlock u1524.ownBlock := app_ne_own ha1516.symm hw1529 ho1509.lt
                have ha1539 : Apart ov.ownBlock u1524.ownBlock := app_ne_own ha1517.symm hw1529 ho1510.lt
                have ha1540 : Apart bu.ownBlock u1524.ownBlock := app_ne_own ha1518.symm hw1529 ho1511.lt
                have ha1541 : Apart bv.ownBlock u1524.ownBlock := app_ne_own ha1519.symm hw1529 ho1512.lt
                have ha1542 : Apart (some b) u1524.ownBlock := app_ne_box ha1520.symm hw1529 hb1513.lt
                have ha1543 : Apart (some b1) u1524.ownBlock := app_ne_box ha1521.symm hw1529 hb1514.lt
                have ha1544 : Apart (some b74) u1524.ownBlock := app_ne_box ha1522.symm hw1529 hb1515.lt
                have hm1545 : (([]) ++ ((ls.take i).drop 0)).length = ([]).length + ((ls.take i).drop 0).length := List.length_append
                refine ⟨fun _ => hX1530.pins, ?_⟩
                refine dr_one (i := 6) (by kernel_rfl) (drOp1 (i := 6) rfl rfl rfl (want_none rfl _) (o_build1 (E := eNode) (e := 69) [c217, c218] (⟨sortL (atL ats ((ns.getD k5 default).l)), sortL (atL ats ((ns.getD k5 default).r))⟩ : Nd) Tryd.underlying28 sz69 zr69 ⟨_, _, rfl, (hr221.mono hlek233), (hr222.mono hlek233)⟩ rfl (by decide) hX1530.pins (fun u1546 w1547 ho1548 hp1549 hl1550 hk1551 => ?_)))
                have hX1552 := hX1530.step hp1549 hl1550
                have ho1553 := ho1531.below hl1550
                have ho1554 := ho1532.below hl1550
                have ho1555 := ho1533.below hl1550
                have ho1556 := ho1534.below hl1550
                have ho1557 := ho1526.below hl1550
                have hb1558 := hb1535.below hl1550
                have hb1559 := hb1536.below hl1550
                have hb1560 := hb1537.below hl1550
                have ha1561 : Apart u1546.ownBlock at_.ownBlock := new_ne_own hk1551 ho1531.lt
                have ha1562 : Apart u1546.ownBlock ov.ownBlock := new_ne_own hk1551 ho1532.lt
                have ha1563 : Apart u1546.ownBlock bu.ownBlock := new_ne_own hk1551 ho1533.lt
                have ha1564 : Apart u1546.ownBlock bv.ownBlock := new_ne_own hk1551 ho1534.lt
                have ha1565 : Apart u1546.ownBlock u1524.ownBlock := new_ne_own hk1551 ho1526.lt
                have ha1566 : Apart u1546.ownBlock (some b) := new_ne_box hk1551 hb1535.lt
                have ha1567 : Apart u1546.ownBlock (some b1) := new_ne_box hk1551 hb1536.lt
                have ha1568 : Apart u1546.ownBlock (some b74) := new_ne_box hk1551 hb1537.lt
                have ho1569 : Own eNode 69 GL3 w1547 w.heap.size u1546 ([(⟨sortL (atL ats ((ns.getD k5 default).l)), sortL (atL ats ((ns.getD k5 default).r))⟩ : Nd)]) := ho1548.weaken hX1530.size
                refine ⟨fun _ => hX1552.pins, ?_⟩
                refine dr_one (i := 7) (by kernel_rfl) (drOp1 (i := 7) rfl rfl rfl (want_none rfl _) (o_append (E := eNode) (v := u1524) (u := u1546) 48 Tryd.underlying28 ap69 (by decide) rfl rfl hX1552.pins ho1557 ho1569.src (by first | omega | (rw [List.nil_append]; omega) | (rw [List.length_nil]; omega) | (rw [List.length_append]; omega) | (simp; done) | (simp; omega)) (by first | omega | (rw [List.nil_append]; omega) | (rw [List.length_nil]; omega) | (rw [List.length_append]; omega) | (simp; done) | (simp; omega)) (hX1552.size) (fun u1570 w1571 ho1572 hp1573 hg1574 hw1575 => ?_)))
                have hX1576 := hX1552.write hp1573 hg1574 ((lo_own ho1557))
                have ho1577 := ho1553.keptA hg1574 ha1538
                have ho1578 := ho1554.keptA hg1574 ha1539
                have ho1579 := ho1555.keptA hg1574 ha1540
                have ho1580 := ho1556.keptA hg1574 ha1541
                have ho1581 := ho1569.keptA hg1574 ha1565
                have hb1582 := hb1558.keptA hg1574 ha1542
                have hb1583 := hb1559.keptA hg1574 ha1543
                have hb1584 := hb1560.keptA hg1574 ha1544
                have ha1585 : Apart at_.ownBlock u1570.ownBlock := app_ne_own ha1538 hw1575 ho1553.lt
                have ha1586 : Apart ov.ownBlock u1570.ownBlock := app_ne_own ha1539 hw1575 ho1554.lt
                have ha1587 : Apart bu.ownBlock u1570.ownBlock := app_ne_own ha1540 hw1575 ho1555.lt
                have ha1588 : Apart bv.ownBlock u1570.ownBlock := app_ne_own ha1541 hw1575 ho1556.lt
                have ha1589 : Apart u1546.ownBlock u1570.ownBlock := app_ne_own ha1565 hw1575 ho1569.lt
                have ha1590 : Apart (some b) u1570.ownBlock := app_ne_box ha1542 hw1575 hb1558.lt
                have ha1591 : Apart (some b1) u1570.ownBlock := app_ne_box ha1543 hw1575 hb1559.lt
                have ha1592 : Apart (some b74) u1570.ownBlock := app_ne_box ha1544 hw1575 hb1560.lt
                have hm1593 : ((([]) ++ ((ls.take i).drop 0)) ++ ([(⟨sortL (atL ats ((ns.getD k5 default).l)), sortL (atL ats ((ns.getD k5 default).r))⟩ : Nd)])).length = (([]) ++ ((ls.take i).drop 0)).length + 1 := by simp
                refine ⟨fun _ => hX1576.pins, ?_⟩
                refine dr_one (i := 11) (by kernel_rfl) (drOp1 (i := 11) rfl rfl rfl (want_none rfl _) (o_append (E := eNode) (v := u1570) (u := u1499) 48 Tryd.underlying28 ap69 (by decide) rfl rfl hX1576.pins ho1572 ((hr1500.mono (Pin.le_trans hle232 hlek233)).src hX1576.pins (by decide)) (by first | omega | (rw [List.nil_append]; omega) | (rw [List.length_nil]; omega) | (rw [List.length_append]; omega) | (simp; done) | (simp; omega)) (by first | omega | (rw [List.nil_append]; omega) | (rw [List.length_nil]; omega) | (rw [List.length_append]; omega) | (simp; done) | (simp; omega)) (hX1576.size) (fun u1594 w1595 ho1596 hp1597 hg1598 hw1599 => ?_)))
                have hX1600 := hX1576.write hp1597 hg1598 ((lo_own ho1572))
                have ho1601 := ho1577.keptA hg1598 ha1585
                have ho1602 := ho1578.keptA hg1598 ha1586
                have ho1603 := ho1579.keptA hg1598 ha1587
                have ho1604 := ho1580.keptA hg1598 ha1588
                have hb1605 := hb1582.keptA hg1598 ha1590
                have hb1606 := hb1583.keptA hg1598 ha1591
                have hb1607 := hb1584.keptA hg1598 ha1592
                have ha1608 : Apart at_.ownBlock u1594.ownBlock := app_ne_own ha1585 hw1599 ho1577.lt
                have ha1609 : Apart ov.ownBlock u1594.ownBlock := app_ne_own ha1586 hw1599 ho1578.lt
                have ha1610 : Apart bu.ownBlock u1594.ownBlock := app_ne_own ha1587 hw1599 ho1579.lt
                have ha1611 : Apart bv.ownBlock u1594.ownBlock := app_ne_own ha1588 hw1599 ho1580.lt
                have ha1612 : Apart (some b) u1594.ownBlock := app_ne_box ha1590 hw1599 hb1582.lt
                have ha1613 : Apart (some b1) u1594.ownBlock := app_ne_box ha1591 hw1599 hb1583.lt
                have ha1614 : Apart (some b74) u1594.ownBlock := app_ne_box ha1592 hw1599 hb1584.lt
                have hm1615 : (((([]) ++ ((ls.take i).drop 0)) ++ ([(⟨sortL (atL ats ((ns.getD k5 default).l)), sortL (atL ats ((ns.getD k5 default).r))⟩ : Nd)])) ++ ((ls.take ls.length).drop i)).length = ((([]) ++ ((ls.take i).drop 0)) ++ ([(⟨sortL (atL ats ((ns.getD k5 default).l)), sortL (atL ats ((ns.getD k5 default).r))⟩ : Nd)])).length + ((ls.take ls.length).drop i).length := List.length_append
                refine ⟨fun _ => hX1600.pins, ?_⟩
                refine dr_take (i := 12) rfl rfl rfl (want_none rfl _) (by kernel_rfl) (fun _ _ => r_assign (v := u1594) rfl) hX1600.pins ?_
                refine dr_end (by kernel_rfl) ?_
                exact cut_in ⟨_, u1594, GL3, (packS (x := 13) (packS (x := 11) (packS (x := 10) (packS (x := 9) (packS (x := 8) (packS (x := 7) (packS (x := 6) (packS (x := 5) (packS (x := 4) (packS (x := 1) (pack1 (x := 0) rfl) rfl) rfl) rfl) rfl) rfl) rfl) rfl) rfl) rfl) rfl), hX1600, (Pin.le_refl _), ho1601, ho1602, ho1603, ho1604, ho1596, hb1605, hb1606, hb1607, ha1608, ha1609, ha1610, ha1611, ha1612.symm, ha1613.symm, ha1614.symm⟩
              · skip
                refine (drOp1 (i := 6) rfl rfl rfl (want_none rfl _) (o_build1 (E := eNode) (e := 69) [c217, c218] (⟨sortL (atL ats ((ns.getD k5 default).l)), sortL (atL ats ((ns.getD k5 default).r))⟩ : Nd) Tryd.underlying28 sz69 zr69 ⟨_, _, rfl, (hr221.mono hlek233), (hr222.mono hlek233)⟩ rfl (by decide) hX1508.pins (fun u1616 w1617 ho1618 hp1619 hl1620 hk1621 => ?_)))
                have hX1622 := hX1508.step hp1619 hl1620
                have ho1623 := ho1509.below hl1620
                have ho1624 := ho1510.below hl1620
                have ho1625 := ho1511.below hl1620
                have ho1626 := ho1512.below hl1620
                have ho1627 := ho1523.below hl1620
                have hb1628 := hb1513.below hl1620
                have hb1629 := hb1514.below hl1620
                have hb1630 := hb1515.below hl1620
                have ha1631 : Apart u1616.ownBlock at_.ownBlock := new_ne_own hk1621 ho1509.lt
                have ha1632 : Apart u1616.ownBlock ov.ownBlock := new_ne_own hk1621 ho1510.lt
                have ha1633 : Apart u1616.ownBlock bu.ownBlock := new_ne_own hk1621 ho1511.lt
                have ha1634 : Apart u1616.ownBlock bv.ownBlock := new_ne_own hk1621 ho1512.lt
                have ha1635 : Apart u1616.ownBlock u1502.ownBlock := new_ne_own hk1621 ho1523.lt
                have ha1636 : Apart u1616.ownBlock (some b) := new_ne_box hk1621 hb1513.lt
                have ha1637 : Apart u1616.ownBlock (some b1) := new_ne_box hk1621 hb1514.lt
                have ha1638 : Apart u1616.ownBlock (some b74) := new_ne_box hk1621 hb1515.lt
                have ho1639 : Own eNode 69 GL3 w1617 w.heap.size u1616 ([(⟨sortL (atL ats ((ns.getD k5 default).l)), sortL (atL ats ((ns.getD k5 default).r))⟩ : Nd)]) := ho1618.weaken hX1508.size
                refine ⟨fun _ => hX1622.pins, ?_⟩
                refine dr_one (i := 4) (by kernel_rfl) (drOp1 (i := 4) rfl rfl rfl (want_none rfl _) (o_append (E := eNode) (v := u1502) (u := u1496) 48 Tryd.underlying28 ap69 (by decide) rfl rfl hX1622.pins ho1627 ((hr1497.mono (Pin.le_trans hle232 hlek233)).src hX1622.pins (by decide)) (by first | omega | (rw [List.nil_append]; omega) | (rw [List.length_nil]; omega) | (rw [List.length_append]; omega) | (simp; done) | (simp; omega)) (by first | omega | (rw [List.nil_append]; omega) | (rw [List.length_nil]; omega) | (rw [List.length_append]; omega) | (simp; done) | (simp; omega)) (hX1622.size) (fun u1640 w1641 ho1642 hp1643 hg1644 hw1645 => ?_)))
                have hX1646 := hX1622.write hp1643 hg1644 ((lo_own ho1627))
                have ho1647 := ho1623.keptA hg1644 ha1516.symm
                have ho1648 := ho1624.keptA hg1644 ha1517.symm
                have ho1649 := ho1625.keptA hg1644 ha1518.symm
                have ho1650 := ho1626.keptA hg1644 ha1519.symm
                have ho1651 := ho1639.keptA hg1644 ha1635
                have hb1652 := hb1628.keptA hg1644 ha1520.symm
                have hb1653 := hb1629.keptA hg1644 ha1521.symm
                have hb1654 := hb1630.keptA hg1644 ha1522.symm
                have ha1655 : Apart at_.ownBlock u1640.ownBlock := app_ne_own ha1516.symm hw1645 ho1623.lt
                have ha1656 : Apart ov.ownBlock u1640.ownBlock := app_ne_own ha1517.symm hw1645 ho1624.lt
                have ha1657 : Apart bu.ownBlock u1640.ownBlock := app_ne_own ha1518.symm hw1645 ho1625.lt
                have ha1658 : Apart bv.ownBlock u1640.ownBlock := app_ne_own ha1519.symm hw1645 ho1626.lt
                have ha1659 : Apart u1616.ownBlock u1640.ownBlock := app_ne_own ha1635 hw1645 ho1639.lt
                have ha1660 : Apart (some b) u1640.ownBlock := app_ne_box ha1520.symm hw1645 hb1628.lt
                have ha1661 : Apart (some b1) u1640.ownBlock := app_ne_box ha1521.symm hw1645 hb1629.lt
                have ha1662 : Apart (some b74) u1640.ownBlock := app_ne_box ha1522.symm hw1645 hb1630.lt
                have hm1663 : (([]) ++ ((ls.take i).drop 0)).length = ([]).length + ((ls.take i).drop 0).length := List.length_append
                refine ⟨fun _ => hX1646.pins, ?_⟩
                refine dr_one (i := 7) (by kernel_rfl) (drOp1 (i := 7) rfl rfl rfl (want_none rfl _) (o_append (E := eNode) (v := u1640) (u := u1616) 48 Tryd.underlying28 ap69 (by decide) rfl rfl hX1646.pins ho1642 ho1651.src (by first | omega | (rw [List.nil_append]; omega) | (rw [List.length_nil]; omega) | (rw [List.length_append]; omega) | (simp; done) | (simp; omega)) (by first | omega | (rw [List.nil_append]; omega) | (rw [List.length_nil]; omega) | (rw [List.length_append]; omega) | (simp; done) | (simp; omega)) (hX1646.size) (fun u1664 w1665 ho1666 hp1667 hg1668 hw1669 => ?_)))
                have hX1670 := hX1646.write hp1667 hg1668 ((lo_own ho1642))
                have ho1671 := ho1647.keptA hg1668 ha1655
                have ho1672 := ho1648.keptA hg1668 ha1656
                have ho1673 := ho1649.keptA hg1668 ha1657
                have ho1674 := ho1650.keptA hg1668 ha1658
                have ho1675 := ho1651.keptA hg1668 ha1659
                have hb1676 := hb1652.keptA hg1668 ha1660
                have hb1677 := hb1653.keptA hg1668 ha1661
                have hb1678 := hb1654.keptA hg1668 ha1662
                have ha1679 : Apart at_.ownBlock u1664.ownBlock := app_ne_own ha1655 hw1669 ho1647.lt
                have ha1680 : Apart ov.ownBlock u1664.ownBlock := app_ne_own ha1656 hw1669 ho1648.lt
                have ha1681 : Apart bu.ownBlock u1664.ownBlock := app_ne_own ha1657 hw1669 ho1649.lt
                have ha1682 : Apart bv.ownBlock u1664.ownBlock := app_ne_own ha1658 hw1669 ho1650.lt
                have ha1683 : Apart u1616.ownBlock u1664.ownBlock := app_ne_own ha1659 hw1669 ho1651.lt
                have ha1684 : Apart (some b) u1664.ownBlock := app_ne_box ha1660 hw1669 hb1652.lt
                have ha1685 : Apart (some b1) u1664.ownBlock := app_ne_box ha1661 hw1669 hb1653.lt
                have ha1686 : Apart (some b74) u1664.ownBlock := app_ne_box ha1662 hw1669 hb1654.lt
                have hm1687 : ((([]) ++ ((ls.take i).drop 0)) ++ ([(⟨sortL (atL ats ((ns.getD k5 default).l)), sortL (atL ats ((ns.getD k5 default).r))⟩ : Nd)])).length = (([]) ++ ((ls.take i).drop 0)).length + 1 := by simp
                refine ⟨fun _ => hX1670.pins, ?_⟩
                refine dr_one (i := 11) (by kernel_rfl) (drOp1 (i := 11) rfl rfl rfl (want_none rfl _) (o_append (E := eNode) (v := u1664) (u := u1499) 48 Tryd.underlying28 ap69 (by decide) rfl rfl hX1670.pins ho1666 ((hr1500.mono (Pin.le_trans hle232 hlek233)).src hX1670.pins (by decide)) (by first | omega | (rw [List.nil_append]; omega) | (rw [List.length_nil]; omega) | (rw [List.length_append]; omega) | (simp; done) | (simp; omega)) (by first | omega | (rw [List.nil_append]; omega) | (rw [List.length_nil]; omega) | (rw [List.length_append]; omega) | (simp; done) | (simp; omega)) (hX1670.size) (fun u1688 w1689 ho1690 hp1691 hg1692 hw1693 => ?_)))
                have hX1694 := hX1670.write hp1691 hg1692 ((lo_own ho1666))
                have ho1695 := ho1671.keptA hg1692 ha1679
                have ho1696 := ho1672.keptA hg1692 ha1680
                have ho1697 := ho1673.keptA hg1692 ha1681
                have ho1698 := ho1674.keptA hg1692 ha1682
                have hb1699 := hb1676.keptA hg1692 ha1684
                have hb1700 := hb1677.keptA hg1692 ha1685
                have hb1701 := hb1678.keptA hg1692 ha1686
                have ha1702 : Apart at_.ownBlock u1688.ownBlock := app_ne_own ha1679 hw1693 ho1671.lt
                have ha1703 : Apart ov.ownBlock u1688.ownBlock := app_ne_own ha1680 hw1693 ho1672.lt
                have ha1704 : Apart bu.ownBlock u1688.ownBlock := app_ne_own ha1681 hw1693 ho1673.lt
                have ha1705 : Apart bv.ownBlock u1688.ownBlock := app_ne_own ha1682 hw1693 ho1674.lt
                have ha1706 : Apart (some b) u1688.ownBlock := app_ne_box ha1684 hw1693 hb1676.lt
                have ha1707 : Apart (some b1) u1688.ownBlock := app_ne_box ha1685 hw1693 hb1677.lt
                have ha1708 : Apart (some b74) u1688.ownBlock := app_ne_box ha1686 hw1693 hb1678.lt
                have hm1709 : (((([]) ++ ((ls.take i).drop 0)) ++ ([(⟨sortL (atL ats ((ns.getD k5 default).l)), sortL (atL ats ((ns.getD k5 default).r))⟩ : Nd)])) ++ ((ls.take ls.length).drop i)).length = ((([]) ++ ((ls.take i).drop 0)) ++ ([(⟨sortL (atL ats ((ns.getD k5 default).l)), sortL (atL ats ((ns.getD k5 default).r))⟩ : Nd)])).length + ((ls.take ls.length).drop i).length := List.length_append
                refine ⟨fun _ => hX1694.pins, ?_⟩
                refine dr_take (i := 12) rfl rfl rfl (want_none rfl _) (by kernel_rfl) (fun _ _ => r_assign (v := u1688) rfl) hX1694.pins ?_
                refine dr_end (by kernel_rfl) ?_
                exact cut_in ⟨_, u1688, GL3, (packS (x := 13) (packS (x := 11) (packS (x := 10) (packS (x := 9) (packS (x := 8) (packS (x := 7) (packS (x := 6) (packS (x := 5) (packS (x := 4) (packS (x := 1) (pack1 (x := 0) rfl) rfl) rfl) rfl) rfl) rfl) rfl) rfl) rfl) rfl) rfl), hX1694, (Pin.le_refl _), ho1695, ho1696, ho1697, ho1698, ho1690, hb1699, hb1700, hb1701, ha1702, ha1703, ha1704, ha1705, ha1706.symm, ha1707.symm, ha1708.symm⟩
            · skip
              refine (drOp1 (i := 6) rfl rfl rfl (want_none rfl _) (o_build1 (E := eNode) (e := 69) [c217, c218] (⟨sortL (atL ats ((ns.getD k5 default).l)), sortL (atL ats ((ns.getD k5 default).r))⟩ : Nd) Tryd.underlying28 sz69 zr69 ⟨_, _, rfl, (hr221.mono hlek233), (hr222.mono hlek233)⟩ rfl (by decide) hX1488.pins (fun u1710 w1711 ho1712 hp1713 hl1714 hk1715 => ?_)))
              have hX1716 := hX1488.step hp1713 hl1714
              have ho1717 := ho1489.below hl1714
              have ho1718 := ho1490.below hl1714
              have ho1719 := ho1491.below hl1714
              have ho1720 := ho1492.below hl1714
              have hb1721 := hb1493.below hl1714
              have hb1722 := hb1494.below hl1714
              have hb1723 := hb1495.below hl1714
              have ha1724 : Apart u1710.ownBlock at_.ownBlock := new_ne_own hk1715 ho1489.lt
              have ha1725 : Apart u1710.ownBlock ov.ownBlock := new_ne_own hk1715 ho1490.lt
              have ha1726 : Apart u1710.ownBlock bu.ownBlock := new_ne_own hk1715 ho1491.lt
              have ha1727 : Apart u1710.ownBlock bv.ownBlock := new_ne_own hk1715 ho1492.lt
              have ha1728 : Apart u1710.ownBlock (some b) := new_ne_box hk1715 hb1493.lt
              have ha1729 : Apart u1710.ownBlock (some b1) := new_ne_box hk1715 hb1494.lt
              have ha1730 : Apart u1710.ownBlock (some b74) := new_ne_box hk1715 hb1495.lt
              have ho1731 : Own eNode 69 GL3 w1711 w.heap.size u1710 ([(⟨sortL (atL ats ((ns.getD k5 default).l)), sortL (atL ats ((ns.getD k5 default).r))⟩ : Nd)]) := ho1712.weaken hX1488.size
              refine ⟨fun _ => hX1716.pins, ?_⟩
              refine dr_one (i := 0) (by kernel_rfl) (drOp1 (i := 0) rfl rfl rfl (want_none rfl _) (o_build0 (E := eNode) (e := 69) Tryd.underlying28 sz69 hX1716.pins (fun u1732 w1733 ho1734 hp1735 hl1736 hk1737 => ?_)))
              have hX1738 := hX1716.step hp1735 hl1736
              have ho1739 := ho1717.below hl1736
              have ho1740 := ho1718.below hl1736
              have ho1741 := ho1719.below hl1736
              have ho1742 := ho1720.below hl1736
              have ho1743 := ho1731.below hl1736
              have hb1744 := hb1721.below hl1736
              have hb1745 := hb1722.below hl1736
              have hb1746 := hb1723.below hl1736
              have ha1747 : Apart u1732.ownBlock at_.ownBlock := new_ne_own hk1737 ho1717.lt
              have ha1748 : Apart u1732.ownBlock ov.ownBlock := new_ne_own hk1737 ho1718.lt
              have ha1749 : Apart u1732.ownBlock bu.ownBlock := new_ne_own hk1737 ho1719.lt
              have ha1750 : Apart u1732.ownBlock bv.ownBlock := new_ne_own hk1737 ho1720.lt
              have ha1751 : Apart u1732.ownBlock u1710.ownBlock := new_ne_own hk1737 ho1731.lt
              have ha1752 : Apart u1732.ownBlock (some b) := new_ne_box hk1737 hb1721.lt
              have ha1753 : Apart u1732.ownBlock (some b1) := new_ne_box hk1737 hb1722.lt
              have ha1754 : Apart u1732.ownBlock (some b74) := new_ne_box hk1737 hb1723.lt
              have ho1755 : Own eNode 69 GL3 w1733 w.heap.size u1732 ([]) := ho1734.weaken hX1716.size
              refine ⟨fun _ => hX1738.pins, ?_⟩
              refine dr_one (i := 4) (by kernel_rfl) (drOp1 (i := 4) rfl rfl rfl (want_none rfl _) (o_append (E := eNode) (v := u1732) (u := u1496) 48 Tryd.underlying28 ap69 (by decide) rfl rfl hX1738.pins ho1755 ((hr1497.mono (Pin.le_trans hle232 hlek233)).src hX1738.pins (by decide)) (by first | omega | (rw [List.nil_append]; omega) | (rw [List.length_nil]; omega) | (rw [List.length_append]; omega) | (simp; done) | (simp; omega)) (by first | omega | (rw [List.nil_append]; omega) | (rw [List.length_nil]; omega) | (rw [List.length_append]; omega) | (simp; done) | (simp; omega)) (hX1738.size) (fun u1756 w1757 ho1758 hp1759 hg1760 hw1761 => ?_)))
              have hX1762 := hX1738.write hp1759 hg1760 ((lo_own ho1755))
              have ho1763 := ho1739.keptA hg1760 ha1747.symm
              have ho1764 := ho1740.keptA hg1760 ha1748.symm
              have ho1765 := ho1741.keptA hg1760 ha1749.symm
              have ho1766 := ho1742.keptA hg1760 ha1750.symm
              have ho1767 := ho1743.keptA hg1760 ha1751.symm
              have hb1768 := hb1744.keptA hg1760 ha1752.symm
              have hb1769 := hb1745.keptA hg1760 ha1753.symm
              have hb1770 := hb1746.keptA hg1760 ha1754.symm
              have ha1771 : Apart at_.ownBlock u1756.ownBlock := app_ne_own ha1747.symm hw1761 ho1739.lt
              have ha1772 : Apart ov.ownBlock u1756.ownBlock := app_ne_own ha1748.symm hw1761 ho1740.lt
              have ha1773 : Apart bu.ownBlock u1756.ownBlock := app_ne_own ha1749.symm hw1761 ho1741.lt
              have ha1774 : Apart bv.ownBlock u1756.ownBlock := app_ne_own ha1750.symm hw1761 ho1742.lt
              have ha1775 : Apart u1710.ownBlock u1756.ownBlock := app_ne_own ha1751.symm hw1761 ho1743.lt
              have ha1776 : Apart (some b) u1756.ownBlock := app_ne_box ha1752.symm hw1761 hb1744.lt
              have ha1777 : Apart (some b1) u1756.ownBlock := app_ne_box ha1753.symm hw1761 hb1745.lt
              have ha1778 : Apart (some b74) u1756.ownBlock := app_ne_box ha1754.symm hw1761 hb1746.lt
              have hm1779 : (([]) ++ ((ls.take i).drop 0)).length = ([]).length + ((ls.take i).drop 0).length := List.length_append
              refine ⟨fun _ => hX1762.pins, ?_⟩
              refine dr_one (i := 7) (by kernel_rfl) (drOp1 (i := 7) rfl rfl rfl (want_none rfl _) (o_append (E := eNode) (v := u1756) (u := u1710) 48 Tryd.underlying28 ap69 (by decide) rfl rfl hX1762.pins ho1758 ho1767.src (by first | omega | (rw [List.nil_append]; omega) | (rw [List.length_nil]; omega) | (rw [List.length_append]; omega) | (simp; done) | (simp; omega)) (by first | omega | (rw [List.nil_append]; omega) | (rw [List.length_nil]; omega) | (rw [List.length_append]; omega) | (simp; done) | (simp; omega)) (hX1762.size) (fun u1780 w1781 ho1782 hp1783 hg1784 hw1785 => ?_)))
              have hX1786 := hX1762.write hp1783 hg1784 ((lo_own ho1758))
              have ho1787 := ho1763.keptA hg1784 ha1771
              have ho1788 := ho1764.keptA hg1784 ha1772
              have ho1789 := ho1765.keptA hg1784 ha1773
              have ho1790 := ho1766.keptA hg1784 ha1774
              have ho1791 := ho1767.keptA hg1784 ha1775
              have hb1792 := hb1768.keptA hg1784 ha1776
              have hb1793 := hb1769.keptA hg1784 ha1777
              have hb1794 := hb1770.keptA hg1784 ha1778
              have ha1795 : Apart at_.ownBlock u1780.ownBlock := app_ne_own ha1771 hw1785 ho1763.lt
              have ha1796 : Apart ov.ownBlock u1780.ownBlock := app_ne_own ha1772 hw1785 ho1764.lt
              have ha1797 : Apart bu.ownBlock u1780.ownBlock := app_ne_own ha1773 hw1785 ho1765.lt
              have ha1798 : Apart bv.ownBlock u1780.ownBlock := app_ne_own ha1774 hw1785 ho1766.lt
              have ha1799 : Apart u1710.ownBlock u1780.ownBlock := app_ne_own ha1775 hw1785 ho1767.lt
              have ha1800 : Apart (some b) u1780.ownBlock := app_ne_box ha1776 hw1785 hb1768.lt
              have ha1801 : Apart (some b1) u1780.ownBlock := app_ne_box ha1777 hw1785 hb1769.lt
              have ha1802 : Apart (some b74) u1780.ownBlock := app_ne_box ha1778 hw1785 hb1770.lt
              have hm1803 : ((([]) ++ ((ls.take i).drop 0)) ++ ([(⟨sortL (atL ats ((ns.getD k5 default).l)), sortL (atL ats ((ns.getD k5 default).r))⟩ : Nd)])).length = (([]) ++ ((ls.take i).drop 0)).length + 1 := by simp
              refine ⟨fun _ => hX1786.pins, ?_⟩
              refine dr_one (i := 11) (by kernel_rfl) (drOp1 (i := 11) rfl rfl rfl (want_none rfl _) (o_append (E := eNode) (v := u1780) (u := u1499) 48 Tryd.underlying28 ap69 (by decide) rfl rfl hX1786.pins ho1782 ((hr1500.mono (Pin.le_trans hle232 hlek233)).src hX1786.pins (by decide)) (by first | omega | (rw [List.nil_append]; omega) | (rw [List.length_nil]; omega) | (rw [List.length_append]; omega) | (simp; done) | (simp; omega)) (by first | omega | (rw [List.nil_append]; omega) | (rw [List.length_nil]; omega) | (rw [List.length_append]; omega) | (simp; done) | (simp; omega)) (hX1786.size) (fun u1804 w1805 ho1806 hp1807 hg1808 hw1809 => ?_)))
              have hX1810 := hX1786.write hp1807 hg1808 ((lo_own ho1782))
              have ho1811 := ho1787.keptA hg1808 ha1795
              have ho1812 := ho1788.keptA hg1808 ha1796
              have ho1813 := ho1789.keptA hg1808 ha1797
              have ho1814 := ho1790.keptA hg1808 ha1798
              have hb1815 := hb1792.keptA hg1808 ha1800
              have hb1816 := hb1793.keptA hg1808 ha1801
              have hb1817 := hb1794.keptA hg1808 ha1802
              have ha1818 : Apart at_.ownBlock u1804.ownBlock := app_ne_own ha1795 hw1809 ho1787.lt
              have ha1819 : Apart ov.ownBlock u1804.ownBlock := app_ne_own ha1796 hw1809 ho1788.lt
              have ha1820 : Apart bu.ownBlock u1804.ownBlock := app_ne_own ha1797 hw1809 ho1789.lt
              have ha1821 : Apart bv.ownBlock u1804.ownBlock := app_ne_own ha1798 hw1809 ho1790.lt
              have ha1822 : Apart (some b) u1804.ownBlock := app_ne_box ha1800 hw1809 hb1792.lt
              have ha1823 : Apart (some b1) u1804.ownBlock := app_ne_box ha1801 hw1809 hb1793.lt
              have ha1824 : Apart (some b74) u1804.ownBlock := app_ne_box ha1802 hw1809 hb1794.lt
              have hm1825 : (((([]) ++ ((ls.take i).drop 0)) ++ ([(⟨sortL (atL ats ((ns.getD k5 default).l)), sortL (atL ats ((ns.getD k5 default).r))⟩ : Nd)])) ++ ((ls.take ls.length).drop i)).length = ((([]) ++ ((ls.take i).drop 0)) ++ ([(⟨sortL (atL ats ((ns.getD k5 default).l)), sortL (atL ats ((ns.getD k5 default).r))⟩ : Nd)])).length + ((ls.take ls.length).drop i).length := List.length_append
              refine ⟨fun _ => hX1810.pins, ?_⟩
              refine dr_take (i := 12) rfl rfl rfl (want_none rfl _) (by kernel_rfl) (fun _ _ => r_assign (v := u1804) rfl) hX1810.pins ?_
              refine dr_end (by kernel_rfl) ?_
              exact cut_in ⟨_, u1804, GL3, (packS (x := 13) (packS (x := 11) (packS (x := 10) (packS (x := 9) (packS (x := 8) (packS (x := 7) (packS (x := 6) (packS (x := 5) (packS (x := 4) (packS (x := 1) (pack1 (x := 0) rfl) rfl) rfl) rfl) rfl) rfl) rfl) rfl) rfl) rfl) rfl), hX1810, (Pin.le_refl _), ho1811, ho1812, ho1813, ho1814, ho1806, hb1815, hb1816, hb1817, ha1818, ha1819, ha1820, ha1821, ha1822.symm, ha1823.symm, ha1824.symm⟩
        · skip
          have hq1826 := Gadd.pins hX178.pins bu
          have hr1827 := hw206.read
          refine c_draw (S := fun wz => BxR wz b [bu, bv] ∧ Pins (Gadd GL2 w176 bu) wz) (last := 24) (by kernel_rfl) rfl ?_
          have hl1828 : Below w176.heap.size w176 w176.drew := (Below.refl _ _).drew
          have hp1829 := hX178.pins.below hl1828
          have hX1830 := hX178.step hp1829 hl1828
          have ho1831 := hw204.below hl1828
          have ho1832 := hw205.below hl1828
          have ho1833 := hw206.below hl1828
          have ho1834 := hw207.below hl1828
          have hb1835 := hw208.below hl1828
          have hb1836 := hw209.below hl1828
          have hb1837 := hw210.below hl1828
          have hq1838 := hq1826.below hl1828
          refine dr_take (i := 0) rfl rfl rfl (want_none rfl _) (by kernel_rfl) (fun _ _ => r_move (v := at_) rfl) ⟨hb1835.reads, hq1838⟩ ?_
          refine dr_take (i := 1) rfl rfl rfl (want_none rfl _) (by kernel_rfl) (fun _ _ => r_move (v := (.pointer (some ⟨b, 0, none⟩))) rfl) ⟨hb1835.reads, hq1838⟩ ?_
          refine dr_take (i := 2) rfl rfl rfl (want_none rfl _) (by kernel_rfl) (fun _ _ => r_nil rfl) ⟨hb1835.reads, hq1838⟩ ?_
          refine dr_take (i := 3) rfl rfl rfl (want_none rfl _) (by kernel_rfl) (fun _ _ => r_fldp (k := 0) rfl Tryd.underlying71 rfl nz28 rfl) ⟨hb1835.reads, hq1838⟩ ?_
          refine dr_take (i := 4) rfl rfl rfl (want_none rfl _) (by kernel_rfl) (fun _ hS => r_ldp1 (u := bu) ag28 rfl (hS.1 0 _ rfl)) ⟨hb1835.reads, hq1838⟩ ?_
          refine dr_take (i := 5) rfl rfl rfl (want_none rfl _) (by kernel_rfl) (fun _ _ => r_move (v := (.int .i64 (k5 : Int))) rfl) ⟨hb1835.reads, hq1838⟩ ?_
          refine dr_take (i := 6) rfl rfl rfl (want_none rfl _) (by kernel_rfl) (fun _ _ => run_idx Tryd.underlying28 sz69 (v := bu) rfl rfl hr1827 (by omega) (by omega)) ⟨hb1835.reads, hq1838⟩ ?_
          refine dr_take (i := 7) rfl rfl rfl (want_none rfl _) (by kernel_rfl) (fun _ _ => run_fld (off := 0) Tryd.underlying69 rfl rfl nz38 (z := (k5 : Int)) (k := 0) rfl hr1827 (by omega) (by omega)) ⟨hb1835.reads, hq1838⟩ ?_
          obtain ⟨u1839, hr1840, hl1841⟩ := nm_nl (hw206.at (z := (k5 : Int)) (by omega) (by omega)) (j := k5) rfl
          have hm1842 := hr1840.max
          refine dr_take (i := 8) rfl rfl rfl (want_none rfl _) (by kernel_rfl) (fun _ hS => hl1841 ag38 rfl hS.2) ⟨hb1835.reads, hq1838⟩ ?_
          refine dr_take (i := 11) rfl rfl rfl (want_none rfl _) (by kernel_rfl) (fun _ _ => r_move (v := at_) rfl) ⟨hb1835.reads, hq1838⟩ ?_
          refine dr_take (i := 12) rfl rfl rfl (want_none rfl _) (by kernel_rfl) (fun _ _ => r_move (v := (.pointer (some ⟨b, 0, none⟩))) rfl) ⟨hb1835.reads, hq1838⟩ ?_
          refine dr_take (i := 13) rfl rfl rfl (want_none rfl _) (by kernel_rfl) (fun _ _ => r_nil rfl) ⟨hb1835.reads, hq1838⟩ ?_
          refine dr_take (i := 14) rfl rfl rfl (want_none rfl _) (by kernel_rfl) (fun _ _ => r_fldp (k := 0) rfl Tryd.underlying71 rfl nz28 rfl) ⟨hb1835.reads, hq1838⟩ ?_
          refine dr_take (i := 15) rfl rfl rfl (want_none rfl _) (by kernel_rfl) (fun _ hS => r_ldp1 (u := bu) ag28 rfl (hS.1 0 _ rfl)) ⟨hb1835.reads, hq1838⟩ ?_
          refine dr_take (i := 16) rfl rfl rfl (want_none rfl _) (by kernel_rfl) (fun _ _ => r_move (v := (.int .i64 (k5 : Int))) rfl) ⟨hb1835.reads, hq1838⟩ ?_
          refine dr_take (i := 17) rfl rfl rfl (want_none rfl _) (by kernel_rfl) (fun _ _ => run_idx Tryd.underlying28 sz69 (v := bu) rfl rfl hr1827 (by omega) (by omega)) ⟨hb1835.reads, hq1838⟩ ?_
          refine dr_take (i := 18) rfl rfl rfl (want_none rfl _) (by kernel_rfl) (fun _ _ => run_fld (off := 1) Tryd.underlying69 rfl rfl nz38 (z := (k5 : Int)) (k := 0) rfl hr1827 (by omega) (by omega)) ⟨hb1835.reads, hq1838⟩ ?_
          obtain ⟨u1843, hr1844, hl1845⟩ := nm_nr (hw206.at (z := (k5 : Int)) (by omega) (by omega)) (j := k5) rfl
          have hm1846 := hr1844.max
          refine dr_take (i := 19) rfl rfl rfl (want_none rfl _) (by kernel_rfl) (fun _ hS => hl1845 ag38 rfl hS.2) ⟨hb1835.reads, hq1838⟩ ?_
          refine dr_two (i := 9) (j := 23) (by kernel_rfl) ?_ ?_
          · skip
            refine (drOp1 (i := 9) rfl rfl rfl (want_none rfl _) (o_call (vs := [at_, u1839]) Tryd.func81 nm81 rfl rfl rfl ?_))
            refine Calls.mono (l3At_spec hX1830.pins (Gadd.pins hX1830.pins at_) ho1831.read hr1840 (by omega) (fun i hi => by have := hoo.left (j := k5) (by omega) hi; omega)) ?_
            rintro _ w1849 ⟨u1847, G1848, rfl, ho1850, hx1851⟩
            refine ⟨_, rfl, ?_⟩
            have hX1852 := hX1830.tr hx1851
            have ho1853 := ho1831.ext hx1851
            have ho1854 := ho1832.ext hx1851
            have ho1855 := ho1833.ext hx1851
            have ho1856 := ho1834.ext hx1851
            have hb1857 := hb1835.ext hx1851
            have hb1858 := hb1836.ext hx1851
            have hb1859 := hb1837.ext hx1851
            have ha1860 : Apart u1847.ownBlock at_.ownBlock := made_ne_own ho1850.lt ho1831.lt
            have ha1861 : Apart u1847.ownBlock ov.ownBlock := made_ne_own ho1850.lt ho1832.lt
            have ha1862 : Apart u1847.ownBlock bu.ownBlock := made_ne_own ho1850.lt ho1833.lt
            have ha1863 : Apart u1847.ownBlock bv.ownBlock := made_ne_own ho1850.lt ho1834.lt
            have ha1864 : Apart u1847.ownBlock (some b) := made_ne_box ho1850.lt hb1835.lt
            have ha1865 : Apart u1847.ownBlock (some b1) := made_ne_box ho1850.lt hb1836.lt
            have ha1866 : Apart u1847.ownBlock (some b74) := made_ne_box ho1850.lt hb1837.lt
            have ho1867 : Own eInt 3 G1848 w1849 w.heap.size u1847 (atL ats ((ns.getD k5 default).l)) := ho1850.weaken hX1830.size
            have hq1868 := hq1838.below hx1851.below
            refine ⟨fun _ => ⟨hb1857.reads, hq1868⟩, ?_⟩
            refine dr_two (i := 10) (j := 23) (by kernel_rfl) ?_ ?_
            · skip
              obtain ⟨G1869, hle1872, hX1871, hr1870, hf1873⟩ := ho1867.sealed hX1852
              have ho1874 := ho1853.moreO hle1872 hf1873 ha1860.symm
              have ho1875 := ho1854.moreO hle1872 hf1873 ha1861.symm
              have ho1876 := ho1855.moreO hle1872 hf1873 ha1862.symm
              have ho1877 := ho1856.moreO hle1872 hf1873 ha1863.symm
              have hb1878 := hb1857.moreO hf1873 ha1864.symm
              have hb1879 := hb1858.moreO hf1873 ha1865.symm
              have hb1880 := hb1859.moreO hf1873 ha1866.symm
              refine (drOp1 (i := 10) rfl rfl rfl (want_none rfl _) (o_call (vs := [u1847]) Tryd.func80 nm80 rfl rfl rfl ?_))
              refine Calls.mono (l3Sorted_spec hX1871.pins hr1870 (by first | omega | (rw [at_length]; omega))) ?_
              rintro _ w1883 ⟨u1881, G1882, rfl, hr1884, hx1885⟩
              refine ⟨_, rfl, ?_⟩
              have hX1886 := hX1871.tr hx1885
              have ho1887 := ho1874.ext hx1885
              have ho1888 := ho1875.ext hx1885
              have ho1889 := ho1876.ext hx1885
              have ho1890 := ho1877.ext hx1885
              have hb1891 := hb1878.ext hx1885
              have hb1892 := hb1879.ext hx1885
              have hb1893 := hb1880.ext hx1885
              have hq1894 := hq1868.below hx1885.below
              refine ⟨fun _ => ⟨hb1891.reads, hq1894⟩, ?_⟩
              refine dr_two (i := 20) (j := 23) (by kernel_rfl) ?_ ?_
              · skip
                refine (drOp1 (i := 20) rfl rfl rfl (want_none rfl _) (o_call (vs := [at_, u1843]) Tryd.func81 nm81 rfl rfl rfl ?_))
                refine Calls.mono (l3At_spec hX1886.pins (Gadd.pins hX1886.pins at_) ho1887.read (hr1844.mono (Pin.le_trans (Pin.le_trans hx1851.le hle1872) hx1885.le)) (by omega) (fun i hi => by have := hoo.right (j := k5) (by omega) hi; omega)) ?_
                rintro _ w1897 ⟨u1895, G1896, rfl, ho1898, hx1899⟩
                refine ⟨_, rfl, ?_⟩
                have hX1900 := hX1886.tr hx1899
                have ho1901 := ho1887.ext hx1899
                have ho1902 := ho1888.ext hx1899
                have ho1903 := ho1889.ext hx1899
                have ho1904 := ho1890.ext hx1899
                have hb1905 := hb1891.ext hx1899
                have hb1906 := hb1892.ext hx1899
                have hb1907 := hb1893.ext hx1899
                have ha1908 : Apart u1895.ownBlock at_.ownBlock := made_ne_own ho1898.lt ho1887.lt
                have ha1909 : Apart u1895.ownBlock ov.ownBlock := made_ne_own ho1898.lt ho1888.lt
                have ha1910 : Apart u1895.ownBlock bu.ownBlock := made_ne_own ho1898.lt ho1889.lt
                have ha1911 : Apart u1895.ownBlock bv.ownBlock := made_ne_own ho1898.lt ho1890.lt
                have ha1912 : Apart u1895.ownBlock (some b) := made_ne_box ho1898.lt hb1891.lt
                have ha1913 : Apart u1895.ownBlock (some b1) := made_ne_box ho1898.lt hb1892.lt
                have ha1914 : Apart u1895.ownBlock (some b74) := made_ne_box ho1898.lt hb1893.lt
                have ho1915 : Own eInt 3 G1896 w1897 w.heap.size u1895 (atL ats ((ns.getD k5 default).r)) := ho1898.weaken hX1886.size
                have hq1916 := hq1894.below hx1899.below
                refine ⟨fun _ => ⟨hb1905.reads, hq1916⟩, ?_⟩
                refine dr_two (i := 21) (j := 23) (by kernel_rfl) ?_ ?_
                · skip
                  obtain ⟨G1917, hle1920, hX1919, hr1918, hf1921⟩ := ho1915.sealed hX1900
                  have ho1922 := ho1901.moreO hle1920 hf1921 ha1908.symm
                  have ho1923 := ho1902.moreO hle1920 hf1921 ha1909.symm
                  have ho1924 := ho1903.moreO hle1920 hf1921 ha1910.symm
                  have ho1925 := ho1904.moreO hle1920 hf1921 ha1911.symm
                  have hb1926 := hb1905.moreO hf1921 ha1912.symm
                  have hb1927 := hb1906.moreO hf1921 ha1913.symm
                  have hb1928 := hb1907.moreO hf1921 ha1914.symm
                  refine (drOp1 (i := 21) rfl rfl rfl (want_none rfl _) (o_call (vs := [u1895]) Tryd.func80 nm80 rfl rfl rfl ?_))
                  refine Calls.mono (l3Sorted_spec hX1919.pins hr1918 (by first | omega | (rw [at_length]; omega))) ?_
                  rintro _ w1931 ⟨u1929, G1930, rfl, hr1932, hx1933⟩
                  refine ⟨_, rfl, ?_⟩
                  have hX1934 := hX1919.tr hx1933
                  have ho1935 := ho1922.ext hx1933
                  have ho1936 := ho1923.ext hx1933
                  have ho1937 := ho1924.ext hx1933
                  have ho1938 := ho1925.ext hx1933
                  have hb1939 := hb1926.ext hx1933
                  have hb1940 := hb1927.ext hx1933
                  have hb1941 := hb1928.ext hx1933
                  have hq1942 := hq1916.below hx1933.below
                  refine ⟨fun _ => ⟨hb1939.reads, hq1942⟩, ?_⟩
                  refine dr_take (i := 22) rfl rfl rfl (want_none rfl _) (by kernel_rfl) (fun _ _ => r_build [(.slice none 0 0), (.slice none 0 0)] [u1881, u1929] [(0, u1881, [u1881]), (1, u1929, [u1929])] Tryd.underlying69 zr69 rfl pl69 rfl (List.forall_mem_cons.2 ⟨(cells_one hr1884.one), (List.forall_mem_cons.2 ⟨(cells_one hr1932.one), (fun _ h => by cases h)⟩)⟩) rfl) ⟨hb1939.reads, hq1942⟩ ?_
                  refine dr_one (i := 23) (by kernel_rfl) (drOp1 (i := 23) rfl rfl rfl (want_none rfl _) (o_alloc [(.slice none 0 0), (.slice none 0 0)] zr69 rfl hX1934.pins (fun b1943 w1944 hk1945 hb1946 hp1947 hl1948 => ?_)))
                  have hX1949 := hX1934.step hp1947 hl1948
                  have ho1950 := ho1935.below hl1948
                  have ho1951 := ho1936.below hl1948
                  have ho1952 := ho1937.below hl1948
                  have ho1953 := ho1938.below hl1948
                  have hb1954 := hb1939.below hl1948
                  have hb1955 := hb1940.below hl1948
                  have hb1956 := hb1941.below hl1948
                  have ha1957 : Apart (some b1943) at_.ownBlock := new_ne_own (congrArg some hk1945) ho1935.lt
                  have ha1958 : Apart (some b1943) ov.ownBlock := new_ne_own (congrArg some hk1945) ho1936.lt
                  have ha1959 : Apart (some b1943) bu.ownBlock := new_ne_own (congrArg some hk1945) ho1937.lt
                  have ha1960 : Apart (some b1943) bv.ownBlock := new_ne_own (congrArg some hk1945) ho1938.lt
                  have ha1961 : Apart (some b1943) (some b) := new_ne_box (congrArg some hk1945) hb1939.lt
                  have ha1962 : Apart (some b1943) (some b1) := new_ne_box (congrArg some hk1945) hb1940.lt
                  have ha1963 : Apart (some b1943) (some b74) := new_ne_box (congrArg some hk1945) hb1941.lt
                  have hlo1964 : w.heap.size ≤ b1943 := by have := hX1934.size; omega
                  have hq1965 := hq1942.below hl1948
                  refine ⟨fun _ => ⟨hb1954.reads, hq1965⟩, ?_⟩
                  refine dr_one (i := 24) (by kernel_rfl) (drOp0 (i := 24) rfl rfl rfl (want_none rfl _) (o_stp (cs' := [u1881, u1929]) (us := [u1881, u1929]) (v := (.agg [u1881, u1929].toArray)) sz69 rfl rfl rfl (ones2 hr1884.one hr1932.one) hX1949.pins hb1946 (Nat.le_of_ble_eq_true rfl) rfl (fun w1966 hb1967 hp1968 hg1969 hz1970 => ?_)))
                  have hX1971 := hX1949.write hp1968 hg1969 ((lo_box hlo1964))
                  have ho1972 := ho1950.keptA hg1969 ha1957.symm
                  have ho1973 := ho1951.keptA hg1969 ha1958.symm
                  have ho1974 := ho1952.keptA hg1969 ha1959.symm
                  have ho1975 := ho1953.keptA hg1969 ha1960.symm
                  have hb1976 := hb1954.keptA hg1969 ha1961.symm
                  have hb1977 := hb1955.keptA hg1969 ha1962.symm
                  have hb1978 := hb1956.keptA hg1969 ha1963.symm
                  obtain ⟨G1979, hle1980, hX1981, hbp1982, hf1983⟩ := hb1967.shut hX1971 hlo1964
                  have ho1984 := ho1972.moreA hle1980 hf1983 ha1957.symm
                  have ho1985 := ho1973.moreA hle1980 hf1983 ha1958.symm
                  have ho1986 := ho1974.moreA hle1980 hf1983 ha1959.symm
                  have ho1987 := ho1975.moreA hle1980 hf1983 ha1960.symm
                  have hb1988 := hb1976.moreA hf1983 ha1961.symm
                  have hb1989 := hb1977.moreA hf1983 ha1962.symm
                  have hb1990 := hb1978.moreA hf1983 ha1963.symm
                  refine ⟨fun h => absurd rfl h, ?_⟩
                  refine dr_end (by kernel_rfl) ?_
                  exact cut_in ⟨_, b1943, u1881, u1929, G1979, (packS (x := 12) (packS (x := 11) (packS (x := 10) (packS (x := 9) (packS (x := 8) (packS (x := 7) (packS (x := 6) (packS (x := 5) (packS (x := 4) (packS (x := 1) (pack1 (x := 0) rfl) rfl) rfl) rfl) rfl) rfl) rfl) rfl) rfl) rfl) rfl), hX1981, (Pin.le_trans (Pin.le_trans (Pin.le_trans (Pin.le_trans (Pin.le_trans (Pin.le_trans hx1851.le hle1872) hx1885.le) hx1899.le) hle1920) hx1933.le) hle1980), (hr1884.mono (Pin.le_trans (Pin.le_trans (Pin.le_trans hx1899.le hle1920) hx1933.le) hle1980)), (hr1932.mono hle1980), ho1984, ho1985, ho1986, ho1987, hb1988, hb1989, hb1990, (hbp1982.mono (Pin.le_refl _))⟩
                · skip
                  refine (drOp1 (i := 23) rfl rfl rfl (want_none rfl _) (o_alloc [(.slice none 0 0), (.slice none 0 0)] zr69 rfl hX1900.pins (fun b1991 w1992 hk1993 hb1994 hp1995 hl1996 => ?_)))
                  have hX1997 := hX1900.step hp1995 hl1996
                  have ho1998 := ho1901.below hl1996
                  have ho1999 := ho1902.below hl1996
                  have ho2000 := ho1903.below hl1996
                  have ho2001 := ho1904.below hl1996
                  have ho2002 := ho1915.below hl1996
                  have hb2003 := hb1905.below hl1996
                  have hb2004 := hb1906.below hl1996
                  have hb2005 := hb1907.below hl1996
                  have ha2006 : Apart (some b1991) at_.ownBlock := new_ne_own (congrArg some hk1993) ho1901.lt
                  have ha2007 : Apart (some b1991) ov.ownBlock := new_ne_own (congrArg some hk1993) ho1902.lt
                  have ha2008 : Apart (some b1991) bu.ownBlock := new_ne_own (congrArg some hk1993) ho1903.lt
                  have ha2009 : Apart (some b1991) bv.ownBlock := new_ne_own (congrArg some hk1993) ho1904.lt
                  have ha2010 : Apart (some b1991) u1895.ownBlock := new_ne_own (congrArg some hk1993) ho1915.lt
                  have ha2011 : Apart (some b1991) (some b) := new_ne_box (congrArg some hk1993) hb1905.lt
                  have ha2012 : Apart (some b1991) (some b1) := new_ne_box (congrArg some hk1993) hb1906.lt
                  have ha2013 : Apart (some b1991) (some b74) := new_ne_box (congrArg some hk1993) hb1907.lt
                  have hlo2014 : w.heap.size ≤ b1991 := by have := hX1900.size; omega
                  have hq2015 := hq1916.below hl1996
                  refine ⟨fun _ => ⟨hb2003.reads, hq2015⟩, ?_⟩
                  obtain ⟨G2016, hle2019, hX2018, hr2017, hf2020⟩ := ho2002.sealed hX1997
                  have ho2021 := ho1998.moreO hle2019 hf2020 ha1908.symm
                  have ho2022 := ho1999.moreO hle2019 hf2020 ha1909.symm
                  have ho2023 := ho2000.moreO hle2019 hf2020 ha1910.symm
                  have ho2024 := ho2001.moreO hle2019 hf2020 ha1911.symm
                  have hb2025 := hb2003.moreO hf2020 ha1912.symm
                  have hb2026 := hb2004.moreO hf2020 ha1913.symm
                  have hb2027 := hb2005.moreO hf2020 ha1914.symm
                  have hb2028 := hb1994.moreO hf2020 ha2010
                  refine dr_one (i := 21) (by kernel_rfl) (drOp1 (i := 21) rfl rfl rfl (want_none rfl _) (o_call (vs := [u1895]) Tryd.func80 nm80 rfl rfl rfl ?_))
                  refine Calls.mono (l3Sorted_spec hX2018.pins hr2017 (by first | omega | (rw [at_length]; omega))) ?_
                  rintro _ w2031 ⟨u2029, G2030, rfl, hr2032, hx2033⟩
                  refine ⟨_, rfl, ?_⟩
                  have hX2034 := hX2018.tr hx2033
                  have ho2035 := ho2021.ext hx2033
                  have ho2036 := ho2022.ext hx2033
                  have ho2037 := ho2023.ext hx2033
                  have ho2038 := ho2024.ext hx2033
                  have hb2039 := hb2025.ext hx2033
                  have hb2040 := hb2026.ext hx2033
                  have hb2041 := hb2027.ext hx2033
                  have hb2042 := hb2028.ext hx2033
                  have hq2043 := hq2015.below hx2033.below
                  refine ⟨fun _ => ⟨hb2039.reads, hq2043⟩, ?_⟩
                  refine dr_take (i := 22) rfl rfl rfl (want_none rfl _) (by kernel_rfl) (fun _ _ => r_build [(.slice none 0 0), (.slice none 0 0)] [u1881, u2029] [(0, u1881, [u1881]), (1, u2029, [u2029])] Tryd.underlying69 zr69 rfl pl69 rfl (List.forall_mem_cons.2 ⟨(cells_one hr1884.one), (List.forall_mem_cons.2 ⟨(cells_one hr2032.one), (fun _ h => by cases h)⟩)⟩) rfl) ⟨hb2039.reads, hq2043⟩ ?_
                  refine dr_one (i := 24) (by kernel_rfl) (drOp0 (i := 24) rfl rfl rfl (want_none rfl _) (o_stp (cs' := [u1881, u2029]) (us := [u1881, u2029]) (v := (.agg [u1881, u2029].toArray)) sz69 rfl rfl rfl (ones2 hr1884.one hr2032.one) hX2034.pins hb2042 (Nat.le_of_ble_eq_true rfl) rfl (fun w2044 hb2045 hp2046 hg2047 hz2048 => ?_)))
                  have hX2049 := hX2034.write hp2046 hg2047 ((lo_box hlo2014))
                  have ho2050 := ho2035.keptA hg2047 ha2006.symm
                  have ho2051 := ho2036.keptA hg2047 ha2007.symm
                  have ho2052 := ho2037.keptA hg2047 ha2008.symm
                  have ho2053 := ho2038.keptA hg2047 ha2009.symm
                  have hb2054 := hb2039.keptA hg2047 ha2011.symm
                  have hb2055 := hb2040.keptA hg2047 ha2012.symm
                  have hb2056 := hb2041.keptA hg2047 ha2013.symm
                  obtain ⟨G2057, hle2058, hX2059, hbp2060, hf2061⟩ := hb2045.shut hX2049 hlo2014
                  have ho2062 := ho2050.moreA hle2058 hf2061 ha2006.symm
                  have ho2063 := ho2051.moreA hle2058 hf2061 ha2007.symm
                  have ho2064 := ho2052.moreA hle2058 hf2061 ha2008.symm
                  have ho2065 := ho2053.moreA hle2058 hf2061 ha2009.symm
                  have hb2066 := hb2054.moreA hf2061 ha2011.symm
                  have hb2067 := hb2055.moreA hf2061 ha2012.symm
                  have hb2068 := hb2056.moreA hf2061 ha2013.symm
                  refine ⟨fun h => absurd rfl h, ?_⟩
                  refine dr_end (by kernel_rfl) ?_
                  exact cut_in ⟨_, b1991, u1881, u2029, G2057, (packS (x := 12) (packS (x := 11) (packS (x := 10) (packS (x := 9) (packS (x := 8) (packS (x := 7) (packS (x := 6) (packS (x := 5) (packS (x := 4) (packS (x := 1) (pack1 (x := 0) rfl) rfl) rfl) rfl) rfl) rfl) rfl) rfl) rfl) rfl) rfl), hX2059, (Pin.le_trans (Pin.le_trans (Pin.le_trans (Pin.le_trans (Pin.le_trans (Pin.le_trans hx1851.le hle1872) hx1885.le) hx1899.le) hle2019) hx2033.le) hle2058), (hr1884.mono (Pin.le_trans (Pin.le_trans (Pin.le_trans hx1899.le hle2019) hx2033.le) hle2058)), (hr2032.mono hle2058), ho2062, ho2063, ho2064, ho2065, hb2066, hb2067, hb2068, (hbp2060.mono (Pin.le_refl _))⟩
              · skip
                refine (drOp1 (i := 23) rfl rfl rfl (want_none rfl _) (o_alloc [(.slice none 0 0), (.slice none 0 0)] zr69 rfl hX1886.pins (fun b2069 w2070 hk2071 hb2072 hp2073 hl2074 => ?_)))
                have hX2075 := hX1886.step hp2073 hl2074
                have ho2076 := ho1887.below hl2074
                have ho2077 := ho1888.below hl2074
                have ho2078 := ho1889.below hl2074
                have ho2079 := ho1890.below hl2074
                have hb2080 := hb1891.below hl2074
                have hb2081 := hb1892.below hl2074
                have hb2082 := hb1893.below hl2074
                have ha2083 : Apart (some b2069) at_.ownBlock := new_ne_own (congrArg some hk2071) ho1887.lt
                have ha2084 : Apart (some b2069) ov.ownBlock := new_ne_own (congrArg some hk2071) ho1888.lt
                have ha2085 : Apart (some b2069) bu.ownBlock := new_ne_own (congrArg some hk2071) ho1889.lt
                have ha2086 : Apart (some b2069) bv.ownBlock := new_ne_own (congrArg some hk2071) ho1890.lt
                have ha2087 : Apart (some b2069) (some b) := new_ne_box (congrArg some hk2071) hb1891.lt
                have ha2088 : Apart (some b2069) (some b1) := new_ne_box (congrArg some hk2071) hb1892.lt
                have ha2089 : Apart (some b2069) (some b74) := new_ne_box (congrArg some hk2071) hb1893.lt
                have hlo2090 : w.heap.size ≤ b2069 := by have := hX1886.size; omega
                have hq2091 := hq1894.below hl2074
                refine ⟨fun _ => ⟨hb2080.reads, hq2091⟩, ?_⟩
                refine dr_one (i := 20) (by kernel_rfl) (drOp1 (i := 20) rfl rfl rfl (want_none rfl _) (o_call (vs := [at_, u1843]) Tryd.func81 nm81 rfl rfl rfl ?_))
                refine Calls.mono (l3At_spec hX2075.pins (Gadd.pins hX2075.pins at_) ho2076.read (hr1844.mono (Pin.le_trans (Pin.le_trans hx1851.le hle1872) hx1885.le)) (by omega) (fun i hi => by have := hoo.right (j := k5) (by omega) hi; omega)) ?_
                rintro _ w2094 ⟨u2092, G2093, rfl, ho2095, hx2096⟩
                refine ⟨_, rfl, ?_⟩
                have hX2097 := hX2075.tr hx2096
                have ho2098 := ho2076.ext hx2096
                have ho2099 := ho2077.ext hx2096
                have ho2100 := ho2078.ext hx2096
                have ho2101 := ho2079.ext hx2096
                have hb2102 := hb2080.ext hx2096
                have hb2103 := hb2081.ext hx2096
                have hb2104 := hb2082.ext hx2096
                have hb2105 := hb2072.ext hx2096
                have ha2106 : Apart u2092.ownBlock at_.ownBlock := made_ne_own ho2095.lt ho2076.lt
                have ha2107 : Apart u2092.ownBlock ov.ownBlock := made_ne_own ho2095.lt ho2077.lt
                have ha2108 : Apart u2092.ownBlock bu.ownBlock := made_ne_own ho2095.lt ho2078.lt
                have ha2109 : Apart u2092.ownBlock bv.ownBlock := made_ne_own ho2095.lt ho2079.lt
                have ha2110 : Apart u2092.ownBlock (some b) := made_ne_box ho2095.lt hb2080.lt
                have ha2111 : Apart u2092.ownBlock (some b1) := made_ne_box ho2095.lt hb2081.lt
                have ha2112 : Apart u2092.ownBlock (some b74) := made_ne_box ho2095.lt hb2082.lt
                have ha2113 : Apart u2092.ownBlock (some b2069) := made_ne_box ho2095.lt hb2072.lt
                have ho2114 : Own eInt 3 G2093 w2094 w.heap.size u2092 (atL ats ((ns.getD k5 default).r)) := ho2095.weaken hX2075.size
                have hq2115 := hq2091.below hx2096.below
                refine ⟨fun _ => ⟨hb2102.reads, hq2115⟩, ?_⟩
                obtain ⟨G2116, hle2119, hX2118, hr2117, hf2120⟩ := ho2114.sealed hX2097
                have ho2121 := ho2098.moreO hle2119 hf2120 ha2106.symm
                have ho2122 := ho2099.moreO hle2119 hf2120 ha2107.symm
                have ho2123 := ho2100.moreO hle2119 hf2120 ha2108.symm
                have ho2124 := ho2101.moreO hle2119 hf2120 ha2109.symm
                have hb2125 := hb2102.moreO hf2120 ha2110.symm
                have hb2126 := hb2103.moreO hf2120 ha2111.symm
                have hb2127 := hb2104.moreO hf2120 ha2112.symm
                have hb2128 := hb2105.moreO hf2120 ha2113.symm
                refine dr_one (i := 21) (by kernel_rfl) (drOp1 (i := 21) rfl rfl rfl (want_none rfl _) (o_call (vs := [u2092]) Tryd.func80 nm80 rfl rfl rfl ?_))
                refine Calls.mono (l3Sorted_spec hX2118.pins hr2117 (by first | omega | (rw [at_length]; omega))) ?_
                rintro _ w2131 ⟨u2129, G2130, rfl, hr2132, hx2133⟩
                refine ⟨_, rfl, ?_⟩
                have hX2134 := hX2118.tr hx2133
                have ho2135 := ho2121.ext hx2133
                have ho2136 := ho2122.ext hx2133
                have ho2137 := ho2123.ext hx2133
                have ho2138 := ho2124.ext hx2133
                have hb2139 := hb2125.ext hx2133
                have hb2140 := hb2126.ext hx2133
                have hb2141 := hb2127.ext hx2133
                have hb2142 := hb2128.ext hx2133
                have hq2143 := hq2115.below hx2133.below
                refine ⟨fun _ => ⟨hb2139.reads, hq2143⟩, ?_⟩
                refine dr_take (i := 22) rfl rfl rfl (want_none rfl _) (by kernel_rfl) (fun _ _ => r_build [(.slice none 0 0), (.slice none 0 0)] [u1881, u2129] [(0, u1881, [u1881]), (1, u2129, [u2129])] Tryd.underlying69 zr69 rfl pl69 rfl (List.forall_mem_cons.2 ⟨(cells_one hr1884.one), (List.forall_mem_cons.2 ⟨(cells_one hr2132.one), (fun _ h => by cases h)⟩)⟩) rfl) ⟨hb2139.reads, hq2143⟩ ?_
                refine dr_one (i := 24) (by kernel_rfl) (drOp0 (i := 24) rfl rfl rfl (want_none rfl _) (o_stp (cs' := [u1881, u2129]) (us := [u1881, u2129]) (v := (.agg [u1881, u2129].toArray)) sz69 rfl rfl rfl (ones2 hr1884.one hr2132.one) hX2134.pins hb2142 (Nat.le_of_ble_eq_true rfl) rfl (fun w2144 hb2145 hp2146 hg2147 hz2148 => ?_)))
                have hX2149 := hX2134.write hp2146 hg2147 ((lo_box hlo2090))
                have ho2150 := ho2135.keptA hg2147 ha2083.symm
                have ho2151 := ho2136.keptA hg2147 ha2084.symm
                have ho2152 := ho2137.keptA hg2147 ha2085.symm
                have ho2153 := ho2138.keptA hg2147 ha2086.symm
                have hb2154 := hb2139.keptA hg2147 ha2087.symm
                have hb2155 := hb2140.keptA hg2147 ha2088.symm
                have hb2156 := hb2141.keptA hg2147 ha2089.symm
                obtain ⟨G2157, hle2158, hX2159, hbp2160, hf2161⟩ := hb2145.shut hX2149 hlo2090
                have ho2162 := ho2150.moreA hle2158 hf2161 ha2083.symm
                have ho2163 := ho2151.moreA hle2158 hf2161 ha2084.symm
                have ho2164 := ho2152.moreA hle2158 hf2161 ha2085.symm
                have ho2165 := ho2153.moreA hle2158 hf2161 ha2086.symm
                have hb2166 := hb2154.moreA hf2161 ha2087.symm
                have hb2167 := hb2155.moreA hf2161 ha2088.symm
                have hb2168 := hb2156.moreA hf2161 ha2089.symm
                refine ⟨fun h => absurd rfl h, ?_⟩
                refine dr_end (by kernel_rfl) ?_
                exact cut_in ⟨_, b2069, u1881, u2129, G2157, (packS (x := 12) (packS (x := 11) (packS (x := 10) (packS (x := 9) (packS (x := 8) (packS (x := 7) (packS (x := 6) (packS (x := 5) (packS (x := 4) (packS (x := 1) (pack1 (x := 0) rfl) rfl) rfl) rfl) rfl) rfl) rfl) rfl) rfl) rfl) rfl), hX2159, (Pin.le_trans (Pin.le_trans (Pin.le_trans (Pin.le_trans (Pin.le_trans (Pin.le_trans hx1851.le hle1872) hx1885.le) hx2096.le) hle2119) hx2133.le) hle2158), (hr1884.mono (Pin.le_trans (Pin.le_trans (Pin.le_trans hx2096.le hle2119) hx2133.le) hle2158)), (hr2132.mono hle2158), ho2162, ho2163, ho2164, ho2165, hb2166, hb2167, hb2168, (hbp2160.mono (Pin.le_refl _))⟩
            · skip
              refine (drOp1 (i := 23) rfl rfl rfl (want_none rfl _) (o_alloc [(.slice none 0 0), (.slice none 0 0)] zr69 rfl hX1852.pins (fun b2169 w2170 hk2171 hb2172 hp2173 hl2174 => ?_)))
              have hX2175 := hX1852.step hp2173 hl2174
              have ho2176 := ho1853.below hl2174
              have ho2177 := ho1854.below hl2174
              have ho2178 := ho1855.below hl2174
              have ho2179 := ho1856.below hl2174
              have ho2180 := ho1867.below hl2174
              have hb2181 := hb1857.below hl2174
              have hb2182 := hb1858.below hl2174
              have hb2183 := hb1859.below hl2174
              have ha2184 : Apart (some b2169) at_.ownBlock := new_ne_own (congrArg some hk2171) ho1853.lt
              have ha2185 : Apart (some b2169) ov.ownBlock := new_ne_own (congrArg some hk2171) ho1854.lt
              have ha2186 : Apart (some b2169) bu.ownBlock := new_ne_own (congrArg some hk2171) ho1855.lt
              have ha2187 : Apart (some b2169) bv.ownBlock := new_ne_own (congrArg some hk2171) ho1856.lt
              have ha2188 : Apart (some b2169) u1847.ownBlock := new_ne_own (congrArg some hk2171) ho1867.lt
              have ha2189 : Apart (some b2169) (some b) := new_ne_box (congrArg some hk2171) hb1857.lt
              have ha2190 : Apart (some b2169) (some b1) := new_ne_box (congrArg some hk2171) hb1858.lt
              have ha2191 : Apart (some b2169) (some b74) := new_ne_box (congrArg some hk2171) hb1859.lt
              have hlo2192 : w.heap.size ≤ b2169 := by have := hX1852.size; omega
              have hq2193 := hq1868.below hl2174
              refine ⟨fun _ => ⟨hb2181.reads, hq2193⟩, ?_⟩
              obtain ⟨G2194, hle2197, hX2196, hr2195, hf2198⟩ := ho2180.sealed hX2175
              have ho2199 := ho2176.moreO hle2197 hf2198 ha1860.symm
              have ho2200 := ho2177.moreO hle2197 hf2198 ha1861.symm
              have ho2201 := ho2178.moreO hle2197 hf2198 ha1862.symm
              have ho2202 := ho2179.moreO hle2197 hf2198 ha1863.symm
              have hb2203 := hb2181.moreO hf2198 ha1864.symm
              have hb2204 := hb2182.moreO hf2198 ha1865.symm
              have hb2205 := hb2183.moreO hf2198 ha1866.symm
              have hb2206 := hb2172.moreO hf2198 ha2188
              refine dr_one (i := 10) (by kernel_rfl) (drOp1 (i := 10) rfl rfl rfl (want_none rfl _) (o_call (vs := [u1847]) Tryd.func80 nm80 rfl rfl rfl ?_))
              refine Calls.mono (l3Sorted_spec hX2196.pins hr2195 (by first | omega | (rw [at_length]; omega))) ?_
              rintro _ w2209 ⟨u2207, G2208, rfl, hr2210, hx2211⟩
              refine ⟨_, rfl, ?_⟩
              have hX2212 := hX2196.tr hx2211
              have ho2213 := ho2199.ext hx2211
              have ho2214 := ho2200.ext hx2211
              have ho2215 := ho2201.ext hx2211
              have ho2216 := ho2202.ext hx2211
              have hb2217 := hb2203.ext hx2211
              have hb2218 := hb2204.ext hx2211
              have hb2219 := hb2205.ext hx2211
              have hb2220 := hb2206.ext hx2211
              have hq2221 := hq2193.below hx2211.below
              refine ⟨fun _ => ⟨hb2217.reads, hq2221⟩, ?_⟩
              refine dr_one (i := 20) (by kernel_rfl) (drOp1 (i := 20) rfl rfl rfl (want_none rfl _) (o_call (vs := [at_, u1843]) Tryd.func81 nm81 rfl rfl rfl ?_))
              refine Calls.mono (l3At_spec hX2212.pins (Gadd.pins hX2212.pins at_) ho2213.read (hr1844.mono (Pin.le_trans (Pin.le_trans hx1851.le hle2197) hx2211.le)) (by omega) (fun i hi => by have := hoo.right (j := k5) (by omega) hi; omega)) ?_
              rintro _ w2224 ⟨u2222, G2223, rfl, ho2225, hx2226⟩
              refine ⟨_, rfl, ?_⟩
              have hX2227 := hX2212.tr hx2226
              have ho2228 := ho2213.ext hx2226
              have ho2229 := ho2214.ext hx2226
              have ho2230 := ho2215.ext hx2226
              have ho2231 := ho2216.ext hx2226
              have hb2232 := hb2217.ext hx2226
              have hb2233 := hb2218.ext hx2226
              have hb2234 := hb2219.ext hx2226
              have hb2235 := hb2220.ext hx2226
              have ha2236 : Apart u2222.ownBlock at_.ownBlock := made_ne_own ho2225.lt ho2213.lt
              have ha2237 : Apart u2222.ownBlock ov.ownBlock := made_ne_own ho2225.lt ho2214.lt
              have ha2238 : Apart u2222.ownBlock bu.ownBlock := made_ne_own ho2225.lt ho2215.lt
              have ha2239 : Apart u2222.ownBlock bv.ownBlock := made_ne_own ho2225.lt ho2216.lt
              have ha2240 : Apart u2222.ownBlock (some b) := made_ne_box ho2225.lt hb2217.lt
              have ha2241 : Apart u2222.ownBlock (some b1) := made_ne_box ho2225.lt hb2218.lt
              have ha2242 : Apart u2222.ownBlock (some b74) := made_ne_box ho2225.lt hb2219.lt
              have ha2243 : Apart u2222.ownBlock (some b2169) := made_ne_box ho2225.lt hb2220.lt
              have ho2244 : Own eInt 3 G2223 w2224 w.heap.size u2222 (atL ats ((ns.getD k5 default).r)) := ho2225.weaken hX2212.size
              have hq2245 := hq2221.below hx2226.below
              refine ⟨fun _ => ⟨hb2232.reads, hq2245⟩, ?_⟩
              obtain ⟨G2246, hle2249, hX2248, hr2247, hf2250⟩ := ho2244.sealed hX2227
              have ho2251 := ho2228.moreO hle2249 hf2250 ha2236.symm
              have ho2252 := ho2229.moreO hle2249 hf2250 ha2237.symm
              have ho2253 := ho2230.moreO hle2249 hf2250 ha2238.symm
              have ho2254 := ho2231.moreO hle2249 hf2250 ha2239.symm
              have hb2255 := hb2232.moreO hf2250 ha2240.symm
              have hb2256 := hb2233.moreO hf2250 ha2241.symm
              have hb2257 := hb2234.moreO hf2250 ha2242.symm
              have hb2258 := hb2235.moreO hf2250 ha2243.symm
              refine dr_one (i := 21) (by kernel_rfl) (drOp1 (i := 21) rfl rfl rfl (want_none rfl _) (o_call (vs := [u2222]) Tryd.func80 nm80 rfl rfl rfl ?_))
              refine Calls.mono (l3Sorted_spec hX2248.pins hr2247 (by first | omega | (rw [at_length]; omega))) ?_
              rintro _ w2261 ⟨u2259, G2260, rfl, hr2262, hx2263⟩
              refine ⟨_, rfl, ?_⟩
              have hX2264 := hX2248.tr hx2263
              have ho2265 := ho2251.ext hx2263
              have ho2266 := ho2252.ext hx2263
              have ho2267 := ho2253.ext hx2263
              have ho2268 := ho2254.ext hx2263
              have hb2269 := hb2255.ext hx2263
              have hb2270 := hb2256.ext hx2263
              have hb2271 := hb2257.ext hx2263
              have hb2272 := hb2258.ext hx2263
              have hq2273 := hq2245.below hx2263.below
              refine ⟨fun _ => ⟨hb2269.reads, hq2273⟩, ?_⟩
              refine dr_take (i := 22) rfl rfl rfl (want_none rfl _) (by kernel_rfl) (fun _ _ => r_build [(.slice none 0 0), (.slice none 0 0)] [u2207, u2259] [(0, u2207, [u2207]), (1, u2259, [u2259])] Tryd.underlying69 zr69 rfl pl69 rfl (List.forall_mem_cons.2 ⟨(cells_one hr2210.one), (List.forall_mem_cons.2 ⟨(cells_one hr2262.one), (fun _ h => by cases h)⟩)⟩) rfl) ⟨hb2269.reads, hq2273⟩ ?_
              refine dr_one (i := 24) (by kernel_rfl) (drOp0 (i := 24) rfl rfl rfl (want_none rfl _) (o_stp (cs' := [u2207, u2259]) (us := [u2207, u2259]) (v := (.agg [u2207, u2259].toArray)) sz69 rfl rfl rfl (ones2 hr2210.one hr2262.one) hX2264.pins hb2272 (Nat.le_of_ble_eq_true rfl) rfl (fun w2274 hb2275 hp2276 hg2277 hz2278 => ?_)))
              have hX2279 := hX2264.write hp2276 hg2277 ((lo_box hlo2192))
              have ho2280 := ho2265.keptA hg2277 ha2184.symm
              have ho2281 := ho2266.keptA hg2277 ha2185.symm
              have ho2282 := ho2267.keptA hg2277 ha2186.symm
              have ho2283 := ho2268.keptA hg2277 ha2187.symm
              have hb2284 := hb2269.keptA hg2277 ha2189.symm
              have hb2285 := hb2270.keptA hg2277 ha2190.symm
              have hb2286 := hb2271.keptA hg2277 ha2191.symm
              obtain ⟨G2287, hle2288, hX2289, hbp2290, hf2291⟩ := hb2275.shut hX2279 hlo2192
              have ho2292 := ho2280.moreA hle2288 hf2291 ha2184.symm
              have ho2293 := ho2281.moreA hle2288 hf2291 ha2185.symm
              have ho2294 := ho2282.moreA hle2288 hf2291 ha2186.symm
              have ho2295 := ho2283.moreA hle2288 hf2291 ha2187.symm
              have hb2296 := hb2284.moreA hf2291 ha2189.symm
              have hb2297 := hb2285.moreA hf2291 ha2190.symm
              have hb2298 := hb2286.moreA hf2291 ha2191.symm
              refine ⟨fun h => absurd rfl h, ?_⟩
              refine dr_end (by kernel_rfl) ?_
              exact cut_in ⟨_, b2169, u2207, u2259, G2287, (packS (x := 12) (packS (x := 11) (packS (x := 10) (packS (x := 9) (packS (x := 8) (packS (x := 7) (packS (x := 6) (packS (x := 5) (packS (x := 4) (packS (x := 1) (pack1 (x := 0) rfl) rfl) rfl) rfl) rfl) rfl) rfl) rfl) rfl) rfl) rfl), hX2289, (Pin.le_trans (Pin.le_trans (Pin.le_trans (Pin.le_trans (Pin.le_trans (Pin.le_trans hx1851.le hle2197) hx2211.le) hx2226.le) hle2249) hx2263.le) hle2288), (hr2210.mono (Pin.le_trans (Pin.le_trans (Pin.le_trans hx2226.le hle2249) hx2263.le) hle2288)), (hr2262.mono hle2288), ho2292, ho2293, ho2294, ho2295, hb2296, hb2297, hb2298, (hbp2290.mono (Pin.le_refl _))⟩
          · skip
            refine (drOp1 (i := 23) rfl rfl rfl (want_none rfl _) (o_alloc [(.slice none 0 0), (.slice none 0 0)] zr69 rfl hX1830.pins (fun b2299 w2300 hk2301 hb2302 hp2303 hl2304 => ?_)))
            have hX2305 := hX1830.step hp2303 hl2304
            have ho2306 := ho1831.below hl2304
            have ho2307 := ho1832.below hl2304
            have ho2308 := ho1833.below hl2304
            have ho2309 := ho1834.below hl2304
            have hb2310 := hb1835.below hl2304
            have hb2311 := hb1836.below hl2304
            have hb2312 := hb1837.below hl2304
            have ha2313 : Apart (some b2299) at_.ownBlock := new_ne_own (congrArg some hk2301) ho1831.lt
            have ha2314 : Apart (some b2299) ov.ownBlock := new_ne_own (congrArg some hk2301) ho1832.lt
            have ha2315 : Apart (some b2299) bu.ownBlock := new_ne_own (congrArg some hk2301) ho1833.lt
            have ha2316 : Apart (some b2299) bv.ownBlock := new_ne_own (congrArg some hk2301) ho1834.lt
            have ha2317 : Apart (some b2299) (some b) := new_ne_box (congrArg some hk2301) hb1835.lt
            have ha2318 : Apart (some b2299) (some b1) := new_ne_box (congrArg some hk2301) hb1836.lt
            have ha2319 : Apart (some b2299) (some b74) := new_ne_box (congrArg some hk2301) hb1837.lt
            have hlo2320 : w.heap.size ≤ b2299 := by have := hX1830.size; omega
            have hq2321 := hq1838.below hl2304
            refine ⟨fun _ => ⟨hb2310.reads, hq2321⟩, ?_⟩
            refine dr_one (i := 9) (by kernel_rfl) (drOp1 (i := 9) rfl rfl rfl (want_none rfl _) (o_call (vs := [at_, u1839]) Tryd.func81 nm81 rfl rfl rfl ?_))
            refine Calls.mono (l3At_spec hX2305.pins (Gadd.pins hX2305.pins at_) ho2306.read hr1840 (by omega) (fun i hi => by have := hoo.left (j := k5) (by omega) hi; omega)) ?_
            rintro _ w2324 ⟨u2322, G2323, rfl, ho2325, hx2326⟩
            refine ⟨_, rfl, ?_⟩
            have hX2327 := hX2305.tr hx2326
            have ho2328 := ho2306.ext hx2326
            have ho2329 := ho2307.ext hx2326
            have ho2330 := ho2308.ext hx2326
            have ho2331 := ho2309.ext hx2326
            have hb2332 := hb2310.ext hx2326
            have hb2333 := hb2311.ext hx2326
            have hb2334 := hb2312.ext hx2326
            have hb2335 := hb2302.ext hx2326
            have ha2336 : Apart u2322.ownBlock at_.ownBlock := made_ne_own ho2325.lt ho2306.lt
            have ha2337 : Apart u2322.ownBlock ov.ownBlock := made_ne_own ho2325.lt ho2307.lt
            have ha2338 : Apart u2322.ownBlock bu.ownBlock := made_ne_own ho2325.lt ho2308.lt
            have ha2339 : Apart u2322.ownBlock bv.ownBlock := made_ne_own ho2325.lt ho2309.lt
            have ha2340 : Apart u2322.ownBlock (some b) := made_ne_box ho2325.lt hb2310.lt
            have ha2341 : Apart u2322.ownBlock (some b1) := made_ne_box ho2325.lt hb2311.lt
            have ha2342 : Apart u2322.ownBlock (some b74) := made_ne_box ho2325.lt hb2312.lt
            have ha2343 : Apart u2322.ownBlock (some b2299) := made_ne_box ho2325.lt hb2302.lt
            have ho2344 : Own eInt 3 G2323 w2324 w.heap.size u2322 (atL ats ((ns.getD k5 default).l)) := ho2325.weaken hX2305.size
            have hq2345 := hq2321.below hx2326.below
            refine ⟨fun _ => ⟨hb2332.reads, hq2345⟩, ?_⟩
            obtain ⟨G2346, hle2349, hX2348, hr2347, hf2350⟩ := ho2344.sealed hX2327
            have ho2351 := ho2328.moreO hle2349 hf2350 ha2336.symm
            have ho2352 := ho2329.moreO hle2349 hf2350 ha2337.symm
            have ho2353 := ho2330.moreO hle2349 hf2350 ha2338.symm
            have ho2354 := ho2331.moreO hle2349 hf2350 ha2339.symm
            have hb2355 := hb2332.moreO hf2350 ha2340.symm
            have hb2356 := hb2333.moreO hf2350 ha2341.symm
            have hb2357 := hb2334.moreO hf2350 ha2342.symm
            have hb2358 := hb2335.moreO hf2350 ha2343.symm
            refine dr_one (i := 10) (by kernel_rfl) (drOp1 (i := 10) rfl rfl rfl (want_none rfl _) (o_call (vs := [u2322]) Tryd.func80 nm80 rfl rfl rfl ?_))
            refine Calls.mono (l3Sorted_spec hX2348.pins hr2347 (by first | omega | (rw [at_length]; omega))) ?_
            rintro _ w2361 ⟨u2359, G2360, rfl, hr2362, hx2363⟩
            refine ⟨_, rfl, ?_⟩
            have hX2364 := hX2348.tr hx2363
            have ho2365 := ho2351.ext hx2363
            have ho2366 := ho2352.ext hx2363
            have ho2367 := ho2353.ext hx2363
            have ho2368 := ho2354.ext hx2363
            have hb2369 := hb2355.ext hx2363
            have hb2370 := hb2356.ext hx2363
            have hb2371 := hb2357.ext hx2363
            have hb2372 := hb2358.ext hx2363
            have hq2373 := hq2345.below hx2363.below
            refine ⟨fun _ => ⟨hb2369.reads, hq2373⟩, ?_⟩
            refine dr_one (i := 20) (by kernel_rfl) (drOp1 (i := 20) rfl rfl rfl (want_none rfl _) (o_call (vs := [at_, u1843]) Tryd.func81 nm81 rfl rfl rfl ?_))
            refine Calls.mono (l3At_spec hX2364.pins (Gadd.pins hX2364.pins at_) ho2365.read (hr1844.mono (Pin.le_trans (Pin.le_trans hx2326.le hle2349) hx2363.le)) (by omega) (fun i hi => by have := hoo.right (j := k5) (by omega) hi; omega)) ?_
            rintro _ w2376 ⟨u2374, G2375, rfl, ho2377, hx2378⟩
            refine ⟨_, rfl, ?_⟩
            have hX2379 := hX2364.tr hx2378
            have ho2380 := ho2365.ext hx2378
            have ho2381 := ho2366.ext hx2378
            have ho2382 := ho2367.ext hx2378
            have ho2383 := ho2368.ext hx2378
            have hb2384 := hb2369.ext hx2378
            have hb2385 := hb2370.ext hx2378
            have hb2386 := hb2371.ext hx2378
            have hb2387 := hb2372.ext hx2378
            have ha2388 : Apart u2374.ownBlock at_.ownBlock := made_ne_own ho2377.lt ho2365.lt
            have ha2389 : Apart u2374.ownBlock ov.ownBlock := made_ne_own ho2377.lt ho2366.lt
            have ha2390 : Apart u2374.ownBlock bu.ownBlock := made_ne_own ho2377.lt ho2367.lt
            have ha2391 : Apart u2374.ownBlock bv.ownBlock := made_ne_own ho2377.lt ho2368.lt
            have ha2392 : Apart u2374.ownBlock (some b) := made_ne_box ho2377.lt hb2369.lt
            have ha2393 : Apart u2374.ownBlock (some b1) := made_ne_box ho2377.lt hb2370.lt
            have ha2394 : Apart u2374.ownBlock (some b74) := made_ne_box ho2377.lt hb2371.lt
            have ha2395 : Apart u2374.ownBlock (some b2299) := made_ne_box ho2377.lt hb2372.lt
            have ho2396 : Own eInt 3 G2375 w2376 w.heap.size u2374 (atL ats ((ns.getD k5 default).r)) := ho2377.weaken hX2364.size
            have hq2397 := hq2373.below hx2378.below
            refine ⟨fun _ => ⟨hb2384.reads, hq2397⟩, ?_⟩
            obtain ⟨G2398, hle2401, hX2400, hr2399, hf2402⟩ := ho2396.sealed hX2379
            have ho2403 := ho2380.moreO hle2401 hf2402 ha2388.symm
            have ho2404 := ho2381.moreO hle2401 hf2402 ha2389.symm
            have ho2405 := ho2382.moreO hle2401 hf2402 ha2390.symm
            have ho2406 := ho2383.moreO hle2401 hf2402 ha2391.symm
            have hb2407 := hb2384.moreO hf2402 ha2392.symm
            have hb2408 := hb2385.moreO hf2402 ha2393.symm
            have hb2409 := hb2386.moreO hf2402 ha2394.symm
            have hb2410 := hb2387.moreO hf2402 ha2395.symm
            refine dr_one (i := 21) (by kernel_rfl) (drOp1 (i := 21) rfl rfl rfl (want_none rfl _) (o_call (vs := [u2374]) Tryd.func80 nm80 rfl rfl rfl ?_))
            refine Calls.mono (l3Sorted_spec hX2400.pins hr2399 (by first | omega | (rw [at_length]; omega))) ?_
            rintro _ w2413 ⟨u2411, G2412, rfl, hr2414, hx2415⟩
            refine ⟨_, rfl, ?_⟩
            have hX2416 := hX2400.tr hx2415
            have ho2417 := ho2403.ext hx2415
            have ho2418 := ho2404.ext hx2415
            have ho2419 := ho2405.ext hx2415
            have ho2420 := ho2406.ext hx2415
            have hb2421 := hb2407.ext hx2415
            have hb2422 := hb2408.ext hx2415
            have hb2423 := hb2409.ext hx2415
            have hb2424 := hb2410.ext hx2415
            have hq2425 := hq2397.below hx2415.below
            refine ⟨fun _ => ⟨hb2421.reads, hq2425⟩, ?_⟩
            refine dr_take (i := 22) rfl rfl rfl (want_none rfl _) (by kernel_rfl) (fun _ _ => r_build [(.slice none 0 0), (.slice none 0 0)] [u2359, u2411] [(0, u2359, [u2359]), (1, u2411, [u2411])] Tryd.underlying69 zr69 rfl pl69 rfl (List.forall_mem_cons.2 ⟨(cells_one hr2362.one), (List.forall_mem_cons.2 ⟨(cells_one hr2414.one), (fun _ h => by cases h)⟩)⟩) rfl) ⟨hb2421.reads, hq2425⟩ ?_
            refine dr_one (i := 24) (by kernel_rfl) (drOp0 (i := 24) rfl rfl rfl (want_none rfl _) (o_stp (cs' := [u2359, u2411]) (us := [u2359, u2411]) (v := (.agg [u2359, u2411].toArray)) sz69 rfl rfl rfl (ones2 hr2362.one hr2414.one) hX2416.pins hb2424 (Nat.le_of_ble_eq_true rfl) rfl (fun w2426 hb2427 hp2428 hg2429 hz2430 => ?_)))
            have hX2431 := hX2416.write hp2428 hg2429 ((lo_box hlo2320))
            have ho2432 := ho2417.keptA hg2429 ha2313.symm
            have ho2433 := ho2418.keptA hg2429 ha2314.symm
            have ho2434 := ho2419.keptA hg2429 ha2315.symm
            have ho2435 := ho2420.keptA hg2429 ha2316.symm
            have hb2436 := hb2421.keptA hg2429 ha2317.symm
            have hb2437 := hb2422.keptA hg2429 ha2318.symm
            have hb2438 := hb2423.keptA hg2429 ha2319.symm
            obtain ⟨G2439, hle2440, hX2441, hbp2442, hf2443⟩ := hb2427.shut hX2431 hlo2320
            have ho2444 := ho2432.moreA hle2440 hf2443 ha2313.symm
            have ho2445 := ho2433.moreA hle2440 hf2443 ha2314.symm
            have ho2446 := ho2434.moreA hle2440 hf2443 ha2315.symm
            have ho2447 := ho2435.moreA hle2440 hf2443 ha2316.symm
            have hb2448 := hb2436.moreA hf2443 ha2317.symm
            have hb2449 := hb2437.moreA hf2443 ha2318.symm
            have hb2450 := hb2438.moreA hf2443 ha2319.symm
            refine ⟨fun h => absurd rfl h, ?_⟩
            refine dr_end (by kernel_rfl) ?_
            exact cut_in ⟨_, b2299, u2359, u2411, G2439, (packS (x := 12) (packS (x := 11) (packS (x := 10) (packS (x := 9) (packS (x := 8) (packS (x := 7) (packS (x := 6) (packS (x := 5) (packS (x := 4) (packS (x := 1) (pack1 (x := 0) rfl) rfl) rfl) rfl) rfl) rfl) rfl) rfl) rfl) rfl) rfl), hX2441, (Pin.le_trans (Pin.le_trans (Pin.le_trans (Pin.le_trans (Pin.le_trans (Pin.le_trans hx2326.le hle2349) hx2363.le) hx2378.le) hle2401) hx2415.le) hle2440), (hr2362.mono (Pin.le_trans (Pin.le_trans (Pin.le_trans hx2378.le hle2401) hx2415.le) hle2440)), (hr2414.mono hle2440), ho2444, ho2445, ho2446, ho2447, hb2448, hb2449, hb2450, (hbp2442.mono (Pin.le_refl _))⟩
      refine qs rfl rfl rfl rfl rfl rfl ?_
      refine qs rfl rfl rfl rfl rfl rfl ?_
      refine qs rfl rfl rfl rfl rfl rfl ?_
      refine qs rfl rfl rfl rfl rfl rfl ?_
      refine qs rfl rfl rfl rfl rfl rfl ?_
      refine qs rfl rfl rfl rfl rfl rfl ?_
      refine qs rfl rfl rfl rfl rfl rfl ?_
      refine qs rfl rfl rfl rfl rfl rfl ?_
      refine qs rfl rfl rfl rfl rfl rfl ?_
      refine qd rfl rfl rfl (r_pickT (v := (.bool true)) rfl rfl) ?_
      refine qe ?_
      refine s_then ?_
      refine c_ifT rfl rfl ?_
      refine wp_exit ?_
      refine s_thenE ?_
      refine s_blkE ?_
      refine s_then ?_
      refine c_reg ?_
      refine qd rfl rfl rfl (r_move (v := (.int .i64 (k5 : Int))) rfl) ?_
      refine qd rfl rfl rfl (r_add rfl rfl (by omega)) ?_
      refine qd rfl rfl rfl (r_assign (v := (.int .i64 ((k5 : Int) + 1))) rfl) ?_
      refine qe ?_
      refine s_lopN ?_
      refine ⟨_, ?_, _, rfl, _, k5 + 1, lv, ls, fv, fr, GL2, (packS (x := 11) (packS (x := 10) (packS (x := 9) (packS (x := 8) (packS (x := 7) (packS (x := 6) (packS (x := 5) (packS (x := 4) (packS (x := 1) (pack1 (x := 0) rfl) rfl) rfl) rfl) rfl) rfl) rfl) rfl) rfl) rfl), rfl, hX178, hlek175, (by omega), (lv_skip hrl (fun g => by have := g.1; rw [h214] at this; cases this)), (by omega), hfb, hw204, hw205, hw206, hw207, hw208, hw209, hw210, hr211, hr212⟩
      omega
    refine wp_exit ?_
    refine s_thenE ?_
    refine s_lopE ?_
    refine s_blkE ?_
    refine s_then ?_
    refine s_seq ?_
    refine c_reg ?_
    refine qd rfl rfl rfl (r_assign (v := (.int .i64 0)) rfl) ?_
    refine qe ?_
    refine s_then ?_
    refine s_blk ?_
    refine s_loop (fun (k : Nat) (en : Nat → Value) (W : World) => ∃ (env1 : Nat → Value) (i4 : Nat) (at2 : Value) (ats2 : List Int) (ov2 : Value) (outs2 : List Nd) (GL4 : Pin), en = (upd (upd (upd (upd (upd (upd (upd (upd (upd (upd env1 0 (.pointer (some ⟨b, 0, none⟩))) 1 (.int .i64 m)) 4 (.pointer (some ⟨b1, 0, none⟩))) 5 u15) 6 at2) 7 (.pointer (some ⟨b74, 0, none⟩))) 8 (.int .i64 (q : Int))) 9 lv) 10 fv) 14 (.int .i64 (i4 : Int))) ∧ k = ls.length - i4 ∧ Ext noS G w GL4 W ∧ Pin.le GL2 GL4 ∧ (i4 ≤ ls.length) ∧ (placeM ls fr ats outs = placeM (ls.drop i4) (fr.drop i4) ats2 outs2) ∧ (ats2.length = m.toNat + 1) ∧ (outs2.length = outs.length + i4) ∧ (Own eInt 3 GL4 W w.heap.size at2 (ats2)) ∧ (Own eNode 69 GL4 W w.heap.size ov2 (outs2)) ∧ (Own eNode 69 GL4 W 0 bu (ns)) ∧ (Own eInt 3 GL4 W 0 bv (bs)) ∧ (Bx GL4 W b [bu, bv]) ∧ (Bx GL4 W b1 [(.slice none 0 0)]) ∧ (Bx GL4 W b74 [ov2]) ∧ (Apart at2.ownBlock ov2.ownBlock) ∧ (Apart at2.ownBlock bu.ownBlock) ∧ (Apart at2.ownBlock bv.ownBlock) ∧ (Apart at2.ownBlock (some b)) ∧ (Apart at2.ownBlock (some b1)) ∧ (Apart at2.ownBlock (some b74)) ∧ (Apart ov2.ownBlock bu.ownBlock) ∧ (Apart ov2.ownBlock bv.ownBlock) ∧ (Apart ov2.ownBlock (some b)) ∧ (Apart ov2.ownBlock (some b1)) ∧ (Apart ov2.ownBlock (some b74))) _ ⟨_, 0, at_, ats, ov, outs, GL2, (packS (x := 14) (packS (x := 10) (packS (x := 9) (packS (x := 8) (packS (x := 7) (packS (x := 6) (packS (x := 5) (packS (x := 4) (packS (x := 1) (pack1 (x := 0) rfl) rfl) rfl) rfl) rfl) rfl) rfl) rfl) rfl) rfl), rfl, hX178, Pin.le_refl _, Nat.zero_le _, rfl, hatl, rfl, hw204, hw205, hw206, hw207, hw208, hw209, hw210, ha117, ha118, ha119, ha120, ha121, ha122, ha123, ha124, ha125, ha126, ha127⟩ ?_
    rintro k2451 _ w2452 ⟨env1, i4, at2, ats2, ov2, outs2, GL4, rfl, hk2453, hX2454, hlek2451, hi4, hrp, hatl2, hol2, hw2455, hw2456, hw2457, hw2458, hw2459, hw2460, hw2461, ha2462, ha2463, ha2464, ha2465, ha2466, ha2467, ha2468, ha2469, ha2470, ha2471, ha2472⟩
    refine s_seq ?_
    refine s_seq ?_
    refine c_reg ?_
    refine qd rfl rfl rfl (r_move (v := (.int .i64 (i4 : Int))) rfl) ?_
    refine qd rfl rfl rfl (r_move (v := lv) rfl) ?_
    refine qd rfl rfl rfl (run_len Tryd.underlying28 (v := lv) rfl hr211) ?_
    refine qd rfl rfl rfl (r_lss rfl rfl) ?_
    refine qe ?_
    refine s_then ?_
    refine c_ifd (p := ((i4 : Int) : Int) < (ls.length : Int)) rfl rfl (fun h2473 => ?_) (fun h2473 => ?_)
    · skip
      have hf4 := hfb i4 (by omega)
      refine wp_skip ?_
      refine s_then ?_
      refine s_seq ?_
      refine s_blk ?_
      refine s_seq ?_
      have hq2474 := Gadd.pins hX2454.pins ov2
      have hq2475 := Gadd.pins hX2454.pins at2
      have hr2476 := hw2456.read
      have hr2477 := hw2455.read
      refine c_draw (S := fun wz => Pins GL4 wz ∧ BxR wz b74 [ov2] ∧ Pins (Gadd GL4 w2452 ov2) wz ∧ Pins (Gadd GL4 w2452 at2) wz) (last := 9) (by kernel_rfl) rfl ?_
      have hl2478 : Below w2452.heap.size w2452 w2452.drew := (Below.refl _ _).drew
      have hp2479 := hX2454.pins.below hl2478
      have hX2480 := hX2454.step hp2479 hl2478
      have ho2481 := hw2455.below hl2478
      have ho2482 := hw2456.below hl2478
      have ho2483 := hw2457.below hl2478
      have ho2484 := hw2458.below hl2478
      have hb2485 := hw2459.below hl2478
      have hb2486 := hw2460.below hl2478
      have hb2487 := hw2461.below hl2478
      have hq2488 := hq2474.below hl2478
      have hq2489 := hq2475.below hl2478
      refine dr_take (i := 0) rfl rfl rfl (want_none rfl _) (by kernel_rfl) (fun _ _ => r_move (v := at2) rfl) ⟨hX2480.pins, hb2487.reads, hq2488, hq2489⟩ ?_
      refine dr_take (i := 1) rfl rfl rfl (want_none rfl _) (by kernel_rfl) (fun _ _ => r_move (v := fv) rfl) ⟨hX2480.pins, hb2487.reads, hq2488, hq2489⟩ ?_
      refine dr_take (i := 2) rfl rfl rfl (want_none rfl _) (by kernel_rfl) (fun _ _ => r_move (v := (.int .i64 (i4 : Int))) rfl) ⟨hX2480.pins, hb2487.reads, hq2488, hq2489⟩ ?_
      refine dr_take (i := 3) rfl rfl rfl (want_none rfl _) (by kernel_rfl) (fun _ _ => run_idx Tryd.underlying38 sz3 (v := fv) rfl rfl hr212 (by omega) (by omega)) ⟨hX2480.pins, hb2487.reads, hq2488, hq2489⟩ ?_
      refine dr_take (i := 4) rfl rfl rfl (want_none rfl _) (by kernel_rfl) (fun _ hS => run_load_int (r := fr.getD i4 0) rfl ag3 (z := (i4 : Int)) rfl hr212 (Pins.of_le hS.1 hlek2451) (by omega) (by omega)) ⟨hX2480.pins, hb2487.reads, hq2488, hq2489⟩ ?_
      refine dr_take (i := 5) rfl rfl rfl (want_none rfl _) (by kernel_rfl) (fun _ _ => r_fldp (k := 0) rfl Tryd.underlying30 rfl nz28 rfl) ⟨hX2480.pins, hb2487.reads, hq2488, hq2489⟩ ?_
      refine dr_take (i := 6) rfl rfl rfl (want_none rfl _) (by kernel_rfl) (fun _ hS => r_ldp1 (u := ov2) ag28 rfl (hS.2.1 0 _ rfl)) ⟨hX2480.pins, hb2487.reads, hq2488, hq2489⟩ ?_
      refine dr_take (i := 7) rfl rfl rfl (want_none rfl _) (by kernel_rfl) (fun _ _ => run_len Tryd.underlying28 (v := ov2) rfl hr2476) ⟨hX2480.pins, hb2487.reads, hq2488, hq2489⟩ ?_
      refine dr_take (i := 8) rfl rfl rfl (want_none rfl _) (by kernel_rfl) (fun _ _ => run_idx Tryd.underlying38 sz3 (v := at2) rfl rfl hr2477 (by omega) (by omega)) ⟨hX2480.pins, hb2487.reads, hq2488, hq2489⟩ ?_
      refine dr_one (i := 9) (by kernel_rfl) (drOp0 (i := 9) rfl rfl rfl (want_none rfl _) (o_set (E := eInt) (v := at2) (u := (.int .i64 (outs2.length : Int))) (z := (fr.getD i4 0)) ((outs2.length : Int)) sz3 rfl rfl rfl rfl hX2480.pins ho2481 (by omega) (by omega) (fun w2490 ho2491 hp2492 hg2493 hz2494 => ?_)))
      have hX2495 := hX2480.write hp2492 hg2493 ((lo_own ho2481))
      have ho2496 := ho2482.keptA hg2493 ha2462.symm
      have ho2497 := ho2483.keptA hg2493 ha2463.symm
      have ho2498 := ho2484.keptA hg2493 ha2464.symm
      have hb2499 := hb2485.keptA hg2493 ha2465.symm
      have hb2500 := hb2486.keptA hg2493 ha2466.symm
      have hb2501 := hb2487.keptA hg2493 ha2467.symm
      refine ⟨fun h => absurd rfl h, ?_⟩
      refine dr_end (by kernel_rfl) ?_
      refine s_then ?_
      refine c_draw (S := fun wz => BxR wz b74 [ov2] ∧ Pins GL4 wz) (last := 9) (by kernel_rfl) rfl ?_
      have hl2502 : Below w2490.heap.size w2490 w2490.drew := (Below.refl _ _).drew
      have hp2503 := hX2495.pins.below hl2502
      have hX2504 := hX2495.step hp2503 hl2502
      have ho2505 := ho2491.below hl2502
      have ho2506 := ho2496.below hl2502
      have ho2507 := ho2497.below hl2502
      have ho2508 := ho2498.below hl2502
      have hb2509 := hb2499.below hl2502
      have hb2510 := hb2500.below hl2502
      have hb2511 := hb2501.below hl2502
      refine dr_take (i := 0) rfl rfl rfl (want_none rfl _) (by kernel_rfl) (fun _ _ => r_fldp (k := 0) rfl Tryd.underlying30 rfl nz28 rfl) ⟨hb2511.reads, hX2504.pins⟩ ?_
      refine dr_take (i := 1) rfl rfl rfl (want_none rfl _) (by kernel_rfl) (fun _ hS => r_ldp1 (u := ov2) ag28 rfl (hS.1 0 _ rfl)) ⟨hb2511.reads, hX2504.pins⟩ ?_
      refine dr_take (i := 2) rfl rfl rfl (want_none rfl _) (by kernel_rfl) (fun _ _ => r_move (v := lv) rfl) ⟨hb2511.reads, hX2504.pins⟩ ?_
      refine dr_take (i := 3) rfl rfl rfl (want_none rfl _) (by kernel_rfl) (fun _ _ => r_move (v := (.int .i64 (i4 : Int))) rfl) ⟨hb2511.reads, hX2504.pins⟩ ?_
      refine dr_take (i := 4) rfl rfl rfl (want_none rfl _) (by kernel_rfl) (fun _ _ => run_idx Tryd.underlying28 sz69 (v := lv) rfl rfl hr211 (by omega) (by omega)) ⟨hb2511.reads, hX2504.pins⟩ ?_
      obtain ⟨u2512, u2513, hr2514, hr2515, hl2516⟩ := nm_node (hr211.at (z := (i4 : Int)) (by omega) (by omega)) (j := i4) rfl
      have hm2517 := hr2514.max
      have hm2518 := hr2515.max
      refine dr_take (i := 5) rfl rfl rfl (want_none rfl _) (by kernel_rfl) (fun _ hS => hl2516 ag69 sz69 rfl (Pins.of_le hS.2 hlek2451)) ⟨hb2511.reads, hX2504.pins⟩ ?_
      refine dr_one (i := 6) (by kernel_rfl) (drOp1 (i := 6) rfl rfl rfl (want_none rfl _) (o_build1 (E := eNode) (e := 69) [u2512, u2513] (⟨(ls.getD i4 default).l, (ls.getD i4 default).r⟩ : Nd) Tryd.underlying28 sz69 zr69 ⟨_, _, rfl, (hr2514.mono hlek2451), (hr2515.mono hlek2451)⟩ rfl (by decide) hX2504.pins (fun u2519 w2520 ho2521 hp2522 hl2523 hk2524 => ?_)))
      have hX2525 := hX2504.step hp2522 hl2523
      have ho2526 := ho2505.below hl2523
      have ho2527 := ho2506.below hl2523
      have ho2528 := ho2507.below hl2523
      have ho2529 := ho2508.below hl2523
      have hb2530 := hb2509.below hl2523
      have hb2531 := hb2510.below hl2523
      have hb2532 := hb2511.below hl2523
      have ha2533 : Apart u2519.ownBlock at2.ownBlock := new_ne_own hk2524 ho2505.lt
      have ha2534 : Apart u2519.ownBlock ov2.ownBlock := new_ne_own hk2524 ho2506.lt
      have ha2535 : Apart u2519.ownBlock bu.ownBlock := new_ne_own hk2524 ho2507.lt
      have ha2536 : Apart u2519.ownBlock bv.ownBlock := new_ne_own hk2524 ho2508.lt
      have ha2537 : Apart u2519.ownBlock (some b) := new_ne_box hk2524 hb2509.lt
      have ha2538 : Apart u2519.ownBlock (some b1) := new_ne_box hk2524 hb2510.lt
      have ha2539 : Apart u2519.ownBlock (some b74) := new_ne_box hk2524 hb2511.lt
      have ho2540 : Own eNode 69 GL4 w2520 w.heap.size u2519 ([(⟨(ls.getD i4 default).l, (ls.getD i4 default).r⟩ : Nd)]) := ho2521.weaken hX2504.size
      refine ⟨fun _ => ⟨hb2532.reads, hX2525.pins⟩, ?_⟩
      refine dr_one (i := 7) (by kernel_rfl) (drOp1 (i := 7) rfl rfl rfl (want_none rfl _) (o_append (E := eNode) (v := ov2) (u := u2519) 48 Tryd.underlying28 ap69 (by decide) rfl rfl hX2525.pins ho2527 ho2540.src (by first | omega | (rw [List.nil_append]; omega) | (rw [List.length_nil]; omega) | (rw [List.length_append]; omega) | (simp; done) | (simp; omega)) (by first | omega | (rw [List.nil_append]; omega) | (rw [List.length_nil]; omega) | (rw [List.length_append]; omega) | (simp; done) | (simp; omega)) (hX2525.size) (fun u2541 w2542 ho2543 hp2544 hg2545 hw2546 => ?_)))
      have hX2547 := hX2525.write hp2544 hg2545 ((lo_own ho2527))
      have ho2548 := ho2526.keptA hg2545 ha2462
      have ho2549 := ho2528.keptA hg2545 ha2468.symm
      have ho2550 := ho2529.keptA hg2545 ha2469.symm
      have ho2551 := ho2540.keptA hg2545 ha2534
      have hb2552 := hb2530.keptA hg2545 ha2470.symm
      have hb2553 := hb2531.keptA hg2545 ha2471.symm
      have hb2554 := hb2532.keptA hg2545 ha2472.symm
      have ha2555 : Apart at2.ownBlock u2541.ownBlock := app_ne_own ha2462 hw2546 ho2526.lt
      have ha2556 : Apart bu.ownBlock u2541.ownBlock := app_ne_own ha2468.symm hw2546 ho2528.lt
      have ha2557 : Apart bv.ownBlock u2541.ownBlock := app_ne_own ha2469.symm hw2546 ho2529.lt
      have ha2558 : Apart u2519.ownBlock u2541.ownBlock := app_ne_own ha2534 hw2546 ho2540.lt
      have ha2559 : Apart (some b) u2541.ownBlock := app_ne_box ha2470.symm hw2546 hb2530.lt
      have ha2560 : Apart (some b1) u2541.ownBlock := app_ne_box ha2471.symm hw2546 hb2531.lt
      have ha2561 : Apart (some b74) u2541.ownBlock := app_ne_box ha2472.symm hw2546 hb2532.lt
      have hm2562 : (outs2 ++ ([(⟨(ls.getD i4 default).l, (ls.getD i4 default).r⟩ : Nd)])).length = outs2.length + 1 := by simp
      refine ⟨fun _ => ⟨hb2554.reads, hX2547.pins⟩, ?_⟩
      refine dr_take (i := 8) rfl rfl rfl (want_none rfl _) (by kernel_rfl) (fun _ _ => r_fldp (k := 0) rfl Tryd.underlying30 rfl nz28 rfl) ⟨hb2554.reads, hX2547.pins⟩ ?_
      refine dr_one (i := 9) (by kernel_rfl) (drOp0 (i := 9) rfl rfl rfl (want_none rfl _) (o_stp (cs' := [u2541]) (us := [u2541]) (v := u2541) sz28 rfl rfl (cells1 ho2543.one) (ones1 ho2543.one) hX2547.pins hb2554 (Nat.le_of_ble_eq_true rfl) rfl (fun w2563 hb2564 hp2565 hg2566 hz2567 => ?_)))
      have hX2568 := hX2547.write hp2565 hg2566 ((lo_box hlo93))
      have ho2569 := ho2548.keptA hg2566 ha2467
      have ho2570 := ho2549.keptA hg2566 ha87.symm
      have ho2571 := ho2550.keptA hg2566 ha88.symm
      have ho2572 := ho2543.keptA hg2566 ha2561.symm
      have hb2573 := hb2552.keptA hg2566 ha91.symm
      have hb2574 := hb2553.keptA hg2566 ha92.symm
      refine ⟨fun h => absurd rfl h, ?_⟩
      refine dr_end (by kernel_rfl) ?_
      refine s_blkN ?_
      refine s_then ?_
      refine c_reg ?_
      refine qd rfl rfl rfl (r_move (v := (.int .i64 (i4 : Int))) rfl) ?_
      refine qd rfl rfl rfl (r_add rfl rfl (by omega)) ?_
      refine qd rfl rfl rfl (r_assign (v := (.int .i64 ((i4 : Int) + 1))) rfl) ?_
      refine qe ?_
      refine s_lopN ?_
      refine ⟨_, ?_, _, rfl, _, i4 + 1, at2, (ats2).set (fr.getD i4 0).toNat (outs2.length : Int), u2541, outs2 ++ ([(⟨(ls.getD i4 default).l, (ls.getD i4 default).r⟩ : Nd)]), GL4, (packS (x := 14) (packS (x := 10) (packS (x := 9) (packS (x := 8) (packS (x := 7) (packS (x := 6) (packS (x := 5) (packS (x := 4) (packS (x := 1) (pack1 (x := 0) rfl) rfl) rfl) rfl) rfl) rfl) rfl) rfl) rfl) rfl), rfl, hX2568, hlek2451, (by omega), (hrp.trans (place_next (by omega) (by omega))), ((List.length_set ..).trans hatl2), (by simp; omega), ho2569, ho2572, ho2570, ho2571, hb2573, hb2574, hb2564, ha2555, ha2463, ha2464, ha2465, ha2466, ha2467, ha2556.symm, ha2557.symm, ha2559.symm, ha2560.symm, ha2561.symm⟩
      omega
    refine wp_exit ?_
    refine s_thenE ?_
    refine s_lopE ?_
    refine s_blkE ?_
    refine s_blkN ?_
    refine s_then ?_
    refine c_reg ?_
    refine qd rfl rfl rfl (r_move (v := (.int .i64 (q : Int))) rfl) ?_
    refine qd rfl rfl rfl (r_add rfl rfl (by omega)) ?_
    refine qd rfl rfl rfl (r_assign (v := (.int .i64 ((q : Int) + 1))) rfl) ?_
    refine qe ?_
    refine s_lopN ?_
    refine ⟨_, ?_, _, rfl, _, q + 1, at2, ats2, ov2, outs2, GL4, (packS (x := 8) (packS (x := 7) (packS (x := 6) (packS (x := 5) (packS (x := 4) (packS (x := 1) (pack1 (x := 0) rfl) rfl) rfl) rfl) rfl) rfl) rfl), rfl, hX2454, (Pin.le_trans (Pin.le_trans (Pin.le_trans (Pin.le_trans hlek106 hle182) hle195) hlek175) hlek2451), (by omega), (form_step hr (by rw [show m.toNat + 1 = k5 by omega]; exact hrl) (hrp.trans (place_end (by omega)))), hatl2, (by omega), hw2455, hw2456, hw2457, hw2458, hw2459, hw2460, hw2461, ha2462, ha2463, ha2464, ha2465, ha2466, ha2467, ha2468, ha2469, ha2470, ha2471, ha2472⟩
    omega
  refine wp_exit ?_
  refine s_thenE ?_
  refine s_lopE ?_
  refine s_blkE ?_
  refine s_then ?_
  refine s_seq ?_
  refine c_reg ?_
  refine qd rfl rfl rfl (r_ldpA (cs := [ov]) ag30 sz30 rfl (fun j u hj => hw116.cell (by simpa using hj))) ?_
  refine q0 rfl rfl rfl (o_stp (cs' := [ov]) (us := [ov]) (v := (.agg [ov].toArray)) sz30 rfl rfl rfl (ones1 hw111.one) hX109.pins hw115 (Nat.le_of_ble_eq_true rfl) rfl (fun w2575 hb2576 hp2577 hg2578 hz2579 => ?_))
  have hX2580 := hX109.write hp2577 hg2578 ((lo_box hlo14))
  have ho2581 := hw110.keptA hg2578 ha121
  have ho2582 := hw111.keptA hg2578 ha126
  have ho2583 := hw112.keptA hg2578 ha11.symm
  have ho2584 := hw113.keptA hg2578 ha12.symm
  have hb2585 := hw114.keptA hg2578 ha13.symm
  have hb2586 := hw116.keptA hg2578 ha92
  refine qe ?_
  refine s_then ?_
  refine wp_ret ?_
  refine s_ret ?_
  refine c_retc (cs := [ov]) rfl rfl rfl ag30 sz30 (fun j u hj => by rw [Nat.zero_add]; exact hb2576.cell hj) ?_
  obtain ⟨G2587, hle2590, hX2589, hr2588, hf2591⟩ := ho2582.sealed hX2580
  have ho2592 := ho2581.moreO hle2590 hf2591 ha117
  have ho2593 := ho2583.moreO hle2590 hf2591 ha123.symm
  have ho2594 := ho2584.moreO hle2590 hf2591 ha124.symm
  have hb2595 := hb2585.moreO hf2591 ha125.symm
  have hb2596 := hb2576.moreO hf2591 ha126.symm
  have hb2597 := hb2586.moreO hf2591 ha127.symm
  exact ⟨_, _, rfl, (by rw [form_done hr (by omega)]; exact hr2588), hX2589⟩

theorem l3Good_spec {w : World} {G : Pin} {v : Value} {ns : List Nd} (hP : Pins G w) (hv : RSl eNode G v ns) :
    Calls Tryd.prog 33 [(.agg [v].toArray)].toArray w fun e w' => ∃ G', e = .returned (.bool (decP (GoodS ns))) ∧ Ext noS G w G' w' := by
  refine s_enter (n := 46) Tryd.func33 Tryd.ntmps33 rfl rfl ?_
  have hX0 : Ext noS G w G w := Ext.refl hP
  have hm := hv.max
  refine s_seq ?_
  refine c_reg ?_
  refine q1 rfl rfl rfl (o_box [v] (v := (.agg [v].toArray)) rfl rfl hX0.pins (fun b1 w2 hk3 hb4 hp5 hl6 => ?_))
  have hX7 := hX0.step hp5 hl6
  have hlo8 : w.heap.size ≤ b1 := by have := hX0.size; omega
  obtain ⟨G9, hle10, hX11, hbp12, hf13⟩ := hb4.shut hX7 hlo8
  refine qd rfl rfl rfl (r_assign (v := (.bool false)) rfl) ?_
  refine qe ?_
  refine s_then ?_
  refine s_seq ?_
  refine s_seq ?_
  refine c_reg ?_
  refine qd rfl rfl rfl (r_ldpA (cs := [v]) ag30 sz30 rfl (fun j u hj => hX11.pins _ _ _ (hbp12 _ _ (by simpa using hj)))) ?_
  refine q1 rfl rfl rfl (o_call (vs := [(.agg [v].toArray)]) Tryd.func54 nm54 rfl rfl rfl ?_)
  refine Calls.mono (l3Fits_spec hX11.pins (hv.mono hle10)) ?_
  rintro _ w15 ⟨G14, rfl, hx16⟩
  refine ⟨_, rfl, ?_⟩
  have hX17 := hX11.tr hx16
  refine qd rfl rfl rfl (r_not rfl) ?_
  refine qe ?_
  refine s_then ?_
  refine c_ifn rfl rfl (fun h18 => ?_) (fun h18 => ?_)
  · skip
    refine wp_skip ?_
    refine s_then ?_
    refine s_seq ?_
    refine s_seq ?_
    refine c_reg ?_
    refine qd rfl rfl rfl (r_assign (v := (.int .i64 0)) rfl) ?_
    refine qe ?_
    refine s_then ?_
    refine s_blk ?_
    have hfit := decP_true.1 h18
    refine s_loop (fun (k : Nat) (en : Nat → Value) (W : World) => ∃ (env1 : Nat → Value) (j : Nat) (GL1 : Pin), en = (upd (upd env1 1 (.pointer (some ⟨b1, 0, none⟩))) 3 (.int .i64 (j : Int))) ∧ k = ns.length - j ∧ Ext noS G w GL1 W ∧ Pin.le G14 GL1 ∧ (j ≤ ns.length) ∧ (∀ i, i < j → Rise (ns.getD i default).l 0 ((i : Int) - 1) ∧ Rise (ns.getD i default).r 0 ((i : Int) - 1))) _ ⟨_, 0, G14, (packS (x := 3) (pack1 (x := 1) rfl) rfl), rfl, hX17, Pin.le_refl _, Nat.zero_le _, (fun i hi => absurd hi (Nat.not_lt_zero i))⟩ ?_
    rintro k19 _ w20 ⟨env1, j, GL1, rfl, hk21, hX22, hlek19, hj, hp⟩
    refine s_seq ?_
    refine s_seq ?_
    refine c_reg ?_
    refine qd rfl rfl rfl (r_move (v := (.int .i64 (j : Int))) rfl) ?_
    refine qd rfl rfl rfl (r_fldp (k := 0) rfl Tryd.underlying30 rfl nz28 rfl) ?_
    refine qd rfl rfl rfl (r_ldp1 (u := v) ag28 rfl ((Pins.of_le hX22.pins (Pin.le_trans hx16.le hlek19)) _ _ _ (hbp12 0 _ rfl))) ?_
    refine qd rfl rfl rfl (run_len Tryd.underlying28 (v := v) rfl hv) ?_
    refine qd rfl rfl rfl (r_lss rfl rfl) ?_
    refine qe ?_
    refine s_then ?_
    refine c_ifd (p := ((j : Int) : Int) < (ns.length : Int)) rfl rfl (fun h23 => ?_) (fun h23 => ?_)
    · skip
      refine wp_skip ?_
      refine s_then ?_
      refine s_seq ?_
      refine s_blk ?_
      refine s_seq ?_
      refine c_reg ?_
      refine qd rfl rfl rfl (r_fldp (k := 0) rfl Tryd.underlying30 rfl nz28 rfl) ?_
      refine qd rfl rfl rfl (r_ldp1 (u := v) ag28 rfl ((Pins.of_le hX22.pins (Pin.le_trans hx16.le hlek19)) _ _ _ (hbp12 0 _ rfl))) ?_
      refine qd rfl rfl rfl (r_move (v := (.int .i64 (j : Int))) rfl) ?_
      refine qd rfl rfl rfl (run_idx Tryd.underlying28 sz69 (v := v) rfl rfl hv (by omega) (by omega)) ?_
      refine qd rfl rfl rfl (run_fld (off := 0) Tryd.underlying69 rfl rfl nz38 (z := (j : Int)) (k := 0) rfl hv (by omega) (by omega)) ?_
      obtain ⟨u24, hr25, hl26⟩ := nm_nl (hv.at (z := (j : Int)) (by omega) (by omega)) (j := j) rfl
      have hm27 := hr25.max
      refine qd rfl rfl rfl (hl26 ag38 rfl (Pins.of_le hX22.pins (Pin.le_trans (Pin.le_trans hle10 hx16.le) hlek19))) ?_
      refine qd rfl rfl rfl (r_move (v := (.int .i64 (j : Int))) rfl) ?_
      refine qd rfl rfl rfl (r_sub rfl rfl (by omega)) ?_
      refine q1 rfl rfl rfl (o_call (vs := [u24, (.int .i64 0), (.int .i64 ((j : Int) - 1))]) Tryd.func55 nm55 rfl rfl rfl ?_)
      refine Calls.mono (l1Rising_spec hX22.pins (hr25.mono (Pin.le_trans (Pin.le_trans hle10 hx16.le) hlek19))) ?_
      rintro _ w28 ⟨rfl, hx29⟩
      refine ⟨_, rfl, ?_⟩
      have hX30 := hX22.step hx29.pins hx29.below
      refine qd rfl rfl rfl (r_not rfl) ?_
      refine qd rfl rfl rfl (r_move (v := (.bool (!(decP (Rise ((ns.getD j default).l) 0 ((j : Int) - 1)))))) rfl) ?_
      refine qbn (t := 25) rfl (fun h31 => ?_) (fun h31 => ?_)
      · skip
        refine qdg rfl rfl rfl rfl rfl rfl (r_fldp (k := 0) rfl Tryd.underlying30 rfl nz28 rfl) ?_
        refine qdg rfl rfl rfl rfl rfl rfl (r_ldp1 (u := v) ag28 rfl ((Pins.of_le hX30.pins (Pin.le_trans hx16.le hlek19)) _ _ _ (hbp12 0 _ rfl))) ?_
        refine qdg rfl rfl rfl rfl rfl rfl (r_move (v := (.int .i64 (j : Int))) rfl) ?_
        refine qdg rfl rfl rfl rfl rfl rfl (run_idx Tryd.underlying28 sz69 (v := v) rfl rfl hv (by omega) (by omega)) ?_
        refine qdg rfl rfl rfl rfl rfl rfl (run_fld (off := 1) Tryd.underlying69 rfl rfl nz38 (z := (j : Int)) (k := 0) rfl hv (by omega) (by omega)) ?_
        obtain ⟨u32, hr33, hl34⟩ := nm_nr (hv.at (z := (j : Int)) (by omega) (by omega)) (j := j) rfl
        have hm35 := hr33.max
        refine qdg rfl rfl rfl rfl rfl rfl (hl34 ag38 rfl (Pins.of_le hX30.pins (Pin.le_trans (Pin.le_trans hle10 hx16.le) hlek19))) ?_
        refine qdg rfl rfl rfl rfl rfl rfl (r_move (v := (.int .i64 (j : Int))) rfl) ?_
        refine qdg rfl rfl rfl rfl rfl rfl (r_sub rfl rfl (by omega)) ?_
        refine q1g rfl rfl rfl rfl rfl rfl (o_call (vs := [u32, (.int .i64 0), (.int .i64 ((j : Int) - 1))]) Tryd.func55 nm55 rfl rfl rfl ?_)
        refine Calls.mono (l1Rising_spec hX30.pins (hr33.mono (Pin.le_trans (Pin.le_trans hle10 hx16.le) hlek19))) ?_
        rintro _ w36 ⟨rfl, hx37⟩
        refine ⟨_, rfl, ?_⟩
        have hX38 := hX30.step hx37.pins hx37.below
        refine qdg rfl rfl rfl rfl rfl rfl (r_not rfl) ?_
        refine qd rfl rfl rfl (r_pickF (v := (.bool (!(decP (Rise ((ns.getD j default).r) 0 ((j : Int) - 1)))))) rfl rfl) ?_
        refine qe ?_
        refine s_then ?_
        refine c_ifn rfl rfl (fun h39 => ?_) (fun h39 => ?_)
        · skip
          refine wp_skip ?_
          refine s_blkN ?_
          refine s_then ?_
          refine c_reg ?_
          refine qd rfl rfl rfl (r_move (v := (.int .i64 (j : Int))) rfl) ?_
          refine qd rfl rfl rfl (r_add rfl rfl (by omega)) ?_
          refine qd rfl rfl rfl (r_assign (v := (.int .i64 ((j : Int) + 1))) rfl) ?_
          refine qe ?_
          refine s_lopN ?_
          refine ⟨_, ?_, _, rfl, _, j + 1, GL1, (packS (x := 3) (pack1 (x := 1) rfl) rfl), rfl, hX38, hlek19, (by omega), (fun k hk => if h3 : k = j then h3 ▸ ⟨decP_true.1 h31, decP_true.1 h39⟩ else hp k (by omega))⟩
          omega
        refine s_seq ?_
        refine c_reg ?_
        refine qd rfl rfl rfl (r_assign (v := (.bool false)) rfl) ?_
        refine qe ?_
        refine s_then ?_
        refine wp_ret ?_
        refine s_ret ?_
        refine c_ret1 (v := (.bool false)) rfl rfl rfl ?_
        exact ⟨_, congrArg (fun z => Ending.returned (Value.bool z)) (decP_false.2 (fun g => by rw [decP_true.2 (g.rise j (by omega)).2] at h39; cases h39)).symm, hX38⟩
      refine qs rfl rfl rfl rfl rfl rfl ?_
      refine qs rfl rfl rfl rfl rfl rfl ?_
      refine qs rfl rfl rfl rfl rfl rfl ?_
      refine qs rfl rfl rfl rfl rfl rfl ?_
      refine qs rfl rfl rfl rfl rfl rfl ?_
      refine qs rfl rfl rfl rfl rfl rfl ?_
      refine qs rfl rfl rfl rfl rfl rfl ?_
      refine qs rfl rfl rfl rfl rfl rfl ?_
      refine qs rfl rfl rfl rfl rfl rfl ?_
      refine qs rfl rfl rfl rfl rfl rfl ?_
      refine qd rfl rfl rfl (r_pickT (v := (.bool true)) rfl rfl) ?_
      refine qe ?_
      refine s_then ?_
      refine c_ifT rfl rfl ?_
      refine s_seq ?_
      refine c_reg ?_
      refine qd rfl rfl rfl (r_assign (v := (.bool false)) rfl) ?_
      refine qe ?_
      refine s_then ?_
      refine wp_ret ?_
      refine s_ret ?_
      refine c_ret1 (v := (.bool false)) rfl rfl rfl ?_
      exact ⟨_, congrArg (fun z => Ending.returned (Value.bool z)) (decP_false.2 (fun g => by rw [decP_true.2 (g.rise j (by omega)).1] at h31; cases h31)).symm, hX30⟩
    refine wp_exit ?_
    refine s_thenE ?_
    refine s_lopE ?_
    refine s_blkE ?_
    refine s_then ?_
    refine s_seq ?_
    refine c_reg ?_
    have hrise : ∀ i, i < ns.length → Rise (ns.getD i default).l 0 ((i : Int) - 1) ∧ Rise (ns.getD i default).r 0 ((i : Int) - 1) := fun i hi => hp i (by omega)
    have hfok := formOk_of hfit hrise
    have hlim := hfit.lim
    have hao := addM_all book_empty hfok (by simp; omega)
    refine qd rfl rfl rfl (r_build [(.slice none 0 0), (.slice none 0 0)] [(.slice none 0 0), (.slice none 0 0)] [] Tryd.underlying71 zr71 rfl pl71 rfl (fun _ h => by cases h) rfl) ?_
    refine q1 rfl rfl rfl (o_box [(.slice none 0 0), (.slice none 0 0)] (v := (.agg [(.slice none 0 0), (.slice none 0 0)].toArray)) rfl rfl hX22.pins (fun b40 w41 hk42 hb43 hp44 hl45 => ?_))
    have hX46 := hX22.step hp44 hl45
    have hlo47 : w.heap.size ≤ b40 := by have := hX22.size; omega
    refine qd rfl rfl rfl (r_assign (v := (.pointer (some ⟨b40, 0, none⟩))) rfl) ?_
    refine qe ?_
    refine s_then ?_
    refine s_seq ?_
    refine c_draw (S := fun wz => Pins GL1 wz) (last := 8) (by kernel_rfl) rfl ?_
    have hl48 : Below w41.heap.size w41 w41.drew := (Below.refl _ _).drew
    have hp49 := hX46.pins.below hl48
    have hX50 := hX46.step hp49 hl48
    have hb51 := hb43.below hl48
    refine dr_take (i := 0) rfl rfl rfl (want_none rfl _) (by kernel_rfl) (fun _ _ => r_move (v := (.pointer (some ⟨b40, 0, none⟩))) rfl) hX50.pins ?_
    refine dr_take (i := 1) rfl rfl rfl (want_none rfl _) (by kernel_rfl) (fun _ _ => r_move (v := (.pointer (some ⟨b40, 0, none⟩))) rfl) hX50.pins ?_
    refine dr_take (i := 2) rfl rfl rfl (want_none rfl _) (by kernel_rfl) (fun _ hS => r_ldpA (cs := [v]) ag30 sz30 rfl (fun j u hj => (Pins.of_le hS (Pin.le_trans hx16.le hlek19)) _ _ _ (hbp12 _ _ (by simpa using hj)))) hX50.pins ?_
    refine dr_take (i := 5) rfl rfl rfl (want_none rfl _) (by kernel_rfl) (fun _ hS => r_ldpA (cs := [v]) ag30 sz30 rfl (fun j u hj => (Pins.of_le hS (Pin.le_trans hx16.le hlek19)) _ _ _ (hbp12 _ _ (by simpa using hj)))) hX50.pins ?_
    refine dr_one (i := 3) (by kernel_rfl) (drOp1 (i := 3) rfl rfl rfl (want_none rfl _) (o_call (vs := [(.pointer (some ⟨b40, 0, none⟩)), (.agg [v].toArray)]) Tryd.func58 nm58 rfl rfl rfl ?_))
    refine Calls.mono (root_spec hX50.pins ⟨hb51, (Own.nil _ _ _ _ _), (Own.nil _ _ _ _ _), apart_none.symm, apart_none.symm, apart_none⟩ book_empty (hv.mono (Pin.le_trans (Pin.le_trans hle10 hx16.le) hlek19)) ⟨hfok, hlim.1⟩ (by first | omega | (simp; omega))) ?_
    rintro _ w55 ⟨u52, v53, G54, rfl, hbk56, hx57, hlu58, hlv59⟩
    refine ⟨_, rfl, ?_⟩
    have hin62 : ∀ i, inS b40 (.slice none 0 0) (.slice none 0 0) i → w.heap.size ≤ i ∨ noS i := inS_lo (lo_box hlo47) (lo_none _ _) (lo_none _ _)
    have hX63 := hX50.trans hx57 hin62
    have hb64 := hbk56.bx
    have ho65 := hbk56.ou
    have ho66 := hbk56.ov
    have ha67 := hbk56.abu
    have ha68 := hbk56.abv
    have ha69 := hbk56.auv
    have hlo70 := lo_call hlu58 hin62 hX50.size
    have hlo71 := lo_call hlv59 hin62 hX50.size
    refine ⟨fun _ => (Pins.of_le hX63.pins hx57.le), ?_⟩
    refine dr_one (i := 4) (by kernel_rfl) (drOp1 (i := 4) rfl rfl rfl (want_none rfl _) (o_call (vs := [(.pointer (some ⟨b40, 0, none⟩)), (.int .i64 (rootM ([]) ([]) ns))]) Tryd.func57 nm57 rfl rfl rfl ?_))
    refine Calls.mono (form_spec hX63.pins ⟨hb64, ho65, ho66, ha67, ha68, ha69⟩ hao.book (root_lt hao hlim.1)) ?_
    rintro _ w74 ⟨u72, G73, rfl, hr75, hx76⟩
    refine ⟨_, rfl, ?_⟩
    have hX77 := hX63.tr hx76
    have ho78 := ho65.ext hx76
    have ho79 := ho66.ext hx76
    have hb80 := hb64.ext hx76
    refine ⟨fun _ => (Pins.of_le hX77.pins (Pin.le_trans hx57.le hx76.le)), ?_⟩
    refine dr_one (i := 6) (by kernel_rfl) (drOp1 (i := 6) rfl rfl rfl (want_none rfl _) (o_call (vs := [(.agg [u72].toArray), (.agg [v].toArray)]) Tryd.func56 nm56 rfl rfl rfl ?_))
    refine Calls.mono (l3Same_spec hX77.pins hr75 (hv.mono (Pin.le_trans (Pin.le_trans (Pin.le_trans (Pin.le_trans hle10 hx16.le) hlek19) hx57.le) hx76.le))) ?_
    rintro _ w82 ⟨G81, rfl, hx83⟩
    refine ⟨_, rfl, ?_⟩
    have hX84 := hX77.tr hx83
    have ho85 := ho78.ext hx83
    have ho86 := ho79.ext hx83
    have hb87 := hb80.ext hx83
    refine ⟨fun _ => (Pins.of_le hX84.pins (Pin.le_trans (Pin.le_trans hx57.le hx76.le) hx83.le)), ?_⟩
    refine dr_take (i := 7) rfl rfl rfl (want_none rfl _) (by kernel_rfl) (fun _ _ => r_assign (v := (.bool (decide ((formM ((addM ([]) ([]) ns).2.1) ((addM ([]) ([]) ns).2.2) (rootM ([]) ([]) ns).toNat) = ns)))) rfl) (Pins.of_le hX84.pins (Pin.le_trans (Pin.le_trans hx57.le hx76.le) hx83.le)) ?_
    refine dr_end (by kernel_rfl) ?_
    refine s_then ?_
    refine wp_ret ?_
    refine s_ret ?_
    refine c_ret1 (v := (.bool (decide ((formM ((addM ([]) ([]) ns).2.1) ((addM ([]) ([]) ns).2.2) (rootM ([]) ([]) ns).toNat) = ns)))) rfl rfl rfl ?_
    exact ⟨_, congrArg (fun z => Ending.returned (Value.bool z)) (decP_dec.symm.trans (decP_iff ⟨fun h => ⟨hfit, hrise, h⟩, fun h => h.same⟩)), hX84⟩
  refine s_seq ?_
  refine c_reg ?_
  refine qd rfl rfl rfl (r_assign (v := (.bool false)) rfl) ?_
  refine qe ?_
  refine s_then ?_
  refine wp_ret ?_
  refine s_ret ?_
  refine c_ret1 (v := (.bool false)) rfl rfl rfl ?_
  exact ⟨_, congrArg (fun z => Ending.returned (Value.bool z)) (decP_false.2 (fun g => by rw [decP_true.2 g.fits] at h18; cases h18)).symm, hX17⟩

end E1
end Go.Proofs.YtndhhpaldhlghaaDoor
