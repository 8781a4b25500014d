/- Texts of this claim in one file: E1, K1, PO1. -/
import Derived.Test.YtajkbplgbikgdaaGreatDoorOr4
import Derived.Test.YtajkbplgbikgdaaGreatDoorChecked
set_option maxRecDepth 20000
set_option maxHeartbeats 2000000
namespace Go.Proofs.YtajkbplgbikgdaaGreatDoor
namespace E1
open Go.RowKit Go.GL Go.Proofs
open C1 D1
theorem mk3 : (Tryz.prog.info? 3).map (fun i => (i.size, i.bytes, i.zero)) = some (1, 8, some (.int .i64 0)) := by kernel_rfl
theorem mk4 : (Tryz.prog.info? 4).map (fun i => (i.size, i.bytes, i.zero)) = some (1, 1, some (.bool false)) := by kernel_rfl
theorem pl119 : (Tryz.prog.underlying 119).bind (placesD Tryz.prog) = some [(0, 1), (1, 1)] := by kernel_rfl
theorem pl26 : (Tryz.prog.underlying 26).bind (placesD Tryz.prog) = some [(0, 1)] := by kernel_rfl
theorem pl65 : (Tryz.prog.underlying 65).bind (placesD Tryz.prog) = some [(0, 1), (1, 1)] := by kernel_rfl
theorem add_spec {w : World} {G : Pin} {b : Nat} {bu bv : Value} {ns : List Nd} {bs : List Int} (hP : Pins G w) (hB : Bk 65 3 G w b bu bv ns bs) (hok : BookOk ns bs) {x : Value} {fs : List Nd} (hx : RSl eNode G x fs) (hf : FormOk fs) (hl : ns.length + fs.length ≤ 1048576) :
  Calls Tryz.prog 76 [(.pointer (some ⟨b, 0, none⟩)), (.agg [x].toArray)].toArray w fun e w' => ∃ (r u' v' : Value) (G' : Pin), e = .returned r ∧ RSl eInt G' r (addM ns bs fs).1 ∧ Bk 65 3 G' w' b u' v' (addM ns bs fs).2.1 (addM ns bs fs).2.2 ∧ Ext (inS b bu bv) G w G' w' ∧ Lo w (inS b bu bv) u'.ownBlock ∧ Lo w (inS b bu bv) v'.ownBlock := by
 refine yG (n := 37) Tryz.func76 Tryz.ntmps76 rfl rfl ?_
 have hX0 := exr (inS b bu bv) hP
 have hbx := hB.bx
 have hou := hB.ou
 have hov := hB.ov
 have habu := hB.abu
 have habv := hB.abv
 have hauv := hB.auv
 have hlob : Lo w (inS b bu bv) (some b) := lo_b
 have hlou : Lo w (inS b bu bv) bu.ownBlock := lo_u
 have hlov : Lo w (inS b bu bv) bv.ownBlock := lo_v
 have hlen := hok.len
 have hlim := hok.lim
 refine zG (zH ?_)
 refine qI rfl (xW [x] (v := (.agg [x].toArray)) rfl rfl hX0.pins (fun b1 w2 hk3 hb4 hp5 hl6 => ?_))
 have hX7 := hX0.step hp5 hl6
 have ho8 := hou.below hl6
 have ho9 := hov.below hl6
 have hb10 := hbx.below hl6
 have ha11 : Apart (some b1) bu.ownBlock := zK (congrArg some hk3) hou.lt
 have ha12 : Apart (some b1) bv.ownBlock := zK (congrArg some hk3) hov.lt
 have ha13 : Apart (some b1) (some b) := zL (congrArg some hk3) hbx.lt
 have hlo14 : w.heap.size ≤ b1 := by have := hX0.size; omega
 obtain ⟨G15, hle16, hX17, hbp18, hf19⟩ := hb4.shut hX7 hlo14
 have ho20 := ho8.moreA hle16 hf19 ha11.symm
 have ho21 := ho9.moreA hle16 hf19 ha12.symm
 have hb22 := hb10.moreA hf19 ha13.symm
 refine qD rfl (zD (v := (.slice none 0 0)) rfl) (qe (zA (zG (zH ?_))))
 refine qI rfl (xG (E := eInt) (e := 3) eU sz3 hX17.pins (fun u23 w24 ho25 hp26 hl27 hk28 => ?_))
 have hX29 := hX17.step hp26 hl27
 have ho30 := ho20.below hl27
 have ho31 := ho21.below hl27
 have hb32 := hb22.below hl27
 have ha33 : Apart u23.ownBlock bu.ownBlock := zK hk28 ho20.lt
 have ha34 : Apart u23.ownBlock bv.ownBlock := zK hk28 ho21.lt
 have ha35 : Apart u23.ownBlock (some b) := zL hk28 hb22.lt
 have ho36 := ho25.weaken hX17.size
 refine qD rfl (zD (v := u23) rfl) (qe (zA (zG (zG (zH ?_)))))
 refine qD rfl (zD (v := (.int .i64 0)) rfl) (qe (zA ?_))
 refine yH (yZ (fun (k : Nat) (en : Nat → Value) (W : World) => ∃ (env1 : Nat → Value) (k4 : Nat) (at_ : Value) (ats : List Int) (u2 : Value) (v2 : Value) (ns2 : List Nd) (bs2 : List Int) (GL1 : Pin), en = (upd (upd (upd (upd (upd env1 0 (.pointer (some ⟨b, 0, none⟩))) 3 (.pointer (some ⟨b1, 0, none⟩))) 4 (.slice none 0 0)) 5 at_) 6 (.int .i64 (k4 : Int))) ∧ k = fs.length - k4 ∧ Ext (inS b bu bv) G w GL1 W ∧ Pin.le G15 GL1 ∧ (k4 ≤ fs.length) ∧ (addM ns bs (fs.take k4) = (ats, ns2, bs2)) ∧ (AddOk ns k4 ats ns2 bs2) ∧ (Own eInt 3 GL1 W w.heap.size at_ (ats)) ∧ (Own eNode 65 GL1 W 0 u2 (ns2)) ∧ (Own eInt 3 GL1 W 0 v2 (bs2)) ∧ (Bx GL1 W b [u2, v2]) ∧ (Apart at_.ownBlock u2.ownBlock) ∧ (Apart at_.ownBlock v2.ownBlock) ∧ (Apart at_.ownBlock (some b)) ∧ (Apart u2.ownBlock v2.ownBlock) ∧ (Apart u2.ownBlock (some b)) ∧ (Apart v2.ownBlock (some b)) ∧ (Lo w (inS b bu bv) u2.ownBlock) ∧ (Lo w (inS b bu bv) v2.ownBlock)) _ ⟨_, 0, u23, [], bu, bv, ns, bs, G15, (zC (x := 6) (zC (x := 5) (zC (x := 4) (zC (x := 3) (zX (x := 0) rfl) rfl) rfl) rfl) rfl), rfl, hX29, Pin.le_refl _, Nat.zero_le _, rfl, AddOk.start hok, ho36, ho30, ho31, hb32, ha33, ha34, ha35, hauv, habu.symm, habv.symm, hlou, hlov⟩ ?_)
 rintro k37 _ w38 ⟨env1, k4, at_, ats, u2, v2, ns2, bs2, GL1, rfl, hk39, hX40, hlek37, hj, hr, hao, hw41, hw42, hw43, hw44, ha45, ha46, ha47, ha48, ha49, ha50, hlo51, hlo52⟩
 have hal := hao.len
 have hah := hao.hi
 have hfl := hf.len
 refine zG (zG (zH ?_))
 refine qD rfl (zB (v := (.int .i64 (k4 : Int))) rfl) (qD rfl (zR (k := 0) rfl eW rfl nz24 rfl) (qD rfl (zS (u := x) ag24 rfl ((dO hX40.pins hlek37) _ _ _ (hbp18 0 _ rfl))) (qD rfl (zT eV (v := x) rfl hx) (qD rfl (xB rfl rfl) (qe (zA ?_))))))
 refine yN (p := ((k4 : Int) : Int) < (fs.length : Int)) rfl rfl (fun h53 => ?_) (fun h53 => ?_)
 have hat1 := hao.at1 hf (by omega)
 have hfe := hf.lens k4 (by omega)
 refine wp_skip (zA (zG ?_))
 refine yH (xD (S := fun wz => Pins GL1 wz) (last := 22) (by kernel_rfl) rfl ?_)
 have hl54 := bdr w38
 have hp55 := hX40.pins.below hl54
 have hX56 := hX40.step hp55 hl54
 have ho57 := hw41.below hl54
 have ho58 := hw42.below hl54
 have ho59 := hw43.below hl54
 have hb60 := hw44.below hl54
 refine dT (i := 0) rfl rfl (by kernel_rfl) (fun _ _ => zB (v := at_) rfl) hX56.pins ?_
 refine dT (i := 1) rfl rfl (by kernel_rfl) (fun _ _ => zB (v := (.pointer (some ⟨b, 0, none⟩))) rfl) hX56.pins ?_
 refine dT (i := 2) rfl rfl (by kernel_rfl) (fun _ _ => zB (v := at_) rfl) hX56.pins ?_
 refine dT (i := 3) rfl rfl (by kernel_rfl) (fun _ _ => zR (k := 0) rfl eW rfl nz24 rfl) hX56.pins ?_
 refine dT (i := 4) rfl rfl (by kernel_rfl) (fun _ hS => zS (u := x) ag24 rfl ((dO hS hlek37) _ _ _ (hbp18 0 _ rfl))) hX56.pins ?_
 refine dT (i := 5) rfl rfl (by kernel_rfl) (fun _ _ => zB (v := (.int .i64 (k4 : Int))) rfl) hX56.pins ?_
 refine dT (i := 6) rfl rfl (by kernel_rfl) (fun _ _ => zN eV sz65 (v := x) rfl rfl hx (by omega) (by omega)) hX56.pins ?_
 refine dT (i := 7) rfl rfl (by kernel_rfl) (fun _ _ => xP (off := 0) eX rfl rfl nz59 (z := (k4 : Int)) (k := 0) rfl hx (by omega) (by omega)) hX56.pins ?_
 obtain ⟨u61, hr62, hl63⟩ := vZ (hx.at (z := (k4 : Int)) (by omega) (by omega)) (j := k4) rfl
 have hm64 := hr62.max
 refine dT (i := 8) rfl rfl (by kernel_rfl) (fun _ hS => hl63 ag59 rfl (dO hS (dN hle16 hlek37))) hX56.pins ?_
 refine dT (i := 10) rfl rfl (by kernel_rfl) (fun _ _ => zB (v := at_) rfl) hX56.pins ?_
 refine dT (i := 11) rfl rfl (by kernel_rfl) (fun _ _ => zR (k := 0) rfl eW rfl nz24 rfl) hX56.pins ?_
 refine dT (i := 12) rfl rfl (by kernel_rfl) (fun _ hS => zS (u := x) ag24 rfl ((dO hS hlek37) _ _ _ (hbp18 0 _ rfl))) hX56.pins ?_
 refine dT (i := 13) rfl rfl (by kernel_rfl) (fun _ _ => zB (v := (.int .i64 (k4 : Int))) rfl) hX56.pins ?_
 refine dT (i := 14) rfl rfl (by kernel_rfl) (fun _ _ => zN eV sz65 (v := x) rfl rfl hx (by omega) (by omega)) hX56.pins ?_
 refine dT (i := 15) rfl rfl (by kernel_rfl) (fun _ _ => xP (off := 1) eX rfl rfl nz59 (z := (k4 : Int)) (k := 0) rfl hx (by omega) (by omega)) hX56.pins ?_
 obtain ⟨u65, hr66, hl67⟩ := kG (hx.at (z := (k4 : Int)) (by omega) (by omega)) (j := k4) rfl
 have hm68 := hr66.max
 refine dT (i := 16) rfl rfl (by kernel_rfl) (fun _ hS => hl67 ag59 rfl (dO hS (dN hle16 hlek37))) hX56.pins ?_
 refine zQ (i := 9) (by kernel_rfl) (zU (i := 9) rfl rfl rfl (zI rfl _) (zM (vs := [at_, u61]) Tryz.func77 nm77 rfl rfl rfl ?_))
 refine dP (qK hX56.pins (Gadd.pins hX56.pins at_) ho57.read (hr62.mono (dN hle16 hlek37)) (by omega) hat1.1) ?_
 rintro _ w71 ⟨u69, G70, rfl, ho72, hx73⟩
 refine ⟨_, rfl, ?_⟩
 have hX74 := hX56.tr hx73
 have ho75 := ho57.ext hx73
 have ho76 := ho58.ext hx73
 have ho77 := ho59.ext hx73
 have hb78 := hb60.ext hx73
 have ha79 : Apart u69.ownBlock at_.ownBlock := zV ho72.lt ho57.lt
 have ha80 : Apart u69.ownBlock u2.ownBlock := zV ho72.lt ho58.lt
 have ha81 : Apart u69.ownBlock v2.ownBlock := zV ho72.lt ho59.lt
 have ha82 : Apart u69.ownBlock (some b) := yA ho72.lt hb60.lt
 have ho83 := ho72.weaken hX56.size
 refine ⟨fun _ => (dO hX74.pins hx73.le), ?_⟩
 refine zQ (i := 17) (by kernel_rfl) (zU (i := 17) rfl rfl rfl (zI rfl _) (zM (vs := [at_, u65]) Tryz.func77 nm77 rfl rfl rfl ?_))
 refine dP (qK hX74.pins (Gadd.pins hX74.pins at_) ho75.read (hr66.mono (dN (dN hle16 hlek37) hx73.le)) (by omega) hat1.2) ?_
 rintro _ w86 ⟨u84, G85, rfl, ho87, hx88⟩
 refine ⟨_, rfl, ?_⟩
 have hX89 := hX74.tr hx88
 have ho90 := ho75.ext hx88
 have ho91 := ho76.ext hx88
 have ho92 := ho77.ext hx88
 have ho93 := ho83.ext hx88
 have hb94 := hb78.ext hx88
 have ha95 : Apart u84.ownBlock at_.ownBlock := zV ho87.lt ho75.lt
 have ha96 : Apart u84.ownBlock u2.ownBlock := zV ho87.lt ho76.lt
 have ha97 : Apart u84.ownBlock v2.ownBlock := zV ho87.lt ho77.lt
 have ha98 : Apart u84.ownBlock u69.ownBlock := zV ho87.lt ho83.lt
 have ha99 : Apart u84.ownBlock (some b) := yA ho87.lt hb78.lt
 have ho100 := ho87.weaken hX74.size
 refine ⟨fun _ => (dO hX89.pins (dN hx73.le hx88.le)), ?_⟩
 obtain ⟨G101, hle104, hX103, hr102, hf105⟩ := ho93.sealed hX89
 have ho106 := ho90.moreO hle104 hf105 ha79.symm
 have ho107 := ho91.moreO hle104 hf105 ha80.symm
 have ho108 := ho92.moreO hle104 hf105 ha81.symm
 have ho109 := ho100.moreO hle104 hf105 ha98
 have hb110 := hb94.moreO hf105 ha82.symm
 obtain ⟨G111, hle114, hX113, hr112, hf115⟩ := ho109.sealed hX103
 have ho116 := ho106.moreO hle114 hf115 ha95.symm
 have ho117 := ho107.moreO hle114 hf115 ha96.symm
 have ho118 := ho108.moreO hle114 hf115 ha97.symm
 have hb119 := hb110.moreO hf115 ha99.symm
 refine zQ (i := 18) (by kernel_rfl) (zU (i := 18) rfl rfl rfl (zI rfl _) (zM (vs := [(.pointer (some ⟨b, 0, none⟩)), u69, u84]) Tryz.func78 nm78 rfl rfl rfl ?_))
 refine dP (mN hX113.pins ⟨hb119, ho117, ho118, ha49.symm, ha50.symm, ha48⟩ hao.book (hr102.mono hle114) hr112 ⟨by rw [xF]; omega, by rw [xF]; omega⟩ (vK hao.places hat1.1) (vK hao.places hat1.2)) ?_
 rintro _ w123 ⟨u120, v121, G122, rfl, hbk124, hx125, hlu126, hlv127⟩
 refine ⟨_, rfl, ?_⟩
 have hin130 : ∀ i, inS b u2 v2 i → w.heap.size ≤ i ∨ (inS b bu bv) i := fH hlob hlo51 hlo52
 have hX131 := hX113.trans hx125 hin130
 have hn132 := notS (u := u2) (v := v2) ha47 ha45 ha46
 have ho133 := ho116.extS hx125 hn132
 have ha134 : Apart at_.ownBlock u120.ownBlock := xY hlu126 hn132 (qX ho116)
 have ha135 : Apart at_.ownBlock v121.ownBlock := xY hlv127 hn132 (qX ho116)
 have hb136 := hbk124.bx
 have ho137 := hbk124.ou
 have ho138 := hbk124.ov
 have ha139 := hbk124.abu
 have ha140 := hbk124.abv
 have ha141 := hbk124.auv
 have hlo142 := qP hlu126 hin130 hX113.size
 have hlo143 := qP hlv127 hin130 hX113.size
 refine ⟨fun _ => (dO hX131.pins (dN (dN (dN (dN hx73.le hx88.le) hle104) hle114) hx125.le)), ?_⟩
 refine zQ (i := 19) (by kernel_rfl) (zU (i := 19) rfl rfl rfl (zI rfl _) (yY (E := eInt) (e := 3) [(.int .i64 (putK ns2 bs2 (atL ats ((fs.getD k4 default).l)) (atL ats ((fs.getD k4 default).r))))] [putK ns2 bs2 (atL ats ((fs.getD k4 default).l)) (atL ats ((fs.getD k4 default).r))] eU sz3 zr3 (by exact xT (by rfl)) (yM (by rfl)) rfl rfl rfl rfl (by decide) hX131.pins (fun u144 w145 ho146 hp147 hl148 hk149 => ?_)))
 have hX150 := hX131.step hp147 hl148
 have ho151 := ho133.below hl148
 have ho152 := ho137.below hl148
 have ho153 := ho138.below hl148
 have hb154 := hb136.below hl148
 have ho159 := ho146.weaken hX131.size
 refine ⟨fun _ => (dO hX150.pins (dN (dN (dN (dN hx73.le hx88.le) hle104) hle114) hx125.le)), ?_⟩
 refine zQ (i := 20) (by kernel_rfl) (zU (i := 20) rfl rfl rfl (zI rfl _) (zZ (E := eInt) (v := at_) (u := u144) 8 eU ap3 (by decide) rfl rfl hX150.pins ho151 ho159.src (by first | omega | (rw [List.nil_append]; omega) | (rw [List.length_nil]; omega) | (rw [List.length_append]; omega) | (simp; done) | (simp; omega) | (simp only [List.length_append, List.length_cons, List.length_nil]; omega)) (by first | omega | (rw [List.nil_append]; omega) | (rw [List.length_nil]; omega) | (rw [List.length_append]; omega) | (simp; done) | (simp; omega) | (simp only [List.length_append, List.length_cons, List.length_nil]; omega)) (hX150.size) (fun u160 w161 ho162 hp163 hg164 hw165 => ?_)))
 have hX166 := hX150.write hp163 hg164 ((yD ho151))
 have ho167 := ho152.keptA hg164 ha134.symm
 have ho168 := ho153.keptA hg164 ha135.symm
 have hb170 := hb154.keptA hg164 ha47.symm
 have ha171 : Apart u120.ownBlock u160.ownBlock := zJ ha134.symm hw165 ho152.lt
 have ha172 : Apart v121.ownBlock u160.ownBlock := zJ ha135.symm hw165 ho153.lt
 have ha174 : Apart (some b) u160.ownBlock := zP ha47.symm hw165 hb154.lt
 have hm175 := la1 ats (putK ns2 bs2 (atL ats ((fs.getD k4 default).l)) (atL ats ((fs.getD k4 default).r)))
 refine ⟨fun _ => (dO hX166.pins (dN (dN (dN (dN hx73.le hx88.le) hle104) hle114) hx125.le)), ?_⟩
 refine dT (i := 21) rfl rfl (by kernel_rfl) (fun _ _ => zD (v := u160) rfl) (dO hX166.pins (dN (dN (dN (dN hx73.le hx88.le) hle104) hle114) hx125.le)) ?_
 refine yP (by kernel_rfl) (yQ (zA (zH ?_)))
 refine qD rfl (zB (v := (.int .i64 (k4 : Int))) rfl) (qD rfl (yX rfl rfl (by omega)) (qD rfl (zD (v := (.int .i64 ((k4 : Int) + 1))) rfl) (qe (yS (⟨_, ?_, _, rfl, _, k4 + 1, u160, (addStep (ats, ns2, bs2) (fs.getD k4 default)).1, u120, v121, (addStep (ats, ns2, bs2) (fs.getD k4 default)).2.1, (addStep (ats, ns2, bs2) (fs.getD k4 default)).2.2, G122, (zC (x := 6) (zC (x := 5) (zC (x := 4) (zC (x := 3) (zX (x := 0) rfl) rfl) rfl) rfl) rfl), rfl, hX166, (dN (dN (dN (dN (dN hlek37 hx73.le) hx88.le) hle104) hle114) hx125.le), (by omega), ((jH (by omega)).trans (by rw [hr])), (hao.step hf (by omega) hl), ho162, ho167, ho168, hb170, ha171.symm, ha172.symm, ha174.symm, ha141, ha139.symm, ha140.symm, hlo142, hlo143⟩)))))
 omega
 refine wp_exit (yI (yW (yV (zA (zG (zH ?_))))))
 refine qD rfl (zB (v := at_) rfl) (qD rfl (zD (v := at_) rfl) (qe (zA ?_)))
 refine wp_ret (zY (zW (v := at_) rfl rfl rfl ?_))
 obtain ⟨G176, hle179, hX178, hr177, hf180⟩ := hw41.sealed hX40
 have ho181 := hw42.moreO hle179 hf180 ha45.symm
 have ho182 := hw43.moreO hle179 hf180 ha46.symm
 have hb183 := hw44.moreO hf180 ha47.symm
 rw [jI (by omega)] at hr
 refine ⟨_, u2, v2, _, rfl, ?_, ?_, hX178, hlo51, hlo52⟩
 ·rw [hr]; exact hr177
 ·rw [hr]; exact ⟨hb183, ho181, ho182, ha49.symm, ha50.symm, ha48⟩
theorem jM {w : World} {G : Pin} {b : Nat} {bu bv : Value} {ns : List Nd} {bs : List Int} (hP : Pins G w) (hB : Bk 65 3 G w b bu bv ns bs) (hok : BookOk ns bs) {x : Value} {fs : List Nd} (hx : RSl eNode G x fs) (hf : FormOk fs ∧ 1 ≤ fs.length) (hl : ns.length + fs.length ≤ 1048576) :
  Calls Tryz.prog 124 [(.pointer (some ⟨b, 0, none⟩)), (.agg [x].toArray)].toArray w fun e w' => ∃ (u' v' : Value) (G' : Pin), e = .returned (.int .i64 (rootM ns bs fs)) ∧ Bk 65 3 G' w' b u' v' (addM ns bs fs).2.1 (addM ns bs fs).2.2 ∧ Ext (inS b bu bv) G w G' w' ∧ Lo w (inS b bu bv) u'.ownBlock ∧ Lo w (inS b bu bv) v'.ownBlock := by
 refine yG (n := 15) Tryz.func124 Tryz.ntmps124 rfl rfl ?_
 have hX0 := exr (inS b bu bv) hP
 have hbx := hB.bx
 have hou := hB.ou
 have hov := hB.ov
 have habu := hB.abu
 have habv := hB.abv
 have hauv := hB.auv
 have hlob : Lo w (inS b bu bv) (some b) := lo_b
 have hlou : Lo w (inS b bu bv) bu.ownBlock := lo_u
 have hlov : Lo w (inS b bu bv) bv.ownBlock := lo_v
 have hlen := hok.len
 have hlim := hok.lim
 have hal := (vS hok hf.1 hl).len
 have hfl := hf.1.len
 refine zG (zH ?_)
 refine qI rfl (xW [x] (v := (.agg [x].toArray)) rfl rfl hX0.pins (fun b1 w2 hk3 hb4 hp5 hl6 => ?_))
 have hX7 := hX0.step hp5 hl6
 have ho8 := hou.below hl6
 have ho9 := hov.below hl6
 have hb10 := hbx.below hl6
 have ha11 : Apart (some b1) bu.ownBlock := zK (congrArg some hk3) hou.lt
 have ha12 : Apart (some b1) bv.ownBlock := zK (congrArg some hk3) hov.lt
 have ha13 : Apart (some b1) (some b) := zL (congrArg some hk3) hbx.lt
 have hlo14 : w.heap.size ≤ b1 := by have := hX0.size; omega
 obtain ⟨G15, hle16, hX17, hbp18, hf19⟩ := hb4.shut hX7 hlo14
 have ho20 := ho8.moreA hle16 hf19 ha11.symm
 have ho21 := ho9.moreA hle16 hf19 ha12.symm
 have hb22 := hb10.moreA hf19 ha13.symm
 refine qD rfl (zD (v := (.int .i64 0)) rfl) (qe (zA (zG (zH ?_))))
 refine qD rfl (zB (v := (.pointer (some ⟨b, 0, none⟩))) rfl) (qD rfl (yJ (cs := [x]) ag26 sz26 rfl (fun j u hj => hX17.pins _ _ _ (hbp18 _ _ (by simpa using hj)))) (qI rfl (zM (vs := [(.pointer (some ⟨b, 0, none⟩)), (.agg [x].toArray)]) Tryz.func76 nm76 rfl rfl rfl ?_)))
 refine dP (add_spec hX17.pins ⟨hb22, ho20, ho21, habu, habv, hauv⟩ hok (hx.mono hle16) hf.1 (by first | omega | (simp; omega))) ?_
 rintro _ w26 ⟨u31, u23, v24, G25, rfl, hr32, hbk27, hx28, hlu29, hlv30⟩
 refine ⟨_, rfl, ?_⟩
 have hin33 : ∀ i, inS b bu bv i → w.heap.size ≤ i ∨ (inS b bu bv) i := fH hlob hlou hlov
 have hX34 := hX17.trans hx28 hin33
 have hb35 := hbk27.bx
 have ho36 := hbk27.ou
 have ho37 := hbk27.ov
 have ha38 := hbk27.abu
 have ha39 := hbk27.abv
 have ha40 := hbk27.auv
 have hlo41 := qP hlu29 hin33 hX17.size
 have hlo42 := qP hlv30 hin33 hX17.size
 refine qD rfl (zD (v := u31) rfl) (qe (zA (zG (zH ?_))))
 refine qD rfl (zB (v := u31) rfl) (qD rfl (zB (v := u31) rfl) (qD rfl (zT eU (v := u31) rfl hr32) (qD rfl (jA rfl rfl (by omega)) (qD rfl (zN eU sz3 (v := u31) rfl rfl hr32 (by omega) (by omega)) (qD rfl (zO (r := ((addM ns bs fs).1).getD ((((addM ns bs fs).1).length : Int) - 1).toNat 0) rfl ag3 (z := ((((addM ns bs fs).1).length : Int) - 1)) rfl hr32 hX34.pins (by omega) (by omega)) (qD rfl (zD (v := (.int .i64 (((addM ns bs fs).1).getD ((((addM ns bs fs).1).length : Int) - 1).toNat 0))) rfl) (qe (zA ?_))))))))
 exact wp_ret (zY (zW (v := (.int .i64 (((addM ns bs fs).1).getD ((((addM ns bs fs).1).length : Int) - 1).toNat 0))) rfl rfl rfl (⟨_, _, _, congrArg (fun z => Ending.returned (Value.int .i64 z)) (by unfold rootM; rw [show (((addM ns bs fs).1.length : Int) - 1).toNat = (addM ns bs fs).1.length - 1 by omega]), ⟨hb35, ho36, ho37, ha38, ha39, ha40⟩, hX34, hlo41, hlo42⟩)))
theorem sG {w : World} {G : Pin} {b : Nat} {bu bv : Value} {ns : List Nd} {bs : List Int} (hP : Pins G w) (hB : Bk 65 3 G w b bu bv ns bs) (hok : BookOk ns bs) {m : Int} (hm : 0 ≤ m ∧ m < ns.length) :
  Calls Tryz.prog 128 [(.pointer (some ⟨b, 0, none⟩)), (.int .i64 m)].toArray w fun e w' => ∃ (u : Value) (G' : Pin), e = .returned u ∧ Own eBool 4 G' w' w.heap.size u (reachM ns m.toNat) ∧ Ext noS G w G' w' := by
 refine yG (n := 78) Tryz.func128 Tryz.ntmps128 rfl rfl ?_
 have hX0 := exr noS hP
 have hbx := hB.bx
 have hou := hB.ou
 have hov := hB.ov
 have habu := hB.abu
 have habv := hB.abv
 have hauv := hB.auv
 have hlob : Lo w (inS b bu bv) (some b) := lo_b
 have hlou : Lo w (inS b bu bv) bu.ownBlock := lo_u
 have hlov : Lo w (inS b bu bv) bv.ownBlock := lo_v
 have hlen := hok.len
 have hlim := hok.lim
 have hoo : OptsOk ns := hok.optsOk
 refine zG (zH ?_)
 refine qD rfl (zD (v := (.slice none 0 0)) rfl) (qe (zA (zG (zH ?_))))
 refine qD rfl (zB (v := (.int .i64 m)) rfl) (qD rfl (yX rfl rfl (by omega)) (qI rfl (tP (E := eBool) false 1 (.bool false) dH mk4 (fun _ => rfl) rfl rfl hX0.pins (by omega) (by omega) (by omega) (fun u1 w2 ho3 hp4 hl5 hk6 => ?_))))
 have hX7 := hX0.step hp4 hl5
 have ho8 := hou.below hl5
 have ho9 := hov.below hl5
 have hb10 := hbx.below hl5
 have ha11 : Apart u1.ownBlock bu.ownBlock := zK hk6 hou.lt
 have ha12 : Apart u1.ownBlock bv.ownBlock := zK hk6 hov.lt
 have ha13 : Apart u1.ownBlock (some b) := zL hk6 hbx.lt
 have ho14 : Own eBool 4 G w2 w.heap.size u1 (List.replicate (m + 1).toNat false) := ho3.weaken hX0.size
 have hm15 : (List.replicate (m + 1).toNat false).length = (m + 1).toNat := List.length_replicate ..
 refine qD rfl (zD (v := u1) rfl) (qe (zA (zG (zH ?_))))
 refine qD rfl (zB (v := u1) rfl) (qD rfl (zB (v := (.int .i64 m)) rfl) (qD rfl (zN dH sz4 (v := u1) rfl rfl ho14.read (by omega) (by omega)) (q0 rfl rfl rfl (vX (E := eBool) (v := u1) (u := (.bool true)) (z := m) (true) sz4 rfl rfl rfl rfl hX7.pins ho14 (by omega) (by omega) (fun w16 ho17 hp18 hg19 hz20 => ?_)))))
 have hX21 := hX7.write hp18 hg19 ((yD ho14))
 have ho22 := ho8.keptA hg19 ha11.symm
 have ho23 := ho9.keptA hg19 ha12.symm
 have hb24 := hb10.keptA hg19 ha13.symm
 refine qe (zA (zG (zG (zH ?_))))
 refine qD rfl (zB (v := (.int .i64 m)) rfl) (qD rfl (zD (v := (.int .i64 m)) rfl) (qe (zA ?_)))
 refine yH (yZ (fun (k : Nat) (en : Nat → Value) (W : World) => ∃ (env1 : Nat → Value) (z : Int) (is : List Bool), en = (upd (upd (upd (upd env1 0 (.pointer (some ⟨b, 0, none⟩))) 4 (.slice none 0 0)) 5 u1) 6 (.int .i64 z)) ∧ k = (z + 1).toNat ∧ Ext noS G w G W ∧ (-1 ≤ z ∧ z ≤ m) ∧ (is.length = m.toNat + 1) ∧ (reachM ns m.toNat = ugo ns (z + 1).toNat is) ∧ (Own eBool 4 G W w.heap.size u1 (is)) ∧ (Own eNode 65 G W 0 bu (ns)) ∧ (Own eInt 3 G W 0 bv (bs)) ∧ (Bx G W b [bu, bv])) _ ⟨_, m, (List.replicate (m + 1).toNat false).set m.toNat true, (zC (x := 6) (zC (x := 5) (zC (x := 4) (zX (x := 0) rfl) rfl) rfl) rfl), rfl, hX21, (by omega), (by simp; omega), (by rw [show (m + 1).toNat = m.toNat + 1 by omega]; rfl), ho17, ho22, ho23, hb24⟩ ?_)
 rintro k25 _ w26 ⟨env1, z, is, rfl, hk27, hX28, hz, hnis, hr, hw29, hw30, hw31, hw32⟩
 refine zG (zG (zH ?_))
 refine qD rfl (zB (v := (.int .i64 z)) rfl) (qD rfl (gO rfl rfl) (qe (zA ?_)))
 refine yN (p := (0 : Int) ≤ z) rfl rfl (fun h33 => ?_) (fun h33 => ?_)
 refine wp_skip (zA (zG ?_))
 refine yH (zG (zG (zH ?_)))
 refine qD rfl (zB (v := u1) rfl) (qD rfl (zB (v := (.int .i64 z)) rfl) (qD rfl (zN dH sz4 (v := u1) rfl rfl hw29.read (by omega) (by omega)) (qD rfl (jS (r := is.getD (z).toNat false) rfl ag4 (z := z) rfl hw29.read (Gadd.pins hX28.pins u1) (by omega) (by omega)) (qD rfl (qR rfl) (qe (zA ?_))))))
 refine vN rfl rfl (fun h34 => ?_) (fun h34 => ?_)
 refine wp_skip (zA (zG (zG (zH ?_))))
 refine qD rfl (zD (v := (.int .i64 0)) rfl) (qe (zA ?_))
 refine yH (yZ (fun (k : Nat) (en : Nat → Value) (W : World) => ∃ (env1 : Nat → Value) (i : Nat) (is2 : List Bool), en = (upd (upd (upd (upd (upd env1 0 (.pointer (some ⟨b, 0, none⟩))) 4 (.slice none 0 0)) 5 u1) 6 (.int .i64 z)) 7 (.int .i64 (i : Int))) ∧ k = (ns.getD (z).toNat default).l.length - i ∧ Ext noS G w G W ∧ (i ≤ (ns.getD (z).toNat default).l.length) ∧ (is2.length = m.toNat + 1) ∧ (setAll is (ns.getD (z).toNat default).l = setAll is2 ((ns.getD (z).toNat default).l.drop i)) ∧ (Own eBool 4 G W w.heap.size u1 (is2)) ∧ (Own eNode 65 G W 0 bu (ns)) ∧ (Own eInt 3 G W 0 bv (bs)) ∧ (Bx G W b [bu, bv])) _ ⟨_, 0, is, (zC (x := 7) (zC (x := 6) (zC (x := 5) (zC (x := 4) (zX (x := 0) rfl) rfl) rfl) rfl) rfl), rfl, hX28, Nat.zero_le _, hnis, rfl, hw29, hw30, hw31, hw32⟩ ?_)
 rintro k35 _ w36 ⟨env1, i, is2, rfl, hk37, hX38, hii, hnis2, hris2, hw39, hw40, hw41, hw42⟩
 refine zG (zG (zH ?_))
 refine qD rfl (zB (v := (.int .i64 (i : Int))) rfl) (qD rfl (zB (v := (.pointer (some ⟨b, 0, none⟩))) rfl) (qD rfl (xC rfl) (qD rfl (zR (k := 0) rfl dC rfl nz24 rfl) (qD rfl (zS (u := bu) ag24 rfl (hw42.cell (o := 0) rfl)) (qD rfl (zB (v := (.int .i64 z)) rfl) (qD rfl (zN eV sz65 (v := bu) rfl rfl hw40.read (by omega) (by omega)) (qD rfl (xP (off := 0) eX rfl rfl nz59 (z := z) (k := 0) rfl hw40.read (by omega) (by omega)) ?_)))))))
 obtain ⟨u43, hr44, hl45⟩ := vZ (hw40.at (z := z) (by omega) (by omega)) (j := (z).toNat) rfl
 have hm46 := hr44.max
 refine qD rfl (hl45 ag59 rfl (Gadd.pins hX38.pins bu)) (qD rfl (zT eU (v := u43) rfl hr44) (qD rfl (xB rfl rfl) (qe (zA ?_))))
 refine yN (p := ((i : Int) : Int) < (((ns.getD (z).toNat default).l).length : Int)) rfl rfl (fun h47 => ?_) (fun h47 => ?_)
 have hk := hoo.left (j := (z).toNat) (i := i) (by omega) (by omega)
 refine wp_skip (zA (zG ?_))
 refine yH (zH (qD rfl (zB (v := u1) rfl) (qD rfl (zB (v := (.pointer (some ⟨b, 0, none⟩))) rfl) (qD rfl (xC rfl) (qD rfl (zR (k := 0) rfl dC rfl nz24 rfl) (qD rfl (zS (u := bu) ag24 rfl (hw42.cell (o := 0) rfl)) (qD rfl (zB (v := (.int .i64 z)) rfl) (qD rfl (zN eV sz65 (v := bu) rfl rfl hw40.read (by omega) (by omega)) (qD rfl (xP (off := 0) eX rfl rfl nz59 (z := z) (k := 0) rfl hw40.read (by omega) (by omega)) ?_)))))))))
 obtain ⟨u48, hr49, hl50⟩ := vZ (hw40.at (z := z) (by omega) (by omega)) (j := (z).toNat) rfl
 have hm51 := hr49.max
 refine qD rfl (hl50 ag59 rfl (Gadd.pins hX38.pins bu)) (qD rfl (zB (v := (.int .i64 (i : Int))) rfl) (qD rfl (zN eU sz3 (v := u48) rfl rfl hr49 (by omega) (by omega)) (qD rfl (zO (r := ((ns.getD (z).toNat default).l).getD i 0) rfl ag3 (z := (i : Int)) rfl hr49 hX38.pins (by omega) (by omega)) (qD rfl (zN dH sz4 (v := u1) rfl rfl hw39.read (by omega) (by omega)) (q0 rfl rfl rfl (vX (E := eBool) (v := u1) (u := (.bool true)) (z := (((ns.getD (z).toNat default).l).getD i 0)) (true) sz4 rfl rfl rfl rfl hX38.pins hw39 (by omega) (by omega) (fun w52 ho53 hp54 hg55 hz56 => ?_)))))))
 have hX57 := hX38.write hp54 hg55 ((yD hw39))
 have ho58 := hw40.keptA hg55 ha11.symm
 have ho59 := hw41.keptA hg55 ha12.symm
 have hb60 := hw42.keptA hg55 ha13.symm
 refine qe (yQ (zA (zH ?_)))
 refine qD rfl (zB (v := (.int .i64 (i : Int))) rfl) (qD rfl (yX rfl rfl (by omega)) (qD rfl (zD (v := (.int .i64 ((i : Int) + 1))) rfl) (qe (yS (⟨_, ?_, _, rfl, _, i + 1, is2.set ((ns.getD (z).toNat default).l.getD i 0).toNat true, (zC (x := 7) (zC (x := 6) (zC (x := 5) (zC (x := 4) (zX (x := 0) rfl) rfl) rfl) rfl) rfl), rfl, hX57, (by omega), ((List.length_set ..).trans hnis2), (hris2.trans (vU (by omega))), ho53, ho58, ho59, hb60⟩)))))
 omega
 refine wp_exit (yI (yW (yV (zA (zG (zH ?_))))))
 refine qD rfl (zD (v := (.int .i64 0)) rfl) (qe (zA ?_))
 refine yH (yZ (fun (k : Nat) (en : Nat → Value) (W : World) => ∃ (env1 : Nat → Value) (i3 : Nat) (is3 : List Bool), en = (upd (upd (upd (upd (upd env1 0 (.pointer (some ⟨b, 0, none⟩))) 4 (.slice none 0 0)) 5 u1) 6 (.int .i64 z)) 8 (.int .i64 (i3 : Int))) ∧ k = (ns.getD (z).toNat default).r.length - i3 ∧ Ext noS G w G W ∧ (i3 ≤ (ns.getD (z).toNat default).r.length) ∧ (is3.length = m.toNat + 1) ∧ (setAll is2 (ns.getD (z).toNat default).r = setAll is3 ((ns.getD (z).toNat default).r.drop i3)) ∧ (Own eBool 4 G W w.heap.size u1 (is3)) ∧ (Own eNode 65 G W 0 bu (ns)) ∧ (Own eInt 3 G W 0 bv (bs)) ∧ (Bx G W b [bu, bv])) _ ⟨_, 0, is2, (zC (x := 8) (zC (x := 6) (zC (x := 5) (zC (x := 4) (zX (x := 0) rfl) rfl) rfl) rfl) rfl), rfl, hX38, Nat.zero_le _, hnis2, rfl, hw39, hw40, hw41, hw42⟩ ?_)
 rintro k61 _ w62 ⟨env1, i3, is3, rfl, hk63, hX64, hii3, hnis3, hris3, hw65, hw66, hw67, hw68⟩
 refine zG (zG (zH ?_))
 refine qD rfl (zB (v := (.int .i64 (i3 : Int))) rfl) (qD rfl (zB (v := (.pointer (some ⟨b, 0, none⟩))) rfl) (qD rfl (xC rfl) (qD rfl (zR (k := 0) rfl dC rfl nz24 rfl) (qD rfl (zS (u := bu) ag24 rfl (hw68.cell (o := 0) rfl)) (qD rfl (zB (v := (.int .i64 z)) rfl) (qD rfl (zN eV sz65 (v := bu) rfl rfl hw66.read (by omega) (by omega)) (qD rfl (xP (off := 1) eX rfl rfl nz59 (z := z) (k := 0) rfl hw66.read (by omega) (by omega)) ?_)))))))
 obtain ⟨u69, hr70, hl71⟩ := kG (hw66.at (z := z) (by omega) (by omega)) (j := (z).toNat) rfl
 have hm72 := hr70.max
 refine qD rfl (hl71 ag59 rfl (Gadd.pins hX64.pins bu)) (qD rfl (zT eU (v := u69) rfl hr70) (qD rfl (xB rfl rfl) (qe (zA ?_))))
 refine yN (p := ((i3 : Int) : Int) < (((ns.getD (z).toNat default).r).length : Int)) rfl rfl (fun h73 => ?_) (fun h73 => ?_)
 have hk := hoo.right (j := (z).toNat) (i := i3) (by omega) (by omega)
 refine wp_skip (zA (zG ?_))
 refine yH (zH (qD rfl (zB (v := u1) rfl) (qD rfl (zB (v := (.pointer (some ⟨b, 0, none⟩))) rfl) (qD rfl (xC rfl) (qD rfl (zR (k := 0) rfl dC rfl nz24 rfl) (qD rfl (zS (u := bu) ag24 rfl (hw68.cell (o := 0) rfl)) (qD rfl (zB (v := (.int .i64 z)) rfl) (qD rfl (zN eV sz65 (v := bu) rfl rfl hw66.read (by omega) (by omega)) (qD rfl (xP (off := 1) eX rfl rfl nz59 (z := z) (k := 0) rfl hw66.read (by omega) (by omega)) ?_)))))))))
 obtain ⟨u74, hr75, hl76⟩ := kG (hw66.at (z := z) (by omega) (by omega)) (j := (z).toNat) rfl
 have hm77 := hr75.max
 refine qD rfl (hl76 ag59 rfl (Gadd.pins hX64.pins bu)) (qD rfl (zB (v := (.int .i64 (i3 : Int))) rfl) (qD rfl (zN eU sz3 (v := u74) rfl rfl hr75 (by omega) (by omega)) (qD rfl (zO (r := ((ns.getD (z).toNat default).r).getD i3 0) rfl ag3 (z := (i3 : Int)) rfl hr75 hX64.pins (by omega) (by omega)) (qD rfl (zN dH sz4 (v := u1) rfl rfl hw65.read (by omega) (by omega)) (q0 rfl rfl rfl (vX (E := eBool) (v := u1) (u := (.bool true)) (z := (((ns.getD (z).toNat default).r).getD i3 0)) (true) sz4 rfl rfl rfl rfl hX64.pins hw65 (by omega) (by omega) (fun w78 ho79 hp80 hg81 hz82 => ?_)))))))
 have hX83 := hX64.write hp80 hg81 ((yD hw65))
 have ho84 := hw66.keptA hg81 ha11.symm
 have ho85 := hw67.keptA hg81 ha12.symm
 have hb86 := hw68.keptA hg81 ha13.symm
 refine qe (yQ (zA (zH ?_)))
 refine qD rfl (zB (v := (.int .i64 (i3 : Int))) rfl) (qD rfl (yX rfl rfl (by omega)) (qD rfl (zD (v := (.int .i64 ((i3 : Int) + 1))) rfl) (qe (yS (⟨_, ?_, _, rfl, _, i3 + 1, is3.set ((ns.getD (z).toNat default).r.getD i3 0).toNat true, (zC (x := 8) (zC (x := 6) (zC (x := 5) (zC (x := 4) (zX (x := 0) rfl) rfl) rfl) rfl) rfl), rfl, hX83, (by omega), ((List.length_set ..).trans hnis3), (hris3.trans (vU (by omega))), ho79, ho84, ho85, hb86⟩)))))
 omega
 refine wp_exit (yI (yW (yV (yQ (zA (zH ?_))))))
 refine qD rfl (zB (v := (.int .i64 z)) rfl) (qD rfl (jA rfl rfl (by omega)) (qD rfl (zD (v := (.int .i64 (z - 1))) rfl) (qe (yS (⟨_, ?_, _, rfl, _, z - 1, is3, (zC (x := 6) (zC (x := 5) (zC (x := 4) (zX (x := 0) rfl) rfl) rfl) rfl), rfl, hX64, (by omega), hnis3, (hr.trans ((gI (by omega)).trans (by rw [fL h34, hris2, kM (by omega), hris3, kM (by omega)]))), hw65, hw66, hw67, hw68⟩)))))
 omega
 refine wp_exit (yI (yV (zA (zH ?_))))
 refine qD rfl (zB (v := (.int .i64 z)) rfl) (qD rfl (jA rfl rfl (by omega)) (qD rfl (zD (v := (.int .i64 (z - 1))) rfl) (qe (yS (⟨_, ?_, _, rfl, _, z - 1, is, (zC (x := 6) (zC (x := 5) (zC (x := 4) (zX (x := 0) rfl) rfl) rfl) rfl), rfl, hX28, (by omega), hnis, (hr.trans ((gI (by omega)).trans (by rw [mC h34]))), hw29, hw30, hw31, hw32⟩)))))
 omega
 refine wp_exit (yI (yW (yV (zA (zG (zH ?_))))))
 refine qD rfl (zB (v := u1) rfl) (qD rfl (zD (v := u1) rfl) (qe (zA ?_)))
 exact wp_ret (zY (zW (v := u1) rfl rfl rfl (⟨_, _, rfl, (by rw [hr, ugo_end (by omega)]; exact hw29), hX28⟩)))
theorem form_own {w : World} {G : Pin} {b : Nat} {bu bv : Value} {ns : List Nd} {bs : List Int} (hP : Pins G w) (hB : Bk 65 3 G w b bu bv ns bs) (hok : BookOk ns bs) {m : Int} (hm : 0 ≤ m ∧ m < ns.length) :
  Calls Tryz.prog 79 [(.pointer (some ⟨b, 0, none⟩)), (.int .i64 m)].toArray w fun e w' => ∃ (u : Value) (G' : Pin), e = .returned (.agg [u].toArray) ∧ RSl eNode G' u (formM ns bs m.toNat) ∧ Ext noS G w G' w' ∧ ∃ Gi, Own eNode 65 Gi w' w.heap.size u (formM ns bs m.toNat) ∧ Pin.le Gi G' := by
 refine yG (n := 143) Tryz.func79 Tryz.ntmps79 rfl rfl ?_
 have hX0 := exr noS hP
 have hbx := hB.bx
 have hou := hB.ou
 have hov := hB.ov
 have habu := hB.abu
 have habv := hB.abv
 have hauv := hB.auv
 have hlob : Lo w (inS b bu bv) (some b) := lo_b
 have hlou : Lo w (inS b bu bv) bu.ownBlock := lo_u
 have hlov : Lo w (inS b bu bv) bv.ownBlock := lo_v
 have hlen := hok.len
 have hlim := hok.lim
 have hoo : OptsOk ns := hok.optsOk
 refine zG (zH ?_)
 refine qI rfl (yO [(.slice none 0 0)] zr26 rfl hX0.pins (fun b1 w2 hk3 hb4 hp5 hl6 => ?_))
 have hX7 := hX0.step hp5 hl6
 have ho8 := hou.below hl6
 have ho9 := hov.below hl6
 have hb10 := hbx.below hl6
 have hlo14 : w.heap.size ≤ b1 := by have := hX0.size; omega
 refine qe (zA (zG (zH ?_)))
 refine qD rfl (zB (v := (.pointer (some ⟨b, 0, none⟩))) rfl) (qD rfl (zB (v := (.int .i64 m)) rfl) (qI rfl (zM (vs := [(.pointer (some ⟨b, 0, none⟩)), (.int .i64 m)]) Tryz.func128 nm128 rfl rfl rfl ?_)))
 refine dP (sG hX7.pins ⟨hb10, ho8, ho9, habu, habv, hauv⟩ hok hm) ?_
 rintro _ w17 ⟨u15, G16, rfl, ho18, hx19⟩
 refine ⟨_, rfl, ?_⟩
 have hX20 := hX7.tr hx19
 have ho21 := ho8.ext hx19
 have ho22 := ho9.ext hx19
 have hb23 := hb10.ext hx19
 have hb24 := hb4.ext hx19
 have ha25 : Apart u15.ownBlock bu.ownBlock := zV ho18.lt ho8.lt
 have ha26 : Apart u15.ownBlock bv.ownBlock := zV ho18.lt ho9.lt
 have ha27 : Apart u15.ownBlock (some b) := yA ho18.lt hb10.lt
 have ha28 : Apart u15.ownBlock (some b1) := yA ho18.lt hb4.lt
 have ho29 := ho18.weaken hX7.size
 obtain ⟨G30, hle33, hX32, hr31, hf34⟩ := ho29.sealed hX20
 have ho35 := ho21.moreO hle33 hf34 ha25.symm
 have ho36 := ho22.moreO hle33 hf34 ha26.symm
 have hb37 := hb23.moreO hf34 ha27.symm
 have hb38 := hb24.moreO hf34 ha28.symm
 have hnl := kN ns m.toNat
 refine qD rfl (zD (v := u15) rfl) (qe (zA (zG (zH ?_))))
 refine qD rfl (zB (v := (.int .i64 m)) rfl) (qD rfl (yX rfl rfl (by omega)) (qI rfl (tP (E := eInt) 0 8 (.int .i64 0) eU mk3 (fun _ => rfl) rfl rfl hX32.pins (by omega) (by omega) (by omega) (fun u39 w40 ho41 hp42 hl43 hk44 => ?_))))
 have hX45 := hX32.step hp42 hl43
 have ho46 := ho35.below hl43
 have ho47 := ho36.below hl43
 have hb48 := hb37.below hl43
 have hb49 := hb38.below hl43
 have ha50 : Apart u39.ownBlock bu.ownBlock := zK hk44 ho35.lt
 have ha51 : Apart u39.ownBlock bv.ownBlock := zK hk44 ho36.lt
 have ha52 : Apart u39.ownBlock (some b) := zL hk44 hb37.lt
 have ha53 : Apart u39.ownBlock (some b1) := zL hk44 hb38.lt
 have ho54 : Own eInt 3 G30 w40 w.heap.size u39 (List.replicate (m + 1).toNat 0) := ho41.weaken hX32.size
 have hm55 : (List.replicate (m + 1).toNat 0).length = (m + 1).toNat := List.length_replicate ..
 refine qD rfl (zD (v := u39) rfl) (qe (zA (zG (zH ?_))))
 refine qI rfl (xG (E := eNode) (e := 65) eV sz65 hX45.pins (fun u56 w57 ho58 hp59 hl60 hk61 => ?_))
 have hX62 := hX45.step hp59 hl60
 have ho63 := ho46.below hl60
 have ho64 := ho47.below hl60
 have ho65 := ho54.below hl60
 have hb66 := hb48.below hl60
 have hb67 := hb49.below hl60
 have ha68 : Apart u56.ownBlock bu.ownBlock := zK hk61 ho46.lt
 have ha69 : Apart u56.ownBlock bv.ownBlock := zK hk61 ho47.lt
 have ha70 : Apart u56.ownBlock u39.ownBlock := zK hk61 ho54.lt
 have ha71 : Apart u56.ownBlock (some b) := zL hk61 hb48.lt
 have ha72 : Apart u56.ownBlock (some b1) := zL hk61 hb49.lt
 have ho73 := ho58.weaken hX45.size
 refine qD rfl (xQ [(.slice none 0 0)] [u56] [(0, u56, [u56])] eW zr26 rfl pl26 rfl (List.forall_mem_cons.2 ⟨(xE ho73.one), (fun _ h => by cases h)⟩) rfl) (qI rfl (yO [(.slice none 0 0)] zr26 rfl hX62.pins (fun b74 w75 hk76 hb77 hp78 hl79 => ?_)))
 have hX80 := hX62.step hp78 hl79
 have ho81 := ho63.below hl79
 have ho82 := ho64.below hl79
 have ho83 := ho65.below hl79
 have ho84 := ho73.below hl79
 have hb85 := hb66.below hl79
 have hb86 := hb67.below hl79
 have ha87 : Apart (some b74) bu.ownBlock := zK (congrArg some hk76) ho63.lt
 have ha88 : Apart (some b74) bv.ownBlock := zK (congrArg some hk76) ho64.lt
 have ha89 : Apart (some b74) u39.ownBlock := zK (congrArg some hk76) ho65.lt
 have ha90 : Apart (some b74) u56.ownBlock := zK (congrArg some hk76) ho73.lt
 have ha91 : Apart (some b74) (some b) := zL (congrArg some hk76) hb66.lt
 have ha92 : Apart (some b74) (some b1) := zL (congrArg some hk76) hb67.lt
 have hlo93 : w.heap.size ≤ b74 := by have := hX62.size; omega
 refine q0 rfl rfl rfl (o_stp (cs' := [u56]) (us := [u56]) (v := (.agg [u56].toArray)) sz26 rfl rfl rfl (yM ho84.one) hX80.pins hb77 (dQ rfl) rfl (fun w94 hb95 hp96 hg97 hz98 => ?_))
 have hX99 := hX80.write hp96 hg97 ((yC hlo93))
 have ho100 := ho81.keptA hg97 ha87.symm
 have ho101 := ho82.keptA hg97 ha88.symm
 have ho102 := ho83.keptA hg97 ha89.symm
 have ho103 := ho84.keptA hg97 ha90.symm
 have hb104 := hb85.keptA hg97 ha91.symm
 have hb105 := hb86.keptA hg97 ha92.symm
 refine qe (zA (zG (zG (zH ?_))))
 refine qD rfl (zD (v := (.int .i64 0)) rfl) (qe (zA ?_))
 refine yH (yZ (fun (k : Nat) (en : Nat → Value) (W : World) => ∃ (env1 : Nat → Value) (q : Nat) (at_ : Value) (ats : List Int) (ov : Value) (outs : List Nd) (GL1 : Pin), en = (upd (upd (upd (upd (upd (upd (upd env1 0 (.pointer (some ⟨b, 0, none⟩))) 1 (.int .i64 m)) 4 (.pointer (some ⟨b1, 0, none⟩))) 5 u15) 6 at_) 7 (.pointer (some ⟨b74, 0, none⟩))) 8 (.int .i64 (q : Int))) ∧ k = (bs.getD m.toNat 0).toNat + 1 - q ∧ Ext noS G w GL1 W ∧ Pin.le G30 GL1 ∧ (q ≤ (bs.getD m.toNat 0).toNat + 1) ∧ (formGo ns bs (reachM ns m.toNat) (m.toNat + 1) q = (ats, outs)) ∧ (ats.length = m.toNat + 1) ∧ (outs.length ≤ q * 1048576) ∧ (Own eInt 3 GL1 W w.heap.size at_ (ats)) ∧ (Own eNode 65 GL1 W w.heap.size ov (outs)) ∧ (Own eNode 65 GL1 W 0 bu (ns)) ∧ (Own eInt 3 GL1 W 0 bv (bs)) ∧ (Bx GL1 W b [bu, bv]) ∧ (Bx GL1 W b1 [(.slice none 0 0)]) ∧ (Bx GL1 W b74 [ov]) ∧ (Apart at_.ownBlock ov.ownBlock) ∧ (Apart at_.ownBlock bu.ownBlock) ∧ (Apart at_.ownBlock bv.ownBlock) ∧ (Apart at_.ownBlock (some b)) ∧ (Apart at_.ownBlock (some b1)) ∧ (Apart at_.ownBlock (some b74)) ∧ (Apart ov.ownBlock bu.ownBlock) ∧ (Apart ov.ownBlock bv.ownBlock) ∧ (Apart ov.ownBlock (some b)) ∧ (Apart ov.ownBlock (some b1)) ∧ (Apart ov.ownBlock (some b74))) _ ⟨_, 0, u39, List.replicate (m + 1).toNat 0, u56, [], G30, (zC (x := 8) (zC (x := 7) (zC (x := 6) (zC (x := 5) (zC (x := 4) (zC (x := 1) (zX (x := 0) rfl) rfl) rfl) rfl) rfl) rfl) rfl), rfl, hX99, Pin.le_refl _, Nat.zero_le _, (by rw [show (m + 1).toNat = m.toNat + 1 by omega]; rfl), (by simp; omega), Nat.le_refl 0, ho102, ho103, ho100, ho101, hb104, hb105, hb95, ha70.symm, ha50, ha51, ha52, ha53, ha89.symm, ha68, ha69, ha71, ha72, ha90.symm⟩ ?_)
 rintro k106 _ w107 ⟨env1, q, at_, ats, ov, outs, GL1, rfl, hk108, hX109, hlek106, hq, hr, hatl, hol, hw110, hw111, hw112, hw113, hw114, hw115, hw116, ha117, ha118, ha119, ha120, ha121, ha122, ha123, ha124, ha125, ha126, ha127⟩
 have hbm := hok.born m.toNat (by omega)
 refine zG (zG (zH ?_))
 refine qD rfl (zB (v := (.int .i64 (q : Int))) rfl) (qD rfl (zB (v := (.pointer (some ⟨b, 0, none⟩))) rfl) (qD rfl (xC rfl) (qD rfl (zR (k := 1) rfl dC rfl nz59 rfl) (qD rfl (zS (u := bv) ag59 rfl (hw114.cell (o := 1) rfl)) (qD rfl (zB (v := (.int .i64 m)) rfl) (qD rfl (zN eU sz3 (v := bv) rfl rfl hw113.read (by omega) (by omega)) (qD rfl (zO (r := bs.getD (m).toNat 0) rfl ag3 (z := m) rfl hw113.read (Gadd.pins hX109.pins bv) (by omega) (by omega)) (qD rfl (fV rfl rfl) (qe (zA ?_))))))))))
 refine yN (p := ((q : Int) : Int) ≤ (bs.getD (m).toNat 0)) rfl rfl (fun h128 => ?_) (fun h128 => ?_)
 refine wp_skip (zA (zG ?_))
 refine yH (zG (zH ?_))
 refine qI rfl (xG (E := eNode) (e := 65) eV sz65 hX109.pins (fun u129 w130 ho131 hp132 hl133 hk134 => ?_))
 have hX135 := hX109.step hp132 hl133
 have ho136 := hw110.below hl133
 have ho137 := hw111.below hl133
 have ho138 := hw112.below hl133
 have ho139 := hw113.below hl133
 have hb140 := hw114.below hl133
 have hb141 := hw115.below hl133
 have hb142 := hw116.below hl133
 have ha143 : Apart u129.ownBlock at_.ownBlock := zK hk134 hw110.lt
 have ha144 : Apart u129.ownBlock ov.ownBlock := zK hk134 hw111.lt
 have ha145 : Apart u129.ownBlock bu.ownBlock := zK hk134 hw112.lt
 have ha146 : Apart u129.ownBlock bv.ownBlock := zK hk134 hw113.lt
 have ha147 : Apart u129.ownBlock (some b) := zL hk134 hw114.lt
 have ha148 : Apart u129.ownBlock (some b1) := zL hk134 hw115.lt
 have ha149 : Apart u129.ownBlock (some b74) := zL hk134 hw116.lt
 have ho150 := ho131.weaken hX109.size
 refine qI rfl (xG (E := eInt) (e := 3) eU sz3 hX135.pins (fun u151 w152 ho153 hp154 hl155 hk156 => ?_))
 have hX157 := hX135.step hp154 hl155
 have ho158 := ho136.below hl155
 have ho159 := ho137.below hl155
 have ho160 := ho138.below hl155
 have ho161 := ho139.below hl155
 have ho162 := ho150.below hl155
 have hb163 := hb140.below hl155
 have hb164 := hb141.below hl155
 have hb165 := hb142.below hl155
 have ha166 : Apart u151.ownBlock at_.ownBlock := zK hk156 ho136.lt
 have ha167 : Apart u151.ownBlock ov.ownBlock := zK hk156 ho137.lt
 have ha168 : Apart u151.ownBlock bu.ownBlock := zK hk156 ho138.lt
 have ha169 : Apart u151.ownBlock bv.ownBlock := zK hk156 ho139.lt
 have ha170 : Apart u151.ownBlock u129.ownBlock := zK hk156 ho150.lt
 have ha171 : Apart u151.ownBlock (some b) := zL hk156 hb140.lt
 have ha172 : Apart u151.ownBlock (some b1) := zL hk156 hb141.lt
 have ha173 : Apart u151.ownBlock (some b74) := zL hk156 hb142.lt
 have ho174 := ho153.weaken hX135.size
 refine qD rfl (zD (v := u129) rfl) (qD rfl (zD (v := u151) rfl) (qe (zA (zG (zG (zH ?_))))))
 refine qD rfl (zD (v := (.int .i64 0)) rfl) (qe (zA ?_))
 refine yH ?_
 obtain ⟨G179, hle182, hX181, hr180, hf183⟩ := ho162.sealed hX157
 have ho184 := ho158.moreO hle182 hf183 ha143.symm
 have ho185 := ho159.moreO hle182 hf183 ha144.symm
 have ho186 := ho160.moreO hle182 hf183 ha145.symm
 have ho187 := ho161.moreO hle182 hf183 ha146.symm
 have ho188 := ho174.moreO hle182 hf183 ha170
 have hb189 := hb163.moreO hf183 ha147.symm
 have hb190 := hb164.moreO hf183 ha148.symm
 have hb191 := hb165.moreO hf183 ha149.symm
 obtain ⟨G192, hle195, hX194, hr193, hf196⟩ := ho188.sealed hX181
 have ho197 := ho184.moreO hle195 hf196 ha166.symm
 have ho198 := ho185.moreO hle195 hf196 ha167.symm
 have ho199 := ho186.moreO hle195 hf196 ha168.symm
 have ho200 := ho187.moreO hle195 hf196 ha169.symm
 have hb201 := hb189.moreO hf196 ha171.symm
 have hb202 := hb190.moreO hf196 ha172.symm
 have hb203 := hb191.moreO hf196 ha173.symm
 refine yZ (fun (k : Nat) (en : Nat → Value) (W : World) => ∃ (env1 : Nat → Value) (k5 : Nat) (lv : Value) (ls : List Nd) (fv : Value) (fr : List Int) (GL2 : Pin), en = (upd (upd (upd (upd (upd (upd (upd (upd (upd (upd env1 0 (.pointer (some ⟨b, 0, none⟩))) 1 (.int .i64 m)) 4 (.pointer (some ⟨b1, 0, none⟩))) 5 u15) 6 at_) 7 (.pointer (some ⟨b74, 0, none⟩))) 8 (.int .i64 (q : Int))) 9 lv) 10 fv) 11 (.int .i64 (k5 : Int))) ∧ k = m.toNat + 1 - k5 ∧ Ext noS G w GL2 W ∧ Pin.le G192 GL2 ∧ (k5 ≤ m.toNat + 1) ∧ (lvM ns bs (reachM ns m.toNat) ats q k5 = (ls, fr)) ∧ (ls.length = fr.length ∧ ls.length ≤ k5) ∧ (∀ i, i < fr.length → 0 ≤ fr.getD i 0 ∧ fr.getD i 0 ≤ m) ∧ (Own eInt 3 GL2 W w.heap.size at_ (ats)) ∧ (Own eNode 65 GL2 W w.heap.size ov (outs)) ∧ (Own eNode 65 GL2 W 0 bu (ns)) ∧ (Own eInt 3 GL2 W 0 bv (bs)) ∧ (Bx GL2 W b [bu, bv]) ∧ (Bx GL2 W b1 [(.slice none 0 0)]) ∧ (Bx GL2 W b74 [ov]) ∧ (RSl eNode GL2 lv (ls)) ∧ (RSl eInt GL2 fv (fr))) _ ⟨_, 0, u129, [], u151, [], G192, (zC (x := 11) (zC (x := 10) (zC (x := 9) (zC (x := 8) (zC (x := 7) (zC (x := 6) (zC (x := 5) (zC (x := 4) (zC (x := 1) (zX (x := 0) rfl) rfl) rfl) rfl) rfl) rfl) rfl) rfl) rfl) rfl), rfl, hX194, Pin.le_refl _, Nat.zero_le _, rfl, ⟨rfl, Nat.le_refl 0⟩, (fun i hi => absurd hi (Nat.not_lt_zero i)), ho197, ho198, ho199, ho200, hb201, hb202, hb203, (hr180.mono hle195), hr193⟩ ?_
 rintro k175 _ w176 ⟨env1, k5, lv, ls, fv, fr, GL2, rfl, hk177, hX178, hlek175, hk5, hrl, hll, hfb, hw204, hw205, hw206, hw207, hw208, hw209, hw210, hr211, hr212⟩
 refine zG (zG (zH ?_))
 refine qD rfl (zB (v := (.int .i64 (k5 : Int))) rfl) (qD rfl (zB (v := (.int .i64 m)) rfl) (qD rfl (fV rfl rfl) (qe (zA ?_))))
 refine yN (p := ((k5 : Int) : Int) ≤ m) rfl rfl (fun h213 => ?_) (fun h213 => ?_)
 have hlk := hok.lens k5 (by omega)
 refine wp_skip (zA (zG ?_))
 refine yH (zG (zG (zH ?_)))
 refine qD rfl (zB (v := u15) rfl) (qD rfl (zB (v := (.int .i64 (k5 : Int))) rfl) (qD rfl (zN dH sz4 (v := u15) rfl rfl hr31 (by omega) (by omega)) (qD rfl (jS (r := (reachM ns (m).toNat).getD k5 false) rfl ag4 (z := (k5 : Int)) rfl hr31 (dO hX178.pins (dN (dN (dN hlek106 hle182) hle195) hlek175)) (by omega) (by omega)) (qD rfl (qR rfl) (qD rfl (zB (v := (.bool (!((reachM ns (m).toNat).getD k5 false)))) rfl) (qbn (t := 46) rfl (fun h214 => ?_) (fun h214 => ?_)))))))
 refine qdg rfl rfl rfl rfl rfl rfl (zB (v := (.pointer (some ⟨b, 0, none⟩))) rfl) (qdg rfl rfl rfl rfl rfl rfl (xC rfl) (qdg rfl rfl rfl rfl rfl rfl (zR (k := 1) rfl dC rfl nz59 rfl) (qdg rfl rfl rfl rfl rfl rfl (zS (u := bv) ag59 rfl (hw208.cell (o := 1) rfl)) (qdg rfl rfl rfl rfl rfl rfl (zB (v := (.int .i64 (k5 : Int))) rfl) (qdg rfl rfl rfl rfl rfl rfl (zN eU sz3 (v := bv) rfl rfl hw207.read (by omega) (by omega)) (qdg rfl rfl rfl rfl rfl rfl (zO (r := bs.getD k5 0) rfl ag3 (z := (k5 : Int)) rfl hw207.read (Gadd.pins hX178.pins bv) (by omega) (by omega)) (qdg rfl rfl rfl rfl rfl rfl (zB (v := (.int .i64 (q : Int))) rfl) (qdg rfl rfl rfl rfl rfl rfl (kY rfl rfl) (qD rfl (xA (v := (.bool (decide ((bs.getD k5 0 : Int) ≠ (q : Int))))) rfl rfl) (qe (zA ?_)))))))))))
 refine yN (p := (bs.getD k5 0 : Int) ≠ (q : Int)) rfl rfl (fun h215 => ?_) (fun h215 => ?_)
 refine wp_exit (yI (yV (zA (zH ?_))))
 refine qD rfl (zB (v := (.int .i64 (k5 : Int))) rfl) (qD rfl (yX rfl rfl (by omega)) (qD rfl (zD (v := (.int .i64 ((k5 : Int) + 1))) rfl) (qe (yS (⟨_, ?_, _, rfl, _, k5 + 1, lv, ls, fv, fr, GL2, (zC (x := 11) (zC (x := 10) (zC (x := 9) (zC (x := 8) (zC (x := 7) (zC (x := 6) (zC (x := 5) (zC (x := 4) (zC (x := 1) (zX (x := 0) rfl) rfl) rfl) rfl) rfl) rfl) rfl) rfl) rfl) rfl), rfl, hX178, hlek175, (by omega), (lv_skip hrl (fun g => by have := g.2; omega)), (by omega), hfb, hw204, hw205, hw206, hw207, hw208, hw209, hw210, hr211, hr212⟩)))))
 omega
 refine wp_skip (zA (zG ?_))
 refine tF (fun (en : Nat → Value) (W : World) => ∃ (env1 : Nat → Value) (c216 : Nat) (c217 : Value) (c218 : Value) (G219 : Pin), en = (upd (upd (upd (upd (upd (upd (upd (upd (upd (upd (upd env1 0 (.pointer (some ⟨b, 0, none⟩))) 1 (.int .i64 m)) 4 (.pointer (some ⟨b1, 0, none⟩))) 5 u15) 6 at_) 7 (.pointer (some ⟨b74, 0, none⟩))) 8 (.int .i64 (q : Int))) 9 lv) 10 fv) 11 (.int .i64 (k5 : Int))) 12 (.pointer (some ⟨c216, 0, none⟩))) ∧ Ext noS G w G219 W ∧ Pin.le GL2 G219 ∧ (RSl eInt G219 c217 (sortL (atL ats ((ns.getD k5 default).l)))) ∧ (RSl eInt G219 c218 (sortL (atL ats ((ns.getD k5 default).r)))) ∧ (Own eInt 3 G219 W w.heap.size at_ ats) ∧ (Own eNode 65 G219 W w.heap.size ov outs) ∧ (Own eNode 65 G219 W 0 bu ns) ∧ (Own eInt 3 G219 W 0 bv bs) ∧ (Bx G219 W b [bu, bv]) ∧ (Bx G219 W b1 [(.slice none 0 0)]) ∧ (Bx G219 W b74 [ov]) ∧ (BxP G219 c216 [c217, c218])) ?_ ?_
 ·rintro _ w220 ⟨env1, c216, c217, c218, G219, rfl, hX231, hle232, hr221, hr222, ho223, ho224, ho225, ho226, hb227, hb228, hb229, hb230⟩
  refine zA (zG (zH ?_))
  refine qD rfl (zD (v := (.int .i64 0)) rfl) (qe (zA (zG ?_)))
  refine yH (c_cutE (fun (en : Nat → Value) (W : World) => ∃ (env1 : Nat → Value) (i : Nat) (GL3 : Pin), en = (upd (upd (upd (upd (upd (upd (upd (upd (upd (upd (upd (upd env1 0 (.pointer (some ⟨b, 0, none⟩))) 1 (.int .i64 m)) 4 (.pointer (some ⟨b1, 0, none⟩))) 5 u15) 6 at_) 7 (.pointer (some ⟨b74, 0, none⟩))) 8 (.int .i64 (q : Int))) 9 lv) 10 fv) 11 (.int .i64 (k5 : Int))) 12 (.pointer (some ⟨c216, 0, none⟩))) 13 (.int .i64 (i : Int))) ∧ Ext noS G w GL3 W ∧ Pin.le G219 GL3 ∧ (i ≤ ls.length) ∧ (posM ls (ndAt ats (ns.getD k5 default)) = i) ∧ (Own eInt 3 GL3 W w.heap.size at_ (ats)) ∧ (Own eNode 65 GL3 W w.heap.size ov (outs)) ∧ (Own eNode 65 GL3 W 0 bu (ns)) ∧ (Own eInt 3 GL3 W 0 bv (bs)) ∧ (Bx GL3 W b [bu, bv]) ∧ (Bx GL3 W b1 [(.slice none 0 0)]) ∧ (Bx GL3 W b74 [ov])) 4 ?_ ?_)
  ·rintro _ w234 ⟨env1, i, GL3, rfl, hX236, hlek233, hi, hpe, hw237, hw238, hw239, hw240, hw241, hw242, hw243⟩
   refine yV (zA (zG ?_))
   refine tF (fun (en : Nat → Value) (W : World) => ∃ (env1 : Nat → Value) (c244 : Value) (G245 : Pin), en = (upd (upd (upd (upd (upd (upd (upd (upd (upd (upd (upd env1 0 (.pointer (some ⟨b, 0, none⟩))) 1 (.int .i64 m)) 4 (.pointer (some ⟨b1, 0, none⟩))) 5 u15) 6 at_) 7 (.pointer (some ⟨b74, 0, none⟩))) 8 (.int .i64 (q : Int))) 9 c244) 10 fv) 11 (.int .i64 (k5 : Int))) 13 (.int .i64 (i : Int))) ∧ Ext noS G w G245 W ∧ Pin.le GL3 G245 ∧ (Own eInt 3 G245 W w.heap.size at_ ats) ∧ (Own eNode 65 G245 W w.heap.size ov outs) ∧ (Own eNode 65 G245 W 0 bu ns) ∧ (Own eInt 3 G245 W 0 bv bs) ∧ (Own eNode 65 G245 W w.heap.size c244 (((([]) ++ ((ls.take i).drop 0)) ++ ([(⟨sortL (atL ats ((ns.getD k5 default).l)), sortL (atL ats ((ns.getD k5 default).r))⟩ : Nd)])) ++ ((ls.take ls.length).drop i))) ∧ (Bx G245 W b [bu, bv]) ∧ (Bx G245 W b1 [(.slice none 0 0)]) ∧ (Bx G245 W b74 [ov]) ∧ (Apart at_.ownBlock c244.ownBlock) ∧ (Apart ov.ownBlock c244.ownBlock) ∧ (Apart bu.ownBlock c244.ownBlock) ∧ (Apart bv.ownBlock c244.ownBlock) ∧ (Apart c244.ownBlock (some b)) ∧ (Apart c244.ownBlock (some b1)) ∧ (Apart c244.ownBlock (some b74))) ?_ ?_
   ·rintro _ w246 ⟨env1, c244, G245, rfl, hX262, hle263, ho247, ho248, ho249, ho250, ho251, hb252, hb253, hb254, ha255, ha256, ha257, ha258, ha259, ha260, ha261⟩
    refine zA (tF (fun (en : Nat → Value) (W : World) => ∃ (env1 : Nat → Value) (c264 : Value) (G265 : Pin), en = (upd (upd (upd (upd (upd (upd (upd (upd (upd (upd env1 0 (.pointer (some ⟨b, 0, none⟩))) 1 (.int .i64 m)) 4 (.pointer (some ⟨b1, 0, none⟩))) 5 u15) 6 at_) 7 (.pointer (some ⟨b74, 0, none⟩))) 8 (.int .i64 (q : Int))) 9 c244) 10 c264) 11 (.int .i64 (k5 : Int))) ∧ Ext noS G w G265 W ∧ Pin.le G245 G265 ∧ (Own eInt 3 G265 W w.heap.size at_ ats) ∧ (Own eNode 65 G265 W w.heap.size ov outs) ∧ (Own eNode 65 G265 W 0 bu ns) ∧ (Own eInt 3 G265 W 0 bv bs) ∧ (Own eNode 65 G265 W w.heap.size c244 (((([]) ++ ((ls.take i).drop 0)) ++ ([(⟨sortL (atL ats ((ns.getD k5 default).l)), sortL (atL ats ((ns.getD k5 default).r))⟩ : Nd)])) ++ ((ls.take ls.length).drop i))) ∧ (Own eInt 3 G265 W w.heap.size c264 (((([]) ++ ((fr.take i).drop 0)) ++ ([(k5 : Int)])) ++ ((fr.take fr.length).drop i))) ∧ (Bx G265 W b [bu, bv]) ∧ (Bx G265 W b1 [(.slice none 0 0)]) ∧ (Bx G265 W b74 [ov]) ∧ (Apart at_.ownBlock c264.ownBlock) ∧ (Apart ov.ownBlock c264.ownBlock) ∧ (Apart bu.ownBlock c264.ownBlock) ∧ (Apart bv.ownBlock c264.ownBlock) ∧ (Apart c244.ownBlock c264.ownBlock) ∧ (Apart c264.ownBlock (some b)) ∧ (Apart c264.ownBlock (some b1)) ∧ (Apart c264.ownBlock (some b74))) ?_ ?_)
    ·rintro _ w266 ⟨env1, c264, G265, rfl, hX284, hle285, ho267, ho268, ho269, ho270, ho271, ho272, hb273, hb274, hb275, ha276, ha277, ha278, ha279, ha280, ha281, ha282, ha283⟩
     refine yQ (zA (zH ?_))
     refine qD rfl (zB (v := (.int .i64 (k5 : Int))) rfl) (qD rfl (yX rfl rfl (by omega)) (qD rfl (zD (v := (.int .i64 ((k5 : Int) + 1))) rfl) (qe (yS ?_))))
     obtain ⟨G286, hle289, hX288, hr287, hf290⟩ := ho271.sealed hX284
     have ho291 := ho267.moreO hle289 hf290 ha255
     have ho292 := ho268.moreO hle289 hf290 ha256
     have ho293 := ho269.moreO hle289 hf290 ha257
     have ho294 := ho270.moreO hle289 hf290 ha258
     have ho295 := ho272.moreO hle289 hf290 ha280.symm
     have hb296 := hb273.moreO hf290 ha259.symm
     have hb297 := hb274.moreO hf290 ha260.symm
     have hb298 := hb275.moreO hf290 ha261.symm
     obtain ⟨G299, hle302, hX301, hr300, hf303⟩ := ho295.sealed hX288
     have ho304 := ho291.moreO hle302 hf303 ha276
     have ho305 := ho292.moreO hle302 hf303 ha277
     have ho306 := ho293.moreO hle302 hf303 ha278
     have ho307 := ho294.moreO hle302 hf303 ha279
     have hb308 := hb296.moreO hf303 ha281.symm
     have hb309 := hb297.moreO hf303 ha282.symm
     have hb310 := hb298.moreO hf303 ha283.symm
     have hi1 := ins_len (x := ndAt ats (ns.getD k5 default)) (l := ls) (i := i) (by omega)
     have hi2 := ins_len (x := (k5 : Int)) (l := fr) (i := i) (by omega)
     refine ⟨_, ?_, _, rfl, _, k5 + 1, c244, ((([]) ++ ((ls.take i).drop 0)) ++ ([(⟨sortL (atL ats ((ns.getD k5 default).l)), sortL (atL ats ((ns.getD k5 default).r))⟩ : Nd)])) ++ ((ls.take ls.length).drop i), c264, ((([]) ++ ((fr.take i).drop 0)) ++ ([(k5 : Int)])) ++ ((fr.take fr.length).drop i), G299, (zC (x := 11) (zC (x := 10) (zC (x := 9) (zC (x := 8) (zC (x := 7) (zC (x := 6) (zC (x := 5) (zC (x := 4) (zC (x := 1) (zX (x := 0) rfl) rfl) rfl) rfl) rfl) rfl) rfl) rfl) rfl) rfl), rfl, hX301, (dN (dN (dN (dN (dN (dN hlek175 hle232) hlek233) hle263) hle285) hle289) hle302), (by omega), (lv_ins hrl h214 (by omega) hpe), ⟨hi1.trans ((congrArg (· + 1) hll.1).trans hi2.symm), (by have : _ = _ := hi1; exact Nat.le_trans (Nat.le_of_eq hi1) (by omega))⟩, (ins_all (P := fun x => 0 ≤ x ∧ x ≤ m) hfb (by omega)), ho304, ho305, ho306, ho307, hb308, hb309, hb310, (hr287.mono hle302), hr300⟩
     omega
    refine xD (S := fun wz => Pins G245 wz) (last := 13) (by kernel_rfl) rfl ?_
    have hl311 := bdr w246
    have hp312 := hX262.pins.below hl311
    have hX313 := hX262.step hp312 hl311
    have ho314 := ho247.below hl311
    have ho315 := ho248.below hl311
    have ho316 := ho249.below hl311
    have ho317 := ho250.below hl311
    have ho318 := ho251.below hl311
    have hb319 := hb252.below hl311
    have hb320 := hb253.below hl311
    have hb321 := hb254.below hl311
    refine dT (i := 1) rfl rfl (by kernel_rfl) (fun _ _ => zB (v := fv) rfl) hX313.pins ?_
    refine dT (i := 2) rfl rfl (by kernel_rfl) (fun _ _ => zB (v := (.int .i64 (i : Int))) rfl) hX313.pins ?_
    obtain ⟨u322, hr323, hl324⟩ := qO hr212 (lo := none) (hi := (some ((i : Int)))) (0) (i) (Or.inl ⟨rfl, rfl⟩) (Or.inr ⟨_, rfl, (by omega), rfl⟩) (by omega) (by omega)
    refine dT (i := 3) rfl rfl (by kernel_rfl) (fun _ _ => hl324 eU sz3 rfl rfl rfl) hX313.pins ?_
    refine dT (i := 5) rfl rfl (by kernel_rfl) (fun _ _ => zB (v := (.int .i64 (k5 : Int))) rfl) hX313.pins ?_
    refine dT (i := 8) rfl rfl (by kernel_rfl) (fun _ _ => zB (v := fv) rfl) hX313.pins ?_
    refine dT (i := 9) rfl rfl (by kernel_rfl) (fun _ _ => zB (v := (.int .i64 (i : Int))) rfl) hX313.pins ?_
    obtain ⟨u325, hr326, hl327⟩ := qO hr212 (lo := (some ((i : Int)))) (hi := none) (i) (fr.length) (Or.inr ⟨_, rfl, (by omega), rfl⟩) (Or.inl ⟨rfl, rfl⟩) (by omega) (by omega)
    refine dT (i := 10) rfl rfl (by kernel_rfl) (fun _ _ => hl327 eU sz3 rfl rfl rfl) hX313.pins ?_
    refine qG (i := 0) (j := 6) (by kernel_rfl) ?_ ?_
    refine (zU (i := 0) rfl rfl rfl (zI rfl _) (xG (E := eInt) (e := 3) eU sz3 hX313.pins (fun u328 w329 ho330 hp331 hl332 hk333 => ?_)))
    have hX334 := hX313.step hp331 hl332
    have ho335 := ho314.below hl332
    have ho336 := ho315.below hl332
    have ho337 := ho316.below hl332
    have ho338 := ho317.below hl332
    have ho339 := ho318.below hl332
    have hb340 := hb319.below hl332
    have hb341 := hb320.below hl332
    have hb342 := hb321.below hl332
    have ha343 : Apart u328.ownBlock at_.ownBlock := zK hk333 ho314.lt
    have ha344 : Apart u328.ownBlock ov.ownBlock := zK hk333 ho315.lt
    have ha345 : Apart u328.ownBlock bu.ownBlock := zK hk333 ho316.lt
    have ha346 : Apart u328.ownBlock bv.ownBlock := zK hk333 ho317.lt
    have ha347 : Apart u328.ownBlock c244.ownBlock := zK hk333 ho318.lt
    have ha348 : Apart u328.ownBlock (some b) := zL hk333 hb319.lt
    have ha349 : Apart u328.ownBlock (some b1) := zL hk333 hb320.lt
    have ha350 : Apart u328.ownBlock (some b74) := zL hk333 hb321.lt
    have ho351 := ho330.weaken hX313.size
    refine ⟨fun _ => hX334.pins, ?_⟩
    refine qG (i := 4) (j := 6) (by kernel_rfl) ?_ ?_
    refine (zU (i := 4) rfl rfl rfl (zI rfl _) (zZ (E := eInt) (v := u328) (u := u322) 8 eU ap3 (by decide) rfl rfl hX334.pins ho351 ((hr323.mono (dN (dN hle232 hlek233) hle263)).src hX334.pins (by decide)) (by first | omega | (rw [List.nil_append]; omega) | (rw [List.length_nil]; omega) | (rw [List.length_append]; omega) | (simp; done) | (simp; omega) | (simp only [List.length_append, List.length_cons, List.length_nil]; omega)) (by first | omega | (rw [List.nil_append]; omega) | (rw [List.length_nil]; omega) | (rw [List.length_append]; omega) | (simp; done) | (simp; omega) | (simp only [List.length_append, List.length_cons, List.length_nil]; omega)) (hX334.size) (fun u352 w353 ho354 hp355 hg356 hw357 => ?_)))
    have hX358 := hX334.write hp355 hg356 ((yD ho351))
    have ho359 := ho335.keptA hg356 ha343.symm
    have ho360 := ho336.keptA hg356 ha344.symm
    have ho361 := ho337.keptA hg356 ha345.symm
    have ho362 := ho338.keptA hg356 ha346.symm
    have ho363 := ho339.keptA hg356 ha347.symm
    have hb364 := hb340.keptA hg356 ha348.symm
    have hb365 := hb341.keptA hg356 ha349.symm
    have hb366 := hb342.keptA hg356 ha350.symm
    have ha367 : Apart at_.ownBlock u352.ownBlock := zJ ha343.symm hw357 ho335.lt
    have ha368 : Apart ov.ownBlock u352.ownBlock := zJ ha344.symm hw357 ho336.lt
    have ha369 : Apart bu.ownBlock u352.ownBlock := zJ ha345.symm hw357 ho337.lt
    have ha370 : Apart bv.ownBlock u352.ownBlock := zJ ha346.symm hw357 ho338.lt
    have ha371 : Apart c244.ownBlock u352.ownBlock := zJ ha347.symm hw357 ho339.lt
    have ha372 : Apart (some b) u352.ownBlock := zP ha348.symm hw357 hb340.lt
    have ha373 : Apart (some b1) u352.ownBlock := zP ha349.symm hw357 hb341.lt
    have ha374 : Apart (some b74) u352.ownBlock := zP ha350.symm hw357 hb342.lt
    have hm375 := la2 ([]) ((fr.take i).drop 0)
    refine ⟨fun _ => hX358.pins, ?_⟩
    refine zQ (i := 6) (by kernel_rfl) (zU (i := 6) rfl rfl rfl (zI rfl _) (yY (E := eInt) (e := 3) [(.int .i64 (k5 : Int))] [(k5 : Int)] eU sz3 zr3 (by exact xT (by rfl)) (yM (by rfl)) rfl rfl rfl rfl (by decide) hX358.pins (fun u376 w377 ho378 hp379 hl380 hk381 => ?_)))
    have hX382 := hX358.step hp379 hl380
    have ho383 := ho359.below hl380
    have ho384 := ho360.below hl380
    have ho385 := ho361.below hl380
    have ho386 := ho362.below hl380
    have ho387 := ho363.below hl380
    have ho388 := ho354.below hl380
    have hb389 := hb364.below hl380
    have hb390 := hb365.below hl380
    have hb391 := hb366.below hl380
    have ho401 := ho378.weaken hX358.size
    refine ⟨fun _ => hX382.pins, ?_⟩
    refine zQ (i := 7) (by kernel_rfl) (zU (i := 7) rfl rfl rfl (zI rfl _) (zZ (E := eInt) (v := u352) (u := u376) 8 eU ap3 (by decide) rfl rfl hX382.pins ho388 ho401.src (by first | omega | (rw [List.nil_append]; omega) | (rw [List.length_nil]; omega) | (rw [List.length_append]; omega) | (simp; done) | (simp; omega) | (simp only [List.length_append, List.length_cons, List.length_nil]; omega)) (by first | omega | (rw [List.nil_append]; omega) | (rw [List.length_nil]; omega) | (rw [List.length_append]; omega) | (simp; done) | (simp; omega) | (simp only [List.length_append, List.length_cons, List.length_nil]; omega)) (hX382.size) (fun u402 w403 ho404 hp405 hg406 hw407 => ?_)))
    have hX408 := hX382.write hp405 hg406 ((yD ho388))
    have ho409 := ho383.keptA hg406 ha367
    have ho410 := ho384.keptA hg406 ha368
    have ho411 := ho385.keptA hg406 ha369
    have ho412 := ho386.keptA hg406 ha370
    have ho413 := ho387.keptA hg406 ha371
    have hb415 := hb389.keptA hg406 ha372
    have hb416 := hb390.keptA hg406 ha373
    have hb417 := hb391.keptA hg406 ha374
    have ha418 : Apart at_.ownBlock u402.ownBlock := zJ ha367 hw407 ho383.lt
    have ha419 : Apart ov.ownBlock u402.ownBlock := zJ ha368 hw407 ho384.lt
    have ha420 : Apart bu.ownBlock u402.ownBlock := zJ ha369 hw407 ho385.lt
    have ha421 : Apart bv.ownBlock u402.ownBlock := zJ ha370 hw407 ho386.lt
    have ha422 : Apart c244.ownBlock u402.ownBlock := zJ ha371 hw407 ho387.lt
    have ha424 : Apart (some b) u402.ownBlock := zP ha372 hw407 hb389.lt
    have ha425 : Apart (some b1) u402.ownBlock := zP ha373 hw407 hb390.lt
    have ha426 : Apart (some b74) u402.ownBlock := zP ha374 hw407 hb391.lt
    have hm427 := la1 (([]) ++ ((fr.take i).drop 0)) (k5 : Int)
    refine ⟨fun _ => hX408.pins, ?_⟩
    refine zQ (i := 11) (by kernel_rfl) (zU (i := 11) rfl rfl rfl (zI rfl _) (zZ (E := eInt) (v := u402) (u := u325) 8 eU ap3 (by decide) rfl rfl hX408.pins ho404 ((hr326.mono (dN (dN hle232 hlek233) hle263)).src hX408.pins (by decide)) (by first | omega | (rw [List.nil_append]; omega) | (rw [List.length_nil]; omega) | (rw [List.length_append]; omega) | (simp; done) | (simp; omega) | (simp only [List.length_append, List.length_cons, List.length_nil]; omega)) (by first | omega | (rw [List.nil_append]; omega) | (rw [List.length_nil]; omega) | (rw [List.length_append]; omega) | (simp; done) | (simp; omega) | (simp only [List.length_append, List.length_cons, List.length_nil]; omega)) (hX408.size) (fun u428 w429 ho430 hp431 hg432 hw433 => ?_)))
    have hX434 := hX408.write hp431 hg432 ((yD ho404))
    have ho435 := ho409.keptA hg432 ha418
    have ho436 := ho410.keptA hg432 ha419
    have ho437 := ho411.keptA hg432 ha420
    have ho438 := ho412.keptA hg432 ha421
    have ho439 := ho413.keptA hg432 ha422
    have hb440 := hb415.keptA hg432 ha424
    have hb441 := hb416.keptA hg432 ha425
    have hb442 := hb417.keptA hg432 ha426
    have ha443 : Apart at_.ownBlock u428.ownBlock := zJ ha418 hw433 ho409.lt
    have ha444 : Apart ov.ownBlock u428.ownBlock := zJ ha419 hw433 ho410.lt
    have ha445 : Apart bu.ownBlock u428.ownBlock := zJ ha420 hw433 ho411.lt
    have ha446 : Apart bv.ownBlock u428.ownBlock := zJ ha421 hw433 ho412.lt
    have ha447 : Apart c244.ownBlock u428.ownBlock := zJ ha422 hw433 ho413.lt
    have ha448 : Apart (some b) u428.ownBlock := zP ha424 hw433 hb415.lt
    have ha449 : Apart (some b1) u428.ownBlock := zP ha425 hw433 hb416.lt
    have ha450 : Apart (some b74) u428.ownBlock := zP ha426 hw433 hb417.lt
    have hm451 := la2 ((([]) ++ ((fr.take i).drop 0)) ++ ([(k5 : Int)])) ((fr.take fr.length).drop i)
    refine ⟨fun _ => hX434.pins, ?_⟩
    refine dT (i := 12) rfl rfl (by kernel_rfl) (fun _ _ => zD (v := u428) rfl) hX434.pins ?_
    exact yP (by kernel_rfl) (xU ⟨_, u428, G245, (zC (x := 11) (zC (x := 10) (zC (x := 9) (zC (x := 8) (zC (x := 7) (zC (x := 6) (zC (x := 5) (zC (x := 4) (zC (x := 1) (zX (x := 0) rfl) rfl) rfl) rfl) rfl) rfl) rfl) rfl) rfl) rfl), hX434, (Pin.le_refl _), ho435, ho436, ho437, ho438, ho439, ho430, hb440, hb441, hb442, ha443, ha444, ha445, ha446, ha447, ha448.symm, ha449.symm, ha450.symm⟩)
    refine (zU (i := 6) rfl rfl rfl (zI rfl _) (yY (E := eInt) (e := 3) [(.int .i64 (k5 : Int))] [(k5 : Int)] eU sz3 zr3 (by exact xT (by rfl)) (yM (by rfl)) rfl rfl rfl rfl (by decide) hX334.pins (fun u452 w453 ho454 hp455 hl456 hk457 => ?_)))
    have hX458 := hX334.step hp455 hl456
    have ho459 := ho335.below hl456
    have ho460 := ho336.below hl456
    have ho461 := ho337.below hl456
    have ho462 := ho338.below hl456
    have ho463 := ho339.below hl456
    have ho464 := ho351.below hl456
    have hb465 := hb340.below hl456
    have hb466 := hb341.below hl456
    have hb467 := hb342.below hl456
    have ha473 : Apart u452.ownBlock u328.ownBlock := zK hk457 ho351.lt
    have ho477 := ho454.weaken hX334.size
    refine ⟨fun _ => hX458.pins, ?_⟩
    refine zQ (i := 4) (by kernel_rfl) (zU (i := 4) rfl rfl rfl (zI rfl _) (zZ (E := eInt) (v := u328) (u := u322) 8 eU ap3 (by decide) rfl rfl hX458.pins ho464 ((hr323.mono (dN (dN hle232 hlek233) hle263)).src hX458.pins (by decide)) (by first | omega | (rw [List.nil_append]; omega) | (rw [List.length_nil]; omega) | (rw [List.length_append]; omega) | (simp; done) | (simp; omega) | (simp only [List.length_append, List.length_cons, List.length_nil]; omega)) (by first | omega | (rw [List.nil_append]; omega) | (rw [List.length_nil]; omega) | (rw [List.length_append]; omega) | (simp; done) | (simp; omega) | (simp only [List.length_append, List.length_cons, List.length_nil]; omega)) (hX458.size) (fun u478 w479 ho480 hp481 hg482 hw483 => ?_)))
    have hX484 := hX458.write hp481 hg482 ((yD ho464))
    have ho485 := ho459.keptA hg482 ha343.symm
    have ho486 := ho460.keptA hg482 ha344.symm
    have ho487 := ho461.keptA hg482 ha345.symm
    have ho488 := ho462.keptA hg482 ha346.symm
    have ho489 := ho463.keptA hg482 ha347.symm
    have ho490 := ho477.keptA hg482 ha473
    have hb491 := hb465.keptA hg482 ha348.symm
    have hb492 := hb466.keptA hg482 ha349.symm
    have hb493 := hb467.keptA hg482 ha350.symm
    have ha494 : Apart at_.ownBlock u478.ownBlock := zJ ha343.symm hw483 ho459.lt
    have ha495 : Apart ov.ownBlock u478.ownBlock := zJ ha344.symm hw483 ho460.lt
    have ha496 : Apart bu.ownBlock u478.ownBlock := zJ ha345.symm hw483 ho461.lt
    have ha497 : Apart bv.ownBlock u478.ownBlock := zJ ha346.symm hw483 ho462.lt
    have ha498 : Apart c244.ownBlock u478.ownBlock := zJ ha347.symm hw483 ho463.lt
    have ha500 : Apart (some b) u478.ownBlock := zP ha348.symm hw483 hb465.lt
    have ha501 : Apart (some b1) u478.ownBlock := zP ha349.symm hw483 hb466.lt
    have ha502 : Apart (some b74) u478.ownBlock := zP ha350.symm hw483 hb467.lt
    have hm503 := la2 ([]) ((fr.take i).drop 0)
    refine ⟨fun _ => hX484.pins, ?_⟩
    refine zQ (i := 7) (by kernel_rfl) (zU (i := 7) rfl rfl rfl (zI rfl _) (zZ (E := eInt) (v := u478) (u := u452) 8 eU ap3 (by decide) rfl rfl hX484.pins ho480 ho490.src (by first | omega | (rw [List.nil_append]; omega) | (rw [List.length_nil]; omega) | (rw [List.length_append]; omega) | (simp; done) | (simp; omega) | (simp only [List.length_append, List.length_cons, List.length_nil]; omega)) (by first | omega | (rw [List.nil_append]; omega) | (rw [List.length_nil]; omega) | (rw [List.length_append]; omega) | (simp; done) | (simp; omega) | (simp only [List.length_append, List.length_cons, List.length_nil]; omega)) (hX484.size) (fun u504 w505 ho506 hp507 hg508 hw509 => ?_)))
    have hX510 := hX484.write hp507 hg508 ((yD ho480))
    have ho511 := ho485.keptA hg508 ha494
    have ho512 := ho486.keptA hg508 ha495
    have ho513 := ho487.keptA hg508 ha496
    have ho514 := ho488.keptA hg508 ha497
    have ho515 := ho489.keptA hg508 ha498
    have hb517 := hb491.keptA hg508 ha500
    have hb518 := hb492.keptA hg508 ha501
    have hb519 := hb493.keptA hg508 ha502
    have ha520 : Apart at_.ownBlock u504.ownBlock := zJ ha494 hw509 ho485.lt
    have ha521 : Apart ov.ownBlock u504.ownBlock := zJ ha495 hw509 ho486.lt
    have ha522 : Apart bu.ownBlock u504.ownBlock := zJ ha496 hw509 ho487.lt
    have ha523 : Apart bv.ownBlock u504.ownBlock := zJ ha497 hw509 ho488.lt
    have ha524 : Apart c244.ownBlock u504.ownBlock := zJ ha498 hw509 ho489.lt
    have ha526 : Apart (some b) u504.ownBlock := zP ha500 hw509 hb491.lt
    have ha527 : Apart (some b1) u504.ownBlock := zP ha501 hw509 hb492.lt
    have ha528 : Apart (some b74) u504.ownBlock := zP ha502 hw509 hb493.lt
    have hm529 := la1 (([]) ++ ((fr.take i).drop 0)) (k5 : Int)
    refine ⟨fun _ => hX510.pins, ?_⟩
    refine zQ (i := 11) (by kernel_rfl) (zU (i := 11) rfl rfl rfl (zI rfl _) (zZ (E := eInt) (v := u504) (u := u325) 8 eU ap3 (by decide) rfl rfl hX510.pins ho506 ((hr326.mono (dN (dN hle232 hlek233) hle263)).src hX510.pins (by decide)) (by first | omega | (rw [List.nil_append]; omega) | (rw [List.length_nil]; omega) | (rw [List.length_append]; omega) | (simp; done) | (simp; omega) | (simp only [List.length_append, List.length_cons, List.length_nil]; omega)) (by first | omega | (rw [List.nil_append]; omega) | (rw [List.length_nil]; omega) | (rw [List.length_append]; omega) | (simp; done) | (simp; omega) | (simp only [List.length_append, List.length_cons, List.length_nil]; omega)) (hX510.size) (fun u530 w531 ho532 hp533 hg534 hw535 => ?_)))
    have hX536 := hX510.write hp533 hg534 ((yD ho506))
    have ho537 := ho511.keptA hg534 ha520
    have ho538 := ho512.keptA hg534 ha521
    have ho539 := ho513.keptA hg534 ha522
    have ho540 := ho514.keptA hg534 ha523
    have ho541 := ho515.keptA hg534 ha524
    have hb542 := hb517.keptA hg534 ha526
    have hb543 := hb518.keptA hg534 ha527
    have hb544 := hb519.keptA hg534 ha528
    have ha545 : Apart at_.ownBlock u530.ownBlock := zJ ha520 hw535 ho511.lt
    have ha546 : Apart ov.ownBlock u530.ownBlock := zJ ha521 hw535 ho512.lt
    have ha547 : Apart bu.ownBlock u530.ownBlock := zJ ha522 hw535 ho513.lt
    have ha548 : Apart bv.ownBlock u530.ownBlock := zJ ha523 hw535 ho514.lt
    have ha549 : Apart c244.ownBlock u530.ownBlock := zJ ha524 hw535 ho515.lt
    have ha550 : Apart (some b) u530.ownBlock := zP ha526 hw535 hb517.lt
    have ha551 : Apart (some b1) u530.ownBlock := zP ha527 hw535 hb518.lt
    have ha552 : Apart (some b74) u530.ownBlock := zP ha528 hw535 hb519.lt
    have hm553 := la2 ((([]) ++ ((fr.take i).drop 0)) ++ ([(k5 : Int)])) ((fr.take fr.length).drop i)
    refine ⟨fun _ => hX536.pins, ?_⟩
    refine dT (i := 12) rfl rfl (by kernel_rfl) (fun _ _ => zD (v := u530) rfl) hX536.pins ?_
    exact yP (by kernel_rfl) (xU ⟨_, u530, G245, (zC (x := 11) (zC (x := 10) (zC (x := 9) (zC (x := 8) (zC (x := 7) (zC (x := 6) (zC (x := 5) (zC (x := 4) (zC (x := 1) (zX (x := 0) rfl) rfl) rfl) rfl) rfl) rfl) rfl) rfl) rfl) rfl), hX536, (Pin.le_refl _), ho537, ho538, ho539, ho540, ho541, ho532, hb542, hb543, hb544, ha545, ha546, ha547, ha548, ha549, ha550.symm, ha551.symm, ha552.symm⟩)
    refine (zU (i := 6) rfl rfl rfl (zI rfl _) (yY (E := eInt) (e := 3) [(.int .i64 (k5 : Int))] [(k5 : Int)] eU sz3 zr3 (by exact xT (by rfl)) (yM (by rfl)) rfl rfl rfl rfl (by decide) hX313.pins (fun u554 w555 ho556 hp557 hl558 hk559 => ?_)))
    have hX560 := hX313.step hp557 hl558
    have ho561 := ho314.below hl558
    have ho562 := ho315.below hl558
    have ho563 := ho316.below hl558
    have ho564 := ho317.below hl558
    have ho565 := ho318.below hl558
    have hb566 := hb319.below hl558
    have hb567 := hb320.below hl558
    have hb568 := hb321.below hl558
    have ho577 := ho556.weaken hX313.size
    refine ⟨fun _ => hX560.pins, ?_⟩
    refine zQ (i := 0) (by kernel_rfl) (zU (i := 0) rfl rfl rfl (zI rfl _) (xG (E := eInt) (e := 3) eU sz3 hX560.pins (fun u578 w579 ho580 hp581 hl582 hk583 => ?_)))
    have hX584 := hX560.step hp581 hl582
    have ho585 := ho561.below hl582
    have ho586 := ho562.below hl582
    have ho587 := ho563.below hl582
    have ho588 := ho564.below hl582
    have ho589 := ho565.below hl582
    have ho590 := ho577.below hl582
    have hb591 := hb566.below hl582
    have hb592 := hb567.below hl582
    have hb593 := hb568.below hl582
    have ha594 : Apart u578.ownBlock at_.ownBlock := zK hk583 ho561.lt
    have ha595 : Apart u578.ownBlock ov.ownBlock := zK hk583 ho562.lt
    have ha596 : Apart u578.ownBlock bu.ownBlock := zK hk583 ho563.lt
    have ha597 : Apart u578.ownBlock bv.ownBlock := zK hk583 ho564.lt
    have ha598 : Apart u578.ownBlock c244.ownBlock := zK hk583 ho565.lt
    have ha599 : Apart u578.ownBlock u554.ownBlock := zK hk583 ho577.lt
    have ha600 : Apart u578.ownBlock (some b) := zL hk583 hb566.lt
    have ha601 : Apart u578.ownBlock (some b1) := zL hk583 hb567.lt
    have ha602 : Apart u578.ownBlock (some b74) := zL hk583 hb568.lt
    have ho603 := ho580.weaken hX560.size
    refine ⟨fun _ => hX584.pins, ?_⟩
    refine zQ (i := 4) (by kernel_rfl) (zU (i := 4) rfl rfl rfl (zI rfl _) (zZ (E := eInt) (v := u578) (u := u322) 8 eU ap3 (by decide) rfl rfl hX584.pins ho603 ((hr323.mono (dN (dN hle232 hlek233) hle263)).src hX584.pins (by decide)) (by first | omega | (rw [List.nil_append]; omega) | (rw [List.length_nil]; omega) | (rw [List.length_append]; omega) | (simp; done) | (simp; omega) | (simp only [List.length_append, List.length_cons, List.length_nil]; omega)) (by first | omega | (rw [List.nil_append]; omega) | (rw [List.length_nil]; omega) | (rw [List.length_append]; omega) | (simp; done) | (simp; omega) | (simp only [List.length_append, List.length_cons, List.length_nil]; omega)) (hX584.size) (fun u604 w605 ho606 hp607 hg608 hw609 => ?_)))
    have hX610 := hX584.write hp607 hg608 ((yD ho603))
    have ho611 := ho585.keptA hg608 ha594.symm
    have ho612 := ho586.keptA hg608 ha595.symm
    have ho613 := ho587.keptA hg608 ha596.symm
    have ho614 := ho588.keptA hg608 ha597.symm
    have ho615 := ho589.keptA hg608 ha598.symm
    have ho616 := ho590.keptA hg608 ha599.symm
    have hb617 := hb591.keptA hg608 ha600.symm
    have hb618 := hb592.keptA hg608 ha601.symm
    have hb619 := hb593.keptA hg608 ha602.symm
    have ha620 : Apart at_.ownBlock u604.ownBlock := zJ ha594.symm hw609 ho585.lt
    have ha621 : Apart ov.ownBlock u604.ownBlock := zJ ha595.symm hw609 ho586.lt
    have ha622 : Apart bu.ownBlock u604.ownBlock := zJ ha596.symm hw609 ho587.lt
    have ha623 : Apart bv.ownBlock u604.ownBlock := zJ ha597.symm hw609 ho588.lt
    have ha624 : Apart c244.ownBlock u604.ownBlock := zJ ha598.symm hw609 ho589.lt
    have ha626 : Apart (some b) u604.ownBlock := zP ha600.symm hw609 hb591.lt
    have ha627 : Apart (some b1) u604.ownBlock := zP ha601.symm hw609 hb592.lt
    have ha628 : Apart (some b74) u604.ownBlock := zP ha602.symm hw609 hb593.lt
    have hm629 := la2 ([]) ((fr.take i).drop 0)
    refine ⟨fun _ => hX610.pins, ?_⟩
    refine zQ (i := 7) (by kernel_rfl) (zU (i := 7) rfl rfl rfl (zI rfl _) (zZ (E := eInt) (v := u604) (u := u554) 8 eU ap3 (by decide) rfl rfl hX610.pins ho606 ho616.src (by first | omega | (rw [List.nil_append]; omega) | (rw [List.length_nil]; omega) | (rw [List.length_append]; omega) | (simp; done) | (simp; omega) | (simp only [List.length_append, List.length_cons, List.length_nil]; omega)) (by first | omega | (rw [List.nil_append]; omega) | (rw [List.length_nil]; omega) | (rw [List.length_append]; omega) | (simp; done) | (simp; omega) | (simp only [List.length_append, List.length_cons, List.length_nil]; omega)) (hX610.size) (fun u630 w631 ho632 hp633 hg634 hw635 => ?_)))
    have hX636 := hX610.write hp633 hg634 ((yD ho606))
    have ho637 := ho611.keptA hg634 ha620
    have ho638 := ho612.keptA hg634 ha621
    have ho639 := ho613.keptA hg634 ha622
    have ho640 := ho614.keptA hg634 ha623
    have ho641 := ho615.keptA hg634 ha624
    have hb643 := hb617.keptA hg634 ha626
    have hb644 := hb618.keptA hg634 ha627
    have hb645 := hb619.keptA hg634 ha628
    have ha646 : Apart at_.ownBlock u630.ownBlock := zJ ha620 hw635 ho611.lt
    have ha647 : Apart ov.ownBlock u630.ownBlock := zJ ha621 hw635 ho612.lt
    have ha648 : Apart bu.ownBlock u630.ownBlock := zJ ha622 hw635 ho613.lt
    have ha649 : Apart bv.ownBlock u630.ownBlock := zJ ha623 hw635 ho614.lt
    have ha650 : Apart c244.ownBlock u630.ownBlock := zJ ha624 hw635 ho615.lt
    have ha652 : Apart (some b) u630.ownBlock := zP ha626 hw635 hb617.lt
    have ha653 : Apart (some b1) u630.ownBlock := zP ha627 hw635 hb618.lt
    have ha654 : Apart (some b74) u630.ownBlock := zP ha628 hw635 hb619.lt
    have hm655 := la1 (([]) ++ ((fr.take i).drop 0)) (k5 : Int)
    refine ⟨fun _ => hX636.pins, ?_⟩
    refine zQ (i := 11) (by kernel_rfl) (zU (i := 11) rfl rfl rfl (zI rfl _) (zZ (E := eInt) (v := u630) (u := u325) 8 eU ap3 (by decide) rfl rfl hX636.pins ho632 ((hr326.mono (dN (dN hle232 hlek233) hle263)).src hX636.pins (by decide)) (by first | omega | (rw [List.nil_append]; omega) | (rw [List.length_nil]; omega) | (rw [List.length_append]; omega) | (simp; done) | (simp; omega) | (simp only [List.length_append, List.length_cons, List.length_nil]; omega)) (by first | omega | (rw [List.nil_append]; omega) | (rw [List.length_nil]; omega) | (rw [List.length_append]; omega) | (simp; done) | (simp; omega) | (simp only [List.length_append, List.length_cons, List.length_nil]; omega)) (hX636.size) (fun u656 w657 ho658 hp659 hg660 hw661 => ?_)))
    have hX662 := hX636.write hp659 hg660 ((yD ho632))
    have ho663 := ho637.keptA hg660 ha646
    have ho664 := ho638.keptA hg660 ha647
    have ho665 := ho639.keptA hg660 ha648
    have ho666 := ho640.keptA hg660 ha649
    have ho667 := ho641.keptA hg660 ha650
    have hb668 := hb643.keptA hg660 ha652
    have hb669 := hb644.keptA hg660 ha653
    have hb670 := hb645.keptA hg660 ha654
    have ha671 : Apart at_.ownBlock u656.ownBlock := zJ ha646 hw661 ho637.lt
    have ha672 : Apart ov.ownBlock u656.ownBlock := zJ ha647 hw661 ho638.lt
    have ha673 : Apart bu.ownBlock u656.ownBlock := zJ ha648 hw661 ho639.lt
    have ha674 : Apart bv.ownBlock u656.ownBlock := zJ ha649 hw661 ho640.lt
    have ha675 : Apart c244.ownBlock u656.ownBlock := zJ ha650 hw661 ho641.lt
    have ha676 : Apart (some b) u656.ownBlock := zP ha652 hw661 hb643.lt
    have ha677 : Apart (some b1) u656.ownBlock := zP ha653 hw661 hb644.lt
    have ha678 : Apart (some b74) u656.ownBlock := zP ha654 hw661 hb645.lt
    have hm679 := la2 ((([]) ++ ((fr.take i).drop 0)) ++ ([(k5 : Int)])) ((fr.take fr.length).drop i)
    refine ⟨fun _ => hX662.pins, ?_⟩
    refine dT (i := 12) rfl rfl (by kernel_rfl) (fun _ _ => zD (v := u656) rfl) hX662.pins ?_
    exact yP (by kernel_rfl) (xU ⟨_, u656, G245, (zC (x := 11) (zC (x := 10) (zC (x := 9) (zC (x := 8) (zC (x := 7) (zC (x := 6) (zC (x := 5) (zC (x := 4) (zC (x := 1) (zX (x := 0) rfl) rfl) rfl) rfl) rfl) rfl) rfl) rfl) rfl) rfl), hX662, (Pin.le_refl _), ho663, ho664, ho665, ho666, ho667, ho658, hb668, hb669, hb670, ha671, ha672, ha673, ha674, ha675, ha676.symm, ha677.symm, ha678.symm⟩)
   refine xD (S := fun wz => Pins GL3 wz) (last := 13) (by kernel_rfl) rfl ?_
   have hl680 := bdr w234
   have hp681 := hX236.pins.below hl680
   have hX682 := hX236.step hp681 hl680
   have ho683 := hw237.below hl680
   have ho684 := hw238.below hl680
   have ho685 := hw239.below hl680
   have ho686 := hw240.below hl680
   have hb687 := hw241.below hl680
   have hb688 := hw242.below hl680
   have hb689 := hw243.below hl680
   refine dT (i := 1) rfl rfl (by kernel_rfl) (fun _ _ => zB (v := lv) rfl) hX682.pins ?_
   refine dT (i := 2) rfl rfl (by kernel_rfl) (fun _ _ => zB (v := (.int .i64 (i : Int))) rfl) hX682.pins ?_
   obtain ⟨u690, hr691, hl692⟩ := qO hr211 (lo := none) (hi := (some ((i : Int)))) (0) (i) (Or.inl ⟨rfl, rfl⟩) (Or.inr ⟨_, rfl, (by omega), rfl⟩) (by omega) (by omega)
   refine dT (i := 3) rfl rfl (by kernel_rfl) (fun _ _ => hl692 eV sz65 rfl rfl rfl) hX682.pins ?_
   refine dT (i := 5) rfl rfl (by kernel_rfl) (fun _ hS => yJ (cs := [c217, c218]) ag65 sz65 rfl (fun j u hj => (dO hS hlek233) _ _ _ (hb230 _ _ (by simpa using hj)))) hX682.pins ?_
   refine dT (i := 8) rfl rfl (by kernel_rfl) (fun _ _ => zB (v := lv) rfl) hX682.pins ?_
   refine dT (i := 9) rfl rfl (by kernel_rfl) (fun _ _ => zB (v := (.int .i64 (i : Int))) rfl) hX682.pins ?_
   obtain ⟨u693, hr694, hl695⟩ := qO hr211 (lo := (some ((i : Int)))) (hi := none) (i) (ls.length) (Or.inr ⟨_, rfl, (by omega), rfl⟩) (Or.inl ⟨rfl, rfl⟩) (by omega) (by omega)
   refine dT (i := 10) rfl rfl (by kernel_rfl) (fun _ _ => hl695 eV sz65 rfl rfl rfl) hX682.pins ?_
   refine qG (i := 0) (j := 6) (by kernel_rfl) ?_ ?_
   refine (zU (i := 0) rfl rfl rfl (zI rfl _) (xG (E := eNode) (e := 65) eV sz65 hX682.pins (fun u696 w697 ho698 hp699 hl700 hk701 => ?_)))
   have hX702 := hX682.step hp699 hl700
   have ho703 := ho683.below hl700
   have ho704 := ho684.below hl700
   have ho705 := ho685.below hl700
   have ho706 := ho686.below hl700
   have hb707 := hb687.below hl700
   have hb708 := hb688.below hl700
   have hb709 := hb689.below hl700
   have ha710 : Apart u696.ownBlock at_.ownBlock := zK hk701 ho683.lt
   have ha711 : Apart u696.ownBlock ov.ownBlock := zK hk701 ho684.lt
   have ha712 : Apart u696.ownBlock bu.ownBlock := zK hk701 ho685.lt
   have ha713 : Apart u696.ownBlock bv.ownBlock := zK hk701 ho686.lt
   have ha714 : Apart u696.ownBlock (some b) := zL hk701 hb687.lt
   have ha715 : Apart u696.ownBlock (some b1) := zL hk701 hb688.lt
   have ha716 : Apart u696.ownBlock (some b74) := zL hk701 hb689.lt
   have ho717 := ho698.weaken hX682.size
   refine ⟨fun _ => hX702.pins, ?_⟩
   refine qG (i := 4) (j := 6) (by kernel_rfl) ?_ ?_
   refine (zU (i := 4) rfl rfl rfl (zI rfl _) (zZ (E := eNode) (v := u696) (u := u690) 48 eV ap65 (by decide) rfl rfl hX702.pins ho717 ((hr691.mono (dN hle232 hlek233)).src hX702.pins (by decide)) (by first | omega | (rw [List.nil_append]; omega) | (rw [List.length_nil]; omega) | (rw [List.length_append]; omega) | (simp; done) | (simp; omega) | (simp only [List.length_append, List.length_cons, List.length_nil]; omega)) (by first | omega | (rw [List.nil_append]; omega) | (rw [List.length_nil]; omega) | (rw [List.length_append]; omega) | (simp; done) | (simp; omega) | (simp only [List.length_append, List.length_cons, List.length_nil]; omega)) (hX702.size) (fun u718 w719 ho720 hp721 hg722 hw723 => ?_)))
   have hX724 := hX702.write hp721 hg722 ((yD ho717))
   have ho725 := ho703.keptA hg722 ha710.symm
   have ho726 := ho704.keptA hg722 ha711.symm
   have ho727 := ho705.keptA hg722 ha712.symm
   have ho728 := ho706.keptA hg722 ha713.symm
   have hb729 := hb707.keptA hg722 ha714.symm
   have hb730 := hb708.keptA hg722 ha715.symm
   have hb731 := hb709.keptA hg722 ha716.symm
   have ha732 : Apart at_.ownBlock u718.ownBlock := zJ ha710.symm hw723 ho703.lt
   have ha733 : Apart ov.ownBlock u718.ownBlock := zJ ha711.symm hw723 ho704.lt
   have ha734 : Apart bu.ownBlock u718.ownBlock := zJ ha712.symm hw723 ho705.lt
   have ha735 : Apart bv.ownBlock u718.ownBlock := zJ ha713.symm hw723 ho706.lt
   have ha736 : Apart (some b) u718.ownBlock := zP ha714.symm hw723 hb707.lt
   have ha737 : Apart (some b1) u718.ownBlock := zP ha715.symm hw723 hb708.lt
   have ha738 : Apart (some b74) u718.ownBlock := zP ha716.symm hw723 hb709.lt
   have hm739 := la2 ([]) ((ls.take i).drop 0)
   refine ⟨fun _ => hX724.pins, ?_⟩
   refine zQ (i := 6) (by kernel_rfl) (zU (i := 6) rfl rfl rfl (zI rfl _) (xJ (E := eNode) (e := 65) [c217, c218] (⟨sortL (atL ats ((ns.getD k5 default).l)), sortL (atL ats ((ns.getD k5 default).r))⟩ : Nd) eV sz65 zr65 ⟨_, _, rfl, (hr221.mono hlek233), (hr222.mono hlek233)⟩ rfl (by decide) hX724.pins (fun u740 w741 ho742 hp743 hl744 hk745 => ?_)))
   have hX746 := hX724.step hp743 hl744
   have ho747 := ho725.below hl744
   have ho748 := ho726.below hl744
   have ho749 := ho727.below hl744
   have ho750 := ho728.below hl744
   have ho751 := ho720.below hl744
   have hb752 := hb729.below hl744
   have hb753 := hb730.below hl744
   have hb754 := hb731.below hl744
   have ho763 := ho742.weaken hX724.size
   refine ⟨fun _ => hX746.pins, ?_⟩
   refine zQ (i := 7) (by kernel_rfl) (zU (i := 7) rfl rfl rfl (zI rfl _) (zZ (E := eNode) (v := u718) (u := u740) 48 eV ap65 (by decide) rfl rfl hX746.pins ho751 ho763.src (by first | omega | (rw [List.nil_append]; omega) | (rw [List.length_nil]; omega) | (rw [List.length_append]; omega) | (simp; done) | (simp; omega) | (simp only [List.length_append, List.length_cons, List.length_nil]; omega)) (by first | omega | (rw [List.nil_append]; omega) | (rw [List.length_nil]; omega) | (rw [List.length_append]; omega) | (simp; done) | (simp; omega) | (simp only [List.length_append, List.length_cons, List.length_nil]; omega)) (hX746.size) (fun u764 w765 ho766 hp767 hg768 hw769 => ?_)))
   have hX770 := hX746.write hp767 hg768 ((yD ho751))
   have ho771 := ho747.keptA hg768 ha732
   have ho772 := ho748.keptA hg768 ha733
   have ho773 := ho749.keptA hg768 ha734
   have ho774 := ho750.keptA hg768 ha735
   have hb776 := hb752.keptA hg768 ha736
   have hb777 := hb753.keptA hg768 ha737
   have hb778 := hb754.keptA hg768 ha738
   have ha779 : Apart at_.ownBlock u764.ownBlock := zJ ha732 hw769 ho747.lt
   have ha780 : Apart ov.ownBlock u764.ownBlock := zJ ha733 hw769 ho748.lt
   have ha781 : Apart bu.ownBlock u764.ownBlock := zJ ha734 hw769 ho749.lt
   have ha782 : Apart bv.ownBlock u764.ownBlock := zJ ha735 hw769 ho750.lt
   have ha784 : Apart (some b) u764.ownBlock := zP ha736 hw769 hb752.lt
   have ha785 : Apart (some b1) u764.ownBlock := zP ha737 hw769 hb753.lt
   have ha786 : Apart (some b74) u764.ownBlock := zP ha738 hw769 hb754.lt
   have hm787 := la1 (([]) ++ ((ls.take i).drop 0)) (⟨sortL (atL ats ((ns.getD k5 default).l)), sortL (atL ats ((ns.getD k5 default).r))⟩ : Nd)
   refine ⟨fun _ => hX770.pins, ?_⟩
   refine zQ (i := 11) (by kernel_rfl) (zU (i := 11) rfl rfl rfl (zI rfl _) (zZ (E := eNode) (v := u764) (u := u693) 48 eV ap65 (by decide) rfl rfl hX770.pins ho766 ((hr694.mono (dN hle232 hlek233)).src hX770.pins (by decide)) (by first | omega | (rw [List.nil_append]; omega) | (rw [List.length_nil]; omega) | (rw [List.length_append]; omega) | (simp; done) | (simp; omega) | (simp only [List.length_append, List.length_cons, List.length_nil]; omega)) (by first | omega | (rw [List.nil_append]; omega) | (rw [List.length_nil]; omega) | (rw [List.length_append]; omega) | (simp; done) | (simp; omega) | (simp only [List.length_append, List.length_cons, List.length_nil]; omega)) (hX770.size) (fun u788 w789 ho790 hp791 hg792 hw793 => ?_)))
   have hX794 := hX770.write hp791 hg792 ((yD ho766))
   have ho795 := ho771.keptA hg792 ha779
   have ho796 := ho772.keptA hg792 ha780
   have ho797 := ho773.keptA hg792 ha781
   have ho798 := ho774.keptA hg792 ha782
   have hb799 := hb776.keptA hg792 ha784
   have hb800 := hb777.keptA hg792 ha785
   have hb801 := hb778.keptA hg792 ha786
   have ha802 : Apart at_.ownBlock u788.ownBlock := zJ ha779 hw793 ho771.lt
   have ha803 : Apart ov.ownBlock u788.ownBlock := zJ ha780 hw793 ho772.lt
   have ha804 : Apart bu.ownBlock u788.ownBlock := zJ ha781 hw793 ho773.lt
   have ha805 : Apart bv.ownBlock u788.ownBlock := zJ ha782 hw793 ho774.lt
   have ha806 : Apart (some b) u788.ownBlock := zP ha784 hw793 hb776.lt
   have ha807 : Apart (some b1) u788.ownBlock := zP ha785 hw793 hb777.lt
   have ha808 : Apart (some b74) u788.ownBlock := zP ha786 hw793 hb778.lt
   have hm809 := la2 ((([]) ++ ((ls.take i).drop 0)) ++ ([(⟨sortL (atL ats ((ns.getD k5 default).l)), sortL (atL ats ((ns.getD k5 default).r))⟩ : Nd)])) ((ls.take ls.length).drop i)
   refine ⟨fun _ => hX794.pins, ?_⟩
   refine dT (i := 12) rfl rfl (by kernel_rfl) (fun _ _ => zD (v := u788) rfl) hX794.pins ?_
   exact yP (by kernel_rfl) (xU ⟨_, u788, GL3, (zC (x := 13) (zC (x := 11) (zC (x := 10) (zC (x := 9) (zC (x := 8) (zC (x := 7) (zC (x := 6) (zC (x := 5) (zC (x := 4) (zC (x := 1) (zX (x := 0) rfl) rfl) rfl) rfl) rfl) rfl) rfl) rfl) rfl) rfl) rfl), hX794, (Pin.le_refl _), ho795, ho796, ho797, ho798, ho790, hb799, hb800, hb801, ha802, ha803, ha804, ha805, ha806.symm, ha807.symm, ha808.symm⟩)
   refine (zU (i := 6) rfl rfl rfl (zI rfl _) (xJ (E := eNode) (e := 65) [c217, c218] (⟨sortL (atL ats ((ns.getD k5 default).l)), sortL (atL ats ((ns.getD k5 default).r))⟩ : Nd) eV sz65 zr65 ⟨_, _, rfl, (hr221.mono hlek233), (hr222.mono hlek233)⟩ rfl (by decide) hX702.pins (fun u810 w811 ho812 hp813 hl814 hk815 => ?_)))
   have hX816 := hX702.step hp813 hl814
   have ho817 := ho703.below hl814
   have ho818 := ho704.below hl814
   have ho819 := ho705.below hl814
   have ho820 := ho706.below hl814
   have ho821 := ho717.below hl814
   have hb822 := hb707.below hl814
   have hb823 := hb708.below hl814
   have hb824 := hb709.below hl814
   have ha829 : Apart u810.ownBlock u696.ownBlock := zK hk815 ho717.lt
   have ho833 := ho812.weaken hX702.size
   refine ⟨fun _ => hX816.pins, ?_⟩
   refine zQ (i := 4) (by kernel_rfl) (zU (i := 4) rfl rfl rfl (zI rfl _) (zZ (E := eNode) (v := u696) (u := u690) 48 eV ap65 (by decide) rfl rfl hX816.pins ho821 ((hr691.mono (dN hle232 hlek233)).src hX816.pins (by decide)) (by first | omega | (rw [List.nil_append]; omega) | (rw [List.length_nil]; omega) | (rw [List.length_append]; omega) | (simp; done) | (simp; omega) | (simp only [List.length_append, List.length_cons, List.length_nil]; omega)) (by first | omega | (rw [List.nil_append]; omega) | (rw [List.length_nil]; omega) | (rw [List.length_append]; omega) | (simp; done) | (simp; omega) | (simp only [List.length_append, List.length_cons, List.length_nil]; omega)) (hX816.size) (fun u834 w835 ho836 hp837 hg838 hw839 => ?_)))
   have hX840 := hX816.write hp837 hg838 ((yD ho821))
   have ho841 := ho817.keptA hg838 ha710.symm
   have ho842 := ho818.keptA hg838 ha711.symm
   have ho843 := ho819.keptA hg838 ha712.symm
   have ho844 := ho820.keptA hg838 ha713.symm
   have ho845 := ho833.keptA hg838 ha829
   have hb846 := hb822.keptA hg838 ha714.symm
   have hb847 := hb823.keptA hg838 ha715.symm
   have hb848 := hb824.keptA hg838 ha716.symm
   have ha849 : Apart at_.ownBlock u834.ownBlock := zJ ha710.symm hw839 ho817.lt
   have ha850 : Apart ov.ownBlock u834.ownBlock := zJ ha711.symm hw839 ho818.lt
   have ha851 : Apart bu.ownBlock u834.ownBlock := zJ ha712.symm hw839 ho819.lt
   have ha852 : Apart bv.ownBlock u834.ownBlock := zJ ha713.symm hw839 ho820.lt
   have ha854 : Apart (some b) u834.ownBlock := zP ha714.symm hw839 hb822.lt
   have ha855 : Apart (some b1) u834.ownBlock := zP ha715.symm hw839 hb823.lt
   have ha856 : Apart (some b74) u834.ownBlock := zP ha716.symm hw839 hb824.lt
   have hm857 := la2 ([]) ((ls.take i).drop 0)
   refine ⟨fun _ => hX840.pins, ?_⟩
   refine zQ (i := 7) (by kernel_rfl) (zU (i := 7) rfl rfl rfl (zI rfl _) (zZ (E := eNode) (v := u834) (u := u810) 48 eV ap65 (by decide) rfl rfl hX840.pins ho836 ho845.src (by first | omega | (rw [List.nil_append]; omega) | (rw [List.length_nil]; omega) | (rw [List.length_append]; omega) | (simp; done) | (simp; omega) | (simp only [List.length_append, List.length_cons, List.length_nil]; omega)) (by first | omega | (rw [List.nil_append]; omega) | (rw [List.length_nil]; omega) | (rw [List.length_append]; omega) | (simp; done) | (simp; omega) | (simp only [List.length_append, List.length_cons, List.length_nil]; omega)) (hX840.size) (fun u858 w859 ho860 hp861 hg862 hw863 => ?_)))
   have hX864 := hX840.write hp861 hg862 ((yD ho836))
   have ho865 := ho841.keptA hg862 ha849
   have ho866 := ho842.keptA hg862 ha850
   have ho867 := ho843.keptA hg862 ha851
   have ho868 := ho844.keptA hg862 ha852
   have hb870 := hb846.keptA hg862 ha854
   have hb871 := hb847.keptA hg862 ha855
   have hb872 := hb848.keptA hg862 ha856
   have ha873 : Apart at_.ownBlock u858.ownBlock := zJ ha849 hw863 ho841.lt
   have ha874 : Apart ov.ownBlock u858.ownBlock := zJ ha850 hw863 ho842.lt
   have ha875 : Apart bu.ownBlock u858.ownBlock := zJ ha851 hw863 ho843.lt
   have ha876 : Apart bv.ownBlock u858.ownBlock := zJ ha852 hw863 ho844.lt
   have ha878 : Apart (some b) u858.ownBlock := zP ha854 hw863 hb846.lt
   have ha879 : Apart (some b1) u858.ownBlock := zP ha855 hw863 hb847.lt
   have ha880 : Apart (some b74) u858.ownBlock := zP ha856 hw863 hb848.lt
   have hm881 := la1 (([]) ++ ((ls.take i).drop 0)) (⟨sortL (atL ats ((ns.getD k5 default).l)), sortL (atL ats ((ns.getD k5 default).r))⟩ : Nd)
   refine ⟨fun _ => hX864.pins, ?_⟩
   refine zQ (i := 11) (by kernel_rfl) (zU (i := 11) rfl rfl rfl (zI rfl _) (zZ (E := eNode) (v := u858) (u := u693) 48 eV ap65 (by decide) rfl rfl hX864.pins ho860 ((hr694.mono (dN hle232 hlek233)).src hX864.pins (by decide)) (by first | omega | (rw [List.nil_append]; omega) | (rw [List.length_nil]; omega) | (rw [List.length_append]; omega) | (simp; done) | (simp; omega) | (simp only [List.length_append, List.length_cons, List.length_nil]; omega)) (by first | omega | (rw [List.nil_append]; omega) | (rw [List.length_nil]; omega) | (rw [List.length_append]; omega) | (simp; done) | (simp; omega) | (simp only [List.length_append, List.length_cons, List.length_nil]; omega)) (hX864.size) (fun u882 w883 ho884 hp885 hg886 hw887 => ?_)))
   have hX888 := hX864.write hp885 hg886 ((yD ho860))
   have ho889 := ho865.keptA hg886 ha873
   have ho890 := ho866.keptA hg886 ha874
   have ho891 := ho867.keptA hg886 ha875
   have ho892 := ho868.keptA hg886 ha876
   have hb893 := hb870.keptA hg886 ha878
   have hb894 := hb871.keptA hg886 ha879
   have hb895 := hb872.keptA hg886 ha880
   have ha896 : Apart at_.ownBlock u882.ownBlock := zJ ha873 hw887 ho865.lt
   have ha897 : Apart ov.ownBlock u882.ownBlock := zJ ha874 hw887 ho866.lt
   have ha898 : Apart bu.ownBlock u882.ownBlock := zJ ha875 hw887 ho867.lt
   have ha899 : Apart bv.ownBlock u882.ownBlock := zJ ha876 hw887 ho868.lt
   have ha900 : Apart (some b) u882.ownBlock := zP ha878 hw887 hb870.lt
   have ha901 : Apart (some b1) u882.ownBlock := zP ha879 hw887 hb871.lt
   have ha902 : Apart (some b74) u882.ownBlock := zP ha880 hw887 hb872.lt
   have hm903 := la2 ((([]) ++ ((ls.take i).drop 0)) ++ ([(⟨sortL (atL ats ((ns.getD k5 default).l)), sortL (atL ats ((ns.getD k5 default).r))⟩ : Nd)])) ((ls.take ls.length).drop i)
   refine ⟨fun _ => hX888.pins, ?_⟩
   refine dT (i := 12) rfl rfl (by kernel_rfl) (fun _ _ => zD (v := u882) rfl) hX888.pins ?_
   exact yP (by kernel_rfl) (xU ⟨_, u882, GL3, (zC (x := 13) (zC (x := 11) (zC (x := 10) (zC (x := 9) (zC (x := 8) (zC (x := 7) (zC (x := 6) (zC (x := 5) (zC (x := 4) (zC (x := 1) (zX (x := 0) rfl) rfl) rfl) rfl) rfl) rfl) rfl) rfl) rfl) rfl) rfl), hX888, (Pin.le_refl _), ho889, ho890, ho891, ho892, ho884, hb893, hb894, hb895, ha896, ha897, ha898, ha899, ha900.symm, ha901.symm, ha902.symm⟩)
   refine (zU (i := 6) rfl rfl rfl (zI rfl _) (xJ (E := eNode) (e := 65) [c217, c218] (⟨sortL (atL ats ((ns.getD k5 default).l)), sortL (atL ats ((ns.getD k5 default).r))⟩ : Nd) eV sz65 zr65 ⟨_, _, rfl, (hr221.mono hlek233), (hr222.mono hlek233)⟩ rfl (by decide) hX682.pins (fun u904 w905 ho906 hp907 hl908 hk909 => ?_)))
   have hX910 := hX682.step hp907 hl908
   have ho911 := ho683.below hl908
   have ho912 := ho684.below hl908
   have ho913 := ho685.below hl908
   have ho914 := ho686.below hl908
   have hb915 := hb687.below hl908
   have hb916 := hb688.below hl908
   have hb917 := hb689.below hl908
   have ho925 := ho906.weaken hX682.size
   refine ⟨fun _ => hX910.pins, ?_⟩
   refine zQ (i := 0) (by kernel_rfl) (zU (i := 0) rfl rfl rfl (zI rfl _) (xG (E := eNode) (e := 65) eV sz65 hX910.pins (fun u926 w927 ho928 hp929 hl930 hk931 => ?_)))
   have hX932 := hX910.step hp929 hl930
   have ho933 := ho911.below hl930
   have ho934 := ho912.below hl930
   have ho935 := ho913.below hl930
   have ho936 := ho914.below hl930
   have ho937 := ho925.below hl930
   have hb938 := hb915.below hl930
   have hb939 := hb916.below hl930
   have hb940 := hb917.below hl930
   have ha941 : Apart u926.ownBlock at_.ownBlock := zK hk931 ho911.lt
   have ha942 : Apart u926.ownBlock ov.ownBlock := zK hk931 ho912.lt
   have ha943 : Apart u926.ownBlock bu.ownBlock := zK hk931 ho913.lt
   have ha944 : Apart u926.ownBlock bv.ownBlock := zK hk931 ho914.lt
   have ha945 : Apart u926.ownBlock u904.ownBlock := zK hk931 ho925.lt
   have ha946 : Apart u926.ownBlock (some b) := zL hk931 hb915.lt
   have ha947 : Apart u926.ownBlock (some b1) := zL hk931 hb916.lt
   have ha948 : Apart u926.ownBlock (some b74) := zL hk931 hb917.lt
   have ho949 := ho928.weaken hX910.size
   refine ⟨fun _ => hX932.pins, ?_⟩
   refine zQ (i := 4) (by kernel_rfl) (zU (i := 4) rfl rfl rfl (zI rfl _) (zZ (E := eNode) (v := u926) (u := u690) 48 eV ap65 (by decide) rfl rfl hX932.pins ho949 ((hr691.mono (dN hle232 hlek233)).src hX932.pins (by decide)) (by first | omega | (rw [List.nil_append]; omega) | (rw [List.length_nil]; omega) | (rw [List.length_append]; omega) | (simp; done) | (simp; omega) | (simp only [List.length_append, List.length_cons, List.length_nil]; omega)) (by first | omega | (rw [List.nil_append]; omega) | (rw [List.length_nil]; omega) | (rw [List.length_append]; omega) | (simp; done) | (simp; omega) | (simp only [List.length_append, List.length_cons, List.length_nil]; omega)) (hX932.size) (fun u950 w951 ho952 hp953 hg954 hw955 => ?_)))
   have hX956 := hX932.write hp953 hg954 ((yD ho949))
   have ho957 := ho933.keptA hg954 ha941.symm
   have ho958 := ho934.keptA hg954 ha942.symm
   have ho959 := ho935.keptA hg954 ha943.symm
   have ho960 := ho936.keptA hg954 ha944.symm
   have ho961 := ho937.keptA hg954 ha945.symm
   have hb962 := hb938.keptA hg954 ha946.symm
   have hb963 := hb939.keptA hg954 ha947.symm
   have hb964 := hb940.keptA hg954 ha948.symm
   have ha965 : Apart at_.ownBlock u950.ownBlock := zJ ha941.symm hw955 ho933.lt
   have ha966 : Apart ov.ownBlock u950.ownBlock := zJ ha942.symm hw955 ho934.lt
   have ha967 : Apart bu.ownBlock u950.ownBlock := zJ ha943.symm hw955 ho935.lt
   have ha968 : Apart bv.ownBlock u950.ownBlock := zJ ha944.symm hw955 ho936.lt
   have ha970 : Apart (some b) u950.ownBlock := zP ha946.symm hw955 hb938.lt
   have ha971 : Apart (some b1) u950.ownBlock := zP ha947.symm hw955 hb939.lt
   have ha972 : Apart (some b74) u950.ownBlock := zP ha948.symm hw955 hb940.lt
   have hm973 := la2 ([]) ((ls.take i).drop 0)
   refine ⟨fun _ => hX956.pins, ?_⟩
   refine zQ (i := 7) (by kernel_rfl) (zU (i := 7) rfl rfl rfl (zI rfl _) (zZ (E := eNode) (v := u950) (u := u904) 48 eV ap65 (by decide) rfl rfl hX956.pins ho952 ho961.src (by first | omega | (rw [List.nil_append]; omega) | (rw [List.length_nil]; omega) | (rw [List.length_append]; omega) | (simp; done) | (simp; omega) | (simp only [List.length_append, List.length_cons, List.length_nil]; omega)) (by first | omega | (rw [List.nil_append]; omega) | (rw [List.length_nil]; omega) | (rw [List.length_append]; omega) | (simp; done) | (simp; omega) | (simp only [List.length_append, List.length_cons, List.length_nil]; omega)) (hX956.size) (fun u974 w975 ho976 hp977 hg978 hw979 => ?_)))
   have hX980 := hX956.write hp977 hg978 ((yD ho952))
   have ho981 := ho957.keptA hg978 ha965
   have ho982 := ho958.keptA hg978 ha966
   have ho983 := ho959.keptA hg978 ha967
   have ho984 := ho960.keptA hg978 ha968
   have hb986 := hb962.keptA hg978 ha970
   have hb987 := hb963.keptA hg978 ha971
   have hb988 := hb964.keptA hg978 ha972
   have ha989 : Apart at_.ownBlock u974.ownBlock := zJ ha965 hw979 ho957.lt
   have ha990 : Apart ov.ownBlock u974.ownBlock := zJ ha966 hw979 ho958.lt
   have ha991 : Apart bu.ownBlock u974.ownBlock := zJ ha967 hw979 ho959.lt
   have ha992 : Apart bv.ownBlock u974.ownBlock := zJ ha968 hw979 ho960.lt
   have ha994 : Apart (some b) u974.ownBlock := zP ha970 hw979 hb962.lt
   have ha995 : Apart (some b1) u974.ownBlock := zP ha971 hw979 hb963.lt
   have ha996 : Apart (some b74) u974.ownBlock := zP ha972 hw979 hb964.lt
   have hm997 := la1 (([]) ++ ((ls.take i).drop 0)) (⟨sortL (atL ats ((ns.getD k5 default).l)), sortL (atL ats ((ns.getD k5 default).r))⟩ : Nd)
   refine ⟨fun _ => hX980.pins, ?_⟩
   refine zQ (i := 11) (by kernel_rfl) (zU (i := 11) rfl rfl rfl (zI rfl _) (zZ (E := eNode) (v := u974) (u := u693) 48 eV ap65 (by decide) rfl rfl hX980.pins ho976 ((hr694.mono (dN hle232 hlek233)).src hX980.pins (by decide)) (by first | omega | (rw [List.nil_append]; omega) | (rw [List.length_nil]; omega) | (rw [List.length_append]; omega) | (simp; done) | (simp; omega) | (simp only [List.length_append, List.length_cons, List.length_nil]; omega)) (by first | omega | (rw [List.nil_append]; omega) | (rw [List.length_nil]; omega) | (rw [List.length_append]; omega) | (simp; done) | (simp; omega) | (simp only [List.length_append, List.length_cons, List.length_nil]; omega)) (hX980.size) (fun u998 w999 ho1000 hp1001 hg1002 hw1003 => ?_)))
   have hX1004 := hX980.write hp1001 hg1002 ((yD ho976))
   have ho1005 := ho981.keptA hg1002 ha989
   have ho1006 := ho982.keptA hg1002 ha990
   have ho1007 := ho983.keptA hg1002 ha991
   have ho1008 := ho984.keptA hg1002 ha992
   have hb1009 := hb986.keptA hg1002 ha994
   have hb1010 := hb987.keptA hg1002 ha995
   have hb1011 := hb988.keptA hg1002 ha996
   have ha1012 : Apart at_.ownBlock u998.ownBlock := zJ ha989 hw1003 ho981.lt
   have ha1013 : Apart ov.ownBlock u998.ownBlock := zJ ha990 hw1003 ho982.lt
   have ha1014 : Apart bu.ownBlock u998.ownBlock := zJ ha991 hw1003 ho983.lt
   have ha1015 : Apart bv.ownBlock u998.ownBlock := zJ ha992 hw1003 ho984.lt
   have ha1016 : Apart (some b) u998.ownBlock := zP ha994 hw1003 hb986.lt
   have ha1017 : Apart (some b1) u998.ownBlock := zP ha995 hw1003 hb987.lt
   have ha1018 : Apart (some b74) u998.ownBlock := zP ha996 hw1003 hb988.lt
   have hm1019 := la2 ((([]) ++ ((ls.take i).drop 0)) ++ ([(⟨sortL (atL ats ((ns.getD k5 default).l)), sortL (atL ats ((ns.getD k5 default).r))⟩ : Nd)])) ((ls.take ls.length).drop i)
   refine ⟨fun _ => hX1004.pins, ?_⟩
   refine dT (i := 12) rfl rfl (by kernel_rfl) (fun _ _ => zD (v := u998) rfl) hX1004.pins ?_
   exact yP (by kernel_rfl) (xU ⟨_, u998, GL3, (zC (x := 13) (zC (x := 11) (zC (x := 10) (zC (x := 9) (zC (x := 8) (zC (x := 7) (zC (x := 6) (zC (x := 5) (zC (x := 4) (zC (x := 1) (zX (x := 0) rfl) rfl) rfl) rfl) rfl) rfl) rfl) rfl) rfl) rfl) rfl), hX1004, (Pin.le_refl _), ho1005, ho1006, ho1007, ho1008, ho1000, hb1009, hb1010, hb1011, ha1012, ha1013, ha1014, ha1015, ha1016.symm, ha1017.symm, ha1018.symm⟩)
  refine yZ (fun (k : Nat) (en : Nat → Value) (W : World) => ∃ (env1 : Nat → Value) (i : Nat) (GL3 : Pin), en = (upd (upd (upd (upd (upd (upd (upd (upd (upd (upd (upd (upd env1 0 (.pointer (some ⟨b, 0, none⟩))) 1 (.int .i64 m)) 4 (.pointer (some ⟨b1, 0, none⟩))) 5 u15) 6 at_) 7 (.pointer (some ⟨b74, 0, none⟩))) 8 (.int .i64 (q : Int))) 9 lv) 10 fv) 11 (.int .i64 (k5 : Int))) 12 (.pointer (some ⟨c216, 0, none⟩))) 13 (.int .i64 (i : Int))) ∧ k = ls.length - i ∧ Ext noS G w GL3 W ∧ Pin.le G219 GL3 ∧ (i ≤ ls.length) ∧ (posM ls (ndAt ats (ns.getD k5 default)) = i + posM (ls.drop i) (ndAt ats (ns.getD k5 default))) ∧ (Own eInt 3 GL3 W w.heap.size at_ (ats)) ∧ (Own eNode 65 GL3 W w.heap.size ov (outs)) ∧ (Own eNode 65 GL3 W 0 bu (ns)) ∧ (Own eInt 3 GL3 W 0 bv (bs)) ∧ (Bx GL3 W b [bu, bv]) ∧ (Bx GL3 W b1 [(.slice none 0 0)]) ∧ (Bx GL3 W b74 [ov])) _ ⟨_, 0, G219, (zC (x := 13) (zC (x := 12) (zC (x := 11) (zC (x := 10) (zC (x := 9) (zC (x := 8) (zC (x := 7) (zC (x := 6) (zC (x := 5) (zC (x := 4) (zC (x := 1) (zX (x := 0) rfl) rfl) rfl) rfl) rfl) rfl) rfl) rfl) rfl) rfl) rfl) rfl), rfl, hX231, Pin.le_refl _, Nat.zero_le _, (Nat.zero_add _).symm, ho223, ho224, ho225, ho226, hb227, hb228, hb229⟩ ?_
  rintro k233 _ w234 ⟨env1, i, GL3, rfl, hk235, hX236, hlek233, hi, hpp, hw237, hw238, hw239, hw240, hw241, hw242, hw243⟩
  refine zG (zG ?_)
  refine xD (S := fun wz => Pins GL3 wz) (last := 12) (by kernel_rfl) rfl ?_
  have hl1020 := bdr w234
  have hp1021 := hX236.pins.below hl1020
  have hX1022 := hX236.step hp1021 hl1020
  have ho1023 := hw237.below hl1020
  have ho1024 := hw238.below hl1020
  have ho1025 := hw239.below hl1020
  have ho1026 := hw240.below hl1020
  have hb1027 := hw241.below hl1020
  have hb1028 := hw242.below hl1020
  have hb1029 := hw243.below hl1020
  refine dT (i := 0) rfl rfl (by kernel_rfl) (fun _ _ => zB (v := (.int .i64 (i : Int))) rfl) hX1022.pins ?_
  refine dT (i := 1) rfl rfl (by kernel_rfl) (fun _ _ => zB (v := lv) rfl) hX1022.pins ?_
  refine dT (i := 2) rfl rfl (by kernel_rfl) (fun _ _ => zT eV (v := lv) rfl hr211) hX1022.pins ?_
  refine dT (i := 3) rfl rfl (by kernel_rfl) (fun _ _ => xB rfl rfl) hX1022.pins ?_
  refine dT (i := 4) rfl rfl (by kernel_rfl) (fun _ _ => zB (v := (.bool (decide (((i : Int) : Int) < (ls.length : Int))))) rfl) hX1022.pins ?_
  refine drbd (p := ((i : Int) : Int) < (ls.length : Int)) (t := 84) rfl (fun h1030 => ?_) (fun h1030 => ?_)
  refine yL (i := 5) rfl rfl rfl (yB rfl rfl rfl rfl) (by kernel_rfl) (fun _ _ => zB (v := lv) rfl) hX1022.pins (yL (i := 6) rfl rfl rfl (yB rfl rfl rfl rfl) (by kernel_rfl) (fun _ _ => zB (v := (.int .i64 (i : Int))) rfl) hX1022.pins (yL (i := 7) rfl rfl rfl (yB rfl rfl rfl rfl) (by kernel_rfl) (fun _ _ => zN eV sz65 (v := lv) rfl rfl hr211 (by omega) (by omega)) hX1022.pins ?_))
  obtain ⟨u1031, u1032, hr1033, hr1034, hl1035⟩ := jU (hr211.at (z := (i : Int)) (by omega) (by omega)) (j := i) rfl
  have hm1036 := hr1033.max
  have hm1037 := hr1034.max
  refine yL (i := 8) rfl rfl rfl (yB rfl rfl rfl rfl) (by kernel_rfl) (fun _ hS => hl1035 ag65 sz65 rfl (dO hS (dN hle232 hlek233))) hX1022.pins (yL (i := 9) rfl rfl rfl (yB rfl rfl rfl rfl) (by kernel_rfl) (fun _ hS => yJ (cs := [c217, c218]) ag65 sz65 rfl (fun j u hj => (dO hS hlek233) _ _ _ (hb230 _ _ (by simpa using hj)))) hX1022.pins (zQ (i := 10) (by kernel_rfl) (zU (i := 10) rfl rfl rfl (yB rfl rfl rfl rfl) (zM (vs := [(.agg [u1031, u1032].toArray), (.agg [c217, c218].toArray)]) Tryz.func130 nm130 rfl rfl rfl ?_))))
  refine dP (tR (a := ⟨(ls.getD i default).l, (ls.getD i default).r⟩) (b := ⟨sortL (atL ats ((ns.getD k5 default).l)), sortL (atL ats ((ns.getD k5 default).r))⟩) hX1022.pins (hr1033.mono (dN hle232 hlek233)) (hr1034.mono (dN hle232 hlek233)) (hr221.mono hlek233) (hr222.mono hlek233)) ?_
  rintro _ w1039 ⟨G1038, rfl, hx1040⟩
  refine ⟨_, rfl, ?_⟩
  have hX1041 := hX1022.tr hx1040
  have ho1042 := ho1023.ext hx1040
  have ho1043 := ho1024.ext hx1040
  have ho1044 := ho1025.ext hx1040
  have ho1045 := ho1026.ext hx1040
  have hb1046 := hb1027.ext hx1040
  have hb1047 := hb1028.ext hx1040
  have hb1048 := hb1029.ext hx1040
  refine ⟨fun _ => (dO hX1041.pins hx1040.le), ?_⟩
  refine dT (i := 11) rfl rfl (by kernel_rfl) (fun _ _ => xI (v := (.bool (decide ((aheadI (⟨(ls.getD i default).l, (ls.getD i default).r⟩ : Nd) (⟨sortL (atL ats ((ns.getD k5 default).l)), sortL (atL ats ((ns.getD k5 default).r))⟩ : Nd)) < 0)))) rfl rfl) (dO hX1041.pins hx1040.le) ?_
  refine yP (by kernel_rfl) (zA (yN (p := ((aheadI (⟨(ls.getD i default).l, (ls.getD i default).r⟩ : Nd) (⟨sortL (atL ats ((ns.getD k5 default).l)), sortL (atL ats ((ns.getD k5 default).r))⟩ : Nd)) < 0)) rfl rfl (fun h1049 => ?_) (fun h1049 => ?_)))
  refine wp_skip (zA (yH (zH (qD rfl (zB (v := (.int .i64 (i : Int))) rfl) (qD rfl (yX rfl rfl (by omega)) (qD rfl (zD (v := (.int .i64 ((i : Int) + 1))) rfl) (qe (yQ (yS (⟨_, ?_, _, rfl, _, i + 1, G1038, (zC (x := 13) (zC (x := 12) (zC (x := 11) (zC (x := 10) (zC (x := 9) (zC (x := 8) (zC (x := 7) (zC (x := 6) (zC (x := 5) (zC (x := 4) (zC (x := 1) (zX (x := 0) rfl) rfl) rfl) rfl) rfl) rfl) rfl) rfl) rfl) rfl) rfl) rfl), rfl, hX1041, (dN hlek233 hx1040.le), (by omega), (pos_next (by omega) h1049 hpp), ho1042, ho1043, ho1044, ho1045, hb1046, hb1047, hb1048⟩))))))))))
  omega
  exact wp_exit (yI (yW (rZ ⟨_, i, G1038, (zC (x := 13) (zC (x := 12) (zC (x := 11) (zC (x := 10) (zC (x := 9) (zC (x := 8) (zC (x := 7) (zC (x := 6) (zC (x := 5) (zC (x := 4) (zC (x := 1) (zX (x := 0) rfl) rfl) rfl) rfl) rfl) rfl) rfl) rfl) rfl) rfl) rfl) rfl), hX1041, (dN hlek233 hx1040.le), hi, (pos_stop (by omega) h1049 hpp), ho1042, ho1043, ho1044, ho1045, hb1046, hb1047, hb1048⟩)))
  refine yE (i := 5) rfl rfl (yK rfl rfl rfl rfl rfl) (by kernel_rfl) hX1022.pins (yE (i := 6) rfl rfl (yK rfl rfl rfl rfl rfl) (by kernel_rfl) hX1022.pins (yE (i := 7) rfl rfl (yK rfl rfl rfl rfl rfl) (by kernel_rfl) hX1022.pins (yE (i := 8) rfl rfl (yK rfl rfl rfl rfl rfl) (by kernel_rfl) hX1022.pins (yE (i := 9) rfl rfl (yK rfl rfl rfl rfl rfl) (by kernel_rfl) hX1022.pins (yE (i := 10) rfl rfl (yK rfl rfl rfl rfl rfl) (by kernel_rfl) hX1022.pins (dT (i := 11) rfl rfl (by kernel_rfl) (fun _ _ => xA (v := (.bool false)) rfl rfl) hX1022.pins ?_))))))
  exact yP (by kernel_rfl) (zA (vE rfl rfl (wp_exit (yI (yW (rZ ⟨_, i, GL3, (zC (x := 13) (zC (x := 12) (zC (x := 11) (zC (x := 10) (zC (x := 9) (zC (x := 8) (zC (x := 7) (zC (x := 6) (zC (x := 5) (zC (x := 4) (zC (x := 1) (zX (x := 0) rfl) rfl) rfl) rfl) rfl) rfl) rfl) rfl) rfl) rfl) rfl) rfl), hX1022, hlek233, hi, (pos_end (by omega) hpp), ho1023, ho1024, ho1025, ho1026, hb1027, hb1028, hb1029⟩))))))
 have hq1050 := Gadd.pins hX178.pins bu
 have hr1051 := hw206.read
 refine xD (S := fun wz => BxR wz b [bu, bv] ∧ Pins (Gadd GL2 w176 bu) wz) (last := 24) (by kernel_rfl) rfl ?_
 have hl1052 := bdr w176
 have hp1053 := hX178.pins.below hl1052
 have hX1054 := hX178.step hp1053 hl1052
 have ho1055 := hw204.below hl1052
 have ho1056 := hw205.below hl1052
 have ho1057 := hw206.below hl1052
 have ho1058 := hw207.below hl1052
 have hb1059 := hw208.below hl1052
 have hb1060 := hw209.below hl1052
 have hb1061 := hw210.below hl1052
 have hq1062 := hq1050.below hl1052
 refine dT (i := 0) rfl rfl (by kernel_rfl) (fun _ _ => zB (v := at_) rfl) ⟨hb1059.reads, hq1062⟩ ?_
 refine dT (i := 1) rfl rfl (by kernel_rfl) (fun _ _ => zB (v := (.pointer (some ⟨b, 0, none⟩))) rfl) ⟨hb1059.reads, hq1062⟩ ?_
 refine dT (i := 2) rfl rfl (by kernel_rfl) (fun _ _ => xC rfl) ⟨hb1059.reads, hq1062⟩ ?_
 refine dT (i := 3) rfl rfl (by kernel_rfl) (fun _ _ => zR (k := 0) rfl dC rfl nz24 rfl) ⟨hb1059.reads, hq1062⟩ ?_
 refine dT (i := 4) rfl rfl (by kernel_rfl) (fun _ hS => zS (u := bu) ag24 rfl (hS.1 0 _ rfl)) ⟨hb1059.reads, hq1062⟩ ?_
 refine dT (i := 5) rfl rfl (by kernel_rfl) (fun _ _ => zB (v := (.int .i64 (k5 : Int))) rfl) ⟨hb1059.reads, hq1062⟩ ?_
 refine dT (i := 6) rfl rfl (by kernel_rfl) (fun _ _ => zN eV sz65 (v := bu) rfl rfl hr1051 (by omega) (by omega)) ⟨hb1059.reads, hq1062⟩ ?_
 refine dT (i := 7) rfl rfl (by kernel_rfl) (fun _ _ => xP (off := 0) eX rfl rfl nz59 (z := (k5 : Int)) (k := 0) rfl hr1051 (by omega) (by omega)) ⟨hb1059.reads, hq1062⟩ ?_
 obtain ⟨u1063, hr1064, hl1065⟩ := vZ (hw206.at (z := (k5 : Int)) (by omega) (by omega)) (j := k5) rfl
 have hm1066 := hr1064.max
 refine dT (i := 8) rfl rfl (by kernel_rfl) (fun _ hS => hl1065 ag59 rfl hS.2) ⟨hb1059.reads, hq1062⟩ ?_
 refine dT (i := 11) rfl rfl (by kernel_rfl) (fun _ _ => zB (v := at_) rfl) ⟨hb1059.reads, hq1062⟩ ?_
 refine dT (i := 12) rfl rfl (by kernel_rfl) (fun _ _ => zB (v := (.pointer (some ⟨b, 0, none⟩))) rfl) ⟨hb1059.reads, hq1062⟩ ?_
 refine dT (i := 13) rfl rfl (by kernel_rfl) (fun _ _ => xC rfl) ⟨hb1059.reads, hq1062⟩ ?_
 refine dT (i := 14) rfl rfl (by kernel_rfl) (fun _ _ => zR (k := 0) rfl dC rfl nz24 rfl) ⟨hb1059.reads, hq1062⟩ ?_
 refine dT (i := 15) rfl rfl (by kernel_rfl) (fun _ hS => zS (u := bu) ag24 rfl (hS.1 0 _ rfl)) ⟨hb1059.reads, hq1062⟩ ?_
 refine dT (i := 16) rfl rfl (by kernel_rfl) (fun _ _ => zB (v := (.int .i64 (k5 : Int))) rfl) ⟨hb1059.reads, hq1062⟩ ?_
 refine dT (i := 17) rfl rfl (by kernel_rfl) (fun _ _ => zN eV sz65 (v := bu) rfl rfl hr1051 (by omega) (by omega)) ⟨hb1059.reads, hq1062⟩ ?_
 refine dT (i := 18) rfl rfl (by kernel_rfl) (fun _ _ => xP (off := 1) eX rfl rfl nz59 (z := (k5 : Int)) (k := 0) rfl hr1051 (by omega) (by omega)) ⟨hb1059.reads, hq1062⟩ ?_
 obtain ⟨u1067, hr1068, hl1069⟩ := kG (hw206.at (z := (k5 : Int)) (by omega) (by omega)) (j := k5) rfl
 have hm1070 := hr1068.max
 refine dT (i := 19) rfl rfl (by kernel_rfl) (fun _ hS => hl1069 ag59 rfl hS.2) ⟨hb1059.reads, hq1062⟩ ?_
 refine qG (i := 9) (j := 23) (by kernel_rfl) ?_ ?_
 refine (zU (i := 9) rfl rfl rfl (zI rfl _) (zM (vs := [at_, u1063]) Tryz.func77 nm77 rfl rfl rfl ?_))
 refine dP (qK hX1054.pins (Gadd.pins hX1054.pins at_) ho1055.read hr1064 (by omega) (fun i hi => by have := hoo.left (j := k5) (by omega) hi; omega)) ?_
 rintro _ w1073 ⟨u1071, G1072, rfl, ho1074, hx1075⟩
 refine ⟨_, rfl, ?_⟩
 have hX1076 := hX1054.tr hx1075
 have ho1077 := ho1055.ext hx1075
 have ho1078 := ho1056.ext hx1075
 have ho1079 := ho1057.ext hx1075
 have ho1080 := ho1058.ext hx1075
 have hb1081 := hb1059.ext hx1075
 have hb1082 := hb1060.ext hx1075
 have hb1083 := hb1061.ext hx1075
 have ha1084 : Apart u1071.ownBlock at_.ownBlock := zV ho1074.lt ho1055.lt
 have ha1085 : Apart u1071.ownBlock ov.ownBlock := zV ho1074.lt ho1056.lt
 have ha1086 : Apart u1071.ownBlock bu.ownBlock := zV ho1074.lt ho1057.lt
 have ha1087 : Apart u1071.ownBlock bv.ownBlock := zV ho1074.lt ho1058.lt
 have ha1088 : Apart u1071.ownBlock (some b) := yA ho1074.lt hb1059.lt
 have ha1089 : Apart u1071.ownBlock (some b1) := yA ho1074.lt hb1060.lt
 have ha1090 : Apart u1071.ownBlock (some b74) := yA ho1074.lt hb1061.lt
 have ho1091 := ho1074.weaken hX1054.size
 have hq1092 := hq1062.below hx1075.below
 refine ⟨fun _ => ⟨hb1081.reads, hq1092⟩, ?_⟩
 refine qG (i := 10) (j := 23) (by kernel_rfl) ?_ ?_
 obtain ⟨G1093, hle1096, hX1095, hr1094, hf1097⟩ := ho1091.sealed hX1076
 have ho1098 := ho1077.moreO hle1096 hf1097 ha1084.symm
 have ho1099 := ho1078.moreO hle1096 hf1097 ha1085.symm
 have ho1100 := ho1079.moreO hle1096 hf1097 ha1086.symm
 have ho1101 := ho1080.moreO hle1096 hf1097 ha1087.symm
 have hb1102 := hb1081.moreO hf1097 ha1088.symm
 have hb1103 := hb1082.moreO hf1097 ha1089.symm
 have hb1104 := hb1083.moreO hf1097 ha1090.symm
 refine (zU (i := 10) rfl rfl rfl (zI rfl _) (zM (vs := [u1071]) Tryz.func129 rK rfl rfl rfl ?_))
 refine dP (qB hX1095.pins hr1094 (by first | omega | (rw [xF]; omega))) ?_
 rintro _ w1107 ⟨u1105, G1106, rfl, hr1108, hx1109⟩
 refine ⟨_, rfl, ?_⟩
 have hX1110 := hX1095.tr hx1109
 have ho1111 := ho1098.ext hx1109
 have ho1112 := ho1099.ext hx1109
 have ho1113 := ho1100.ext hx1109
 have ho1114 := ho1101.ext hx1109
 have hb1115 := hb1102.ext hx1109
 have hb1116 := hb1103.ext hx1109
 have hb1117 := hb1104.ext hx1109
 have hq1118 := hq1092.below hx1109.below
 refine ⟨fun _ => ⟨hb1115.reads, hq1118⟩, ?_⟩
 refine qG (i := 20) (j := 23) (by kernel_rfl) ?_ ?_
 refine (zU (i := 20) rfl rfl rfl (zI rfl _) (zM (vs := [at_, u1067]) Tryz.func77 nm77 rfl rfl rfl ?_))
 refine dP (qK hX1110.pins (Gadd.pins hX1110.pins at_) ho1111.read (hr1068.mono (dN (dN hx1075.le hle1096) hx1109.le)) (by omega) (fun i hi => by have := hoo.right (j := k5) (by omega) hi; omega)) ?_
 rintro _ w1121 ⟨u1119, G1120, rfl, ho1122, hx1123⟩
 refine ⟨_, rfl, ?_⟩
 have hX1124 := hX1110.tr hx1123
 have ho1125 := ho1111.ext hx1123
 have ho1126 := ho1112.ext hx1123
 have ho1127 := ho1113.ext hx1123
 have ho1128 := ho1114.ext hx1123
 have hb1129 := hb1115.ext hx1123
 have hb1130 := hb1116.ext hx1123
 have hb1131 := hb1117.ext hx1123
 have ha1132 : Apart u1119.ownBlock at_.ownBlock := zV ho1122.lt ho1111.lt
 have ha1133 : Apart u1119.ownBlock ov.ownBlock := zV ho1122.lt ho1112.lt
 have ha1134 : Apart u1119.ownBlock bu.ownBlock := zV ho1122.lt ho1113.lt
 have ha1135 : Apart u1119.ownBlock bv.ownBlock := zV ho1122.lt ho1114.lt
 have ha1136 : Apart u1119.ownBlock (some b) := yA ho1122.lt hb1115.lt
 have ha1137 : Apart u1119.ownBlock (some b1) := yA ho1122.lt hb1116.lt
 have ha1138 : Apart u1119.ownBlock (some b74) := yA ho1122.lt hb1117.lt
 have ho1139 := ho1122.weaken hX1110.size
 have hq1140 := hq1118.below hx1123.below
 refine ⟨fun _ => ⟨hb1129.reads, hq1140⟩, ?_⟩
 refine qG (i := 21) (j := 23) (by kernel_rfl) ?_ ?_
 obtain ⟨G1141, hle1144, hX1143, hr1142, hf1145⟩ := ho1139.sealed hX1124
 have ho1146 := ho1125.moreO hle1144 hf1145 ha1132.symm
 have ho1147 := ho1126.moreO hle1144 hf1145 ha1133.symm
 have ho1148 := ho1127.moreO hle1144 hf1145 ha1134.symm
 have ho1149 := ho1128.moreO hle1144 hf1145 ha1135.symm
 have hb1150 := hb1129.moreO hf1145 ha1136.symm
 have hb1151 := hb1130.moreO hf1145 ha1137.symm
 have hb1152 := hb1131.moreO hf1145 ha1138.symm
 refine (zU (i := 21) rfl rfl rfl (zI rfl _) (zM (vs := [u1119]) Tryz.func129 rK rfl rfl rfl ?_))
 refine dP (qB hX1143.pins hr1142 (by first | omega | (rw [xF]; omega))) ?_
 rintro _ w1155 ⟨u1153, G1154, rfl, hr1156, hx1157⟩
 refine ⟨_, rfl, ?_⟩
 have hX1158 := hX1143.tr hx1157
 have ho1159 := ho1146.ext hx1157
 have ho1160 := ho1147.ext hx1157
 have ho1161 := ho1148.ext hx1157
 have ho1162 := ho1149.ext hx1157
 have hb1163 := hb1150.ext hx1157
 have hb1164 := hb1151.ext hx1157
 have hb1165 := hb1152.ext hx1157
 have hq1166 := hq1140.below hx1157.below
 refine ⟨fun _ => ⟨hb1163.reads, hq1166⟩, ?_⟩
 refine dT (i := 22) rfl rfl (by kernel_rfl) (fun _ _ => xQ [(.slice none 0 0), (.slice none 0 0)] [u1105, u1153] [(0, u1105, [u1105]), (1, u1153, [u1153])] eX zr65 rfl pl65 rfl (List.forall_mem_cons.2 ⟨(xE hr1108.one), (List.forall_mem_cons.2 ⟨(xE hr1156.one), (fun _ h => by cases h)⟩)⟩) rfl) ⟨hb1163.reads, hq1166⟩ ?_
 refine zQ (i := 23) (by kernel_rfl) (zU (i := 23) rfl rfl rfl (zI rfl _) (yO [(.slice none 0 0), (.slice none 0 0)] zr65 rfl hX1158.pins (fun b1167 w1168 hk1169 hb1170 hp1171 hl1172 => ?_)))
 have hX1173 := hX1158.step hp1171 hl1172
 have ho1174 := ho1159.below hl1172
 have ho1175 := ho1160.below hl1172
 have ho1176 := ho1161.below hl1172
 have ho1177 := ho1162.below hl1172
 have hb1178 := hb1163.below hl1172
 have hb1179 := hb1164.below hl1172
 have hb1180 := hb1165.below hl1172
 have ha1181 : Apart (some b1167) at_.ownBlock := zK (congrArg some hk1169) ho1159.lt
 have ha1182 : Apart (some b1167) ov.ownBlock := zK (congrArg some hk1169) ho1160.lt
 have ha1183 : Apart (some b1167) bu.ownBlock := zK (congrArg some hk1169) ho1161.lt
 have ha1184 : Apart (some b1167) bv.ownBlock := zK (congrArg some hk1169) ho1162.lt
 have ha1185 : Apart (some b1167) (some b) := zL (congrArg some hk1169) hb1163.lt
 have ha1186 : Apart (some b1167) (some b1) := zL (congrArg some hk1169) hb1164.lt
 have ha1187 : Apart (some b1167) (some b74) := zL (congrArg some hk1169) hb1165.lt
 have hlo1188 : w.heap.size ≤ b1167 := by have := hX1158.size; omega
 have hq1189 := hq1166.below hl1172
 refine ⟨fun _ => ⟨hb1178.reads, hq1189⟩, ?_⟩
 refine zQ (i := 24) (by kernel_rfl) (qC (i := 24) rfl rfl rfl (zI rfl _) (o_stp (cs' := [u1105, u1153]) (us := [u1105, u1153]) (v := (.agg [u1105, u1153].toArray)) sz65 rfl rfl rfl (jE hr1108.one hr1156.one) hX1173.pins hb1170 (dQ rfl) rfl (fun w1190 hb1191 hp1192 hg1193 hz1194 => ?_)))
 have hX1195 := hX1173.write hp1192 hg1193 ((yC hlo1188))
 have ho1196 := ho1174.keptA hg1193 ha1181.symm
 have ho1197 := ho1175.keptA hg1193 ha1182.symm
 have ho1198 := ho1176.keptA hg1193 ha1183.symm
 have ho1199 := ho1177.keptA hg1193 ha1184.symm
 have hb1200 := hb1178.keptA hg1193 ha1185.symm
 have hb1201 := hb1179.keptA hg1193 ha1186.symm
 have hb1202 := hb1180.keptA hg1193 ha1187.symm
 obtain ⟨G1203, hle1204, hX1205, hbp1206, hf1207⟩ := hb1191.shut hX1195 hlo1188
 have ho1208 := ho1196.moreA hle1204 hf1207 ha1181.symm
 have ho1209 := ho1197.moreA hle1204 hf1207 ha1182.symm
 have ho1210 := ho1198.moreA hle1204 hf1207 ha1183.symm
 have ho1211 := ho1199.moreA hle1204 hf1207 ha1184.symm
 have hb1212 := hb1200.moreA hf1207 ha1185.symm
 have hb1213 := hb1201.moreA hf1207 ha1186.symm
 have hb1214 := hb1202.moreA hf1207 ha1187.symm
 refine ⟨fun h => absurd rfl h, ?_⟩
 exact yP (by kernel_rfl) (xU ⟨_, b1167, u1105, u1153, G1203, (zC (x := 12) (zC (x := 11) (zC (x := 10) (zC (x := 9) (zC (x := 8) (zC (x := 7) (zC (x := 6) (zC (x := 5) (zC (x := 4) (zC (x := 1) (zX (x := 0) rfl) rfl) rfl) rfl) rfl) rfl) rfl) rfl) rfl) rfl) rfl), hX1205, (dN (dN (dN (dN (dN (dN hx1075.le hle1096) hx1109.le) hx1123.le) hle1144) hx1157.le) hle1204), (hr1108.mono (dN (dN (dN hx1123.le hle1144) hx1157.le) hle1204)), (hr1156.mono hle1204), ho1208, ho1209, ho1210, ho1211, hb1212, hb1213, hb1214, (hbp1206.mono (Pin.le_refl _))⟩)
 refine (zU (i := 23) rfl rfl rfl (zI rfl _) (yO [(.slice none 0 0), (.slice none 0 0)] zr65 rfl hX1124.pins (fun b1215 w1216 hk1217 hb1218 hp1219 hl1220 => ?_)))
 have hX1221 := hX1124.step hp1219 hl1220
 have ho1222 := ho1125.below hl1220
 have ho1223 := ho1126.below hl1220
 have ho1224 := ho1127.below hl1220
 have ho1225 := ho1128.below hl1220
 have ho1226 := ho1139.below hl1220
 have hb1227 := hb1129.below hl1220
 have hb1228 := hb1130.below hl1220
 have hb1229 := hb1131.below hl1220
 have ha1230 : Apart (some b1215) at_.ownBlock := zK (congrArg some hk1217) ho1125.lt
 have ha1231 : Apart (some b1215) ov.ownBlock := zK (congrArg some hk1217) ho1126.lt
 have ha1232 : Apart (some b1215) bu.ownBlock := zK (congrArg some hk1217) ho1127.lt
 have ha1233 : Apart (some b1215) bv.ownBlock := zK (congrArg some hk1217) ho1128.lt
 have ha1234 : Apart (some b1215) u1119.ownBlock := zK (congrArg some hk1217) ho1139.lt
 have ha1235 : Apart (some b1215) (some b) := zL (congrArg some hk1217) hb1129.lt
 have ha1236 : Apart (some b1215) (some b1) := zL (congrArg some hk1217) hb1130.lt
 have ha1237 : Apart (some b1215) (some b74) := zL (congrArg some hk1217) hb1131.lt
 have hlo1238 : w.heap.size ≤ b1215 := by have := hX1124.size; omega
 have hq1239 := hq1140.below hl1220
 refine ⟨fun _ => ⟨hb1227.reads, hq1239⟩, ?_⟩
 obtain ⟨G1240, hle1243, hX1242, hr1241, hf1244⟩ := ho1226.sealed hX1221
 have ho1245 := ho1222.moreO hle1243 hf1244 ha1132.symm
 have ho1246 := ho1223.moreO hle1243 hf1244 ha1133.symm
 have ho1247 := ho1224.moreO hle1243 hf1244 ha1134.symm
 have ho1248 := ho1225.moreO hle1243 hf1244 ha1135.symm
 have hb1249 := hb1227.moreO hf1244 ha1136.symm
 have hb1250 := hb1228.moreO hf1244 ha1137.symm
 have hb1251 := hb1229.moreO hf1244 ha1138.symm
 have hb1252 := hb1218.moreO hf1244 ha1234
 refine zQ (i := 21) (by kernel_rfl) (zU (i := 21) rfl rfl rfl (zI rfl _) (zM (vs := [u1119]) Tryz.func129 rK rfl rfl rfl ?_))
 refine dP (qB hX1242.pins hr1241 (by first | omega | (rw [xF]; omega))) ?_
 rintro _ w1255 ⟨u1253, G1254, rfl, hr1256, hx1257⟩
 refine ⟨_, rfl, ?_⟩
 have hX1258 := hX1242.tr hx1257
 have ho1259 := ho1245.ext hx1257
 have ho1260 := ho1246.ext hx1257
 have ho1261 := ho1247.ext hx1257
 have ho1262 := ho1248.ext hx1257
 have hb1263 := hb1249.ext hx1257
 have hb1264 := hb1250.ext hx1257
 have hb1265 := hb1251.ext hx1257
 have hb1266 := hb1252.ext hx1257
 have hq1267 := hq1239.below hx1257.below
 refine ⟨fun _ => ⟨hb1263.reads, hq1267⟩, ?_⟩
 refine dT (i := 22) rfl rfl (by kernel_rfl) (fun _ _ => xQ [(.slice none 0 0), (.slice none 0 0)] [u1105, u1253] [(0, u1105, [u1105]), (1, u1253, [u1253])] eX zr65 rfl pl65 rfl (List.forall_mem_cons.2 ⟨(xE hr1108.one), (List.forall_mem_cons.2 ⟨(xE hr1256.one), (fun _ h => by cases h)⟩)⟩) rfl) ⟨hb1263.reads, hq1267⟩ ?_
 refine zQ (i := 24) (by kernel_rfl) (qC (i := 24) rfl rfl rfl (zI rfl _) (o_stp (cs' := [u1105, u1253]) (us := [u1105, u1253]) (v := (.agg [u1105, u1253].toArray)) sz65 rfl rfl rfl (jE hr1108.one hr1256.one) hX1258.pins hb1266 (dQ rfl) rfl (fun w1268 hb1269 hp1270 hg1271 hz1272 => ?_)))
 have hX1273 := hX1258.write hp1270 hg1271 ((yC hlo1238))
 have ho1274 := ho1259.keptA hg1271 ha1230.symm
 have ho1275 := ho1260.keptA hg1271 ha1231.symm
 have ho1276 := ho1261.keptA hg1271 ha1232.symm
 have ho1277 := ho1262.keptA hg1271 ha1233.symm
 have hb1278 := hb1263.keptA hg1271 ha1235.symm
 have hb1279 := hb1264.keptA hg1271 ha1236.symm
 have hb1280 := hb1265.keptA hg1271 ha1237.symm
 obtain ⟨G1281, hle1282, hX1283, hbp1284, hf1285⟩ := hb1269.shut hX1273 hlo1238
 have ho1286 := ho1274.moreA hle1282 hf1285 ha1230.symm
 have ho1287 := ho1275.moreA hle1282 hf1285 ha1231.symm
 have ho1288 := ho1276.moreA hle1282 hf1285 ha1232.symm
 have ho1289 := ho1277.moreA hle1282 hf1285 ha1233.symm
 have hb1290 := hb1278.moreA hf1285 ha1235.symm
 have hb1291 := hb1279.moreA hf1285 ha1236.symm
 have hb1292 := hb1280.moreA hf1285 ha1237.symm
 refine ⟨fun h => absurd rfl h, ?_⟩
 exact yP (by kernel_rfl) (xU ⟨_, b1215, u1105, u1253, G1281, (zC (x := 12) (zC (x := 11) (zC (x := 10) (zC (x := 9) (zC (x := 8) (zC (x := 7) (zC (x := 6) (zC (x := 5) (zC (x := 4) (zC (x := 1) (zX (x := 0) rfl) rfl) rfl) rfl) rfl) rfl) rfl) rfl) rfl) rfl) rfl), hX1283, (dN (dN (dN (dN (dN (dN hx1075.le hle1096) hx1109.le) hx1123.le) hle1243) hx1257.le) hle1282), (hr1108.mono (dN (dN (dN hx1123.le hle1243) hx1257.le) hle1282)), (hr1256.mono hle1282), ho1286, ho1287, ho1288, ho1289, hb1290, hb1291, hb1292, (hbp1284.mono (Pin.le_refl _))⟩)
 refine (zU (i := 23) rfl rfl rfl (zI rfl _) (yO [(.slice none 0 0), (.slice none 0 0)] zr65 rfl hX1110.pins (fun b1293 w1294 hk1295 hb1296 hp1297 hl1298 => ?_)))
 have hX1299 := hX1110.step hp1297 hl1298
 have ho1300 := ho1111.below hl1298
 have ho1301 := ho1112.below hl1298
 have ho1302 := ho1113.below hl1298
 have ho1303 := ho1114.below hl1298
 have hb1304 := hb1115.below hl1298
 have hb1305 := hb1116.below hl1298
 have hb1306 := hb1117.below hl1298
 have ha1307 : Apart (some b1293) at_.ownBlock := zK (congrArg some hk1295) ho1111.lt
 have ha1308 : Apart (some b1293) ov.ownBlock := zK (congrArg some hk1295) ho1112.lt
 have ha1309 : Apart (some b1293) bu.ownBlock := zK (congrArg some hk1295) ho1113.lt
 have ha1310 : Apart (some b1293) bv.ownBlock := zK (congrArg some hk1295) ho1114.lt
 have ha1311 : Apart (some b1293) (some b) := zL (congrArg some hk1295) hb1115.lt
 have ha1312 : Apart (some b1293) (some b1) := zL (congrArg some hk1295) hb1116.lt
 have ha1313 : Apart (some b1293) (some b74) := zL (congrArg some hk1295) hb1117.lt
 have hlo1314 : w.heap.size ≤ b1293 := by have := hX1110.size; omega
 have hq1315 := hq1118.below hl1298
 refine ⟨fun _ => ⟨hb1304.reads, hq1315⟩, ?_⟩
 refine zQ (i := 20) (by kernel_rfl) (zU (i := 20) rfl rfl rfl (zI rfl _) (zM (vs := [at_, u1067]) Tryz.func77 nm77 rfl rfl rfl ?_))
 refine dP (qK hX1299.pins (Gadd.pins hX1299.pins at_) ho1300.read (hr1068.mono (dN (dN hx1075.le hle1096) hx1109.le)) (by omega) (fun i hi => by have := hoo.right (j := k5) (by omega) hi; omega)) ?_
 rintro _ w1318 ⟨u1316, G1317, rfl, ho1319, hx1320⟩
 refine ⟨_, rfl, ?_⟩
 have hX1321 := hX1299.tr hx1320
 have ho1322 := ho1300.ext hx1320
 have ho1323 := ho1301.ext hx1320
 have ho1324 := ho1302.ext hx1320
 have ho1325 := ho1303.ext hx1320
 have hb1326 := hb1304.ext hx1320
 have hb1327 := hb1305.ext hx1320
 have hb1328 := hb1306.ext hx1320
 have hb1329 := hb1296.ext hx1320
 have ha1330 : Apart u1316.ownBlock at_.ownBlock := zV ho1319.lt ho1300.lt
 have ha1331 : Apart u1316.ownBlock ov.ownBlock := zV ho1319.lt ho1301.lt
 have ha1332 : Apart u1316.ownBlock bu.ownBlock := zV ho1319.lt ho1302.lt
 have ha1333 : Apart u1316.ownBlock bv.ownBlock := zV ho1319.lt ho1303.lt
 have ha1334 : Apart u1316.ownBlock (some b) := yA ho1319.lt hb1304.lt
 have ha1335 : Apart u1316.ownBlock (some b1) := yA ho1319.lt hb1305.lt
 have ha1336 : Apart u1316.ownBlock (some b74) := yA ho1319.lt hb1306.lt
 have ha1337 : Apart u1316.ownBlock (some b1293) := yA ho1319.lt hb1296.lt
 have ho1338 := ho1319.weaken hX1299.size
 have hq1339 := hq1315.below hx1320.below
 refine ⟨fun _ => ⟨hb1326.reads, hq1339⟩, ?_⟩
 obtain ⟨G1340, hle1343, hX1342, hr1341, hf1344⟩ := ho1338.sealed hX1321
 have ho1345 := ho1322.moreO hle1343 hf1344 ha1330.symm
 have ho1346 := ho1323.moreO hle1343 hf1344 ha1331.symm
 have ho1347 := ho1324.moreO hle1343 hf1344 ha1332.symm
 have ho1348 := ho1325.moreO hle1343 hf1344 ha1333.symm
 have hb1349 := hb1326.moreO hf1344 ha1334.symm
 have hb1350 := hb1327.moreO hf1344 ha1335.symm
 have hb1351 := hb1328.moreO hf1344 ha1336.symm
 have hb1352 := hb1329.moreO hf1344 ha1337.symm
 refine zQ (i := 21) (by kernel_rfl) (zU (i := 21) rfl rfl rfl (zI rfl _) (zM (vs := [u1316]) Tryz.func129 rK rfl rfl rfl ?_))
 refine dP (qB hX1342.pins hr1341 (by first | omega | (rw [xF]; omega))) ?_
 rintro _ w1355 ⟨u1353, G1354, rfl, hr1356, hx1357⟩
 refine ⟨_, rfl, ?_⟩
 have hX1358 := hX1342.tr hx1357
 have ho1359 := ho1345.ext hx1357
 have ho1360 := ho1346.ext hx1357
 have ho1361 := ho1347.ext hx1357
 have ho1362 := ho1348.ext hx1357
 have hb1363 := hb1349.ext hx1357
 have hb1364 := hb1350.ext hx1357
 have hb1365 := hb1351.ext hx1357
 have hb1366 := hb1352.ext hx1357
 have hq1367 := hq1339.below hx1357.below
 refine ⟨fun _ => ⟨hb1363.reads, hq1367⟩, ?_⟩
 refine dT (i := 22) rfl rfl (by kernel_rfl) (fun _ _ => xQ [(.slice none 0 0), (.slice none 0 0)] [u1105, u1353] [(0, u1105, [u1105]), (1, u1353, [u1353])] eX zr65 rfl pl65 rfl (List.forall_mem_cons.2 ⟨(xE hr1108.one), (List.forall_mem_cons.2 ⟨(xE hr1356.one), (fun _ h => by cases h)⟩)⟩) rfl) ⟨hb1363.reads, hq1367⟩ ?_
 refine zQ (i := 24) (by kernel_rfl) (qC (i := 24) rfl rfl rfl (zI rfl _) (o_stp (cs' := [u1105, u1353]) (us := [u1105, u1353]) (v := (.agg [u1105, u1353].toArray)) sz65 rfl rfl rfl (jE hr1108.one hr1356.one) hX1358.pins hb1366 (dQ rfl) rfl (fun w1368 hb1369 hp1370 hg1371 hz1372 => ?_)))
 have hX1373 := hX1358.write hp1370 hg1371 ((yC hlo1314))
 have ho1374 := ho1359.keptA hg1371 ha1307.symm
 have ho1375 := ho1360.keptA hg1371 ha1308.symm
 have ho1376 := ho1361.keptA hg1371 ha1309.symm
 have ho1377 := ho1362.keptA hg1371 ha1310.symm
 have hb1378 := hb1363.keptA hg1371 ha1311.symm
 have hb1379 := hb1364.keptA hg1371 ha1312.symm
 have hb1380 := hb1365.keptA hg1371 ha1313.symm
 obtain ⟨G1381, hle1382, hX1383, hbp1384, hf1385⟩ := hb1369.shut hX1373 hlo1314
 have ho1386 := ho1374.moreA hle1382 hf1385 ha1307.symm
 have ho1387 := ho1375.moreA hle1382 hf1385 ha1308.symm
 have ho1388 := ho1376.moreA hle1382 hf1385 ha1309.symm
 have ho1389 := ho1377.moreA hle1382 hf1385 ha1310.symm
 have hb1390 := hb1378.moreA hf1385 ha1311.symm
 have hb1391 := hb1379.moreA hf1385 ha1312.symm
 have hb1392 := hb1380.moreA hf1385 ha1313.symm
 refine ⟨fun h => absurd rfl h, ?_⟩
 exact yP (by kernel_rfl) (xU ⟨_, b1293, u1105, u1353, G1381, (zC (x := 12) (zC (x := 11) (zC (x := 10) (zC (x := 9) (zC (x := 8) (zC (x := 7) (zC (x := 6) (zC (x := 5) (zC (x := 4) (zC (x := 1) (zX (x := 0) rfl) rfl) rfl) rfl) rfl) rfl) rfl) rfl) rfl) rfl) rfl), hX1383, (dN (dN (dN (dN (dN (dN hx1075.le hle1096) hx1109.le) hx1320.le) hle1343) hx1357.le) hle1382), (hr1108.mono (dN (dN (dN hx1320.le hle1343) hx1357.le) hle1382)), (hr1356.mono hle1382), ho1386, ho1387, ho1388, ho1389, hb1390, hb1391, hb1392, (hbp1384.mono (Pin.le_refl _))⟩)
 refine (zU (i := 23) rfl rfl rfl (zI rfl _) (yO [(.slice none 0 0), (.slice none 0 0)] zr65 rfl hX1076.pins (fun b1393 w1394 hk1395 hb1396 hp1397 hl1398 => ?_)))
 have hX1399 := hX1076.step hp1397 hl1398
 have ho1400 := ho1077.below hl1398
 have ho1401 := ho1078.below hl1398
 have ho1402 := ho1079.below hl1398
 have ho1403 := ho1080.below hl1398
 have ho1404 := ho1091.below hl1398
 have hb1405 := hb1081.below hl1398
 have hb1406 := hb1082.below hl1398
 have hb1407 := hb1083.below hl1398
 have ha1408 : Apart (some b1393) at_.ownBlock := zK (congrArg some hk1395) ho1077.lt
 have ha1409 : Apart (some b1393) ov.ownBlock := zK (congrArg some hk1395) ho1078.lt
 have ha1410 : Apart (some b1393) bu.ownBlock := zK (congrArg some hk1395) ho1079.lt
 have ha1411 : Apart (some b1393) bv.ownBlock := zK (congrArg some hk1395) ho1080.lt
 have ha1412 : Apart (some b1393) u1071.ownBlock := zK (congrArg some hk1395) ho1091.lt
 have ha1413 : Apart (some b1393) (some b) := zL (congrArg some hk1395) hb1081.lt
 have ha1414 : Apart (some b1393) (some b1) := zL (congrArg some hk1395) hb1082.lt
 have ha1415 : Apart (some b1393) (some b74) := zL (congrArg some hk1395) hb1083.lt
 have hlo1416 : w.heap.size ≤ b1393 := by have := hX1076.size; omega
 have hq1417 := hq1092.below hl1398
 refine ⟨fun _ => ⟨hb1405.reads, hq1417⟩, ?_⟩
 obtain ⟨G1418, hle1421, hX1420, hr1419, hf1422⟩ := ho1404.sealed hX1399
 have ho1423 := ho1400.moreO hle1421 hf1422 ha1084.symm
 have ho1424 := ho1401.moreO hle1421 hf1422 ha1085.symm
 have ho1425 := ho1402.moreO hle1421 hf1422 ha1086.symm
 have ho1426 := ho1403.moreO hle1421 hf1422 ha1087.symm
 have hb1427 := hb1405.moreO hf1422 ha1088.symm
 have hb1428 := hb1406.moreO hf1422 ha1089.symm
 have hb1429 := hb1407.moreO hf1422 ha1090.symm
 have hb1430 := hb1396.moreO hf1422 ha1412
 refine zQ (i := 10) (by kernel_rfl) (zU (i := 10) rfl rfl rfl (zI rfl _) (zM (vs := [u1071]) Tryz.func129 rK rfl rfl rfl ?_))
 refine dP (qB hX1420.pins hr1419 (by first | omega | (rw [xF]; omega))) ?_
 rintro _ w1433 ⟨u1431, G1432, rfl, hr1434, hx1435⟩
 refine ⟨_, rfl, ?_⟩
 have hX1436 := hX1420.tr hx1435
 have ho1437 := ho1423.ext hx1435
 have ho1438 := ho1424.ext hx1435
 have ho1439 := ho1425.ext hx1435
 have ho1440 := ho1426.ext hx1435
 have hb1441 := hb1427.ext hx1435
 have hb1442 := hb1428.ext hx1435
 have hb1443 := hb1429.ext hx1435
 have hb1444 := hb1430.ext hx1435
 have hq1445 := hq1417.below hx1435.below
 refine ⟨fun _ => ⟨hb1441.reads, hq1445⟩, ?_⟩
 refine zQ (i := 20) (by kernel_rfl) (zU (i := 20) rfl rfl rfl (zI rfl _) (zM (vs := [at_, u1067]) Tryz.func77 nm77 rfl rfl rfl ?_))
 refine dP (qK hX1436.pins (Gadd.pins hX1436.pins at_) ho1437.read (hr1068.mono (dN (dN hx1075.le hle1421) hx1435.le)) (by omega) (fun i hi => by have := hoo.right (j := k5) (by omega) hi; omega)) ?_
 rintro _ w1448 ⟨u1446, G1447, rfl, ho1449, hx1450⟩
 refine ⟨_, rfl, ?_⟩
 have hX1451 := hX1436.tr hx1450
 have ho1452 := ho1437.ext hx1450
 have ho1453 := ho1438.ext hx1450
 have ho1454 := ho1439.ext hx1450
 have ho1455 := ho1440.ext hx1450
 have hb1456 := hb1441.ext hx1450
 have hb1457 := hb1442.ext hx1450
 have hb1458 := hb1443.ext hx1450
 have hb1459 := hb1444.ext hx1450
 have ha1460 : Apart u1446.ownBlock at_.ownBlock := zV ho1449.lt ho1437.lt
 have ha1461 : Apart u1446.ownBlock ov.ownBlock := zV ho1449.lt ho1438.lt
 have ha1462 : Apart u1446.ownBlock bu.ownBlock := zV ho1449.lt ho1439.lt
 have ha1463 : Apart u1446.ownBlock bv.ownBlock := zV ho1449.lt ho1440.lt
 have ha1464 : Apart u1446.ownBlock (some b) := yA ho1449.lt hb1441.lt
 have ha1465 : Apart u1446.ownBlock (some b1) := yA ho1449.lt hb1442.lt
 have ha1466 : Apart u1446.ownBlock (some b74) := yA ho1449.lt hb1443.lt
 have ha1467 : Apart u1446.ownBlock (some b1393) := yA ho1449.lt hb1444.lt
 have ho1468 := ho1449.weaken hX1436.size
 have hq1469 := hq1445.below hx1450.below
 refine ⟨fun _ => ⟨hb1456.reads, hq1469⟩, ?_⟩
 obtain ⟨G1470, hle1473, hX1472, hr1471, hf1474⟩ := ho1468.sealed hX1451
 have ho1475 := ho1452.moreO hle1473 hf1474 ha1460.symm
 have ho1476 := ho1453.moreO hle1473 hf1474 ha1461.symm
 have ho1477 := ho1454.moreO hle1473 hf1474 ha1462.symm
 have ho1478 := ho1455.moreO hle1473 hf1474 ha1463.symm
 have hb1479 := hb1456.moreO hf1474 ha1464.symm
 have hb1480 := hb1457.moreO hf1474 ha1465.symm
 have hb1481 := hb1458.moreO hf1474 ha1466.symm
 have hb1482 := hb1459.moreO hf1474 ha1467.symm
 refine zQ (i := 21) (by kernel_rfl) (zU (i := 21) rfl rfl rfl (zI rfl _) (zM (vs := [u1446]) Tryz.func129 rK rfl rfl rfl ?_))
 refine dP (qB hX1472.pins hr1471 (by first | omega | (rw [xF]; omega))) ?_
 rintro _ w1485 ⟨u1483, G1484, rfl, hr1486, hx1487⟩
 refine ⟨_, rfl, ?_⟩
 have hX1488 := hX1472.tr hx1487
 have ho1489 := ho1475.ext hx1487
 have ho1490 := ho1476.ext hx1487
 have ho1491 := ho1477.ext hx1487
 have ho1492 := ho1478.ext hx1487
 have hb1493 := hb1479.ext hx1487
 have hb1494 := hb1480.ext hx1487
 have hb1495 := hb1481.ext hx1487
 have hb1496 := hb1482.ext hx1487
 have hq1497 := hq1469.below hx1487.below
 refine ⟨fun _ => ⟨hb1493.reads, hq1497⟩, ?_⟩
 refine dT (i := 22) rfl rfl (by kernel_rfl) (fun _ _ => xQ [(.slice none 0 0), (.slice none 0 0)] [u1431, u1483] [(0, u1431, [u1431]), (1, u1483, [u1483])] eX zr65 rfl pl65 rfl (List.forall_mem_cons.2 ⟨(xE hr1434.one), (List.forall_mem_cons.2 ⟨(xE hr1486.one), (fun _ h => by cases h)⟩)⟩) rfl) ⟨hb1493.reads, hq1497⟩ ?_
 refine zQ (i := 24) (by kernel_rfl) (qC (i := 24) rfl rfl rfl (zI rfl _) (o_stp (cs' := [u1431, u1483]) (us := [u1431, u1483]) (v := (.agg [u1431, u1483].toArray)) sz65 rfl rfl rfl (jE hr1434.one hr1486.one) hX1488.pins hb1496 (dQ rfl) rfl (fun w1498 hb1499 hp1500 hg1501 hz1502 => ?_)))
 have hX1503 := hX1488.write hp1500 hg1501 ((yC hlo1416))
 have ho1504 := ho1489.keptA hg1501 ha1408.symm
 have ho1505 := ho1490.keptA hg1501 ha1409.symm
 have ho1506 := ho1491.keptA hg1501 ha1410.symm
 have ho1507 := ho1492.keptA hg1501 ha1411.symm
 have hb1508 := hb1493.keptA hg1501 ha1413.symm
 have hb1509 := hb1494.keptA hg1501 ha1414.symm
 have hb1510 := hb1495.keptA hg1501 ha1415.symm
 obtain ⟨G1511, hle1512, hX1513, hbp1514, hf1515⟩ := hb1499.shut hX1503 hlo1416
 have ho1516 := ho1504.moreA hle1512 hf1515 ha1408.symm
 have ho1517 := ho1505.moreA hle1512 hf1515 ha1409.symm
 have ho1518 := ho1506.moreA hle1512 hf1515 ha1410.symm
 have ho1519 := ho1507.moreA hle1512 hf1515 ha1411.symm
 have hb1520 := hb1508.moreA hf1515 ha1413.symm
 have hb1521 := hb1509.moreA hf1515 ha1414.symm
 have hb1522 := hb1510.moreA hf1515 ha1415.symm
 refine ⟨fun h => absurd rfl h, ?_⟩
 exact yP (by kernel_rfl) (xU ⟨_, b1393, u1431, u1483, G1511, (zC (x := 12) (zC (x := 11) (zC (x := 10) (zC (x := 9) (zC (x := 8) (zC (x := 7) (zC (x := 6) (zC (x := 5) (zC (x := 4) (zC (x := 1) (zX (x := 0) rfl) rfl) rfl) rfl) rfl) rfl) rfl) rfl) rfl) rfl) rfl), hX1513, (dN (dN (dN (dN (dN (dN hx1075.le hle1421) hx1435.le) hx1450.le) hle1473) hx1487.le) hle1512), (hr1434.mono (dN (dN (dN hx1450.le hle1473) hx1487.le) hle1512)), (hr1486.mono hle1512), ho1516, ho1517, ho1518, ho1519, hb1520, hb1521, hb1522, (hbp1514.mono (Pin.le_refl _))⟩)
 refine (zU (i := 23) rfl rfl rfl (zI rfl _) (yO [(.slice none 0 0), (.slice none 0 0)] zr65 rfl hX1054.pins (fun b1523 w1524 hk1525 hb1526 hp1527 hl1528 => ?_)))
 have hX1529 := hX1054.step hp1527 hl1528
 have ho1530 := ho1055.below hl1528
 have ho1531 := ho1056.below hl1528
 have ho1532 := ho1057.below hl1528
 have ho1533 := ho1058.below hl1528
 have hb1534 := hb1059.below hl1528
 have hb1535 := hb1060.below hl1528
 have hb1536 := hb1061.below hl1528
 have ha1537 : Apart (some b1523) at_.ownBlock := zK (congrArg some hk1525) ho1055.lt
 have ha1538 : Apart (some b1523) ov.ownBlock := zK (congrArg some hk1525) ho1056.lt
 have ha1539 : Apart (some b1523) bu.ownBlock := zK (congrArg some hk1525) ho1057.lt
 have ha1540 : Apart (some b1523) bv.ownBlock := zK (congrArg some hk1525) ho1058.lt
 have ha1541 : Apart (some b1523) (some b) := zL (congrArg some hk1525) hb1059.lt
 have ha1542 : Apart (some b1523) (some b1) := zL (congrArg some hk1525) hb1060.lt
 have ha1543 : Apart (some b1523) (some b74) := zL (congrArg some hk1525) hb1061.lt
 have hlo1544 : w.heap.size ≤ b1523 := by have := hX1054.size; omega
 have hq1545 := hq1062.below hl1528
 refine ⟨fun _ => ⟨hb1534.reads, hq1545⟩, ?_⟩
 refine zQ (i := 9) (by kernel_rfl) (zU (i := 9) rfl rfl rfl (zI rfl _) (zM (vs := [at_, u1063]) Tryz.func77 nm77 rfl rfl rfl ?_))
 refine dP (qK hX1529.pins (Gadd.pins hX1529.pins at_) ho1530.read hr1064 (by omega) (fun i hi => by have := hoo.left (j := k5) (by omega) hi; omega)) ?_
 rintro _ w1548 ⟨u1546, G1547, rfl, ho1549, hx1550⟩
 refine ⟨_, rfl, ?_⟩
 have hX1551 := hX1529.tr hx1550
 have ho1552 := ho1530.ext hx1550
 have ho1553 := ho1531.ext hx1550
 have ho1554 := ho1532.ext hx1550
 have ho1555 := ho1533.ext hx1550
 have hb1556 := hb1534.ext hx1550
 have hb1557 := hb1535.ext hx1550
 have hb1558 := hb1536.ext hx1550
 have hb1559 := hb1526.ext hx1550
 have ha1560 : Apart u1546.ownBlock at_.ownBlock := zV ho1549.lt ho1530.lt
 have ha1561 : Apart u1546.ownBlock ov.ownBlock := zV ho1549.lt ho1531.lt
 have ha1562 : Apart u1546.ownBlock bu.ownBlock := zV ho1549.lt ho1532.lt
 have ha1563 : Apart u1546.ownBlock bv.ownBlock := zV ho1549.lt ho1533.lt
 have ha1564 : Apart u1546.ownBlock (some b) := yA ho1549.lt hb1534.lt
 have ha1565 : Apart u1546.ownBlock (some b1) := yA ho1549.lt hb1535.lt
 have ha1566 : Apart u1546.ownBlock (some b74) := yA ho1549.lt hb1536.lt
 have ha1567 : Apart u1546.ownBlock (some b1523) := yA ho1549.lt hb1526.lt
 have ho1568 := ho1549.weaken hX1529.size
 have hq1569 := hq1545.below hx1550.below
 refine ⟨fun _ => ⟨hb1556.reads, hq1569⟩, ?_⟩
 obtain ⟨G1570, hle1573, hX1572, hr1571, hf1574⟩ := ho1568.sealed hX1551
 have ho1575 := ho1552.moreO hle1573 hf1574 ha1560.symm
 have ho1576 := ho1553.moreO hle1573 hf1574 ha1561.symm
 have ho1577 := ho1554.moreO hle1573 hf1574 ha1562.symm
 have ho1578 := ho1555.moreO hle1573 hf1574 ha1563.symm
 have hb1579 := hb1556.moreO hf1574 ha1564.symm
 have hb1580 := hb1557.moreO hf1574 ha1565.symm
 have hb1581 := hb1558.moreO hf1574 ha1566.symm
 have hb1582 := hb1559.moreO hf1574 ha1567.symm
 refine zQ (i := 10) (by kernel_rfl) (zU (i := 10) rfl rfl rfl (zI rfl _) (zM (vs := [u1546]) Tryz.func129 rK rfl rfl rfl ?_))
 refine dP (qB hX1572.pins hr1571 (by first | omega | (rw [xF]; omega))) ?_
 rintro _ w1585 ⟨u1583, G1584, rfl, hr1586, hx1587⟩
 refine ⟨_, rfl, ?_⟩
 have hX1588 := hX1572.tr hx1587
 have ho1589 := ho1575.ext hx1587
 have ho1590 := ho1576.ext hx1587
 have ho1591 := ho1577.ext hx1587
 have ho1592 := ho1578.ext hx1587
 have hb1593 := hb1579.ext hx1587
 have hb1594 := hb1580.ext hx1587
 have hb1595 := hb1581.ext hx1587
 have hb1596 := hb1582.ext hx1587
 have hq1597 := hq1569.below hx1587.below
 refine ⟨fun _ => ⟨hb1593.reads, hq1597⟩, ?_⟩
 refine zQ (i := 20) (by kernel_rfl) (zU (i := 20) rfl rfl rfl (zI rfl _) (zM (vs := [at_, u1067]) Tryz.func77 nm77 rfl rfl rfl ?_))
 refine dP (qK hX1588.pins (Gadd.pins hX1588.pins at_) ho1589.read (hr1068.mono (dN (dN hx1550.le hle1573) hx1587.le)) (by omega) (fun i hi => by have := hoo.right (j := k5) (by omega) hi; omega)) ?_
 rintro _ w1600 ⟨u1598, G1599, rfl, ho1601, hx1602⟩
 refine ⟨_, rfl, ?_⟩
 have hX1603 := hX1588.tr hx1602
 have ho1604 := ho1589.ext hx1602
 have ho1605 := ho1590.ext hx1602
 have ho1606 := ho1591.ext hx1602
 have ho1607 := ho1592.ext hx1602
 have hb1608 := hb1593.ext hx1602
 have hb1609 := hb1594.ext hx1602
 have hb1610 := hb1595.ext hx1602
 have hb1611 := hb1596.ext hx1602
 have ha1612 : Apart u1598.ownBlock at_.ownBlock := zV ho1601.lt ho1589.lt
 have ha1613 : Apart u1598.ownBlock ov.ownBlock := zV ho1601.lt ho1590.lt
 have ha1614 : Apart u1598.ownBlock bu.ownBlock := zV ho1601.lt ho1591.lt
 have ha1615 : Apart u1598.ownBlock bv.ownBlock := zV ho1601.lt ho1592.lt
 have ha1616 : Apart u1598.ownBlock (some b) := yA ho1601.lt hb1593.lt
 have ha1617 : Apart u1598.ownBlock (some b1) := yA ho1601.lt hb1594.lt
 have ha1618 : Apart u1598.ownBlock (some b74) := yA ho1601.lt hb1595.lt
 have ha1619 : Apart u1598.ownBlock (some b1523) := yA ho1601.lt hb1596.lt
 have ho1620 := ho1601.weaken hX1588.size
 have hq1621 := hq1597.below hx1602.below
 refine ⟨fun _ => ⟨hb1608.reads, hq1621⟩, ?_⟩
 obtain ⟨G1622, hle1625, hX1624, hr1623, hf1626⟩ := ho1620.sealed hX1603
 have ho1627 := ho1604.moreO hle1625 hf1626 ha1612.symm
 have ho1628 := ho1605.moreO hle1625 hf1626 ha1613.symm
 have ho1629 := ho1606.moreO hle1625 hf1626 ha1614.symm
 have ho1630 := ho1607.moreO hle1625 hf1626 ha1615.symm
 have hb1631 := hb1608.moreO hf1626 ha1616.symm
 have hb1632 := hb1609.moreO hf1626 ha1617.symm
 have hb1633 := hb1610.moreO hf1626 ha1618.symm
 have hb1634 := hb1611.moreO hf1626 ha1619.symm
 refine zQ (i := 21) (by kernel_rfl) (zU (i := 21) rfl rfl rfl (zI rfl _) (zM (vs := [u1598]) Tryz.func129 rK rfl rfl rfl ?_))
 refine dP (qB hX1624.pins hr1623 (by first | omega | (rw [xF]; omega))) ?_
 rintro _ w1637 ⟨u1635, G1636, rfl, hr1638, hx1639⟩
 refine ⟨_, rfl, ?_⟩
 have hX1640 := hX1624.tr hx1639
 have ho1641 := ho1627.ext hx1639
 have ho1642 := ho1628.ext hx1639
 have ho1643 := ho1629.ext hx1639
 have ho1644 := ho1630.ext hx1639
 have hb1645 := hb1631.ext hx1639
 have hb1646 := hb1632.ext hx1639
 have hb1647 := hb1633.ext hx1639
 have hb1648 := hb1634.ext hx1639
 have hq1649 := hq1621.below hx1639.below
 refine ⟨fun _ => ⟨hb1645.reads, hq1649⟩, ?_⟩
 refine dT (i := 22) rfl rfl (by kernel_rfl) (fun _ _ => xQ [(.slice none 0 0), (.slice none 0 0)] [u1583, u1635] [(0, u1583, [u1583]), (1, u1635, [u1635])] eX zr65 rfl pl65 rfl (List.forall_mem_cons.2 ⟨(xE hr1586.one), (List.forall_mem_cons.2 ⟨(xE hr1638.one), (fun _ h => by cases h)⟩)⟩) rfl) ⟨hb1645.reads, hq1649⟩ ?_
 refine zQ (i := 24) (by kernel_rfl) (qC (i := 24) rfl rfl rfl (zI rfl _) (o_stp (cs' := [u1583, u1635]) (us := [u1583, u1635]) (v := (.agg [u1583, u1635].toArray)) sz65 rfl rfl rfl (jE hr1586.one hr1638.one) hX1640.pins hb1648 (dQ rfl) rfl (fun w1650 hb1651 hp1652 hg1653 hz1654 => ?_)))
 have hX1655 := hX1640.write hp1652 hg1653 ((yC hlo1544))
 have ho1656 := ho1641.keptA hg1653 ha1537.symm
 have ho1657 := ho1642.keptA hg1653 ha1538.symm
 have ho1658 := ho1643.keptA hg1653 ha1539.symm
 have ho1659 := ho1644.keptA hg1653 ha1540.symm
 have hb1660 := hb1645.keptA hg1653 ha1541.symm
 have hb1661 := hb1646.keptA hg1653 ha1542.symm
 have hb1662 := hb1647.keptA hg1653 ha1543.symm
 obtain ⟨G1663, hle1664, hX1665, hbp1666, hf1667⟩ := hb1651.shut hX1655 hlo1544
 have ho1668 := ho1656.moreA hle1664 hf1667 ha1537.symm
 have ho1669 := ho1657.moreA hle1664 hf1667 ha1538.symm
 have ho1670 := ho1658.moreA hle1664 hf1667 ha1539.symm
 have ho1671 := ho1659.moreA hle1664 hf1667 ha1540.symm
 have hb1672 := hb1660.moreA hf1667 ha1541.symm
 have hb1673 := hb1661.moreA hf1667 ha1542.symm
 have hb1674 := hb1662.moreA hf1667 ha1543.symm
 refine ⟨fun h => absurd rfl h, ?_⟩
 exact yP (by kernel_rfl) (xU ⟨_, b1523, u1583, u1635, G1663, (zC (x := 12) (zC (x := 11) (zC (x := 10) (zC (x := 9) (zC (x := 8) (zC (x := 7) (zC (x := 6) (zC (x := 5) (zC (x := 4) (zC (x := 1) (zX (x := 0) rfl) rfl) rfl) rfl) rfl) rfl) rfl) rfl) rfl) rfl) rfl), hX1665, (dN (dN (dN (dN (dN (dN hx1550.le hle1573) hx1587.le) hx1602.le) hle1625) hx1639.le) hle1664), (hr1586.mono (dN (dN (dN hx1602.le hle1625) hx1639.le) hle1664)), (hr1638.mono hle1664), ho1668, ho1669, ho1670, ho1671, hb1672, hb1673, hb1674, (hbp1666.mono (Pin.le_refl _))⟩)
 refine qs rfl rfl rfl rfl rfl rfl (qs rfl rfl rfl rfl rfl rfl (qs rfl rfl rfl rfl rfl rfl (qs rfl rfl rfl rfl rfl rfl (qs rfl rfl rfl rfl rfl rfl (qs rfl rfl rfl rfl rfl rfl (qs rfl rfl rfl rfl rfl rfl (qs rfl rfl rfl rfl rfl rfl (qs rfl rfl rfl rfl rfl rfl (qD rfl (xI (v := (.bool true)) rfl rfl) (qe (zA ?_)))))))))))
 refine kB rfl rfl (wp_exit (yI (yV (zA (zH ?_)))))
 refine qD rfl (zB (v := (.int .i64 (k5 : Int))) rfl) (qD rfl (yX rfl rfl (by omega)) (qD rfl (zD (v := (.int .i64 ((k5 : Int) + 1))) rfl) (qe (yS (⟨_, ?_, _, rfl, _, k5 + 1, lv, ls, fv, fr, GL2, (zC (x := 11) (zC (x := 10) (zC (x := 9) (zC (x := 8) (zC (x := 7) (zC (x := 6) (zC (x := 5) (zC (x := 4) (zC (x := 1) (zX (x := 0) rfl) rfl) rfl) rfl) rfl) rfl) rfl) rfl) rfl) rfl), rfl, hX178, hlek175, (by omega), (lv_skip hrl (fun g => by have := g.1; rw [h214] at this; cases this)), (by omega), hfb, hw204, hw205, hw206, hw207, hw208, hw209, hw210, hr211, hr212⟩)))))
 omega
 refine wp_exit (yI (yW (yV (zA (zG (zH ?_))))))
 refine qD rfl (zD (v := (.int .i64 0)) rfl) (qe (zA ?_))
 refine yH (yZ (fun (k : Nat) (en : Nat → Value) (W : World) => ∃ (env1 : Nat → Value) (i4 : Nat) (at2 : Value) (ats2 : List Int) (ov2 : Value) (outs2 : List Nd) (GL4 : Pin), en = (upd (upd (upd (upd (upd (upd (upd (upd (upd (upd env1 0 (.pointer (some ⟨b, 0, none⟩))) 1 (.int .i64 m)) 4 (.pointer (some ⟨b1, 0, none⟩))) 5 u15) 6 at2) 7 (.pointer (some ⟨b74, 0, none⟩))) 8 (.int .i64 (q : Int))) 9 lv) 10 fv) 14 (.int .i64 (i4 : Int))) ∧ k = ls.length - i4 ∧ Ext noS G w GL4 W ∧ Pin.le GL2 GL4 ∧ (i4 ≤ ls.length) ∧ (placeM ls fr ats outs = placeM (ls.drop i4) (fr.drop i4) ats2 outs2) ∧ (ats2.length = m.toNat + 1) ∧ (outs2.length = outs.length + i4) ∧ (Own eInt 3 GL4 W w.heap.size at2 (ats2)) ∧ (Own eNode 65 GL4 W w.heap.size ov2 (outs2)) ∧ (Own eNode 65 GL4 W 0 bu (ns)) ∧ (Own eInt 3 GL4 W 0 bv (bs)) ∧ (Bx GL4 W b [bu, bv]) ∧ (Bx GL4 W b1 [(.slice none 0 0)]) ∧ (Bx GL4 W b74 [ov2]) ∧ (Apart at2.ownBlock ov2.ownBlock) ∧ (Apart at2.ownBlock bu.ownBlock) ∧ (Apart at2.ownBlock bv.ownBlock) ∧ (Apart at2.ownBlock (some b)) ∧ (Apart at2.ownBlock (some b1)) ∧ (Apart at2.ownBlock (some b74)) ∧ (Apart ov2.ownBlock bu.ownBlock) ∧ (Apart ov2.ownBlock bv.ownBlock) ∧ (Apart ov2.ownBlock (some b)) ∧ (Apart ov2.ownBlock (some b1)) ∧ (Apart ov2.ownBlock (some b74))) _ ⟨_, 0, at_, ats, ov, outs, GL2, (zC (x := 14) (zC (x := 10) (zC (x := 9) (zC (x := 8) (zC (x := 7) (zC (x := 6) (zC (x := 5) (zC (x := 4) (zC (x := 1) (zX (x := 0) rfl) rfl) rfl) rfl) rfl) rfl) rfl) rfl) rfl) rfl), rfl, hX178, Pin.le_refl _, Nat.zero_le _, rfl, hatl, rfl, hw204, hw205, hw206, hw207, hw208, hw209, hw210, ha117, ha118, ha119, ha120, ha121, ha122, ha123, ha124, ha125, ha126, ha127⟩ ?_)
 rintro k1675 _ w1676 ⟨env1, i4, at2, ats2, ov2, outs2, GL4, rfl, hk1677, hX1678, hlek1675, hi4, hrp, hatl2, hol2, hw1679, hw1680, hw1681, hw1682, hw1683, hw1684, hw1685, ha1686, ha1687, ha1688, ha1689, ha1690, ha1691, ha1692, ha1693, ha1694, ha1695, ha1696⟩
 refine zG (zG (zH ?_))
 refine qD rfl (zB (v := (.int .i64 (i4 : Int))) rfl) (qD rfl (zB (v := lv) rfl) (qD rfl (zT eV (v := lv) rfl hr211) (qD rfl (xB rfl rfl) (qe (zA ?_)))))
 refine yN (p := ((i4 : Int) : Int) < (ls.length : Int)) rfl rfl (fun h1697 => ?_) (fun h1697 => ?_)
 have hf4 := hfb i4 (by omega)
 refine wp_skip (zA (zG ?_))
 refine yH (zG ?_)
 have hq1698 := Gadd.pins hX1678.pins ov2
 have hq1699 := Gadd.pins hX1678.pins at2
 have hr1700 := hw1680.read
 have hr1701 := hw1679.read
 refine xD (S := fun wz => Pins GL4 wz ∧ BxR wz b74 [ov2] ∧ Pins (Gadd GL4 w1676 ov2) wz ∧ Pins (Gadd GL4 w1676 at2) wz) (last := 9) (by kernel_rfl) rfl ?_
 have hl1702 := bdr w1676
 have hp1703 := hX1678.pins.below hl1702
 have hX1704 := hX1678.step hp1703 hl1702
 have ho1705 := hw1679.below hl1702
 have ho1706 := hw1680.below hl1702
 have ho1707 := hw1681.below hl1702
 have ho1708 := hw1682.below hl1702
 have hb1709 := hw1683.below hl1702
 have hb1710 := hw1684.below hl1702
 have hb1711 := hw1685.below hl1702
 have hq1712 := hq1698.below hl1702
 have hq1713 := hq1699.below hl1702
 refine dT (i := 0) rfl rfl (by kernel_rfl) (fun _ _ => zB (v := at2) rfl) ⟨hX1704.pins, hb1711.reads, hq1712, hq1713⟩ ?_
 refine dT (i := 1) rfl rfl (by kernel_rfl) (fun _ _ => zB (v := fv) rfl) ⟨hX1704.pins, hb1711.reads, hq1712, hq1713⟩ ?_
 refine dT (i := 2) rfl rfl (by kernel_rfl) (fun _ _ => zB (v := (.int .i64 (i4 : Int))) rfl) ⟨hX1704.pins, hb1711.reads, hq1712, hq1713⟩ ?_
 refine dT (i := 3) rfl rfl (by kernel_rfl) (fun _ _ => zN eU sz3 (v := fv) rfl rfl hr212 (by omega) (by omega)) ⟨hX1704.pins, hb1711.reads, hq1712, hq1713⟩ ?_
 refine dT (i := 4) rfl rfl (by kernel_rfl) (fun _ hS => zO (r := fr.getD i4 0) rfl ag3 (z := (i4 : Int)) rfl hr212 (dO hS.1 hlek1675) (by omega) (by omega)) ⟨hX1704.pins, hb1711.reads, hq1712, hq1713⟩ ?_
 refine dT (i := 5) rfl rfl (by kernel_rfl) (fun _ _ => zR (k := 0) rfl eW rfl nz24 rfl) ⟨hX1704.pins, hb1711.reads, hq1712, hq1713⟩ ?_
 refine dT (i := 6) rfl rfl (by kernel_rfl) (fun _ hS => zS (u := ov2) ag24 rfl (hS.2.1 0 _ rfl)) ⟨hX1704.pins, hb1711.reads, hq1712, hq1713⟩ ?_
 refine dT (i := 7) rfl rfl (by kernel_rfl) (fun _ _ => zT eV (v := ov2) rfl hr1700) ⟨hX1704.pins, hb1711.reads, hq1712, hq1713⟩ ?_
 refine dT (i := 8) rfl rfl (by kernel_rfl) (fun _ _ => zN eU sz3 (v := at2) rfl rfl hr1701 (by omega) (by omega)) ⟨hX1704.pins, hb1711.reads, hq1712, hq1713⟩ ?_
 refine zQ (i := 9) (by kernel_rfl) (qC (i := 9) rfl rfl rfl (zI rfl _) (vX (E := eInt) (v := at2) (u := (.int .i64 (outs2.length : Int))) (z := (fr.getD i4 0)) ((outs2.length : Int)) sz3 rfl rfl rfl rfl hX1704.pins ho1705 (by omega) (by omega) (fun w1714 ho1715 hp1716 hg1717 hz1718 => ?_)))
 have hX1719 := hX1704.write hp1716 hg1717 ((yD ho1705))
 have ho1720 := ho1706.keptA hg1717 ha1686.symm
 have ho1721 := ho1707.keptA hg1717 ha1687.symm
 have ho1722 := ho1708.keptA hg1717 ha1688.symm
 have hb1723 := hb1709.keptA hg1717 ha1689.symm
 have hb1724 := hb1710.keptA hg1717 ha1690.symm
 have hb1725 := hb1711.keptA hg1717 ha1691.symm
 refine ⟨fun h => absurd rfl h, ?_⟩
 refine yP (by kernel_rfl) (zA (xD (S := fun wz => BxR wz b74 [ov2] ∧ Pins GL4 wz) (last := 9) (by kernel_rfl) rfl ?_))
 have hl1726 := bdr w1714
 have hp1727 := hX1719.pins.below hl1726
 have hX1728 := hX1719.step hp1727 hl1726
 have ho1729 := ho1715.below hl1726
 have ho1730 := ho1720.below hl1726
 have ho1731 := ho1721.below hl1726
 have ho1732 := ho1722.below hl1726
 have hb1733 := hb1723.below hl1726
 have hb1734 := hb1724.below hl1726
 have hb1735 := hb1725.below hl1726
 refine dT (i := 0) rfl rfl (by kernel_rfl) (fun _ _ => zR (k := 0) rfl eW rfl nz24 rfl) ⟨hb1735.reads, hX1728.pins⟩ ?_
 refine dT (i := 1) rfl rfl (by kernel_rfl) (fun _ hS => zS (u := ov2) ag24 rfl (hS.1 0 _ rfl)) ⟨hb1735.reads, hX1728.pins⟩ ?_
 refine dT (i := 2) rfl rfl (by kernel_rfl) (fun _ _ => zB (v := lv) rfl) ⟨hb1735.reads, hX1728.pins⟩ ?_
 refine dT (i := 3) rfl rfl (by kernel_rfl) (fun _ _ => zB (v := (.int .i64 (i4 : Int))) rfl) ⟨hb1735.reads, hX1728.pins⟩ ?_
 refine dT (i := 4) rfl rfl (by kernel_rfl) (fun _ _ => zN eV sz65 (v := lv) rfl rfl hr211 (by omega) (by omega)) ⟨hb1735.reads, hX1728.pins⟩ ?_
 obtain ⟨u1736, u1737, hr1738, hr1739, hl1740⟩ := jU (hr211.at (z := (i4 : Int)) (by omega) (by omega)) (j := i4) rfl
 have hm1741 := hr1738.max
 have hm1742 := hr1739.max
 refine dT (i := 5) rfl rfl (by kernel_rfl) (fun _ hS => hl1740 ag65 sz65 rfl (dO hS.2 hlek1675)) ⟨hb1735.reads, hX1728.pins⟩ ?_
 refine zQ (i := 6) (by kernel_rfl) (zU (i := 6) rfl rfl rfl (zI rfl _) (xJ (E := eNode) (e := 65) [u1736, u1737] (⟨(ls.getD i4 default).l, (ls.getD i4 default).r⟩ : Nd) eV sz65 zr65 ⟨_, _, rfl, (hr1738.mono hlek1675), (hr1739.mono hlek1675)⟩ rfl (by decide) hX1728.pins (fun u1743 w1744 ho1745 hp1746 hl1747 hk1748 => ?_)))
 have hX1749 := hX1728.step hp1746 hl1747
 have ho1750 := ho1729.below hl1747
 have ho1751 := ho1730.below hl1747
 have ho1752 := ho1731.below hl1747
 have ho1753 := ho1732.below hl1747
 have hb1754 := hb1733.below hl1747
 have hb1755 := hb1734.below hl1747
 have hb1756 := hb1735.below hl1747
 have ho1764 := ho1745.weaken hX1728.size
 refine ⟨fun _ => ⟨hb1756.reads, hX1749.pins⟩, ?_⟩
 refine zQ (i := 7) (by kernel_rfl) (zU (i := 7) rfl rfl rfl (zI rfl _) (zZ (E := eNode) (v := ov2) (u := u1743) 48 eV ap65 (by decide) rfl rfl hX1749.pins ho1751 ho1764.src (by first | omega | (rw [List.nil_append]; omega) | (rw [List.length_nil]; omega) | (rw [List.length_append]; omega) | (simp; done) | (simp; omega) | (simp only [List.length_append, List.length_cons, List.length_nil]; omega)) (by first | omega | (rw [List.nil_append]; omega) | (rw [List.length_nil]; omega) | (rw [List.length_append]; omega) | (simp; done) | (simp; omega) | (simp only [List.length_append, List.length_cons, List.length_nil]; omega)) (hX1749.size) (fun u1765 w1766 ho1767 hp1768 hg1769 hw1770 => ?_)))
 have hX1771 := hX1749.write hp1768 hg1769 ((yD ho1751))
 have ho1772 := ho1750.keptA hg1769 ha1686
 have ho1773 := ho1752.keptA hg1769 ha1692.symm
 have ho1774 := ho1753.keptA hg1769 ha1693.symm
 have hb1776 := hb1754.keptA hg1769 ha1694.symm
 have hb1777 := hb1755.keptA hg1769 ha1695.symm
 have hb1778 := hb1756.keptA hg1769 ha1696.symm
 have ha1779 : Apart at2.ownBlock u1765.ownBlock := zJ ha1686 hw1770 ho1750.lt
 have ha1780 : Apart bu.ownBlock u1765.ownBlock := zJ ha1692.symm hw1770 ho1752.lt
 have ha1781 : Apart bv.ownBlock u1765.ownBlock := zJ ha1693.symm hw1770 ho1753.lt
 have ha1783 : Apart (some b) u1765.ownBlock := zP ha1694.symm hw1770 hb1754.lt
 have ha1784 : Apart (some b1) u1765.ownBlock := zP ha1695.symm hw1770 hb1755.lt
 have ha1785 : Apart (some b74) u1765.ownBlock := zP ha1696.symm hw1770 hb1756.lt
 have hm1786 := la1 outs2 (⟨(ls.getD i4 default).l, (ls.getD i4 default).r⟩ : Nd)
 refine ⟨fun _ => ⟨hb1778.reads, hX1771.pins⟩, ?_⟩
 refine dT (i := 8) rfl rfl (by kernel_rfl) (fun _ _ => zR (k := 0) rfl eW rfl nz24 rfl) ⟨hb1778.reads, hX1771.pins⟩ ?_
 refine zQ (i := 9) (by kernel_rfl) (qC (i := 9) rfl rfl rfl (zI rfl _) (o_stp (cs' := [u1765]) (us := [u1765]) (v := u1765) sz24 rfl rfl (kT ho1767.one) (yM ho1767.one) hX1771.pins hb1778 (dQ rfl) rfl (fun w1787 hb1788 hp1789 hg1790 hz1791 => ?_)))
 have hX1792 := hX1771.write hp1789 hg1790 ((yC hlo93))
 have ho1793 := ho1772.keptA hg1790 ha1691
 have ho1794 := ho1773.keptA hg1790 ha87.symm
 have ho1795 := ho1774.keptA hg1790 ha88.symm
 have ho1796 := ho1767.keptA hg1790 ha1785.symm
 have hb1797 := hb1776.keptA hg1790 ha91.symm
 have hb1798 := hb1777.keptA hg1790 ha92.symm
 refine ⟨fun h => absurd rfl h, ?_⟩
 refine yP (by kernel_rfl) (yQ (zA (zH ?_)))
 refine qD rfl (zB (v := (.int .i64 (i4 : Int))) rfl) (qD rfl (yX rfl rfl (by omega)) (qD rfl (zD (v := (.int .i64 ((i4 : Int) + 1))) rfl) (qe (yS (⟨_, ?_, _, rfl, _, i4 + 1, at2, (ats2).set (fr.getD i4 0).toNat (outs2.length : Int), u1765, outs2 ++ ([(⟨(ls.getD i4 default).l, (ls.getD i4 default).r⟩ : Nd)]), GL4, (zC (x := 14) (zC (x := 10) (zC (x := 9) (zC (x := 8) (zC (x := 7) (zC (x := 6) (zC (x := 5) (zC (x := 4) (zC (x := 1) (zX (x := 0) rfl) rfl) rfl) rfl) rfl) rfl) rfl) rfl) rfl) rfl), rfl, hX1792, hlek1675, (by omega), (hrp.trans (place_next (by omega) (by omega))), ((List.length_set ..).trans hatl2), (by simp; omega), ho1793, ho1796, ho1794, ho1795, hb1797, hb1798, hb1788, ha1779, ha1687, ha1688, ha1689, ha1690, ha1691, ha1780.symm, ha1781.symm, ha1783.symm, ha1784.symm, ha1785.symm⟩)))))
 omega
 refine wp_exit (yI (yW (yV (yQ (zA (zH ?_))))))
 refine qD rfl (zB (v := (.int .i64 (q : Int))) rfl) (qD rfl (yX rfl rfl (by omega)) (qD rfl (zD (v := (.int .i64 ((q : Int) + 1))) rfl) (qe (yS (⟨_, ?_, _, rfl, _, q + 1, at2, ats2, ov2, outs2, GL4, (zC (x := 8) (zC (x := 7) (zC (x := 6) (zC (x := 5) (zC (x := 4) (zC (x := 1) (zX (x := 0) rfl) rfl) rfl) rfl) rfl) rfl) rfl), rfl, hX1678, (dN (dN (dN (dN hlek106 hle182) hle195) hlek175) hlek1675), (by omega), (form_step hr (by rw [show m.toNat + 1 = k5 by omega]; exact hrl) (hrp.trans (place_end (by omega)))), hatl2, (by omega), hw1679, hw1680, hw1681, hw1682, hw1683, hw1684, hw1685, ha1686, ha1687, ha1688, ha1689, ha1690, ha1691, ha1692, ha1693, ha1694, ha1695, ha1696⟩)))))
 omega
 refine wp_exit (yI (yW (yV (zA (zG (zH ?_))))))
 refine qD rfl (yJ (cs := [ov]) ag26 sz26 rfl (fun j u hj => hw116.cell (by simpa using hj))) (q0 rfl rfl rfl (o_stp (cs' := [ov]) (us := [ov]) (v := (.agg [ov].toArray)) sz26 rfl rfl rfl (yM hw111.one) hX109.pins hw115 (dQ rfl) rfl (fun w1799 hb1800 hp1801 hg1802 hz1803 => ?_)))
 have hX1804 := hX109.write hp1801 hg1802 ((yC hlo14))
 have ho1806 := hw111.keptA hg1802 ha126
 refine qe (zA ?_)
 refine wp_ret (zY (qT (cs := [ov]) rfl rfl rfl ag26 sz26 (fun j u hj => by rw [Nat.zero_add]; exact hb1800.cell hj) ?_))
 obtain ⟨G1811, hle1814, hX1813, hr1812, hf1815⟩ := ho1806.sealed hX1804
 have hfd := form_done hr (by omega)
 exact ⟨_, _, rfl, (by rw [hfd]; exact hr1812), hX1813, (by rw [hfd]; exact ⟨GL1, ho1806, hle1814⟩)⟩
theorem fR {w : World} {G : Pin} {b : Nat} {bu bv : Value} {ns : List Nd} {bs : List Int} (hP : Pins G w) (hB : Bk 65 3 G w b bu bv ns bs) (hok : BookOk ns bs) {m : Int} (hm : 0 ≤ m ∧ m < ns.length) :
  Calls Tryz.prog 79 [(.pointer (some ⟨b, 0, none⟩)), (.int .i64 m)].toArray w fun e w' => ∃ (u : Value) (G' : Pin), e = .returned (.agg [u].toArray) ∧ RSl eNode G' u (formM ns bs m.toNat) ∧ Ext noS G w G' w' :=
 (form_own hP hB hok hm).mono fun _ _ ⟨u, G', h1, h2, h3, _⟩ => ⟨u, G', h1, h2, h3⟩
theorem fG {w : World} {G : Pin} {v : Value} {ns : List Nd} (hP : Pins G w) (hv : RSl eNode G v ns) :
  Calls Tryz.prog 74 [(.agg [v].toArray)].toArray w fun e w' => ∃ G', e = .returned (.bool (decP (GoodS ns))) ∧ Ext noS G w G' w' := by
 refine yG (n := 46) Tryz.func74 Tryz.ntmps74 rfl rfl ?_
 have hX0 := exr noS hP
 have hm := hv.max
 refine zG (zH ?_)
 refine qI rfl (xW [v] (v := (.agg [v].toArray)) rfl rfl hX0.pins (fun b1 w2 hk3 hb4 hp5 hl6 => ?_))
 have hX7 := hX0.step hp5 hl6
 have hlo8 : w.heap.size ≤ b1 := by have := hX0.size; omega
 obtain ⟨G9, hle10, hX11, hbp12, hf13⟩ := hb4.shut hX7 hlo8
 refine qD rfl (zD (v := (.bool false)) rfl) (qe (zA (zG (zG (zH ?_)))))
 refine qD rfl (yJ (cs := [v]) ag26 sz26 rfl (fun j u hj => hX11.pins _ _ _ (hbp12 _ _ (by simpa using hj)))) (qI rfl (zM (vs := [(.agg [v].toArray)]) Tryz.func75 nm75 rfl rfl rfl ?_))
 refine dP (rM hX11.pins (hv.mono hle10)) ?_
 rintro _ w15 ⟨G14, rfl, hx16⟩
 refine ⟨_, rfl, ?_⟩
 have hX17 := hX11.tr hx16
 refine qD rfl (qR rfl) (qe (zA ?_))
 refine vN rfl rfl (fun h18 => ?_) (fun h18 => ?_)
 refine wp_skip (zA (zG (zG (zH ?_))))
 refine qD rfl (zD (v := (.int .i64 0)) rfl) (qe (zA ?_))
 refine yH ?_
 have hfit := decP_true.1 h18
 refine yZ (fun (k : Nat) (en : Nat → Value) (W : World) => ∃ (env1 : Nat → Value) (j : Nat) (GL1 : Pin), en = (upd (upd env1 1 (.pointer (some ⟨b1, 0, none⟩))) 3 (.int .i64 (j : Int))) ∧ k = ns.length - j ∧ Ext noS G w GL1 W ∧ Pin.le G14 GL1 ∧ (j ≤ ns.length) ∧ (∀ i, i < j → Rise (ns.getD i default).l 0 ((i : Int) - 1) ∧ Rise (ns.getD i default).r 0 ((i : Int) - 1))) _ ⟨_, 0, G14, (zC (x := 3) (zX (x := 1) rfl) rfl), rfl, hX17, Pin.le_refl _, Nat.zero_le _, (fun i hi => absurd hi (Nat.not_lt_zero i))⟩ ?_
 rintro k19 _ w20 ⟨env1, j, GL1, rfl, hk21, hX22, hlek19, hj, hp⟩
 refine zG (zG (zH ?_))
 refine qD rfl (zB (v := (.int .i64 (j : Int))) rfl) (qD rfl (zR (k := 0) rfl eW rfl nz24 rfl) (qD rfl (zS (u := v) ag24 rfl ((dO hX22.pins (dN hx16.le hlek19)) _ _ _ (hbp12 0 _ rfl))) (qD rfl (zT eV (v := v) rfl hv) (qD rfl (xB rfl rfl) (qe (zA ?_))))))
 refine yN (p := ((j : Int) : Int) < (ns.length : Int)) rfl rfl (fun h23 => ?_) (fun h23 => ?_)
 refine wp_skip (zA (zG ?_))
 refine yH (zG (zH ?_))
 refine qD rfl (zR (k := 0) rfl eW rfl nz24 rfl) (qD rfl (zS (u := v) ag24 rfl ((dO hX22.pins (dN hx16.le hlek19)) _ _ _ (hbp12 0 _ rfl))) (qD rfl (zB (v := (.int .i64 (j : Int))) rfl) (qD rfl (zN eV sz65 (v := v) rfl rfl hv (by omega) (by omega)) (qD rfl (xP (off := 0) eX rfl rfl nz59 (z := (j : Int)) (k := 0) rfl hv (by omega) (by omega)) ?_))))
 obtain ⟨u24, hr25, hl26⟩ := vZ (hv.at (z := (j : Int)) (by omega) (by omega)) (j := j) rfl
 have hm27 := hr25.max
 refine qD rfl (hl26 ag59 rfl (dO hX22.pins (dN (dN hle10 hx16.le) hlek19))) (qD rfl (zB (v := (.int .i64 (j : Int))) rfl) (qD rfl (jA rfl rfl (by omega)) (qI rfl (zM (vs := [u24, (.int .i64 0), (.int .i64 ((j : Int) - 1))]) Tryz.func122 nm122 rfl rfl rfl ?_))))
 refine dP (fW hX22.pins (hr25.mono (dN (dN hle10 hx16.le) hlek19))) ?_
 rintro _ w28 ⟨rfl, hx29⟩
 refine ⟨_, rfl, ?_⟩
 have hX30 := hX22.step hx29.pins hx29.below
 refine qD rfl (qR rfl) (qD rfl (zB (v := (.bool (!(decP (Rise ((ns.getD j default).l) 0 ((j : Int) - 1)))))) rfl) (qbn (t := 25) rfl (fun h31 => ?_) (fun h31 => ?_)))
 refine qdg rfl rfl rfl rfl rfl rfl (zR (k := 0) rfl eW rfl nz24 rfl) (qdg rfl rfl rfl rfl rfl rfl (zS (u := v) ag24 rfl ((dO hX30.pins (dN hx16.le hlek19)) _ _ _ (hbp12 0 _ rfl))) (qdg rfl rfl rfl rfl rfl rfl (zB (v := (.int .i64 (j : Int))) rfl) (qdg rfl rfl rfl rfl rfl rfl (zN eV sz65 (v := v) rfl rfl hv (by omega) (by omega)) (qdg rfl rfl rfl rfl rfl rfl (xP (off := 1) eX rfl rfl nz59 (z := (j : Int)) (k := 0) rfl hv (by omega) (by omega)) ?_))))
 obtain ⟨u32, hr33, hl34⟩ := kG (hv.at (z := (j : Int)) (by omega) (by omega)) (j := j) rfl
 have hm35 := hr33.max
 refine qdg rfl rfl rfl rfl rfl rfl (hl34 ag59 rfl (dO hX30.pins (dN (dN hle10 hx16.le) hlek19))) (qdg rfl rfl rfl rfl rfl rfl (zB (v := (.int .i64 (j : Int))) rfl) (qdg rfl rfl rfl rfl rfl rfl (jA rfl rfl (by omega)) (q1g rfl rfl rfl rfl rfl rfl (zM (vs := [u32, (.int .i64 0), (.int .i64 ((j : Int) - 1))]) Tryz.func122 nm122 rfl rfl rfl ?_))))
 refine dP (fW hX30.pins (hr33.mono (dN (dN hle10 hx16.le) hlek19))) ?_
 rintro _ w36 ⟨rfl, hx37⟩
 refine ⟨_, rfl, ?_⟩
 have hX38 := hX30.step hx37.pins hx37.below
 refine qdg rfl rfl rfl rfl rfl rfl (qR rfl) (qD rfl (xA (v := (.bool (!(decP (Rise ((ns.getD j default).r) 0 ((j : Int) - 1)))))) rfl rfl) (qe (zA ?_)))
 refine vN rfl rfl (fun h39 => ?_) (fun h39 => ?_)
 refine wp_skip (yQ (zA (zH ?_)))
 refine qD rfl (zB (v := (.int .i64 (j : Int))) rfl) (qD rfl (yX rfl rfl (by omega)) (qD rfl (zD (v := (.int .i64 ((j : Int) + 1))) rfl) (qe (yS (⟨_, ?_, _, rfl, _, j + 1, GL1, (zC (x := 3) (zX (x := 1) rfl) rfl), rfl, hX38, hlek19, (by omega), (fun k hk => if h3 : k = j then h3 ▸ ⟨decP_true.1 h31, decP_true.1 h39⟩ else hp k (by omega))⟩)))))
 omega
 refine zG (zH ?_)
 refine qD rfl (zD (v := (.bool false)) rfl) (qe (zA ?_))
 exact wp_ret (zY (zW (v := (.bool false)) rfl rfl rfl (⟨_, congrArg (fun z => Ending.returned (Value.bool z)) (decP_false.2 (fun g => by rw [decP_true.2 (g.rise j (by omega)).2] at h39; cases h39)).symm, hX38⟩)))
 refine qs rfl rfl rfl rfl rfl rfl (qs rfl rfl rfl rfl rfl rfl (qs rfl rfl rfl rfl rfl rfl (qs rfl rfl rfl rfl rfl rfl (qs rfl rfl rfl rfl rfl rfl (qs rfl rfl rfl rfl rfl rfl (qs rfl rfl rfl rfl rfl rfl (qs rfl rfl rfl rfl rfl rfl (qs rfl rfl rfl rfl rfl rfl (qs rfl rfl rfl rfl rfl rfl (qD rfl (xI (v := (.bool true)) rfl rfl) (qe (zA ?_))))))))))))
 refine kB rfl rfl (zG (zH ?_))
 refine qD rfl (zD (v := (.bool false)) rfl) (qe (zA ?_))
 exact wp_ret (zY (zW (v := (.bool false)) rfl rfl rfl (⟨_, congrArg (fun z => Ending.returned (Value.bool z)) (decP_false.2 (fun g => by rw [decP_true.2 (g.rise j (by omega)).1] at h31; cases h31)).symm, hX30⟩)))
 refine wp_exit (yI (yW (yV (zA (zG (zH ?_))))))
 have hrise : ∀ i, i < ns.length → Rise (ns.getD i default).l 0 ((i : Int) - 1) ∧ Rise (ns.getD i default).r 0 ((i : Int) - 1) := fun i hi => hp i (by omega)
 have hfok := kK hfit hrise
 have hlim := hfit.lim
 have hao := vS jC hfok (by simp; omega)
 refine qD rfl (xQ [(.slice none 0 0), (.slice none 0 0)] [(.slice none 0 0), (.slice none 0 0)] [] dC zr119 rfl pl119 rfl (fun _ h => by cases h) rfl) (qI rfl (xW [(.slice none 0 0), (.slice none 0 0)] (v := (.agg [(.slice none 0 0), (.slice none 0 0)].toArray)) rfl rfl hX22.pins (fun b40 w41 hk42 hb43 hp44 hl45 => ?_)))
 have hX46 := hX22.step hp44 hl45
 have hlo47 : w.heap.size ≤ b40 := by have := hX22.size; omega
 refine qD rfl (zD (v := (.pointer (some ⟨b40, 0, none⟩))) rfl) (qe (zA (zG ?_)))
 refine xD (S := fun wz => Pins GL1 wz) (last := 8) (by kernel_rfl) rfl ?_
 have hl48 := bdr w41
 have hp49 := hX46.pins.below hl48
 have hX50 := hX46.step hp49 hl48
 have hb51 := hb43.below hl48
 refine dT (i := 0) rfl rfl (by kernel_rfl) (fun _ _ => zB (v := (.pointer (some ⟨b40, 0, none⟩))) rfl) hX50.pins ?_
 refine dT (i := 1) rfl rfl (by kernel_rfl) (fun _ _ => zB (v := (.pointer (some ⟨b40, 0, none⟩))) rfl) hX50.pins ?_
 refine dT (i := 2) rfl rfl (by kernel_rfl) (fun _ hS => yJ (cs := [v]) ag26 sz26 rfl (fun j u hj => (dO hS (dN hx16.le hlek19)) _ _ _ (hbp12 _ _ (by simpa using hj)))) hX50.pins ?_
 refine dT (i := 5) rfl rfl (by kernel_rfl) (fun _ hS => yJ (cs := [v]) ag26 sz26 rfl (fun j u hj => (dO hS (dN hx16.le hlek19)) _ _ _ (hbp12 _ _ (by simpa using hj)))) hX50.pins ?_
 refine zQ (i := 3) (by kernel_rfl) (zU (i := 3) rfl rfl rfl (zI rfl _) (zM (vs := [(.pointer (some ⟨b40, 0, none⟩)), (.agg [v].toArray)]) Tryz.func124 nm124 rfl rfl rfl ?_))
 refine dP (jM hX50.pins ⟨hb51, (Own.nil _ _ _ _ _), (Own.nil _ _ _ _ _), apart_none.symm, apart_none.symm, apart_none⟩ jC (hv.mono (dN (dN hle10 hx16.le) hlek19)) ⟨hfok, hlim.1⟩ (by first | omega | (simp; omega))) ?_
 rintro _ w55 ⟨u52, v53, G54, rfl, hbk56, hx57, hlu58, hlv59⟩
 refine ⟨_, rfl, ?_⟩
 have hin62 : ∀ i, inS b40 (.slice none 0 0) (.slice none 0 0) i → w.heap.size ≤ i ∨ noS i := fH (yC hlo47) (fO _ _) (fO _ _)
 have hX63 := hX50.trans hx57 hin62
 have hb64 := hbk56.bx
 have ho65 := hbk56.ou
 have ho66 := hbk56.ov
 have ha67 := hbk56.abu
 have ha68 := hbk56.abv
 have ha69 := hbk56.auv
 have hlo70 := qP hlu58 hin62 hX50.size
 have hlo71 := qP hlv59 hin62 hX50.size
 refine ⟨fun _ => (dO hX63.pins hx57.le), ?_⟩
 refine zQ (i := 4) (by kernel_rfl) (zU (i := 4) rfl rfl rfl (zI rfl _) (zM (vs := [(.pointer (some ⟨b40, 0, none⟩)), (.int .i64 (rootM ([]) ([]) ns))]) Tryz.func79 nm79 rfl rfl rfl ?_))
 refine dP (fR hX63.pins ⟨hb64, ho65, ho66, ha67, ha68, ha69⟩ hao.book (sE hao hlim.1)) ?_
 rintro _ w74 ⟨u72, G73, rfl, hr75, hx76⟩
 refine ⟨_, rfl, ?_⟩
 have hX77 := hX63.tr hx76
 refine ⟨fun _ => (dO hX77.pins (dN hx57.le hx76.le)), ?_⟩
 refine zQ (i := 6) (by kernel_rfl) (zU (i := 6) rfl rfl rfl (zI rfl _) (zM (vs := [(.agg [u72].toArray), (.agg [v].toArray)]) Tryz.func123 nm123 rfl rfl rfl ?_))
 refine dP (l3Same_spec hX77.pins hr75 (hv.mono (dN (dN (dN (dN hle10 hx16.le) hlek19) hx57.le) hx76.le))) ?_
 rintro _ w82 ⟨G81, rfl, hx83⟩
 refine ⟨_, rfl, ?_⟩
 have hX84 := hX77.tr hx83
 refine ⟨fun _ => (dO hX84.pins (dN (dN hx57.le hx76.le) hx83.le)), ?_⟩
 refine dT (i := 7) rfl rfl (by kernel_rfl) (fun _ _ => zD (v := (.bool (decide ((formM ((addM ([]) ([]) ns).2.1) ((addM ([]) ([]) ns).2.2) (rootM ([]) ([]) ns).toNat) = ns)))) rfl) (dO hX84.pins (dN (dN hx57.le hx76.le) hx83.le)) ?_
 exact yP (by kernel_rfl) (zA (wp_ret (zY (zW (v := (.bool (decide ((formM ((addM ([]) ([]) ns).2.1) ((addM ([]) ([]) ns).2.2) (rootM ([]) ([]) ns).toNat) = ns)))) rfl rfl rfl (⟨_, congrArg (fun z => Ending.returned (Value.bool z)) (decP_dec.symm.trans (decP_iff ⟨fun h => ⟨hfit, hrise, h⟩, fun h => h.same⟩)), hX84⟩)))))
 refine zG (zH ?_)
 refine qD rfl (zD (v := (.bool false)) rfl) (qe (zA ?_))
 exact wp_ret (zY (zW (v := (.bool false)) rfl rfl rfl (⟨_, congrArg (fun z => Ending.returned (Value.bool z)) (decP_false.2 (fun g => by rw [decP_true.2 g.fits] at h18; cases h18)).symm, hX17⟩)))
end E1
end Go.Proofs.YtajkbplgbikgdaaGreatDoor
namespace Go.Proofs.YtajkbplgbikgdaaGreatDoor
namespace K1
open Go.RowKit Go.GL Go.Proofs
theorem isPow_spec {w : World} {G : Pin} (hP : Pins G w) :
  Calls Tryz.prog 244 [(.int .i64 36)].toArray w fun e w' => e = .returned (.bool false) ∧ w' = w := by
 refine yG (n := 8) Tryz.func244 Tryz.ntmps244 rfl rfl ?_
 have hX0 := exr noS hP
 refine zG (zH ?_)
 refine qD rfl (zD (v := (.bool false)) rfl) (qe (zA (zG (zH ?_))))
 refine qD rfl (zB (v := (.int .i64 36)) rfl) (qD rfl (zB (v := (.int .i64 36)) rfl) (qD rfl (jA rfl rfl (by omega)) (qD rfl (r_and rfl rfl) (qD rfl (kZ rfl rfl) (qD rfl (zD (v := (.bool (decide ((andW .i64 36 (36 - 1) : Int) = 0)))) rfl) (qe (zA ?_)))))))
 exact wp_ret (zY (zW (v := (.bool (decide ((andW .i64 36 (36 - 1) : Int) = 0)))) rfl rfl rfl (⟨congrArg (fun z => Ending.returned (Value.bool z)) not_pow36, rfl⟩)))
theorem rS {w : World} {G : Pin} {v : Value} {xs : List UInt8} {i : Int} (hP : Pins G w) (hv : Own eByte 5 G w 0 v xs) (hxl : xs.length ≤ 1099511627776) (hi : 0 ≤ i ∧ i ≤ 9223372036854775807) :
  Calls Tryz.prog 186 [v, (.int .u64 i), (.int .i64 36), (.bool false), (.bool true)].toArray w fun e w' => ∃ (u : Value) (G' : Pin), e = .returned (.tuple #[u, .string (⟨#[]⟩ : ByteArray)]) ∧ Own eByte 5 G' w' 0 u (xs ++ dig36 i.toNat) ∧ Lo w (inO v.ownBlock) u.ownBlock ∧ Ext (inO v.ownBlock) G w G' w' := by
 refine yG (n := 102) Tryz.func186 Tryz.ntmps186 rfl rfl ?_
 have hX0 := exr (inO v.ownBlock) hP
 have hlov : Lo w (inO v.ownBlock) v.ownBlock := xL
 refine zG (zH ?_)
 refine qD rfl (zD (v := (.slice none 0 0)) rfl) (qD rfl (zD (v := (.string (⟨#[]⟩ : ByteArray))) rfl) (qe (zA (zG (zG (zH ?_))))))
 refine qD rfl (zB (v := (.int .i64 36)) rfl) (qD rfl (xB rfl rfl) (qD rfl (zB (v := (.bool false)) rfl) (qdg rfl rfl rfl rfl rfl rfl (zB (v := (.int .i64 36)) rfl) (qdg rfl rfl rfl rfl rfl rfl (kZ rfl rfl) (qD rfl (xA (v := (.bool false)) rfl rfl) (qD rfl (zB (v := (.bool false)) rfl) (qdg rfl rfl rfl rfl rfl rfl (zB (v := (.int .i64 36)) rfl) (qdg rfl rfl rfl rfl rfl rfl (jY rfl rfl) (qD rfl (xA (v := (.bool false)) rfl rfl) (qe (zA ?_)))))))))))
 refine vE rfl rfl (wp_skip (zA (zG (zH ?_))))
 refine qI rfl (yO (arrV (List.replicate 65 0)) zr255 rfl hX0.pins (fun b1 w2 hk3 hb4 hp5 hl6 => ?_))
 have hX7 := hX0.step hp5 hl6
 have ho8 := hv.below hl6
 have ha9 : Apart (some b1) v.ownBlock := zK (congrArg some hk3) hv.lt
 have hlo10 : w.heap.size ≤ b1 := by have := hX0.size; omega
 refine qe (zA (zG (zH ?_)))
 refine qD rfl (zD (v := (.int .i64 65)) rfl) (qe (zA (zG (zG (zH ?_)))))
 refine qD rfl (zB (v := (.bool false)) rfl) (qe (zA ?_))
 refine vE rfl rfl (wp_skip (zA (zG (zG (zH ?_)))))
 refine qD rfl (zB (v := (.int .i64 36)) rfl) (qI rfl (zM (vs := [(.int .i64 36)]) Tryz.func244 nm244 rfl rfl rfl ?_))
 refine dP (isPow_spec hX7.pins ) ?_
 rintro _ _ ⟨rfl, rfl⟩
 refine ⟨_, rfl, ?_⟩
 refine qe (zA ?_)
 refine vE rfl rfl (zG (zH ?_))
 refine qD rfl (zB (v := (.int .i64 36)) rfl) (qD rfl (kO (j := 36) dB dJ rfl (rG (by omega))) (qD rfl (zD (v := (.int .u64 36)) rfl) (qe (zA (zG ?_)))))
 refine yH (yZ (fun (k : Nat) (en : Nat → Value) (W : World) => ∃ (env1 : Nat → Value) (uz : Int) (iz : Int) (L : List UInt8), en = (upd (upd (upd (upd (upd (upd (upd (upd (upd env1 0 v) 1 (.int .u64 uz)) 3 (.bool false)) 4 (.bool true)) 10 (.slice none 0 0)) 11 (.string (⟨#[]⟩ : ByteArray))) 12 (.pointer (some ⟨b1, 0, none⟩))) 13 (.int .i64 iz)) 17 (.int .u64 36)) ∧ k = uz.toNat ∧ Ext (inO v.ownBlock) G w G W ∧ (L.length = 65) ∧ (0 ≤ uz ∧ uz ≤ 9223372036854775807) ∧ (iz ≤ 65) ∧ (dig36 i.toNat = dig36 uz.toNat ++ L.drop iz.toNat) ∧ (Own eByte 5 G W 0 v (xs)) ∧ (Bx G W b1 (arrV (L)))) _ ⟨_, i, 65, List.replicate 65 0, (zC (x := 17) (zC (x := 13) (zC (x := 12) (zC (x := 11) (zC (x := 10) (zC (x := 4) (zC (x := 3) (zC (x := 1) (zX (x := 0) rfl) rfl) rfl) rfl) rfl) rfl) rfl) rfl) rfl), rfl, hX7, List.length_replicate, hi, (Int.le_refl _), (by simp), ho8, hb4⟩ ?_)
 rintro k11 _ w12 ⟨env1, uz, iz, L, rfl, hk13, hX14, hL, hu, hiz, hd, hw15, hw16⟩
 have hpl := dig_place hd hL (by omega)
 refine zG (zG (zH ?_))
 refine qD rfl (zB (v := (.int .u64 uz)) rfl) (qD rfl (zB (v := (.int .u64 36)) rfl) (qD rfl (gO rfl rfl) (qe (zA ?_))))
 refine yN (p := (36 : Int) ≤ uz) rfl rfl (fun h17 => ?_) (fun h17 => ?_)
 refine wp_skip (zA (yH (zG (zH ?_))))
 refine qD rfl (zB (v := (.int .i64 iz)) rfl) (qD rfl (jA rfl rfl (by omega)) (qD rfl (zD (v := (.int .i64 (iz - 1))) rfl) (qe (zA (zG (zH ?_))))))
 refine qD rfl (zB (v := (.int .u64 uz)) rfl) (qD rfl (zB (v := (.int .u64 36)) rfl) (qD rfl (r_quoX rfl rfl (by omega) (by omega) (by omega)) (qD rfl (zD (v := (.int .u64 (uz / 36))) rfl) (qe (zA (zG (zH ?_)))))))
 refine qD rfl (zB (v := (.int .i64 (iz - 1))) rfl) (qD rfl (zB (v := (.int .u64 uz)) rfl) (qD rfl (zB (v := (.int .u64 (uz / 36))) rfl) (qD rfl (zB (v := (.int .u64 36)) rfl) (qD rfl (r_mulX rfl rfl (by omega)) (qD rfl (r_subX rfl rfl (by omega)) (qD rfl (r_digit dK rfl rfl (by omega)) (qD rfl (r_idxb (k := (iz - 1).toNat) Tryz.underlying255 sz5 rfl rfl (by omega) (by omega) (by omega)) (q0 rfl rfl rfl (o_stpk (k := (iz - 1).toNat) (x0 := digC (uz - ((uz / 36) * 36)).toNat) sz5 rfl rfl (by first | omega | (simp only [List.length_set]; omega)) hX14.pins hw16 (fun w18 hb19 hp20 hg21 hz22 => ?_))))))))))
 have hX23 := hX14.write hp20 hg21 ((yC hlo10))
 have ho24 := hw15.keptA hg21 ha9.symm
 refine qe (zA (zH ?_))
 refine qD rfl (zB (v := (.int .u64 (uz / 36))) rfl) (qD rfl (zD (v := (.int .u64 (uz / 36))) rfl) (qe (yQ (yS (⟨_, ?_, _, rfl, _, uz / 36, iz - 1, L.set (iz - 1).toNat (digC (uz - ((uz / 36) * 36)).toNat), (zC (x := 17) (zC (x := 13) (zC (x := 12) (zC (x := 11) (zC (x := 10) (zC (x := 4) (zC (x := 3) (zC (x := 1) (zX (x := 0) rfl) rfl) rfl) rfl) rfl) rfl) rfl) rfl) rfl), rfl, hX23, (by rw [List.length_set]; exact hL), (by omega), (by omega), (dig_step hd hL (by omega) (by omega)), ho24, hb19⟩)))))
 omega
 refine wp_exit (yI (yW (yV (zA (zG (zH ?_))))))
 refine qD rfl (zB (v := (.int .i64 iz)) rfl) (qD rfl (jA rfl rfl (by omega)) (qD rfl (zD (v := (.int .i64 (iz - 1))) rfl) (qe (zA (zH ?_)))))
 refine qD rfl (zB (v := (.int .i64 (iz - 1))) rfl) (qD rfl (zB (v := (.int .u64 uz)) rfl) (qD rfl (r_digit dK rfl rfl (by omega)) (qD rfl (r_idxb (k := (iz - 1).toNat) Tryz.underlying255 sz5 rfl rfl (by omega) (by omega) (by omega)) (q0 rfl rfl rfl (o_stpk (k := (iz - 1).toNat) (x0 := digC (uz).toNat) sz5 rfl rfl (by first | omega | (simp only [List.length_set]; omega)) hX14.pins hw16 (fun w25 hb26 hp27 hg28 hz29 => ?_))))))
 have hX30 := hX14.write hp27 hg28 ((yC hlo10))
 have ho31 := hw15.keptA hg28 ha9.symm
 refine qe (zA (zG (zG (zH ?_))))
 refine qD rfl (zB (v := (.bool false)) rfl) (qe (zA ?_))
 refine vE rfl rfl (wp_skip (zA (zG (zG (zH ?_)))))
 refine qD rfl (zB (v := (.bool true)) rfl) (qe (zA ?_))
 refine kB rfl rfl (zG (zH ?_))
 refine qD rfl (zB (v := v) rfl) (qD rfl (zB (v := (.int .i64 (iz - 1))) rfl) ?_)
 obtain ⟨G32, hle33, hX34, hbp35, hf36⟩ := hb26.shut hX30 hlo10
 have ho37 := ho31.moreA hle33 hf36 ha9.symm
 obtain ⟨u38, hr39, hl40⟩ := name_arr (z := iz - 1) (n := 65) hbp35 (by rw [List.length_set]; exact hL) (by omega) (by decide)
 refine qD rfl (hl40 Tryz.underlying255 sz5 rfl rfl) (qI rfl (zZ (E := eByte) (v := v) (u := u38) 1 dA ap5 (by decide) rfl rfl hX34.pins ho37 ((hr39.mono (Pin.le_refl _)).src hX34.pins (by decide)) (by first | omega | (rw [List.nil_append]; omega) | (rw [List.length_nil]; omega) | (rw [List.length_append]; omega) | (simp; done) | (simp; omega) | (simp only [List.length_append, List.length_cons, List.length_nil]; omega)) (by first | omega | (rw [List.nil_append]; omega) | (rw [List.length_nil]; omega) | (rw [List.length_append]; omega) | (simp; done) | (simp; omega) | (simp only [List.length_append, List.length_cons, List.length_nil]; omega)) (Nat.zero_le _) (fun u41 w42 ho43 hp44 hg45 hw46 => ?_)))
 have hX47 := hX34.write hp44 hg45 (hlov)
 have hlo48 : Lo w (inO v.ownBlock) u41.ownBlock := tQ hlov hw46 hX34.size
 have hm49 := la2 xs ((L.set (iz - 1).toNat (digC (uz).toNat)).drop (iz - 1).toNat)
 refine qD rfl (zD (v := u41) rfl) (qe (zA ?_))
 refine wp_ret (zY (nN (v := u41) (u := (.string (⟨#[]⟩ : ByteArray))) rfl rfl rfl rfl rfl ?_))
 have hown := ho43
 rw [dig_last hd hL (by omega) (by omega)] at hown
 exact ⟨_, _, rfl, hown, hlo48, hX47⟩
theorem rV {w : World} {G : Pin} {v : Value} {xs : List UInt8} {i : Int} (hP : Pins G w) (hv : Own eByte 5 G w 0 v xs) (hxl : xs.length ≤ 1099511627776) (hi : 0 ≤ i ∧ i ≤ 9223372036854775807) :
  Calls Tryz.prog 241 [v, (.int .u64 i), (.int .i64 36)].toArray w fun e w' => ∃ (u : Value) (G' : Pin), e = .returned u ∧ Own eByte 5 G' w' 0 u (xs ++ dig36 i.toNat) ∧ Lo w (inO v.ownBlock) u.ownBlock ∧ Ext (inO v.ownBlock) G w G' w' := by
 refine yG (n := 36) Tryz.func241 Tryz.ntmps241 rfl rfl ?_
 have hX0 := exr (inO v.ownBlock) hP
 have hlov : Lo w (inO v.ownBlock) v.ownBlock := xL
 refine zG (zH ?_)
 refine qD rfl (zD (v := (.slice none 0 0)) rfl) (qe (zA (zG (zG (zH ?_)))))
 refine qD rfl (zB (v := (.int .i64 36)) rfl) (qD rfl (kZ rfl rfl) (qe (zA ?_)))
 refine vE rfl rfl (wp_skip (zA (zG (zH ?_))))
 refine qD rfl (zB (v := v) rfl) (qD rfl (zB (v := (.int .u64 i)) rfl) (qD rfl (zB (v := (.int .i64 36)) rfl) (qI rfl (zM (vs := [v, (.int .u64 i), (.int .i64 36), (.bool false), (.bool true)]) Tryz.func186 nm186 rfl rfl rfl ?_))))
 refine dP (rS (i := i) hX0.pins hv (by omega) (by omega)) ?_
 rintro _ w3 ⟨u1, G2, rfl, ho4, hlo5, hx6⟩
 refine ⟨_, rfl, ?_⟩
 have hX7 := hX0.trans hx6 (fun i hi => hlov i hi)
 have hlo8 := sS hlo5 hlov hX0.size
 have hm9 := la2 xs (dig36 (i).toNat)
 refine qD rfl (zB (v := (.tuple #[u1, (.string (⟨#[]⟩ : ByteArray))])) rfl) (qD rfl (yR (v := u1) rfl rfl) (qD rfl (yR (v := (.string (⟨#[]⟩ : ByteArray))) rfl rfl) (qD rfl (zD (v := u1) rfl) (qe (zA (zG (zH ?_)))))))
 refine qD rfl (zB (v := u1) rfl) (qD rfl (zD (v := u1) rfl) (qe (zA ?_)))
 exact wp_ret (zY (zW (v := u1) rfl rfl rfl (⟨_, _, rfl, ho4, hlo8, hX7⟩)))
theorem rR {w : World} {G : Pin} {v : Value} {xs : List UInt8} {i : Int} (hP : Pins G w) (hv : Own eByte 5 G w 0 v xs) (hxl : xs.length ≤ 1099511627776) (hi : 0 ≤ i ∧ i ≤ 9223372036854775807) :
  Calls Tryz.prog 181 [v, (.int .i64 i), (.int .i64 36)].toArray w fun e w' => ∃ (u : Value) (G' : Pin), e = .returned u ∧ Own eByte 5 G' w' 0 u (xs ++ dig36 i.toNat) ∧ Lo w (inO v.ownBlock) u.ownBlock ∧ Ext (inO v.ownBlock) G w G' w' := by
 refine yG (n := 21) Tryz.func181 Tryz.ntmps181 rfl rfl ?_
 have hX0 := exr (inO v.ownBlock) hP
 have hlov : Lo w (inO v.ownBlock) v.ownBlock := xL
 refine zG (zH ?_)
 refine qD rfl (zD (v := (.slice none 0 0)) rfl) (qe (zA (zG (zH ?_))))
 refine qD rfl (zB (v := (.int .i64 i)) rfl) (qD rfl (kO (j := i) Tryz.underlying2 dJ rfl (rG (by omega))) (qD rfl (zD (v := (.int .u64 i)) rfl) (qe (zA (zG (zG (zH ?_)))))))
 refine qD rfl (zB (v := (.int .i64 i)) rfl) (qD rfl (xB rfl rfl) (qe (zA ?_)))
 refine yN (p := (i : Int) < 0) rfl rfl (fun h1 => ?_) (fun h1 => ?_)
 exfalso; omega
 refine wp_skip (zA (zG (zH ?_)))
 refine qD rfl (zB (v := v) rfl) (qD rfl (zB (v := (.int .u64 i)) rfl) (qD rfl (zB (v := (.int .i64 36)) rfl) (qI rfl (zM (vs := [v, (.int .u64 i), (.int .i64 36)]) Tryz.func241 nm241 rfl rfl rfl ?_))))
 refine dP (rV (i := i) hX0.pins hv (by omega) (by omega)) ?_
 rintro _ w4 ⟨u2, G3, rfl, ho5, hlo6, hx7⟩
 refine ⟨_, rfl, ?_⟩
 have hX8 := hX0.trans hx7 (fun i hi => hlov i hi)
 have hlo9 := sS hlo6 hlov hX0.size
 have hm10 := la2 xs (dig36 (i).toNat)
 refine qD rfl (zD (v := u2) rfl) (qe (zA ?_))
 exact wp_ret (zY (zW (v := u2) rfl rfl rfl (⟨_, _, rfl, ho5, hlo9, hX8⟩)))
theorem fK {w : World} {G : Pin} {v : Value} {xs : List UInt8} {i : Int} (hP : Pins G w) (hv : Own eByte 5 G w 0 v xs) (hxl : xs.length ≤ 1099511627776) (hi : 0 ≤ i ∧ i ≤ 9223372036854775807) :
  Calls Tryz.prog 121 [v, (.int .i64 i), (.int .i64 36)].toArray w fun e w' => ∃ (u : Value) (G' : Pin), e = .returned u ∧ Own eByte 5 G' w' 0 u (xs ++ dig36 i.toNat) ∧ Lo w (inO v.ownBlock) u.ownBlock ∧ Ext (inO v.ownBlock) G w G' w' := by
 refine yG (n := 11) Tryz.func121 Tryz.ntmps121 rfl rfl ?_
 have hX0 := exr (inO v.ownBlock) hP
 have hlov : Lo w (inO v.ownBlock) v.ownBlock := xL
 refine zG (zH ?_)
 refine qD rfl (zD (v := (.slice none 0 0)) rfl) (qe (zA (zG (zH ?_))))
 refine qD rfl (zB (v := v) rfl) (qD rfl (zB (v := (.int .i64 i)) rfl) (qD rfl (zB (v := (.int .i64 36)) rfl) (qI rfl (zM (vs := [v, (.int .i64 i), (.int .i64 36)]) Tryz.func181 nm181 rfl rfl rfl ?_))))
 refine dP (rR (i := i) hX0.pins hv (by omega) (by omega)) ?_
 rintro _ w3 ⟨u1, G2, rfl, ho4, hlo5, hx6⟩
 refine ⟨_, rfl, ?_⟩
 have hX7 := hX0.trans hx6 (fun i hi => hlov i hi)
 have hlo8 := sS hlo5 hlov hX0.size
 have hm9 := la2 xs (dig36 (i).toNat)
 refine qD rfl (zD (v := u1) rfl) (qe (zA ?_))
 exact wp_ret (zY (zW (v := u1) rfl rfl rfl (⟨_, _, rfl, ho4, hlo8, hX7⟩)))
end K1
end Go.Proofs.YtajkbplgbikgdaaGreatDoor
namespace Go.Proofs.YtajkbplgbikgdaaGreatDoor
namespace PO1
open Go.RowKit Go.GL Go.Proofs
open B1 K1
theorem mk5 : (Tryz.prog.info? 5).map (fun i => (i.size, i.bytes, i.zero)) = some (1, 1, some (.int .u8 0)) := by kernel_rfl
theorem clone_spec {w : World} {G : Pin} {v : Value} {xs : List Int} (hP : Pins G w) (hv : RSl eInt G v xs) (hs : xs.length ≤ 1048576) :
  Calls Tryz.prog 179 [v].toArray w fun e w' => ∃ (u : Value) (G' : Pin), e = .returned u ∧ Own eInt 3 G' w' w.heap.size u xs ∧ Ext noS G w G' w' := by
 refine yG (n := 8) Tryz.func179 Tryz.ntmps179 rfl rfl ?_
 have hX0 := exr noS hP
 refine zG (zH ?_)
 refine qD rfl (zD (v := (.slice none 0 0)) rfl) (qe (zA (zG (zG (zH ?_)))))
 refine qD rfl (zB (v := v) rfl) (qD rfl (r_eqlNil eU hv rfl rfl) (qe (zA ?_)))
 refine c_if rfl rfl (fun h1 => ?_) (fun h1 => ?_)
 refine zG (zH ?_)
 refine qD rfl (zD (v := (.slice none 0 0)) rfl) (qe (zA ?_))
 refine wp_ret (zY (zW (v := (.slice none 0 0)) rfl rfl rfl ?_))
 have hx0 := nil_of hv h1
 subst hx0
 exact ⟨_, _, rfl, Own.nil _ _ _ _ _, hX0⟩
 refine wp_skip (zA (zG (zH ?_)))
 refine qI rfl (xG (E := eInt) (e := 3) eU sz3 hX0.pins (fun u2 w3 ho4 hp5 hl6 hk7 => ?_))
 have hX8 := hX0.step hp5 hl6
 have ho9 := ho4.weaken hX0.size
 refine qD rfl (zB (v := v) rfl) (qI rfl (zZ (E := eInt) (v := u2) (u := v) 8 eU ap3 (by decide) rfl rfl hX8.pins ho9 ((hv.mono (Pin.le_refl _)).src hX8.pins (by decide)) (by first | omega | (rw [List.nil_append]; omega) | (rw [List.length_nil]; omega) | (rw [List.length_append]; omega) | (simp; done) | (simp; omega) | (simp only [List.length_append, List.length_cons, List.length_nil]; omega)) (by first | omega | (rw [List.nil_append]; omega) | (rw [List.length_nil]; omega) | (rw [List.length_append]; omega) | (simp; done) | (simp; omega) | (simp only [List.length_append, List.length_cons, List.length_nil]; omega)) (hX8.size) (fun u10 w11 ho12 hp13 hg14 hw15 => ?_)))
 have hX16 := hX8.write hp13 hg14 ((yD ho9))
 have hm17 := la2 ([]) xs
 refine qD rfl (zD (v := u10) rfl) (qe (zA ?_))
 exact wp_ret (zY (zW (v := u10) rfl rfl rfl (⟨_, _, rfl, ho12, hX16⟩)))
theorem mI {w : World} {G : Pin} {e base : Nat} {v : Value} {xs : List Int} (hP : Pins G w) (hv : Own eInt e G w base v xs) (hl : xs.length ≤ 1073741824) :
  Calls Tryz.prog 177 [v].toArray w fun en w' => ∃ G', en = .returned (.tuple #[]) ∧ Own eInt e G' w' base v (sortM xs) ∧ Ext (inO v.ownBlock) G w G' w' := by
 rcases tN hv with ⟨rfl, rfl⟩ | ⟨g, cap, rfl⟩
 ·refine (Tryz.slices_Sort_int_none none 0 w).mono ?_
  rintro en w' ⟨rfl, rfl⟩
  exact ⟨G, rfl, by simpa [sortM] using hv, Ext.refl hP⟩
 ·obtain ⟨_, h1, h2, h3⟩ := tM hv
  refine (Tryz.slices_Sort_int g 0 cap xs w h3 h1 (by omega)).mono ?_
  rintro en w' ⟨rfl, m, os, hw⟩
  obtain ⟨a, b, c⟩ := sJ (ys := sortM xs) hv hP hw (vI xs) (List.take_length ..)
  rw [vI] at a
  exact ⟨G, rfl, a, Ext.one b c⟩
theorem nX {w : World} {G : Pin} {e base : Nat} {v : Value} {xs : List Int} (hP : Pins G w) (hv : Own eInt e G w base v xs) (hl : xs.length ≤ 1073741824) :
  Calls Tryz.prog 180 [v].toArray w fun en w' => ∃ (u : Value) (G' : Pin), en = .returned u ∧ Own eInt e G' w' base u (Go.Lib.compact xs) ∧ Lo w (inO v.ownBlock) u.ownBlock ∧ Ext (inO v.ownBlock) G w G' w' := by
 rcases tN hv with ⟨rfl, rfl⟩ | ⟨g, cap, rfl⟩
 ·refine (Tryz.slices_Compact_int_empty none 0 w).mono ?_
  rintro en w' ⟨rfl, rfl⟩
  exact ⟨_, G, rfl, hv, xL, Ext.refl hP⟩
 ·obtain ⟨_, h1, h2, h3⟩ := tM hv
  refine (Tryz.slices_Compact_int g 0 cap xs w h3 (by omega) h2).mono ?_
  rintro en w' ⟨rfl, m, hw⟩
  have hcl := compact_len xs
  obtain ⟨a, b, c⟩ := sJ (os := #[]) (ys := Go.Lib.compact xs) hv hP (hw.trans (Go.Sort.grow_empty _).symm) (by simp; omega) (List.take_left ..)
  exact ⟨_, G, rfl, a, xL, Ext.one b c⟩
theorem fY {w : World} {G : Pin} {v : Value} {xs : List Int} (hP : Pins G w) (hv : RSl eInt G v xs) (hs : xs.length ≤ 1048576) :
  Calls Tryz.prog 120 [v].toArray w fun e w' => ∃ (u : Value) (G' : Pin), e = .returned u ∧ Own eInt 3 G' w' w.heap.size u (sortL xs) ∧ Ext noS G w G' w' := by
 refine yG (n := 10) Tryz.func120 Tryz.ntmps120 rfl rfl ?_
 have hX0 := exr noS hP
 refine zG (zH ?_)
 refine qD rfl (zD (v := (.slice none 0 0)) rfl) (qe (zA (zG (zH ?_))))
 refine qD rfl (zB (v := v) rfl) (qI rfl (zM (vs := [v]) Tryz.func179 nm179 rfl rfl rfl ?_))
 refine dP (clone_spec hX0.pins hv (by omega)) ?_
 rintro _ w3 ⟨u1, G2, rfl, ho4, hx5⟩
 refine ⟨_, rfl, ?_⟩
 have hX6 := hX0.tr hx5
 have ho7 := ho4.weaken hX0.size
 refine qD rfl (zD (v := u1) rfl) (qe (zA (zG (zH ?_))))
 refine qD rfl (zB (v := u1) rfl) (qI rfl (zM (vs := [u1]) Tryz.func177 nm177 rfl rfl rfl ?_))
 refine dP (mI hX6.pins ho7 (by omega)) ?_
 rintro _ w9 ⟨G8, rfl, ho10, hx11⟩
 refine ⟨_, rfl, ?_⟩
 have hX12 := hX6.trans hx11 (fun i hi => (yD ho7) i hi)
 have hm13 := vI xs
 refine qe (zA (zG (zH ?_)))
 refine qD rfl (zB (v := u1) rfl) (qI rfl (zM (vs := [u1]) Tryz.func180 nm180 rfl rfl rfl ?_))
 refine dP (nX hX12.pins (ho10.weaken (Nat.zero_le _)) (by omega)) ?_
 rintro _ w16 ⟨u14, G15, rfl, ho17, hlo18, hx19⟩
 refine ⟨_, rfl, ?_⟩
 have hX20 := hX12.trans hx19 (fun i hi => (yD ho10) i hi)
 have ho21 := ho17.up (lo := w.heap.size) (fun k hk => (hlo18 k hk).elim (fun h => Nat.le_trans hX12.size h) (fun h => (ho10.lt k h).1))
 refine qD rfl (zD (v := u14) rfl) (qe (zA ?_))
 exact wp_ret (zY (zW (v := u14) rfl rfl rfl (⟨_, _, rfl, (by rw [← distinct_eq]; simpa using ho21), hX20⟩)))
theorem fN {w : World} {G : Pin} {p : Nat} {L R B : Value} {mm : PM} {q : PSt} (hP : Pins G w) (hpk : Pk 59 3 G w p L R B mm q) (hok : PoolOk q) {x y : Value} {xs ys : List Int} (hx : RSl eInt G x xs) (hy : RSl eInt G y ys) (hlim : q.ns.length + 1 ≤ 1048576) (hls : xs.length ≤ 1048576 ∧ ys.length ≤ 1048576) (hk1 : ∀ i, i < xs.length → 0 ≤ xs.getD i 0 ∧ xs.getD i 0 < q.ns.length) (hk2 : ∀ i, i < ys.length → 0 ≤ ys.getD i 0 ∧ ys.getD i 0 < q.ns.length) :
  Calls Tryz.prog 72 [(.pointer (some ⟨p, 0, none⟩)), x, y].toArray w fun e w' => ∃ (z : Int) (L' R' B' : Value) (q' : PSt) (G' : Pin), e = .returned (.int .i64 z) ∧ Pk 59 3 G' w' p L' R' B' mm q' ∧ PoolOk q' ∧ PX q q' ∧ PLo w p L R B mm L' R' B' ∧ Ext (inP p L R B mm) G w G' w' ∧ PlaceOk q' z ∧ pd q' z = mkG (xs.map (pd q)) (ys.map (pd q)) ∧ q'.ns.length ≤ q.ns.length + 1 ∧ (q'.cm = q.cm ∧ (q'.ns.length = q.ns.length ∨ z = q.ns.length)) := by
 refine yG (n := 130) Tryz.func72 Tryz.ntmps72 rfl rfl ?_
 have hX0 := exr (inP p L R B mm) hP
 have hpin : PIn w (inP p L R B mm) p L R B mm := PIn.self
 have hml1 := pkl q
 have hml2 := pkb hok
 obtain ⟨xs2, hxs2⟩ : ∃ l, l = sortL xs := ⟨_, rfl⟩
 obtain ⟨ys2, hys2⟩ : ∃ l, l = sortL ys := ⟨_, rfl⟩
 have hb1 := rI hk1
 have hb2 := rI hk2
 rw [← hxs2] at hb1
 rw [← hys2] at hb2
 have hsl1 : xs2.length ≤ 1048576 := by rw [hxs2]; exact Nat.le_trans jD hls.1
 have hsl2 : ys2.length ≤ 1048576 := by rw [hys2]; exact Nat.le_trans jD hls.2
 refine zG (zH ?_)
 refine qD rfl (zD (v := (.int .i64 0)) rfl) (qe (zA (zG (zH ?_))))
 refine qD rfl (zB (v := x) rfl) (qI rfl (zM (vs := [x]) Tryz.func120 nm120 rfl rfl rfl ?_))
 refine dP (fY hX0.pins hx (by omega)) ?_
 rintro _ w5 ⟨u3, G4, rfl, ho6, hx7⟩
 refine ⟨_, rfl, ?_⟩
 rw [← hxs2] at ho6
 have hX8 := hX0.tr hx7
 have hpk9 := hpk.ext hx7
 have hnp10 := hpk.new (x := u3.ownBlock) (fun k hk => (ho6.lt k hk).1)
 have ho11 := ho6.weaken hX0.size
 refine qD rfl (zB (v := y) rfl) (qI rfl (zM (vs := [y]) Tryz.func120 nm120 rfl rfl rfl ?_))
 refine dP (fY hX8.pins (hy.mono hx7.le) (by omega)) ?_
 rintro _ w14 ⟨u12, G13, rfl, ho15, hx16⟩
 refine ⟨_, rfl, ?_⟩
 rw [← hys2] at ho15
 have hX17 := hX8.tr hx16
 have ho18 := ho11.ext hx16
 have hpk19 := hpk9.ext hx16
 have ha20 : Apart u12.ownBlock u3.ownBlock := zV ho15.lt ho11.lt
 have hnp21 := hpk9.new (x := u12.ownBlock) (fun k hk => (ho15.lt k hk).1)
 have ho22 := ho15.weaken hX8.size
 refine qD rfl (zD (v := u3) rfl) (qD rfl (zD (v := u12) rfl) (qe (zA (zG (zH ?_)))))
 refine qD rfl (zB (v := u3) rfl) (qD rfl (zT eU (v := u3) rfl ho18.read) (qD rfl (zB (v := u12) rfl) (qD rfl (zT eU (v := u12) rfl ho22.read) (qD rfl (yX rfl rfl (by omega)) (qD rfl (r_mul rfl rfl (by omega)) (qD rfl (yX rfl rfl (by omega)) (qI rfl (sL (E := eByte) dA mk5 rfl rfl hX17.pins (by omega) (by omega) (by omega) (fun u23 w24 ho25 hp26 hl27 hk28 => ?_)))))))))
 have hX29 := hX17.step hp26 hl27
 have ho30 := ho18.below hl27
 have ho31 := ho22.below hl27
 have hpk32 := hpk19.below hl27 hp26
 have ha33 : Apart u23.ownBlock u3.ownBlock := zK hk28 ho18.lt
 have ha37 : Apart u23.ownBlock u12.ownBlock := zK hk28 ho22.lt
 have ha39 := hpk19.new (x := u23.ownBlock) (fun k hk => by rw [hk28] at hk; cases hk; exact Nat.le_refl _)
 have ho40 := ho25.weaken hX17.size
 refine qD rfl (zD (v := u23) rfl) (qe (zA (zG (zH ?_))))
 refine qD rfl (zD (v := (.int .i64 0)) rfl) (qe (zA (zG (zG (zH ?_)))))
 refine qD rfl (zB (v := u3) rfl) (qD rfl (zT eU (v := u3) rfl ho30.read) (qD rfl (zB (v := (.int .i64 0)) rfl) (qe (zA ?_))))
 refine yH (yZ (fun (k : Nat) (en : Nat → Value) (W : World) => ∃ (env1 : Nat → Value) (i : Nat) (kva : Value) (kxa : List UInt8) (bn : Int) (GLa : Pin), en = (upd (upd (upd (upd (upd (upd (upd (upd (upd env1 0 (.pointer (some ⟨p, 0, none⟩))) 1 u3) 2 u12) 6 (.int .i64 0)) 7 kva) 8 (.int .i64 bn)) 28 u3) 29 (.int .i64 (xs2.length : Int))) 30 (.int .i64 (i : Int))) ∧ k = xs2.length - i ∧ Ext (inP p L R B mm) G w GLa W ∧ Pin.le G13 GLa ∧ (i ≤ xs2.length) ∧ (kxa = keyL (xs2.take i)) ∧ (bn = bornOf q.bs (xs2.take i) 0) ∧ (0 ≤ bn ∧ bn ≤ q.ns.length) ∧ (Own eByte 5 GLa W w.heap.size kva (kxa)) ∧ (Own eInt 3 GLa W w.heap.size u3 (xs2)) ∧ (Own eInt 3 GLa W w.heap.size u12 (ys2)) ∧ (Apart kva.ownBlock u3.ownBlock) ∧ (Apart kva.ownBlock u12.ownBlock) ∧ (Pk 59 3 GLa W p L R B mm q) ∧ (NP p L R B mm kva.ownBlock)) _ ⟨_, 0, u23, [], 0, G13, (zC (x := 30) (zC (x := 29) (zC (x := 28) (zC (x := 8) (zC (x := 7) (zC (x := 6) (zC (x := 2) (zC (x := 1) (zX (x := 0) rfl) rfl) rfl) rfl) rfl) rfl) rfl) rfl) rfl), rfl, hX29, Pin.le_refl _, Nat.zero_le _, (by simp [keyL]), rfl, (by omega), ho40, ho30, ho31, ha33, ha37, hpk32, ha39⟩ ?_)
 rintro k45 _ w46 ⟨env1, i, kva, kxa, bn, GLa, rfl, hk47, hX48, hlek45, hji, hka, hbbn, hlbn, hw49, hw50, hw51, ha52, ha53, hpk54, hnp55⟩
 have hkla : kxa.length ≤ 117440640 := by
  have := tT (j := i) hb1 hok.ar.ok.lim
  rw [hka]; omega
 refine zG (zH ?_)
 refine qD rfl (xB rfl rfl) (qe (zA (zG ?_)))
 refine yN (p := ((i : Int) : Int) < (xs2.length : Int)) rfl rfl (fun h56 => ?_) (fun h56 => ?_)
 have hki := hb1 i (by omega)
 have hbk := hok.ar.ok.born (xs2.getD i 0).toNat (by omega)
 have hd13 := dig13 (n := (xs2.getD i 0).toNat) (by omega)
 refine wp_skip (zA (zG ?_))
 refine yH (zG (zH ?_))
 refine qD rfl (zN eU sz3 (v := u3) rfl rfl hw50.read (by omega) (by omega)) (qD rfl (zO (r := xs2.getD i 0) rfl ag3 (z := (i : Int)) rfl hw50.read (Gadd.pins hX48.pins u3) (by omega) (by omega)) (qD rfl (zD (v := (.int .i64 (xs2.getD i 0))) rfl) (qe (zA (zG (zH ?_))))))
 refine qD rfl (zB (v := kva) rfl) (qD rfl (zB (v := (.int .i64 (xs2.getD i 0))) rfl) (qI rfl (zM (vs := [kva, (.int .i64 (xs2.getD i 0)), (.int .i64 36)]) Tryz.func121 nm121 rfl rfl rfl ?_)))
 refine dP (fK (i := xs2.getD i 0) hX48.pins (hw49.weaken (Nat.zero_le _)) (by omega) (by omega)) ?_
 rintro _ w59 ⟨u57, G58, rfl, ho60, hlo61, hx62⟩
 refine ⟨_, rfl, ?_⟩
 have hnp63 := np_turn hnp55 hpk54 hlo61
 have hX64 := hX48.trans hx62 (fun i hi => (yD hw49) i hi)
 have ho65 := hw50.extS hx62 (notO ha52.symm)
 have ho66 := hw51.extS hx62 (notO ha53.symm)
 have hpk67 := hpk54.extS hx62 (fun k hk hx => hnp55 k hx hk)
 have ha68 : Apart u3.ownBlock u57.ownBlock := mA hlo61 ha52.symm (qX hw50)
 have ha69 : Apart u12.ownBlock u57.ownBlock := mA hlo61 ha53.symm (qX hw51)
 have ho70 := ho60.up (lo := w.heap.size) (fun k hk => (hlo61 k hk).elim (fun h => Nat.le_trans hX48.size h) (fun h => (hw49.lt k h).1))
 have hm71 := la2 kxa (dig36 (xs2.getD i 0).toNat)
 refine qI rfl (yY (E := eByte) (e := 5) [(.int .u8 44)] [44] dA sz5 zr5 (by exact xT (by rfl)) (yM (by rfl)) rfl rfl rfl rfl (by decide) hX64.pins (fun u72 w73 ho74 hp75 hl76 hk77 => ?_))
 have hX78 := hX64.step hp75 hl76
 have ho79 := ho65.below hl76
 have ho80 := ho66.below hl76
 have ho81 := ho70.below hl76
 have hpk82 := hpk67.below hl76 hp75
 have ho91 := ho74.weaken hX64.size
 refine qI rfl (zZ (E := eByte) (v := u57) (u := u72) 1 dA ap5 (by decide) rfl rfl hX78.pins ho81 ho91.src (by first | omega | (rw [List.nil_append]; omega) | (rw [List.length_nil]; omega) | (rw [List.length_append]; omega) | (simp; done) | (simp; omega) | (simp only [List.length_append, List.length_cons, List.length_nil]; omega)) (by first | omega | (rw [List.nil_append]; omega) | (rw [List.length_nil]; omega) | (rw [List.length_append]; omega) | (simp; done) | (simp; omega) | (simp only [List.length_append, List.length_cons, List.length_nil]; omega)) (hX78.size) (fun u92 w93 ho94 hp95 hg96 hw97 => ?_))
 have hX98 := hX78.write hp95 hg96 ((yD ho81))
 have ho99 := ho79.keptA hg96 ha68
 have ho100 := ho80.keptA hg96 ha69
 have hpk102 := hpk82.kept hg96 hp95 hnp63
 have ha103 : Apart u3.ownBlock u92.ownBlock := zJ ha68 hw97 ho79.lt
 have ha104 : Apart u12.ownBlock u92.ownBlock := zJ ha69 hw97 ho80.lt
 have hnp106 := qQ hnp63 hpk82 hw97
 have hm107 := la1 (kxa ++ dig36 (xs2.getD i 0).toNat) 44
 refine qD rfl (zD (v := u92) rfl) (qe (zA (zH ?_)))
 refine qD rfl (zB (v := (.int .i64 bn)) rfl) (qD rfl (zB (v := (.pointer (some ⟨p, 0, none⟩))) rfl) (qD rfl (xC rfl) (qD rfl (zR (k := 2) rfl eY rfl nz59 rfl) (qD rfl (zS (u := B) ag59 rfl (hpk102.bx.cell (o := 2) rfl)) (qD rfl (zB (v := (.int .i64 (xs2.getD i 0))) rfl) (qD rfl (zN eU sz3 (v := B) rfl rfl hpk102.ob.read (by omega) (by omega)) (qD rfl (zO (r := q.bs.getD (xs2.getD i 0).toNat 0) rfl ag3 (z := (xs2.getD i 0)) rfl hpk102.ob.read (Gadd.pins hX98.pins B) (by omega) (by omega)) (qD rfl (yX rfl rfl (by omega)) (qD rfl (r_max rfl rfl) (qD rfl (zD (v := (.int .i64 (max bn ((q.bs.getD (xs2.getD i 0).toNat 0) + 1)))) rfl) (qe (yQ (zA (zH ?_))))))))))))))
 refine qD rfl (yX rfl rfl (by omega)) (qD rfl (zB (v := (.int .i64 ((i : Int) + 1))) rfl) (qe (yS (⟨_, ?_, _, rfl, _, i + 1, u92, (kxa ++ dig36 (xs2.getD i 0).toNat) ++ ([44]), max bn ((q.bs.getD (xs2.getD i 0).toNat 0) + 1), G58, (zC (x := 30) (zC (x := 29) (zC (x := 28) (zC (x := 8) (zC (x := 7) (zC (x := 6) (zC (x := 2) (zC (x := 1) (zX (x := 0) rfl) rfl) rfl) rfl) rfl) rfl) rfl) rfl) rfl), rfl, hX98, (dN hlek45 hx62.le), (by omega), (by rw [key_next (by omega), hka]), (by rw [hbbn, fT (by omega)]), (by omega), ho94, ho99, ho100, ha103.symm, ha104.symm, hpk102, hnp106⟩))))
 omega
 refine wp_exit (yI (yW (yV (zA (zG (zH ?_))))))
 refine qD rfl (zB (v := kva) rfl) (qI rfl (yY (E := eByte) (e := 5) [(.int .u8 124)] [124] dA sz5 zr5 (by exact xT (by rfl)) (yM (by rfl)) rfl rfl rfl rfl (by decide) hX48.pins (fun u108 w109 ho110 hp111 hl112 hk113 => ?_)))
 have hX114 := hX48.step hp111 hl112
 have ho115 := hw49.below hl112
 have ho116 := hw50.below hl112
 have ho117 := hw51.below hl112
 have hpk118 := hpk54.below hl112 hp111
 have ho127 := ho110.weaken hX48.size
 refine qI rfl (zZ (E := eByte) (v := kva) (u := u108) 1 dA ap5 (by decide) rfl rfl hX114.pins ho115 ho127.src (by first | omega | (rw [List.nil_append]; omega) | (rw [List.length_nil]; omega) | (rw [List.length_append]; omega) | (simp; done) | (simp; omega) | (simp only [List.length_append, List.length_cons, List.length_nil]; omega)) (by first | omega | (rw [List.nil_append]; omega) | (rw [List.length_nil]; omega) | (rw [List.length_append]; omega) | (simp; done) | (simp; omega) | (simp only [List.length_append, List.length_cons, List.length_nil]; omega)) (hX114.size) (fun u128 w129 ho130 hp131 hg132 hw133 => ?_))
 have hX134 := hX114.write hp131 hg132 ((yD ho115))
 have ho135 := ho116.keptA hg132 ha52.symm
 have ho136 := ho117.keptA hg132 ha53.symm
 have hpk138 := hpk118.kept hg132 hp131 hnp55
 have ha139 : Apart u3.ownBlock u128.ownBlock := zJ ha52.symm hw133 ho116.lt
 have ha140 : Apart u12.ownBlock u128.ownBlock := zJ ha53.symm hw133 ho117.lt
 have hnp142 := qQ hnp55 hpk118 hw133
 have hm143 := la1 kxa 124
 refine qD rfl (zD (v := u128) rfl) (qe (zA (zG (zG (zH ?_)))))
 rw [jI (by omega)] at hka hbbn
 have hkk : keyL xs2 ++ [124] = kxa ++ [124] := by rw [hka]
 refine qD rfl (zB (v := u12) rfl) (qD rfl (zT eU (v := u12) rfl ho136.read) (qD rfl (zB (v := (.int .i64 0)) rfl) (qe (zA ?_))))
 refine yH (yZ (fun (k : Nat) (en : Nat → Value) (W : World) => ∃ (env1 : Nat → Value) (i2 : Nat) (kvb : Value) (kxb : List UInt8) (bm : Int) (GLb : Pin), en = (upd (upd (upd (upd (upd (upd (upd (upd (upd env1 0 (.pointer (some ⟨p, 0, none⟩))) 1 u3) 2 u12) 6 (.int .i64 0)) 7 kvb) 8 (.int .i64 bm)) 53 u12) 54 (.int .i64 (ys2.length : Int))) 55 (.int .i64 (i2 : Int))) ∧ k = ys2.length - i2 ∧ Ext (inP p L R B mm) G w GLb W ∧ Pin.le GLa GLb ∧ (i2 ≤ ys2.length) ∧ (kxb = keyL xs2 ++ [124] ++ keyL (ys2.take i2)) ∧ (bm = bornOf q.bs (ys2.take i2) bn) ∧ (0 ≤ bm ∧ bm ≤ q.ns.length) ∧ (Own eByte 5 GLb W w.heap.size kvb (kxb)) ∧ (Own eInt 3 GLb W w.heap.size u3 (xs2)) ∧ (Own eInt 3 GLb W w.heap.size u12 (ys2)) ∧ (Apart kvb.ownBlock u3.ownBlock) ∧ (Apart kvb.ownBlock u12.ownBlock) ∧ (Pk 59 3 GLb W p L R B mm q) ∧ (NP p L R B mm kvb.ownBlock)) _ ⟨_, 0, u128, kxa ++ ([124]), bn, GLa, (zC (x := 55) (zC (x := 54) (zC (x := 53) (zC (x := 8) (zC (x := 7) (zC (x := 6) (zC (x := 2) (zC (x := 1) (zX (x := 0) rfl) rfl) rfl) rfl) rfl) rfl) rfl) rfl) rfl), rfl, hX134, Pin.le_refl _, Nat.zero_le _, (by rw [← hkk]; simp [keyL]), rfl, (by omega), ho130, ho135, ho136, ha139.symm, ha140.symm, hpk138, hnp142⟩ ?_)
 rintro k148 _ w149 ⟨env1, i2, kvb, kxb, bm, GLb, rfl, hk150, hX151, hlek148, hji2, hkb, hbbm, hlbm, hw152, hw153, hw154, ha155, ha156, hpk157, hnp158⟩
 have hklb : kxb.length ≤ 117440640 := by
  have := tT (j := i2) hb2 hok.ar.ok.lim
  have h2 := tT (j := xs2.length) hb1 hok.ar.ok.lim; rw [hkb, List.length_append, List.length_append]; simp only [List.length_cons, List.length_nil]; rw [jI (Nat.le_refl _)] at h2; omega
 refine zG (zH ?_)
 refine qD rfl (xB rfl rfl) (qe (zA (zG ?_)))
 refine yN (p := ((i2 : Int) : Int) < (ys2.length : Int)) rfl rfl (fun h159 => ?_) (fun h159 => ?_)
 have hki := hb2 i2 (by omega)
 have hbk := hok.ar.ok.born (ys2.getD i2 0).toNat (by omega)
 have hd13 := dig13 (n := (ys2.getD i2 0).toNat) (by omega)
 refine wp_skip (zA (zG ?_))
 refine yH (zG (zH ?_))
 refine qD rfl (zN eU sz3 (v := u12) rfl rfl hw154.read (by omega) (by omega)) (qD rfl (zO (r := ys2.getD i2 0) rfl ag3 (z := (i2 : Int)) rfl hw154.read (Gadd.pins hX151.pins u12) (by omega) (by omega)) (qD rfl (zD (v := (.int .i64 (ys2.getD i2 0))) rfl) (qe (zA (zG (zH ?_))))))
 refine qD rfl (zB (v := kvb) rfl) (qD rfl (zB (v := (.int .i64 (ys2.getD i2 0))) rfl) (qI rfl (zM (vs := [kvb, (.int .i64 (ys2.getD i2 0)), (.int .i64 36)]) Tryz.func121 nm121 rfl rfl rfl ?_)))
 refine dP (fK (i := ys2.getD i2 0) hX151.pins (hw152.weaken (Nat.zero_le _)) (by omega) (by omega)) ?_
 rintro _ w162 ⟨u160, G161, rfl, ho163, hlo164, hx165⟩
 refine ⟨_, rfl, ?_⟩
 have hnp166 := np_turn hnp158 hpk157 hlo164
 have hX167 := hX151.trans hx165 (fun i hi => (yD hw152) i hi)
 have ho168 := hw153.extS hx165 (notO ha155.symm)
 have ho169 := hw154.extS hx165 (notO ha156.symm)
 have hpk170 := hpk157.extS hx165 (fun k hk hx => hnp158 k hx hk)
 have ha171 : Apart u3.ownBlock u160.ownBlock := mA hlo164 ha155.symm (qX hw153)
 have ha172 : Apart u12.ownBlock u160.ownBlock := mA hlo164 ha156.symm (qX hw154)
 have ho173 := ho163.up (lo := w.heap.size) (fun k hk => (hlo164 k hk).elim (fun h => Nat.le_trans hX151.size h) (fun h => (hw152.lt k h).1))
 have hm174 := la2 kxb (dig36 (ys2.getD i2 0).toNat)
 refine qI rfl (yY (E := eByte) (e := 5) [(.int .u8 44)] [44] dA sz5 zr5 (by exact xT (by rfl)) (yM (by rfl)) rfl rfl rfl rfl (by decide) hX167.pins (fun u175 w176 ho177 hp178 hl179 hk180 => ?_))
 have hX181 := hX167.step hp178 hl179
 have ho182 := ho168.below hl179
 have ho183 := ho169.below hl179
 have ho184 := ho173.below hl179
 have hpk185 := hpk170.below hl179 hp178
 have ho194 := ho177.weaken hX167.size
 refine qI rfl (zZ (E := eByte) (v := u160) (u := u175) 1 dA ap5 (by decide) rfl rfl hX181.pins ho184 ho194.src (by first | omega | (rw [List.nil_append]; omega) | (rw [List.length_nil]; omega) | (rw [List.length_append]; omega) | (simp; done) | (simp; omega) | (simp only [List.length_append, List.length_cons, List.length_nil]; omega)) (by first | omega | (rw [List.nil_append]; omega) | (rw [List.length_nil]; omega) | (rw [List.length_append]; omega) | (simp; done) | (simp; omega) | (simp only [List.length_append, List.length_cons, List.length_nil]; omega)) (hX181.size) (fun u195 w196 ho197 hp198 hg199 hw200 => ?_))
 have hX201 := hX181.write hp198 hg199 ((yD ho184))
 have ho202 := ho182.keptA hg199 ha171
 have ho203 := ho183.keptA hg199 ha172
 have hpk205 := hpk185.kept hg199 hp198 hnp166
 have ha206 : Apart u3.ownBlock u195.ownBlock := zJ ha171 hw200 ho182.lt
 have ha207 : Apart u12.ownBlock u195.ownBlock := zJ ha172 hw200 ho183.lt
 have hnp209 := qQ hnp166 hpk185 hw200
 have hm210 := la1 (kxb ++ dig36 (ys2.getD i2 0).toNat) 44
 refine qD rfl (zD (v := u195) rfl) (qe (zA (zH ?_)))
 refine qD rfl (zB (v := (.int .i64 bm)) rfl) (qD rfl (zB (v := (.pointer (some ⟨p, 0, none⟩))) rfl) (qD rfl (xC rfl) (qD rfl (zR (k := 2) rfl eY rfl nz59 rfl) (qD rfl (zS (u := B) ag59 rfl (hpk205.bx.cell (o := 2) rfl)) (qD rfl (zB (v := (.int .i64 (ys2.getD i2 0))) rfl) (qD rfl (zN eU sz3 (v := B) rfl rfl hpk205.ob.read (by omega) (by omega)) (qD rfl (zO (r := q.bs.getD (ys2.getD i2 0).toNat 0) rfl ag3 (z := (ys2.getD i2 0)) rfl hpk205.ob.read (Gadd.pins hX201.pins B) (by omega) (by omega)) (qD rfl (yX rfl rfl (by omega)) (qD rfl (r_max rfl rfl) (qD rfl (zD (v := (.int .i64 (max bm ((q.bs.getD (ys2.getD i2 0).toNat 0) + 1)))) rfl) (qe (yQ (zA (zH ?_))))))))))))))
 refine qD rfl (yX rfl rfl (by omega)) (qD rfl (zB (v := (.int .i64 ((i2 : Int) + 1))) rfl) (qe (yS (⟨_, ?_, _, rfl, _, i2 + 1, u195, (kxb ++ dig36 (ys2.getD i2 0).toNat) ++ ([44]), max bm ((q.bs.getD (ys2.getD i2 0).toNat 0) + 1), G161, (zC (x := 55) (zC (x := 54) (zC (x := 53) (zC (x := 8) (zC (x := 7) (zC (x := 6) (zC (x := 2) (zC (x := 1) (zX (x := 0) rfl) rfl) rfl) rfl) rfl) rfl) rfl) rfl) rfl), rfl, hX201, (dN hlek148 hx165.le), (by omega), (by rw [key_next (by omega), hkb]; simp only [List.append_assoc]), (by rw [hbbm, fT (by omega)]), (by omega), ho197, ho202, ho203, ha206.symm, ha207.symm, hpk205, hnp209⟩))))
 omega
 refine wp_exit (yI (yW (yV (zA (zG (zG ?_))))))
 rw [jI (by omega)] at hkb hbbm
 have hkey : kxb = keyN xs2 ys2 := by rw [hkb]; rfl
 have hq211 := Gadd.pins hX151.pins kvb
 have hr212 := hw152.read
 refine xD (S := fun wz => BxR wz p [L, R, B, (.map (some mm.f)), (.map (some mm.o)), (.map (some mm.c)), (.map (some mm.s)), (.map (some mm.n))] ∧ Pins (Gadd GLb w149 kvb) wz) (last := 12) (by kernel_rfl) rfl ?_
 have hl213 := bdr w149
 have hp214 := hX151.pins.below hl213
 have hX215 := hX151.step hp214 hl213
 have ho216 := hw152.below hl213
 have ho217 := hw153.below hl213
 have ho218 := hw154.below hl213
 have hpk219 := hpk157.below hl213 hp214
 have hq220 := hq211.below hl213
 refine dT (i := 0) rfl rfl (by kernel_rfl) (fun _ _ => zB (v := (.pointer (some ⟨p, 0, none⟩))) rfl) ⟨hpk219.bx.reads, hq220⟩ ?_
 refine dT (i := 1) rfl rfl (by kernel_rfl) (fun _ _ => xC rfl) ⟨hpk219.bx.reads, hq220⟩ ?_
 refine dT (i := 2) rfl rfl (by kernel_rfl) (fun _ _ => zR (k := 3) rfl eY rfl nz105 rfl) ⟨hpk219.bx.reads, hq220⟩ ?_
 refine dT (i := 3) rfl rfl (by kernel_rfl) (fun _ hS => zS (u := (.map (some mm.f))) ag105 rfl (hS.1 3 _ rfl)) ⟨hpk219.bx.reads, hq220⟩ ?_
 refine dT (i := 4) rfl rfl (by kernel_rfl) (fun _ _ => zB (v := kvb) rfl) ⟨hpk219.bx.reads, hq220⟩ ?_
 refine zQ (i := 5) (by kernel_rfl) (zU (i := 5) rfl rfl rfl (zI rfl _) (EO.run (r_b2s dA dL dK rfl ho216.read (Gadd.pins hX215.pins kvb)) ?_))
 refine ⟨fun _ => ⟨hpk219.bx.reads, hq220⟩, ?_⟩
 refine zQ (i := 6) (by kernel_rfl) (zU (i := 6) rfl rfl rfl (zI rfl _) (EO.run (nT (k := (b2s kxb)) (key_str dK) Tryz.underlying105 zr3 hpk219.ff rfl rfl) ?_))
 refine ⟨fun _ => ⟨hpk219.bx.reads, hq220⟩, ?_⟩
 refine dT (i := 7) rfl rfl (by kernel_rfl) (fun _ _ => zB (v := (.tuple #[(.int .i64 ((Go.GL.look q.fl (b2s kxb)).getD 0)), (.bool ((Go.GL.look q.fl (b2s kxb)).isSome))])) rfl) ⟨hpk219.bx.reads, hq220⟩ ?_
 refine dT (i := 8) rfl rfl (by kernel_rfl) (fun _ _ => yR (v := (.int .i64 ((Go.GL.look q.fl (b2s kxb)).getD 0))) rfl rfl) ⟨hpk219.bx.reads, hq220⟩ ?_
 refine dT (i := 9) rfl rfl (by kernel_rfl) (fun _ _ => yR (v := (.bool ((Go.GL.look q.fl (b2s kxb)).isSome))) rfl rfl) ⟨hpk219.bx.reads, hq220⟩ ?_
 refine dT (i := 10) rfl rfl (by kernel_rfl) (fun _ _ => zD (v := (.int .i64 ((Go.GL.look q.fl (b2s kxb)).getD 0))) rfl) ⟨hpk219.bx.reads, hq220⟩ ?_
 refine dT (i := 11) rfl rfl (by kernel_rfl) (fun _ _ => zD (v := (.bool ((Go.GL.look q.fl (b2s kxb)).isSome))) rfl) ⟨hpk219.bx.reads, hq220⟩ ?_
 refine yP (by kernel_rfl) (zA (zG (zH ?_)))
 refine qD rfl (zB (v := (.bool ((Go.GL.look q.fl (b2s kxb)).isSome))) rfl) (qe (zA ?_))
 refine c_if rfl rfl (fun h221 => ?_) (fun h221 => ?_)
 refine zG (zH ?_)
 refine qD rfl (zB (v := (.int .i64 ((Go.GL.look q.fl (b2s kxb)).getD 0))) rfl) (qD rfl (zD (v := (.int .i64 ((Go.GL.look q.fl (b2s kxb)).getD 0))) rfl) (qe (zA ?_)))
 refine wp_ret (zY (zW (v := (.int .i64 ((Go.GL.look q.fl (b2s kxb)).getD 0))) rfl rfl rfl ?_))
 obtain ⟨z, hz⟩ := Option.isSome_iff_exists.1 h221
 have hlk := hz
 rw [hkey, hxs2, hys2] at hlk
 obtain ⟨f1, f2⟩ := lookF hok hk1 hk2 hlk
 rw [hz]
 exact ⟨z, L, R, B, q, GLb, rfl, hpk219, hok, (PX.refl _), PIn.lo hpin rfl, hX215, f1, f2, by omega, rfl, Or.inl rfl⟩
 refine wp_skip (zA (zG (zH ?_)))
 refine qD rfl (zB (v := (.pointer (some ⟨p, 0, none⟩))) rfl) (qD rfl (xC rfl) (qD rfl (zR (k := 2) rfl eY rfl nz59 rfl) (qD rfl (zS (u := B) ag59 rfl (hpk219.bx.cell (o := 2) rfl)) (qD rfl (zT eU (v := B) rfl hpk219.ob.read) (qD rfl (zD (v := (.int .i64 (q.bs.length : Int))) rfl) (qe (zA (zG ?_))))))))
 have hnone : Go.GL.look q.fl (b2s kxb) = none := by simpa using h221
 rw [hkey, hxs2, hys2] at hnone
 have hadd := hok.add (b := bm) hlim hls hk1 hk2 hnone (by rw [hbbm, hbbn, hxs2, hys2])
 have hq222 := Gadd.pins hX215.pins kvb
 have hr223 := ho216.read
 refine xD (S := fun wz => BxR wz p [L, R, B, (.map (some mm.f)), (.map (some mm.o)), (.map (some mm.c)), (.map (some mm.s)), (.map (some mm.n))] ∧ Pins (Gadd GLb w149.drew kvb) wz) (last := 7) (by kernel_rfl) rfl ?_
 have hl224 : Below w149.drew.heap.size w149.drew w149.drew.drew := (Below.refl _ _).drew
 have hp225 := hX215.pins.below hl224
 have hX226 := hX215.step hp225 hl224
 have ho227 := ho216.below hl224
 have ho228 := ho217.below hl224
 have ho229 := ho218.below hl224
 have ho230 := hpk219.ol.below hl224
 have ho231 := hpk219.rr.below hl224
 have ho232 := hpk219.ob.below hl224
 have hb233 := hpk219.bx.below hl224
 have hm234 := hpk219.ff.below hl224
 have hm235 := hpk219.fo.below hl224
 have hm236 := hpk219.fc.below hl224
 have hm237 := hpk219.fs.below hl224
 have hm238 := hpk219.fn.below hl224
 have hq239 := hq222.below hl224
 refine dT (i := 0) rfl rfl (by kernel_rfl) (fun _ _ => zB (v := (.pointer (some ⟨p, 0, none⟩))) rfl) ⟨hb233.reads, hq239⟩ ?_
 refine dT (i := 1) rfl rfl (by kernel_rfl) (fun _ _ => xC rfl) ⟨hb233.reads, hq239⟩ ?_
 refine dT (i := 2) rfl rfl (by kernel_rfl) (fun _ _ => zR (k := 3) rfl eY rfl nz105 rfl) ⟨hb233.reads, hq239⟩ ?_
 refine dT (i := 3) rfl rfl (by kernel_rfl) (fun _ hS => zS (u := (.map (some mm.f))) ag105 rfl (hS.1 3 _ rfl)) ⟨hb233.reads, hq239⟩ ?_
 refine dT (i := 4) rfl rfl (by kernel_rfl) (fun _ _ => zB (v := kvb) rfl) ⟨hb233.reads, hq239⟩ ?_
 refine dT (i := 6) rfl rfl (by kernel_rfl) (fun _ _ => zB (v := (.int .i64 (q.bs.length : Int))) rfl) ⟨hb233.reads, hq239⟩ ?_
 refine zQ (i := 5) (by kernel_rfl) (zU (i := 5) rfl rfl rfl (zI rfl _) (EO.run (r_b2s dA dL dK rfl ho227.read (Gadd.pins hX226.pins kvb)) ?_))
 refine ⟨fun _ => ⟨hb233.reads, hq239⟩, ?_⟩
 refine zQ (i := 7) (by kernel_rfl) (qC (i := 7) rfl rfl rfl (zI rfl _) (qA (val := (fun v : Int => Value.int .i64 v)) (k := (b2s kxb)) (v := (q.bs.length : Int)) (key_str dK) Tryz.underlying105 rfl rfl rfl hX226.pins hm234 (fun w240 hm241 hp242 hg243 hz244 => ?_)))
 have hX245 := hX226.write hp242 hg243 ((PIn.f hpin))
 have ho247 := ho228.keptA hg243 (yF hm234 ho228).symm
 have ho248 := ho229.keptA hg243 (yF hm234 ho229).symm
 have ho249 := ho230.keptA hg243 (yF hm234 ho230).symm
 have ho250 := ho231.keptA hg243 (yF hm234 ho231).symm
 have ho251 := ho232.keptA hg243 (yF hm234 ho232).symm
 have hb252 := hb233.keptA hg243 (xO hm234 hb233).symm
 have hm253 := hm235.kept hg243 (kW hpk219.df.fo).symm
 have hm254 := hm236.kept hg243 (kW hpk219.df.fc).symm
 have hm255 := hm237.kept hg243 (kW hpk219.df.fs).symm
 have hm256 := hm238.kept hg243 (kW hpk219.df.fn).symm
 refine ⟨fun h => absurd rfl h, ?_⟩
 refine yP (by kernel_rfl) (zA (zG (zH ?_)))
 refine qD rfl (zB (v := (.pointer (some ⟨p, 0, none⟩))) rfl) (qD rfl (zB (v := (.pointer (some ⟨p, 0, none⟩))) rfl) (qD rfl (xC rfl) (qD rfl (zR (k := 0) rfl eY rfl jK rfl) (qD rfl (zS (u := L) vH rfl (hb252.cell (o := 0) rfl)) (qD rfl (zB (v := u3) rfl) ?_)))))
 obtain ⟨G257, hle260, hX259, hr258, hf261⟩ := ho247.sealed hX245
 have ho263 := ho248.moreO hle260 hf261 ha20
 have ho264 := ho249.moreO hle260 hf261 (NP.hl hnp10).symm
 have ho265 := ho250.moreO hle260 hf261 (NP.hr hnp10).symm
 have ho266 := ho251.moreO hle260 hf261 (NP.hb hnp10).symm
 have hb267 := hb252.moreO hf261 (NP.hp hnp10).symm
 refine qI rfl (yY (E := (eSl eInt)) (e := 59) [u3] [xs2] dE sz59 zr59 (by exact xT (⟨_, rfl, hr258⟩)) (yM hr258.one) rfl rfl rfl rfl (by decide) hX259.pins (fun u268 w269 ho270 hp271 hl272 hk273 => ?_))
 have hX274 := hX259.step hp271 hl272
 have ho276 := ho263.below hl272
 have ho277 := ho264.below hl272
 have ho278 := ho265.below hl272
 have ho279 := ho266.below hl272
 have hb280 := hb267.below hl272
 have hm281 := hm241.below hl272
 have hm282 := hm253.below hl272
 have hm283 := hm254.below hl272
 have hm284 := hm255.below hl272
 have hm285 := hm256.below hl272
 have ho292 := ho270.weaken hX259.size
 refine qI rfl (zZ (E := (eSl eInt)) (v := L) (u := u268) 24 dE ap59 (by decide) rfl rfl hX274.pins ho277 ho292.src (by first | omega | (rw [List.nil_append]; omega) | (rw [List.length_nil]; omega) | (rw [List.length_append]; omega) | (simp; done) | (simp; omega) | (simp only [List.length_append, List.length_cons, List.length_nil]; omega)) (by first | omega | (rw [List.nil_append]; omega) | (rw [List.length_nil]; omega) | (rw [List.length_append]; omega) | (simp; done) | (simp; omega) | (simp only [List.length_append, List.length_cons, List.length_nil]; omega)) (Nat.zero_le _) (fun u293 w294 ho295 hp296 hg297 hw298 => ?_))
 have hX299 := hX274.write hp296 hg297 ((PIn.ll hpin))
 have ho301 := ho276.keptA hg297 (NP.hl hnp21)
 have ho302 := ho278.keptA hg297 hpk219.alr.symm
 have ho303 := ho279.keptA hg297 hpk219.alb.symm
 have hb305 := hb280.keptA hg297 hpk219.apl
 have hm306 := hm281.kept hg297 (yF hm281 ho277)
 have hm307 := hm282.kept hg297 (yF hm282 ho277)
 have hm308 := hm283.kept hg297 (yF hm283 ho277)
 have hm309 := hm284.kept hg297 (yF hm284 ho277)
 have hm310 := hm285.kept hg297 (yF hm285 ho277)
 have ha312 : Apart u12.ownBlock u293.ownBlock := zJ (NP.hl hnp21) hw298 ho276.lt
 have ha313 : Apart R.ownBlock u293.ownBlock := zJ hpk219.alr.symm hw298 ho278.lt
 have ha314 : Apart B.ownBlock u293.ownBlock := zJ hpk219.alb.symm hw298 ho279.lt
 have ha316 : Apart (some p) u293.ownBlock := zP hpk219.apl hw298 hb280.lt
 have hlo317 : Lo w (inP p L R B mm) u293.ownBlock := tQ (PIn.ll hpin) hw298 hX274.size
 have hm318 := la1 (q.ns.map Nd.l) xs2
 refine qD rfl (xC rfl) (qD rfl (zR (k := 0) rfl eY rfl jK rfl) (q0 rfl rfl rfl (o_stp (cs' := [u293, R, B, (.map (some mm.f)), (.map (some mm.o)), (.map (some mm.c)), (.map (some mm.s)), (.map (some mm.n))]) (us := [u293]) (v := u293) sz109 rfl rfl (kT ho295.one) (yM ho295.one) hX299.pins hb305 (dQ rfl) rfl (fun w319 hb320 hp321 hg322 hz323 => ?_))))
 have hX324 := hX299.write hp321 hg322 ((PIn.lp hpin))
 have ho326 := ho301.keptA hg322 (NP.hp hnp21)
 have ho327 := ho302.keptA hg322 hpk219.apr.symm
 have ho328 := ho303.keptA hg322 hpk219.apb.symm
 have ho329 := ho295.keptA hg322 ha316.symm
 have hm330 := hm306.kept hg322 (xO hm306 hb305)
 have hm331 := hm307.kept hg322 (xO hm307 hb305)
 have hm332 := hm308.kept hg322 (xO hm308 hb305)
 have hm333 := hm309.kept hg322 (xO hm309 hb305)
 have hm334 := hm310.kept hg322 (xO hm310 hb305)
 refine qe (zA (zG (zH ?_)))
 refine qD rfl (zB (v := (.pointer (some ⟨p, 0, none⟩))) rfl) (qD rfl (zB (v := (.pointer (some ⟨p, 0, none⟩))) rfl) (qD rfl (xC rfl) (qD rfl (zR (k := 1) rfl eY rfl jK rfl) (qD rfl (zS (u := R) vH rfl (hb320.cell (o := 1) rfl)) (qD rfl (zB (v := u12) rfl) ?_)))))
 obtain ⟨G335, hle338, hX337, hr336, hf339⟩ := ho326.sealed hX324
 have ho341 := ho327.moreO hle338 hf339 (NP.hr hnp21).symm
 have ho342 := ho328.moreO hle338 hf339 (NP.hb hnp21).symm
 have ho343 := ho329.moreO hle338 hf339 ha312.symm
 have hb344 := hb320.moreO hf339 (NP.hp hnp21).symm
 refine qI rfl (yY (E := (eSl eInt)) (e := 59) [u12] [ys2] dE sz59 zr59 (by exact xT (⟨_, rfl, hr336⟩)) (yM hr336.one) rfl rfl rfl rfl (by decide) hX337.pins (fun u345 w346 ho347 hp348 hl349 hk350 => ?_))
 have hX351 := hX337.step hp348 hl349
 have ho353 := ho341.below hl349
 have ho354 := ho342.below hl349
 have ho355 := ho343.below hl349
 have hb356 := hb344.below hl349
 have hm357 := hm330.below hl349
 have hm358 := hm331.below hl349
 have hm359 := hm332.below hl349
 have hm360 := hm333.below hl349
 have hm361 := hm334.below hl349
 have ho367 := ho347.weaken hX337.size
 refine qI rfl (zZ (E := (eSl eInt)) (v := R) (u := u345) 24 dE ap59 (by decide) rfl rfl hX351.pins ho353 ho367.src (by first | omega | (rw [List.nil_append]; omega) | (rw [List.length_nil]; omega) | (rw [List.length_append]; omega) | (simp; done) | (simp; omega) | (simp only [List.length_append, List.length_cons, List.length_nil]; omega)) (by first | omega | (rw [List.nil_append]; omega) | (rw [List.length_nil]; omega) | (rw [List.length_append]; omega) | (simp; done) | (simp; omega) | (simp only [List.length_append, List.length_cons, List.length_nil]; omega)) (Nat.zero_le _) (fun u368 w369 ho370 hp371 hg372 hw373 => ?_))
 have hX374 := hX351.write hp371 hg372 ((PIn.lr hpin))
 have ho376 := ho354.keptA hg372 hpk219.arb.symm
 have ho377 := ho355.keptA hg372 ha313.symm
 have hb379 := hb356.keptA hg372 hpk219.apr
 have hm380 := hm357.kept hg372 (yF hm357 ho353)
 have hm381 := hm358.kept hg372 (yF hm358 ho353)
 have hm382 := hm359.kept hg372 (yF hm359 ho353)
 have hm383 := hm360.kept hg372 (yF hm360 ho353)
 have hm384 := hm361.kept hg372 (yF hm361 ho353)
 have ha386 : Apart B.ownBlock u368.ownBlock := zJ hpk219.arb.symm hw373 ho354.lt
 have ha387 : Apart u293.ownBlock u368.ownBlock := zJ ha313.symm hw373 ho355.lt
 have ha389 : Apart (some p) u368.ownBlock := zP hpk219.apr hw373 hb356.lt
 have hlo390 : Lo w (inP p L R B mm) u368.ownBlock := tQ (PIn.lr hpin) hw373 hX351.size
 have hm391 := la1 (q.ns.map Nd.r) ys2
 refine qD rfl (xC rfl) (qD rfl (zR (k := 1) rfl eY rfl jK rfl) (q0 rfl rfl rfl (o_stp (cs' := [u293, u368, B, (.map (some mm.f)), (.map (some mm.o)), (.map (some mm.c)), (.map (some mm.s)), (.map (some mm.n))]) (us := [u368]) (v := u368) sz109 rfl rfl (kT ho370.one) (yM ho370.one) hX374.pins hb379 (dQ rfl) rfl (fun w392 hb393 hp394 hg395 hz396 => ?_))))
 have hX397 := hX374.write hp394 hg395 ((PIn.lp hpin))
 have ho399 := ho376.keptA hg395 hpk219.apb.symm
 have ho400 := ho377.keptA hg395 ha316.symm
 have ho401 := ho370.keptA hg395 ha389.symm
 have hm402 := hm380.kept hg395 (xO hm380 hb379)
 have hm403 := hm381.kept hg395 (xO hm381 hb379)
 have hm404 := hm382.kept hg395 (xO hm382 hb379)
 have hm405 := hm383.kept hg395 (xO hm383 hb379)
 have hm406 := hm384.kept hg395 (xO hm384 hb379)
 refine qe (zA (zG (zH ?_)))
 refine qD rfl (zB (v := (.pointer (some ⟨p, 0, none⟩))) rfl) (qD rfl (zB (v := (.pointer (some ⟨p, 0, none⟩))) rfl) (qD rfl (xC rfl) (qD rfl (zR (k := 2) rfl eY rfl nz59 rfl) (qD rfl (zS (u := B) ag59 rfl (hb393.cell (o := 2) rfl)) (qD rfl (zB (v := (.int .i64 bm)) rfl) (qI rfl (yY (E := eInt) (e := 3) [(.int .i64 bm)] [bm] eU sz3 zr3 (by exact xT (by rfl)) (yM (by rfl)) rfl rfl rfl rfl (by decide) hX397.pins (fun u407 w408 ho409 hp410 hl411 hk412 => ?_))))))))
 have hX413 := hX397.step hp410 hl411
 have ho415 := ho399.below hl411
 have ho416 := ho400.below hl411
 have ho417 := ho401.below hl411
 have hb418 := hb393.below hl411
 have hm419 := hm402.below hl411
 have hm420 := hm403.below hl411
 have hm421 := hm404.below hl411
 have hm422 := hm405.below hl411
 have hm423 := hm406.below hl411
 have ho429 := ho409.weaken hX397.size
 refine qI rfl (zZ (E := eInt) (v := B) (u := u407) 8 eU ap3 (by decide) rfl rfl hX413.pins ho415 ho429.src (by first | omega | (rw [List.nil_append]; omega) | (rw [List.length_nil]; omega) | (rw [List.length_append]; omega) | (simp; done) | (simp; omega) | (simp only [List.length_append, List.length_cons, List.length_nil]; omega)) (by first | omega | (rw [List.nil_append]; omega) | (rw [List.length_nil]; omega) | (rw [List.length_append]; omega) | (simp; done) | (simp; omega) | (simp only [List.length_append, List.length_cons, List.length_nil]; omega)) (Nat.zero_le _) (fun u430 w431 ho432 hp433 hg434 hw435 => ?_))
 have hX436 := hX413.write hp433 hg434 ((PIn.lb hpin))
 have ho438 := ho416.keptA hg434 ha314.symm
 have ho439 := ho417.keptA hg434 ha386.symm
 have hb441 := hb418.keptA hg434 hpk219.apb
 have hm442 := hm419.kept hg434 (yF hm419 ho415)
 have hm443 := hm420.kept hg434 (yF hm420 ho415)
 have hm444 := hm421.kept hg434 (yF hm421 ho415)
 have hm445 := hm422.kept hg434 (yF hm422 ho415)
 have hm446 := hm423.kept hg434 (yF hm423 ho415)
 have ha448 : Apart u293.ownBlock u430.ownBlock := zJ ha314.symm hw435 ho416.lt
 have ha449 : Apart u368.ownBlock u430.ownBlock := zJ ha386.symm hw435 ho417.lt
 have ha451 : Apart (some p) u430.ownBlock := zP hpk219.apb hw435 hb418.lt
 have hlo452 : Lo w (inP p L R B mm) u430.ownBlock := tQ (PIn.lb hpin) hw435 hX413.size
 have hm453 := la1 q.bs bm
 refine qD rfl (xC rfl) (qD rfl (zR (k := 2) rfl eY rfl nz59 rfl) (q0 rfl rfl rfl (o_stp (cs' := [u293, u368, u430, (.map (some mm.f)), (.map (some mm.o)), (.map (some mm.c)), (.map (some mm.s)), (.map (some mm.n))]) (us := [u430]) (v := u430) sz59 rfl rfl (kT ho432.one) (yM ho432.one) hX436.pins hb441 (dQ rfl) rfl (fun w454 hb455 hp456 hg457 hz458 => ?_))))
 have hX459 := hX436.write hp456 hg457 ((PIn.lp hpin))
 have ho461 := ho438.keptA hg457 ha316.symm
 have ho462 := ho439.keptA hg457 ha389.symm
 have ho463 := ho432.keptA hg457 ha451.symm
 have hm464 := hm442.kept hg457 (xO hm442 hb441)
 have hm465 := hm443.kept hg457 (xO hm443 hb441)
 have hm466 := hm444.kept hg457 (xO hm444 hb441)
 have hm467 := hm445.kept hg457 (xO hm445 hb441)
 have hm468 := hm446.kept hg457 (xO hm446 hb441)
 refine qe (zA (zG (zH ?_)))
 refine qD rfl (zB (v := (.int .i64 (q.bs.length : Int))) rfl) (qD rfl (zD (v := (.int .i64 (q.bs.length : Int))) rfl) (qe (zA ?_)))
 refine wp_ret (zY (zW (v := (.int .i64 (q.bs.length : Int))) rfl rfl rfl ?_))
 have el : (q.ns.map Nd.l) ++ [xs2] = (addQ q xs ys bm).ns.map Nd.l := by rw [hxs2]; simp [addQ]
 have er : (q.ns.map Nd.r) ++ [ys2] = (addQ q xs ys bm).ns.map Nd.r := by rw [hys2]; simp [addQ]
 have ef : putE q.fl (b2s kxb) (q.bs.length : Int) = (addQ q xs ys bm).fl := by rw [hkey, hxs2, hys2, hok.ar.ok.len]; rfl
 have hol := ho461
 have hor := ho462
 have hff := hm464
 rw [el] at hol
 rw [er] at hor
 rw [ef] at hff
 exact ⟨(q.bs.length : Int), u293, u368, u430, addQ q xs ys bm, G335, rfl, ⟨hb455, hol, hor, ho463, hff, hm465, hm466, hm467, hm468, ha316, ha389, ha451, ha387, ha448, ha449, hpk219.df⟩, hadd.1, hadd.2.1, ⟨hlo317, hlo390, hlo452⟩, hX459, by rw [hok.ar.ok.len]; exact hadd.2.2.1, by rw [hok.ar.ok.len]; exact hadd.2.2.2.1, hadd.2.2.2.2, rfl, Or.inr (by omega)⟩
end PO1
end Go.Proofs.YtajkbplgbikgdaaGreatDoor
