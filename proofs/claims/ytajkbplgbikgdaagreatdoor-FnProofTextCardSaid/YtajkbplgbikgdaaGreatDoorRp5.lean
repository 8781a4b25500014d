/- Texts of this claim in one file: E1, OR1, SF1, DR1, MK1. -/
import Derived.Test.YtajkbplgbikgdaaGreatDoorRp4
import Derived.Test.YtajkbplgbikgdaaGreatDoorChecked
set_option maxRecDepth 20000
set_option maxHeartbeats 2000000
namespace Go.Proofs.YtajkbplgbikgdaaGreatDoor
namespace E1
open Go.RowKit Go.GL Go.Proofs
open C1 D1
theorem mk3 : (Tryz.prog.info? 3).map (fun i => (i.size, i.bytes, i.zero)) = some (1, 8, some (.int .i64 0)) := by kernel_rfl
theorem mk4 : (Tryz.prog.info? 4).map (fun i => (i.size, i.bytes, i.zero)) = some (1, 1, some (.bool false)) := by kernel_rfl
theorem nP : (Tryz.prog.underlying 119).bind (placesD Tryz.prog) = some [(0, 1), (1, 1)] := by kernel_rfl
theorem pl26 : (Tryz.prog.underlying 26).bind (placesD Tryz.prog) = some [(0, 1)] := by kernel_rfl
theorem pl65 : (Tryz.prog.underlying 65).bind (placesD Tryz.prog) = some [(0, 1), (1, 1)] := by kernel_rfl
variable {G : Pin} {b : Nat} {bu bv x : Value} {ns fs : List Nd} {bs : List Int} {m : Int}
theorem pQ {w : World} (hP : Pins G w) (hB : Bk 65 3 G w b bu bv ns bs) (hok : BookOk ns bs) (hx : RSl eNode G x fs) (hf : FormOk fs) (hl : ns.length + fs.length ≤ 1048576) :
  Calls Tryz.prog 76 [(.pointer (some ⟨b, 0, none⟩)), (.agg [x].toArray)].toArray w fun e w' => ∃ (r u' v' : Value) (G' : Pin), e = .returned r ∧ RSl eInt G' r (addM ns bs fs).1 ∧ Bk 65 3 G' w' b u' v' (addM ns bs fs).2.1 (addM ns bs fs).2.2 ∧ Ext (inS b bu bv) G w G' w' ∧ Lo w (inS b bu bv) u'.ownBlock ∧ Lo w (inS b bu bv) v'.ownBlock := by
 refine yM (n := 37) Tryz.func76 Tryz.ntmps76 rfl rfl ?_
 have hX0 := exr (inS b bu bv) hP
 have hbx := hB.bx
 have hou := hB.ou
 have hov := hB.ov
 have habu := hB.abu
 have habv := hB.abv
 have hauv := hB.auv
 have hlob : Lo w (inS b bu bv) (some b) := lo_b
 have hlou : Lo w (inS b bu bv) bu.ownBlock := lo_u
 have hlov : Lo w (inS b bu bv) bv.ownBlock := lo_v
 have hlen := hok.len
 have hlim := hok.lim
 refine zD (zE ?_)
 refine qI rfl (xX [x] (v := (.agg [x].toArray)) rfl rfl hX0.pins (fun b1 w2 hk3 hb4 hp5 hl6 => ?_))
 have hlo14 : w.heap.size ≤ b1 := by have := hX0.size; omega
 obtain ⟨G15, hle16, hX17, hbp18, hf19⟩ := hb4.shut (hX0.step hp5 hl6) hlo14
 have ho20 := (hou.below hl6).moreA hle16 hf19 (zI (congrArg some hk3) hou.lt).symm
 have ho21 := (hov.below hl6).moreA hle16 hf19 (zI (congrArg some hk3) hov.lt).symm
 have hb22 := (hbx.below hl6).moreA hf19 (zG (congrArg some hk3) hbx.lt).symm
 refine qD rfl (zC (v := (.slice none 0 0)) rfl) (qe (zA (zD (zE ?_))))
 refine qI rfl (xF (E := eInt) (e := 3) eR sz3 hX17.pins (fun u23 w24 ho25 hp26 hl27 hk28 => ?_))
 have ho36 := ho25.weaken hX17.size
 refine qD rfl (zC (v := u23) rfl) (qe (zA (zD (zD (zE ?_)))))
 refine qD rfl (zC (v := (.int .i64 0)) rfl) (qe (zA ?_))
 refine yI (yZ (fun (k : Nat) (en : Nat → Value) (W : World) => ∃ (env1 : Nat → Value) (k4 : Nat) (at_ : Value) (ats : List Int) (u2 : Value) (v2 : Value) (ns2 : List Nd) (bs2 : List Int) (GL1 : Pin), en = (upd (upd (upd (upd (upd env1 0 (.pointer (some ⟨b, 0, none⟩))) 3 (.pointer (some ⟨b1, 0, none⟩))) 4 (.slice none 0 0)) 5 at_) 6 (.int .i64 (k4 : Int))) ∧ k = fs.length - k4 ∧ Ext (inS b bu bv) G w GL1 W ∧ Pin.le G15 GL1 ∧ (k4 ≤ fs.length) ∧ (addM ns bs (fs.take k4) = (ats, ns2, bs2)) ∧ (AddOk ns k4 ats ns2 bs2) ∧ (Own eInt 3 GL1 W w.heap.size at_ (ats)) ∧ (Own eNode 65 GL1 W 0 u2 (ns2)) ∧ (Own eInt 3 GL1 W 0 v2 (bs2)) ∧ (Bx GL1 W b [u2, v2]) ∧ (Apart at_.ownBlock u2.ownBlock) ∧ (Apart at_.ownBlock v2.ownBlock) ∧ (Apart at_.ownBlock (some b)) ∧ (Apart u2.ownBlock v2.ownBlock) ∧ (Apart u2.ownBlock (some b)) ∧ (Apart v2.ownBlock (some b)) ∧ (Lo w (inS b bu bv) u2.ownBlock) ∧ (Lo w (inS b bu bv) v2.ownBlock)) _ ⟨_, 0, u23, [], bu, bv, ns, bs, G15, (zF (x := 6) (zF (x := 5) (zF (x := 4) (zF (x := 3) (yF (x := 0) rfl) rfl) rfl) rfl) rfl), rfl, (hX17.step hp26 hl27), Pin.le_refl _, Nat.zero_le _, rfl, AddOk.start hok, ho36, (ho20.below hl27), (ho21.below hl27), (hb22.below hl27), (zI hk28 ho20.lt), (zI hk28 ho21.lt), (zG hk28 hb22.lt), hauv, habu.symm, habv.symm, hlou, hlov⟩ ?_)
 rintro k37 _ w38 ⟨env1, k4, at_, ats, u2, v2, ns2, bs2, GL1, rfl, hk39, hX40, hlek37, hj, hr, hao, hw41, hw42, hw43, hw44, ha45, ha46, ha47, ha48, ha49, ha50, hlo51, hlo52⟩
 have hal := hao.len
 have hah := hao.hi
 have hfl := hf.len
 refine zD (zD (zE ?_))
 refine qD rfl (zB (v := (.int .i64 (k4 : Int))) rfl) (qD rfl (zM (k := 0) rfl eY rfl nz24 rfl) (qD rfl (zP (u := x) ag24 rfl ((dI hX40.pins hlek37) _ _ _ (hbp18 0 _ rfl))) (qD rfl (run_len eT (v := x) rfl hx) (qD rfl (xB rfl rfl) (qe (zA ?_))))))
 refine yJ (p := ((k4 : Int) : Int) < (fs.length : Int)) rfl rfl (fun h53 => ?_) (fun h53 => ?_)
 have hat1 := hao.at1 hf (by omega)
 have hfe := hf.lens k4 (by omega)
 refine wp_skip (zA (zD ?_))
 refine yI (xD (S := fun wz => Pins GL1 wz) (last := 22) (by kernel_rfl) rfl ?_)
 have hl54 := bdr w38
 have hX56 := hX40.step (hX40.pins.below hl54) hl54
 have ho57 := hw41.below hl54
 have ho58 := hw42.below hl54
 have ho59 := hw43.below hl54
 have hb60 := hw44.below hl54
 refine dT (i := 0) rfl rfl (by kernel_rfl) (fun _ _ => zB (v := at_) rfl) hX56.pins ?_
 refine dT (i := 1) rfl rfl (by kernel_rfl) (fun _ _ => zB (v := (.pointer (some ⟨b, 0, none⟩))) rfl) hX56.pins ?_
 refine dT (i := 2) rfl rfl (by kernel_rfl) (fun _ _ => zB (v := at_) rfl) hX56.pins ?_
 refine dT (i := 3) rfl rfl (by kernel_rfl) (fun _ _ => zM (k := 0) rfl eY rfl nz24 rfl) hX56.pins ?_
 refine dT (i := 4) rfl rfl (by kernel_rfl) (fun _ hS => zP (u := x) ag24 rfl ((dI hS hlek37) _ _ _ (hbp18 0 _ rfl))) hX56.pins ?_
 refine dT (i := 5) rfl rfl (by kernel_rfl) (fun _ _ => zB (v := (.int .i64 (k4 : Int))) rfl) hX56.pins ?_
 refine dT (i := 6) rfl rfl (by kernel_rfl) (fun _ _ => zL eT sz65 (v := x) rfl rfl hx (by omega) (by omega)) hX56.pins ?_
 refine dT (i := 7) rfl rfl (by kernel_rfl) (fun _ _ => yS (off := 0) eX rfl rfl nz59 (z := (k4 : Int)) (k := 0) rfl hx (by omega) (by omega)) hX56.pins ?_
 obtain ⟨u61, hr62, hl63⟩ := vO (hx.at (z := (k4 : Int)) (by omega) (by omega)) (j := k4) rfl
 have hm64 := hr62.max
 refine dT (i := 8) rfl rfl (by kernel_rfl) (fun _ hS => hl63 ag59 rfl (dI hS (dH hle16 hlek37))) hX56.pins ?_
 refine dT (i := 10) rfl rfl (by kernel_rfl) (fun _ _ => zB (v := at_) rfl) hX56.pins ?_
 refine dT (i := 11) rfl rfl (by kernel_rfl) (fun _ _ => zM (k := 0) rfl eY rfl nz24 rfl) hX56.pins ?_
 refine dT (i := 12) rfl rfl (by kernel_rfl) (fun _ hS => zP (u := x) ag24 rfl ((dI hS hlek37) _ _ _ (hbp18 0 _ rfl))) hX56.pins ?_
 refine dT (i := 13) rfl rfl (by kernel_rfl) (fun _ _ => zB (v := (.int .i64 (k4 : Int))) rfl) hX56.pins ?_
 refine dT (i := 14) rfl rfl (by kernel_rfl) (fun _ _ => zL eT sz65 (v := x) rfl rfl hx (by omega) (by omega)) hX56.pins ?_
 refine dT (i := 15) rfl rfl (by kernel_rfl) (fun _ _ => yS (off := 1) eX rfl rfl nz59 (z := (k4 : Int)) (k := 0) rfl hx (by omega) (by omega)) hX56.pins ?_
 obtain ⟨u65, hr66, hl67⟩ := vH (hx.at (z := (k4 : Int)) (by omega) (by omega)) (j := k4) rfl
 have hm68 := hr66.max
 refine dT (i := 16) rfl rfl (by kernel_rfl) (fun _ hS => hl67 ag59 rfl (dI hS (dH hle16 hlek37))) hX56.pins ?_
 refine zR (i := 9) (by kernel_rfl) (yC (i := 9) rfl rfl rfl (zH rfl _) (zK (vs := [at_, u61]) Tryz.func77 nm77 rfl rfl rfl ?_))
 refine dJ (qX hX56.pins (Gadd.pins hX56.pins at_) ho57.read (hr62.mono (dH hle16 hlek37)) (by omega) hat1.1) ?_
 rintro _ w71 ⟨u69, G70, rfl, ho72, hx73⟩
 refine ⟨_, rfl, ?_⟩
 have hX74 := hX56.tr hx73
 have ho75 := ho57.ext hx73
 have ho76 := ho58.ext hx73
 have ho77 := ho59.ext hx73
 have hb78 := hb60.ext hx73
 have ho83 := ho72.weaken hX56.size
 refine ⟨fun _ => (dI hX74.pins hx73.le), ?_⟩
 refine zR (i := 17) (by kernel_rfl) (yC (i := 17) rfl rfl rfl (zH rfl _) (zK (vs := [at_, u65]) Tryz.func77 nm77 rfl rfl rfl ?_))
 refine dJ (qX hX74.pins (Gadd.pins hX74.pins at_) ho75.read (hr66.mono (dH (dH hle16 hlek37) hx73.le)) (by omega) hat1.2) ?_
 rintro _ w86 ⟨u84, G85, rfl, ho87, hx88⟩
 refine ⟨_, rfl, ?_⟩
 have hX89 := hX74.tr hx88
 have ho100 := ho87.weaken hX74.size
 refine ⟨fun _ => (dI hX89.pins (dH hx73.le hx88.le)), ?_⟩
 obtain ⟨G101, hle104, hX103, hr102, hf105⟩ := (ho83.ext hx88).sealed hX89
 obtain ⟨G111, hle114, hX113, hr112, hf115⟩ := (ho100.moreO hle104 hf105 (zV ho87.lt ho83.lt)).sealed hX103
 have ho116 := ((ho75.ext hx88).moreO hle104 hf105 (zV ho72.lt ho57.lt).symm).moreO hle114 hf115 (zV ho87.lt ho75.lt).symm
 refine zR (i := 18) (by kernel_rfl) (yC (i := 18) rfl rfl rfl (zH rfl _) (zK (vs := [(.pointer (some ⟨b, 0, none⟩)), u69, u84]) Tryz.func78 nm78 rfl rfl rfl ?_))
 refine dJ (put_spec hX113.pins ⟨(((hb78.ext hx88).moreO hf105 (zX ho72.lt hb60.lt).symm).moreO hf115 (zX ho87.lt hb78.lt).symm), (((ho76.ext hx88).moreO hle104 hf105 (zV ho72.lt ho58.lt).symm).moreO hle114 hf115 (zV ho87.lt ho76.lt).symm), (((ho77.ext hx88).moreO hle104 hf105 (zV ho72.lt ho59.lt).symm).moreO hle114 hf115 (zV ho87.lt ho77.lt).symm), ha49.symm, ha50.symm, ha48⟩ hao.book (hr102.mono hle114) hr112 ⟨by rw [xS]; omega, by rw [xS]; omega⟩ (vY hao.places hat1.1) (vY hao.places hat1.2)) ?_
 rintro _ w123 ⟨u120, v121, G122, rfl, hbk124, hx125, hlu126, hlv127⟩
 refine ⟨_, rfl, ?_⟩
 have hin130 : ∀ i, inS b u2 v2 i → w.heap.size ≤ i ∨ (inS b bu bv) i := kU hlob hlo51 hlo52
 have hX131 := hX113.trans hx125 hin130
 have hn132 := notS (u := u2) (v := v2) ha47 ha45 ha46
 have ha134 : Apart at_.ownBlock u120.ownBlock := jA hlu126 hn132 (kT ho116)
 have ha135 : Apart at_.ownBlock v121.ownBlock := jA hlv127 hn132 (kT ho116)
 have ha139 := hbk124.abu
 have ha140 := hbk124.abv
 have ha141 := hbk124.auv
 have hlo142 := xZ hlu126 hin130 hX113.size
 have hlo143 := xZ hlv127 hin130 hX113.size
 refine ⟨fun _ => (dI hX131.pins (dH (dH (dH (dH hx73.le hx88.le) hle104) hle114) hx125.le)), ?_⟩
 refine zR (i := 19) (by kernel_rfl) (yC (i := 19) rfl rfl rfl (zH rfl _) (xI (E := eInt) (e := 3) [(.int .i64 (putK ns2 bs2 (atL ats ((fs.getD k4 default).l)) (atL ats ((fs.getD k4 default).r))))] [putK ns2 bs2 (atL ats ((fs.getD k4 default).l)) (atL ats ((fs.getD k4 default).r))] eR sz3 zr3 (by exact qQ (by rfl)) (yE (by rfl)) rfl rfl rfl rfl (by decide) hX131.pins (fun u144 w145 ho146 hp147 hl148 hk149 => ?_)))
 have hX150 := hX131.step hp147 hl148
 have ho151 := (ho116.extS hx125 hn132).below hl148
 have ho152 := hbk124.ou.below hl148
 have ho153 := hbk124.ov.below hl148
 have hb154 := hbk124.bx.below hl148
 have ho159 := ho146.weaken hX131.size
 refine ⟨fun _ => (dI hX150.pins (dH (dH (dH (dH hx73.le hx88.le) hle104) hle114) hx125.le)), ?_⟩
 refine zR (i := 20) (by kernel_rfl) (yC (i := 20) rfl rfl rfl (zH rfl _) (yH (E := eInt) (v := at_) (u := u144) 8 eR ap3 (by decide) rfl rfl hX150.pins ho151 ho159.src (by first | omega | (rw [List.nil_append]; omega) | (rw [List.length_nil]; omega) | (rw [List.length_append]; omega) | (simp; done) | (simp; omega) | (simp only [List.length_append, List.length_cons, List.length_nil]; omega)) (by first | omega | (rw [List.nil_append]; omega) | (rw [List.length_nil]; omega) | (rw [List.length_append]; omega) | (simp; done) | (simp; omega) | (simp only [List.length_append, List.length_cons, List.length_nil]; omega)) (hX150.size) (fun u160 w161 ho162 hp163 hg164 hw165 => ?_)))
 have hX166 := hX150.write hp163 hg164 ((yQ ho151))
 have hm175 := la1 ats (putK ns2 bs2 (atL ats ((fs.getD k4 default).l)) (atL ats ((fs.getD k4 default).r)))
 refine ⟨fun _ => (dI hX166.pins (dH (dH (dH (dH hx73.le hx88.le) hle104) hle114) hx125.le)), ?_⟩
 refine dT (i := 21) rfl rfl (by kernel_rfl) (fun _ _ => zC (v := u160) rfl) (dI hX166.pins (dH (dH (dH (dH hx73.le hx88.le) hle104) hle114) hx125.le)) ?_
 refine yP (by kernel_rfl) (yO (zA (zE ?_)))
 refine qD rfl (zB (v := (.int .i64 (k4 : Int))) rfl) (qD rfl (yT rfl rfl (by omega)) (qD rfl (zC (v := (.int .i64 ((k4 : Int) + 1))) rfl) (qe (yR (⟨_, ?_, _, rfl, _, k4 + 1, u160, (addStep (ats, ns2, bs2) (fs.getD k4 default)).1, u120, v121, (addStep (ats, ns2, bs2) (fs.getD k4 default)).2.1, (addStep (ats, ns2, bs2) (fs.getD k4 default)).2.2, G122, (zF (x := 6) (zF (x := 5) (zF (x := 4) (zF (x := 3) (yF (x := 0) rfl) rfl) rfl) rfl) rfl), rfl, hX166, (dH (dH (dH (dH (dH hlek37 hx73.le) hx88.le) hle104) hle114) hx125.le), (by omega), ((jQ (by omega)).trans (by rw [hr])), (hao.step hf (by omega) hl), ho162, (ho152.keptA hg164 ha134.symm), (ho153.keptA hg164 ha135.symm), (hb154.keptA hg164 ha47.symm), (zJ ha134.symm hw165 ho152.lt).symm, (zJ ha135.symm hw165 ho153.lt).symm, (zN ha47.symm hw165 hb154.lt).symm, ha141, ha139.symm, ha140.symm, hlo142, hlo143⟩)))))
 omega
 refine wp_exit (yK (yU (yV (zA (zD (zE ?_))))))
 refine qD rfl (zB (v := at_) rfl) (qD rfl (zC (v := at_) rfl) (qe (zA ?_)))
 refine wp_ret (zQ (yA (v := at_) rfl rfl rfl ?_))
 obtain ⟨G176, hle179, hX178, hr177, hf180⟩ := hw41.sealed hX40
 rw [fQ (by omega)] at hr
 refine ⟨_, u2, v2, _, rfl, ?_, ?_, hX178, hlo51, hlo52⟩
 ·rw [hr]; exact hr177
 ·rw [hr]; exact ⟨(hw44.moreO hf180 ha47.symm), (hw42.moreO hle179 hf180 ha45.symm), (hw43.moreO hle179 hf180 ha46.symm), ha49.symm, ha50.symm, ha48⟩
theorem kX {w : World} (hP : Pins G w) (hB : Bk 65 3 G w b bu bv ns bs) (hok : BookOk ns bs) (hx : RSl eNode G x fs) (hf : FormOk fs ∧ 1 ≤ fs.length) (hl : ns.length + fs.length ≤ 1048576) :
  Calls Tryz.prog 124 [(.pointer (some ⟨b, 0, none⟩)), (.agg [x].toArray)].toArray w fun e w' => ∃ (u' v' : Value) (G' : Pin), e = .returned (.int .i64 (rootM ns bs fs)) ∧ Bk 65 3 G' w' b u' v' (addM ns bs fs).2.1 (addM ns bs fs).2.2 ∧ Ext (inS b bu bv) G w G' w' ∧ Lo w (inS b bu bv) u'.ownBlock ∧ Lo w (inS b bu bv) v'.ownBlock := by
 refine yM (n := 15) Tryz.func124 Tryz.ntmps124 rfl rfl ?_
 have hX0 := exr (inS b bu bv) hP
 have hbx := hB.bx
 have hou := hB.ou
 have hov := hB.ov
 have habu := hB.abu
 have habv := hB.abv
 have hauv := hB.auv
 have hlob : Lo w (inS b bu bv) (some b) := lo_b
 have hlou : Lo w (inS b bu bv) bu.ownBlock := lo_u
 have hlov : Lo w (inS b bu bv) bv.ownBlock := lo_v
 have hlen := hok.len
 have hlim := hok.lim
 have hal := (jM hok hf.1 hl).len
 have hfl := hf.1.len
 refine zD (zE ?_)
 refine qI rfl (xX [x] (v := (.agg [x].toArray)) rfl rfl hX0.pins (fun b1 w2 hk3 hb4 hp5 hl6 => ?_))
 have hlo14 : w.heap.size ≤ b1 := by have := hX0.size; omega
 obtain ⟨G15, hle16, hX17, hbp18, hf19⟩ := hb4.shut (hX0.step hp5 hl6) hlo14
 refine qD rfl (zC (v := (.int .i64 0)) rfl) (qe (zA (zD (zE ?_))))
 refine qD rfl (zB (v := (.pointer (some ⟨b, 0, none⟩))) rfl) (qD rfl (zU (cs := [x]) ag26 sz26 rfl (fun j u hj => hX17.pins _ _ _ (hbp18 _ _ (by simpa using hj)))) (qI rfl (zK (vs := [(.pointer (some ⟨b, 0, none⟩)), (.agg [x].toArray)]) Tryz.func76 nm76 rfl rfl rfl ?_)))
 refine dJ (pQ hX17.pins ⟨((hbx.below hl6).moreA hf19 (zG (congrArg some hk3) hbx.lt).symm), ((hou.below hl6).moreA hle16 hf19 (zI (congrArg some hk3) hou.lt).symm), ((hov.below hl6).moreA hle16 hf19 (zI (congrArg some hk3) hov.lt).symm), habu, habv, hauv⟩ hok (hx.mono hle16) hf.1 (by first | omega | (simp; omega))) ?_
 rintro _ w26 ⟨u31, u23, v24, G25, rfl, hr32, hbk27, hx28, hlu29, hlv30⟩
 refine ⟨_, rfl, ?_⟩
 have hin33 : ∀ i, inS b bu bv i → w.heap.size ≤ i ∨ (inS b bu bv) i := kU hlob hlou hlov
 have hX34 := hX17.trans hx28 hin33
 have hb35 := hbk27.bx
 have ho36 := hbk27.ou
 have ho37 := hbk27.ov
 have ha38 := hbk27.abu
 have ha39 := hbk27.abv
 have ha40 := hbk27.auv
 have hlo41 := xZ hlu29 hin33 hX17.size
 have hlo42 := xZ hlv30 hin33 hX17.size
 refine qD rfl (zC (v := u31) rfl) (qe (zA (zD (zE ?_))))
 refine qD rfl (zB (v := u31) rfl) (qD rfl (zB (v := u31) rfl) (qD rfl (run_len eR (v := u31) rfl hr32) (qD rfl (vN rfl rfl (by omega)) (qD rfl (zL eR sz3 (v := u31) rfl rfl hr32 (by omega) (by omega)) (qD rfl (zZ (r := ((addM ns bs fs).1).getD ((((addM ns bs fs).1).length : Int) - 1).toNat 0) rfl ag3 (z := ((((addM ns bs fs).1).length : Int) - 1)) rfl hr32 hX34.pins (by omega) (by omega)) (qD rfl (zC (v := (.int .i64 (((addM ns bs fs).1).getD ((((addM ns bs fs).1).length : Int) - 1).toNat 0))) rfl) (qe (zA ?_))))))))
 exact wp_ret (zQ (yA (v := (.int .i64 (((addM ns bs fs).1).getD ((((addM ns bs fs).1).length : Int) - 1).toNat 0))) rfl rfl rfl (⟨_, _, _, congrArg (fun z => Ending.returned (Value.int .i64 z)) (by unfold rootM; rw [show (((addM ns bs fs).1.length : Int) - 1).toNat = (addM ns bs fs).1.length - 1 by omega]), ⟨hb35, ho36, ho37, ha38, ha39, ha40⟩, hX34, hlo41, hlo42⟩)))
theorem reached_spec {w : World} (hP : Pins G w) (hB : Bk 65 3 G w b bu bv ns bs) (hok : BookOk ns bs) (hm : 0 ≤ m ∧ m < ns.length) :
  Calls Tryz.prog 128 [(.pointer (some ⟨b, 0, none⟩)), (.int .i64 m)].toArray w fun e w' => ∃ (u : Value) (G' : Pin), e = .returned u ∧ Own eBool 4 G' w' w.heap.size u (reachM ns m.toNat) ∧ Ext noS G w G' w' := by
 refine yM (n := 78) Tryz.func128 Tryz.ntmps128 rfl rfl ?_
 have hX0 := exr noS hP
 have hbx := hB.bx
 have hou := hB.ou
 have hov := hB.ov
 have habu := hB.abu
 have habv := hB.abv
 have hauv := hB.auv
 have hlob : Lo w (inS b bu bv) (some b) := lo_b
 have hlou : Lo w (inS b bu bv) bu.ownBlock := lo_u
 have hlov : Lo w (inS b bu bv) bv.ownBlock := lo_v
 have hlen := hok.len
 have hlim := hok.lim
 have hoo : OptsOk ns := hok.optsOk
 refine zD (zE ?_)
 refine qD rfl (zC (v := (.slice none 0 0)) rfl) (qe (zA (zD (zE ?_))))
 refine qD rfl (zB (v := (.int .i64 m)) rfl) (qD rfl (yT rfl rfl (by omega)) (qI rfl (rA (E := eBool) false 1 (.bool false) dD mk4 (fun _ => rfl) rfl rfl hX0.pins (by omega) (by omega) (by omega) (fun u1 w2 ho3 hp4 hl5 hk6 => ?_))))
 have hX7 := hX0.step hp4 hl5
 have ha11 : Apart u1.ownBlock bu.ownBlock := zI hk6 hou.lt
 have ha12 : Apart u1.ownBlock bv.ownBlock := zI hk6 hov.lt
 have ha13 : Apart u1.ownBlock (some b) := zG hk6 hbx.lt
 have ho14 : Own eBool 4 G w2 w.heap.size u1 (List.replicate (m + 1).toNat false) := ho3.weaken hX0.size
 have hm15 : (List.replicate (m + 1).toNat false).length = (m + 1).toNat := List.length_replicate ..
 refine qD rfl (zC (v := u1) rfl) (qe (zA (zD (zE ?_))))
 refine qD rfl (zB (v := u1) rfl) (qD rfl (zB (v := (.int .i64 m)) rfl) (qD rfl (zL dD sz4 (v := u1) rfl rfl ho14.read (by omega) (by omega)) (q0 rfl rfl rfl (kO (E := eBool) (v := u1) (u := (.bool true)) (z := m) (true) sz4 rfl rfl rfl rfl hX7.pins ho14 (by omega) (by omega) (fun w16 ho17 hp18 hg19 hz20 => ?_)))))
 have ho22 := (hou.below hl5).keptA hg19 ha11.symm
 have ho23 := (hov.below hl5).keptA hg19 ha12.symm
 have hb24 := (hbx.below hl5).keptA hg19 ha13.symm
 refine qe (zA (zD (zD (zE ?_))))
 refine qD rfl (zB (v := (.int .i64 m)) rfl) (qD rfl (zC (v := (.int .i64 m)) rfl) (qe (zA ?_)))
 refine yI (yZ (fun (k : Nat) (en : Nat → Value) (W : World) => ∃ (env1 : Nat → Value) (z : Int) (is : List Bool), en = (upd (upd (upd (upd env1 0 (.pointer (some ⟨b, 0, none⟩))) 4 (.slice none 0 0)) 5 u1) 6 (.int .i64 z)) ∧ k = (z + 1).toNat ∧ Ext noS G w G W ∧ (-1 ≤ z ∧ z ≤ m) ∧ (is.length = m.toNat + 1) ∧ (reachM ns m.toNat = ugo ns (z + 1).toNat is) ∧ (Own eBool 4 G W w.heap.size u1 (is)) ∧ (Own eNode 65 G W 0 bu (ns)) ∧ (Own eInt 3 G W 0 bv (bs)) ∧ (Bx G W b [bu, bv])) _ ⟨_, m, (List.replicate (m + 1).toNat false).set m.toNat true, (zF (x := 6) (zF (x := 5) (zF (x := 4) (yF (x := 0) rfl) rfl) rfl) rfl), rfl, (hX7.write hp18 hg19 ((yQ ho14))), (by omega), (by simp; omega), (by rw [show (m + 1).toNat = m.toNat + 1 by omega]; rfl), ho17, ho22, ho23, hb24⟩ ?_)
 rintro k25 _ w26 ⟨env1, z, is, rfl, hk27, hX28, hz, hnis, hr, hw29, hw30, hw31, hw32⟩
 refine zD (zD (zE ?_))
 refine qD rfl (zB (v := (.int .i64 z)) rfl) (qD rfl (rT rfl rfl) (qe (zA ?_)))
 refine yJ (p := (0 : Int) ≤ z) rfl rfl (fun h33 => ?_) (fun h33 => ?_)
 refine wp_skip (zA (zD ?_))
 refine yI (zD (zD (zE ?_)))
 refine qD rfl (zB (v := u1) rfl) (qD rfl (zB (v := (.int .i64 z)) rfl) (qD rfl (zL dD sz4 (v := u1) rfl rfl hw29.read (by omega) (by omega)) (qD rfl (jK (r := is.getD (z).toNat false) rfl ag4 (z := z) rfl hw29.read (Gadd.pins hX28.pins u1) (by omega) (by omega)) (qD rfl (xT rfl) (qe (zA ?_))))))
 refine xV rfl rfl (fun h34 => ?_) (fun h34 => ?_)
 refine wp_skip (zA (zD (zD (zE ?_))))
 refine qD rfl (zC (v := (.int .i64 0)) rfl) (qe (zA ?_))
 refine yI (yZ (fun (k : Nat) (en : Nat → Value) (W : World) => ∃ (env1 : Nat → Value) (i : Nat) (is2 : List Bool), en = (upd (upd (upd (upd (upd env1 0 (.pointer (some ⟨b, 0, none⟩))) 4 (.slice none 0 0)) 5 u1) 6 (.int .i64 z)) 7 (.int .i64 (i : Int))) ∧ k = (ns.getD (z).toNat default).l.length - i ∧ Ext noS G w G W ∧ (i ≤ (ns.getD (z).toNat default).l.length) ∧ (is2.length = m.toNat + 1) ∧ (setAll is (ns.getD (z).toNat default).l = setAll is2 ((ns.getD (z).toNat default).l.drop i)) ∧ (Own eBool 4 G W w.heap.size u1 (is2)) ∧ (Own eNode 65 G W 0 bu (ns)) ∧ (Own eInt 3 G W 0 bv (bs)) ∧ (Bx G W b [bu, bv])) _ ⟨_, 0, is, (zF (x := 7) (zF (x := 6) (zF (x := 5) (zF (x := 4) (yF (x := 0) rfl) rfl) rfl) rfl) rfl), rfl, hX28, Nat.zero_le _, hnis, rfl, hw29, hw30, hw31, hw32⟩ ?_)
 rintro k35 _ w36 ⟨env1, i, is2, rfl, hk37, hX38, hii, hnis2, hris2, hw39, hw40, hw41, hw42⟩
 refine zD (zD (zE ?_))
 refine qD rfl (zB (v := (.int .i64 (i : Int))) rfl) (qD rfl (zB (v := (.pointer (some ⟨b, 0, none⟩))) rfl) (qD rfl (xL rfl) (qD rfl (zM (k := 0) rfl dA rfl nz24 rfl) (qD rfl (zP (u := bu) ag24 rfl (hw42.cell (o := 0) rfl)) (qD rfl (zB (v := (.int .i64 z)) rfl) (qD rfl (zL eT sz65 (v := bu) rfl rfl hw40.read (by omega) (by omega)) (qD rfl (yS (off := 0) eX rfl rfl nz59 (z := z) (k := 0) rfl hw40.read (by omega) (by omega)) ?_)))))))
 obtain ⟨u43, hr44, hl45⟩ := vO (hw40.at (z := z) (by omega) (by omega)) (j := (z).toNat) rfl
 have hm46 := hr44.max
 refine qD rfl (hl45 ag59 rfl (Gadd.pins hX38.pins bu)) (qD rfl (run_len eR (v := u43) rfl hr44) (qD rfl (xB rfl rfl) (qe (zA ?_))))
 refine yJ (p := ((i : Int) : Int) < (((ns.getD (z).toNat default).l).length : Int)) rfl rfl (fun h47 => ?_) (fun h47 => ?_)
 have hk := hoo.left (j := (z).toNat) (i := i) (by omega) (by omega)
 refine wp_skip (zA (zD ?_))
 refine yI (zE (qD rfl (zB (v := u1) rfl) (qD rfl (zB (v := (.pointer (some ⟨b, 0, none⟩))) rfl) (qD rfl (xL rfl) (qD rfl (zM (k := 0) rfl dA rfl nz24 rfl) (qD rfl (zP (u := bu) ag24 rfl (hw42.cell (o := 0) rfl)) (qD rfl (zB (v := (.int .i64 z)) rfl) (qD rfl (zL eT sz65 (v := bu) rfl rfl hw40.read (by omega) (by omega)) (qD rfl (yS (off := 0) eX rfl rfl nz59 (z := z) (k := 0) rfl hw40.read (by omega) (by omega)) ?_)))))))))
 obtain ⟨u48, hr49, hl50⟩ := vO (hw40.at (z := z) (by omega) (by omega)) (j := (z).toNat) rfl
 have hm51 := hr49.max
 refine qD rfl (hl50 ag59 rfl (Gadd.pins hX38.pins bu)) (qD rfl (zB (v := (.int .i64 (i : Int))) rfl) (qD rfl (zL eR sz3 (v := u48) rfl rfl hr49 (by omega) (by omega)) (qD rfl (zZ (r := ((ns.getD (z).toNat default).l).getD i 0) rfl ag3 (z := (i : Int)) rfl hr49 hX38.pins (by omega) (by omega)) (qD rfl (zL dD sz4 (v := u1) rfl rfl hw39.read (by omega) (by omega)) (q0 rfl rfl rfl (kO (E := eBool) (v := u1) (u := (.bool true)) (z := (((ns.getD (z).toNat default).l).getD i 0)) (true) sz4 rfl rfl rfl rfl hX38.pins hw39 (by omega) (by omega) (fun w52 ho53 hp54 hg55 hz56 => ?_)))))))
 refine qe (yO (zA (zE ?_)))
 refine qD rfl (zB (v := (.int .i64 (i : Int))) rfl) (qD rfl (yT rfl rfl (by omega)) (qD rfl (zC (v := (.int .i64 ((i : Int) + 1))) rfl) (qe (yR (⟨_, ?_, _, rfl, _, i + 1, is2.set ((ns.getD (z).toNat default).l.getD i 0).toNat true, (zF (x := 7) (zF (x := 6) (zF (x := 5) (zF (x := 4) (yF (x := 0) rfl) rfl) rfl) rfl) rfl), rfl, (hX38.write hp54 hg55 ((yQ hw39))), (by omega), ((List.length_set ..).trans hnis2), (hris2.trans (rR (by omega))), ho53, (hw40.keptA hg55 ha11.symm), (hw41.keptA hg55 ha12.symm), (hw42.keptA hg55 ha13.symm)⟩)))))
 omega
 refine wp_exit (yK (yU (yV (zA (zD (zE ?_))))))
 refine qD rfl (zC (v := (.int .i64 0)) rfl) (qe (zA ?_))
 refine yI (yZ (fun (k : Nat) (en : Nat → Value) (W : World) => ∃ (env1 : Nat → Value) (i3 : Nat) (is3 : List Bool), en = (upd (upd (upd (upd (upd env1 0 (.pointer (some ⟨b, 0, none⟩))) 4 (.slice none 0 0)) 5 u1) 6 (.int .i64 z)) 8 (.int .i64 (i3 : Int))) ∧ k = (ns.getD (z).toNat default).r.length - i3 ∧ Ext noS G w G W ∧ (i3 ≤ (ns.getD (z).toNat default).r.length) ∧ (is3.length = m.toNat + 1) ∧ (setAll is2 (ns.getD (z).toNat default).r = setAll is3 ((ns.getD (z).toNat default).r.drop i3)) ∧ (Own eBool 4 G W w.heap.size u1 (is3)) ∧ (Own eNode 65 G W 0 bu (ns)) ∧ (Own eInt 3 G W 0 bv (bs)) ∧ (Bx G W b [bu, bv])) _ ⟨_, 0, is2, (zF (x := 8) (zF (x := 6) (zF (x := 5) (zF (x := 4) (yF (x := 0) rfl) rfl) rfl) rfl) rfl), rfl, hX38, Nat.zero_le _, hnis2, rfl, hw39, hw40, hw41, hw42⟩ ?_)
 rintro k61 _ w62 ⟨env1, i3, is3, rfl, hk63, hX64, hii3, hnis3, hris3, hw65, hw66, hw67, hw68⟩
 refine zD (zD (zE ?_))
 refine qD rfl (zB (v := (.int .i64 (i3 : Int))) rfl) (qD rfl (zB (v := (.pointer (some ⟨b, 0, none⟩))) rfl) (qD rfl (xL rfl) (qD rfl (zM (k := 0) rfl dA rfl nz24 rfl) (qD rfl (zP (u := bu) ag24 rfl (hw68.cell (o := 0) rfl)) (qD rfl (zB (v := (.int .i64 z)) rfl) (qD rfl (zL eT sz65 (v := bu) rfl rfl hw66.read (by omega) (by omega)) (qD rfl (yS (off := 1) eX rfl rfl nz59 (z := z) (k := 0) rfl hw66.read (by omega) (by omega)) ?_)))))))
 obtain ⟨u69, hr70, hl71⟩ := vH (hw66.at (z := z) (by omega) (by omega)) (j := (z).toNat) rfl
 have hm72 := hr70.max
 refine qD rfl (hl71 ag59 rfl (Gadd.pins hX64.pins bu)) (qD rfl (run_len eR (v := u69) rfl hr70) (qD rfl (xB rfl rfl) (qe (zA ?_))))
 refine yJ (p := ((i3 : Int) : Int) < (((ns.getD (z).toNat default).r).length : Int)) rfl rfl (fun h73 => ?_) (fun h73 => ?_)
 have hk := hoo.right (j := (z).toNat) (i := i3) (by omega) (by omega)
 refine wp_skip (zA (zD ?_))
 refine yI (zE (qD rfl (zB (v := u1) rfl) (qD rfl (zB (v := (.pointer (some ⟨b, 0, none⟩))) rfl) (qD rfl (xL rfl) (qD rfl (zM (k := 0) rfl dA rfl nz24 rfl) (qD rfl (zP (u := bu) ag24 rfl (hw68.cell (o := 0) rfl)) (qD rfl (zB (v := (.int .i64 z)) rfl) (qD rfl (zL eT sz65 (v := bu) rfl rfl hw66.read (by omega) (by omega)) (qD rfl (yS (off := 1) eX rfl rfl nz59 (z := z) (k := 0) rfl hw66.read (by omega) (by omega)) ?_)))))))))
 obtain ⟨u74, hr75, hl76⟩ := vH (hw66.at (z := z) (by omega) (by omega)) (j := (z).toNat) rfl
 have hm77 := hr75.max
 refine qD rfl (hl76 ag59 rfl (Gadd.pins hX64.pins bu)) (qD rfl (zB (v := (.int .i64 (i3 : Int))) rfl) (qD rfl (zL eR sz3 (v := u74) rfl rfl hr75 (by omega) (by omega)) (qD rfl (zZ (r := ((ns.getD (z).toNat default).r).getD i3 0) rfl ag3 (z := (i3 : Int)) rfl hr75 hX64.pins (by omega) (by omega)) (qD rfl (zL dD sz4 (v := u1) rfl rfl hw65.read (by omega) (by omega)) (q0 rfl rfl rfl (kO (E := eBool) (v := u1) (u := (.bool true)) (z := (((ns.getD (z).toNat default).r).getD i3 0)) (true) sz4 rfl rfl rfl rfl hX64.pins hw65 (by omega) (by omega) (fun w78 ho79 hp80 hg81 hz82 => ?_)))))))
 refine qe (yO (zA (zE ?_)))
 refine qD rfl (zB (v := (.int .i64 (i3 : Int))) rfl) (qD rfl (yT rfl rfl (by omega)) (qD rfl (zC (v := (.int .i64 ((i3 : Int) + 1))) rfl) (qe (yR (⟨_, ?_, _, rfl, _, i3 + 1, is3.set ((ns.getD (z).toNat default).r.getD i3 0).toNat true, (zF (x := 8) (zF (x := 6) (zF (x := 5) (zF (x := 4) (yF (x := 0) rfl) rfl) rfl) rfl) rfl), rfl, (hX64.write hp80 hg81 ((yQ hw65))), (by omega), ((List.length_set ..).trans hnis3), (hris3.trans (rR (by omega))), ho79, (hw66.keptA hg81 ha11.symm), (hw67.keptA hg81 ha12.symm), (hw68.keptA hg81 ha13.symm)⟩)))))
 omega
 refine wp_exit (yK (yU (yV (yO (zA (zE ?_))))))
 refine qD rfl (zB (v := (.int .i64 z)) rfl) (qD rfl (vN rfl rfl (by omega)) (qD rfl (zC (v := (.int .i64 (z - 1))) rfl) (qe (yR (⟨_, ?_, _, rfl, _, z - 1, is3, (zF (x := 6) (zF (x := 5) (zF (x := 4) (yF (x := 0) rfl) rfl) rfl) rfl), rfl, hX64, (by omega), hnis3, (hr.trans ((ugo_step (by omega)).trans (by rw [tU h34, hris2, nE (by omega), hris3, nE (by omega)]))), hw65, hw66, hw67, hw68⟩)))))
 omega
 refine wp_exit (yK (yV (zA (zE ?_))))
 refine qD rfl (zB (v := (.int .i64 z)) rfl) (qD rfl (vN rfl rfl (by omega)) (qD rfl (zC (v := (.int .i64 (z - 1))) rfl) (qe (yR (⟨_, ?_, _, rfl, _, z - 1, is, (zF (x := 6) (zF (x := 5) (zF (x := 4) (yF (x := 0) rfl) rfl) rfl) rfl), rfl, hX28, (by omega), hnis, (hr.trans ((ugo_step (by omega)).trans (by rw [ustep_no h34]))), hw29, hw30, hw31, hw32⟩)))))
 omega
 refine wp_exit (yK (yU (yV (zA (zD (zE ?_))))))
 refine qD rfl (zB (v := u1) rfl) (qD rfl (zC (v := u1) rfl) (qe (zA ?_)))
 exact wp_ret (zQ (yA (v := u1) rfl rfl rfl (⟨_, _, rfl, (by rw [hr, ugo_end (by omega)]; exact hw29), hX28⟩)))
theorem form_own {w : World} (hP : Pins G w) (hB : Bk 65 3 G w b bu bv ns bs) (hok : BookOk ns bs) (hm : 0 ≤ m ∧ m < ns.length) :
  Calls Tryz.prog 79 [(.pointer (some ⟨b, 0, none⟩)), (.int .i64 m)].toArray w fun e w' => ∃ (u : Value) (G' : Pin), e = .returned (.agg [u].toArray) ∧ RSl eNode G' u (formM ns bs m.toNat) ∧ Ext noS G w G' w' ∧ ∃ Gi, Own eNode 65 Gi w' w.heap.size u (formM ns bs m.toNat) ∧ Pin.le Gi G' := by
 refine yM (n := 143) Tryz.func79 Tryz.ntmps79 rfl rfl ?_
 have hX0 := exr noS hP
 have hbx := hB.bx
 have hou := hB.ou
 have hov := hB.ov
 have habu := hB.abu
 have habv := hB.abv
 have hauv := hB.auv
 have hlob : Lo w (inS b bu bv) (some b) := lo_b
 have hlou : Lo w (inS b bu bv) bu.ownBlock := lo_u
 have hlov : Lo w (inS b bu bv) bv.ownBlock := lo_v
 have hlen := hok.len
 have hlim := hok.lim
 have hoo : OptsOk ns := hok.optsOk
 refine zD (zE ?_)
 refine qI rfl (yL [(.slice none 0 0)] zr26 rfl hX0.pins (fun b1 w2 hk3 hb4 hp5 hl6 => ?_))
 have hX7 := hX0.step hp5 hl6
 have ho8 := hou.below hl6
 have ho9 := hov.below hl6
 have hb10 := hbx.below hl6
 have hlo14 : w.heap.size ≤ b1 := by have := hX0.size; omega
 refine qe (zA (zD (zE ?_)))
 refine qD rfl (zB (v := (.pointer (some ⟨b, 0, none⟩))) rfl) (qD rfl (zB (v := (.int .i64 m)) rfl) (qI rfl (zK (vs := [(.pointer (some ⟨b, 0, none⟩)), (.int .i64 m)]) Tryz.func128 nm128 rfl rfl rfl ?_)))
 refine dJ (reached_spec hX7.pins ⟨hb10, ho8, ho9, habu, habv, hauv⟩ hok hm) ?_
 rintro _ w17 ⟨u15, G16, rfl, ho18, hx19⟩
 refine ⟨_, rfl, ?_⟩
 have ho29 := ho18.weaken hX7.size
 obtain ⟨G30, hle33, hX32, hr31, hf34⟩ := ho29.sealed (hX7.tr hx19)
 have ho35 := (ho8.ext hx19).moreO hle33 hf34 (zV ho18.lt ho8.lt).symm
 have ho36 := (ho9.ext hx19).moreO hle33 hf34 (zV ho18.lt ho9.lt).symm
 have hb37 := (hb10.ext hx19).moreO hf34 (zX ho18.lt hb10.lt).symm
 have hb38 := (hb4.ext hx19).moreO hf34 (zX ho18.lt hb4.lt).symm
 have hnl := fH ns m.toNat
 refine qD rfl (zC (v := u15) rfl) (qe (zA (zD (zE ?_))))
 refine qD rfl (zB (v := (.int .i64 m)) rfl) (qD rfl (yT rfl rfl (by omega)) (qI rfl (rA (E := eInt) 0 8 (.int .i64 0) eR mk3 (fun _ => rfl) rfl rfl hX32.pins (by omega) (by omega) (by omega) (fun u39 w40 ho41 hp42 hl43 hk44 => ?_))))
 have hX45 := hX32.step hp42 hl43
 have ho46 := ho35.below hl43
 have ho47 := ho36.below hl43
 have hb48 := hb37.below hl43
 have hb49 := hb38.below hl43
 have ha50 : Apart u39.ownBlock bu.ownBlock := zI hk44 ho35.lt
 have ha51 : Apart u39.ownBlock bv.ownBlock := zI hk44 ho36.lt
 have ha52 : Apart u39.ownBlock (some b) := zG hk44 hb37.lt
 have ha53 : Apart u39.ownBlock (some b1) := zG hk44 hb38.lt
 have ho54 : Own eInt 3 G30 w40 w.heap.size u39 (List.replicate (m + 1).toNat 0) := ho41.weaken hX32.size
 have hm55 : (List.replicate (m + 1).toNat 0).length = (m + 1).toNat := List.length_replicate ..
 refine qD rfl (zC (v := u39) rfl) (qe (zA (zD (zE ?_))))
 refine qI rfl (xF (E := eNode) (e := 65) eT sz65 hX45.pins (fun u56 w57 ho58 hp59 hl60 hk61 => ?_))
 have hX62 := hX45.step hp59 hl60
 have ho63 := ho46.below hl60
 have ho64 := ho47.below hl60
 have ho65 := ho54.below hl60
 have hb66 := hb48.below hl60
 have hb67 := hb49.below hl60
 have ha68 : Apart u56.ownBlock bu.ownBlock := zI hk61 ho46.lt
 have ha69 : Apart u56.ownBlock bv.ownBlock := zI hk61 ho47.lt
 have ha70 : Apart u56.ownBlock u39.ownBlock := zI hk61 ho54.lt
 have ha71 : Apart u56.ownBlock (some b) := zG hk61 hb48.lt
 have ha72 : Apart u56.ownBlock (some b1) := zG hk61 hb49.lt
 have ho73 := ho58.weaken hX45.size
 refine qD rfl (yY [(.slice none 0 0)] [u56] [(0, u56, [u56])] eY zr26 rfl pl26 rfl (List.forall_mem_cons.2 ⟨(yW ho73.one), (fun _ h => by cases h)⟩) rfl) (qI rfl (yL [(.slice none 0 0)] zr26 rfl hX62.pins (fun b74 w75 hk76 hb77 hp78 hl79 => ?_)))
 have hX80 := hX62.step hp78 hl79
 have ho84 := ho73.below hl79
 have ha87 : Apart (some b74) bu.ownBlock := zI (congrArg some hk76) ho63.lt
 have ha88 : Apart (some b74) bv.ownBlock := zI (congrArg some hk76) ho64.lt
 have ha89 : Apart (some b74) u39.ownBlock := zI (congrArg some hk76) ho65.lt
 have ha90 : Apart (some b74) u56.ownBlock := zI (congrArg some hk76) ho73.lt
 have ha91 : Apart (some b74) (some b) := zG (congrArg some hk76) hb66.lt
 have ha92 : Apart (some b74) (some b1) := zG (congrArg some hk76) hb67.lt
 have hlo93 : w.heap.size ≤ b74 := by have := hX62.size; omega
 refine q0 rfl rfl rfl (yD (cs' := [u56]) (us := [u56]) (v := (.agg [u56].toArray)) sz26 rfl rfl rfl (yE ho84.one) hX80.pins hb77 (dK rfl) rfl (fun w94 hb95 hp96 hg97 hz98 => ?_))
 have hX99 := hX80.write hp96 hg97 ((zS hlo93))
 have ho100 := (ho63.below hl79).keptA hg97 ha87.symm
 have ho101 := (ho64.below hl79).keptA hg97 ha88.symm
 have ho102 := (ho65.below hl79).keptA hg97 ha89.symm
 have ho103 := ho84.keptA hg97 ha90.symm
 have hb104 := (hb66.below hl79).keptA hg97 ha91.symm
 have hb105 := (hb67.below hl79).keptA hg97 ha92.symm
 refine qe (zA (zD (zD (zE ?_))))
 refine qD rfl (zC (v := (.int .i64 0)) rfl) (qe (zA ?_))
 refine yI (yZ (fun (k : Nat) (en : Nat → Value) (W : World) => ∃ (env1 : Nat → Value) (q : Nat) (at_ : Value) (ats : List Int) (ov : Value) (outs : List Nd) (GL1 : Pin), en = (upd (upd (upd (upd (upd (upd (upd env1 0 (.pointer (some ⟨b, 0, none⟩))) 1 (.int .i64 m)) 4 (.pointer (some ⟨b1, 0, none⟩))) 5 u15) 6 at_) 7 (.pointer (some ⟨b74, 0, none⟩))) 8 (.int .i64 (q : Int))) ∧ k = (bs.getD m.toNat 0).toNat + 1 - q ∧ Ext noS G w GL1 W ∧ Pin.le G30 GL1 ∧ (q ≤ (bs.getD m.toNat 0).toNat + 1) ∧ (formGo ns bs (reachM ns m.toNat) (m.toNat + 1) q = (ats, outs)) ∧ (ats.length = m.toNat + 1) ∧ (outs.length ≤ q * 1048576) ∧ (Own eInt 3 GL1 W w.heap.size at_ (ats)) ∧ (Own eNode 65 GL1 W w.heap.size ov (outs)) ∧ (Own eNode 65 GL1 W 0 bu (ns)) ∧ (Own eInt 3 GL1 W 0 bv (bs)) ∧ (Bx GL1 W b [bu, bv]) ∧ (Bx GL1 W b1 [(.slice none 0 0)]) ∧ (Bx GL1 W b74 [ov]) ∧ (Apart at_.ownBlock ov.ownBlock) ∧ (Apart at_.ownBlock bu.ownBlock) ∧ (Apart at_.ownBlock bv.ownBlock) ∧ (Apart at_.ownBlock (some b)) ∧ (Apart at_.ownBlock (some b1)) ∧ (Apart at_.ownBlock (some b74)) ∧ (Apart ov.ownBlock bu.ownBlock) ∧ (Apart ov.ownBlock bv.ownBlock) ∧ (Apart ov.ownBlock (some b)) ∧ (Apart ov.ownBlock (some b1)) ∧ (Apart ov.ownBlock (some b74))) _ ⟨_, 0, u39, List.replicate (m + 1).toNat 0, u56, [], G30, (zF (x := 8) (zF (x := 7) (zF (x := 6) (zF (x := 5) (zF (x := 4) (zF (x := 1) (yF (x := 0) rfl) rfl) rfl) rfl) rfl) rfl) rfl), rfl, hX99, Pin.le_refl _, Nat.zero_le _, (by rw [show (m + 1).toNat = m.toNat + 1 by omega]; rfl), (by simp; omega), Nat.le_refl 0, ho102, ho103, ho100, ho101, hb104, hb105, hb95, ha70.symm, ha50, ha51, ha52, ha53, ha89.symm, ha68, ha69, ha71, ha72, ha90.symm⟩ ?_)
 rintro k106 _ w107 ⟨env1, q, at_, ats, ov, outs, GL1, rfl, hk108, hX109, hlek106, hq, hr, hatl, hol, hw110, hw111, hw112, hw113, hw114, hw115, hw116, ha117, ha118, ha119, ha120, ha121, ha122, ha123, ha124, ha125, ha126, ha127⟩
 have hbm := hok.born m.toNat (by omega)
 refine zD (zD (zE ?_))
 refine qD rfl (zB (v := (.int .i64 (q : Int))) rfl) (qD rfl (zB (v := (.pointer (some ⟨b, 0, none⟩))) rfl) (qD rfl (xL rfl) (qD rfl (zM (k := 1) rfl dA rfl nz59 rfl) (qD rfl (zP (u := bv) ag59 rfl (hw114.cell (o := 1) rfl)) (qD rfl (zB (v := (.int .i64 m)) rfl) (qD rfl (zL eR sz3 (v := bv) rfl rfl hw113.read (by omega) (by omega)) (qD rfl (zZ (r := bs.getD (m).toNat 0) rfl ag3 (z := m) rfl hw113.read (Gadd.pins hX109.pins bv) (by omega) (by omega)) (qD rfl (kL rfl rfl) (qe (zA ?_))))))))))
 refine yJ (p := ((q : Int) : Int) ≤ (bs.getD (m).toNat 0)) rfl rfl (fun h128 => ?_) (fun h128 => ?_)
 refine wp_skip (zA (zD ?_))
 refine yI (zD (zE ?_))
 refine qI rfl (xF (E := eNode) (e := 65) eT sz65 hX109.pins (fun u129 w130 ho131 hp132 hl133 hk134 => ?_))
 have hX135 := hX109.step hp132 hl133
 have ho136 := hw110.below hl133
 have ho137 := hw111.below hl133
 have ho138 := hw112.below hl133
 have ho139 := hw113.below hl133
 have hb140 := hw114.below hl133
 have hb141 := hw115.below hl133
 have hb142 := hw116.below hl133
 have ho150 := ho131.weaken hX109.size
 refine qI rfl (xF (E := eInt) (e := 3) eR sz3 hX135.pins (fun u151 w152 ho153 hp154 hl155 hk156 => ?_))
 have ho174 := ho153.weaken hX135.size
 refine qD rfl (zC (v := u129) rfl) (qD rfl (zC (v := u151) rfl) (qe (zA (zD (zD (zE ?_))))))
 refine qD rfl (zC (v := (.int .i64 0)) rfl) (qe (zA ?_))
 refine yI ?_
 obtain ⟨G179, hle182, hX181, hr180, hf183⟩ := (ho150.below hl155).sealed (hX135.step hp154 hl155)
 have ho184 := (ho136.below hl155).moreO hle182 hf183 (zI hk134 hw110.lt).symm
 obtain ⟨G192, hle195, hX194, hr193, hf196⟩ := (ho174.moreO hle182 hf183 (zI hk156 ho150.lt)).sealed hX181
 have ho198 := ((ho137.below hl155).moreO hle182 hf183 (zI hk134 hw111.lt).symm).moreO hle195 hf196 (zI hk156 ho137.lt).symm
 have ho199 := ((ho138.below hl155).moreO hle182 hf183 (zI hk134 hw112.lt).symm).moreO hle195 hf196 (zI hk156 ho138.lt).symm
 have ho200 := ((ho139.below hl155).moreO hle182 hf183 (zI hk134 hw113.lt).symm).moreO hle195 hf196 (zI hk156 ho139.lt).symm
 have hb201 := ((hb140.below hl155).moreO hf183 (zG hk134 hw114.lt).symm).moreO hf196 (zG hk156 hb140.lt).symm
 have hb202 := ((hb141.below hl155).moreO hf183 (zG hk134 hw115.lt).symm).moreO hf196 (zG hk156 hb141.lt).symm
 have hb203 := ((hb142.below hl155).moreO hf183 (zG hk134 hw116.lt).symm).moreO hf196 (zG hk156 hb142.lt).symm
 refine yZ (fun (k : Nat) (en : Nat → Value) (W : World) => ∃ (env1 : Nat → Value) (k5 : Nat) (lv : Value) (ls : List Nd) (fv : Value) (fr : List Int) (GL2 : Pin), en = (upd (upd (upd (upd (upd (upd (upd (upd (upd (upd env1 0 (.pointer (some ⟨b, 0, none⟩))) 1 (.int .i64 m)) 4 (.pointer (some ⟨b1, 0, none⟩))) 5 u15) 6 at_) 7 (.pointer (some ⟨b74, 0, none⟩))) 8 (.int .i64 (q : Int))) 9 lv) 10 fv) 11 (.int .i64 (k5 : Int))) ∧ k = m.toNat + 1 - k5 ∧ Ext noS G w GL2 W ∧ Pin.le G192 GL2 ∧ (k5 ≤ m.toNat + 1) ∧ (lvM ns bs (reachM ns m.toNat) ats q k5 = (ls, fr)) ∧ (ls.length = fr.length ∧ ls.length ≤ k5) ∧ (∀ i, i < fr.length → 0 ≤ fr.getD i 0 ∧ fr.getD i 0 ≤ m) ∧ (Own eInt 3 GL2 W w.heap.size at_ (ats)) ∧ (Own eNode 65 GL2 W w.heap.size ov (outs)) ∧ (Own eNode 65 GL2 W 0 bu (ns)) ∧ (Own eInt 3 GL2 W 0 bv (bs)) ∧ (Bx GL2 W b [bu, bv]) ∧ (Bx GL2 W b1 [(.slice none 0 0)]) ∧ (Bx GL2 W b74 [ov]) ∧ (RSl eNode GL2 lv (ls)) ∧ (RSl eInt GL2 fv (fr))) _ ⟨_, 0, u129, [], u151, [], G192, (zF (x := 11) (zF (x := 10) (zF (x := 9) (zF (x := 8) (zF (x := 7) (zF (x := 6) (zF (x := 5) (zF (x := 4) (zF (x := 1) (yF (x := 0) rfl) rfl) rfl) rfl) rfl) rfl) rfl) rfl) rfl) rfl), rfl, hX194, Pin.le_refl _, Nat.zero_le _, rfl, ⟨rfl, Nat.le_refl 0⟩, (fun i hi => absurd hi (Nat.not_lt_zero i)), (ho184.moreO hle195 hf196 (zI hk156 ho136.lt).symm), ho198, ho199, ho200, hb201, hb202, hb203, (hr180.mono hle195), hr193⟩ ?_
 rintro k175 _ w176 ⟨env1, k5, lv, ls, fv, fr, GL2, rfl, hk177, hX178, hlek175, hk5, hrl, hll, hfb, hw204, hw205, hw206, hw207, hw208, hw209, hw210, hr211, hr212⟩
 refine zD (zD (zE ?_))
 refine qD rfl (zB (v := (.int .i64 (k5 : Int))) rfl) (qD rfl (zB (v := (.int .i64 m)) rfl) (qD rfl (kL rfl rfl) (qe (zA ?_))))
 refine yJ (p := ((k5 : Int) : Int) ≤ m) rfl rfl (fun h213 => ?_) (fun h213 => ?_)
 have hlk := hok.lens k5 (by omega)
 refine wp_skip (zA (zD ?_))
 refine yI (zD (zD (zE ?_)))
 refine qD rfl (zB (v := u15) rfl) (qD rfl (zB (v := (.int .i64 (k5 : Int))) rfl) (qD rfl (zL dD sz4 (v := u15) rfl rfl hr31 (by omega) (by omega)) (qD rfl (jK (r := (reachM ns (m).toNat).getD k5 false) rfl ag4 (z := (k5 : Int)) rfl hr31 (dI hX178.pins (dH (dH (dH hlek106 hle182) hle195) hlek175)) (by omega) (by omega)) (qD rfl (xT rfl) (qD rfl (zB (v := (.bool (!((reachM ns (m).toNat).getD k5 false)))) rfl) (qbn (t := 46) rfl (fun h214 => ?_) (fun h214 => ?_)))))))
 refine qdg rfl rfl rfl rfl rfl rfl (zB (v := (.pointer (some ⟨b, 0, none⟩))) rfl) (qdg rfl rfl rfl rfl rfl rfl (xL rfl) (qdg rfl rfl rfl rfl rfl rfl (zM (k := 1) rfl dA rfl nz59 rfl) (qdg rfl rfl rfl rfl rfl rfl (zP (u := bv) ag59 rfl (hw208.cell (o := 1) rfl)) (qdg rfl rfl rfl rfl rfl rfl (zB (v := (.int .i64 (k5 : Int))) rfl) (qdg rfl rfl rfl rfl rfl rfl (zL eR sz3 (v := bv) rfl rfl hw207.read (by omega) (by omega)) (qdg rfl rfl rfl rfl rfl rfl (zZ (r := bs.getD k5 0) rfl ag3 (z := (k5 : Int)) rfl hw207.read (Gadd.pins hX178.pins bv) (by omega) (by omega)) (qdg rfl rfl rfl rfl rfl rfl (zB (v := (.int .i64 (q : Int))) rfl) (qdg rfl rfl rfl rfl rfl rfl (kK rfl rfl) (qD rfl (yN (v := (.bool (decide ((bs.getD k5 0 : Int) ≠ (q : Int))))) rfl rfl) (qe (zA ?_)))))))))))
 refine yJ (p := (bs.getD k5 0 : Int) ≠ (q : Int)) rfl rfl (fun h215 => ?_) (fun h215 => ?_)
 refine wp_exit (yK (yV (zA (zE ?_))))
 refine qD rfl (zB (v := (.int .i64 (k5 : Int))) rfl) (qD rfl (yT rfl rfl (by omega)) (qD rfl (zC (v := (.int .i64 ((k5 : Int) + 1))) rfl) (qe (yR (⟨_, ?_, _, rfl, _, k5 + 1, lv, ls, fv, fr, GL2, (zF (x := 11) (zF (x := 10) (zF (x := 9) (zF (x := 8) (zF (x := 7) (zF (x := 6) (zF (x := 5) (zF (x := 4) (zF (x := 1) (yF (x := 0) rfl) rfl) rfl) rfl) rfl) rfl) rfl) rfl) rfl) rfl), rfl, hX178, hlek175, (by omega), (lv_skip hrl (fun g => by have := g.2; omega)), (by omega), hfb, hw204, hw205, hw206, hw207, hw208, hw209, hw210, hr211, hr212⟩)))))
 omega
 refine wp_skip (zA (zD ?_))
 refine eH (fun (en : Nat → Value) (W : World) => ∃ (env1 : Nat → Value) (c216 : Nat) (c217 : Value) (c218 : Value) (G219 : Pin), en = (upd (upd (upd (upd (upd (upd (upd (upd (upd (upd (upd env1 0 (.pointer (some ⟨b, 0, none⟩))) 1 (.int .i64 m)) 4 (.pointer (some ⟨b1, 0, none⟩))) 5 u15) 6 at_) 7 (.pointer (some ⟨b74, 0, none⟩))) 8 (.int .i64 (q : Int))) 9 lv) 10 fv) 11 (.int .i64 (k5 : Int))) 12 (.pointer (some ⟨c216, 0, none⟩))) ∧ Ext noS G w G219 W ∧ Pin.le GL2 G219 ∧ (RSl eInt G219 c217 (sortL (atL ats ((ns.getD k5 default).l)))) ∧ (RSl eInt G219 c218 (sortL (atL ats ((ns.getD k5 default).r)))) ∧ (Own eInt 3 G219 W w.heap.size at_ ats) ∧ (Own eNode 65 G219 W w.heap.size ov outs) ∧ (Own eNode 65 G219 W 0 bu ns) ∧ (Own eInt 3 G219 W 0 bv bs) ∧ (Bx G219 W b [bu, bv]) ∧ (Bx G219 W b1 [(.slice none 0 0)]) ∧ (Bx G219 W b74 [ov]) ∧ (BxP G219 c216 [c217, c218])) ?_ ?_
 ·rintro _ w220 ⟨env1, c216, c217, c218, G219, rfl, hX231, hle232, hr221, hr222, ho223, ho224, ho225, ho226, hb227, hb228, hb229, hb230⟩
  refine zA (zD (zE ?_))
  refine qD rfl (zC (v := (.int .i64 0)) rfl) (qe (zA (zD ?_)))
  refine yI (c_cutE (fun (en : Nat → Value) (W : World) => ∃ (env1 : Nat → Value) (i : Nat) (GL3 : Pin), en = (upd (upd (upd (upd (upd (upd (upd (upd (upd (upd (upd (upd env1 0 (.pointer (some ⟨b, 0, none⟩))) 1 (.int .i64 m)) 4 (.pointer (some ⟨b1, 0, none⟩))) 5 u15) 6 at_) 7 (.pointer (some ⟨b74, 0, none⟩))) 8 (.int .i64 (q : Int))) 9 lv) 10 fv) 11 (.int .i64 (k5 : Int))) 12 (.pointer (some ⟨c216, 0, none⟩))) 13 (.int .i64 (i : Int))) ∧ Ext noS G w GL3 W ∧ Pin.le G219 GL3 ∧ (i ≤ ls.length) ∧ (posM ls (ndAt ats (ns.getD k5 default)) = i) ∧ (Own eInt 3 GL3 W w.heap.size at_ (ats)) ∧ (Own eNode 65 GL3 W w.heap.size ov (outs)) ∧ (Own eNode 65 GL3 W 0 bu (ns)) ∧ (Own eInt 3 GL3 W 0 bv (bs)) ∧ (Bx GL3 W b [bu, bv]) ∧ (Bx GL3 W b1 [(.slice none 0 0)]) ∧ (Bx GL3 W b74 [ov])) 4 ?_ ?_)
  ·rintro _ w234 ⟨env1, i, GL3, rfl, hX236, hlek233, hi, hpe, hw237, hw238, hw239, hw240, hw241, hw242, hw243⟩
   refine yV (zA (zD ?_))
   refine eH (fun (en : Nat → Value) (W : World) => ∃ (env1 : Nat → Value) (c244 : Value) (G245 : Pin), en = (upd (upd (upd (upd (upd (upd (upd (upd (upd (upd (upd env1 0 (.pointer (some ⟨b, 0, none⟩))) 1 (.int .i64 m)) 4 (.pointer (some ⟨b1, 0, none⟩))) 5 u15) 6 at_) 7 (.pointer (some ⟨b74, 0, none⟩))) 8 (.int .i64 (q : Int))) 9 c244) 10 fv) 11 (.int .i64 (k5 : Int))) 13 (.int .i64 (i : Int))) ∧ Ext noS G w G245 W ∧ Pin.le GL3 G245 ∧ (Own eInt 3 G245 W w.heap.size at_ ats) ∧ (Own eNode 65 G245 W w.heap.size ov outs) ∧ (Own eNode 65 G245 W 0 bu ns) ∧ (Own eInt 3 G245 W 0 bv bs) ∧ (Own eNode 65 G245 W w.heap.size c244 (((([]) ++ ((ls.take i).drop 0)) ++ ([(⟨sortL (atL ats ((ns.getD k5 default).l)), sortL (atL ats ((ns.getD k5 default).r))⟩ : Nd)])) ++ ((ls.take ls.length).drop i))) ∧ (Bx G245 W b [bu, bv]) ∧ (Bx G245 W b1 [(.slice none 0 0)]) ∧ (Bx G245 W b74 [ov]) ∧ (Apart at_.ownBlock c244.ownBlock) ∧ (Apart ov.ownBlock c244.ownBlock) ∧ (Apart bu.ownBlock c244.ownBlock) ∧ (Apart bv.ownBlock c244.ownBlock) ∧ (Apart c244.ownBlock (some b)) ∧ (Apart c244.ownBlock (some b1)) ∧ (Apart c244.ownBlock (some b74))) ?_ ?_
   ·rintro _ w246 ⟨env1, c244, G245, rfl, hX262, hle263, ho247, ho248, ho249, ho250, ho251, hb252, hb253, hb254, ha255, ha256, ha257, ha258, ha259, ha260, ha261⟩
    refine zA (eH (fun (en : Nat → Value) (W : World) => ∃ (env1 : Nat → Value) (c264 : Value) (G265 : Pin), en = (upd (upd (upd (upd (upd (upd (upd (upd (upd (upd env1 0 (.pointer (some ⟨b, 0, none⟩))) 1 (.int .i64 m)) 4 (.pointer (some ⟨b1, 0, none⟩))) 5 u15) 6 at_) 7 (.pointer (some ⟨b74, 0, none⟩))) 8 (.int .i64 (q : Int))) 9 c244) 10 c264) 11 (.int .i64 (k5 : Int))) ∧ Ext noS G w G265 W ∧ Pin.le G245 G265 ∧ (Own eInt 3 G265 W w.heap.size at_ ats) ∧ (Own eNode 65 G265 W w.heap.size ov outs) ∧ (Own eNode 65 G265 W 0 bu ns) ∧ (Own eInt 3 G265 W 0 bv bs) ∧ (Own eNode 65 G265 W w.heap.size c244 (((([]) ++ ((ls.take i).drop 0)) ++ ([(⟨sortL (atL ats ((ns.getD k5 default).l)), sortL (atL ats ((ns.getD k5 default).r))⟩ : Nd)])) ++ ((ls.take ls.length).drop i))) ∧ (Own eInt 3 G265 W w.heap.size c264 (((([]) ++ ((fr.take i).drop 0)) ++ ([(k5 : Int)])) ++ ((fr.take fr.length).drop i))) ∧ (Bx G265 W b [bu, bv]) ∧ (Bx G265 W b1 [(.slice none 0 0)]) ∧ (Bx G265 W b74 [ov]) ∧ (Apart at_.ownBlock c264.ownBlock) ∧ (Apart ov.ownBlock c264.ownBlock) ∧ (Apart bu.ownBlock c264.ownBlock) ∧ (Apart bv.ownBlock c264.ownBlock) ∧ (Apart c244.ownBlock c264.ownBlock) ∧ (Apart c264.ownBlock (some b)) ∧ (Apart c264.ownBlock (some b1)) ∧ (Apart c264.ownBlock (some b74))) ?_ ?_)
    ·rintro _ w266 ⟨env1, c264, G265, rfl, hX284, hle285, ho267, ho268, ho269, ho270, ho271, ho272, hb273, hb274, hb275, ha276, ha277, ha278, ha279, ha280, ha281, ha282, ha283⟩
     refine yO (zA (zE ?_))
     refine qD rfl (zB (v := (.int .i64 (k5 : Int))) rfl) (qD rfl (yT rfl rfl (by omega)) (qD rfl (zC (v := (.int .i64 ((k5 : Int) + 1))) rfl) (qe (yR ?_))))
     obtain ⟨G286, hle289, hX288, hr287, hf290⟩ := ho271.sealed hX284
     obtain ⟨G299, hle302, hX301, hr300, hf303⟩ := (ho272.moreO hle289 hf290 ha280.symm).sealed hX288
     have ho304 := (ho267.moreO hle289 hf290 ha255).moreO hle302 hf303 ha276
     have ho305 := (ho268.moreO hle289 hf290 ha256).moreO hle302 hf303 ha277
     have ho306 := (ho269.moreO hle289 hf290 ha257).moreO hle302 hf303 ha278
     have ho307 := (ho270.moreO hle289 hf290 ha258).moreO hle302 hf303 ha279
     have hi1 := ins_len (x := ndAt ats (ns.getD k5 default)) (l := ls) (i := i) (by omega)
     have hi2 := ins_len (x := (k5 : Int)) (l := fr) (i := i) (by omega)
     refine ⟨_, ?_, _, rfl, _, k5 + 1, c244, ((([]) ++ ((ls.take i).drop 0)) ++ ([(⟨sortL (atL ats ((ns.getD k5 default).l)), sortL (atL ats ((ns.getD k5 default).r))⟩ : Nd)])) ++ ((ls.take ls.length).drop i), c264, ((([]) ++ ((fr.take i).drop 0)) ++ ([(k5 : Int)])) ++ ((fr.take fr.length).drop i), G299, (zF (x := 11) (zF (x := 10) (zF (x := 9) (zF (x := 8) (zF (x := 7) (zF (x := 6) (zF (x := 5) (zF (x := 4) (zF (x := 1) (yF (x := 0) rfl) rfl) rfl) rfl) rfl) rfl) rfl) rfl) rfl) rfl), rfl, hX301, (dH (dH (dH (dH (dH (dH hlek175 hle232) hlek233) hle263) hle285) hle289) hle302), (by omega), (lv_ins hrl h214 (by omega) hpe), ⟨hi1.trans ((congrArg (· + 1) hll.1).trans hi2.symm), (by have : _ = _ := hi1; exact Nat.le_trans (Nat.le_of_eq hi1) (by omega))⟩, (ins_all (P := fun x => 0 ≤ x ∧ x ≤ m) hfb (by omega)), ho304, ho305, ho306, ho307, ((hb273.moreO hf290 ha259.symm).moreO hf303 ha281.symm), ((hb274.moreO hf290 ha260.symm).moreO hf303 ha282.symm), ((hb275.moreO hf290 ha261.symm).moreO hf303 ha283.symm), (hr287.mono hle302), hr300⟩
     omega
    refine xD (S := fun wz => Pins G245 wz) (last := 13) (by kernel_rfl) rfl ?_
    have hl311 := bdr w246
    have hX313 := hX262.step (hX262.pins.below hl311) hl311
    have ho314 := ho247.below hl311
    have ho315 := ho248.below hl311
    have ho316 := ho249.below hl311
    have ho317 := ho250.below hl311
    have ho318 := ho251.below hl311
    have hb319 := hb252.below hl311
    have hb320 := hb253.below hl311
    have hb321 := hb254.below hl311
    refine dT (i := 1) rfl rfl (by kernel_rfl) (fun _ _ => zB (v := fv) rfl) hX313.pins ?_
    refine dT (i := 2) rfl rfl (by kernel_rfl) (fun _ _ => zB (v := (.int .i64 (i : Int))) rfl) hX313.pins ?_
    obtain ⟨u322, hr323, hl324⟩ := qR hr212 (lo := none) (hi := (some ((i : Int)))) (0) (i) (Or.inl ⟨rfl, rfl⟩) (Or.inr ⟨_, rfl, (by omega), rfl⟩) (by omega) (by omega)
    refine dT (i := 3) rfl rfl (by kernel_rfl) (fun _ _ => hl324 eR sz3 rfl rfl rfl) hX313.pins ?_
    refine dT (i := 5) rfl rfl (by kernel_rfl) (fun _ _ => zB (v := (.int .i64 (k5 : Int))) rfl) hX313.pins ?_
    refine dT (i := 8) rfl rfl (by kernel_rfl) (fun _ _ => zB (v := fv) rfl) hX313.pins ?_
    refine dT (i := 9) rfl rfl (by kernel_rfl) (fun _ _ => zB (v := (.int .i64 (i : Int))) rfl) hX313.pins ?_
    obtain ⟨u325, hr326, hl327⟩ := qR hr212 (lo := (some ((i : Int)))) (hi := none) (i) (fr.length) (Or.inr ⟨_, rfl, (by omega), rfl⟩) (Or.inl ⟨rfl, rfl⟩) (by omega) (by omega)
    refine dT (i := 10) rfl rfl (by kernel_rfl) (fun _ _ => hl327 eR sz3 rfl rfl rfl) hX313.pins ?_
    refine jI (i := 0) (j := 6) (by kernel_rfl) ?_ ?_
    refine (yC (i := 0) rfl rfl rfl (zH rfl _) (xF (E := eInt) (e := 3) eR sz3 hX313.pins (fun u328 w329 ho330 hp331 hl332 hk333 => ?_)))
    have hX334 := hX313.step hp331 hl332
    have ho335 := ho314.below hl332
    have ho336 := ho315.below hl332
    have ho337 := ho316.below hl332
    have ho338 := ho317.below hl332
    have ho339 := ho318.below hl332
    have hb340 := hb319.below hl332
    have hb341 := hb320.below hl332
    have hb342 := hb321.below hl332
    have ha343 : Apart u328.ownBlock at_.ownBlock := zI hk333 ho314.lt
    have ha344 : Apart u328.ownBlock ov.ownBlock := zI hk333 ho315.lt
    have ha345 : Apart u328.ownBlock bu.ownBlock := zI hk333 ho316.lt
    have ha346 : Apart u328.ownBlock bv.ownBlock := zI hk333 ho317.lt
    have ha347 : Apart u328.ownBlock c244.ownBlock := zI hk333 ho318.lt
    have ha348 : Apart u328.ownBlock (some b) := zG hk333 hb319.lt
    have ha349 : Apart u328.ownBlock (some b1) := zG hk333 hb320.lt
    have ha350 : Apart u328.ownBlock (some b74) := zG hk333 hb321.lt
    have ho351 := ho330.weaken hX313.size
    refine ⟨fun _ => hX334.pins, ?_⟩
    refine jI (i := 4) (j := 6) (by kernel_rfl) ?_ ?_
    refine (yC (i := 4) rfl rfl rfl (zH rfl _) (yH (E := eInt) (v := u328) (u := u322) 8 eR ap3 (by decide) rfl rfl hX334.pins ho351 ((hr323.mono (dH (dH hle232 hlek233) hle263)).src hX334.pins (by decide)) (by first | omega | (rw [List.nil_append]; omega) | (rw [List.length_nil]; omega) | (rw [List.length_append]; omega) | (simp; done) | (simp; omega) | (simp only [List.length_append, List.length_cons, List.length_nil]; omega)) (by first | omega | (rw [List.nil_append]; omega) | (rw [List.length_nil]; omega) | (rw [List.length_append]; omega) | (simp; done) | (simp; omega) | (simp only [List.length_append, List.length_cons, List.length_nil]; omega)) (hX334.size) (fun u352 w353 ho354 hp355 hg356 hw357 => ?_)))
    have hX358 := hX334.write hp355 hg356 ((yQ ho351))
    have ha367 : Apart at_.ownBlock u352.ownBlock := zJ ha343.symm hw357 ho335.lt
    have ha368 : Apart ov.ownBlock u352.ownBlock := zJ ha344.symm hw357 ho336.lt
    have ha369 : Apart bu.ownBlock u352.ownBlock := zJ ha345.symm hw357 ho337.lt
    have ha370 : Apart bv.ownBlock u352.ownBlock := zJ ha346.symm hw357 ho338.lt
    have ha371 : Apart c244.ownBlock u352.ownBlock := zJ ha347.symm hw357 ho339.lt
    have ha372 : Apart (some b) u352.ownBlock := zN ha348.symm hw357 hb340.lt
    have ha373 : Apart (some b1) u352.ownBlock := zN ha349.symm hw357 hb341.lt
    have ha374 : Apart (some b74) u352.ownBlock := zN ha350.symm hw357 hb342.lt
    have hm375 := la2 ([]) ((fr.take i).drop 0)
    refine ⟨fun _ => hX358.pins, ?_⟩
    refine zR (i := 6) (by kernel_rfl) (yC (i := 6) rfl rfl rfl (zH rfl _) (xI (E := eInt) (e := 3) [(.int .i64 (k5 : Int))] [(k5 : Int)] eR sz3 zr3 (by exact qQ (by rfl)) (yE (by rfl)) rfl rfl rfl rfl (by decide) hX358.pins (fun u376 w377 ho378 hp379 hl380 hk381 => ?_)))
    have hX382 := hX358.step hp379 hl380
    have ho383 := (ho335.keptA hg356 ha343.symm).below hl380
    have ho384 := (ho336.keptA hg356 ha344.symm).below hl380
    have ho385 := (ho337.keptA hg356 ha345.symm).below hl380
    have ho386 := (ho338.keptA hg356 ha346.symm).below hl380
    have ho387 := (ho339.keptA hg356 ha347.symm).below hl380
    have ho388 := ho354.below hl380
    have hb389 := (hb340.keptA hg356 ha348.symm).below hl380
    have hb390 := (hb341.keptA hg356 ha349.symm).below hl380
    have hb391 := (hb342.keptA hg356 ha350.symm).below hl380
    have ho401 := ho378.weaken hX358.size
    refine ⟨fun _ => hX382.pins, ?_⟩
    refine zR (i := 7) (by kernel_rfl) (yC (i := 7) rfl rfl rfl (zH rfl _) (yH (E := eInt) (v := u352) (u := u376) 8 eR ap3 (by decide) rfl rfl hX382.pins ho388 ho401.src (by first | omega | (rw [List.nil_append]; omega) | (rw [List.length_nil]; omega) | (rw [List.length_append]; omega) | (simp; done) | (simp; omega) | (simp only [List.length_append, List.length_cons, List.length_nil]; omega)) (by first | omega | (rw [List.nil_append]; omega) | (rw [List.length_nil]; omega) | (rw [List.length_append]; omega) | (simp; done) | (simp; omega) | (simp only [List.length_append, List.length_cons, List.length_nil]; omega)) (hX382.size) (fun u402 w403 ho404 hp405 hg406 hw407 => ?_)))
    have hX408 := hX382.write hp405 hg406 ((yQ ho388))
    have ho409 := ho383.keptA hg406 ha367
    have ho410 := ho384.keptA hg406 ha368
    have ho411 := ho385.keptA hg406 ha369
    have ho412 := ho386.keptA hg406 ha370
    have ho413 := ho387.keptA hg406 ha371
    have hb415 := hb389.keptA hg406 ha372
    have hb416 := hb390.keptA hg406 ha373
    have hb417 := hb391.keptA hg406 ha374
    have ha418 : Apart at_.ownBlock u402.ownBlock := zJ ha367 hw407 ho383.lt
    have ha419 : Apart ov.ownBlock u402.ownBlock := zJ ha368 hw407 ho384.lt
    have ha420 : Apart bu.ownBlock u402.ownBlock := zJ ha369 hw407 ho385.lt
    have ha421 : Apart bv.ownBlock u402.ownBlock := zJ ha370 hw407 ho386.lt
    have ha422 : Apart c244.ownBlock u402.ownBlock := zJ ha371 hw407 ho387.lt
    have ha424 : Apart (some b) u402.ownBlock := zN ha372 hw407 hb389.lt
    have ha425 : Apart (some b1) u402.ownBlock := zN ha373 hw407 hb390.lt
    have ha426 : Apart (some b74) u402.ownBlock := zN ha374 hw407 hb391.lt
    have hm427 := la1 (([]) ++ ((fr.take i).drop 0)) (k5 : Int)
    refine ⟨fun _ => hX408.pins, ?_⟩
    refine zR (i := 11) (by kernel_rfl) (yC (i := 11) rfl rfl rfl (zH rfl _) (yH (E := eInt) (v := u402) (u := u325) 8 eR ap3 (by decide) rfl rfl hX408.pins ho404 ((hr326.mono (dH (dH hle232 hlek233) hle263)).src hX408.pins (by decide)) (by first | omega | (rw [List.nil_append]; omega) | (rw [List.length_nil]; omega) | (rw [List.length_append]; omega) | (simp; done) | (simp; omega) | (simp only [List.length_append, List.length_cons, List.length_nil]; omega)) (by first | omega | (rw [List.nil_append]; omega) | (rw [List.length_nil]; omega) | (rw [List.length_append]; omega) | (simp; done) | (simp; omega) | (simp only [List.length_append, List.length_cons, List.length_nil]; omega)) (hX408.size) (fun u428 w429 ho430 hp431 hg432 hw433 => ?_)))
    have hX434 := hX408.write hp431 hg432 ((yQ ho404))
    have hm451 := la2 ((([]) ++ ((fr.take i).drop 0)) ++ ([(k5 : Int)])) ((fr.take fr.length).drop i)
    refine ⟨fun _ => hX434.pins, ?_⟩
    refine dT (i := 12) rfl rfl (by kernel_rfl) (fun _ _ => zC (v := u428) rfl) hX434.pins ?_
    exact yP (by kernel_rfl) (qS ⟨_, u428, G245, (zF (x := 11) (zF (x := 10) (zF (x := 9) (zF (x := 8) (zF (x := 7) (zF (x := 6) (zF (x := 5) (zF (x := 4) (zF (x := 1) (yF (x := 0) rfl) rfl) rfl) rfl) rfl) rfl) rfl) rfl) rfl) rfl), hX434, (Pin.le_refl _), (ho409.keptA hg432 ha418), (ho410.keptA hg432 ha419), (ho411.keptA hg432 ha420), (ho412.keptA hg432 ha421), (ho413.keptA hg432 ha422), ho430, (hb415.keptA hg432 ha424), (hb416.keptA hg432 ha425), (hb417.keptA hg432 ha426), (zJ ha418 hw433 ho409.lt), (zJ ha419 hw433 ho410.lt), (zJ ha420 hw433 ho411.lt), (zJ ha421 hw433 ho412.lt), (zJ ha422 hw433 ho413.lt), (zN ha424 hw433 hb415.lt).symm, (zN ha425 hw433 hb416.lt).symm, (zN ha426 hw433 hb417.lt).symm⟩)
    refine (yC (i := 6) rfl rfl rfl (zH rfl _) (xI (E := eInt) (e := 3) [(.int .i64 (k5 : Int))] [(k5 : Int)] eR sz3 zr3 (by exact qQ (by rfl)) (yE (by rfl)) rfl rfl rfl rfl (by decide) hX334.pins (fun u452 w453 ho454 hp455 hl456 hk457 => ?_)))
    have hX458 := hX334.step hp455 hl456
    have ho459 := ho335.below hl456
    have ho460 := ho336.below hl456
    have ho461 := ho337.below hl456
    have ho462 := ho338.below hl456
    have ho463 := ho339.below hl456
    have ho464 := ho351.below hl456
    have hb465 := hb340.below hl456
    have hb466 := hb341.below hl456
    have hb467 := hb342.below hl456
    have ho477 := ho454.weaken hX334.size
    refine ⟨fun _ => hX458.pins, ?_⟩
    refine zR (i := 4) (by kernel_rfl) (yC (i := 4) rfl rfl rfl (zH rfl _) (yH (E := eInt) (v := u328) (u := u322) 8 eR ap3 (by decide) rfl rfl hX458.pins ho464 ((hr323.mono (dH (dH hle232 hlek233) hle263)).src hX458.pins (by decide)) (by first | omega | (rw [List.nil_append]; omega) | (rw [List.length_nil]; omega) | (rw [List.length_append]; omega) | (simp; done) | (simp; omega) | (simp only [List.length_append, List.length_cons, List.length_nil]; omega)) (by first | omega | (rw [List.nil_append]; omega) | (rw [List.length_nil]; omega) | (rw [List.length_append]; omega) | (simp; done) | (simp; omega) | (simp only [List.length_append, List.length_cons, List.length_nil]; omega)) (hX458.size) (fun u478 w479 ho480 hp481 hg482 hw483 => ?_)))
    have hX484 := hX458.write hp481 hg482 ((yQ ho464))
    have ho485 := ho459.keptA hg482 ha343.symm
    have ho486 := ho460.keptA hg482 ha344.symm
    have ho487 := ho461.keptA hg482 ha345.symm
    have ho488 := ho462.keptA hg482 ha346.symm
    have ho489 := ho463.keptA hg482 ha347.symm
    have hb491 := hb465.keptA hg482 ha348.symm
    have hb492 := hb466.keptA hg482 ha349.symm
    have hb493 := hb467.keptA hg482 ha350.symm
    have ha494 : Apart at_.ownBlock u478.ownBlock := zJ ha343.symm hw483 ho459.lt
    have ha495 : Apart ov.ownBlock u478.ownBlock := zJ ha344.symm hw483 ho460.lt
    have ha496 : Apart bu.ownBlock u478.ownBlock := zJ ha345.symm hw483 ho461.lt
    have ha497 : Apart bv.ownBlock u478.ownBlock := zJ ha346.symm hw483 ho462.lt
    have ha498 : Apart c244.ownBlock u478.ownBlock := zJ ha347.symm hw483 ho463.lt
    have ha500 : Apart (some b) u478.ownBlock := zN ha348.symm hw483 hb465.lt
    have ha501 : Apart (some b1) u478.ownBlock := zN ha349.symm hw483 hb466.lt
    have ha502 : Apart (some b74) u478.ownBlock := zN ha350.symm hw483 hb467.lt
    have hm503 := la2 ([]) ((fr.take i).drop 0)
    refine ⟨fun _ => hX484.pins, ?_⟩
    refine zR (i := 7) (by kernel_rfl) (yC (i := 7) rfl rfl rfl (zH rfl _) (yH (E := eInt) (v := u478) (u := u452) 8 eR ap3 (by decide) rfl rfl hX484.pins ho480 (ho477.keptA hg482 (zI hk457 ho351.lt)).src (by first | omega | (rw [List.nil_append]; omega) | (rw [List.length_nil]; omega) | (rw [List.length_append]; omega) | (simp; done) | (simp; omega) | (simp only [List.length_append, List.length_cons, List.length_nil]; omega)) (by first | omega | (rw [List.nil_append]; omega) | (rw [List.length_nil]; omega) | (rw [List.length_append]; omega) | (simp; done) | (simp; omega) | (simp only [List.length_append, List.length_cons, List.length_nil]; omega)) (hX484.size) (fun u504 w505 ho506 hp507 hg508 hw509 => ?_)))
    have hX510 := hX484.write hp507 hg508 ((yQ ho480))
    have ho511 := ho485.keptA hg508 ha494
    have ho512 := ho486.keptA hg508 ha495
    have ho513 := ho487.keptA hg508 ha496
    have ho514 := ho488.keptA hg508 ha497
    have ho515 := ho489.keptA hg508 ha498
    have hb517 := hb491.keptA hg508 ha500
    have hb518 := hb492.keptA hg508 ha501
    have hb519 := hb493.keptA hg508 ha502
    have ha520 : Apart at_.ownBlock u504.ownBlock := zJ ha494 hw509 ho485.lt
    have ha521 : Apart ov.ownBlock u504.ownBlock := zJ ha495 hw509 ho486.lt
    have ha522 : Apart bu.ownBlock u504.ownBlock := zJ ha496 hw509 ho487.lt
    have ha523 : Apart bv.ownBlock u504.ownBlock := zJ ha497 hw509 ho488.lt
    have ha524 : Apart c244.ownBlock u504.ownBlock := zJ ha498 hw509 ho489.lt
    have ha526 : Apart (some b) u504.ownBlock := zN ha500 hw509 hb491.lt
    have ha527 : Apart (some b1) u504.ownBlock := zN ha501 hw509 hb492.lt
    have ha528 : Apart (some b74) u504.ownBlock := zN ha502 hw509 hb493.lt
    have hm529 := la1 (([]) ++ ((fr.take i).drop 0)) (k5 : Int)
    refine ⟨fun _ => hX510.pins, ?_⟩
    refine zR (i := 11) (by kernel_rfl) (yC (i := 11) rfl rfl rfl (zH rfl _) (yH (E := eInt) (v := u504) (u := u325) 8 eR ap3 (by decide) rfl rfl hX510.pins ho506 ((hr326.mono (dH (dH hle232 hlek233) hle263)).src hX510.pins (by decide)) (by first | omega | (rw [List.nil_append]; omega) | (rw [List.length_nil]; omega) | (rw [List.length_append]; omega) | (simp; done) | (simp; omega) | (simp only [List.length_append, List.length_cons, List.length_nil]; omega)) (by first | omega | (rw [List.nil_append]; omega) | (rw [List.length_nil]; omega) | (rw [List.length_append]; omega) | (simp; done) | (simp; omega) | (simp only [List.length_append, List.length_cons, List.length_nil]; omega)) (hX510.size) (fun u530 w531 ho532 hp533 hg534 hw535 => ?_)))
    have hX536 := hX510.write hp533 hg534 ((yQ ho506))
    have hm553 := la2 ((([]) ++ ((fr.take i).drop 0)) ++ ([(k5 : Int)])) ((fr.take fr.length).drop i)
    refine ⟨fun _ => hX536.pins, ?_⟩
    refine dT (i := 12) rfl rfl (by kernel_rfl) (fun _ _ => zC (v := u530) rfl) hX536.pins ?_
    exact yP (by kernel_rfl) (qS ⟨_, u530, G245, (zF (x := 11) (zF (x := 10) (zF (x := 9) (zF (x := 8) (zF (x := 7) (zF (x := 6) (zF (x := 5) (zF (x := 4) (zF (x := 1) (yF (x := 0) rfl) rfl) rfl) rfl) rfl) rfl) rfl) rfl) rfl) rfl), hX536, (Pin.le_refl _), (ho511.keptA hg534 ha520), (ho512.keptA hg534 ha521), (ho513.keptA hg534 ha522), (ho514.keptA hg534 ha523), (ho515.keptA hg534 ha524), ho532, (hb517.keptA hg534 ha526), (hb518.keptA hg534 ha527), (hb519.keptA hg534 ha528), (zJ ha520 hw535 ho511.lt), (zJ ha521 hw535 ho512.lt), (zJ ha522 hw535 ho513.lt), (zJ ha523 hw535 ho514.lt), (zJ ha524 hw535 ho515.lt), (zN ha526 hw535 hb517.lt).symm, (zN ha527 hw535 hb518.lt).symm, (zN ha528 hw535 hb519.lt).symm⟩)
    refine (yC (i := 6) rfl rfl rfl (zH rfl _) (xI (E := eInt) (e := 3) [(.int .i64 (k5 : Int))] [(k5 : Int)] eR sz3 zr3 (by exact qQ (by rfl)) (yE (by rfl)) rfl rfl rfl rfl (by decide) hX313.pins (fun u554 w555 ho556 hp557 hl558 hk559 => ?_)))
    have hX560 := hX313.step hp557 hl558
    have ho561 := ho314.below hl558
    have ho562 := ho315.below hl558
    have ho563 := ho316.below hl558
    have ho564 := ho317.below hl558
    have ho565 := ho318.below hl558
    have hb566 := hb319.below hl558
    have hb567 := hb320.below hl558
    have hb568 := hb321.below hl558
    have ho577 := ho556.weaken hX313.size
    refine ⟨fun _ => hX560.pins, ?_⟩
    refine zR (i := 0) (by kernel_rfl) (yC (i := 0) rfl rfl rfl (zH rfl _) (xF (E := eInt) (e := 3) eR sz3 hX560.pins (fun u578 w579 ho580 hp581 hl582 hk583 => ?_)))
    have hX584 := hX560.step hp581 hl582
    have ho585 := ho561.below hl582
    have ho586 := ho562.below hl582
    have ho587 := ho563.below hl582
    have ho588 := ho564.below hl582
    have ho589 := ho565.below hl582
    have hb591 := hb566.below hl582
    have hb592 := hb567.below hl582
    have hb593 := hb568.below hl582
    have ha594 : Apart u578.ownBlock at_.ownBlock := zI hk583 ho561.lt
    have ha595 : Apart u578.ownBlock ov.ownBlock := zI hk583 ho562.lt
    have ha596 : Apart u578.ownBlock bu.ownBlock := zI hk583 ho563.lt
    have ha597 : Apart u578.ownBlock bv.ownBlock := zI hk583 ho564.lt
    have ha598 : Apart u578.ownBlock c244.ownBlock := zI hk583 ho565.lt
    have ha600 : Apart u578.ownBlock (some b) := zG hk583 hb566.lt
    have ha601 : Apart u578.ownBlock (some b1) := zG hk583 hb567.lt
    have ha602 : Apart u578.ownBlock (some b74) := zG hk583 hb568.lt
    have ho603 := ho580.weaken hX560.size
    refine ⟨fun _ => hX584.pins, ?_⟩
    refine zR (i := 4) (by kernel_rfl) (yC (i := 4) rfl rfl rfl (zH rfl _) (yH (E := eInt) (v := u578) (u := u322) 8 eR ap3 (by decide) rfl rfl hX584.pins ho603 ((hr323.mono (dH (dH hle232 hlek233) hle263)).src hX584.pins (by decide)) (by first | omega | (rw [List.nil_append]; omega) | (rw [List.length_nil]; omega) | (rw [List.length_append]; omega) | (simp; done) | (simp; omega) | (simp only [List.length_append, List.length_cons, List.length_nil]; omega)) (by first | omega | (rw [List.nil_append]; omega) | (rw [List.length_nil]; omega) | (rw [List.length_append]; omega) | (simp; done) | (simp; omega) | (simp only [List.length_append, List.length_cons, List.length_nil]; omega)) (hX584.size) (fun u604 w605 ho606 hp607 hg608 hw609 => ?_)))
    have hX610 := hX584.write hp607 hg608 ((yQ ho603))
    have ho611 := ho585.keptA hg608 ha594.symm
    have ho612 := ho586.keptA hg608 ha595.symm
    have ho613 := ho587.keptA hg608 ha596.symm
    have ho614 := ho588.keptA hg608 ha597.symm
    have ho615 := ho589.keptA hg608 ha598.symm
    have hb617 := hb591.keptA hg608 ha600.symm
    have hb618 := hb592.keptA hg608 ha601.symm
    have hb619 := hb593.keptA hg608 ha602.symm
    have ha620 : Apart at_.ownBlock u604.ownBlock := zJ ha594.symm hw609 ho585.lt
    have ha621 : Apart ov.ownBlock u604.ownBlock := zJ ha595.symm hw609 ho586.lt
    have ha622 : Apart bu.ownBlock u604.ownBlock := zJ ha596.symm hw609 ho587.lt
    have ha623 : Apart bv.ownBlock u604.ownBlock := zJ ha597.symm hw609 ho588.lt
    have ha624 : Apart c244.ownBlock u604.ownBlock := zJ ha598.symm hw609 ho589.lt
    have ha626 : Apart (some b) u604.ownBlock := zN ha600.symm hw609 hb591.lt
    have ha627 : Apart (some b1) u604.ownBlock := zN ha601.symm hw609 hb592.lt
    have ha628 : Apart (some b74) u604.ownBlock := zN ha602.symm hw609 hb593.lt
    have hm629 := la2 ([]) ((fr.take i).drop 0)
    refine ⟨fun _ => hX610.pins, ?_⟩
    refine zR (i := 7) (by kernel_rfl) (yC (i := 7) rfl rfl rfl (zH rfl _) (yH (E := eInt) (v := u604) (u := u554) 8 eR ap3 (by decide) rfl rfl hX610.pins ho606 ((ho577.below hl582).keptA hg608 (zI hk583 ho577.lt).symm).src (by first | omega | (rw [List.nil_append]; omega) | (rw [List.length_nil]; omega) | (rw [List.length_append]; omega) | (simp; done) | (simp; omega) | (simp only [List.length_append, List.length_cons, List.length_nil]; omega)) (by first | omega | (rw [List.nil_append]; omega) | (rw [List.length_nil]; omega) | (rw [List.length_append]; omega) | (simp; done) | (simp; omega) | (simp only [List.length_append, List.length_cons, List.length_nil]; omega)) (hX610.size) (fun u630 w631 ho632 hp633 hg634 hw635 => ?_)))
    have hX636 := hX610.write hp633 hg634 ((yQ ho606))
    have ho637 := ho611.keptA hg634 ha620
    have ho638 := ho612.keptA hg634 ha621
    have ho639 := ho613.keptA hg634 ha622
    have ho640 := ho614.keptA hg634 ha623
    have ho641 := ho615.keptA hg634 ha624
    have hb643 := hb617.keptA hg634 ha626
    have hb644 := hb618.keptA hg634 ha627
    have hb645 := hb619.keptA hg634 ha628
    have ha646 : Apart at_.ownBlock u630.ownBlock := zJ ha620 hw635 ho611.lt
    have ha647 : Apart ov.ownBlock u630.ownBlock := zJ ha621 hw635 ho612.lt
    have ha648 : Apart bu.ownBlock u630.ownBlock := zJ ha622 hw635 ho613.lt
    have ha649 : Apart bv.ownBlock u630.ownBlock := zJ ha623 hw635 ho614.lt
    have ha650 : Apart c244.ownBlock u630.ownBlock := zJ ha624 hw635 ho615.lt
    have ha652 : Apart (some b) u630.ownBlock := zN ha626 hw635 hb617.lt
    have ha653 : Apart (some b1) u630.ownBlock := zN ha627 hw635 hb618.lt
    have ha654 : Apart (some b74) u630.ownBlock := zN ha628 hw635 hb619.lt
    have hm655 := la1 (([]) ++ ((fr.take i).drop 0)) (k5 : Int)
    refine ⟨fun _ => hX636.pins, ?_⟩
    refine zR (i := 11) (by kernel_rfl) (yC (i := 11) rfl rfl rfl (zH rfl _) (yH (E := eInt) (v := u630) (u := u325) 8 eR ap3 (by decide) rfl rfl hX636.pins ho632 ((hr326.mono (dH (dH hle232 hlek233) hle263)).src hX636.pins (by decide)) (by first | omega | (rw [List.nil_append]; omega) | (rw [List.length_nil]; omega) | (rw [List.length_append]; omega) | (simp; done) | (simp; omega) | (simp only [List.length_append, List.length_cons, List.length_nil]; omega)) (by first | omega | (rw [List.nil_append]; omega) | (rw [List.length_nil]; omega) | (rw [List.length_append]; omega) | (simp; done) | (simp; omega) | (simp only [List.length_append, List.length_cons, List.length_nil]; omega)) (hX636.size) (fun u656 w657 ho658 hp659 hg660 hw661 => ?_)))
    have hX662 := hX636.write hp659 hg660 ((yQ ho632))
    have hm679 := la2 ((([]) ++ ((fr.take i).drop 0)) ++ ([(k5 : Int)])) ((fr.take fr.length).drop i)
    refine ⟨fun _ => hX662.pins, ?_⟩
    refine dT (i := 12) rfl rfl (by kernel_rfl) (fun _ _ => zC (v := u656) rfl) hX662.pins ?_
    exact yP (by kernel_rfl) (qS ⟨_, u656, G245, (zF (x := 11) (zF (x := 10) (zF (x := 9) (zF (x := 8) (zF (x := 7) (zF (x := 6) (zF (x := 5) (zF (x := 4) (zF (x := 1) (yF (x := 0) rfl) rfl) rfl) rfl) rfl) rfl) rfl) rfl) rfl) rfl), hX662, (Pin.le_refl _), (ho637.keptA hg660 ha646), (ho638.keptA hg660 ha647), (ho639.keptA hg660 ha648), (ho640.keptA hg660 ha649), (ho641.keptA hg660 ha650), ho658, (hb643.keptA hg660 ha652), (hb644.keptA hg660 ha653), (hb645.keptA hg660 ha654), (zJ ha646 hw661 ho637.lt), (zJ ha647 hw661 ho638.lt), (zJ ha648 hw661 ho639.lt), (zJ ha649 hw661 ho640.lt), (zJ ha650 hw661 ho641.lt), (zN ha652 hw661 hb643.lt).symm, (zN ha653 hw661 hb644.lt).symm, (zN ha654 hw661 hb645.lt).symm⟩)
   refine xD (S := fun wz => Pins GL3 wz) (last := 13) (by kernel_rfl) rfl ?_
   have hl680 := bdr w234
   have hX682 := hX236.step (hX236.pins.below hl680) hl680
   have ho683 := hw237.below hl680
   have ho684 := hw238.below hl680
   have ho685 := hw239.below hl680
   have ho686 := hw240.below hl680
   have hb687 := hw241.below hl680
   have hb688 := hw242.below hl680
   have hb689 := hw243.below hl680
   refine dT (i := 1) rfl rfl (by kernel_rfl) (fun _ _ => zB (v := lv) rfl) hX682.pins ?_
   refine dT (i := 2) rfl rfl (by kernel_rfl) (fun _ _ => zB (v := (.int .i64 (i : Int))) rfl) hX682.pins ?_
   obtain ⟨u690, hr691, hl692⟩ := qR hr211 (lo := none) (hi := (some ((i : Int)))) (0) (i) (Or.inl ⟨rfl, rfl⟩) (Or.inr ⟨_, rfl, (by omega), rfl⟩) (by omega) (by omega)
   refine dT (i := 3) rfl rfl (by kernel_rfl) (fun _ _ => hl692 eT sz65 rfl rfl rfl) hX682.pins ?_
   refine dT (i := 5) rfl rfl (by kernel_rfl) (fun _ hS => zU (cs := [c217, c218]) ag65 sz65 rfl (fun j u hj => (dI hS hlek233) _ _ _ (hb230 _ _ (by simpa using hj)))) hX682.pins ?_
   refine dT (i := 8) rfl rfl (by kernel_rfl) (fun _ _ => zB (v := lv) rfl) hX682.pins ?_
   refine dT (i := 9) rfl rfl (by kernel_rfl) (fun _ _ => zB (v := (.int .i64 (i : Int))) rfl) hX682.pins ?_
   obtain ⟨u693, hr694, hl695⟩ := qR hr211 (lo := (some ((i : Int)))) (hi := none) (i) (ls.length) (Or.inr ⟨_, rfl, (by omega), rfl⟩) (Or.inl ⟨rfl, rfl⟩) (by omega) (by omega)
   refine dT (i := 10) rfl rfl (by kernel_rfl) (fun _ _ => hl695 eT sz65 rfl rfl rfl) hX682.pins ?_
   refine jI (i := 0) (j := 6) (by kernel_rfl) ?_ ?_
   refine (yC (i := 0) rfl rfl rfl (zH rfl _) (xF (E := eNode) (e := 65) eT sz65 hX682.pins (fun u696 w697 ho698 hp699 hl700 hk701 => ?_)))
   have hX702 := hX682.step hp699 hl700
   have ho703 := ho683.below hl700
   have ho704 := ho684.below hl700
   have ho705 := ho685.below hl700
   have ho706 := ho686.below hl700
   have hb707 := hb687.below hl700
   have hb708 := hb688.below hl700
   have hb709 := hb689.below hl700
   have ha710 : Apart u696.ownBlock at_.ownBlock := zI hk701 ho683.lt
   have ha711 : Apart u696.ownBlock ov.ownBlock := zI hk701 ho684.lt
   have ha712 : Apart u696.ownBlock bu.ownBlock := zI hk701 ho685.lt
   have ha713 : Apart u696.ownBlock bv.ownBlock := zI hk701 ho686.lt
   have ha714 : Apart u696.ownBlock (some b) := zG hk701 hb687.lt
   have ha715 : Apart u696.ownBlock (some b1) := zG hk701 hb688.lt
   have ha716 : Apart u696.ownBlock (some b74) := zG hk701 hb689.lt
   have ho717 := ho698.weaken hX682.size
   refine ⟨fun _ => hX702.pins, ?_⟩
   refine jI (i := 4) (j := 6) (by kernel_rfl) ?_ ?_
   refine (yC (i := 4) rfl rfl rfl (zH rfl _) (yH (E := eNode) (v := u696) (u := u690) 48 eT ap65 (by decide) rfl rfl hX702.pins ho717 ((hr691.mono (dH hle232 hlek233)).src hX702.pins (by decide)) (by first | omega | (rw [List.nil_append]; omega) | (rw [List.length_nil]; omega) | (rw [List.length_append]; omega) | (simp; done) | (simp; omega) | (simp only [List.length_append, List.length_cons, List.length_nil]; omega)) (by first | omega | (rw [List.nil_append]; omega) | (rw [List.length_nil]; omega) | (rw [List.length_append]; omega) | (simp; done) | (simp; omega) | (simp only [List.length_append, List.length_cons, List.length_nil]; omega)) (hX702.size) (fun u718 w719 ho720 hp721 hg722 hw723 => ?_)))
   have hX724 := hX702.write hp721 hg722 ((yQ ho717))
   have ha732 : Apart at_.ownBlock u718.ownBlock := zJ ha710.symm hw723 ho703.lt
   have ha733 : Apart ov.ownBlock u718.ownBlock := zJ ha711.symm hw723 ho704.lt
   have ha734 : Apart bu.ownBlock u718.ownBlock := zJ ha712.symm hw723 ho705.lt
   have ha735 : Apart bv.ownBlock u718.ownBlock := zJ ha713.symm hw723 ho706.lt
   have ha736 : Apart (some b) u718.ownBlock := zN ha714.symm hw723 hb707.lt
   have ha737 : Apart (some b1) u718.ownBlock := zN ha715.symm hw723 hb708.lt
   have ha738 : Apart (some b74) u718.ownBlock := zN ha716.symm hw723 hb709.lt
   have hm739 := la2 ([]) ((ls.take i).drop 0)
   refine ⟨fun _ => hX724.pins, ?_⟩
   refine zR (i := 6) (by kernel_rfl) (yC (i := 6) rfl rfl rfl (zH rfl _) (xM (E := eNode) (e := 65) [c217, c218] (⟨sortL (atL ats ((ns.getD k5 default).l)), sortL (atL ats ((ns.getD k5 default).r))⟩ : Nd) eT sz65 zr65 ⟨_, _, rfl, (hr221.mono hlek233), (hr222.mono hlek233)⟩ rfl (by decide) hX724.pins (fun u740 w741 ho742 hp743 hl744 hk745 => ?_)))
   have hX746 := hX724.step hp743 hl744
   have ho747 := (ho703.keptA hg722 ha710.symm).below hl744
   have ho748 := (ho704.keptA hg722 ha711.symm).below hl744
   have ho749 := (ho705.keptA hg722 ha712.symm).below hl744
   have ho750 := (ho706.keptA hg722 ha713.symm).below hl744
   have ho751 := ho720.below hl744
   have hb752 := (hb707.keptA hg722 ha714.symm).below hl744
   have hb753 := (hb708.keptA hg722 ha715.symm).below hl744
   have hb754 := (hb709.keptA hg722 ha716.symm).below hl744
   have ho763 := ho742.weaken hX724.size
   refine ⟨fun _ => hX746.pins, ?_⟩
   refine zR (i := 7) (by kernel_rfl) (yC (i := 7) rfl rfl rfl (zH rfl _) (yH (E := eNode) (v := u718) (u := u740) 48 eT ap65 (by decide) rfl rfl hX746.pins ho751 ho763.src (by first | omega | (rw [List.nil_append]; omega) | (rw [List.length_nil]; omega) | (rw [List.length_append]; omega) | (simp; done) | (simp; omega) | (simp only [List.length_append, List.length_cons, List.length_nil]; omega)) (by first | omega | (rw [List.nil_append]; omega) | (rw [List.length_nil]; omega) | (rw [List.length_append]; omega) | (simp; done) | (simp; omega) | (simp only [List.length_append, List.length_cons, List.length_nil]; omega)) (hX746.size) (fun u764 w765 ho766 hp767 hg768 hw769 => ?_)))
   have hX770 := hX746.write hp767 hg768 ((yQ ho751))
   have ho771 := ho747.keptA hg768 ha732
   have ho772 := ho748.keptA hg768 ha733
   have ho773 := ho749.keptA hg768 ha734
   have ho774 := ho750.keptA hg768 ha735
   have hb776 := hb752.keptA hg768 ha736
   have hb777 := hb753.keptA hg768 ha737
   have hb778 := hb754.keptA hg768 ha738
   have ha779 : Apart at_.ownBlock u764.ownBlock := zJ ha732 hw769 ho747.lt
   have ha780 : Apart ov.ownBlock u764.ownBlock := zJ ha733 hw769 ho748.lt
   have ha781 : Apart bu.ownBlock u764.ownBlock := zJ ha734 hw769 ho749.lt
   have ha782 : Apart bv.ownBlock u764.ownBlock := zJ ha735 hw769 ho750.lt
   have ha784 : Apart (some b) u764.ownBlock := zN ha736 hw769 hb752.lt
   have ha785 : Apart (some b1) u764.ownBlock := zN ha737 hw769 hb753.lt
   have ha786 : Apart (some b74) u764.ownBlock := zN ha738 hw769 hb754.lt
   have hm787 := la1 (([]) ++ ((ls.take i).drop 0)) (⟨sortL (atL ats ((ns.getD k5 default).l)), sortL (atL ats ((ns.getD k5 default).r))⟩ : Nd)
   refine ⟨fun _ => hX770.pins, ?_⟩
   refine zR (i := 11) (by kernel_rfl) (yC (i := 11) rfl rfl rfl (zH rfl _) (yH (E := eNode) (v := u764) (u := u693) 48 eT ap65 (by decide) rfl rfl hX770.pins ho766 ((hr694.mono (dH hle232 hlek233)).src hX770.pins (by decide)) (by first | omega | (rw [List.nil_append]; omega) | (rw [List.length_nil]; omega) | (rw [List.length_append]; omega) | (simp; done) | (simp; omega) | (simp only [List.length_append, List.length_cons, List.length_nil]; omega)) (by first | omega | (rw [List.nil_append]; omega) | (rw [List.length_nil]; omega) | (rw [List.length_append]; omega) | (simp; done) | (simp; omega) | (simp only [List.length_append, List.length_cons, List.length_nil]; omega)) (hX770.size) (fun u788 w789 ho790 hp791 hg792 hw793 => ?_)))
   have hX794 := hX770.write hp791 hg792 ((yQ ho766))
   have hm809 := la2 ((([]) ++ ((ls.take i).drop 0)) ++ ([(⟨sortL (atL ats ((ns.getD k5 default).l)), sortL (atL ats ((ns.getD k5 default).r))⟩ : Nd)])) ((ls.take ls.length).drop i)
   refine ⟨fun _ => hX794.pins, ?_⟩
   refine dT (i := 12) rfl rfl (by kernel_rfl) (fun _ _ => zC (v := u788) rfl) hX794.pins ?_
   exact yP (by kernel_rfl) (qS ⟨_, u788, GL3, (zF (x := 13) (zF (x := 11) (zF (x := 10) (zF (x := 9) (zF (x := 8) (zF (x := 7) (zF (x := 6) (zF (x := 5) (zF (x := 4) (zF (x := 1) (yF (x := 0) rfl) rfl) rfl) rfl) rfl) rfl) rfl) rfl) rfl) rfl) rfl), hX794, (Pin.le_refl _), (ho771.keptA hg792 ha779), (ho772.keptA hg792 ha780), (ho773.keptA hg792 ha781), (ho774.keptA hg792 ha782), ho790, (hb776.keptA hg792 ha784), (hb777.keptA hg792 ha785), (hb778.keptA hg792 ha786), (zJ ha779 hw793 ho771.lt), (zJ ha780 hw793 ho772.lt), (zJ ha781 hw793 ho773.lt), (zJ ha782 hw793 ho774.lt), (zN ha784 hw793 hb776.lt).symm, (zN ha785 hw793 hb777.lt).symm, (zN ha786 hw793 hb778.lt).symm⟩)
   refine (yC (i := 6) rfl rfl rfl (zH rfl _) (xM (E := eNode) (e := 65) [c217, c218] (⟨sortL (atL ats ((ns.getD k5 default).l)), sortL (atL ats ((ns.getD k5 default).r))⟩ : Nd) eT sz65 zr65 ⟨_, _, rfl, (hr221.mono hlek233), (hr222.mono hlek233)⟩ rfl (by decide) hX702.pins (fun u810 w811 ho812 hp813 hl814 hk815 => ?_)))
   have hX816 := hX702.step hp813 hl814
   have ho817 := ho703.below hl814
   have ho818 := ho704.below hl814
   have ho819 := ho705.below hl814
   have ho820 := ho706.below hl814
   have ho821 := ho717.below hl814
   have hb822 := hb707.below hl814
   have hb823 := hb708.below hl814
   have hb824 := hb709.below hl814
   have ho833 := ho812.weaken hX702.size
   refine ⟨fun _ => hX816.pins, ?_⟩
   refine zR (i := 4) (by kernel_rfl) (yC (i := 4) rfl rfl rfl (zH rfl _) (yH (E := eNode) (v := u696) (u := u690) 48 eT ap65 (by decide) rfl rfl hX816.pins ho821 ((hr691.mono (dH hle232 hlek233)).src hX816.pins (by decide)) (by first | omega | (rw [List.nil_append]; omega) | (rw [List.length_nil]; omega) | (rw [List.length_append]; omega) | (simp; done) | (simp; omega) | (simp only [List.length_append, List.length_cons, List.length_nil]; omega)) (by first | omega | (rw [List.nil_append]; omega) | (rw [List.length_nil]; omega) | (rw [List.length_append]; omega) | (simp; done) | (simp; omega) | (simp only [List.length_append, List.length_cons, List.length_nil]; omega)) (hX816.size) (fun u834 w835 ho836 hp837 hg838 hw839 => ?_)))
   have hX840 := hX816.write hp837 hg838 ((yQ ho821))
   have ho841 := ho817.keptA hg838 ha710.symm
   have ho842 := ho818.keptA hg838 ha711.symm
   have ho843 := ho819.keptA hg838 ha712.symm
   have ho844 := ho820.keptA hg838 ha713.symm
   have hb846 := hb822.keptA hg838 ha714.symm
   have hb847 := hb823.keptA hg838 ha715.symm
   have hb848 := hb824.keptA hg838 ha716.symm
   have ha849 : Apart at_.ownBlock u834.ownBlock := zJ ha710.symm hw839 ho817.lt
   have ha850 : Apart ov.ownBlock u834.ownBlock := zJ ha711.symm hw839 ho818.lt
   have ha851 : Apart bu.ownBlock u834.ownBlock := zJ ha712.symm hw839 ho819.lt
   have ha852 : Apart bv.ownBlock u834.ownBlock := zJ ha713.symm hw839 ho820.lt
   have ha854 : Apart (some b) u834.ownBlock := zN ha714.symm hw839 hb822.lt
   have ha855 : Apart (some b1) u834.ownBlock := zN ha715.symm hw839 hb823.lt
   have ha856 : Apart (some b74) u834.ownBlock := zN ha716.symm hw839 hb824.lt
   have hm857 := la2 ([]) ((ls.take i).drop 0)
   refine ⟨fun _ => hX840.pins, ?_⟩
   refine zR (i := 7) (by kernel_rfl) (yC (i := 7) rfl rfl rfl (zH rfl _) (yH (E := eNode) (v := u834) (u := u810) 48 eT ap65 (by decide) rfl rfl hX840.pins ho836 (ho833.keptA hg838 (zI hk815 ho717.lt)).src (by first | omega | (rw [List.nil_append]; omega) | (rw [List.length_nil]; omega) | (rw [List.length_append]; omega) | (simp; done) | (simp; omega) | (simp only [List.length_append, List.length_cons, List.length_nil]; omega)) (by first | omega | (rw [List.nil_append]; omega) | (rw [List.length_nil]; omega) | (rw [List.length_append]; omega) | (simp; done) | (simp; omega) | (simp only [List.length_append, List.length_cons, List.length_nil]; omega)) (hX840.size) (fun u858 w859 ho860 hp861 hg862 hw863 => ?_)))
   have hX864 := hX840.write hp861 hg862 ((yQ ho836))
   have ho865 := ho841.keptA hg862 ha849
   have ho866 := ho842.keptA hg862 ha850
   have ho867 := ho843.keptA hg862 ha851
   have ho868 := ho844.keptA hg862 ha852
   have hb870 := hb846.keptA hg862 ha854
   have hb871 := hb847.keptA hg862 ha855
   have hb872 := hb848.keptA hg862 ha856
   have ha873 : Apart at_.ownBlock u858.ownBlock := zJ ha849 hw863 ho841.lt
   have ha874 : Apart ov.ownBlock u858.ownBlock := zJ ha850 hw863 ho842.lt
   have ha875 : Apart bu.ownBlock u858.ownBlock := zJ ha851 hw863 ho843.lt
   have ha876 : Apart bv.ownBlock u858.ownBlock := zJ ha852 hw863 ho844.lt
   have ha878 : Apart (some b) u858.ownBlock := zN ha854 hw863 hb846.lt
   have ha879 : Apart (some b1) u858.ownBlock := zN ha855 hw863 hb847.lt
   have ha880 : Apart (some b74) u858.ownBlock := zN ha856 hw863 hb848.lt
   have hm881 := la1 (([]) ++ ((ls.take i).drop 0)) (⟨sortL (atL ats ((ns.getD k5 default).l)), sortL (atL ats ((ns.getD k5 default).r))⟩ : Nd)
   refine ⟨fun _ => hX864.pins, ?_⟩
   refine zR (i := 11) (by kernel_rfl) (yC (i := 11) rfl rfl rfl (zH rfl _) (yH (E := eNode) (v := u858) (u := u693) 48 eT ap65 (by decide) rfl rfl hX864.pins ho860 ((hr694.mono (dH hle232 hlek233)).src hX864.pins (by decide)) (by first | omega | (rw [List.nil_append]; omega) | (rw [List.length_nil]; omega) | (rw [List.length_append]; omega) | (simp; done) | (simp; omega) | (simp only [List.length_append, List.length_cons, List.length_nil]; omega)) (by first | omega | (rw [List.nil_append]; omega) | (rw [List.length_nil]; omega) | (rw [List.length_append]; omega) | (simp; done) | (simp; omega) | (simp only [List.length_append, List.length_cons, List.length_nil]; omega)) (hX864.size) (fun u882 w883 ho884 hp885 hg886 hw887 => ?_)))
   have hX888 := hX864.write hp885 hg886 ((yQ ho860))
   have hm903 := la2 ((([]) ++ ((ls.take i).drop 0)) ++ ([(⟨sortL (atL ats ((ns.getD k5 default).l)), sortL (atL ats ((ns.getD k5 default).r))⟩ : Nd)])) ((ls.take ls.length).drop i)
   refine ⟨fun _ => hX888.pins, ?_⟩
   refine dT (i := 12) rfl rfl (by kernel_rfl) (fun _ _ => zC (v := u882) rfl) hX888.pins ?_
   exact yP (by kernel_rfl) (qS ⟨_, u882, GL3, (zF (x := 13) (zF (x := 11) (zF (x := 10) (zF (x := 9) (zF (x := 8) (zF (x := 7) (zF (x := 6) (zF (x := 5) (zF (x := 4) (zF (x := 1) (yF (x := 0) rfl) rfl) rfl) rfl) rfl) rfl) rfl) rfl) rfl) rfl) rfl), hX888, (Pin.le_refl _), (ho865.keptA hg886 ha873), (ho866.keptA hg886 ha874), (ho867.keptA hg886 ha875), (ho868.keptA hg886 ha876), ho884, (hb870.keptA hg886 ha878), (hb871.keptA hg886 ha879), (hb872.keptA hg886 ha880), (zJ ha873 hw887 ho865.lt), (zJ ha874 hw887 ho866.lt), (zJ ha875 hw887 ho867.lt), (zJ ha876 hw887 ho868.lt), (zN ha878 hw887 hb870.lt).symm, (zN ha879 hw887 hb871.lt).symm, (zN ha880 hw887 hb872.lt).symm⟩)
   refine (yC (i := 6) rfl rfl rfl (zH rfl _) (xM (E := eNode) (e := 65) [c217, c218] (⟨sortL (atL ats ((ns.getD k5 default).l)), sortL (atL ats ((ns.getD k5 default).r))⟩ : Nd) eT sz65 zr65 ⟨_, _, rfl, (hr221.mono hlek233), (hr222.mono hlek233)⟩ rfl (by decide) hX682.pins (fun u904 w905 ho906 hp907 hl908 hk909 => ?_)))
   have hX910 := hX682.step hp907 hl908
   have ho911 := ho683.below hl908
   have ho912 := ho684.below hl908
   have ho913 := ho685.below hl908
   have ho914 := ho686.below hl908
   have hb915 := hb687.below hl908
   have hb916 := hb688.below hl908
   have hb917 := hb689.below hl908
   have ho925 := ho906.weaken hX682.size
   refine ⟨fun _ => hX910.pins, ?_⟩
   refine zR (i := 0) (by kernel_rfl) (yC (i := 0) rfl rfl rfl (zH rfl _) (xF (E := eNode) (e := 65) eT sz65 hX910.pins (fun u926 w927 ho928 hp929 hl930 hk931 => ?_)))
   have hX932 := hX910.step hp929 hl930
   have ho933 := ho911.below hl930
   have ho934 := ho912.below hl930
   have ho935 := ho913.below hl930
   have ho936 := ho914.below hl930
   have hb938 := hb915.below hl930
   have hb939 := hb916.below hl930
   have hb940 := hb917.below hl930
   have ha941 : Apart u926.ownBlock at_.ownBlock := zI hk931 ho911.lt
   have ha942 : Apart u926.ownBlock ov.ownBlock := zI hk931 ho912.lt
   have ha943 : Apart u926.ownBlock bu.ownBlock := zI hk931 ho913.lt
   have ha944 : Apart u926.ownBlock bv.ownBlock := zI hk931 ho914.lt
   have ha946 : Apart u926.ownBlock (some b) := zG hk931 hb915.lt
   have ha947 : Apart u926.ownBlock (some b1) := zG hk931 hb916.lt
   have ha948 : Apart u926.ownBlock (some b74) := zG hk931 hb917.lt
   have ho949 := ho928.weaken hX910.size
   refine ⟨fun _ => hX932.pins, ?_⟩
   refine zR (i := 4) (by kernel_rfl) (yC (i := 4) rfl rfl rfl (zH rfl _) (yH (E := eNode) (v := u926) (u := u690) 48 eT ap65 (by decide) rfl rfl hX932.pins ho949 ((hr691.mono (dH hle232 hlek233)).src hX932.pins (by decide)) (by first | omega | (rw [List.nil_append]; omega) | (rw [List.length_nil]; omega) | (rw [List.length_append]; omega) | (simp; done) | (simp; omega) | (simp only [List.length_append, List.length_cons, List.length_nil]; omega)) (by first | omega | (rw [List.nil_append]; omega) | (rw [List.length_nil]; omega) | (rw [List.length_append]; omega) | (simp; done) | (simp; omega) | (simp only [List.length_append, List.length_cons, List.length_nil]; omega)) (hX932.size) (fun u950 w951 ho952 hp953 hg954 hw955 => ?_)))
   have hX956 := hX932.write hp953 hg954 ((yQ ho949))
   have ho957 := ho933.keptA hg954 ha941.symm
   have ho958 := ho934.keptA hg954 ha942.symm
   have ho959 := ho935.keptA hg954 ha943.symm
   have ho960 := ho936.keptA hg954 ha944.symm
   have hb962 := hb938.keptA hg954 ha946.symm
   have hb963 := hb939.keptA hg954 ha947.symm
   have hb964 := hb940.keptA hg954 ha948.symm
   have ha965 : Apart at_.ownBlock u950.ownBlock := zJ ha941.symm hw955 ho933.lt
   have ha966 : Apart ov.ownBlock u950.ownBlock := zJ ha942.symm hw955 ho934.lt
   have ha967 : Apart bu.ownBlock u950.ownBlock := zJ ha943.symm hw955 ho935.lt
   have ha968 : Apart bv.ownBlock u950.ownBlock := zJ ha944.symm hw955 ho936.lt
   have ha970 : Apart (some b) u950.ownBlock := zN ha946.symm hw955 hb938.lt
   have ha971 : Apart (some b1) u950.ownBlock := zN ha947.symm hw955 hb939.lt
   have ha972 : Apart (some b74) u950.ownBlock := zN ha948.symm hw955 hb940.lt
   have hm973 := la2 ([]) ((ls.take i).drop 0)
   refine ⟨fun _ => hX956.pins, ?_⟩
   refine zR (i := 7) (by kernel_rfl) (yC (i := 7) rfl rfl rfl (zH rfl _) (yH (E := eNode) (v := u950) (u := u904) 48 eT ap65 (by decide) rfl rfl hX956.pins ho952 ((ho925.below hl930).keptA hg954 (zI hk931 ho925.lt).symm).src (by first | omega | (rw [List.nil_append]; omega) | (rw [List.length_nil]; omega) | (rw [List.length_append]; omega) | (simp; done) | (simp; omega) | (simp only [List.length_append, List.length_cons, List.length_nil]; omega)) (by first | omega | (rw [List.nil_append]; omega) | (rw [List.length_nil]; omega) | (rw [List.length_append]; omega) | (simp; done) | (simp; omega) | (simp only [List.length_append, List.length_cons, List.length_nil]; omega)) (hX956.size) (fun u974 w975 ho976 hp977 hg978 hw979 => ?_)))
   have hX980 := hX956.write hp977 hg978 ((yQ ho952))
   have ho981 := ho957.keptA hg978 ha965
   have ho982 := ho958.keptA hg978 ha966
   have ho983 := ho959.keptA hg978 ha967
   have ho984 := ho960.keptA hg978 ha968
   have hb986 := hb962.keptA hg978 ha970
   have hb987 := hb963.keptA hg978 ha971
   have hb988 := hb964.keptA hg978 ha972
   have ha989 : Apart at_.ownBlock u974.ownBlock := zJ ha965 hw979 ho957.lt
   have ha990 : Apart ov.ownBlock u974.ownBlock := zJ ha966 hw979 ho958.lt
   have ha991 : Apart bu.ownBlock u974.ownBlock := zJ ha967 hw979 ho959.lt
   have ha992 : Apart bv.ownBlock u974.ownBlock := zJ ha968 hw979 ho960.lt
   have ha994 : Apart (some b) u974.ownBlock := zN ha970 hw979 hb962.lt
   have ha995 : Apart (some b1) u974.ownBlock := zN ha971 hw979 hb963.lt
   have ha996 : Apart (some b74) u974.ownBlock := zN ha972 hw979 hb964.lt
   have hm997 := la1 (([]) ++ ((ls.take i).drop 0)) (⟨sortL (atL ats ((ns.getD k5 default).l)), sortL (atL ats ((ns.getD k5 default).r))⟩ : Nd)
   refine ⟨fun _ => hX980.pins, ?_⟩
   refine zR (i := 11) (by kernel_rfl) (yC (i := 11) rfl rfl rfl (zH rfl _) (yH (E := eNode) (v := u974) (u := u693) 48 eT ap65 (by decide) rfl rfl hX980.pins ho976 ((hr694.mono (dH hle232 hlek233)).src hX980.pins (by decide)) (by first | omega | (rw [List.nil_append]; omega) | (rw [List.length_nil]; omega) | (rw [List.length_append]; omega) | (simp; done) | (simp; omega) | (simp only [List.length_append, List.length_cons, List.length_nil]; omega)) (by first | omega | (rw [List.nil_append]; omega) | (rw [List.length_nil]; omega) | (rw [List.length_append]; omega) | (simp; done) | (simp; omega) | (simp only [List.length_append, List.length_cons, List.length_nil]; omega)) (hX980.size) (fun u998 w999 ho1000 hp1001 hg1002 hw1003 => ?_)))
   have hX1004 := hX980.write hp1001 hg1002 ((yQ ho976))
   have hm1019 := la2 ((([]) ++ ((ls.take i).drop 0)) ++ ([(⟨sortL (atL ats ((ns.getD k5 default).l)), sortL (atL ats ((ns.getD k5 default).r))⟩ : Nd)])) ((ls.take ls.length).drop i)
   refine ⟨fun _ => hX1004.pins, ?_⟩
   refine dT (i := 12) rfl rfl (by kernel_rfl) (fun _ _ => zC (v := u998) rfl) hX1004.pins ?_
   exact yP (by kernel_rfl) (qS ⟨_, u998, GL3, (zF (x := 13) (zF (x := 11) (zF (x := 10) (zF (x := 9) (zF (x := 8) (zF (x := 7) (zF (x := 6) (zF (x := 5) (zF (x := 4) (zF (x := 1) (yF (x := 0) rfl) rfl) rfl) rfl) rfl) rfl) rfl) rfl) rfl) rfl) rfl), hX1004, (Pin.le_refl _), (ho981.keptA hg1002 ha989), (ho982.keptA hg1002 ha990), (ho983.keptA hg1002 ha991), (ho984.keptA hg1002 ha992), ho1000, (hb986.keptA hg1002 ha994), (hb987.keptA hg1002 ha995), (hb988.keptA hg1002 ha996), (zJ ha989 hw1003 ho981.lt), (zJ ha990 hw1003 ho982.lt), (zJ ha991 hw1003 ho983.lt), (zJ ha992 hw1003 ho984.lt), (zN ha994 hw1003 hb986.lt).symm, (zN ha995 hw1003 hb987.lt).symm, (zN ha996 hw1003 hb988.lt).symm⟩)
  refine yZ (fun (k : Nat) (en : Nat → Value) (W : World) => ∃ (env1 : Nat → Value) (i : Nat) (GL3 : Pin), en = (upd (upd (upd (upd (upd (upd (upd (upd (upd (upd (upd (upd env1 0 (.pointer (some ⟨b, 0, none⟩))) 1 (.int .i64 m)) 4 (.pointer (some ⟨b1, 0, none⟩))) 5 u15) 6 at_) 7 (.pointer (some ⟨b74, 0, none⟩))) 8 (.int .i64 (q : Int))) 9 lv) 10 fv) 11 (.int .i64 (k5 : Int))) 12 (.pointer (some ⟨c216, 0, none⟩))) 13 (.int .i64 (i : Int))) ∧ k = ls.length - i ∧ Ext noS G w GL3 W ∧ Pin.le G219 GL3 ∧ (i ≤ ls.length) ∧ (posM ls (ndAt ats (ns.getD k5 default)) = i + posM (ls.drop i) (ndAt ats (ns.getD k5 default))) ∧ (Own eInt 3 GL3 W w.heap.size at_ (ats)) ∧ (Own eNode 65 GL3 W w.heap.size ov (outs)) ∧ (Own eNode 65 GL3 W 0 bu (ns)) ∧ (Own eInt 3 GL3 W 0 bv (bs)) ∧ (Bx GL3 W b [bu, bv]) ∧ (Bx GL3 W b1 [(.slice none 0 0)]) ∧ (Bx GL3 W b74 [ov])) _ ⟨_, 0, G219, (zF (x := 13) (zF (x := 12) (zF (x := 11) (zF (x := 10) (zF (x := 9) (zF (x := 8) (zF (x := 7) (zF (x := 6) (zF (x := 5) (zF (x := 4) (zF (x := 1) (yF (x := 0) rfl) rfl) rfl) rfl) rfl) rfl) rfl) rfl) rfl) rfl) rfl) rfl), rfl, hX231, Pin.le_refl _, Nat.zero_le _, (Nat.zero_add _).symm, ho223, ho224, ho225, ho226, hb227, hb228, hb229⟩ ?_
  rintro k233 _ w234 ⟨env1, i, GL3, rfl, hk235, hX236, hlek233, hi, hpp, hw237, hw238, hw239, hw240, hw241, hw242, hw243⟩
  refine zD (zD ?_)
  refine xD (S := fun wz => Pins GL3 wz) (last := 12) (by kernel_rfl) rfl ?_
  have hl1020 := bdr w234
  have hX1022 := hX236.step (hX236.pins.below hl1020) hl1020
  have ho1023 := hw237.below hl1020
  have ho1024 := hw238.below hl1020
  have ho1025 := hw239.below hl1020
  have ho1026 := hw240.below hl1020
  have hb1027 := hw241.below hl1020
  have hb1028 := hw242.below hl1020
  have hb1029 := hw243.below hl1020
  refine dT (i := 0) rfl rfl (by kernel_rfl) (fun _ _ => zB (v := (.int .i64 (i : Int))) rfl) hX1022.pins ?_
  refine dT (i := 1) rfl rfl (by kernel_rfl) (fun _ _ => zB (v := lv) rfl) hX1022.pins ?_
  refine dT (i := 2) rfl rfl (by kernel_rfl) (fun _ _ => run_len eT (v := lv) rfl hr211) hX1022.pins ?_
  refine dT (i := 3) rfl rfl (by kernel_rfl) (fun _ _ => xB rfl rfl) hX1022.pins ?_
  refine dT (i := 4) rfl rfl (by kernel_rfl) (fun _ _ => zB (v := (.bool (decide (((i : Int) : Int) < (ls.length : Int))))) rfl) hX1022.pins ?_
  refine drbd (p := ((i : Int) : Int) < (ls.length : Int)) (t := 84) rfl (fun h1030 => ?_) (fun h1030 => ?_)
  refine zW (i := 5) rfl rfl rfl (zO rfl rfl rfl rfl) (by kernel_rfl) (fun _ _ => zB (v := lv) rfl) hX1022.pins (zW (i := 6) rfl rfl rfl (zO rfl rfl rfl rfl) (by kernel_rfl) (fun _ _ => zB (v := (.int .i64 (i : Int))) rfl) hX1022.pins (zW (i := 7) rfl rfl rfl (zO rfl rfl rfl rfl) (by kernel_rfl) (fun _ _ => zL eT sz65 (v := lv) rfl rfl hr211 (by omega) (by omega)) hX1022.pins ?_))
  obtain ⟨u1031, u1032, hr1033, hr1034, hl1035⟩ := mS (hr211.at (z := (i : Int)) (by omega) (by omega)) (j := i) rfl
  have hm1036 := hr1033.max
  have hm1037 := hr1034.max
  refine zW (i := 8) rfl rfl rfl (zO rfl rfl rfl rfl) (by kernel_rfl) (fun _ hS => hl1035 ag65 sz65 rfl (dI hS (dH hle232 hlek233))) hX1022.pins (zW (i := 9) rfl rfl rfl (zO rfl rfl rfl rfl) (by kernel_rfl) (fun _ hS => zU (cs := [c217, c218]) ag65 sz65 rfl (fun j u hj => (dI hS hlek233) _ _ _ (hb230 _ _ (by simpa using hj)))) hX1022.pins (zR (i := 10) (by kernel_rfl) (yC (i := 10) rfl rfl rfl (zO rfl rfl rfl rfl) (zK (vs := [(.agg [u1031, u1032].toArray), (.agg [c217, c218].toArray)]) Tryz.func130 nm130 rfl rfl rfl ?_))))
  refine dJ (rB (a := ⟨(ls.getD i default).l, (ls.getD i default).r⟩) (b := ⟨sortL (atL ats ((ns.getD k5 default).l)), sortL (atL ats ((ns.getD k5 default).r))⟩) hX1022.pins (hr1033.mono (dH hle232 hlek233)) (hr1034.mono (dH hle232 hlek233)) (hr221.mono hlek233) (hr222.mono hlek233)) ?_
  rintro _ w1039 ⟨G1038, rfl, hx1040⟩
  refine ⟨_, rfl, ?_⟩
  have hX1041 := hX1022.tr hx1040
  have ho1042 := ho1023.ext hx1040
  have ho1043 := ho1024.ext hx1040
  have ho1044 := ho1025.ext hx1040
  have ho1045 := ho1026.ext hx1040
  have hb1046 := hb1027.ext hx1040
  have hb1047 := hb1028.ext hx1040
  have hb1048 := hb1029.ext hx1040
  refine ⟨fun _ => (dI hX1041.pins hx1040.le), ?_⟩
  refine dT (i := 11) rfl rfl (by kernel_rfl) (fun _ _ => yG (v := (.bool (decide ((aheadI (⟨(ls.getD i default).l, (ls.getD i default).r⟩ : Nd) (⟨sortL (atL ats ((ns.getD k5 default).l)), sortL (atL ats ((ns.getD k5 default).r))⟩ : Nd)) < 0)))) rfl rfl) (dI hX1041.pins hx1040.le) ?_
  refine yP (by kernel_rfl) (zA (yJ (p := ((aheadI (⟨(ls.getD i default).l, (ls.getD i default).r⟩ : Nd) (⟨sortL (atL ats ((ns.getD k5 default).l)), sortL (atL ats ((ns.getD k5 default).r))⟩ : Nd)) < 0)) rfl rfl (fun h1049 => ?_) (fun h1049 => ?_)))
  refine wp_skip (zA (yI (zE (qD rfl (zB (v := (.int .i64 (i : Int))) rfl) (qD rfl (yT rfl rfl (by omega)) (qD rfl (zC (v := (.int .i64 ((i : Int) + 1))) rfl) (qe (yO (yR (⟨_, ?_, _, rfl, _, i + 1, G1038, (zF (x := 13) (zF (x := 12) (zF (x := 11) (zF (x := 10) (zF (x := 9) (zF (x := 8) (zF (x := 7) (zF (x := 6) (zF (x := 5) (zF (x := 4) (zF (x := 1) (yF (x := 0) rfl) rfl) rfl) rfl) rfl) rfl) rfl) rfl) rfl) rfl) rfl) rfl), rfl, hX1041, (dH hlek233 hx1040.le), (by omega), (pos_next (by omega) h1049 hpp), ho1042, ho1043, ho1044, ho1045, hb1046, hb1047, hb1048⟩))))))))))
  omega
  exact wp_exit (yK (yU (gK ⟨_, i, G1038, (zF (x := 13) (zF (x := 12) (zF (x := 11) (zF (x := 10) (zF (x := 9) (zF (x := 8) (zF (x := 7) (zF (x := 6) (zF (x := 5) (zF (x := 4) (zF (x := 1) (yF (x := 0) rfl) rfl) rfl) rfl) rfl) rfl) rfl) rfl) rfl) rfl) rfl) rfl), hX1041, (dH hlek233 hx1040.le), hi, (pos_stop (by omega) h1049 hpp), ho1042, ho1043, ho1044, ho1045, hb1046, hb1047, hb1048⟩)))
  refine zT (i := 5) rfl rfl (zY rfl rfl rfl rfl rfl) (by kernel_rfl) hX1022.pins (zT (i := 6) rfl rfl (zY rfl rfl rfl rfl rfl) (by kernel_rfl) hX1022.pins (zT (i := 7) rfl rfl (zY rfl rfl rfl rfl rfl) (by kernel_rfl) hX1022.pins (zT (i := 8) rfl rfl (zY rfl rfl rfl rfl rfl) (by kernel_rfl) hX1022.pins (zT (i := 9) rfl rfl (zY rfl rfl rfl rfl rfl) (by kernel_rfl) hX1022.pins (zT (i := 10) rfl rfl (zY rfl rfl rfl rfl rfl) (by kernel_rfl) hX1022.pins (dT (i := 11) rfl rfl (by kernel_rfl) (fun _ _ => yN (v := (.bool false)) rfl rfl) hX1022.pins ?_))))))
  exact yP (by kernel_rfl) (zA (vP rfl rfl (wp_exit (yK (yU (gK ⟨_, i, GL3, (zF (x := 13) (zF (x := 12) (zF (x := 11) (zF (x := 10) (zF (x := 9) (zF (x := 8) (zF (x := 7) (zF (x := 6) (zF (x := 5) (zF (x := 4) (zF (x := 1) (yF (x := 0) rfl) rfl) rfl) rfl) rfl) rfl) rfl) rfl) rfl) rfl) rfl) rfl), hX1022, hlek233, hi, (pos_end (by omega) hpp), ho1023, ho1024, ho1025, ho1026, hb1027, hb1028, hb1029⟩))))))
 have hr1051 := hw206.read
 refine xD (S := fun wz => BxR wz b [bu, bv] ∧ Pins (Gadd GL2 w176 bu) wz) (last := 24) (by kernel_rfl) rfl ?_
 have hl1052 := bdr w176
 have hX1054 := hX178.step (hX178.pins.below hl1052) hl1052
 have ho1055 := hw204.below hl1052
 have ho1056 := hw205.below hl1052
 have ho1057 := hw206.below hl1052
 have ho1058 := hw207.below hl1052
 have hb1059 := hw208.below hl1052
 have hb1060 := hw209.below hl1052
 have hb1061 := hw210.below hl1052
 have hq1062 := (Gadd.pins hX178.pins bu).below hl1052
 refine dT (i := 0) rfl rfl (by kernel_rfl) (fun _ _ => zB (v := at_) rfl) ⟨hb1059.reads, hq1062⟩ ?_
 refine dT (i := 1) rfl rfl (by kernel_rfl) (fun _ _ => zB (v := (.pointer (some ⟨b, 0, none⟩))) rfl) ⟨hb1059.reads, hq1062⟩ ?_
 refine dT (i := 2) rfl rfl (by kernel_rfl) (fun _ _ => xL rfl) ⟨hb1059.reads, hq1062⟩ ?_
 refine dT (i := 3) rfl rfl (by kernel_rfl) (fun _ _ => zM (k := 0) rfl dA rfl nz24 rfl) ⟨hb1059.reads, hq1062⟩ ?_
 refine dT (i := 4) rfl rfl (by kernel_rfl) (fun _ hS => zP (u := bu) ag24 rfl (hS.1 0 _ rfl)) ⟨hb1059.reads, hq1062⟩ ?_
 refine dT (i := 5) rfl rfl (by kernel_rfl) (fun _ _ => zB (v := (.int .i64 (k5 : Int))) rfl) ⟨hb1059.reads, hq1062⟩ ?_
 refine dT (i := 6) rfl rfl (by kernel_rfl) (fun _ _ => zL eT sz65 (v := bu) rfl rfl hr1051 (by omega) (by omega)) ⟨hb1059.reads, hq1062⟩ ?_
 refine dT (i := 7) rfl rfl (by kernel_rfl) (fun _ _ => yS (off := 0) eX rfl rfl nz59 (z := (k5 : Int)) (k := 0) rfl hr1051 (by omega) (by omega)) ⟨hb1059.reads, hq1062⟩ ?_
 obtain ⟨u1063, hr1064, hl1065⟩ := vO (hw206.at (z := (k5 : Int)) (by omega) (by omega)) (j := k5) rfl
 have hm1066 := hr1064.max
 refine dT (i := 8) rfl rfl (by kernel_rfl) (fun _ hS => hl1065 ag59 rfl hS.2) ⟨hb1059.reads, hq1062⟩ ?_
 refine dT (i := 11) rfl rfl (by kernel_rfl) (fun _ _ => zB (v := at_) rfl) ⟨hb1059.reads, hq1062⟩ ?_
 refine dT (i := 12) rfl rfl (by kernel_rfl) (fun _ _ => zB (v := (.pointer (some ⟨b, 0, none⟩))) rfl) ⟨hb1059.reads, hq1062⟩ ?_
 refine dT (i := 13) rfl rfl (by kernel_rfl) (fun _ _ => xL rfl) ⟨hb1059.reads, hq1062⟩ ?_
 refine dT (i := 14) rfl rfl (by kernel_rfl) (fun _ _ => zM (k := 0) rfl dA rfl nz24 rfl) ⟨hb1059.reads, hq1062⟩ ?_
 refine dT (i := 15) rfl rfl (by kernel_rfl) (fun _ hS => zP (u := bu) ag24 rfl (hS.1 0 _ rfl)) ⟨hb1059.reads, hq1062⟩ ?_
 refine dT (i := 16) rfl rfl (by kernel_rfl) (fun _ _ => zB (v := (.int .i64 (k5 : Int))) rfl) ⟨hb1059.reads, hq1062⟩ ?_
 refine dT (i := 17) rfl rfl (by kernel_rfl) (fun _ _ => zL eT sz65 (v := bu) rfl rfl hr1051 (by omega) (by omega)) ⟨hb1059.reads, hq1062⟩ ?_
 refine dT (i := 18) rfl rfl (by kernel_rfl) (fun _ _ => yS (off := 1) eX rfl rfl nz59 (z := (k5 : Int)) (k := 0) rfl hr1051 (by omega) (by omega)) ⟨hb1059.reads, hq1062⟩ ?_
 obtain ⟨u1067, hr1068, hl1069⟩ := vH (hw206.at (z := (k5 : Int)) (by omega) (by omega)) (j := k5) rfl
 have hm1070 := hr1068.max
 refine dT (i := 19) rfl rfl (by kernel_rfl) (fun _ hS => hl1069 ag59 rfl hS.2) ⟨hb1059.reads, hq1062⟩ ?_
 refine jI (i := 9) (j := 23) (by kernel_rfl) ?_ ?_
 refine (yC (i := 9) rfl rfl rfl (zH rfl _) (zK (vs := [at_, u1063]) Tryz.func77 nm77 rfl rfl rfl ?_))
 refine dJ (qX hX1054.pins (Gadd.pins hX1054.pins at_) ho1055.read hr1064 (by omega) (fun i hi => by have := hoo.left (j := k5) (by omega) hi; omega)) ?_
 rintro _ w1073 ⟨u1071, G1072, rfl, ho1074, hx1075⟩
 refine ⟨_, rfl, ?_⟩
 have hX1076 := hX1054.tr hx1075
 have ho1077 := ho1055.ext hx1075
 have ho1078 := ho1056.ext hx1075
 have ho1079 := ho1057.ext hx1075
 have ho1080 := ho1058.ext hx1075
 have hb1081 := hb1059.ext hx1075
 have hb1082 := hb1060.ext hx1075
 have hb1083 := hb1061.ext hx1075
 have ha1084 : Apart u1071.ownBlock at_.ownBlock := zV ho1074.lt ho1055.lt
 have ha1085 : Apart u1071.ownBlock ov.ownBlock := zV ho1074.lt ho1056.lt
 have ha1086 : Apart u1071.ownBlock bu.ownBlock := zV ho1074.lt ho1057.lt
 have ha1087 : Apart u1071.ownBlock bv.ownBlock := zV ho1074.lt ho1058.lt
 have ha1088 : Apart u1071.ownBlock (some b) := zX ho1074.lt hb1059.lt
 have ha1089 : Apart u1071.ownBlock (some b1) := zX ho1074.lt hb1060.lt
 have ha1090 : Apart u1071.ownBlock (some b74) := zX ho1074.lt hb1061.lt
 have ho1091 := ho1074.weaken hX1054.size
 have hq1092 := hq1062.below hx1075.below
 refine ⟨fun _ => ⟨hb1081.reads, hq1092⟩, ?_⟩
 refine jI (i := 10) (j := 23) (by kernel_rfl) ?_ ?_
 obtain ⟨G1093, hle1096, hX1095, hr1094, hf1097⟩ := ho1091.sealed hX1076
 refine (yC (i := 10) rfl rfl rfl (zH rfl _) (zK (vs := [u1071]) Tryz.func129 rW rfl rfl rfl ?_))
 refine dJ (qE hX1095.pins hr1094 (by first | omega | (rw [xS]; omega))) ?_
 rintro _ w1107 ⟨u1105, G1106, rfl, hr1108, hx1109⟩
 refine ⟨_, rfl, ?_⟩
 have hX1110 := hX1095.tr hx1109
 have ho1111 := (ho1077.moreO hle1096 hf1097 ha1084.symm).ext hx1109
 have ho1112 := (ho1078.moreO hle1096 hf1097 ha1085.symm).ext hx1109
 have ho1113 := (ho1079.moreO hle1096 hf1097 ha1086.symm).ext hx1109
 have ho1114 := (ho1080.moreO hle1096 hf1097 ha1087.symm).ext hx1109
 have hb1115 := (hb1081.moreO hf1097 ha1088.symm).ext hx1109
 have hb1116 := (hb1082.moreO hf1097 ha1089.symm).ext hx1109
 have hb1117 := (hb1083.moreO hf1097 ha1090.symm).ext hx1109
 have hq1118 := hq1092.below hx1109.below
 refine ⟨fun _ => ⟨hb1115.reads, hq1118⟩, ?_⟩
 refine jI (i := 20) (j := 23) (by kernel_rfl) ?_ ?_
 refine (yC (i := 20) rfl rfl rfl (zH rfl _) (zK (vs := [at_, u1067]) Tryz.func77 nm77 rfl rfl rfl ?_))
 refine dJ (qX hX1110.pins (Gadd.pins hX1110.pins at_) ho1111.read (hr1068.mono (dH (dH hx1075.le hle1096) hx1109.le)) (by omega) (fun i hi => by have := hoo.right (j := k5) (by omega) hi; omega)) ?_
 rintro _ w1121 ⟨u1119, G1120, rfl, ho1122, hx1123⟩
 refine ⟨_, rfl, ?_⟩
 have hX1124 := hX1110.tr hx1123
 have ho1125 := ho1111.ext hx1123
 have ho1126 := ho1112.ext hx1123
 have ho1127 := ho1113.ext hx1123
 have ho1128 := ho1114.ext hx1123
 have hb1129 := hb1115.ext hx1123
 have hb1130 := hb1116.ext hx1123
 have hb1131 := hb1117.ext hx1123
 have ha1132 : Apart u1119.ownBlock at_.ownBlock := zV ho1122.lt ho1111.lt
 have ha1133 : Apart u1119.ownBlock ov.ownBlock := zV ho1122.lt ho1112.lt
 have ha1134 : Apart u1119.ownBlock bu.ownBlock := zV ho1122.lt ho1113.lt
 have ha1135 : Apart u1119.ownBlock bv.ownBlock := zV ho1122.lt ho1114.lt
 have ha1136 : Apart u1119.ownBlock (some b) := zX ho1122.lt hb1115.lt
 have ha1137 : Apart u1119.ownBlock (some b1) := zX ho1122.lt hb1116.lt
 have ha1138 : Apart u1119.ownBlock (some b74) := zX ho1122.lt hb1117.lt
 have ho1139 := ho1122.weaken hX1110.size
 have hq1140 := hq1118.below hx1123.below
 refine ⟨fun _ => ⟨hb1129.reads, hq1140⟩, ?_⟩
 refine jI (i := 21) (j := 23) (by kernel_rfl) ?_ ?_
 obtain ⟨G1141, hle1144, hX1143, hr1142, hf1145⟩ := ho1139.sealed hX1124
 refine (yC (i := 21) rfl rfl rfl (zH rfl _) (zK (vs := [u1119]) Tryz.func129 rW rfl rfl rfl ?_))
 refine dJ (qE hX1143.pins hr1142 (by first | omega | (rw [xS]; omega))) ?_
 rintro _ w1155 ⟨u1153, G1154, rfl, hr1156, hx1157⟩
 refine ⟨_, rfl, ?_⟩
 have hX1158 := hX1143.tr hx1157
 have ho1159 := (ho1125.moreO hle1144 hf1145 ha1132.symm).ext hx1157
 have ho1160 := (ho1126.moreO hle1144 hf1145 ha1133.symm).ext hx1157
 have ho1161 := (ho1127.moreO hle1144 hf1145 ha1134.symm).ext hx1157
 have ho1162 := (ho1128.moreO hle1144 hf1145 ha1135.symm).ext hx1157
 have hb1163 := (hb1129.moreO hf1145 ha1136.symm).ext hx1157
 have hb1164 := (hb1130.moreO hf1145 ha1137.symm).ext hx1157
 have hb1165 := (hb1131.moreO hf1145 ha1138.symm).ext hx1157
 have hq1166 := hq1140.below hx1157.below
 refine ⟨fun _ => ⟨hb1163.reads, hq1166⟩, ?_⟩
 refine dT (i := 22) rfl rfl (by kernel_rfl) (fun _ _ => yY [(.slice none 0 0), (.slice none 0 0)] [u1105, u1153] [(0, u1105, [u1105]), (1, u1153, [u1153])] eX zr65 rfl pl65 rfl (List.forall_mem_cons.2 ⟨(yW hr1108.one), (List.forall_mem_cons.2 ⟨(yW hr1156.one), (fun _ h => by cases h)⟩)⟩) rfl) ⟨hb1163.reads, hq1166⟩ ?_
 refine zR (i := 23) (by kernel_rfl) (yC (i := 23) rfl rfl rfl (zH rfl _) (yL [(.slice none 0 0), (.slice none 0 0)] zr65 rfl hX1158.pins (fun b1167 w1168 hk1169 hb1170 hp1171 hl1172 => ?_)))
 have hX1173 := hX1158.step hp1171 hl1172
 have hb1178 := hb1163.below hl1172
 have ha1181 : Apart (some b1167) at_.ownBlock := zI (congrArg some hk1169) ho1159.lt
 have ha1182 : Apart (some b1167) ov.ownBlock := zI (congrArg some hk1169) ho1160.lt
 have ha1183 : Apart (some b1167) bu.ownBlock := zI (congrArg some hk1169) ho1161.lt
 have ha1184 : Apart (some b1167) bv.ownBlock := zI (congrArg some hk1169) ho1162.lt
 have ha1185 : Apart (some b1167) (some b) := zG (congrArg some hk1169) hb1163.lt
 have ha1186 : Apart (some b1167) (some b1) := zG (congrArg some hk1169) hb1164.lt
 have ha1187 : Apart (some b1167) (some b74) := zG (congrArg some hk1169) hb1165.lt
 have hlo1188 : w.heap.size ≤ b1167 := by have := hX1158.size; omega
 refine ⟨fun _ => ⟨hb1178.reads, (hq1166.below hl1172)⟩, ?_⟩
 refine zR (i := 24) (by kernel_rfl) (xQ (i := 24) rfl rfl rfl (zH rfl _) (yD (cs' := [u1105, u1153]) (us := [u1105, u1153]) (v := (.agg [u1105, u1153].toArray)) sz65 rfl rfl rfl (rV hr1108.one hr1156.one) hX1173.pins hb1170 (dK rfl) rfl (fun w1190 hb1191 hp1192 hg1193 hz1194 => ?_)))
 obtain ⟨G1203, hle1204, hX1205, hbp1206, hf1207⟩ := hb1191.shut (hX1173.write hp1192 hg1193 ((zS hlo1188))) hlo1188
 refine ⟨fun h => absurd rfl h, ?_⟩
 exact yP (by kernel_rfl) (qS ⟨_, b1167, u1105, u1153, G1203, (zF (x := 12) (zF (x := 11) (zF (x := 10) (zF (x := 9) (zF (x := 8) (zF (x := 7) (zF (x := 6) (zF (x := 5) (zF (x := 4) (zF (x := 1) (yF (x := 0) rfl) rfl) rfl) rfl) rfl) rfl) rfl) rfl) rfl) rfl) rfl), hX1205, (dH (dH (dH (dH (dH (dH hx1075.le hle1096) hx1109.le) hx1123.le) hle1144) hx1157.le) hle1204), (hr1108.mono (dH (dH (dH hx1123.le hle1144) hx1157.le) hle1204)), (hr1156.mono hle1204), (((ho1159.below hl1172).keptA hg1193 ha1181.symm).moreA hle1204 hf1207 ha1181.symm), (((ho1160.below hl1172).keptA hg1193 ha1182.symm).moreA hle1204 hf1207 ha1182.symm), (((ho1161.below hl1172).keptA hg1193 ha1183.symm).moreA hle1204 hf1207 ha1183.symm), (((ho1162.below hl1172).keptA hg1193 ha1184.symm).moreA hle1204 hf1207 ha1184.symm), ((hb1178.keptA hg1193 ha1185.symm).moreA hf1207 ha1185.symm), (((hb1164.below hl1172).keptA hg1193 ha1186.symm).moreA hf1207 ha1186.symm), (((hb1165.below hl1172).keptA hg1193 ha1187.symm).moreA hf1207 ha1187.symm), (hbp1206.mono (Pin.le_refl _))⟩)
 refine (yC (i := 23) rfl rfl rfl (zH rfl _) (yL [(.slice none 0 0), (.slice none 0 0)] zr65 rfl hX1124.pins (fun b1215 w1216 hk1217 hb1218 hp1219 hl1220 => ?_)))
 have hb1227 := hb1129.below hl1220
 have ha1230 : Apart (some b1215) at_.ownBlock := zI (congrArg some hk1217) ho1125.lt
 have ha1231 : Apart (some b1215) ov.ownBlock := zI (congrArg some hk1217) ho1126.lt
 have ha1232 : Apart (some b1215) bu.ownBlock := zI (congrArg some hk1217) ho1127.lt
 have ha1233 : Apart (some b1215) bv.ownBlock := zI (congrArg some hk1217) ho1128.lt
 have ha1235 : Apart (some b1215) (some b) := zG (congrArg some hk1217) hb1129.lt
 have ha1236 : Apart (some b1215) (some b1) := zG (congrArg some hk1217) hb1130.lt
 have ha1237 : Apart (some b1215) (some b74) := zG (congrArg some hk1217) hb1131.lt
 have hlo1238 : w.heap.size ≤ b1215 := by have := hX1124.size; omega
 have hq1239 := hq1140.below hl1220
 refine ⟨fun _ => ⟨hb1227.reads, hq1239⟩, ?_⟩
 obtain ⟨G1240, hle1243, hX1242, hr1241, hf1244⟩ := (ho1139.below hl1220).sealed (hX1124.step hp1219 hl1220)
 refine zR (i := 21) (by kernel_rfl) (yC (i := 21) rfl rfl rfl (zH rfl _) (zK (vs := [u1119]) Tryz.func129 rW rfl rfl rfl ?_))
 refine dJ (qE hX1242.pins hr1241 (by first | omega | (rw [xS]; omega))) ?_
 rintro _ w1255 ⟨u1253, G1254, rfl, hr1256, hx1257⟩
 refine ⟨_, rfl, ?_⟩
 have hX1258 := hX1242.tr hx1257
 have hb1263 := (hb1227.moreO hf1244 ha1136.symm).ext hx1257
 have hq1267 := hq1239.below hx1257.below
 refine ⟨fun _ => ⟨hb1263.reads, hq1267⟩, ?_⟩
 refine dT (i := 22) rfl rfl (by kernel_rfl) (fun _ _ => yY [(.slice none 0 0), (.slice none 0 0)] [u1105, u1253] [(0, u1105, [u1105]), (1, u1253, [u1253])] eX zr65 rfl pl65 rfl (List.forall_mem_cons.2 ⟨(yW hr1108.one), (List.forall_mem_cons.2 ⟨(yW hr1256.one), (fun _ h => by cases h)⟩)⟩) rfl) ⟨hb1263.reads, hq1267⟩ ?_
 refine zR (i := 24) (by kernel_rfl) (xQ (i := 24) rfl rfl rfl (zH rfl _) (yD (cs' := [u1105, u1253]) (us := [u1105, u1253]) (v := (.agg [u1105, u1253].toArray)) sz65 rfl rfl rfl (rV hr1108.one hr1256.one) hX1258.pins ((hb1218.moreO hf1244 (zI (congrArg some hk1217) ho1139.lt)).ext hx1257) (dK rfl) rfl (fun w1268 hb1269 hp1270 hg1271 hz1272 => ?_)))
 obtain ⟨G1281, hle1282, hX1283, hbp1284, hf1285⟩ := hb1269.shut (hX1258.write hp1270 hg1271 ((zS hlo1238))) hlo1238
 refine ⟨fun h => absurd rfl h, ?_⟩
 exact yP (by kernel_rfl) (qS ⟨_, b1215, u1105, u1253, G1281, (zF (x := 12) (zF (x := 11) (zF (x := 10) (zF (x := 9) (zF (x := 8) (zF (x := 7) (zF (x := 6) (zF (x := 5) (zF (x := 4) (zF (x := 1) (yF (x := 0) rfl) rfl) rfl) rfl) rfl) rfl) rfl) rfl) rfl) rfl) rfl), hX1283, (dH (dH (dH (dH (dH (dH hx1075.le hle1096) hx1109.le) hx1123.le) hle1243) hx1257.le) hle1282), (hr1108.mono (dH (dH (dH hx1123.le hle1243) hx1257.le) hle1282)), (hr1256.mono hle1282), (((((ho1125.below hl1220).moreO hle1243 hf1244 ha1132.symm).ext hx1257).keptA hg1271 ha1230.symm).moreA hle1282 hf1285 ha1230.symm), (((((ho1126.below hl1220).moreO hle1243 hf1244 ha1133.symm).ext hx1257).keptA hg1271 ha1231.symm).moreA hle1282 hf1285 ha1231.symm), (((((ho1127.below hl1220).moreO hle1243 hf1244 ha1134.symm).ext hx1257).keptA hg1271 ha1232.symm).moreA hle1282 hf1285 ha1232.symm), (((((ho1128.below hl1220).moreO hle1243 hf1244 ha1135.symm).ext hx1257).keptA hg1271 ha1233.symm).moreA hle1282 hf1285 ha1233.symm), ((hb1263.keptA hg1271 ha1235.symm).moreA hf1285 ha1235.symm), (((((hb1130.below hl1220).moreO hf1244 ha1137.symm).ext hx1257).keptA hg1271 ha1236.symm).moreA hf1285 ha1236.symm), (((((hb1131.below hl1220).moreO hf1244 ha1138.symm).ext hx1257).keptA hg1271 ha1237.symm).moreA hf1285 ha1237.symm), (hbp1284.mono (Pin.le_refl _))⟩)
 refine (yC (i := 23) rfl rfl rfl (zH rfl _) (yL [(.slice none 0 0), (.slice none 0 0)] zr65 rfl hX1110.pins (fun b1293 w1294 hk1295 hb1296 hp1297 hl1298 => ?_)))
 have hX1299 := hX1110.step hp1297 hl1298
 have ho1300 := ho1111.below hl1298
 have ho1301 := ho1112.below hl1298
 have ho1302 := ho1113.below hl1298
 have ho1303 := ho1114.below hl1298
 have hb1304 := hb1115.below hl1298
 have hb1305 := hb1116.below hl1298
 have hb1306 := hb1117.below hl1298
 have ha1307 : Apart (some b1293) at_.ownBlock := zI (congrArg some hk1295) ho1111.lt
 have ha1308 : Apart (some b1293) ov.ownBlock := zI (congrArg some hk1295) ho1112.lt
 have ha1309 : Apart (some b1293) bu.ownBlock := zI (congrArg some hk1295) ho1113.lt
 have ha1310 : Apart (some b1293) bv.ownBlock := zI (congrArg some hk1295) ho1114.lt
 have ha1311 : Apart (some b1293) (some b) := zG (congrArg some hk1295) hb1115.lt
 have ha1312 : Apart (some b1293) (some b1) := zG (congrArg some hk1295) hb1116.lt
 have ha1313 : Apart (some b1293) (some b74) := zG (congrArg some hk1295) hb1117.lt
 have hlo1314 : w.heap.size ≤ b1293 := by have := hX1110.size; omega
 have hq1315 := hq1118.below hl1298
 refine ⟨fun _ => ⟨hb1304.reads, hq1315⟩, ?_⟩
 refine zR (i := 20) (by kernel_rfl) (yC (i := 20) rfl rfl rfl (zH rfl _) (zK (vs := [at_, u1067]) Tryz.func77 nm77 rfl rfl rfl ?_))
 refine dJ (qX hX1299.pins (Gadd.pins hX1299.pins at_) ho1300.read (hr1068.mono (dH (dH hx1075.le hle1096) hx1109.le)) (by omega) (fun i hi => by have := hoo.right (j := k5) (by omega) hi; omega)) ?_
 rintro _ w1318 ⟨u1316, G1317, rfl, ho1319, hx1320⟩
 refine ⟨_, rfl, ?_⟩
 have hb1326 := hb1304.ext hx1320
 have ho1338 := ho1319.weaken hX1299.size
 have hq1339 := hq1315.below hx1320.below
 refine ⟨fun _ => ⟨hb1326.reads, hq1339⟩, ?_⟩
 obtain ⟨G1340, hle1343, hX1342, hr1341, hf1344⟩ := ho1338.sealed (hX1299.tr hx1320)
 refine zR (i := 21) (by kernel_rfl) (yC (i := 21) rfl rfl rfl (zH rfl _) (zK (vs := [u1316]) Tryz.func129 rW rfl rfl rfl ?_))
 refine dJ (qE hX1342.pins hr1341 (by first | omega | (rw [xS]; omega))) ?_
 rintro _ w1355 ⟨u1353, G1354, rfl, hr1356, hx1357⟩
 refine ⟨_, rfl, ?_⟩
 have hX1358 := hX1342.tr hx1357
 have hb1363 := (hb1326.moreO hf1344 (zX ho1319.lt hb1304.lt).symm).ext hx1357
 have hq1367 := hq1339.below hx1357.below
 refine ⟨fun _ => ⟨hb1363.reads, hq1367⟩, ?_⟩
 refine dT (i := 22) rfl rfl (by kernel_rfl) (fun _ _ => yY [(.slice none 0 0), (.slice none 0 0)] [u1105, u1353] [(0, u1105, [u1105]), (1, u1353, [u1353])] eX zr65 rfl pl65 rfl (List.forall_mem_cons.2 ⟨(yW hr1108.one), (List.forall_mem_cons.2 ⟨(yW hr1356.one), (fun _ h => by cases h)⟩)⟩) rfl) ⟨hb1363.reads, hq1367⟩ ?_
 refine zR (i := 24) (by kernel_rfl) (xQ (i := 24) rfl rfl rfl (zH rfl _) (yD (cs' := [u1105, u1353]) (us := [u1105, u1353]) (v := (.agg [u1105, u1353].toArray)) sz65 rfl rfl rfl (rV hr1108.one hr1356.one) hX1358.pins (((hb1296.ext hx1320).moreO hf1344 (zX ho1319.lt hb1296.lt).symm).ext hx1357) (dK rfl) rfl (fun w1368 hb1369 hp1370 hg1371 hz1372 => ?_)))
 obtain ⟨G1381, hle1382, hX1383, hbp1384, hf1385⟩ := hb1369.shut (hX1358.write hp1370 hg1371 ((zS hlo1314))) hlo1314
 have hb1392 := ((((hb1306.ext hx1320).moreO hf1344 (zX ho1319.lt hb1306.lt).symm).ext hx1357).keptA hg1371 ha1313.symm).moreA hf1385 ha1313.symm
 refine ⟨fun h => absurd rfl h, ?_⟩
 exact yP (by kernel_rfl) (qS ⟨_, b1293, u1105, u1353, G1381, (zF (x := 12) (zF (x := 11) (zF (x := 10) (zF (x := 9) (zF (x := 8) (zF (x := 7) (zF (x := 6) (zF (x := 5) (zF (x := 4) (zF (x := 1) (yF (x := 0) rfl) rfl) rfl) rfl) rfl) rfl) rfl) rfl) rfl) rfl) rfl), hX1383, (dH (dH (dH (dH (dH (dH hx1075.le hle1096) hx1109.le) hx1320.le) hle1343) hx1357.le) hle1382), (hr1108.mono (dH (dH (dH hx1320.le hle1343) hx1357.le) hle1382)), (hr1356.mono hle1382), (((((ho1300.ext hx1320).moreO hle1343 hf1344 (zV ho1319.lt ho1300.lt).symm).ext hx1357).keptA hg1371 ha1307.symm).moreA hle1382 hf1385 ha1307.symm), (((((ho1301.ext hx1320).moreO hle1343 hf1344 (zV ho1319.lt ho1301.lt).symm).ext hx1357).keptA hg1371 ha1308.symm).moreA hle1382 hf1385 ha1308.symm), (((((ho1302.ext hx1320).moreO hle1343 hf1344 (zV ho1319.lt ho1302.lt).symm).ext hx1357).keptA hg1371 ha1309.symm).moreA hle1382 hf1385 ha1309.symm), (((((ho1303.ext hx1320).moreO hle1343 hf1344 (zV ho1319.lt ho1303.lt).symm).ext hx1357).keptA hg1371 ha1310.symm).moreA hle1382 hf1385 ha1310.symm), ((hb1363.keptA hg1371 ha1311.symm).moreA hf1385 ha1311.symm), (((((hb1305.ext hx1320).moreO hf1344 (zX ho1319.lt hb1305.lt).symm).ext hx1357).keptA hg1371 ha1312.symm).moreA hf1385 ha1312.symm), hb1392, (hbp1384.mono (Pin.le_refl _))⟩)
 refine (yC (i := 23) rfl rfl rfl (zH rfl _) (yL [(.slice none 0 0), (.slice none 0 0)] zr65 rfl hX1076.pins (fun b1393 w1394 hk1395 hb1396 hp1397 hl1398 => ?_)))
 have hb1405 := hb1081.below hl1398
 have ha1408 : Apart (some b1393) at_.ownBlock := zI (congrArg some hk1395) ho1077.lt
 have ha1409 : Apart (some b1393) ov.ownBlock := zI (congrArg some hk1395) ho1078.lt
 have ha1410 : Apart (some b1393) bu.ownBlock := zI (congrArg some hk1395) ho1079.lt
 have ha1411 : Apart (some b1393) bv.ownBlock := zI (congrArg some hk1395) ho1080.lt
 have ha1413 : Apart (some b1393) (some b) := zG (congrArg some hk1395) hb1081.lt
 have ha1414 : Apart (some b1393) (some b1) := zG (congrArg some hk1395) hb1082.lt
 have ha1415 : Apart (some b1393) (some b74) := zG (congrArg some hk1395) hb1083.lt
 have hlo1416 : w.heap.size ≤ b1393 := by have := hX1076.size; omega
 have hq1417 := hq1092.below hl1398
 refine ⟨fun _ => ⟨hb1405.reads, hq1417⟩, ?_⟩
 obtain ⟨G1418, hle1421, hX1420, hr1419, hf1422⟩ := (ho1091.below hl1398).sealed (hX1076.step hp1397 hl1398)
 refine zR (i := 10) (by kernel_rfl) (yC (i := 10) rfl rfl rfl (zH rfl _) (zK (vs := [u1071]) Tryz.func129 rW rfl rfl rfl ?_))
 refine dJ (qE hX1420.pins hr1419 (by first | omega | (rw [xS]; omega))) ?_
 rintro _ w1433 ⟨u1431, G1432, rfl, hr1434, hx1435⟩
 refine ⟨_, rfl, ?_⟩
 have hX1436 := hX1420.tr hx1435
 have ho1437 := ((ho1077.below hl1398).moreO hle1421 hf1422 ha1084.symm).ext hx1435
 have ho1438 := ((ho1078.below hl1398).moreO hle1421 hf1422 ha1085.symm).ext hx1435
 have ho1439 := ((ho1079.below hl1398).moreO hle1421 hf1422 ha1086.symm).ext hx1435
 have ho1440 := ((ho1080.below hl1398).moreO hle1421 hf1422 ha1087.symm).ext hx1435
 have hb1441 := (hb1405.moreO hf1422 ha1088.symm).ext hx1435
 have hb1442 := ((hb1082.below hl1398).moreO hf1422 ha1089.symm).ext hx1435
 have hb1443 := ((hb1083.below hl1398).moreO hf1422 ha1090.symm).ext hx1435
 have hb1444 := (hb1396.moreO hf1422 (zI (congrArg some hk1395) ho1091.lt)).ext hx1435
 have hq1445 := hq1417.below hx1435.below
 refine ⟨fun _ => ⟨hb1441.reads, hq1445⟩, ?_⟩
 refine zR (i := 20) (by kernel_rfl) (yC (i := 20) rfl rfl rfl (zH rfl _) (zK (vs := [at_, u1067]) Tryz.func77 nm77 rfl rfl rfl ?_))
 refine dJ (qX hX1436.pins (Gadd.pins hX1436.pins at_) ho1437.read (hr1068.mono (dH (dH hx1075.le hle1421) hx1435.le)) (by omega) (fun i hi => by have := hoo.right (j := k5) (by omega) hi; omega)) ?_
 rintro _ w1448 ⟨u1446, G1447, rfl, ho1449, hx1450⟩
 refine ⟨_, rfl, ?_⟩
 have hb1456 := hb1441.ext hx1450
 have ho1468 := ho1449.weaken hX1436.size
 have hq1469 := hq1445.below hx1450.below
 refine ⟨fun _ => ⟨hb1456.reads, hq1469⟩, ?_⟩
 obtain ⟨G1470, hle1473, hX1472, hr1471, hf1474⟩ := ho1468.sealed (hX1436.tr hx1450)
 refine zR (i := 21) (by kernel_rfl) (yC (i := 21) rfl rfl rfl (zH rfl _) (zK (vs := [u1446]) Tryz.func129 rW rfl rfl rfl ?_))
 refine dJ (qE hX1472.pins hr1471 (by first | omega | (rw [xS]; omega))) ?_
 rintro _ w1485 ⟨u1483, G1484, rfl, hr1486, hx1487⟩
 refine ⟨_, rfl, ?_⟩
 have hX1488 := hX1472.tr hx1487
 have hb1493 := (hb1456.moreO hf1474 (zX ho1449.lt hb1441.lt).symm).ext hx1487
 have hq1497 := hq1469.below hx1487.below
 refine ⟨fun _ => ⟨hb1493.reads, hq1497⟩, ?_⟩
 refine dT (i := 22) rfl rfl (by kernel_rfl) (fun _ _ => yY [(.slice none 0 0), (.slice none 0 0)] [u1431, u1483] [(0, u1431, [u1431]), (1, u1483, [u1483])] eX zr65 rfl pl65 rfl (List.forall_mem_cons.2 ⟨(yW hr1434.one), (List.forall_mem_cons.2 ⟨(yW hr1486.one), (fun _ h => by cases h)⟩)⟩) rfl) ⟨hb1493.reads, hq1497⟩ ?_
 refine zR (i := 24) (by kernel_rfl) (xQ (i := 24) rfl rfl rfl (zH rfl _) (yD (cs' := [u1431, u1483]) (us := [u1431, u1483]) (v := (.agg [u1431, u1483].toArray)) sz65 rfl rfl rfl (rV hr1434.one hr1486.one) hX1488.pins (((hb1444.ext hx1450).moreO hf1474 (zX ho1449.lt hb1444.lt).symm).ext hx1487) (dK rfl) rfl (fun w1498 hb1499 hp1500 hg1501 hz1502 => ?_)))
 obtain ⟨G1511, hle1512, hX1513, hbp1514, hf1515⟩ := hb1499.shut (hX1488.write hp1500 hg1501 ((zS hlo1416))) hlo1416
 have hb1522 := ((((hb1443.ext hx1450).moreO hf1474 (zX ho1449.lt hb1443.lt).symm).ext hx1487).keptA hg1501 ha1415.symm).moreA hf1515 ha1415.symm
 refine ⟨fun h => absurd rfl h, ?_⟩
 exact yP (by kernel_rfl) (qS ⟨_, b1393, u1431, u1483, G1511, (zF (x := 12) (zF (x := 11) (zF (x := 10) (zF (x := 9) (zF (x := 8) (zF (x := 7) (zF (x := 6) (zF (x := 5) (zF (x := 4) (zF (x := 1) (yF (x := 0) rfl) rfl) rfl) rfl) rfl) rfl) rfl) rfl) rfl) rfl) rfl), hX1513, (dH (dH (dH (dH (dH (dH hx1075.le hle1421) hx1435.le) hx1450.le) hle1473) hx1487.le) hle1512), (hr1434.mono (dH (dH (dH hx1450.le hle1473) hx1487.le) hle1512)), (hr1486.mono hle1512), (((((ho1437.ext hx1450).moreO hle1473 hf1474 (zV ho1449.lt ho1437.lt).symm).ext hx1487).keptA hg1501 ha1408.symm).moreA hle1512 hf1515 ha1408.symm), (((((ho1438.ext hx1450).moreO hle1473 hf1474 (zV ho1449.lt ho1438.lt).symm).ext hx1487).keptA hg1501 ha1409.symm).moreA hle1512 hf1515 ha1409.symm), (((((ho1439.ext hx1450).moreO hle1473 hf1474 (zV ho1449.lt ho1439.lt).symm).ext hx1487).keptA hg1501 ha1410.symm).moreA hle1512 hf1515 ha1410.symm), (((((ho1440.ext hx1450).moreO hle1473 hf1474 (zV ho1449.lt ho1440.lt).symm).ext hx1487).keptA hg1501 ha1411.symm).moreA hle1512 hf1515 ha1411.symm), ((hb1493.keptA hg1501 ha1413.symm).moreA hf1515 ha1413.symm), (((((hb1442.ext hx1450).moreO hf1474 (zX ho1449.lt hb1442.lt).symm).ext hx1487).keptA hg1501 ha1414.symm).moreA hf1515 ha1414.symm), hb1522, (hbp1514.mono (Pin.le_refl _))⟩)
 refine (yC (i := 23) rfl rfl rfl (zH rfl _) (yL [(.slice none 0 0), (.slice none 0 0)] zr65 rfl hX1054.pins (fun b1523 w1524 hk1525 hb1526 hp1527 hl1528 => ?_)))
 have hX1529 := hX1054.step hp1527 hl1528
 have ho1530 := ho1055.below hl1528
 have ho1531 := ho1056.below hl1528
 have ho1532 := ho1057.below hl1528
 have ho1533 := ho1058.below hl1528
 have hb1534 := hb1059.below hl1528
 have hb1535 := hb1060.below hl1528
 have hb1536 := hb1061.below hl1528
 have ha1537 : Apart (some b1523) at_.ownBlock := zI (congrArg some hk1525) ho1055.lt
 have ha1538 : Apart (some b1523) ov.ownBlock := zI (congrArg some hk1525) ho1056.lt
 have ha1539 : Apart (some b1523) bu.ownBlock := zI (congrArg some hk1525) ho1057.lt
 have ha1540 : Apart (some b1523) bv.ownBlock := zI (congrArg some hk1525) ho1058.lt
 have ha1541 : Apart (some b1523) (some b) := zG (congrArg some hk1525) hb1059.lt
 have ha1542 : Apart (some b1523) (some b1) := zG (congrArg some hk1525) hb1060.lt
 have ha1543 : Apart (some b1523) (some b74) := zG (congrArg some hk1525) hb1061.lt
 have hlo1544 : w.heap.size ≤ b1523 := by have := hX1054.size; omega
 have hq1545 := hq1062.below hl1528
 refine ⟨fun _ => ⟨hb1534.reads, hq1545⟩, ?_⟩
 refine zR (i := 9) (by kernel_rfl) (yC (i := 9) rfl rfl rfl (zH rfl _) (zK (vs := [at_, u1063]) Tryz.func77 nm77 rfl rfl rfl ?_))
 refine dJ (qX hX1529.pins (Gadd.pins hX1529.pins at_) ho1530.read hr1064 (by omega) (fun i hi => by have := hoo.left (j := k5) (by omega) hi; omega)) ?_
 rintro _ w1548 ⟨u1546, G1547, rfl, ho1549, hx1550⟩
 refine ⟨_, rfl, ?_⟩
 have hb1556 := hb1534.ext hx1550
 have ho1568 := ho1549.weaken hX1529.size
 have hq1569 := hq1545.below hx1550.below
 refine ⟨fun _ => ⟨hb1556.reads, hq1569⟩, ?_⟩
 obtain ⟨G1570, hle1573, hX1572, hr1571, hf1574⟩ := ho1568.sealed (hX1529.tr hx1550)
 refine zR (i := 10) (by kernel_rfl) (yC (i := 10) rfl rfl rfl (zH rfl _) (zK (vs := [u1546]) Tryz.func129 rW rfl rfl rfl ?_))
 refine dJ (qE hX1572.pins hr1571 (by first | omega | (rw [xS]; omega))) ?_
 rintro _ w1585 ⟨u1583, G1584, rfl, hr1586, hx1587⟩
 refine ⟨_, rfl, ?_⟩
 have hX1588 := hX1572.tr hx1587
 have ho1589 := ((ho1530.ext hx1550).moreO hle1573 hf1574 (zV ho1549.lt ho1530.lt).symm).ext hx1587
 have ho1590 := ((ho1531.ext hx1550).moreO hle1573 hf1574 (zV ho1549.lt ho1531.lt).symm).ext hx1587
 have ho1591 := ((ho1532.ext hx1550).moreO hle1573 hf1574 (zV ho1549.lt ho1532.lt).symm).ext hx1587
 have ho1592 := ((ho1533.ext hx1550).moreO hle1573 hf1574 (zV ho1549.lt ho1533.lt).symm).ext hx1587
 have hb1593 := (hb1556.moreO hf1574 (zX ho1549.lt hb1534.lt).symm).ext hx1587
 have hb1594 := ((hb1535.ext hx1550).moreO hf1574 (zX ho1549.lt hb1535.lt).symm).ext hx1587
 have hb1595 := ((hb1536.ext hx1550).moreO hf1574 (zX ho1549.lt hb1536.lt).symm).ext hx1587
 have hb1596 := ((hb1526.ext hx1550).moreO hf1574 (zX ho1549.lt hb1526.lt).symm).ext hx1587
 have hq1597 := hq1569.below hx1587.below
 refine ⟨fun _ => ⟨hb1593.reads, hq1597⟩, ?_⟩
 refine zR (i := 20) (by kernel_rfl) (yC (i := 20) rfl rfl rfl (zH rfl _) (zK (vs := [at_, u1067]) Tryz.func77 nm77 rfl rfl rfl ?_))
 refine dJ (qX hX1588.pins (Gadd.pins hX1588.pins at_) ho1589.read (hr1068.mono (dH (dH hx1550.le hle1573) hx1587.le)) (by omega) (fun i hi => by have := hoo.right (j := k5) (by omega) hi; omega)) ?_
 rintro _ w1600 ⟨u1598, G1599, rfl, ho1601, hx1602⟩
 refine ⟨_, rfl, ?_⟩
 have hb1608 := hb1593.ext hx1602
 have ho1620 := ho1601.weaken hX1588.size
 have hq1621 := hq1597.below hx1602.below
 refine ⟨fun _ => ⟨hb1608.reads, hq1621⟩, ?_⟩
 obtain ⟨G1622, hle1625, hX1624, hr1623, hf1626⟩ := ho1620.sealed (hX1588.tr hx1602)
 refine zR (i := 21) (by kernel_rfl) (yC (i := 21) rfl rfl rfl (zH rfl _) (zK (vs := [u1598]) Tryz.func129 rW rfl rfl rfl ?_))
 refine dJ (qE hX1624.pins hr1623 (by first | omega | (rw [xS]; omega))) ?_
 rintro _ w1637 ⟨u1635, G1636, rfl, hr1638, hx1639⟩
 refine ⟨_, rfl, ?_⟩
 have hX1640 := hX1624.tr hx1639
 have hb1645 := (hb1608.moreO hf1626 (zX ho1601.lt hb1593.lt).symm).ext hx1639
 have hq1649 := hq1621.below hx1639.below
 refine ⟨fun _ => ⟨hb1645.reads, hq1649⟩, ?_⟩
 refine dT (i := 22) rfl rfl (by kernel_rfl) (fun _ _ => yY [(.slice none 0 0), (.slice none 0 0)] [u1583, u1635] [(0, u1583, [u1583]), (1, u1635, [u1635])] eX zr65 rfl pl65 rfl (List.forall_mem_cons.2 ⟨(yW hr1586.one), (List.forall_mem_cons.2 ⟨(yW hr1638.one), (fun _ h => by cases h)⟩)⟩) rfl) ⟨hb1645.reads, hq1649⟩ ?_
 refine zR (i := 24) (by kernel_rfl) (xQ (i := 24) rfl rfl rfl (zH rfl _) (yD (cs' := [u1583, u1635]) (us := [u1583, u1635]) (v := (.agg [u1583, u1635].toArray)) sz65 rfl rfl rfl (rV hr1586.one hr1638.one) hX1640.pins (((hb1596.ext hx1602).moreO hf1626 (zX ho1601.lt hb1596.lt).symm).ext hx1639) (dK rfl) rfl (fun w1650 hb1651 hp1652 hg1653 hz1654 => ?_)))
 obtain ⟨G1663, hle1664, hX1665, hbp1666, hf1667⟩ := hb1651.shut (hX1640.write hp1652 hg1653 ((zS hlo1544))) hlo1544
 have hb1674 := ((((hb1595.ext hx1602).moreO hf1626 (zX ho1601.lt hb1595.lt).symm).ext hx1639).keptA hg1653 ha1543.symm).moreA hf1667 ha1543.symm
 refine ⟨fun h => absurd rfl h, ?_⟩
 exact yP (by kernel_rfl) (qS ⟨_, b1523, u1583, u1635, G1663, (zF (x := 12) (zF (x := 11) (zF (x := 10) (zF (x := 9) (zF (x := 8) (zF (x := 7) (zF (x := 6) (zF (x := 5) (zF (x := 4) (zF (x := 1) (yF (x := 0) rfl) rfl) rfl) rfl) rfl) rfl) rfl) rfl) rfl) rfl) rfl), hX1665, (dH (dH (dH (dH (dH (dH hx1550.le hle1573) hx1587.le) hx1602.le) hle1625) hx1639.le) hle1664), (hr1586.mono (dH (dH (dH hx1602.le hle1625) hx1639.le) hle1664)), (hr1638.mono hle1664), (((((ho1589.ext hx1602).moreO hle1625 hf1626 (zV ho1601.lt ho1589.lt).symm).ext hx1639).keptA hg1653 ha1537.symm).moreA hle1664 hf1667 ha1537.symm), (((((ho1590.ext hx1602).moreO hle1625 hf1626 (zV ho1601.lt ho1590.lt).symm).ext hx1639).keptA hg1653 ha1538.symm).moreA hle1664 hf1667 ha1538.symm), (((((ho1591.ext hx1602).moreO hle1625 hf1626 (zV ho1601.lt ho1591.lt).symm).ext hx1639).keptA hg1653 ha1539.symm).moreA hle1664 hf1667 ha1539.symm), (((((ho1592.ext hx1602).moreO hle1625 hf1626 (zV ho1601.lt ho1592.lt).symm).ext hx1639).keptA hg1653 ha1540.symm).moreA hle1664 hf1667 ha1540.symm), ((hb1645.keptA hg1653 ha1541.symm).moreA hf1667 ha1541.symm), (((((hb1594.ext hx1602).moreO hf1626 (zX ho1601.lt hb1594.lt).symm).ext hx1639).keptA hg1653 ha1542.symm).moreA hf1667 ha1542.symm), hb1674, (hbp1666.mono (Pin.le_refl _))⟩)
 refine qs rfl rfl rfl rfl rfl rfl (qs rfl rfl rfl rfl rfl rfl (qs rfl rfl rfl rfl rfl rfl (qs rfl rfl rfl rfl rfl rfl (qs rfl rfl rfl rfl rfl rfl (qs rfl rfl rfl rfl rfl rfl (qs rfl rfl rfl rfl rfl rfl (qs rfl rfl rfl rfl rfl rfl (qs rfl rfl rfl rfl rfl rfl (qD rfl (yG (v := (.bool true)) rfl rfl) (qe (zA ?_)))))))))))
 refine qC rfl rfl (wp_exit (yK (yV (zA (zE ?_)))))
 refine qD rfl (zB (v := (.int .i64 (k5 : Int))) rfl) (qD rfl (yT rfl rfl (by omega)) (qD rfl (zC (v := (.int .i64 ((k5 : Int) + 1))) rfl) (qe (yR (⟨_, ?_, _, rfl, _, k5 + 1, lv, ls, fv, fr, GL2, (zF (x := 11) (zF (x := 10) (zF (x := 9) (zF (x := 8) (zF (x := 7) (zF (x := 6) (zF (x := 5) (zF (x := 4) (zF (x := 1) (yF (x := 0) rfl) rfl) rfl) rfl) rfl) rfl) rfl) rfl) rfl) rfl), rfl, hX178, hlek175, (by omega), (lv_skip hrl (fun g => by have := g.1; rw [h214] at this; cases this)), (by omega), hfb, hw204, hw205, hw206, hw207, hw208, hw209, hw210, hr211, hr212⟩)))))
 omega
 refine wp_exit (yK (yU (yV (zA (zD (zE ?_))))))
 refine qD rfl (zC (v := (.int .i64 0)) rfl) (qe (zA ?_))
 refine yI (yZ (fun (k : Nat) (en : Nat → Value) (W : World) => ∃ (env1 : Nat → Value) (i4 : Nat) (at2 : Value) (ats2 : List Int) (ov2 : Value) (outs2 : List Nd) (GL4 : Pin), en = (upd (upd (upd (upd (upd (upd (upd (upd (upd (upd env1 0 (.pointer (some ⟨b, 0, none⟩))) 1 (.int .i64 m)) 4 (.pointer (some ⟨b1, 0, none⟩))) 5 u15) 6 at2) 7 (.pointer (some ⟨b74, 0, none⟩))) 8 (.int .i64 (q : Int))) 9 lv) 10 fv) 14 (.int .i64 (i4 : Int))) ∧ k = ls.length - i4 ∧ Ext noS G w GL4 W ∧ Pin.le GL2 GL4 ∧ (i4 ≤ ls.length) ∧ (placeM ls fr ats outs = placeM (ls.drop i4) (fr.drop i4) ats2 outs2) ∧ (ats2.length = m.toNat + 1) ∧ (outs2.length = outs.length + i4) ∧ (Own eInt 3 GL4 W w.heap.size at2 (ats2)) ∧ (Own eNode 65 GL4 W w.heap.size ov2 (outs2)) ∧ (Own eNode 65 GL4 W 0 bu (ns)) ∧ (Own eInt 3 GL4 W 0 bv (bs)) ∧ (Bx GL4 W b [bu, bv]) ∧ (Bx GL4 W b1 [(.slice none 0 0)]) ∧ (Bx GL4 W b74 [ov2]) ∧ (Apart at2.ownBlock ov2.ownBlock) ∧ (Apart at2.ownBlock bu.ownBlock) ∧ (Apart at2.ownBlock bv.ownBlock) ∧ (Apart at2.ownBlock (some b)) ∧ (Apart at2.ownBlock (some b1)) ∧ (Apart at2.ownBlock (some b74)) ∧ (Apart ov2.ownBlock bu.ownBlock) ∧ (Apart ov2.ownBlock bv.ownBlock) ∧ (Apart ov2.ownBlock (some b)) ∧ (Apart ov2.ownBlock (some b1)) ∧ (Apart ov2.ownBlock (some b74))) _ ⟨_, 0, at_, ats, ov, outs, GL2, (zF (x := 14) (zF (x := 10) (zF (x := 9) (zF (x := 8) (zF (x := 7) (zF (x := 6) (zF (x := 5) (zF (x := 4) (zF (x := 1) (yF (x := 0) rfl) rfl) rfl) rfl) rfl) rfl) rfl) rfl) rfl) rfl), rfl, hX178, Pin.le_refl _, Nat.zero_le _, rfl, hatl, rfl, hw204, hw205, hw206, hw207, hw208, hw209, hw210, ha117, ha118, ha119, ha120, ha121, ha122, ha123, ha124, ha125, ha126, ha127⟩ ?_)
 rintro k1675 _ w1676 ⟨env1, i4, at2, ats2, ov2, outs2, GL4, rfl, hk1677, hX1678, hlek1675, hi4, hrp, hatl2, hol2, hw1679, hw1680, hw1681, hw1682, hw1683, hw1684, hw1685, ha1686, ha1687, ha1688, ha1689, ha1690, ha1691, ha1692, ha1693, ha1694, ha1695, ha1696⟩
 refine zD (zD (zE ?_))
 refine qD rfl (zB (v := (.int .i64 (i4 : Int))) rfl) (qD rfl (zB (v := lv) rfl) (qD rfl (run_len eT (v := lv) rfl hr211) (qD rfl (xB rfl rfl) (qe (zA ?_)))))
 refine yJ (p := ((i4 : Int) : Int) < (ls.length : Int)) rfl rfl (fun h1697 => ?_) (fun h1697 => ?_)
 have hf4 := hfb i4 (by omega)
 refine wp_skip (zA (zD ?_))
 refine yI (zD (xD (S := fun wz => Pins GL4 wz ∧ BxR wz b74 [ov2] ∧ Pins (Gadd GL4 w1676 ov2) wz ∧ Pins (Gadd GL4 w1676 at2) wz) (last := 9) (by kernel_rfl) rfl ?_))
 have hl1702 := bdr w1676
 have hX1704 := hX1678.step (hX1678.pins.below hl1702) hl1702
 have ho1705 := hw1679.below hl1702
 have hb1711 := hw1685.below hl1702
 have hq1712 := (Gadd.pins hX1678.pins ov2).below hl1702
 have hq1713 := (Gadd.pins hX1678.pins at2).below hl1702
 refine dT (i := 0) rfl rfl (by kernel_rfl) (fun _ _ => zB (v := at2) rfl) ⟨hX1704.pins, hb1711.reads, hq1712, hq1713⟩ ?_
 refine dT (i := 1) rfl rfl (by kernel_rfl) (fun _ _ => zB (v := fv) rfl) ⟨hX1704.pins, hb1711.reads, hq1712, hq1713⟩ ?_
 refine dT (i := 2) rfl rfl (by kernel_rfl) (fun _ _ => zB (v := (.int .i64 (i4 : Int))) rfl) ⟨hX1704.pins, hb1711.reads, hq1712, hq1713⟩ ?_
 refine dT (i := 3) rfl rfl (by kernel_rfl) (fun _ _ => zL eR sz3 (v := fv) rfl rfl hr212 (by omega) (by omega)) ⟨hX1704.pins, hb1711.reads, hq1712, hq1713⟩ ?_
 refine dT (i := 4) rfl rfl (by kernel_rfl) (fun _ hS => zZ (r := fr.getD i4 0) rfl ag3 (z := (i4 : Int)) rfl hr212 (dI hS.1 hlek1675) (by omega) (by omega)) ⟨hX1704.pins, hb1711.reads, hq1712, hq1713⟩ ?_
 refine dT (i := 5) rfl rfl (by kernel_rfl) (fun _ _ => zM (k := 0) rfl eY rfl nz24 rfl) ⟨hX1704.pins, hb1711.reads, hq1712, hq1713⟩ ?_
 refine dT (i := 6) rfl rfl (by kernel_rfl) (fun _ hS => zP (u := ov2) ag24 rfl (hS.2.1 0 _ rfl)) ⟨hX1704.pins, hb1711.reads, hq1712, hq1713⟩ ?_
 refine dT (i := 7) rfl rfl (by kernel_rfl) (fun _ _ => run_len eT (v := ov2) rfl hw1680.read) ⟨hX1704.pins, hb1711.reads, hq1712, hq1713⟩ ?_
 refine dT (i := 8) rfl rfl (by kernel_rfl) (fun _ _ => zL eR sz3 (v := at2) rfl rfl hw1679.read (by omega) (by omega)) ⟨hX1704.pins, hb1711.reads, hq1712, hq1713⟩ ?_
 refine zR (i := 9) (by kernel_rfl) (xQ (i := 9) rfl rfl rfl (zH rfl _) (kO (E := eInt) (v := at2) (u := (.int .i64 (outs2.length : Int))) (z := (fr.getD i4 0)) ((outs2.length : Int)) sz3 rfl rfl rfl rfl hX1704.pins ho1705 (by omega) (by omega) (fun w1714 ho1715 hp1716 hg1717 hz1718 => ?_)))
 have hX1719 := hX1704.write hp1716 hg1717 ((yQ ho1705))
 refine ⟨fun h => absurd rfl h, ?_⟩
 refine yP (by kernel_rfl) (zA (xD (S := fun wz => BxR wz b74 [ov2] ∧ Pins GL4 wz) (last := 9) (by kernel_rfl) rfl ?_))
 have hl1726 := bdr w1714
 have hX1728 := hX1719.step (hX1719.pins.below hl1726) hl1726
 have hb1735 := (hb1711.keptA hg1717 ha1691.symm).below hl1726
 refine dT (i := 0) rfl rfl (by kernel_rfl) (fun _ _ => zM (k := 0) rfl eY rfl nz24 rfl) ⟨hb1735.reads, hX1728.pins⟩ ?_
 refine dT (i := 1) rfl rfl (by kernel_rfl) (fun _ hS => zP (u := ov2) ag24 rfl (hS.1 0 _ rfl)) ⟨hb1735.reads, hX1728.pins⟩ ?_
 refine dT (i := 2) rfl rfl (by kernel_rfl) (fun _ _ => zB (v := lv) rfl) ⟨hb1735.reads, hX1728.pins⟩ ?_
 refine dT (i := 3) rfl rfl (by kernel_rfl) (fun _ _ => zB (v := (.int .i64 (i4 : Int))) rfl) ⟨hb1735.reads, hX1728.pins⟩ ?_
 refine dT (i := 4) rfl rfl (by kernel_rfl) (fun _ _ => zL eT sz65 (v := lv) rfl rfl hr211 (by omega) (by omega)) ⟨hb1735.reads, hX1728.pins⟩ ?_
 obtain ⟨u1736, u1737, hr1738, hr1739, hl1740⟩ := mS (hr211.at (z := (i4 : Int)) (by omega) (by omega)) (j := i4) rfl
 have hm1741 := hr1738.max
 have hm1742 := hr1739.max
 refine dT (i := 5) rfl rfl (by kernel_rfl) (fun _ hS => hl1740 ag65 sz65 rfl (dI hS.2 hlek1675)) ⟨hb1735.reads, hX1728.pins⟩ ?_
 refine zR (i := 6) (by kernel_rfl) (yC (i := 6) rfl rfl rfl (zH rfl _) (xM (E := eNode) (e := 65) [u1736, u1737] (⟨(ls.getD i4 default).l, (ls.getD i4 default).r⟩ : Nd) eT sz65 zr65 ⟨_, _, rfl, (hr1738.mono hlek1675), (hr1739.mono hlek1675)⟩ rfl (by decide) hX1728.pins (fun u1743 w1744 ho1745 hp1746 hl1747 hk1748 => ?_)))
 have hX1749 := hX1728.step hp1746 hl1747
 have ho1750 := (ho1715.below hl1726).below hl1747
 have ho1751 := (((hw1680.below hl1702).keptA hg1717 ha1686.symm).below hl1726).below hl1747
 have ho1752 := (((hw1681.below hl1702).keptA hg1717 ha1687.symm).below hl1726).below hl1747
 have ho1753 := (((hw1682.below hl1702).keptA hg1717 ha1688.symm).below hl1726).below hl1747
 have hb1754 := (((hw1683.below hl1702).keptA hg1717 ha1689.symm).below hl1726).below hl1747
 have hb1755 := (((hw1684.below hl1702).keptA hg1717 ha1690.symm).below hl1726).below hl1747
 have hb1756 := hb1735.below hl1747
 have ho1764 := ho1745.weaken hX1728.size
 refine ⟨fun _ => ⟨hb1756.reads, hX1749.pins⟩, ?_⟩
 refine zR (i := 7) (by kernel_rfl) (yC (i := 7) rfl rfl rfl (zH rfl _) (yH (E := eNode) (v := ov2) (u := u1743) 48 eT ap65 (by decide) rfl rfl hX1749.pins ho1751 ho1764.src (by first | omega | (rw [List.nil_append]; omega) | (rw [List.length_nil]; omega) | (rw [List.length_append]; omega) | (simp; done) | (simp; omega) | (simp only [List.length_append, List.length_cons, List.length_nil]; omega)) (by first | omega | (rw [List.nil_append]; omega) | (rw [List.length_nil]; omega) | (rw [List.length_append]; omega) | (simp; done) | (simp; omega) | (simp only [List.length_append, List.length_cons, List.length_nil]; omega)) (hX1749.size) (fun u1765 w1766 ho1767 hp1768 hg1769 hw1770 => ?_)))
 have hX1771 := hX1749.write hp1768 hg1769 ((yQ ho1751))
 have hb1778 := hb1756.keptA hg1769 ha1696.symm
 have ha1779 : Apart at2.ownBlock u1765.ownBlock := zJ ha1686 hw1770 ho1750.lt
 have ha1780 : Apart bu.ownBlock u1765.ownBlock := zJ ha1692.symm hw1770 ho1752.lt
 have ha1781 : Apart bv.ownBlock u1765.ownBlock := zJ ha1693.symm hw1770 ho1753.lt
 have ha1783 : Apart (some b) u1765.ownBlock := zN ha1694.symm hw1770 hb1754.lt
 have ha1784 : Apart (some b1) u1765.ownBlock := zN ha1695.symm hw1770 hb1755.lt
 have ha1785 : Apart (some b74) u1765.ownBlock := zN ha1696.symm hw1770 hb1756.lt
 have hm1786 := la1 outs2 (⟨(ls.getD i4 default).l, (ls.getD i4 default).r⟩ : Nd)
 refine ⟨fun _ => ⟨hb1778.reads, hX1771.pins⟩, ?_⟩
 refine dT (i := 8) rfl rfl (by kernel_rfl) (fun _ _ => zM (k := 0) rfl eY rfl nz24 rfl) ⟨hb1778.reads, hX1771.pins⟩ ?_
 refine zR (i := 9) (by kernel_rfl) (xQ (i := 9) rfl rfl rfl (zH rfl _) (yD (cs' := [u1765]) (us := [u1765]) (v := u1765) sz24 rfl rfl (vL ho1767.one) (yE ho1767.one) hX1771.pins hb1778 (dK rfl) rfl (fun w1787 hb1788 hp1789 hg1790 hz1791 => ?_)))
 have ho1793 := (ho1750.keptA hg1769 ha1686).keptA hg1790 ha1691
 have ho1794 := (ho1752.keptA hg1769 ha1692.symm).keptA hg1790 ha87.symm
 have ho1795 := (ho1753.keptA hg1769 ha1693.symm).keptA hg1790 ha88.symm
 have ho1796 := ho1767.keptA hg1790 ha1785.symm
 have hb1797 := (hb1754.keptA hg1769 ha1694.symm).keptA hg1790 ha91.symm
 have hb1798 := (hb1755.keptA hg1769 ha1695.symm).keptA hg1790 ha92.symm
 refine ⟨fun h => absurd rfl h, ?_⟩
 refine yP (by kernel_rfl) (yO (zA (zE ?_)))
 refine qD rfl (zB (v := (.int .i64 (i4 : Int))) rfl) (qD rfl (yT rfl rfl (by omega)) (qD rfl (zC (v := (.int .i64 ((i4 : Int) + 1))) rfl) (qe (yR (⟨_, ?_, _, rfl, _, i4 + 1, at2, (ats2).set (fr.getD i4 0).toNat (outs2.length : Int), u1765, outs2 ++ ([(⟨(ls.getD i4 default).l, (ls.getD i4 default).r⟩ : Nd)]), GL4, (zF (x := 14) (zF (x := 10) (zF (x := 9) (zF (x := 8) (zF (x := 7) (zF (x := 6) (zF (x := 5) (zF (x := 4) (zF (x := 1) (yF (x := 0) rfl) rfl) rfl) rfl) rfl) rfl) rfl) rfl) rfl) rfl), rfl, (hX1771.write hp1789 hg1790 ((zS hlo93))), hlek1675, (by omega), (hrp.trans (place_next (by omega) (by omega))), ((List.length_set ..).trans hatl2), (by simp; omega), ho1793, ho1796, ho1794, ho1795, hb1797, hb1798, hb1788, ha1779, ha1687, ha1688, ha1689, ha1690, ha1691, ha1780.symm, ha1781.symm, ha1783.symm, ha1784.symm, ha1785.symm⟩)))))
 omega
 refine wp_exit (yK (yU (yV (yO (zA (zE ?_))))))
 refine qD rfl (zB (v := (.int .i64 (q : Int))) rfl) (qD rfl (yT rfl rfl (by omega)) (qD rfl (zC (v := (.int .i64 ((q : Int) + 1))) rfl) (qe (yR (⟨_, ?_, _, rfl, _, q + 1, at2, ats2, ov2, outs2, GL4, (zF (x := 8) (zF (x := 7) (zF (x := 6) (zF (x := 5) (zF (x := 4) (zF (x := 1) (yF (x := 0) rfl) rfl) rfl) rfl) rfl) rfl) rfl), rfl, hX1678, (dH (dH (dH (dH hlek106 hle182) hle195) hlek175) hlek1675), (by omega), (form_step hr (by rw [show m.toNat + 1 = k5 by omega]; exact hrl) (hrp.trans (place_end (by omega)))), hatl2, (by omega), hw1679, hw1680, hw1681, hw1682, hw1683, hw1684, hw1685, ha1686, ha1687, ha1688, ha1689, ha1690, ha1691, ha1692, ha1693, ha1694, ha1695, ha1696⟩)))))
 omega
 refine wp_exit (yK (yU (yV (zA (zD (zE ?_))))))
 refine qD rfl (zU (cs := [ov]) ag26 sz26 rfl (fun j u hj => hw116.cell (by simpa using hj))) (q0 rfl rfl rfl (yD (cs' := [ov]) (us := [ov]) (v := (.agg [ov].toArray)) sz26 rfl rfl rfl (yE hw111.one) hX109.pins hw115 (dK rfl) rfl (fun w1799 hb1800 hp1801 hg1802 hz1803 => ?_)))
 have ho1806 := hw111.keptA hg1802 ha126
 refine qe (zA ?_)
 refine wp_ret (zQ (qJ (cs := [ov]) rfl rfl rfl ag26 sz26 (fun j u hj => by rw [Nat.zero_add]; exact hb1800.cell hj) ?_))
 obtain ⟨G1811, hle1814, hX1813, hr1812, hf1815⟩ := ho1806.sealed (hX109.write hp1801 hg1802 ((zS hlo14)))
 have hfd := form_done hr (by omega)
 exact ⟨_, _, rfl, (by rw [hfd]; exact hr1812), hX1813, (by rw [hfd]; exact ⟨GL1, ho1806, hle1814⟩)⟩
theorem form_spec {w : World} (hP : Pins G w) (hB : Bk 65 3 G w b bu bv ns bs) (hok : BookOk ns bs) (hm : 0 ≤ m ∧ m < ns.length) :
  Calls Tryz.prog 79 [(.pointer (some ⟨b, 0, none⟩)), (.int .i64 m)].toArray w fun e w' => ∃ (u : Value) (G' : Pin), e = .returned (.agg [u].toArray) ∧ RSl eNode G' u (formM ns bs m.toNat) ∧ Ext noS G w G' w' :=
 (form_own hP hB hok hm).mono fun _ _ ⟨u, G', h1, h2, h3, _⟩ => ⟨u, G', h1, h2, h3⟩
theorem rY {w : World} {v : Value} (hP : Pins G w) (hv : RSl eNode G v ns) :
  Calls Tryz.prog 74 [(.agg [v].toArray)].toArray w fun e w' => ∃ G', e = .returned (.bool (decP (GoodS ns))) ∧ Ext noS G w G' w' := by
 refine yM (n := 46) Tryz.func74 Tryz.ntmps74 rfl rfl ?_
 have hX0 := exr noS hP
 have hm := hv.max
 refine zD (zE ?_)
 refine qI rfl (xX [v] (v := (.agg [v].toArray)) rfl rfl hX0.pins (fun b1 w2 hk3 hb4 hp5 hl6 => ?_))
 have hlo8 : w.heap.size ≤ b1 := by have := hX0.size; omega
 obtain ⟨G9, hle10, hX11, hbp12, hf13⟩ := hb4.shut (hX0.step hp5 hl6) hlo8
 refine qD rfl (zC (v := (.bool false)) rfl) (qe (zA (zD (zD (zE ?_)))))
 refine qD rfl (zU (cs := [v]) ag26 sz26 rfl (fun j u hj => hX11.pins _ _ _ (hbp12 _ _ (by simpa using hj)))) (qI rfl (zK (vs := [(.agg [v].toArray)]) Tryz.func75 nm75 rfl rfl rfl ?_))
 refine dJ (l3Fits_spec hX11.pins (hv.mono hle10)) ?_
 rintro _ w15 ⟨G14, rfl, hx16⟩
 refine ⟨_, rfl, ?_⟩
 have hX17 := hX11.tr hx16
 refine qD rfl (xT rfl) (qe (zA ?_))
 refine xV rfl rfl (fun h18 => ?_) (fun h18 => ?_)
 refine wp_skip (zA (zD (zD (zE ?_))))
 refine qD rfl (zC (v := (.int .i64 0)) rfl) (qe (zA ?_))
 refine yI ?_
 have hfit := decP_true.1 h18
 refine yZ (fun (k : Nat) (en : Nat → Value) (W : World) => ∃ (env1 : Nat → Value) (j : Nat) (GL1 : Pin), en = (upd (upd env1 1 (.pointer (some ⟨b1, 0, none⟩))) 3 (.int .i64 (j : Int))) ∧ k = ns.length - j ∧ Ext noS G w GL1 W ∧ Pin.le G14 GL1 ∧ (j ≤ ns.length) ∧ (∀ i, i < j → Rise (ns.getD i default).l 0 ((i : Int) - 1) ∧ Rise (ns.getD i default).r 0 ((i : Int) - 1))) _ ⟨_, 0, G14, (zF (x := 3) (yF (x := 1) rfl) rfl), rfl, hX17, Pin.le_refl _, Nat.zero_le _, (fun i hi => absurd hi (Nat.not_lt_zero i))⟩ ?_
 rintro k19 _ w20 ⟨env1, j, GL1, rfl, hk21, hX22, hlek19, hj, hp⟩
 refine zD (zD (zE ?_))
 refine qD rfl (zB (v := (.int .i64 (j : Int))) rfl) (qD rfl (zM (k := 0) rfl eY rfl nz24 rfl) (qD rfl (zP (u := v) ag24 rfl ((dI hX22.pins (dH hx16.le hlek19)) _ _ _ (hbp12 0 _ rfl))) (qD rfl (run_len eT (v := v) rfl hv) (qD rfl (xB rfl rfl) (qe (zA ?_))))))
 refine yJ (p := ((j : Int) : Int) < (ns.length : Int)) rfl rfl (fun h23 => ?_) (fun h23 => ?_)
 refine wp_skip (zA (zD ?_))
 refine yI (zD (zE ?_))
 refine qD rfl (zM (k := 0) rfl eY rfl nz24 rfl) (qD rfl (zP (u := v) ag24 rfl ((dI hX22.pins (dH hx16.le hlek19)) _ _ _ (hbp12 0 _ rfl))) (qD rfl (zB (v := (.int .i64 (j : Int))) rfl) (qD rfl (zL eT sz65 (v := v) rfl rfl hv (by omega) (by omega)) (qD rfl (yS (off := 0) eX rfl rfl nz59 (z := (j : Int)) (k := 0) rfl hv (by omega) (by omega)) ?_))))
 obtain ⟨u24, hr25, hl26⟩ := vO (hv.at (z := (j : Int)) (by omega) (by omega)) (j := j) rfl
 have hm27 := hr25.max
 refine qD rfl (hl26 ag59 rfl (dI hX22.pins (dH (dH hle10 hx16.le) hlek19))) (qD rfl (zB (v := (.int .i64 (j : Int))) rfl) (qD rfl (vN rfl rfl (by omega)) (qI rfl (zK (vs := [u24, (.int .i64 0), (.int .i64 ((j : Int) - 1))]) Tryz.func122 nm122 rfl rfl rfl ?_))))
 refine dJ (gM hX22.pins (hr25.mono (dH (dH hle10 hx16.le) hlek19))) ?_
 rintro _ w28 ⟨rfl, hx29⟩
 refine ⟨_, rfl, ?_⟩
 have hX30 := hX22.step hx29.pins hx29.below
 refine qD rfl (xT rfl) (qD rfl (zB (v := (.bool (!(decP (Rise ((ns.getD j default).l) 0 ((j : Int) - 1)))))) rfl) (qbn (t := 25) rfl (fun h31 => ?_) (fun h31 => ?_)))
 refine qdg rfl rfl rfl rfl rfl rfl (zM (k := 0) rfl eY rfl nz24 rfl) (qdg rfl rfl rfl rfl rfl rfl (zP (u := v) ag24 rfl ((dI hX30.pins (dH hx16.le hlek19)) _ _ _ (hbp12 0 _ rfl))) (qdg rfl rfl rfl rfl rfl rfl (zB (v := (.int .i64 (j : Int))) rfl) (qdg rfl rfl rfl rfl rfl rfl (zL eT sz65 (v := v) rfl rfl hv (by omega) (by omega)) (qdg rfl rfl rfl rfl rfl rfl (yS (off := 1) eX rfl rfl nz59 (z := (j : Int)) (k := 0) rfl hv (by omega) (by omega)) ?_))))
 obtain ⟨u32, hr33, hl34⟩ := vH (hv.at (z := (j : Int)) (by omega) (by omega)) (j := j) rfl
 have hm35 := hr33.max
 refine qdg rfl rfl rfl rfl rfl rfl (hl34 ag59 rfl (dI hX30.pins (dH (dH hle10 hx16.le) hlek19))) (qdg rfl rfl rfl rfl rfl rfl (zB (v := (.int .i64 (j : Int))) rfl) (qdg rfl rfl rfl rfl rfl rfl (vN rfl rfl (by omega)) (q1g rfl rfl rfl rfl rfl rfl (zK (vs := [u32, (.int .i64 0), (.int .i64 ((j : Int) - 1))]) Tryz.func122 nm122 rfl rfl rfl ?_))))
 refine dJ (gM hX30.pins (hr33.mono (dH (dH hle10 hx16.le) hlek19))) ?_
 rintro _ w36 ⟨rfl, hx37⟩
 refine ⟨_, rfl, ?_⟩
 have hX38 := hX30.step hx37.pins hx37.below
 refine qdg rfl rfl rfl rfl rfl rfl (xT rfl) (qD rfl (yN (v := (.bool (!(decP (Rise ((ns.getD j default).r) 0 ((j : Int) - 1)))))) rfl rfl) (qe (zA ?_)))
 refine xV rfl rfl (fun h39 => ?_) (fun h39 => ?_)
 refine wp_skip (yO (zA (zE ?_)))
 refine qD rfl (zB (v := (.int .i64 (j : Int))) rfl) (qD rfl (yT rfl rfl (by omega)) (qD rfl (zC (v := (.int .i64 ((j : Int) + 1))) rfl) (qe (yR (⟨_, ?_, _, rfl, _, j + 1, GL1, (zF (x := 3) (yF (x := 1) rfl) rfl), rfl, hX38, hlek19, (by omega), (fun k hk => if h3 : k = j then h3 ▸ ⟨decP_true.1 h31, decP_true.1 h39⟩ else hp k (by omega))⟩)))))
 omega
 refine zD (zE ?_)
 refine qD rfl (zC (v := (.bool false)) rfl) (qe (zA ?_))
 exact wp_ret (zQ (yA (v := (.bool false)) rfl rfl rfl (⟨_, congrArg (fun z => Ending.returned (Value.bool z)) (decP_false.2 (fun g => by rw [decP_true.2 (g.rise j (by omega)).2] at h39; cases h39)).symm, hX38⟩)))
 refine qs rfl rfl rfl rfl rfl rfl (qs rfl rfl rfl rfl rfl rfl (qs rfl rfl rfl rfl rfl rfl (qs rfl rfl rfl rfl rfl rfl (qs rfl rfl rfl rfl rfl rfl (qs rfl rfl rfl rfl rfl rfl (qs rfl rfl rfl rfl rfl rfl (qs rfl rfl rfl rfl rfl rfl (qs rfl rfl rfl rfl rfl rfl (qs rfl rfl rfl rfl rfl rfl (qD rfl (yG (v := (.bool true)) rfl rfl) (qe (zA ?_))))))))))))
 refine qC rfl rfl (zD (zE ?_))
 refine qD rfl (zC (v := (.bool false)) rfl) (qe (zA ?_))
 exact wp_ret (zQ (yA (v := (.bool false)) rfl rfl rfl (⟨_, congrArg (fun z => Ending.returned (Value.bool z)) (decP_false.2 (fun g => by rw [decP_true.2 (g.rise j (by omega)).1] at h31; cases h31)).symm, hX30⟩)))
 refine wp_exit (yK (yU (yV (zA (zD (zE ?_))))))
 have hrise : ∀ i, i < ns.length → Rise (ns.getD i default).l 0 ((i : Int) - 1) ∧ Rise (ns.getD i default).r 0 ((i : Int) - 1) := fun i hi => hp i (by omega)
 have hfok := gI hfit hrise
 have hlim := hfit.lim
 have hao := jM qT hfok (by simp; omega)
 refine qD rfl (yY [(.slice none 0 0), (.slice none 0 0)] [(.slice none 0 0), (.slice none 0 0)] [] dA zr119 rfl nP rfl (fun _ h => by cases h) rfl) (qI rfl (xX [(.slice none 0 0), (.slice none 0 0)] (v := (.agg [(.slice none 0 0), (.slice none 0 0)].toArray)) rfl rfl hX22.pins (fun b40 w41 hk42 hb43 hp44 hl45 => ?_)))
 have hX46 := hX22.step hp44 hl45
 have hlo47 : w.heap.size ≤ b40 := by have := hX22.size; omega
 refine qD rfl (zC (v := (.pointer (some ⟨b40, 0, none⟩))) rfl) (qe (zA (zD ?_)))
 refine xD (S := fun wz => Pins GL1 wz) (last := 8) (by kernel_rfl) rfl ?_
 have hl48 := bdr w41
 have hX50 := hX46.step (hX46.pins.below hl48) hl48
 refine dT (i := 0) rfl rfl (by kernel_rfl) (fun _ _ => zB (v := (.pointer (some ⟨b40, 0, none⟩))) rfl) hX50.pins ?_
 refine dT (i := 1) rfl rfl (by kernel_rfl) (fun _ _ => zB (v := (.pointer (some ⟨b40, 0, none⟩))) rfl) hX50.pins ?_
 refine dT (i := 2) rfl rfl (by kernel_rfl) (fun _ hS => zU (cs := [v]) ag26 sz26 rfl (fun j u hj => (dI hS (dH hx16.le hlek19)) _ _ _ (hbp12 _ _ (by simpa using hj)))) hX50.pins ?_
 refine dT (i := 5) rfl rfl (by kernel_rfl) (fun _ hS => zU (cs := [v]) ag26 sz26 rfl (fun j u hj => (dI hS (dH hx16.le hlek19)) _ _ _ (hbp12 _ _ (by simpa using hj)))) hX50.pins ?_
 refine zR (i := 3) (by kernel_rfl) (yC (i := 3) rfl rfl rfl (zH rfl _) (zK (vs := [(.pointer (some ⟨b40, 0, none⟩)), (.agg [v].toArray)]) Tryz.func124 nm124 rfl rfl rfl ?_))
 refine dJ (kX hX50.pins ⟨(hb43.below hl48), (Own.nil _ _ _ _ _), (Own.nil _ _ _ _ _), apart_none.symm, apart_none.symm, apart_none⟩ qT (hv.mono (dH (dH hle10 hx16.le) hlek19)) ⟨hfok, hlim.1⟩ (by first | omega | (simp; omega))) ?_
 rintro _ w55 ⟨u52, v53, G54, rfl, hbk56, hx57, hlu58, hlv59⟩
 refine ⟨_, rfl, ?_⟩
 have hin62 : ∀ i, inS b40 (.slice none 0 0) (.slice none 0 0) i → w.heap.size ≤ i ∨ noS i := kU (zS hlo47) (kQ _ _) (kQ _ _)
 have hX63 := hX50.trans hx57 hin62
 have hlo70 := xZ hlu58 hin62 hX50.size
 have hlo71 := xZ hlv59 hin62 hX50.size
 refine ⟨fun _ => (dI hX63.pins hx57.le), ?_⟩
 refine zR (i := 4) (by kernel_rfl) (yC (i := 4) rfl rfl rfl (zH rfl _) (zK (vs := [(.pointer (some ⟨b40, 0, none⟩)), (.int .i64 (rootM ([]) ([]) ns))]) Tryz.func79 nm79 rfl rfl rfl ?_))
 refine dJ (form_spec hX63.pins ⟨hbk56.bx, hbk56.ou, hbk56.ov, hbk56.abu, hbk56.abv, hbk56.auv⟩ hao.book (tH hao hlim.1)) ?_
 rintro _ w74 ⟨u72, G73, rfl, hr75, hx76⟩
 refine ⟨_, rfl, ?_⟩
 have hX77 := hX63.tr hx76
 refine ⟨fun _ => (dI hX77.pins (dH hx57.le hx76.le)), ?_⟩
 refine zR (i := 6) (by kernel_rfl) (yC (i := 6) rfl rfl rfl (zH rfl _) (zK (vs := [(.agg [u72].toArray), (.agg [v].toArray)]) Tryz.func123 nm123 rfl rfl rfl ?_))
 refine dJ (l3Same_spec hX77.pins hr75 (hv.mono (dH (dH (dH (dH hle10 hx16.le) hlek19) hx57.le) hx76.le))) ?_
 rintro _ w82 ⟨G81, rfl, hx83⟩
 refine ⟨_, rfl, ?_⟩
 have hX84 := hX77.tr hx83
 refine ⟨fun _ => (dI hX84.pins (dH (dH hx57.le hx76.le) hx83.le)), ?_⟩
 refine dT (i := 7) rfl rfl (by kernel_rfl) (fun _ _ => zC (v := (.bool (decide ((formM ((addM ([]) ([]) ns).2.1) ((addM ([]) ([]) ns).2.2) (rootM ([]) ([]) ns).toNat) = ns)))) rfl) (dI hX84.pins (dH (dH hx57.le hx76.le) hx83.le)) ?_
 exact yP (by kernel_rfl) (zA (wp_ret (zQ (yA (v := (.bool (decide ((formM ((addM ([]) ([]) ns).2.1) ((addM ([]) ([]) ns).2.2) (rootM ([]) ([]) ns).toNat) = ns)))) rfl rfl rfl (⟨_, congrArg (fun z => Ending.returned (Value.bool z)) (decP_dec.symm.trans (decP_iff ⟨fun h => ⟨hfit, hrise, h⟩, fun h => h.same⟩)), hX84⟩)))))
 refine zD (zE ?_)
 refine qD rfl (zC (v := (.bool false)) rfl) (qe (zA ?_))
 exact wp_ret (zQ (yA (v := (.bool false)) rfl rfl rfl (⟨_, congrArg (fun z => Ending.returned (Value.bool z)) (decP_false.2 (fun g => by rw [decP_true.2 g.fits] at h18; cases h18)).symm, hX17⟩)))
end E1
end Go.Proofs.YtajkbplgbikgdaaGreatDoor
namespace Go.Proofs.YtajkbplgbikgdaaGreatDoor
namespace OR1
open Go.RowKit Go.GL Go.Proofs
open B1 C1 D1 E1
def GeqC (m : Nat) (o b : Nat) (bu bv kv : Value) (ns : List Nd) (bs : List Int) : Prop := ∀ {w : World} {G : Pin} {ks : List Int} {x y : Int} (_ : Pins G w) (_ : Od 65 3 G w o b bu bv kv ns bs ks) (_ : 0 ≤ x ∧ x < ns.length) (_ : 0 ≤ y ∧ y < ns.length) (_ : ks.length = ns.length * ns.length), x.toNat + y.toNat < m → KOk ns ks (x.toNat + y.toNat + 1) →
  Calls Tryz.prog 141 [(.pointer (some ⟨o, 0, none⟩)), (.int .i64 x), (.int .i64 y)].toArray w fun e w' => ∃ (ks' : List Int) (G' : Pin), e = .returned (.bool (geB ns x y)) ∧ Od 65 3 G' w' o b bu bv kv ns bs ks' ∧ KRes ns ks ks' (x.toNat + y.toNat + 1) ∧ Ext (inO kv.ownBlock) G w G' w'
variable {G : Pin} {m b : Nat} {bu bv kv : Value} {ns : List Nd} {bs ks : List Int} {x y : Int}
theorem look_spec {w : World} {o : Nat} (hP : Pins G w) (hO : Od 65 3 G w o b bu bv kv ns bs ks) (hx : 0 ≤ x ∧ x < ns.length) (hy : 0 ≤ y ∧ y < ns.length) (hkl : ks.length = ns.length * ns.length) (hok : BookOk ns bs) (ih : GeqC m o b bu bv kv ns bs) (hm : x.toNat + y.toNat ≤ m) (hkok : KOk ns ks (x.toNat + y.toNat)) :
  Calls Tryz.prog 189 [(.pointer (some ⟨o, 0, none⟩)), (.int .i64 x), (.int .i64 y)].toArray w fun e w' => ∃ (ks' : List Int) (G' : Pin), e = .returned (.bool (geB ns x y)) ∧ Od 65 3 G' w' o b bu bv kv ns bs ks' ∧ KRes ns ks ks' (x.toNat + y.toNat) ∧ Ext (inO kv.ownBlock) G w G' w' := by
 refine yM (n := 75) Tryz.func189 Tryz.ntmps189 rfl rfl ?_
 have hX0 := exr (inO kv.ownBlock) hP
 have hB := hO.bk
 have hbx := hB.bx
 have hou := hB.ou
 have hov := hB.ov
 have habu := hB.abu
 have habv := hB.abv
 have hauv := hB.auv
 have hlen := hok.len
 have hlim := hok.lim
 have hox := hO.ox
 have haok := hO.aok
 have habk := hO.abk
 have hauk := hO.auk
 have havk := hO.avk
 have hlok : Lo w (inO kv.ownBlock) kv.ownBlock := xO
 have hoo : OptsOk ns := hok.optsOk
 have hlens := hok.lens
 refine zD (zE ?_)
 refine qD rfl (zC (v := (.bool false)) rfl) (qe (zA (zD (zD (zE ?_)))))
 refine qD rfl (zC (v := (.int .i64 0)) rfl) (qe (zA ?_))
 refine yI (yZ (fun (k : Nat) (en : Nat → Value) (W : World) => ∃ (env1 : Nat → Value) (i : Nat) (kqr : List Int) (GLr : Pin), en = (upd (upd (upd (upd env1 0 (.pointer (some ⟨o, 0, none⟩))) 1 (.int .i64 x)) 2 (.int .i64 y)) 7 (.int .i64 (i : Int))) ∧ k = (ns.getD (x).toNat default).r.length - i ∧ Ext (inO kv.ownBlock) G w GLr W ∧ Pin.le G GLr ∧ (i ≤ (ns.getD (x).toNat default).r.length) ∧ (KRes ns ks kqr (x.toNat + y.toNat)) ∧ (∀ q, q < i → geB ns y ((ns.getD (x).toNat default).r.getD q 0) = false) ∧ (Own eInt 3 GLr W 0 kv (kqr)) ∧ (Own eNode 65 GLr W 0 bu (ns)) ∧ (Own eInt 3 GLr W 0 bv (bs)) ∧ (Bx GLr W b [bu, bv]) ∧ (Bx GLr W o [(.pointer (some ⟨b, 0, none⟩)), kv])) _ ⟨_, 0, ks, G, (zF (x := 7) (zF (x := 2) (zF (x := 1) (yF (x := 0) rfl) rfl) rfl) rfl), rfl, hX0, Pin.le_refl _, Nat.zero_le _, (KRes.refl hkok), (fun q hq => absurd hq (Nat.not_lt_zero q)), hO.ok, hou, hov, hbx, hox⟩ ?_)
 rintro k1 _ w2 ⟨env1, i, kqr, GLr, rfl, hk3, hX4, hlek1, hji, hkrr, hpr, hw5, hw6, hw7, hw8, hw9⟩
 have hklr := hkrr.len
 refine zD (zD (zE ?_))
 refine qD rfl (zB (v := (.int .i64 (i : Int))) rfl) (qD rfl (zB (v := (.pointer (some ⟨o, 0, none⟩))) rfl) (qD rfl (xL rfl) (qD rfl (zM (k := 0) rfl dE rfl nz117 rfl) (qD rfl (zP (u := (.pointer (some ⟨b, 0, none⟩))) ag117 rfl (hw9.cell (o := 0) rfl)) (qD rfl (xL rfl) (qD rfl (zM (k := 0) rfl dA rfl nz24 rfl) (qD rfl (zP (u := bu) ag24 rfl (hw8.cell (o := 0) rfl)) (qD rfl (zB (v := (.int .i64 x)) rfl) (qD rfl (zL eT sz65 (v := bu) rfl rfl hw6.read (by omega) (by omega)) (qD rfl (yS (off := 1) eX rfl rfl nz59 (z := x) (k := 0) rfl hw6.read (by omega) (by omega)) ?_))))))))))
 obtain ⟨u10, hr11, hl12⟩ := vH (hw6.at (z := x) (by omega) (by omega)) (j := (x).toNat) rfl
 have hm13 := hr11.max
 refine qD rfl (hl12 ag59 rfl (Gadd.pins hX4.pins bu)) (qD rfl (run_len eR (v := u10) rfl hr11) (qD rfl (xB rfl rfl) (qe (zA ?_))))
 refine yJ (p := ((i : Int) : Int) < (((ns.getD (x).toNat default).r).length : Int)) rfl rfl (fun h14 => ?_) (fun h14 => ?_)
 have hki := hoo.right (j := (x).toNat) (i := i) (by omega) (by omega)
 refine wp_skip (zA (zD ?_))
 refine yI (zD (zE ?_))
 refine qD rfl (zB (v := (.pointer (some ⟨o, 0, none⟩))) rfl) (qD rfl (zB (v := (.int .i64 y)) rfl) (qD rfl (zB (v := (.pointer (some ⟨o, 0, none⟩))) rfl) (qD rfl (xL rfl) (qD rfl (zM (k := 0) rfl dE rfl nz117 rfl) (qD rfl (zP (u := (.pointer (some ⟨b, 0, none⟩))) ag117 rfl (hw9.cell (o := 0) rfl)) (qD rfl (xL rfl) (qD rfl (zM (k := 0) rfl dA rfl nz24 rfl) (qD rfl (zP (u := bu) ag24 rfl (hw8.cell (o := 0) rfl)) (qD rfl (zB (v := (.int .i64 x)) rfl) (qD rfl (zL eT sz65 (v := bu) rfl rfl hw6.read (by omega) (by omega)) (qD rfl (yS (off := 1) eX rfl rfl nz59 (z := x) (k := 0) rfl hw6.read (by omega) (by omega)) ?_)))))))))))
 obtain ⟨u15, hr16, hl17⟩ := vH (hw6.at (z := x) (by omega) (by omega)) (j := (x).toNat) rfl
 have hm18 := hr16.max
 refine qD rfl (hl17 ag59 rfl (Gadd.pins hX4.pins bu)) (qD rfl (zB (v := (.int .i64 (i : Int))) rfl) (qD rfl (zL eR sz3 (v := u15) rfl rfl hr16 (by omega) (by omega)) (qD rfl (zZ (r := ((ns.getD (x).toNat default).r).getD i 0) rfl ag3 (z := (i : Int)) rfl hr16 hX4.pins (by omega) (by omega)) (qI rfl (zK (vs := [(.pointer (some ⟨o, 0, none⟩)), (.int .i64 y), (.int .i64 (((ns.getD (x).toNat default).r).getD i 0))]) Tryz.func141 nm141 rfl rfl rfl ?_)))))
 refine dJ (ih hX4.pins ⟨⟨hw8, hw6, hw7, habu, habv, hauv⟩, hw9, hw5, haok, habk, hauk, havk⟩ (by omega) (by omega) (by omega) (by omega) (hkrr.ok.mono (by omega))) ?_
 rintro _ w21 ⟨ks19, G20, rfl, hd22, hr23, hx24⟩
 refine ⟨_, rfl, ?_⟩
 have hX25 := hX4.trans hx24 (fun i hi => hlok i hi)
 have ho26 := hw6.extS hx24 (notO hauk)
 have ho27 := hw7.extS hx24 (notO havk)
 have hb28 := hw8.extS hx24 (xJ habk)
 have hb29 := hw9.extS hx24 (xJ haok)
 have hkl31 := hr23.len
 refine qe (zA ?_)
 refine c_if rfl rfl (fun h32 => ?_) (fun h32 => ?_)
 refine zD (zE ?_)
 refine qD rfl (zC (v := (.bool false)) rfl) (qe (zA ?_))
 exact wp_ret (zQ (yA (v := (.bool false)) rfl rfl rfl (⟨_, _, congrArg (fun z => Ending.returned (Value.bool z)) (geB_no_right hoo hx (by omega) h32).symm, ⟨⟨hb28, ho26, ho27, habu, habv, hauv⟩, hb29, hd22.ok, haok, habk, hauk, havk⟩, (hkrr.wide hr23 (by omega)), hX25⟩)))
 refine wp_skip (yO (zA (zE ?_)))
 refine qD rfl (zB (v := (.int .i64 (i : Int))) rfl) (qD rfl (yT rfl rfl (by omega)) (qD rfl (zC (v := (.int .i64 ((i : Int) + 1))) rfl) (qe (yR (⟨_, ?_, _, rfl, _, i + 1, ks19, G20, (zF (x := 7) (zF (x := 2) (zF (x := 1) (yF (x := 0) rfl) rfl) rfl) rfl), rfl, hX25, (dH hlek1 hx24.le), (by omega), (hkrr.wide hr23 (by omega)), (fun q hq => if h3 : q = i then h3 ▸ h32 else hpr q (by omega)), hd22.ok, ho26, ho27, hb28, hb29⟩)))))
 omega
 refine wp_exit (yK (yU (yV (zA (zD (zD (zE ?_)))))))
 refine qD rfl (zC (v := (.int .i64 0)) rfl) (qe (zA ?_))
 refine yI (yZ (fun (k : Nat) (en : Nat → Value) (W : World) => ∃ (env1 : Nat → Value) (i2 : Nat) (kql : List Int) (GLl : Pin), en = (upd (upd (upd (upd env1 0 (.pointer (some ⟨o, 0, none⟩))) 1 (.int .i64 x)) 2 (.int .i64 y)) 8 (.int .i64 (i2 : Int))) ∧ k = (ns.getD (y).toNat default).l.length - i2 ∧ Ext (inO kv.ownBlock) G w GLl W ∧ Pin.le GLr GLl ∧ (i2 ≤ (ns.getD (y).toNat default).l.length) ∧ (KRes ns ks kql (x.toNat + y.toNat)) ∧ (∀ q, q < i2 → geB ns ((ns.getD (y).toNat default).l.getD q 0) x = false) ∧ (Own eInt 3 GLl W 0 kv (kql)) ∧ (Own eNode 65 GLl W 0 bu (ns)) ∧ (Own eInt 3 GLl W 0 bv (bs)) ∧ (Bx GLl W b [bu, bv]) ∧ (Bx GLl W o [(.pointer (some ⟨b, 0, none⟩)), kv])) _ ⟨_, 0, kqr, GLr, (zF (x := 8) (zF (x := 2) (zF (x := 1) (yF (x := 0) rfl) rfl) rfl) rfl), rfl, hX4, Pin.le_refl _, Nat.zero_le _, hkrr, (fun q hq => absurd hq (Nat.not_lt_zero q)), hw5, hw6, hw7, hw8, hw9⟩ ?_)
 rintro k33 _ w34 ⟨env1, i2, kql, GLl, rfl, hk35, hX36, hlek33, hji2, hkrl, hpl, hw37, hw38, hw39, hw40, hw41⟩
 have hkll := hkrl.len
 refine zD (zD (zE ?_))
 refine qD rfl (zB (v := (.int .i64 (i2 : Int))) rfl) (qD rfl (zB (v := (.pointer (some ⟨o, 0, none⟩))) rfl) (qD rfl (xL rfl) (qD rfl (zM (k := 0) rfl dE rfl nz117 rfl) (qD rfl (zP (u := (.pointer (some ⟨b, 0, none⟩))) ag117 rfl (hw41.cell (o := 0) rfl)) (qD rfl (xL rfl) (qD rfl (zM (k := 0) rfl dA rfl nz24 rfl) (qD rfl (zP (u := bu) ag24 rfl (hw40.cell (o := 0) rfl)) (qD rfl (zB (v := (.int .i64 y)) rfl) (qD rfl (zL eT sz65 (v := bu) rfl rfl hw38.read (by omega) (by omega)) (qD rfl (yS (off := 0) eX rfl rfl nz59 (z := y) (k := 0) rfl hw38.read (by omega) (by omega)) ?_))))))))))
 obtain ⟨u42, hr43, hl44⟩ := vO (hw38.at (z := y) (by omega) (by omega)) (j := (y).toNat) rfl
 have hm45 := hr43.max
 refine qD rfl (hl44 ag59 rfl (Gadd.pins hX36.pins bu)) (qD rfl (run_len eR (v := u42) rfl hr43) (qD rfl (xB rfl rfl) (qe (zA ?_))))
 refine yJ (p := ((i2 : Int) : Int) < (((ns.getD (y).toNat default).l).length : Int)) rfl rfl (fun h46 => ?_) (fun h46 => ?_)
 have hki := hoo.left (j := (y).toNat) (i := i2) (by omega) (by omega)
 refine wp_skip (zA (zD ?_))
 refine yI (zD (zE ?_))
 refine qD rfl (zB (v := (.pointer (some ⟨o, 0, none⟩))) rfl) (qD rfl (zB (v := (.pointer (some ⟨o, 0, none⟩))) rfl) (qD rfl (xL rfl) (qD rfl (zM (k := 0) rfl dE rfl nz117 rfl) (qD rfl (zP (u := (.pointer (some ⟨b, 0, none⟩))) ag117 rfl (hw41.cell (o := 0) rfl)) (qD rfl (xL rfl) (qD rfl (zM (k := 0) rfl dA rfl nz24 rfl) (qD rfl (zP (u := bu) ag24 rfl (hw40.cell (o := 0) rfl)) (qD rfl (zB (v := (.int .i64 y)) rfl) (qD rfl (zL eT sz65 (v := bu) rfl rfl hw38.read (by omega) (by omega)) (qD rfl (yS (off := 0) eX rfl rfl nz59 (z := y) (k := 0) rfl hw38.read (by omega) (by omega)) ?_))))))))))
 obtain ⟨u47, hr48, hl49⟩ := vO (hw38.at (z := y) (by omega) (by omega)) (j := (y).toNat) rfl
 have hm50 := hr48.max
 refine qD rfl (hl49 ag59 rfl (Gadd.pins hX36.pins bu)) (qD rfl (zB (v := (.int .i64 (i2 : Int))) rfl) (qD rfl (zL eR sz3 (v := u47) rfl rfl hr48 (by omega) (by omega)) (qD rfl (zZ (r := ((ns.getD (y).toNat default).l).getD i2 0) rfl ag3 (z := (i2 : Int)) rfl hr48 hX36.pins (by omega) (by omega)) (qD rfl (zB (v := (.int .i64 x)) rfl) (qI rfl (zK (vs := [(.pointer (some ⟨o, 0, none⟩)), (.int .i64 (((ns.getD (y).toNat default).l).getD i2 0)), (.int .i64 x)]) Tryz.func141 nm141 rfl rfl rfl ?_))))))
 refine dJ (ih hX36.pins ⟨⟨hw40, hw38, hw39, habu, habv, hauv⟩, hw41, hw37, haok, habk, hauk, havk⟩ (by omega) (by omega) (by omega) (by omega) (hkrl.ok.mono (by omega))) ?_
 rintro _ w53 ⟨ks51, G52, rfl, hd54, hr55, hx56⟩
 refine ⟨_, rfl, ?_⟩
 have hX57 := hX36.trans hx56 (fun i hi => hlok i hi)
 have ho58 := hw38.extS hx56 (notO hauk)
 have ho59 := hw39.extS hx56 (notO havk)
 have hb60 := hw40.extS hx56 (xJ habk)
 have hb61 := hw41.extS hx56 (xJ haok)
 have hkl63 := hr55.len
 refine qe (zA ?_)
 refine c_if rfl rfl (fun h64 => ?_) (fun h64 => ?_)
 refine zD (zE ?_)
 refine qD rfl (zC (v := (.bool false)) rfl) (qe (zA ?_))
 exact wp_ret (zQ (yA (v := (.bool false)) rfl rfl rfl (⟨_, _, congrArg (fun z => Ending.returned (Value.bool z)) (geB_no_left hoo hy (by omega) h64).symm, ⟨⟨hb60, ho58, ho59, habu, habv, hauv⟩, hb61, hd54.ok, haok, habk, hauk, havk⟩, (hkrl.wide hr55 (by omega)), hX57⟩)))
 refine wp_skip (yO (zA (zE ?_)))
 refine qD rfl (zB (v := (.int .i64 (i2 : Int))) rfl) (qD rfl (yT rfl rfl (by omega)) (qD rfl (zC (v := (.int .i64 ((i2 : Int) + 1))) rfl) (qe (yR (⟨_, ?_, _, rfl, _, i2 + 1, ks51, G52, (zF (x := 8) (zF (x := 2) (zF (x := 1) (yF (x := 0) rfl) rfl) rfl) rfl), rfl, hX57, (dH hlek33 hx56.le), (by omega), (hkrl.wide hr55 (by omega)), (fun q hq => if h3 : q = i2 then h3 ▸ h64 else hpl q (by omega)), hd54.ok, ho58, ho59, hb60, hb61⟩)))))
 omega
 refine wp_exit (yK (yU (yV (zA (zD (zE ?_))))))
 refine qD rfl (zC (v := (.bool true)) rfl) (qe (zA ?_))
 exact wp_ret (zQ (yA (v := (.bool true)) rfl rfl rfl (⟨_, _, congrArg (fun z => Ending.returned (Value.bool z)) (geB_yes hoo hx hy (fun q hq => hpr q (by omega)) (fun q hq => hpl q (by omega))).symm, ⟨⟨hw40, hw38, hw39, habu, habv, hauv⟩, hw41, hw37, haok, habk, hauk, havk⟩, hkrl, hX36⟩)))
theorem geq_step {w : World} {o : Nat} (hP : Pins G w) (hO : Od 65 3 G w o b bu bv kv ns bs ks) (hx : 0 ≤ x ∧ x < ns.length) (hy : 0 ≤ y ∧ y < ns.length) (hkl : ks.length = ns.length * ns.length) (hok : BookOk ns bs) (ih : GeqC m o b bu bv kv ns bs) (hm : x.toNat + y.toNat < m + 1) (hkok : KOk ns ks (x.toNat + y.toNat + 1)) :
  Calls Tryz.prog 141 [(.pointer (some ⟨o, 0, none⟩)), (.int .i64 x), (.int .i64 y)].toArray w fun e w' => ∃ (ks' : List Int) (G' : Pin), e = .returned (.bool (geB ns x y)) ∧ Od 65 3 G' w' o b bu bv kv ns bs ks' ∧ KRes ns ks ks' (x.toNat + y.toNat + 1) ∧ Ext (inO kv.ownBlock) G w G' w' := by
 refine yM (n := 52) Tryz.func141 Tryz.ntmps141 rfl rfl ?_
 have hX0 := exr (inO kv.ownBlock) hP
 have hB := hO.bk
 have hbx := hB.bx
 have hou := hB.ou
 have hov := hB.ov
 have habu := hB.abu
 have habv := hB.abv
 have hauv := hB.auv
 have hlen := hok.len
 have hlim := hok.lim
 have hox := hO.ox
 have hok2 := hO.ok
 have haok := hO.aok
 have habk := hO.abk
 have hauk := hO.auk
 have havk := hO.avk
 have hlok : Lo w (inO kv.ownBlock) kv.ownBlock := xO
 have hoo : OptsOk ns := hok.optsOk
 have hlens := hok.lens
 have hib := idx_bd hx hy hok.lim
 refine zD (zE ?_)
 refine qD rfl (zC (v := (.bool false)) rfl) (qe (zA (zD (zE ?_))))
 refine qD rfl (zB (v := (.int .i64 x)) rfl) (qD rfl (zB (v := (.pointer (some ⟨o, 0, none⟩))) rfl) (qD rfl (xL rfl) (qD rfl (zM (k := 0) rfl dE rfl nz117 rfl) (qD rfl (zP (u := (.pointer (some ⟨b, 0, none⟩))) ag117 rfl (hox.cell (o := 0) rfl)) (qD rfl (xL rfl) (qD rfl (zM (k := 0) rfl dA rfl nz24 rfl) (qD rfl (zP (u := bu) ag24 rfl (hbx.cell (o := 0) rfl)) (qD rfl (run_len eT (v := bu) rfl hou.read) (qD rfl (nL rfl rfl (by omega)) (qD rfl (zB (v := (.int .i64 y)) rfl) (qD rfl (yT rfl rfl (by omega)) (qD rfl (zC (v := (.int .i64 ((x * (ns.length : Int)) + y))) rfl) (qe (zA (zD (zD (zE ?_)))))))))))))))))
 refine qD rfl (zB (v := (.pointer (some ⟨o, 0, none⟩))) rfl) (qD rfl (xL rfl) (qD rfl (zM (k := 1) rfl dE rfl nz59 rfl) (qD rfl (zP (u := kv) ag59 rfl (hox.cell (o := 1) rfl)) (qD rfl (zB (v := (.int .i64 ((x * (ns.length : Int)) + y))) rfl) (qD rfl (zL eR sz3 (v := kv) rfl rfl hok2.read (by omega) (by omega)) (qD rfl (zZ (r := ks.getD ((x * (ns.length : Int)) + y).toNat 0) rfl ag3 (z := ((x * (ns.length : Int)) + y)) rfl hok2.read (Gadd.pins hX0.pins kv) (by omega) (by omega)) (qD rfl (qN rfl rfl) (qe (zA ?_)))))))))
 refine yJ (p := (ks.getD ((x * (ns.length : Int)) + y).toNat 0 : Int) = 0) rfl rfl (fun h1 => ?_) (fun h1 => ?_)
 refine zD (zE ?_)
 refine qD rfl (zB (v := (.pointer (some ⟨o, 0, none⟩))) rfl) (qD rfl (xL rfl) (qD rfl (zM (k := 1) rfl dE rfl nz59 rfl) (qD rfl (zP (u := kv) ag59 rfl (hox.cell (o := 1) rfl)) (qD rfl (zB (v := (.int .i64 ((x * (ns.length : Int)) + y))) rfl) (qD rfl (zL eR sz3 (v := kv) rfl rfl hok2.read (by omega) (by omega)) (q0 rfl rfl rfl (kO (E := eInt) (v := kv) (u := (.int .i64 2)) (z := ((x * (ns.length : Int)) + y)) (2) sz3 rfl rfl rfl rfl hX0.pins hok2 (by omega) (by omega) (fun w2 ho3 hp4 hg5 hz6 => ?_))))))))
 have hX7 := hX0.write hp4 hg5 (hlok)
 have ho8 := hou.keptA hg5 hauk
 have ho9 := hov.keptA hg5 havk
 have hb10 := hbx.keptA hg5 habk
 have hb11 := hox.keptA hg5 haok
 have ho12 : Own eInt 3 G w2 0 kv ((ks).set ((x * (ns.length : Int)) + y).toNat 2) := ho3
 have hm13 : ((ks).set ((x * (ns.length : Int)) + y).toNat 2).length = ks.length := List.length_set ..
 refine qe (zA (zD (zE ?_)))
 refine qD rfl (zB (v := (.pointer (some ⟨o, 0, none⟩))) rfl) (qD rfl (zB (v := (.int .i64 x)) rfl) (qD rfl (zB (v := (.int .i64 y)) rfl) (qI rfl (zK (vs := [(.pointer (some ⟨o, 0, none⟩)), (.int .i64 x), (.int .i64 y)]) Tryz.func189 nm189 rfl rfl rfl ?_))))
 refine dJ (look_spec hX7.pins ⟨⟨hb10, ho8, ho9, habu, habv, hauv⟩, hb11, ho12, haok, habk, hauk, havk⟩ hx hy (by rw [List.length_set]; exact hkl) hok ih (by omega) (KRes.prov hx hy hkok).1) ?_
 rintro _ w16 ⟨ks14, G15, rfl, hd17, hr18, hx19⟩
 refine ⟨_, rfl, ?_⟩
 have hX20 := hX7.trans hx19 (fun i hi => hlok i hi)
 have ho21 := ho8.extS hx19 (notO hauk)
 have ho22 := ho9.extS hx19 (notO havk)
 have hb23 := hb10.extS hx19 (xJ habk)
 have hb24 := hb11.extS hx19 (xJ haok)
 have hkl26 := hr18.len
 refine qe (zA ?_)
 refine c_if rfl rfl (fun h27 => ?_) (fun h27 => ?_)
 refine zE (qD rfl (zB (v := (.pointer (some ⟨o, 0, none⟩))) rfl) (qD rfl (xL rfl) (qD rfl (zM (k := 1) rfl dE rfl nz59 rfl) (qD rfl (zP (u := kv) ag59 rfl (hb24.cell (o := 1) rfl)) (qD rfl (zB (v := (.int .i64 ((x * (ns.length : Int)) + y))) rfl) (qD rfl (zL eR sz3 (v := kv) rfl rfl hd17.ok.read (by omega) (by omega)) (q0 rfl rfl rfl (kO (E := eInt) (v := kv) (u := (.int .i64 1)) (z := ((x * (ns.length : Int)) + y)) (1) sz3 rfl rfl rfl rfl hX20.pins hd17.ok (by omega) (by omega) (fun w28 ho29 hp30 hg31 hz32 => ?_)))))))))
 have hX33 := hX20.write hp30 hg31 (hlok)
 have hb37 := hb24.keptA hg31 haok
 have ho38 : Own eInt 3 G15 w28 0 kv ((ks14).set ((x * (ns.length : Int)) + y).toNat 1) := ho29
 have hm39 : ((ks14).set ((x * (ns.length : Int)) + y).toNat 1).length = ks14.length := List.length_set ..
 refine qe (zA (zD (zE ?_)))
 refine qD rfl (zB (v := (.pointer (some ⟨o, 0, none⟩))) rfl) (qD rfl (xL rfl) (qD rfl (zM (k := 1) rfl dE rfl nz59 rfl) (qD rfl (zP (u := kv) ag59 rfl (hb37.cell (o := 1) rfl)) (qD rfl (zB (v := (.int .i64 ((x * (ns.length : Int)) + y))) rfl) (qD rfl (zL eR sz3 (v := kv) rfl rfl ho38.read (by omega) (by omega)) (qD rfl (zZ (r := ((ks14).set ((x * (ns.length : Int)) + y).toNat 1).getD ((x * (ns.length : Int)) + y).toNat 0) rfl ag3 (z := ((x * (ns.length : Int)) + y)) rfl ho38.read (Gadd.pins hX33.pins kv) (by omega) (by omega)) (qD rfl (qN rfl rfl) (qD rfl (zC (v := (.bool (decide ((((ks14).set ((x * (ns.length : Int)) + y).toNat 1).getD ((x * (ns.length : Int)) + y).toNat 0 : Int) = 1)))) rfl) (qe (zA ?_))))))))))
 refine wp_ret (zQ (yA (v := (.bool (decide ((((ks14).set ((x * (ns.length : Int)) + y).toNat 1).getD ((x * (ns.length : Int)) + y).toNat 0 : Int) = 1)))) rfl rfl rfl ?_))
 have htold := KRes.told hx hy hkl hkok hr18 (if_pos h27).symm
 exact ⟨_, _, congrArg (fun z => Ending.returned (Value.bool z)) htold.2, ⟨⟨(hb23.keptA hg31 habk), (ho21.keptA hg31 hauk), (ho22.keptA hg31 havk), habu, habv, hauv⟩, hb37, ho38, haok, habk, hauk, havk⟩, htold.1, hX33⟩
 refine wp_skip (zA (zD (zE ?_)))
 refine qD rfl (zB (v := (.pointer (some ⟨o, 0, none⟩))) rfl) (qD rfl (xL rfl) (qD rfl (zM (k := 1) rfl dE rfl nz59 rfl) (qD rfl (zP (u := kv) ag59 rfl (hb24.cell (o := 1) rfl)) (qD rfl (zB (v := (.int .i64 ((x * (ns.length : Int)) + y))) rfl) (qD rfl (zL eR sz3 (v := kv) rfl rfl hd17.ok.read (by omega) (by omega)) (qD rfl (zZ (r := ks14.getD ((x * (ns.length : Int)) + y).toNat 0) rfl ag3 (z := ((x * (ns.length : Int)) + y)) rfl hd17.ok.read (Gadd.pins hX20.pins kv) (by omega) (by omega)) (qD rfl (qN rfl rfl) (qD rfl (zC (v := (.bool (decide ((ks14.getD ((x * (ns.length : Int)) + y).toNat 0 : Int) = 1)))) rfl) (qe (zA ?_))))))))))
 refine wp_ret (zQ (yA (v := (.bool (decide ((ks14.getD ((x * (ns.length : Int)) + y).toNat 0 : Int) = 1)))) rfl rfl rfl ?_))
 have htold := KRes.told hx hy hkl hkok hr18 (if_neg (by rw [h27]; decide)).symm
 exact ⟨_, _, congrArg (fun z => Ending.returned (Value.bool z)) htold.2, ⟨⟨hb23, ho21, ho22, habu, habv, hauv⟩, hb24, hd17.ok, haok, habk, hauk, havk⟩, htold.1, hX20⟩
 refine wp_skip (zA (zD (zE ?_)))
 refine qD rfl (zB (v := (.pointer (some ⟨o, 0, none⟩))) rfl) (qD rfl (xL rfl) (qD rfl (zM (k := 1) rfl dE rfl nz59 rfl) (qD rfl (zP (u := kv) ag59 rfl (hox.cell (o := 1) rfl)) (qD rfl (zB (v := (.int .i64 ((x * (ns.length : Int)) + y))) rfl) (qD rfl (zL eR sz3 (v := kv) rfl rfl hok2.read (by omega) (by omega)) (qD rfl (zZ (r := ks.getD ((x * (ns.length : Int)) + y).toNat 0) rfl ag3 (z := ((x * (ns.length : Int)) + y)) rfl hok2.read (Gadd.pins hX0.pins kv) (by omega) (by omega)) (qD rfl (qN rfl rfl) (qD rfl (zC (v := (.bool (decide ((ks.getD ((x * (ns.length : Int)) + y).toNat 0 : Int) = 1)))) rfl) (qe (zA ?_))))))))))
 exact wp_ret (zQ (yA (v := (.bool (decide ((ks.getD ((x * (ns.length : Int)) + y).toNat 0 : Int) = 1)))) rfl rfl rfl (⟨_, _, congrArg (fun z => Ending.returned (Value.bool z)) (KOk.known hx hy hkok h1), ⟨⟨hbx, hou, hov, habu, habv, hauv⟩, hox, hok2, haok, habk, hauk, havk⟩, KRes.refl hkok, hX0⟩)))
theorem geq_all {o b : Nat} {bu bv kv : Value} {ns : List Nd} {bs : List Int} (hok : BookOk ns bs) : ∀ m, GeqC m o b bu bv kv ns bs
 | 0 => fun _ _ _ _ _ h _ => absurd h (Nat.not_lt_zero _)
 | m + 1 => fun hP hO hx hy hkl hm hk => geq_step hP hO hx hy hkl hok (geq_all hok m) hm hk
theorem geq_spec {w : World} {o : Nat} (hP : Pins G w) (hO : Od 65 3 G w o b bu bv kv ns bs ks) (hx : 0 ≤ x ∧ x < ns.length) (hy : 0 ≤ y ∧ y < ns.length) (hkl : ks.length = ns.length * ns.length) (hok : BookOk ns bs) (hkok : KOk ns ks (x.toNat + y.toNat + 1)) :
  Calls Tryz.prog 141 [(.pointer (some ⟨o, 0, none⟩)), (.int .i64 x), (.int .i64 y)].toArray w fun e w' => ∃ (ks' : List Int) (G' : Pin), e = .returned (.bool (geB ns x y)) ∧ Od 65 3 G' w' o b bu bv kv ns bs ks' ∧ KRes ns ks ks' (x.toNat + y.toNat + 1) ∧ Ext (inO kv.ownBlock) G w G' w' :=
 geq_all hok _ hP hO hx hy hkl (Nat.lt_succ_self _) hkok
end OR1
end Go.Proofs.YtajkbplgbikgdaaGreatDoor
namespace Go.Proofs.YtajkbplgbikgdaaGreatDoor
namespace SF1
open Go.RowKit Go.GL Go.Proofs
open B1 C1 D1 E1 OR1
theorem mk3 : (Tryz.prog.info? 3).map (fun i => (i.size, i.bytes, i.zero)) = some (1, 8, some (.int .i64 0)) := by kernel_rfl
theorem nP : (Tryz.prog.underlying 119).bind (placesD Tryz.prog) = some [(0, 1), (1, 1)] := by kernel_rfl
theorem pl214 : (Tryz.prog.underlying 214).bind (placesD Tryz.prog) = some [(0, 1), (1, 1)] := by kernel_rfl
variable {G : Pin}
theorem sT {w : World} {b : Nat} {bu bv : Value} {ns : List Nd} {bs : List Int} (hP : Pins G w) (hB : Bk 65 3 G w b bu bv ns bs) (hok : BookOk ns bs) :
  Calls Tryz.prog 140 [(.pointer (some ⟨b, 0, none⟩))].toArray w fun e w' => ∃ (o : Nat) (kv : Value) (G' : Pin), e = .returned (.pointer (some ⟨o, 0, none⟩)) ∧ Bx G' w' o [.pointer (some ⟨b, 0, none⟩), kv] ∧ Own eInt 3 G' w' w.heap.size kv (List.replicate (ns.length * ns.length) 0) ∧ w.heap.size ≤ o ∧ Apart (some o) kv.ownBlock ∧ Ext noS G w G' w' := by
 refine yM (n := 18) Tryz.func140 Tryz.ntmps140 rfl rfl ?_
 have hX0 := exr noS hP
 have hbx := hB.bx
 have hou := hB.ou
 have hov := hB.ov
 have habu := hB.abu
 have habv := hB.abv
 have hauv := hB.auv
 have hlen := hok.len
 have hlim := hok.lim
 have hsq := sq_bd hok.lim
 refine zD (zE ?_)
 refine qD rfl (zC (v := (.pointer none)) rfl) (qe (zA (zD ?_)))
 have hr2 := hou.read
 refine xD (S := fun wz => BxR wz b [bu, bv] ∧ Pins (Gadd G w bu) wz) (last := 16) (by kernel_rfl) rfl ?_
 have hl3 := bdr w
 have hX5 := hX0.step (hX0.pins.below hl3) hl3
 have hb8 := hbx.below hl3
 have hq9 := (Gadd.pins hX0.pins bu).below hl3
 refine dT (i := 0) rfl rfl (by kernel_rfl) (fun _ _ => zB (v := (.pointer (some ⟨b, 0, none⟩))) rfl) ⟨hb8.reads, hq9⟩ ?_
 refine dT (i := 1) rfl rfl (by kernel_rfl) (fun _ _ => zB (v := (.pointer (some ⟨b, 0, none⟩))) rfl) ⟨hb8.reads, hq9⟩ ?_
 refine dT (i := 2) rfl rfl (by kernel_rfl) (fun _ _ => xL rfl) ⟨hb8.reads, hq9⟩ ?_
 refine dT (i := 3) rfl rfl (by kernel_rfl) (fun _ _ => zM (k := 0) rfl dA rfl nz24 rfl) ⟨hb8.reads, hq9⟩ ?_
 refine dT (i := 4) rfl rfl (by kernel_rfl) (fun _ hS => zP (u := bu) ag24 rfl (hS.1 0 _ rfl)) ⟨hb8.reads, hq9⟩ ?_
 refine dT (i := 5) rfl rfl (by kernel_rfl) (fun _ _ => run_len eT (v := bu) rfl hr2) ⟨hb8.reads, hq9⟩ ?_
 refine dT (i := 6) rfl rfl (by kernel_rfl) (fun _ _ => zB (v := (.pointer (some ⟨b, 0, none⟩))) rfl) ⟨hb8.reads, hq9⟩ ?_
 refine dT (i := 7) rfl rfl (by kernel_rfl) (fun _ _ => xL rfl) ⟨hb8.reads, hq9⟩ ?_
 refine dT (i := 8) rfl rfl (by kernel_rfl) (fun _ _ => zM (k := 0) rfl dA rfl nz24 rfl) ⟨hb8.reads, hq9⟩ ?_
 refine dT (i := 9) rfl rfl (by kernel_rfl) (fun _ hS => zP (u := bu) ag24 rfl (hS.1 0 _ rfl)) ⟨hb8.reads, hq9⟩ ?_
 refine dT (i := 10) rfl rfl (by kernel_rfl) (fun _ _ => run_len eT (v := bu) rfl hr2) ⟨hb8.reads, hq9⟩ ?_
 refine dT (i := 11) rfl rfl (by kernel_rfl) (fun _ _ => nL rfl rfl (by omega)) ⟨hb8.reads, hq9⟩ ?_
 refine zR (i := 12) (by kernel_rfl) (yC (i := 12) rfl rfl rfl (zH rfl _) (rA (E := eInt) 0 8 (.int .i64 0) eR mk3 (fun _ => rfl) rfl rfl hX5.pins (by omega) (by omega) (by omega) (fun u10 w11 ho12 hp13 hl14 hk15 => ?_)))
 have hX16 := hX5.step hp13 hl14
 have hb19 := hb8.below hl14
 have ho23 : Own eInt 3 G w11 w.heap.size u10 (List.replicate ((ns.length : Int) * (ns.length : Int)).toNat 0) := ho12.weaken hX5.size
 have hm24 : (List.replicate ((ns.length : Int) * (ns.length : Int)).toNat 0).length = ((ns.length : Int) * (ns.length : Int)).toNat := List.length_replicate ..
 have hq25 := hq9.below hl14
 refine ⟨fun _ => ⟨hb19.reads, hq25⟩, ?_⟩
 refine dT (i := 13) rfl rfl (by kernel_rfl) (fun _ _ => yY [(.pointer none), (.slice none 0 0)] [(.pointer (some ⟨b, 0, none⟩)), u10] [(0, (.pointer (some ⟨b, 0, none⟩)), [(.pointer (some ⟨b, 0, none⟩))]), (1, u10, [u10])] dE zr214 rfl pl214 rfl (List.forall_mem_cons.2 ⟨rfl, (List.forall_mem_cons.2 ⟨(yW ho23.one), (fun _ h => by cases h)⟩)⟩) rfl) ⟨hb19.reads, hq25⟩ ?_
 refine zR (i := 14) (by kernel_rfl) (yC (i := 14) rfl rfl rfl (zH rfl _) (xX [(.pointer (some ⟨b, 0, none⟩)), u10] (v := (.agg [(.pointer (some ⟨b, 0, none⟩)), u10].toArray)) rfl rfl hX16.pins (fun b26 w27 hk28 hb29 hp30 hl31 => ?_)))
 have hb36 := hb19.below hl31
 have hlo41 : w.heap.size ≤ b26 := by have := hX16.size; omega
 have hq42 := hq25.below hl31
 refine ⟨fun _ => ⟨hb36.reads, hq42⟩, ?_⟩
 refine dT (i := 15) rfl rfl (by kernel_rfl) (fun _ _ => zC (v := (.pointer (some ⟨b26, 0, none⟩))) rfl) ⟨hb36.reads, hq42⟩ ?_
 refine yP (by kernel_rfl) (zA (wp_ret (zQ (yA (v := (.pointer (some ⟨b26, 0, none⟩))) rfl rfl rfl ?_))))
 have hrow := (ho23.below hl31)
 rw [sq_nat] at hrow
 exact ⟨_, _, _, rfl, hb29, hrow, hlo41, (zI (congrArg some hk28) ho23.lt), (hX16.step hp30 hl31)⟩
theorem jX {w : World} {u v : Value} {ax bs : List Nd} (hP : Pins G w) (hu : RSl eNode G u ax) (hv : RSl eNode G v bs) (ha : FormOk ax ∧ 1 ≤ ax.length) (hb : FormOk bs ∧ 1 ≤ bs.length) (hl : ax.length + bs.length ≤ 1048576) :
  Calls Tryz.prog 99 [(.agg [u].toArray), (.agg [v].toArray)].toArray w fun e w' => ∃ G', e = .returned (.bool (decP (geG (gOf ax) (gOf bs)))) ∧ Ext noS G w G' w' := by
 refine yM (n := 21) Tryz.func99 Tryz.ntmps99 rfl rfl ?_
 have hX0 := exr noS hP
 have h0 := jM qT ha.1 (by simp; omega)
 have hlen := h0.hi
 simp only [List.length_nil, Nat.zero_add] at hlen
 have h1 := jM h0.book hb.1 (by omega)
 have hl0 := tH h0 ha.2
 have hl1 := tH h1 hb.2
 have hlo1 := h1.lo
 have hge := ge_roots ha hb hl _ _ rfl rfl
 refine zD (zE ?_)
 refine qI rfl (xX [u] (v := (.agg [u].toArray)) rfl rfl hX0.pins (fun b1 w2 hk3 hb4 hp5 hl6 => ?_))
 have hlo8 : w.heap.size ≤ b1 := by have := hX0.size; omega
 obtain ⟨G9, hle10, hX11, hbp12, hf13⟩ := hb4.shut (hX0.step hp5 hl6) hlo8
 refine qI rfl (xX [v] (v := (.agg [v].toArray)) rfl rfl hX11.pins (fun b14 w15 hk16 hb17 hp18 hl19 => ?_))
 have hlo21 : w.heap.size ≤ b14 := by have := hX11.size; omega
 obtain ⟨G22, hle23, hX24, hbp25, hf26⟩ := hb17.shut (hX11.step hp18 hl19) hlo21
 refine qD rfl (zC (v := (.bool false)) rfl) (qe (zA (zD (zE ?_))))
 refine qD rfl (yY [(.slice none 0 0), (.slice none 0 0)] [(.slice none 0 0), (.slice none 0 0)] [] dA zr119 rfl nP rfl (fun _ h => by cases h) rfl) (qI rfl (xX [(.slice none 0 0), (.slice none 0 0)] (v := (.agg [(.slice none 0 0), (.slice none 0 0)].toArray)) rfl rfl hX24.pins (fun b27 w28 hk29 hb30 hp31 hl32 => ?_)))
 have hX33 := hX24.step hp31 hl32
 have hlo34 : w.heap.size ≤ b27 := by have := hX24.size; omega
 refine qD rfl (zC (v := (.pointer (some ⟨b27, 0, none⟩))) rfl) (qe (zA (zD (zE ?_))))
 refine qD rfl (zB (v := (.pointer (some ⟨b27, 0, none⟩))) rfl) (qD rfl (zU (cs := [u]) ag26 sz26 rfl (fun j u hj => (dI hX33.pins hle23) _ _ _ (hbp12 _ _ (by simpa using hj)))) (qI rfl (zK (vs := [(.pointer (some ⟨b27, 0, none⟩)), (.agg [u].toArray)]) Tryz.func124 nm124 rfl rfl rfl ?_)))
 refine dJ (kX hX33.pins ⟨hb30, (Own.nil _ _ _ _ _), (Own.nil _ _ _ _ _), apart_none.symm, apart_none.symm, apart_none⟩ qT (hu.mono (dH hle10 hle23)) ha (by first | omega | (simp; omega))) ?_
 rintro _ w38 ⟨u35, v36, G37, rfl, hbk39, hx40, hlu41, hlv42⟩
 refine ⟨_, rfl, ?_⟩
 have hin45 : ∀ i, inS b27 (.slice none 0 0) (.slice none 0 0) i → w.heap.size ≤ i ∨ noS i := kU (zS hlo34) (kQ _ _) (kQ _ _)
 have hX46 := hX33.trans hx40 hin45
 have hb47 := hbk39.bx
 have ho48 := hbk39.ou
 have ho49 := hbk39.ov
 have ha50 := hbk39.abu
 have ha51 := hbk39.abv
 have ha52 := hbk39.auv
 have hlo53 := xZ hlu41 hin45 hX33.size
 have hlo54 := xZ hlv42 hin45 hX33.size
 refine qD rfl (zC (v := (.int .i64 (rootM ([]) ([]) ax))) rfl) (qe (zA (zD (zE ?_))))
 refine qD rfl (zB (v := (.pointer (some ⟨b27, 0, none⟩))) rfl) (qD rfl (zU (cs := [v]) ag26 sz26 rfl (fun j u hj => (dI hX46.pins hx40.le) _ _ _ (hbp25 _ _ (by simpa using hj)))) (qI rfl (zK (vs := [(.pointer (some ⟨b27, 0, none⟩)), (.agg [v].toArray)]) Tryz.func124 nm124 rfl rfl rfl ?_)))
 refine dJ (kX hX46.pins ⟨hb47, ho48, ho49, ha50, ha51, ha52⟩ h0.book (hv.mono (dH (dH hle10 hle23) hx40.le)) hb (by first | omega | (simp; omega))) ?_
 rintro _ w58 ⟨u55, v56, G57, rfl, hbk59, hx60, hlu61, hlv62⟩
 refine ⟨_, rfl, ?_⟩
 have hin65 : ∀ i, inS b27 u35 v36 i → w.heap.size ≤ i ∨ noS i := kU (zS hlo34) hlo53 hlo54
 have hX66 := hX46.trans hx60 hin65
 have hb67 := hbk59.bx
 have ho68 := hbk59.ou
 have ho69 := hbk59.ov
 have ha70 := hbk59.abu
 have ha71 := hbk59.abv
 have ha72 := hbk59.auv
 have hlo73 := xZ hlu61 hin65 hX46.size
 have hlo74 := xZ hlv62 hin65 hX46.size
 refine qD rfl (zC (v := (.int .i64 (rootM ((addM ([]) ([]) ax).2.1) ((addM ([]) ([]) ax).2.2) bs))) rfl) (qe (zA (zD (zE ?_))))
 refine qD rfl (zB (v := (.pointer (some ⟨b27, 0, none⟩))) rfl) (qI rfl (zK (vs := [(.pointer (some ⟨b27, 0, none⟩))]) Tryz.func140 nm140 rfl rfl rfl ?_))
 refine dJ (sT hX66.pins ⟨hb67, ho68, ho69, ha70, ha71, ha72⟩ h1.book) ?_
 rintro _ w78 ⟨b75, u76, G77, rfl, hb79, ho80, hlo81, ha82, hx83⟩
 refine ⟨_, rfl, ?_⟩
 have hX84 := hX66.tr hx83
 have hlo94 := Nat.le_trans hX66.size hlo81
 have ho95 := ho80.weaken hX66.size
 refine qD rfl (zB (v := (.int .i64 (rootM ([]) ([]) ax))) rfl) (qD rfl (zB (v := (.int .i64 (rootM ((addM ([]) ([]) ax).2.1) ((addM ([]) ([]) ax).2.2) bs))) rfl) (qI rfl (zK (vs := [(.pointer (some ⟨b75, 0, none⟩)), (.int .i64 (rootM ([]) ([]) ax)), (.int .i64 (rootM ((addM ([]) ([]) ax).2.1) ((addM ([]) ([]) ax).2.2) bs))]) Tryz.func141 nm141 rfl rfl rfl ?_)))
 refine dJ (geq_spec hX84.pins ⟨⟨(hb67.ext hx83), (ho68.ext hx83), (ho69.ext hx83), ha70, ha71, ha72⟩, hb79, (ho95.weaken (Nat.zero_le _)), ha82, (zX ho80.lt hb67.lt).symm, (zV ho80.lt ho68.lt).symm, (zV ho80.lt ho69.lt).symm⟩ ⟨hl0.1, by omega⟩ hl1 (by simp) h1.book KOk.zero) ?_
 rintro _ w98 ⟨ks96, G97, rfl, hd99, hr100, hx101⟩
 refine ⟨_, rfl, ?_⟩
 have hX102 := hX84.trans hx101 (fun i hi => (yQ ho95) i hi)
 have hkl108 := hr100.len
 refine qD rfl (zC (v := (.bool (geB ((addM ((addM ([]) ([]) ax).2.1) ((addM ([]) ([]) ax).2.2) bs).2.1) (rootM ([]) ([]) ax) (rootM ((addM ([]) ([]) ax).2.1) ((addM ([]) ([]) ax).2.2) bs)))) rfl) (qe (zA ?_))
 exact wp_ret (zQ (yA (v := (.bool (geB ((addM ((addM ([]) ([]) ax).2.1) ((addM ([]) ([]) ax).2.2) bs).2.1) (rootM ([]) ([]) ax) (rootM ((addM ([]) ([]) ax).2.1) ((addM ([]) ([]) ax).2.2) bs)))) rfl rfl rfl (⟨_, congrArg (fun z => Ending.returned (Value.bool z)) hge.1, hX102⟩)))
end SF1
end Go.Proofs.YtajkbplgbikgdaaGreatDoor
namespace Go.Proofs.YtajkbplgbikgdaaGreatDoor
namespace DR1
open Go.RowKit Go.GL Go.Proofs
open B1
variable {G : Pin} {cv : Value} {code : List UInt8} {a : Int}
theorem gF {w : World} {c : Nat} {s : Int} (hP : Pins G w) (hB : Bx G w c [cv, .int .i64 a, .int .u64 s]) (hc : RSl eByte G cv code) (ha : 0 ≤ a ∧ a + 1 ≤ 1000000) (_ : 0 ≤ s ∧ s < 18446744073709551616) :
  Calls Tryz.prog 144 [(.pointer (some ⟨c, 0, none⟩))].toArray w fun e w' => ∃ (z : Int) (a' s' : Int), e = .returned (.int .i64 z) ∧ (0 ≤ z ∧ z ≤ 255) ∧ Bx G w' c [cv, .int .i64 a', .int .u64 s'] ∧ (a ≤ a' ∧ a' ≤ a + 1) ∧ (0 ≤ s' ∧ s' < 18446744073709551616) ∧ Ext (inO (some c)) G w G w' := by
 refine yM (n := 62) Tryz.func144 Tryz.ntmps144 rfl rfl ?_
 have hX0 := exr (inO (some c)) hP
 have hm := hc.max
 refine zD (zE ?_)
 refine qD rfl (zC (v := (.int .i64 0)) rfl) (qe (zA (zD (zE ?_))))
 refine qD rfl (zC (v := (.int .i64 0)) rfl) (qe (zA (zD (zD ?_))))
 refine xD (S := fun wz => BxR wz c [cv, (.int .i64 a), (.int .u64 s)]) (last := 10) (by kernel_rfl) rfl ?_
 have hl1 := bdr w
 have hX3 := hX0.step (hX0.pins.below hl1) hl1
 have hb4 := hB.below hl1
 refine dT (i := 0) rfl rfl (by kernel_rfl) (fun _ _ => zB (v := (.pointer (some ⟨c, 0, none⟩))) rfl) hb4.reads ?_
 refine dT (i := 1) rfl rfl (by kernel_rfl) (fun _ _ => xL rfl) hb4.reads ?_
 refine dT (i := 2) rfl rfl (by kernel_rfl) (fun _ _ => zM (k := 1) rfl dC rfl nz3 rfl) hb4.reads ?_
 refine dT (i := 3) rfl rfl (by kernel_rfl) (fun _ hS => zP (u := (.int .i64 a)) ag3 rfl (hS 1 _ rfl)) hb4.reads ?_
 refine dT (i := 4) rfl rfl (by kernel_rfl) (fun _ _ => zB (v := (.pointer (some ⟨c, 0, none⟩))) rfl) hb4.reads ?_
 refine dT (i := 5) rfl rfl (by kernel_rfl) (fun _ _ => xL rfl) hb4.reads ?_
 refine dT (i := 6) rfl rfl (by kernel_rfl) (fun _ _ => zM (k := 0) rfl dC rfl nz22 rfl) hb4.reads ?_
 refine dT (i := 7) rfl rfl (by kernel_rfl) (fun _ hS => zP (u := cv) ag22 rfl (hS 0 _ rfl)) hb4.reads ?_
 refine dT (i := 8) rfl rfl (by kernel_rfl) (fun _ _ => run_len dG (v := cv) rfl hc) hb4.reads ?_
 refine dT (i := 9) rfl rfl (by kernel_rfl) (fun _ _ => xB rfl rfl) hb4.reads ?_
 refine yP (by kernel_rfl) (zA (yJ (p := (a : Int) < (code.length : Int)) rfl rfl (fun h5 => ?_) (fun h5 => ?_)))
 have h255 := (code.getD a.toNat 0).toNat_lt
 refine xD (S := fun wz => BxR wz c [cv, (.int .i64 a), (.int .u64 s)] ∧ Pins G wz) (last := 12) (by kernel_rfl) rfl ?_
 have hl6 : Below w.drew.heap.size w.drew w.drew.drew := (Below.refl _ _).drew
 have hX8 := hX3.step (hX3.pins.below hl6) hl6
 have hb9 := hb4.below hl6
 refine dT (i := 0) rfl rfl (by kernel_rfl) (fun _ _ => zB (v := (.pointer (some ⟨c, 0, none⟩))) rfl) ⟨hb9.reads, hX8.pins⟩ ?_
 refine dT (i := 1) rfl rfl (by kernel_rfl) (fun _ _ => xL rfl) ⟨hb9.reads, hX8.pins⟩ ?_
 refine dT (i := 2) rfl rfl (by kernel_rfl) (fun _ _ => zM (k := 0) rfl dC rfl nz22 rfl) ⟨hb9.reads, hX8.pins⟩ ?_
 refine dT (i := 3) rfl rfl (by kernel_rfl) (fun _ hS => zP (u := cv) ag22 rfl (hS.1 0 _ rfl)) ⟨hb9.reads, hX8.pins⟩ ?_
 refine dT (i := 4) rfl rfl (by kernel_rfl) (fun _ _ => zB (v := (.pointer (some ⟨c, 0, none⟩))) rfl) ⟨hb9.reads, hX8.pins⟩ ?_
 refine dT (i := 5) rfl rfl (by kernel_rfl) (fun _ _ => xL rfl) ⟨hb9.reads, hX8.pins⟩ ?_
 refine dT (i := 6) rfl rfl (by kernel_rfl) (fun _ _ => zM (k := 1) rfl dC rfl nz3 rfl) ⟨hb9.reads, hX8.pins⟩ ?_
 refine dT (i := 7) rfl rfl (by kernel_rfl) (fun _ hS => zP (u := (.int .i64 a)) ag3 rfl (hS.1 1 _ rfl)) ⟨hb9.reads, hX8.pins⟩ ?_
 refine dT (i := 8) rfl rfl (by kernel_rfl) (fun _ _ => zL dG sz5 (v := cv) rfl rfl hc (by omega) (by omega)) ⟨hb9.reads, hX8.pins⟩ ?_
 refine dT (i := 9) rfl rfl (by kernel_rfl) (fun _ hS => pR (r := code.getD (a).toNat 0) rfl ag5 (z := a) rfl hc hS.2 (by omega) (by omega)) ⟨hb9.reads, hX8.pins⟩ ?_
 refine dT (i := 10) rfl rfl (by kernel_rfl) (fun _ _ => fS (j := ((code.getD (a).toNat 0).toNat : Int)) Tryz.underlying5 dF rfl (pZ (by omega))) ⟨hb9.reads, hX8.pins⟩ ?_
 refine dT (i := 11) rfl rfl (by kernel_rfl) (fun _ _ => zC (v := (.int .i64 ((code.getD (a).toNat 0).toNat : Int))) rfl) ⟨hb9.reads, hX8.pins⟩ ?_
 refine yP (by kernel_rfl) (zA (zD (zE ?_)))
 refine qD rfl (zB (v := (.pointer (some ⟨c, 0, none⟩))) rfl) (qD rfl (xL rfl) (qD rfl (zM (k := 1) rfl dC rfl nz3 rfl) (qD rfl (zP (u := (.int .i64 a)) ag3 rfl (hb9.cell (o := 1) rfl)) (qD rfl (yT rfl rfl (by omega)) (qD rfl (xL rfl) (qD rfl (zM (k := 1) rfl dC rfl nz3 rfl) (q0 rfl rfl rfl (yD (cs' := [cv, (.int .i64 (a + 1)), (.int .u64 s)]) (us := [(.int .i64 (a + 1))]) (v := (.int .i64 (a + 1))) sz3 rfl rfl rfl (yE (by rfl)) hX8.pins hb9 (dK rfl) rfl (fun w10 hb11 hp12 hg13 hz14 => ?_)))))))))
 have hX15 := hX8.write hp12 hg13 (xO)
 refine qe (zA (zD (zE ?_)))
 refine qD rfl (zB (v := (.pointer (some ⟨c, 0, none⟩))) rfl) (qD rfl (zB (v := (.pointer (some ⟨c, 0, none⟩))) rfl) (qD rfl (xL rfl) (qD rfl (zM (k := 2) rfl dC rfl nz79 rfl) (qD rfl (zP (u := (.int .u64 s)) ag79 rfl (hb11.cell (o := 2) rfl)) (qD rfl (r_mulU rfl rfl) (qD rfl (zB (v := (.int .i64 ((code.getD (a).toNat 0).toNat : Int))) rfl) (qD rfl (fS (j := ((code.getD (a).toNat 0).toNat : Int)) dF Tryz.underlying79 rfl (wrapU (by omega))) (qD rfl (r_addU rfl rfl) (qD rfl (r_addU rfl rfl) (qD rfl (xL rfl) (qD rfl (zM (k := 2) rfl dC rfl nz79 rfl) (q0 rfl rfl rfl (yD (cs' := [cv, (.int .i64 (a + 1)), (.int .u64 (IntKind.u64.wrap ((IntKind.u64.wrap ((IntKind.u64.wrap (s * 6364136223846793005)) + ((code.getD (a).toNat 0).toNat : Int))) + 868868)))]) (us := [(.int .u64 (IntKind.u64.wrap ((IntKind.u64.wrap ((IntKind.u64.wrap (s * 6364136223846793005)) + ((code.getD (a).toNat 0).toNat : Int))) + 868868)))]) (v := (.int .u64 (IntKind.u64.wrap ((IntKind.u64.wrap ((IntKind.u64.wrap (s * 6364136223846793005)) + ((code.getD (a).toNat 0).toNat : Int))) + 868868)))) sz79 rfl rfl rfl (yE (by rfl)) hX15.pins hb11 (dK rfl) rfl (fun w16 hb17 hp18 hg19 hz20 => ?_))))))))))))))
 have hX21 := hX15.write hp18 hg19 (xO)
 refine qe (zA (zD (zD ?_)))
 refine xD (S := fun wz => BxR wz c [cv, (.int .i64 (a + 1)), (.int .u64 (IntKind.u64.wrap ((IntKind.u64.wrap ((IntKind.u64.wrap (s * 6364136223846793005)) + ((code.getD (a).toNat 0).toNat : Int))) + 868868)))]) (last := 10) (by kernel_rfl) rfl ?_
 have hl22 := bdr w16
 have hX24 := hX21.step (hX21.pins.below hl22) hl22
 have hb25 := hb17.below hl22
 refine dT (i := 0) rfl rfl (by kernel_rfl) (fun _ _ => zB (v := (.pointer (some ⟨c, 0, none⟩))) rfl) hb25.reads ?_
 refine dT (i := 1) rfl rfl (by kernel_rfl) (fun _ _ => xL rfl) hb25.reads ?_
 refine dT (i := 2) rfl rfl (by kernel_rfl) (fun _ _ => zM (k := 1) rfl dC rfl nz3 rfl) hb25.reads ?_
 refine dT (i := 3) rfl rfl (by kernel_rfl) (fun _ hS => zP (u := (.int .i64 (a + 1))) ag3 rfl (hS 1 _ rfl)) hb25.reads ?_
 refine dT (i := 4) rfl rfl (by kernel_rfl) (fun _ _ => zB (v := (.pointer (some ⟨c, 0, none⟩))) rfl) hb25.reads ?_
 refine dT (i := 5) rfl rfl (by kernel_rfl) (fun _ _ => xL rfl) hb25.reads ?_
 refine dT (i := 6) rfl rfl (by kernel_rfl) (fun _ _ => zM (k := 0) rfl dC rfl nz22 rfl) hb25.reads ?_
 refine dT (i := 7) rfl rfl (by kernel_rfl) (fun _ hS => zP (u := cv) ag22 rfl (hS 0 _ rfl)) hb25.reads ?_
 refine dT (i := 8) rfl rfl (by kernel_rfl) (fun _ _ => run_len dG (v := cv) rfl hc) hb25.reads ?_
 refine dT (i := 9) rfl rfl (by kernel_rfl) (fun _ _ => kL rfl rfl) hb25.reads ?_
 refine yP (by kernel_rfl) (zA (yJ (p := (a + 1 : Int) ≤ (code.length : Int)) rfl rfl (fun h26 => ?_) (fun h26 => ?_)))
 refine zD (zE ?_)
 refine qD rfl (zB (v := (.int .i64 ((code.getD (a).toNat 0).toNat : Int))) rfl) (qD rfl (zC (v := (.int .i64 ((code.getD (a).toNat 0).toNat : Int))) rfl) (qe (zA ?_)))
 refine wp_ret (zQ (yA (v := (.int .i64 ((code.getD (a).toNat 0).toNat : Int))) rfl rfl rfl ?_))
 have hwr := tD (((IntKind.u64.wrap ((IntKind.u64.wrap (s * 6364136223846793005)) + ((code.getD (a).toNat 0).toNat : Int))) + 868868))
 exact ⟨_, _, _, rfl, (by omega), hb25, (by omega), (by omega), hX24⟩
 refine wp_skip (zA (zD (zE ?_)))
 refine qD rfl (zB (v := (.pointer (some ⟨c, 0, none⟩))) rfl) (qD rfl (xL rfl) (qD rfl (zM (k := 2) rfl dC rfl nz79 rfl) (qD rfl (zP (u := (.int .u64 (IntKind.u64.wrap ((IntKind.u64.wrap ((IntKind.u64.wrap (s * 6364136223846793005)) + ((code.getD (a).toNat 0).toNat : Int))) + 868868)))) ag79 rfl (hb25.cell (o := 2) rfl)) (qD rfl (r_shrU rfl rfl (by omega)) (qD rfl (r_and rfl rfl) ?_)))))
 have hl827 := low8_lt (Int.fdiv (IntKind.u64.wrap ((IntKind.u64.wrap ((IntKind.u64.wrap (s * 6364136223846793005)) + ((code.getD (a).toNat 0).toNat : Int))) + 868868)) (2 ^ (min (40 : Int).toNat 64)))
 refine qD rfl (fS (j := andW .u64 (Int.fdiv (IntKind.u64.wrap ((IntKind.u64.wrap ((IntKind.u64.wrap (s * 6364136223846793005)) + ((code.getD (a).toNat 0).toNat : Int))) + 868868)) (2 ^ (min (40 : Int).toNat 64))) 255) Tryz.underlying79 dF rfl (pZ (by omega))) (qD rfl (zC (v := (.int .i64 (andW .u64 (Int.fdiv (IntKind.u64.wrap ((IntKind.u64.wrap ((IntKind.u64.wrap (s * 6364136223846793005)) + ((code.getD (a).toNat 0).toNat : Int))) + 868868)) (2 ^ (min (40 : Int).toNat 64))) 255))) rfl) (qe (zA ?_)))
 refine wp_ret (zQ (yA (v := (.int .i64 (andW .u64 (Int.fdiv (IntKind.u64.wrap ((IntKind.u64.wrap ((IntKind.u64.wrap (s * 6364136223846793005)) + ((code.getD (a).toNat 0).toNat : Int))) + 868868)) (2 ^ (min (40 : Int).toNat 64))) 255))) rfl rfl rfl ?_))
 have hwr := tD (((IntKind.u64.wrap ((IntKind.u64.wrap (s * 6364136223846793005)) + ((code.getD (a).toNat 0).toNat : Int))) + 868868))
 exact ⟨_, _, _, rfl, (by omega), hb25, (by omega), (by omega), hX24⟩
 refine wp_skip (zA (zD (zE ?_)))
 refine qD rfl (zB (v := (.pointer (some ⟨c, 0, none⟩))) rfl) (qD rfl (xL rfl) (qD rfl (zM (k := 1) rfl dC rfl nz3 rfl) (qD rfl (zP (u := (.int .i64 a)) ag3 rfl (hb4.cell (o := 1) rfl)) (qD rfl (yT rfl rfl (by omega)) (qD rfl (xL rfl) (qD rfl (zM (k := 1) rfl dC rfl nz3 rfl) (q0 rfl rfl rfl (yD (cs' := [cv, (.int .i64 (a + 1)), (.int .u64 s)]) (us := [(.int .i64 (a + 1))]) (v := (.int .i64 (a + 1))) sz3 rfl rfl rfl (yE (by rfl)) hX3.pins hb4 (dK rfl) rfl (fun w28 hb29 hp30 hg31 hz32 => ?_)))))))))
 have hX33 := hX3.write hp30 hg31 (xO)
 refine qe (zA (zD (zE ?_)))
 refine qD rfl (zB (v := (.pointer (some ⟨c, 0, none⟩))) rfl) (qD rfl (zB (v := (.pointer (some ⟨c, 0, none⟩))) rfl) (qD rfl (xL rfl) (qD rfl (zM (k := 2) rfl dC rfl nz79 rfl) (qD rfl (zP (u := (.int .u64 s)) ag79 rfl (hb29.cell (o := 2) rfl)) (qD rfl (r_mulU rfl rfl) (qD rfl (zB (v := (.int .i64 0)) rfl) (qD rfl (fS (j := 0) dF Tryz.underlying79 rfl (wrapU (by omega))) (qD rfl (r_addU rfl rfl) (qD rfl (r_addU rfl rfl) (qD rfl (xL rfl) (qD rfl (zM (k := 2) rfl dC rfl nz79 rfl) (q0 rfl rfl rfl (yD (cs' := [cv, (.int .i64 (a + 1)), (.int .u64 (IntKind.u64.wrap ((IntKind.u64.wrap ((IntKind.u64.wrap (s * 6364136223846793005)) + 0)) + 868868)))]) (us := [(.int .u64 (IntKind.u64.wrap ((IntKind.u64.wrap ((IntKind.u64.wrap (s * 6364136223846793005)) + 0)) + 868868)))]) (v := (.int .u64 (IntKind.u64.wrap ((IntKind.u64.wrap ((IntKind.u64.wrap (s * 6364136223846793005)) + 0)) + 868868)))) sz79 rfl rfl rfl (yE (by rfl)) hX33.pins hb29 (dK rfl) rfl (fun w34 hb35 hp36 hg37 hz38 => ?_))))))))))))))
 have hX39 := hX33.write hp36 hg37 (xO)
 refine qe (zA (zD (zD ?_)))
 refine xD (S := fun wz => BxR wz c [cv, (.int .i64 (a + 1)), (.int .u64 (IntKind.u64.wrap ((IntKind.u64.wrap ((IntKind.u64.wrap (s * 6364136223846793005)) + 0)) + 868868)))]) (last := 10) (by kernel_rfl) rfl ?_
 have hl40 := bdr w34
 have hX42 := hX39.step (hX39.pins.below hl40) hl40
 have hb43 := hb35.below hl40
 refine dT (i := 0) rfl rfl (by kernel_rfl) (fun _ _ => zB (v := (.pointer (some ⟨c, 0, none⟩))) rfl) hb43.reads ?_
 refine dT (i := 1) rfl rfl (by kernel_rfl) (fun _ _ => xL rfl) hb43.reads ?_
 refine dT (i := 2) rfl rfl (by kernel_rfl) (fun _ _ => zM (k := 1) rfl dC rfl nz3 rfl) hb43.reads ?_
 refine dT (i := 3) rfl rfl (by kernel_rfl) (fun _ hS => zP (u := (.int .i64 (a + 1))) ag3 rfl (hS 1 _ rfl)) hb43.reads ?_
 refine dT (i := 4) rfl rfl (by kernel_rfl) (fun _ _ => zB (v := (.pointer (some ⟨c, 0, none⟩))) rfl) hb43.reads ?_
 refine dT (i := 5) rfl rfl (by kernel_rfl) (fun _ _ => xL rfl) hb43.reads ?_
 refine dT (i := 6) rfl rfl (by kernel_rfl) (fun _ _ => zM (k := 0) rfl dC rfl nz22 rfl) hb43.reads ?_
 refine dT (i := 7) rfl rfl (by kernel_rfl) (fun _ hS => zP (u := cv) ag22 rfl (hS 0 _ rfl)) hb43.reads ?_
 refine dT (i := 8) rfl rfl (by kernel_rfl) (fun _ _ => run_len dG (v := cv) rfl hc) hb43.reads ?_
 refine dT (i := 9) rfl rfl (by kernel_rfl) (fun _ _ => kL rfl rfl) hb43.reads ?_
 refine yP (by kernel_rfl) (zA (yJ (p := (a + 1 : Int) ≤ (code.length : Int)) rfl rfl (fun h44 => ?_) (fun h44 => ?_)))
 refine zD (zE ?_)
 refine qD rfl (zB (v := (.int .i64 0)) rfl) (qD rfl (zC (v := (.int .i64 0)) rfl) (qe (zA ?_)))
 refine wp_ret (zQ (yA (v := (.int .i64 0)) rfl rfl rfl ?_))
 have hwr := tD (((IntKind.u64.wrap ((IntKind.u64.wrap (s * 6364136223846793005)) + 0)) + 868868))
 exact ⟨_, _, _, rfl, (by omega), hb43, (by omega), (by omega), hX42⟩
 refine wp_skip (zA (zD (zE ?_)))
 refine qD rfl (zB (v := (.pointer (some ⟨c, 0, none⟩))) rfl) (qD rfl (xL rfl) (qD rfl (zM (k := 2) rfl dC rfl nz79 rfl) (qD rfl (zP (u := (.int .u64 (IntKind.u64.wrap ((IntKind.u64.wrap ((IntKind.u64.wrap (s * 6364136223846793005)) + 0)) + 868868)))) ag79 rfl (hb43.cell (o := 2) rfl)) (qD rfl (r_shrU rfl rfl (by omega)) (qD rfl (r_and rfl rfl) ?_)))))
 have hl845 := low8_lt (Int.fdiv (IntKind.u64.wrap ((IntKind.u64.wrap ((IntKind.u64.wrap (s * 6364136223846793005)) + 0)) + 868868)) (2 ^ (min (40 : Int).toNat 64)))
 refine qD rfl (fS (j := andW .u64 (Int.fdiv (IntKind.u64.wrap ((IntKind.u64.wrap ((IntKind.u64.wrap (s * 6364136223846793005)) + 0)) + 868868)) (2 ^ (min (40 : Int).toNat 64))) 255) Tryz.underlying79 dF rfl (pZ (by omega))) (qD rfl (zC (v := (.int .i64 (andW .u64 (Int.fdiv (IntKind.u64.wrap ((IntKind.u64.wrap ((IntKind.u64.wrap (s * 6364136223846793005)) + 0)) + 868868)) (2 ^ (min (40 : Int).toNat 64))) 255))) rfl) (qe (zA ?_)))
 refine wp_ret (zQ (yA (v := (.int .i64 (andW .u64 (Int.fdiv (IntKind.u64.wrap ((IntKind.u64.wrap ((IntKind.u64.wrap (s * 6364136223846793005)) + 0)) + 868868)) (2 ^ (min (40 : Int).toNat 64))) 255))) rfl rfl rfl ?_))
 have hwr := tD (((IntKind.u64.wrap ((IntKind.u64.wrap (s * 6364136223846793005)) + 0)) + 868868))
 exact ⟨_, _, _, rfl, (by omega), hb43, (by omega), (by omega), hX42⟩
theorem qL {w : World} {c : Nat} {s : Int} {n : Int} (hP : Pins G w) (hB : Bx G w c [cv, .int .i64 a, .int .u64 s]) (hc : RSl eByte G cv code) (ha : 0 ≤ a ∧ a + 2 ≤ 1000000) (hs : 0 ≤ s ∧ s < 18446744073709551616) (hn : n ≤ 1000) :
  Calls Tryz.prog 101 [(.pointer (some ⟨c, 0, none⟩)), (.int .i64 n)].toArray w fun e w' => ∃ (z : Int) (a' s' : Int), e = .returned (.int .i64 z) ∧ (0 ≤ z ∧ (z < n ∨ z = 0)) ∧ Bx G w' c [cv, .int .i64 a', .int .u64 s'] ∧ (a ≤ a' ∧ a' ≤ a + 2) ∧ (0 ≤ s' ∧ s' < 18446744073709551616) ∧ Ext (inO (some c)) G w G w' := by
 refine yM (n := 20) Tryz.func101 Tryz.ntmps101 rfl rfl ?_
 have hX0 := exr (inO (some c)) hP
 have hm := hc.max
 refine zD (zE ?_)
 refine qD rfl (zC (v := (.int .i64 0)) rfl) (qe (zA (zD (zD (zE ?_)))))
 refine qD rfl (zB (v := (.int .i64 n)) rfl) (qD rfl (kL rfl rfl) (qe (zA ?_)))
 refine yJ (p := (n : Int) ≤ 1) rfl rfl (fun h1 => ?_) (fun h1 => ?_)
 refine zD (zE ?_)
 refine qD rfl (zC (v := (.int .i64 0)) rfl) (qe (zA ?_))
 exact wp_ret (zQ (yA (v := (.int .i64 0)) rfl rfl rfl (⟨_, _, _, rfl, (by omega), hB, (by omega), (by omega), hX0⟩)))
 refine wp_skip (zA (zD (zE ?_)))
 refine qD rfl (zB (v := (.pointer (some ⟨c, 0, none⟩))) rfl) (qI rfl (zK (vs := [(.pointer (some ⟨c, 0, none⟩))]) Tryz.func144 nm144 rfl rfl rfl ?_))
 refine dJ (gF hX0.pins hB hc (by omega) (by omega)) ?_
 rintro _ w6 ⟨z2, a4, s5, rfl, hz3, hb7, hda8, hds9, hx10⟩
 refine ⟨_, rfl, ?_⟩
 have hX11 := hX0.trans hx10 (fun i hi => xO i hi)
 refine qD rfl (zC (v := (.int .i64 z2)) rfl) (qe (zA (zD (zD (zE ?_)))))
 refine qD rfl (zB (v := (.int .i64 n)) rfl) (qD rfl (qV rfl rfl) (qe (zA ?_)))
 refine yJ (p := (200 : Int) < n) rfl rfl (fun h12 => ?_) (fun h12 => ?_)
 refine zE (qD rfl (zB (v := (.int .i64 z2)) rfl) (qD rfl (nL rfl rfl (by omega)) (qD rfl (zB (v := (.pointer (some ⟨c, 0, none⟩))) rfl) (qI rfl (zK (vs := [(.pointer (some ⟨c, 0, none⟩))]) Tryz.func144 nm144 rfl rfl rfl ?_)))))
 refine dJ (gF hX11.pins hb7 hc (by omega) (by omega)) ?_
 rintro _ w17 ⟨z13, a15, s16, rfl, hz14, hb18, hda19, hds20, hx21⟩
 refine ⟨_, rfl, ?_⟩
 have hX22 := hX11.trans hx21 (fun i hi => xO i hi)
 refine qD rfl (yT rfl rfl (by omega)) (qD rfl (zC (v := (.int .i64 ((z2 * 256) + z13))) rfl) (qe (zA (zD (zE ?_)))))
 refine qD rfl (zB (v := (.int .i64 ((z2 * 256) + z13))) rfl) (qD rfl (zB (v := (.int .i64 n)) rfl) (qD rfl (rS rfl rfl (by omega) (by omega)) (qD rfl (zC (v := (.int .i64 (((z2 * 256) + z13) % n))) rfl) (qe (zA ?_)))))
 refine wp_ret (zQ (yA (v := (.int .i64 (((z2 * 256) + z13) % n))) rfl rfl rfl ?_))
 have hr1 := Int.emod_nonneg (((z2 * 256) + z13)) (show n ≠ 0 by omega)
 have hr2 := Int.emod_lt_of_pos (((z2 * 256) + z13)) (show 0 < n by omega)
 exact ⟨_, _, _, rfl, (by omega), hb18, (by omega), (by omega), hX22⟩
 refine wp_skip (zA (zD (zE ?_)))
 refine qD rfl (zB (v := (.int .i64 z2)) rfl) (qD rfl (zB (v := (.int .i64 n)) rfl) (qD rfl (rS rfl rfl (by omega) (by omega)) (qD rfl (zC (v := (.int .i64 (z2 % n))) rfl) (qe (zA ?_)))))
 refine wp_ret (zQ (yA (v := (.int .i64 (z2 % n))) rfl rfl rfl ?_))
 have hr1 := Int.emod_nonneg (z2) (show n ≠ 0 by omega)
 have hr2 := Int.emod_lt_of_pos (z2) (show 0 < n by omega)
 exact ⟨_, _, _, rfl, (by omega), hb7, (by omega), (by omega), hX11⟩
theorem tJ {w : World} {c : Nat} {s : Int} {n : Int} (hP : Pins G w) (hB : Bx G w c [cv, .int .i64 a, .int .u64 s]) (hc : RSl eByte G cv code) (ha : 0 ≤ a ∧ a + 2 ≤ 1000000) (hs : 0 ≤ s ∧ s < 18446744073709551616) (hn : n ≤ 1000) :
  Calls Tryz.prog 52 [(.pointer (some ⟨c, 0, none⟩)), (.int .i64 n)].toArray w fun e w' => ∃ (z : Bool) (a' s' : Int), e = .returned (.bool z) ∧ Bx G w' c [cv, .int .i64 a', .int .u64 s'] ∧ (a ≤ a' ∧ a' ≤ a + 2) ∧ (0 ≤ s' ∧ s' < 18446744073709551616) ∧ Ext (inO (some c)) G w G w' := by
 refine yM (n := 9) Tryz.func52 Tryz.ntmps52 rfl rfl ?_
 have hX0 := exr (inO (some c)) hP
 have hm := hc.max
 refine zD (zE ?_)
 refine qD rfl (zC (v := (.bool false)) rfl) (qe (zA (zD (zE ?_))))
 refine qD rfl (zB (v := (.pointer (some ⟨c, 0, none⟩))) rfl) (qD rfl (zB (v := (.int .i64 n)) rfl) (qI rfl (zK (vs := [(.pointer (some ⟨c, 0, none⟩)), (.int .i64 n)]) Tryz.func101 kC rfl rfl rfl ?_)))
 refine dJ (qL hX0.pins hB hc (by omega) (by omega) (n := n) (by omega)) ?_
 rintro _ w5 ⟨z1, a3, s4, rfl, hz2, hb6, hda7, hds8, hx9⟩
 refine ⟨_, rfl, ?_⟩
 have hX10 := hX0.trans hx9 (fun i hi => xO i hi)
 refine qD rfl (qN rfl rfl) (qD rfl (zC (v := (.bool (decide ((z1 : Int) = 0)))) rfl) (qe (zA ?_)))
 exact wp_ret (zQ (yA (v := (.bool (decide ((z1 : Int) = 0)))) rfl rfl rfl (⟨_, _, _, rfl, hb6, (by omega), (by omega), hX10⟩)))
theorem tC {w : World} {c : Nat} {s : Int} {l : Value} {xs : List Int} (hP : Pins G w) (hB : Bx G w c [cv, .int .i64 a, .int .u64 s]) (hc : RSl eByte G cv code) (ha : 0 ≤ a ∧ a + 2 ≤ 1000000) (hs : 0 ≤ s ∧ s < 18446744073709551616) (hl : RSl eInt G l xs) (hx : 1 ≤ xs.length ∧ xs.length ≤ 1000) :
  Calls Tryz.prog 68 [(.pointer (some ⟨c, 0, none⟩)), l].toArray w fun e w' => ∃ (z : Int) (a' s' : Int), e = .returned (.int .i64 z) ∧ z ∈ xs ∧ Bx G w' c [cv, .int .i64 a', .int .u64 s'] ∧ (a ≤ a' ∧ a' ≤ a + 2) ∧ (0 ≤ s' ∧ s' < 18446744073709551616) ∧ Ext (inO (some c)) G w G w' := by
 refine yM (n := 12) Tryz.func68 Tryz.ntmps68 rfl rfl ?_
 have hX0 := exr (inO (some c)) hP
 have hm := hc.max
 have hml := hl.max
 refine zD (zE ?_)
 refine qD rfl (zC (v := (.int .i64 0)) rfl) (qe (zA (zD (zE ?_))))
 refine qD rfl (zB (v := l) rfl) (qD rfl (zB (v := (.pointer (some ⟨c, 0, none⟩))) rfl) (qD rfl (zB (v := l) rfl) (qD rfl (run_len eR (v := l) rfl hl) (qI rfl (zK (vs := [(.pointer (some ⟨c, 0, none⟩)), (.int .i64 (xs.length : Int))]) Tryz.func101 kC rfl rfl rfl ?_)))))
 refine dJ (qL hX0.pins hB hc (by omega) (by omega) (n := (xs.length : Int)) (by omega)) ?_
 rintro _ w5 ⟨z1, a3, s4, rfl, hz2, hb6, hda7, hds8, hx9⟩
 refine ⟨_, rfl, ?_⟩
 have hX10 := hX0.trans hx9 (fun i hi => xO i hi)
 refine qD rfl (zL eR sz3 (v := l) rfl rfl hl (by omega) (by omega)) (qD rfl (zZ (r := xs.getD (z1).toNat 0) rfl ag3 (z := z1) rfl hl hX10.pins (by omega) (by omega)) (qD rfl (zC (v := (.int .i64 (xs.getD (z1).toNat 0))) rfl) (qe (zA ?_))))
 exact wp_ret (zQ (yA (v := (.int .i64 (xs.getD (z1).toNat 0))) rfl rfl rfl (⟨_, _, _, rfl, xE (by omega), hb6, (by omega), (by omega), hX10⟩)))
end DR1
end Go.Proofs.YtajkbplgbikgdaaGreatDoor
namespace Go.Proofs.YtajkbplgbikgdaaGreatDoor
namespace MK1
open Go.RowKit Go.GL Go.Proofs
open B1 C1 D1 E1
theorem nP : (Tryz.prog.underlying 119).bind (placesD Tryz.prog) = some [(0, 1), (1, 1)] := by kernel_rfl
theorem l3Make_own {w : World} {G : Pin} {u v : Value} {fs gs : List (List Nd)} (hP : Pins G w) (hu : RSl (eSl eNode) G u fs) (hv : RSl (eSl eNode) G v gs) (hfa : AllW fs) (hga : AllW gs) :
  Calls Tryz.prog 131 [u, v].toArray w fun e w' => ∃ (u : Value) (G' : Pin), e = .returned (.agg [u].toArray) ∧ RSl eNode G' u (formG (mkGm fs gs)) ∧ Ext noS G w G' w' ∧ ∃ Gi, Own eNode 65 Gi w' w.heap.size u (formG (mkGm fs gs)) ∧ Pin.le Gi G' := by
 refine yM (n := 50) Tryz.func131 Tryz.ntmps131 rfl rfl ?_
 have hX0 := exr noS hP
 have hmu := hu.max
 have hmv := hv.max
 have hfle := hfa.len
 have hgle := hga.len
 refine zD (zE ?_)
 refine qI rfl (yL [(.slice none 0 0)] zr26 rfl hX0.pins (fun b1 w2 hk3 hb4 hp5 hl6 => ?_))
 have hX7 := hX0.step hp5 hl6
 have hlo8 : w.heap.size ≤ b1 := by have := hX0.size; omega
 refine qe (zA (zD (zE ?_)))
 refine qD rfl (yY [(.slice none 0 0), (.slice none 0 0)] [(.slice none 0 0), (.slice none 0 0)] [] dA zr119 rfl nP rfl (fun _ h => by cases h) rfl) (qI rfl (xX [(.slice none 0 0), (.slice none 0 0)] (v := (.agg [(.slice none 0 0), (.slice none 0 0)].toArray)) rfl rfl hX7.pins (fun b9 w10 hk11 hb12 hp13 hl14 => ?_)))
 have hX15 := hX7.step hp13 hl14
 have hb16 := hb4.below hl14
 have ha17 : Apart (some b9) (some b1) := zG (congrArg some hk11) hb4.lt
 have hlo18 : w.heap.size ≤ b9 := by have := hX7.size; omega
 refine qD rfl (zC (v := (.pointer (some ⟨b9, 0, none⟩))) rfl) (qe (zA (zD (zE ?_))))
 refine qI rfl (xF (E := eInt) (e := 3) eR sz3 hX15.pins (fun u19 w20 ho21 hp22 hl23 hk24 => ?_))
 have hX25 := hX15.step hp22 hl23
 have hb26 := hb16.below hl23
 have hb27 := hb12.below hl23
 have ha28 : Apart u19.ownBlock (some b1) := zG hk24 hb16.lt
 have ha29 : Apart u19.ownBlock (some b9) := zG hk24 hb12.lt
 have ho30 := ho21.weaken hX15.size
 refine qI rfl (xF (E := eInt) (e := 3) eR sz3 hX25.pins (fun u31 w32 ho33 hp34 hl35 hk36 => ?_))
 have hX37 := hX25.step hp34 hl35
 have ho38 := ho30.below hl35
 have hb39 := hb26.below hl35
 have hb40 := hb27.below hl35
 have ha41 : Apart u31.ownBlock u19.ownBlock := zI hk36 ho30.lt
 have ha42 : Apart u31.ownBlock (some b1) := zG hk36 hb26.lt
 have ha43 : Apart u31.ownBlock (some b9) := zG hk36 hb27.lt
 have ho44 := ho33.weaken hX25.size
 refine qD rfl (zC (v := u19) rfl) (qD rfl (zC (v := u31) rfl) (qe (zA (zD (zD (zE ?_))))))
 refine qD rfl (zC (v := (.int .i64 0)) rfl) (qe (zA ?_))
 refine yI (yZ (fun (k : Nat) (en : Nat → Value) (W : World) => ∃ (env1 : Nat → Value) (i5 : Nat) (atA : Value) (atsA : List Int) (uA : Value) (vA : Value) (nsA : List Nd) (bsA : List Int) (GLA : Pin), en = (upd (upd (upd (upd (upd (upd (upd env1 0 u) 1 v) 4 (.pointer (some ⟨b1, 0, none⟩))) 5 (.pointer (some ⟨b9, 0, none⟩))) 6 atA) 7 u31) 8 (.int .i64 (i5 : Int))) ∧ k = fs.length - i5 ∧ Ext noS G w GLA W ∧ Pin.le G GLA ∧ (i5 ≤ fs.length) ∧ (PoolOk (bkq nsA bsA)) ∧ (GsOk (bkq nsA bsA) atsA ((fs.take i5).map gOf)) ∧ (nsA.length ≤ 1000 * i5) ∧ (Own eInt 3 GLA W w.heap.size atA (atsA)) ∧ (Own eNode 65 GLA W 0 uA (nsA)) ∧ (Own eInt 3 GLA W 0 vA (bsA)) ∧ (Own eInt 3 GLA W w.heap.size u31 ([])) ∧ (Bx GLA W b1 [(.slice none 0 0)]) ∧ (Bx GLA W b9 [uA, vA]) ∧ (Apart atA.ownBlock uA.ownBlock) ∧ (Apart atA.ownBlock vA.ownBlock) ∧ (Apart atA.ownBlock u31.ownBlock) ∧ (Apart atA.ownBlock (some b1)) ∧ (Apart atA.ownBlock (some b9)) ∧ (Apart uA.ownBlock vA.ownBlock) ∧ (Apart uA.ownBlock u31.ownBlock) ∧ (Apart uA.ownBlock (some b1)) ∧ (Apart uA.ownBlock (some b9)) ∧ (Apart vA.ownBlock u31.ownBlock) ∧ (Apart vA.ownBlock (some b1)) ∧ (Apart vA.ownBlock (some b9)) ∧ (Lo w noS uA.ownBlock) ∧ (Lo w noS vA.ownBlock)) _ ⟨_, 0, u19, [], (.slice none 0 0), (.slice none 0 0), [], [], G, (zF (x := 8) (zF (x := 7) (zF (x := 6) (zF (x := 5) (zF (x := 4) (zF (x := 1) (yF (x := 0) rfl) rfl) rfl) rfl) rfl) rfl) rfl), rfl, hX37, Pin.le_refl _, Nat.zero_le _, (bkq_ok Ar.empty), GsOk.nil, (by simp), ho38, (Own.nil _ _ _ _ _), (Own.nil _ _ _ _ _), ho44, hb39, hb40, apart_none.symm, apart_none.symm, ha41.symm, ha28, ha29, apart_none, apart_none, apart_none, apart_none, apart_none, apart_none, apart_none, (kQ _ _), (kQ _ _)⟩ ?_)
 rintro k45 _ w46 ⟨env1, i5, atA, atsA, uA, vA, nsA, bsA, GLA, rfl, hk47, hX48, hlek45, hki5, hokA, hgsA, hblA, hw49, hw50, hw51, hw52, hw53, hw54, ha55, ha56, ha57, ha58, ha59, ha60, ha61, ha62, ha63, ha64, ha65, ha66, hlo67, hlo68⟩
 have hglA := hgsA.len
 rw [List.length_map, List.length_take] at hglA
 refine zD (zD (zE ?_))
 refine qD rfl (zB (v := (.int .i64 (i5 : Int))) rfl) (qD rfl (zB (v := u) rfl) (qD rfl (run_len dB (v := u) rfl hu) (qD rfl (xB rfl rfl) (qe (zA ?_)))))
 refine yJ (p := ((i5 : Int) : Int) < (fs.length : Int)) rfl rfl (fun h69 => ?_) (fun h69 => ?_)
 have hgd := hfa.ok i5 (by omega)
 have hgdl := hgd.2.1
 have hgdh := hgd.2.2
 have hrk := bk_root (fs := fs.getD i5 []) hokA hgd.1 (by omega) (by omega)
 refine wp_skip (zA (zD ?_))
 refine yI (zE (qD rfl (zB (v := atA) rfl) (qD rfl (zB (v := (.pointer (some ⟨b9, 0, none⟩))) rfl) (qD rfl (zB (v := u) rfl) (qD rfl (zB (v := (.int .i64 (i5 : Int))) rfl) (qD rfl (zL dB sz26 (v := u) rfl rfl hu (by omega) (by omega)) ?_))))))
 obtain ⟨u70, hr71, hl72⟩ := nm_form (hu.at (z := (i5 : Int)) (by omega) (by omega)) (j := i5) rfl
 have hm73 := hr71.max
 refine qD rfl (hl72 ag26 sz26 rfl (dI hX48.pins hlek45)) (qI rfl (zK (vs := [(.pointer (some ⟨b9, 0, none⟩)), (.agg [u70].toArray)]) Tryz.func124 nm124 rfl rfl rfl ?_))
 refine dJ (kX hX48.pins ⟨hw54, hw50, hw51, ha63.symm, ha66.symm, ha60⟩ hokA.ar.ok (hr71.mono hlek45) ⟨hgd.1, hgdl⟩ (by first | omega | (simp; omega))) ?_
 rintro _ w77 ⟨u74, v75, G76, rfl, hbk78, hx79, hlu80, hlv81⟩
 refine ⟨_, rfl, ?_⟩
 have hin84 : ∀ i, inS b9 uA vA i → w.heap.size ≤ i ∨ noS i := kU (zS hlo18) hlo67 hlo68
 have hX85 := hX48.trans hx79 hin84
 have hn86 := notS (u := uA) (v := vA) ha59 ha55 ha56
 have ha88 : Apart atA.ownBlock u74.ownBlock := jA hlu80 hn86 (kT hw49)
 have ha89 : Apart atA.ownBlock v75.ownBlock := jA hlv81 hn86 (kT hw49)
 have hn90 := notS (u := uA) (v := vA) ha43 ha61.symm ha64.symm
 have ha92 : Apart u31.ownBlock u74.ownBlock := jA hlu80 hn90 (kT hw52)
 have ha93 : Apart u31.ownBlock v75.ownBlock := jA hlv81 hn90 (kT hw52)
 have hn94 := notS (u := uA) (v := vA) ha17.symm ha62.symm ha65.symm
 have ha96 : Apart (some b1) u74.ownBlock := jA hlu80 hn94 (box_lt hw53)
 have ha97 : Apart (some b1) v75.ownBlock := jA hlv81 hn94 (box_lt hw53)
 have ha101 := hbk78.abu
 have ha102 := hbk78.abv
 have ha103 := hbk78.auv
 have hlo104 := xZ hlu80 hin84 hX48.size
 have hlo105 := xZ hlv81 hin84 hX48.size
 refine qI rfl (xI (E := eInt) (e := 3) [(.int .i64 (rootM nsA bsA (fs.getD i5 [])))] [rootM nsA bsA (fs.getD i5 [])] eR sz3 zr3 (by exact qQ (by rfl)) (yE (by rfl)) rfl rfl rfl rfl (by decide) hX85.pins (fun u106 w107 ho108 hp109 hl110 hk111 => ?_))
 have hX112 := hX85.step hp109 hl110
 have ho113 := (hw49.extS hx79 hn86).below hl110
 have ho114 := (hw52.extS hx79 hn90).below hl110
 have ho115 := hbk78.ou.below hl110
 have ho116 := hbk78.ov.below hl110
 have hb117 := (hw53.extS hx79 (notSb hn94)).below hl110
 have hb118 := hbk78.bx.below hl110
 have ho125 := ho108.weaken hX85.size
 refine qI rfl (yH (E := eInt) (v := atA) (u := u106) 8 eR ap3 (by decide) rfl rfl hX112.pins ho113 ho125.src (by first | omega | (rw [List.nil_append]; omega) | (rw [List.length_nil]; omega) | (rw [List.length_append]; omega) | (simp; done) | (simp; omega) | (simp only [List.length_append, List.length_cons, List.length_nil]; omega)) (by first | omega | (rw [List.nil_append]; omega) | (rw [List.length_nil]; omega) | (rw [List.length_append]; omega) | (simp; done) | (simp; omega) | (simp only [List.length_append, List.length_cons, List.length_nil]; omega)) (hX112.size) (fun u126 w127 ho128 hp129 hg130 hw131 => ?_))
 have hm145 := la1 atsA (rootM nsA bsA (fs.getD i5 []))
 refine qD rfl (zC (v := u126) rfl) (qe (yO (zA (zE ?_))))
 refine qD rfl (zB (v := (.int .i64 (i5 : Int))) rfl) (qD rfl (yT rfl rfl (by omega)) (qD rfl (zC (v := (.int .i64 ((i5 : Int) + 1))) rfl) (qe (yR (⟨_, ?_, _, rfl, _, i5 + 1, u126, atsA ++ ([rootM nsA bsA (fs.getD i5 [])]), u74, v75, (addM nsA bsA (fs.getD i5 [])).2.1, (addM nsA bsA (fs.getD i5 [])).2.2, G76, (zF (x := 8) (zF (x := 7) (zF (x := 6) (zF (x := 5) (zF (x := 4) (zF (x := 1) (yF (x := 0) rfl) rfl) rfl) rfl) rfl) rfl) rfl), rfl, (hX112.write hp129 hg130 ((yQ ho113))), (dH hlek45 hx79.le), (by omega), hrk.ok, (by rw [take_map (by omega)]; exact (hgsA.px hrk.px hokA hrk.ok).snoc hrk.pl hrk.pd), (by have h8 := hrk.len; have h9 := hgd.2.2; omega), ho128, (ho115.keptA hg130 ha88.symm), (ho116.keptA hg130 ha89.symm), (ho114.keptA hg130 ha57.symm), (hb117.keptA hg130 ha58.symm), (hb118.keptA hg130 ha59.symm), (zJ ha88.symm hw131 ho115.lt).symm, (zJ ha89.symm hw131 ho116.lt).symm, (zJ ha57.symm hw131 ho114.lt).symm, (zN ha58.symm hw131 hb117.lt).symm, (zN ha59.symm hw131 hb118.lt).symm, ha103, ha92.symm, ha96.symm, ha101.symm, ha93.symm, ha97.symm, ha102.symm, hlo104, hlo105⟩)))))
 omega
 refine wp_exit (yK (yU (yV (zA (zD (zD (zE ?_)))))))
 refine qD rfl (zC (v := (.int .i64 0)) rfl) (qe (zA ?_))
 refine yI ?_
 have hi5n : i5 = fs.length := by omega
 have hgsF : GsOk (bkq nsA bsA) atsA (fs.map gOf) := by rw [hi5n, List.take_length] at hgsA; exact hgsA
 refine yZ (fun (k : Nat) (en : Nat → Value) (W : World) => ∃ (env1 : Nat → Value) (j5 : Nat) (atB : Value) (atsB : List Int) (uB : Value) (vB : Value) (nsB : List Nd) (bsB : List Int) (GLB : Pin), en = (upd (upd (upd (upd (upd (upd env1 1 v) 4 (.pointer (some ⟨b1, 0, none⟩))) 5 (.pointer (some ⟨b9, 0, none⟩))) 6 atA) 7 atB) 9 (.int .i64 (j5 : Int))) ∧ k = gs.length - j5 ∧ Ext noS G w GLB W ∧ Pin.le GLA GLB ∧ (j5 ≤ gs.length) ∧ (PoolOk (bkq nsB bsB)) ∧ (GsOk (bkq nsB bsB) atsB ((gs.take j5).map gOf)) ∧ (nsB.length ≤ 100000 + 1000 * j5) ∧ (GsOk (bkq nsB bsB) atsA (fs.map gOf)) ∧ (Own eInt 3 GLB W w.heap.size atB (atsB)) ∧ (Own eNode 65 GLB W 0 uB (nsB)) ∧ (Own eInt 3 GLB W 0 vB (bsB)) ∧ (Own eInt 3 GLB W w.heap.size atA (atsA)) ∧ (Bx GLB W b1 [(.slice none 0 0)]) ∧ (Bx GLB W b9 [uB, vB]) ∧ (Apart atB.ownBlock uB.ownBlock) ∧ (Apart atB.ownBlock vB.ownBlock) ∧ (Apart atB.ownBlock atA.ownBlock) ∧ (Apart atB.ownBlock (some b1)) ∧ (Apart atB.ownBlock (some b9)) ∧ (Apart uB.ownBlock vB.ownBlock) ∧ (Apart uB.ownBlock atA.ownBlock) ∧ (Apart uB.ownBlock (some b1)) ∧ (Apart uB.ownBlock (some b9)) ∧ (Apart vB.ownBlock atA.ownBlock) ∧ (Apart vB.ownBlock (some b1)) ∧ (Apart vB.ownBlock (some b9)) ∧ (Lo w noS uB.ownBlock) ∧ (Lo w noS vB.ownBlock)) _ ⟨_, 0, u31, [], uA, vA, nsA, bsA, GLA, (zF (x := 9) (zF (x := 7) (zF (x := 6) (zF (x := 5) (zF (x := 4) (yF (x := 1) rfl) rfl) rfl) rfl) rfl) rfl), rfl, hX48, Pin.le_refl _, Nat.zero_le _, hokA, GsOk.nil, (by omega), hgsF, hw52, hw50, hw51, hw49, hw53, hw54, ha61.symm, ha64.symm, ha57.symm, ha42, ha43, ha60, ha55.symm, ha62, ha63, ha56.symm, ha65, ha66, hlo67, hlo68⟩ ?_
 rintro k146 _ w147 ⟨env1, j5, atB, atsB, uB, vB, nsB, bsB, GLB, rfl, hk148, hX149, hlek146, hkj5, hokB, hgsB, hblB, hgsL, hw150, hw151, hw152, hw153, hw154, hw155, ha156, ha157, ha158, ha159, ha160, ha161, ha162, ha163, ha164, ha165, ha166, ha167, hlo168, hlo169⟩
 have hglB := hgsB.len
 rw [List.length_map, List.length_take] at hglB
 refine zD (zD (zE ?_))
 refine qD rfl (zB (v := (.int .i64 (j5 : Int))) rfl) (qD rfl (zB (v := v) rfl) (qD rfl (run_len dB (v := v) rfl hv) (qD rfl (xB rfl rfl) (qe (zA ?_)))))
 refine yJ (p := ((j5 : Int) : Int) < (gs.length : Int)) rfl rfl (fun h170 => ?_) (fun h170 => ?_)
 have hgd := hga.ok j5 (by omega)
 have hgdl := hgd.2.1
 have hgdh := hgd.2.2
 have hrk := bk_root (fs := gs.getD j5 []) hokB hgd.1 (by omega) (by omega)
 refine wp_skip (zA (zD ?_))
 refine yI (zE (qD rfl (zB (v := atB) rfl) (qD rfl (zB (v := (.pointer (some ⟨b9, 0, none⟩))) rfl) (qD rfl (zB (v := v) rfl) (qD rfl (zB (v := (.int .i64 (j5 : Int))) rfl) (qD rfl (zL dB sz26 (v := v) rfl rfl hv (by omega) (by omega)) ?_))))))
 obtain ⟨u171, hr172, hl173⟩ := nm_form (hv.at (z := (j5 : Int)) (by omega) (by omega)) (j := j5) rfl
 have hm174 := hr172.max
 refine qD rfl (hl173 ag26 sz26 rfl (dI hX149.pins (dH hlek45 hlek146))) (qI rfl (zK (vs := [(.pointer (some ⟨b9, 0, none⟩)), (.agg [u171].toArray)]) Tryz.func124 nm124 rfl rfl rfl ?_))
 refine dJ (kX hX149.pins ⟨hw155, hw151, hw152, ha164.symm, ha167.symm, ha161⟩ hokB.ar.ok (hr172.mono (dH hlek45 hlek146)) ⟨hgd.1, hgdl⟩ (by first | omega | (simp; omega))) ?_
 rintro _ w178 ⟨u175, v176, G177, rfl, hbk179, hx180, hlu181, hlv182⟩
 refine ⟨_, rfl, ?_⟩
 have hin185 : ∀ i, inS b9 uB vB i → w.heap.size ≤ i ∨ noS i := kU (zS hlo18) hlo168 hlo169
 have hX186 := hX149.trans hx180 hin185
 have hn187 := notS (u := uB) (v := vB) ha160 ha156 ha157
 have ha189 : Apart atB.ownBlock u175.ownBlock := jA hlu181 hn187 (kT hw150)
 have ha190 : Apart atB.ownBlock v176.ownBlock := jA hlv182 hn187 (kT hw150)
 have hn191 := notS (u := uB) (v := vB) ha59 ha162.symm ha165.symm
 have ha193 : Apart atA.ownBlock u175.ownBlock := jA hlu181 hn191 (kT hw153)
 have ha194 : Apart atA.ownBlock v176.ownBlock := jA hlv182 hn191 (kT hw153)
 have hn195 := notS (u := uB) (v := vB) ha17.symm ha163.symm ha166.symm
 have ha197 : Apart (some b1) u175.ownBlock := jA hlu181 hn195 (box_lt hw154)
 have ha198 : Apart (some b1) v176.ownBlock := jA hlv182 hn195 (box_lt hw154)
 have ha202 := hbk179.abu
 have ha203 := hbk179.abv
 have ha204 := hbk179.auv
 have hlo205 := xZ hlu181 hin185 hX149.size
 have hlo206 := xZ hlv182 hin185 hX149.size
 refine qI rfl (xI (E := eInt) (e := 3) [(.int .i64 (rootM nsB bsB (gs.getD j5 [])))] [rootM nsB bsB (gs.getD j5 [])] eR sz3 zr3 (by exact qQ (by rfl)) (yE (by rfl)) rfl rfl rfl rfl (by decide) hX186.pins (fun u207 w208 ho209 hp210 hl211 hk212 => ?_))
 have hX213 := hX186.step hp210 hl211
 have ho214 := (hw150.extS hx180 hn187).below hl211
 have ho215 := (hw153.extS hx180 hn191).below hl211
 have ho216 := hbk179.ou.below hl211
 have ho217 := hbk179.ov.below hl211
 have hb218 := (hw154.extS hx180 (notSb hn195)).below hl211
 have hb219 := hbk179.bx.below hl211
 have ho226 := ho209.weaken hX186.size
 refine qI rfl (yH (E := eInt) (v := atB) (u := u207) 8 eR ap3 (by decide) rfl rfl hX213.pins ho214 ho226.src (by first | omega | (rw [List.nil_append]; omega) | (rw [List.length_nil]; omega) | (rw [List.length_append]; omega) | (simp; done) | (simp; omega) | (simp only [List.length_append, List.length_cons, List.length_nil]; omega)) (by first | omega | (rw [List.nil_append]; omega) | (rw [List.length_nil]; omega) | (rw [List.length_append]; omega) | (simp; done) | (simp; omega) | (simp only [List.length_append, List.length_cons, List.length_nil]; omega)) (hX213.size) (fun u227 w228 ho229 hp230 hg231 hw232 => ?_))
 have hm246 := la1 atsB (rootM nsB bsB (gs.getD j5 []))
 refine qD rfl (zC (v := u227) rfl) (qe (yO (zA (zE ?_))))
 refine qD rfl (zB (v := (.int .i64 (j5 : Int))) rfl) (qD rfl (yT rfl rfl (by omega)) (qD rfl (zC (v := (.int .i64 ((j5 : Int) + 1))) rfl) (qe (yR (⟨_, ?_, _, rfl, _, j5 + 1, u227, atsB ++ ([rootM nsB bsB (gs.getD j5 [])]), u175, v176, (addM nsB bsB (gs.getD j5 [])).2.1, (addM nsB bsB (gs.getD j5 [])).2.2, G177, (zF (x := 9) (zF (x := 7) (zF (x := 6) (zF (x := 5) (zF (x := 4) (yF (x := 1) rfl) rfl) rfl) rfl) rfl) rfl), rfl, (hX213.write hp230 hg231 ((yQ ho214))), (dH hlek146 hx180.le), (by omega), hrk.ok, (by rw [take_map (by omega)]; exact (hgsB.px hrk.px hokB hrk.ok).snoc hrk.pl hrk.pd), (by have h8 := hrk.len; have h9 := hgd.2.2; omega), (hgsL.px hrk.px hokB hrk.ok), ho229, (ho216.keptA hg231 ha189.symm), (ho217.keptA hg231 ha190.symm), (ho215.keptA hg231 ha158.symm), (hb218.keptA hg231 ha159.symm), (hb219.keptA hg231 ha160.symm), (zJ ha189.symm hw232 ho216.lt).symm, (zJ ha190.symm hw232 ho217.lt).symm, (zJ ha158.symm hw232 ho215.lt).symm, (zN ha159.symm hw232 hb218.lt).symm, (zN ha160.symm hw232 hb219.lt).symm, ha204, ha193.symm, ha197.symm, ha202.symm, ha194.symm, ha198.symm, ha203.symm, hlo205, hlo206⟩)))))
 omega
 refine wp_exit (yK (yU (yV (zA (zD (zE ?_))))))
 have hj5n : j5 = gs.length := by omega
 have hgsR : GsOk (bkq nsB bsB) atsB (gs.map gOf) := by rw [hj5n, List.take_length] at hgsB; exact hgsB
 have hl1 := hgsL.len
 have hl2 := hgsR.len
 rw [List.length_map] at hl1 hl2
 have hpt := bk_put (xs := atsA) (ys := atsB) hokB (by omega) ⟨by omega, by omega⟩ hgsL.pl hgsR.pl
 have hpd := hpt.pd
 rw [hgsL.eq, hgsR.eq] at hpd
 refine qD rfl (zB (v := (.pointer (some ⟨b9, 0, none⟩))) rfl) (qD rfl (zB (v := (.pointer (some ⟨b9, 0, none⟩))) rfl) (qD rfl (zB (v := atA) rfl) (qD rfl (zB (v := atB) rfl) ?_)))
 obtain ⟨G247, hle250, hX249, hr248, hf251⟩ := hw153.sealed hX149
 obtain ⟨G257, hle260, hX259, hr258, hf261⟩ := (hw150.moreO hle250 hf251 ha158).sealed hX249
 refine qI rfl (zK (vs := [(.pointer (some ⟨b9, 0, none⟩)), atA, atB]) Tryz.func78 nm78 rfl rfl rfl ?_)
 refine dJ (put_spec hX259.pins ⟨((hw155.moreO hf251 ha59.symm).moreO hf261 ha160.symm), ((hw151.moreO hle250 hf251 ha162).moreO hle260 hf261 ha156.symm), ((hw152.moreO hle250 hf251 ha165).moreO hle260 hf261 ha157.symm), ha164.symm, ha167.symm, ha161⟩ hokB.ar.ok (hr248.mono hle260) hr258 ⟨by omega, by omega⟩ (gB hgsL.pl) (gB hgsR.pl)) ?_
 rintro _ w269 ⟨u266, v267, G268, rfl, hbk270, hx271, hlu272, hlv273⟩
 refine ⟨_, rfl, ?_⟩
 have hin276 : ∀ i, inS b9 uB vB i → w.heap.size ≤ i ∨ noS i := kU (zS hlo18) hlo168 hlo169
 have hX277 := hX259.trans hx271 hin276
 have hn278 := notS (u := uB) (v := vB) ha17.symm ha163.symm ha166.symm
 have ho279 := ((hw154.moreO hf251 ha58.symm).moreO hf261 ha159.symm).extS hx271 (notSb hn278)
 have hb282 := hbk270.bx
 have hlo288 := xZ hlu272 hin276 hX259.size
 have hlo289 := xZ hlv273 hin276 hX259.size
 refine qI rfl (zK (vs := [(.pointer (some ⟨b9, 0, none⟩)), (.int .i64 (putK nsB bsB atsA atsB))]) Tryz.func79 nm79 rfl rfl rfl ?_)
 refine dJ (form_own hX277.pins ⟨hb282, hbk270.ou, hbk270.ov, hbk270.abu, hbk270.abv, hbk270.auv⟩ hpt.ok.ar.ok hpt.pl) ?_
 rintro _ w292 ⟨u290, G291, rfl, hr293, hx294, hfr295⟩
 refine ⟨_, rfl, ?_⟩
 have hlb296 : b1 < w269.heap.size := ho279.lt
 have hlb297 : b9 < w269.heap.size := hb282.lt
 have hX298 := hX277.tr hx294
 refine q0 rfl rfl rfl (yD (cs' := [u290]) (us := [u290]) (v := (.agg [u290].toArray)) sz26 rfl rfl rfl (yE hr293.one) hX298.pins (ho279.ext hx294) (dK rfl) rfl (fun w303 hb304 hp305 hg306 hz307 => ?_))
 have hgi312 : ∃ Gi, Own eNode 65 Gi w303 w269.heap.size u290 (formM (putN nsB bsB atsA atsB) (putB nsB bsB atsA atsB) (putK nsB bsB atsA atsB).toNat) ∧ Pin.le Gi G291 := let ⟨Gi, a, b⟩ := hfr295; ⟨Gi, a.keptA hg306 (fun k hk1 hk2 => by cases hk2; have := (a.lt _ hk1).1; omega), b⟩
 refine qe (zA ?_)
 refine wp_ret (zQ (qJ (cs := [u290]) rfl rfl rfl ag26 sz26 (fun j u hj => by rw [Nat.zero_add]; exact hb304.cell hj) ?_))
 have hfe : mkGm fs gs = _ := hpd.symm
 obtain ⟨Gi, hoi, hli⟩ := hgi312
 exact ⟨_, _, rfl, (by rw [hfe, ← eJ hpt.ok hpt.pl]; exact hr293), (hX298.write hp305 hg306 ((zS hlo8))), (by rw [hfe, ← eJ hpt.ok hpt.pl]; exact ⟨Gi, hoi.weaken hX277.size, hli⟩)⟩
end MK1
end Go.Proofs.YtajkbplgbikgdaaGreatDoor
