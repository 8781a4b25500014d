/- Texts of this claim in one file: NF1, SM1, LM1. -/
import Derived.Test.YtpknebplcmgnkaaGreatDoorMf6
import Derived.Test.YtpknebplcmgnkaaGreatDoorChecked
set_option maxRecDepth 20000
set_option maxHeartbeats 2000000
namespace Go.Proofs.YtpknebplcmgnkaaGreatDoor
namespace NF1
open Go.RowKit Go.GL Go.Proofs
open Go.Proofs.YtpknebplcmgnkaaGreatDoor.B1
open Go.Proofs.YtpknebplcmgnkaaGreatDoor.C1
open Go.Proofs.YtpknebplcmgnkaaGreatDoor.D1
open Go.Proofs.YtpknebplcmgnkaaGreatDoor.E1
open Go.Proofs.YtpknebplcmgnkaaGreatDoor.K1
open Go.Proofs.YtpknebplcmgnkaaGreatDoor.PO1
open Go.Proofs.YtpknebplcmgnkaaGreatDoor.PL1
open Go.Proofs.YtpknebplcmgnkaaGreatDoor.PA1
open Go.Proofs.YtpknebplcmgnkaaGreatDoor.SO1
open Go.Proofs.YtpknebplcmgnkaaGreatDoor.OD1
open Go.Proofs.YtpknebplcmgnkaaGreatDoor.FO1
open Go.Proofs.YtpknebplcmgnkaaGreatDoor.NG1










theorem pl106 : (Tryz.prog.underlying 106).bind (placesD Tryz.prog) = some [(0, 1), (1, 1)] := by kernel_rfl






theorem l5Neg_spec {w : World} {G : Pin} {v : Value} {fs : List Nd} (hP : Pins G w) (hv : RSl eNode G v fs) (hf : FormOk fs) (h1 : 1 ≤ fs.length ∧ fs.length ≤ 524288) :
  Calls Tryz.prog 77 [(.agg [v].toArray)].toArray w fun e w' => ∃ (u : Value) (G' : Pin), e = .returned (.agg [u].toArray) ∧ RSl eNode G' u (formG (negG (gOf fs))) ∧ Ext noS G w G' w' := by
 refine yB (n := 45) Tryz.func77 Tryz.ntmps77 rfl rfl ?_
 have hX0 : Ext noS G w G w := Ext.refl hP
 have hm := hv.max
 have hfl := hf.len
 refine zF (zG ?_)
 refine qI rfl (xO [v] (v := (.agg [v].toArray)) rfl rfl hX0.pins (fun b1 w2 hk3 hb4 hp5 hl6 => ?_))
 have hX7 := hX0.step hp5 hl6
 have hlo8 : w.heap.size ≤ b1 := by have := hX0.size; omega
 obtain ⟨G9, hle10, hX11, hbp12, hf13⟩ := hb4.shut hX7 hlo8
 refine qI rfl (xB [(.slice none 0 0)] zr32 rfl hX11.pins (fun b14 w15 hk16 hb17 hp18 hl19 => ?_))
 have hX20 := hX11.step hp18 hl19
 have hlo21 : w.heap.size ≤ b14 := by have := hX11.size; omega
 refine qe (zA (zF (zG ?_)))
 refine qD rfl (xU [(.slice none 0 0), (.slice none 0 0)] [(.slice none 0 0), (.slice none 0 0)] [] Tryz.underlying106 zr106 rfl pl106 rfl (fun _ h => by cases h) rfl) ?_
 refine qI rfl (xO [(.slice none 0 0), (.slice none 0 0)] (v := (.agg [(.slice none 0 0), (.slice none 0 0)].toArray)) rfl rfl hX20.pins (fun b22 w23 hk24 hb25 hp26 hl27 => ?_))
 have hX28 := hX20.step hp26 hl27
 have hb29 := hb17.below hl27
 have ha30 : Apart (some b22) (some b14) := zP (congrArg some hk24) hb17.lt
 have hlo31 : w.heap.size ≤ b22 := by have := hX20.size; omega
 refine qD rfl (zC (v := (.pointer (some ⟨b22, 0, none⟩))) rfl) ?_
 refine qe (zA (zF (zG ?_)))
 refine qI rfl (xH (E := eInt) (e := 3) Tryz.underlying67 sz3 hX28.pins (fun u32 w33 ho34 hp35 hl36 hk37 => ?_))
 have hX38 := hX28.step hp35 hl36
 have hb39 := hb29.below hl36
 have hb40 := hb25.below hl36
 have ha41 : Apart u32.ownBlock (some b14) := zP hk37 hb29.lt
 have ha42 : Apart u32.ownBlock (some b22) := zP hk37 hb25.lt
 have ho43 : Own eInt 3 G9 w33 w.heap.size u32 ([]) := ho34.weaken hX28.size
 refine qD rfl (zC (v := u32) rfl) ?_
 refine qe (zA (zF (zF (zG ?_))))
 refine qD rfl (zC (v := (.int .i64 0)) rfl) ?_
 refine qe (zA ?_)
 refine zY ?_
 refine yN (fun (k : Nat) (en : Nat → Value) (W : World) => ∃ (env1 : Nat → Value) (k5 : Nat) (at_ : Value) (ats : List Int) (u2 : Value) (v2 : Value) (ns2 : List Nd) (bs2 : List Int) (GL1 : Pin), en = (upd (upd (upd (upd (upd env1 1 (.pointer (some ⟨b1, 0, none⟩))) 2 (.pointer (some ⟨b14, 0, none⟩))) 3 (.pointer (some ⟨b22, 0, none⟩))) 4 at_) 5 (.int .i64 (k5 : Int))) ∧ k = fs.length - k5 ∧ Ext noS G w GL1 W ∧ Pin.le G9 GL1 ∧ (k5 ≤ fs.length) ∧ (PoolOk (bkq ns2 bs2)) ∧ (NkOk (bkq ns2 bs2) ats k5 (fun i => negG (den fs i))) ∧ (ns2.length ≤ k5) ∧ (Own eInt 3 GL1 W w.heap.size at_ (ats)) ∧ (Own eNode 103 GL1 W 0 u2 (ns2)) ∧ (Own eInt 3 GL1 W 0 v2 (bs2)) ∧ (Bx GL1 W b14 [(.slice none 0 0)]) ∧ (Bx GL1 W b22 [u2, v2]) ∧ (Apart at_.ownBlock u2.ownBlock) ∧ (Apart at_.ownBlock v2.ownBlock) ∧ (Apart at_.ownBlock (some b14)) ∧ (Apart at_.ownBlock (some b22)) ∧ (Apart u2.ownBlock v2.ownBlock) ∧ (Apart u2.ownBlock (some b14)) ∧ (Apart u2.ownBlock (some b22)) ∧ (Apart v2.ownBlock (some b14)) ∧ (Apart v2.ownBlock (some b22)) ∧ (Lo w noS u2.ownBlock) ∧ (Lo w noS v2.ownBlock)) _ ⟨_, 0, u32, [], (.slice none 0 0), (.slice none 0 0), [], [], G9, (zD (x := 5) (zD (x := 4) (zD (x := 3) (zD (x := 2) (zU (x := 1) rfl) rfl) rfl) rfl) rfl), rfl, hX38, Pin.le_refl _, Nat.zero_le _, (bkq_ok Ar.empty), NkOk.start, Nat.le_refl 0, ho43, (Own.nil _ _ _ _ _), (Own.nil _ _ _ _ _), hb39, hb40, apart_none.symm, apart_none.symm, ha41, ha42, apart_none, apart_none, apart_none, apart_none, apart_none, (lo_none _ _), (lo_none _ _)⟩ ?_
 rintro k44 _ w45 ⟨env1, k5, at_, ats, u2, v2, ns2, bs2, GL1, rfl, hk46, hX47, hlek44, hk5, hokb, hnk, hbl, hw48, hw49, hw50, hw51, hw52, ha53, ha54, ha55, ha56, ha57, ha58, ha59, ha60, ha61, hlo62, hlo63⟩
 have hnl := hnk.len
 refine zF (zF (zG ?_))
 refine qD rfl (zB (v := (.int .i64 (k5 : Int))) rfl) ?_
 refine qD rfl (zR (k := 0) rfl Tryz.underlying32 rfl nz30 rfl) ?_
 refine qD rfl (zS (u := v) ag30 rfl ((Pins.of_le hX47.pins hlek44) _ _ _ (hbp12 0 _ rfl))) ?_
 refine qD rfl (zN Tryz.underlying30 (v := v) rfl hv) ?_
 refine qD rfl (yR rfl rfl) ?_
 refine qe (zA ?_)
 refine yD (p := ((k5 : Int) : Int) < (fs.length : Int)) rfl rfl (fun h64 => ?_) (fun h64 => ?_)
 ·skip
  have oo := xD hf.opts (show k5 < fs.length by omega)
  have hfe := hf.lens k5 (by omega)
  have hol := hnk.opts oo.1
  have hor := hnk.opts oo.2
  have hil : ∀ i, i < (fs.getD k5 default).l.length → 0 ≤ (fs.getD k5 default).l.getD i 0 ∧ (fs.getD k5 default).l.getD i 0 < ats.length := fun i hi => by have h := oo.1 _ (yT (d := (0 : Int)) hi); omega
  have hir : ∀ i, i < (fs.getD k5 default).r.length → 0 ≤ (fs.getD k5 default).r.getD i 0 ∧ (fs.getD k5 default).r.getD i 0 < ats.length := fun i hi => by have h := oo.2 _ (yT (d := (0 : Int)) hi); omega
  have hpt := bk_put (xs := atL ats (fs.getD k5 default).r) (ys := atL ats (fs.getD k5 default).l) hokb (by omega) ⟨by rw [xC]; omega, by rw [xC]; omega⟩ hor.1 hol.1
  refine wp_skip ?_
  refine zA (zF ?_)
  refine zY ?_
  refine xI (S := fun wz => Pins GL1 wz) (last := 22) (by kernel_rfl) rfl ?_
  have hl65 : Below w45.heap.size w45 w45.drew := (Below.refl _ _).drew
  have hp66 := hX47.pins.below hl65
  have hX67 := hX47.step hp66 hl65
  have ho68 := hw48.below hl65
  have ho69 := hw49.below hl65
  have ho70 := hw50.below hl65
  have hb71 := hw51.below hl65
  have hb72 := hw52.below hl65
  refine dT (i := 0) rfl rfl (by kernel_rfl) (fun _ _ => zB (v := at_) rfl) hX67.pins ?_
  refine dT (i := 1) rfl rfl (by kernel_rfl) (fun _ _ => zB (v := (.pointer (some ⟨b22, 0, none⟩))) rfl) hX67.pins ?_
  refine dT (i := 2) rfl rfl (by kernel_rfl) (fun _ _ => zB (v := at_) rfl) hX67.pins ?_
  refine dT (i := 3) rfl rfl (by kernel_rfl) (fun _ _ => zR (k := 0) rfl Tryz.underlying32 rfl nz30 rfl) hX67.pins ?_
  refine dT (i := 4) rfl rfl (by kernel_rfl) (fun _ hS => zS (u := v) ag30 rfl ((Pins.of_le hS hlek44) _ _ _ (hbp12 0 _ rfl))) hX67.pins ?_
  refine dT (i := 5) rfl rfl (by kernel_rfl) (fun _ _ => zB (v := (.int .i64 (k5 : Int))) rfl) hX67.pins ?_
  refine dT (i := 6) rfl rfl (by kernel_rfl) (fun _ _ => zL Tryz.underlying30 yQ (v := v) rfl rfl hv (by omega) (by omega)) hX67.pins ?_
  refine dT (i := 7) rfl rfl (by kernel_rfl) (fun _ _ => xE (off := 1) Tryz.underlying103 rfl rfl nz67 (z := (k5 : Int)) (k := 0) rfl hv (by omega) (by omega)) hX67.pins ?_
  obtain ⟨u73, hr74, hl75⟩ := nm_nr (hv.at (z := (k5 : Int)) (by omega) (by omega)) (j := k5) rfl
  have hm76 := hr74.max
  refine dT (i := 8) rfl rfl (by kernel_rfl) (fun _ hS => hl75 ag67 rfl (Pins.of_le hS (Pin.le_trans hle10 hlek44))) hX67.pins ?_
  refine dT (i := 10) rfl rfl (by kernel_rfl) (fun _ _ => zB (v := at_) rfl) hX67.pins ?_
  refine dT (i := 11) rfl rfl (by kernel_rfl) (fun _ _ => zR (k := 0) rfl Tryz.underlying32 rfl nz30 rfl) hX67.pins ?_
  refine dT (i := 12) rfl rfl (by kernel_rfl) (fun _ hS => zS (u := v) ag30 rfl ((Pins.of_le hS hlek44) _ _ _ (hbp12 0 _ rfl))) hX67.pins ?_
  refine dT (i := 13) rfl rfl (by kernel_rfl) (fun _ _ => zB (v := (.int .i64 (k5 : Int))) rfl) hX67.pins ?_
  refine dT (i := 14) rfl rfl (by kernel_rfl) (fun _ _ => zL Tryz.underlying30 yQ (v := v) rfl rfl hv (by omega) (by omega)) hX67.pins ?_
  refine dT (i := 15) rfl rfl (by kernel_rfl) (fun _ _ => xE (off := 0) Tryz.underlying103 rfl rfl nz67 (z := (k5 : Int)) (k := 0) rfl hv (by omega) (by omega)) hX67.pins ?_
  obtain ⟨u77, hr78, hl79⟩ := nm_nl (hv.at (z := (k5 : Int)) (by omega) (by omega)) (j := k5) rfl
  have hm80 := hr78.max
  refine dT (i := 16) rfl rfl (by kernel_rfl) (fun _ hS => hl79 ag67 rfl (Pins.of_le hS (Pin.le_trans hle10 hlek44))) hX67.pins ?_
  refine zQ (i := 9) (by kernel_rfl) (zW (i := 9) rfl rfl rfl (zH rfl _) (zM (vs := [at_, u73]) Tryz.func106 nm106 rfl rfl rfl ?_))
  refine Calls.mono (qL hX67.pins (Gadd.pins hX67.pins at_) ho68.read (hr74.mono (Pin.le_trans hle10 hlek44)) (by omega) hir) ?_
  rintro _ w83 ⟨u81, G82, rfl, ho84, hx85⟩
  refine ⟨_, rfl, ?_⟩
  have hX86 := hX67.tr hx85
  have ho87 := ho68.ext hx85
  have ho88 := ho69.ext hx85
  have ho89 := ho70.ext hx85
  have hb90 := hb71.ext hx85
  have hb91 := hb72.ext hx85
  have ha92 : Apart u81.ownBlock at_.ownBlock := zV ho84.lt ho68.lt
  have ha93 : Apart u81.ownBlock u2.ownBlock := zV ho84.lt ho69.lt
  have ha94 : Apart u81.ownBlock v2.ownBlock := zV ho84.lt ho70.lt
  have ha95 : Apart u81.ownBlock (some b14) := yC ho84.lt hb71.lt
  have ha96 : Apart u81.ownBlock (some b22) := yC ho84.lt hb72.lt
  have ho97 : Own eInt 3 G82 w83 w.heap.size u81 (atL ats ((fs.getD k5 default).r)) := ho84.weaken hX67.size
  refine ⟨fun _ => (Pins.of_le hX86.pins hx85.le), ?_⟩
  refine zQ (i := 17) (by kernel_rfl) (zW (i := 17) rfl rfl rfl (zH rfl _) (zM (vs := [at_, u77]) Tryz.func106 nm106 rfl rfl rfl ?_))
  refine Calls.mono (qL hX86.pins (Gadd.pins hX86.pins at_) ho87.read (hr78.mono (Pin.le_trans (Pin.le_trans hle10 hlek44) hx85.le)) (by omega) hil) ?_
  rintro _ w100 ⟨u98, G99, rfl, ho101, hx102⟩
  refine ⟨_, rfl, ?_⟩
  have hX103 := hX86.tr hx102
  have ho104 := ho87.ext hx102
  have ho105 := ho88.ext hx102
  have ho106 := ho89.ext hx102
  have ho107 := ho97.ext hx102
  have hb108 := hb90.ext hx102
  have hb109 := hb91.ext hx102
  have ha110 : Apart u98.ownBlock at_.ownBlock := zV ho101.lt ho87.lt
  have ha111 : Apart u98.ownBlock u2.ownBlock := zV ho101.lt ho88.lt
  have ha112 : Apart u98.ownBlock v2.ownBlock := zV ho101.lt ho89.lt
  have ha113 : Apart u98.ownBlock u81.ownBlock := zV ho101.lt ho97.lt
  have ha114 : Apart u98.ownBlock (some b14) := yC ho101.lt hb90.lt
  have ha115 : Apart u98.ownBlock (some b22) := yC ho101.lt hb91.lt
  have ho116 : Own eInt 3 G99 w100 w.heap.size u98 (atL ats ((fs.getD k5 default).l)) := ho101.weaken hX86.size
  refine ⟨fun _ => (Pins.of_le hX103.pins (Pin.le_trans hx85.le hx102.le)), ?_⟩
  obtain ⟨G117, hle120, hX119, hr118, hf121⟩ := ho107.sealed hX103
  have ho122 := ho104.moreO hle120 hf121 ha92.symm
  have ho123 := ho105.moreO hle120 hf121 ha93.symm
  have ho124 := ho106.moreO hle120 hf121 ha94.symm
  have ho125 := ho116.moreO hle120 hf121 ha113
  have hb126 := hb108.moreO hf121 ha95.symm
  have hb127 := hb109.moreO hf121 ha96.symm
  obtain ⟨G128, hle131, hX130, hr129, hf132⟩ := ho125.sealed hX119
  have ho133 := ho122.moreO hle131 hf132 ha110.symm
  have ho134 := ho123.moreO hle131 hf132 ha111.symm
  have ho135 := ho124.moreO hle131 hf132 ha112.symm
  have hb136 := hb126.moreO hf132 ha114.symm
  have hb137 := hb127.moreO hf132 ha115.symm
  refine zQ (i := 18) (by kernel_rfl) (zW (i := 18) rfl rfl rfl (zH rfl _) (zM (vs := [(.pointer (some ⟨b22, 0, none⟩)), u81, u98]) Tryz.func115 nm115 rfl rfl rfl ?_))
  refine Calls.mono (put_spec hX130.pins ⟨hb137, ho134, ho135, ha59.symm, ha61.symm, ha57⟩ hokb.ar.ok (hr118.mono hle131) hr129 ⟨by rw [xC]; omega, by rw [xC]; omega⟩ (qK hor.1) (qK hol.1)) ?_
  rintro _ w141 ⟨u138, v139, G140, rfl, hbk142, hx143, hlu144, hlv145⟩
  refine ⟨_, rfl, ?_⟩
  have hin148 : ∀ i, inS b22 u2 v2 i → w.heap.size ≤ i ∨ noS i := inS_lo (yW hlo31) hlo62 hlo63
  have hX149 := hX130.trans hx143 hin148
  have hn150 := notS (u := u2) (v := v2) ha56 ha53 ha54
  have ho151 := ho133.extS hx143 hn150
  have ha152 : Apart at_.ownBlock u138.ownBlock := ap_call hlu144 hn150 (xZ ho133)
  have ha153 : Apart at_.ownBlock v139.ownBlock := ap_call hlv145 hn150 (xZ ho133)
  have hn154 := notS (u := u2) (v := v2) ha30.symm ha58.symm ha60.symm
  have ho155 := hb136.extS hx143 (notSb hn154)
  have ha156 : Apart (some b14) u138.ownBlock := ap_call hlu144 hn154 (box_lt hb136)
  have ha157 : Apart (some b14) v139.ownBlock := ap_call hlv145 hn154 (box_lt hb136)
  have hb158 := hbk142.bx
  have ho159 := hbk142.ou
  have ho160 := hbk142.ov
  have ha161 := hbk142.abu
  have ha162 := hbk142.abv
  have ha163 := hbk142.auv
  have hlo164 := lo_call hlu144 hin148 hX130.size
  have hlo165 := lo_call hlv145 hin148 hX130.size
  refine ⟨fun _ => (Pins.of_le hX149.pins (Pin.le_trans (Pin.le_trans (Pin.le_trans (Pin.le_trans hx85.le hx102.le) hle120) hle131) hx143.le)), ?_⟩
  refine zQ (i := 19) (by kernel_rfl) (zW (i := 19) rfl rfl rfl (zH rfl _) (xA (E := eInt) (e := 3) [(.int .i64 (putK ns2 bs2 (atL ats ((fs.getD k5 default).r)) (atL ats ((fs.getD k5 default).l))))] [putK ns2 bs2 (atL ats ((fs.getD k5 default).r)) (atL ats ((fs.getD k5 default).l))] Tryz.underlying67 sz3 zr3 (by exact xT (by rfl)) (yZ (by rfl)) rfl rfl rfl rfl (by decide) hX149.pins (fun u166 w167 ho168 hp169 hl170 hk171 => ?_)))
  have hX172 := hX149.step hp169 hl170
  have ho173 := ho151.below hl170
  have ho174 := ho159.below hl170
  have ho175 := ho160.below hl170
  have hb176 := ho155.below hl170
  have hb177 := hb158.below hl170
  have ho183 : Own eInt 3 G140 w167 w.heap.size u166 ([putK ns2 bs2 (atL ats ((fs.getD k5 default).r)) (atL ats ((fs.getD k5 default).l))]) := ho168.weaken hX149.size
  refine ⟨fun _ => (Pins.of_le hX172.pins (Pin.le_trans (Pin.le_trans (Pin.le_trans (Pin.le_trans hx85.le hx102.le) hle120) hle131) hx143.le)), ?_⟩
  refine zQ (i := 20) (by kernel_rfl) (zW (i := 20) rfl rfl rfl (zH rfl _) (zZ (E := eInt) (v := at_) (u := u166) 8 Tryz.underlying67 ap3 (by decide) rfl rfl hX172.pins ho173 ho183.src (by first | omega | (rw [List.nil_append]; omega) | (rw [List.length_nil]; omega) | (rw [List.length_append]; omega) | (simp; done) | (simp; omega) | (simp only [List.length_append, List.length_cons, List.length_nil]; omega)) (by first | omega | (rw [List.nil_append]; omega) | (rw [List.length_nil]; omega) | (rw [List.length_append]; omega) | (simp; done) | (simp; omega) | (simp only [List.length_append, List.length_cons, List.length_nil]; omega)) (hX172.size) (fun u184 w185 ho186 hp187 hg188 hw189 => ?_)))
  have hX190 := hX172.write hp187 hg188 ((yF ho173))
  have ho191 := ho174.keptA hg188 ha152.symm
  have ho192 := ho175.keptA hg188 ha153.symm
  have hb194 := hb176.keptA hg188 ha55.symm
  have hb195 := hb177.keptA hg188 ha56.symm
  have ha196 : Apart u138.ownBlock u184.ownBlock := zI ha152.symm hw189 ho174.lt
  have ha197 : Apart v139.ownBlock u184.ownBlock := zI ha153.symm hw189 ho175.lt
  have ha199 : Apart (some b14) u184.ownBlock := zO ha55.symm hw189 hb176.lt
  have ha200 : Apart (some b22) u184.ownBlock := zO ha56.symm hw189 hb177.lt
  have hm201 : (ats ++ ([putK ns2 bs2 (atL ats ((fs.getD k5 default).r)) (atL ats ((fs.getD k5 default).l))])).length = ats.length + 1 := List.length_append
  refine ⟨fun _ => (Pins.of_le hX190.pins (Pin.le_trans (Pin.le_trans (Pin.le_trans (Pin.le_trans hx85.le hx102.le) hle120) hle131) hx143.le)), ?_⟩
  refine dT (i := 21) rfl rfl (by kernel_rfl) (fun _ _ => zC (v := u184) rfl) (Pins.of_le hX190.pins (Pin.le_trans (Pin.le_trans (Pin.le_trans (Pin.le_trans hx85.le hx102.le) hle120) hle131) hx143.le)) ?_
  refine yU (by kernel_rfl) ?_
  refine yJ ?_
  refine zA (zG ?_)
  refine qD rfl (zB (v := (.int .i64 (k5 : Int))) rfl) ?_
  refine qD rfl (yS rfl rfl (by omega)) ?_
  refine qD rfl (zC (v := (.int .i64 ((k5 : Int) + 1))) rfl) ?_
  refine qe ?_
  refine yI ?_
  refine ⟨_, ?_, _, rfl, _, k5 + 1, u184, ats ++ ([putK ns2 bs2 (atL ats ((fs.getD k5 default).r)) (atL ats ((fs.getD k5 default).l))]), u138, v139, putN ns2 bs2 (atL ats ((fs.getD k5 default).r)) (atL ats ((fs.getD k5 default).l)), putB ns2 bs2 (atL ats ((fs.getD k5 default).r)) (atL ats ((fs.getD k5 default).l)), G140, (zD (x := 5) (zD (x := 4) (zD (x := 3) (zD (x := 2) (zU (x := 1) rfl) rfl) rfl) rfl) rfl), rfl, hX190, (Pin.le_trans (Pin.le_trans (Pin.le_trans (Pin.le_trans (Pin.le_trans hlek44 hx85.le) hx102.le) hle120) hle131) hx143.le), (by omega), hpt.ok, (hnk.snoc hpt.px hokb hpt.ok hpt.pl (hpt.pd.trans (by rw [hor.2, hol.2]; exact neg_den hf.opts (by omega)))), (by have := hpt.len; omega), ho186, ho191, ho192, hb194, hb195, ha196.symm, ha197.symm, ha199.symm, ha200.symm, ha163, ha156.symm, ha161.symm, ha157.symm, ha162.symm, hlo164, hlo165⟩
  omega
 refine wp_exit ?_
 refine yA ?_
 refine yL ?_
 refine yK ?_
 refine zA (zF (zG ?_))
 have hkn : k5 = fs.length := by omega
 have hrt := hnk.at_ (i := fs.length - 1) (by omega)
 rw [show fs.length - 1 = ((ats.length : Int) - 1).toNat by omega] at hrt
 have hgo : negG (den fs ((ats.length : Int) - 1).toNat) = negG (gOf fs) := by unfold gOf; rw [show ((ats.length : Int) - 1).toNat = fs.length - 1 by omega]
 rw [hgo] at hrt
 refine qD rfl (zB (v := (.pointer (some ⟨b22, 0, none⟩))) rfl) ?_
 refine qD rfl (zB (v := at_) rfl) ?_
 refine qD rfl (zB (v := at_) rfl) ?_
 refine qD rfl (zN Tryz.underlying67 (v := at_) rfl hw48.read) ?_
 refine qD rfl (qV rfl rfl (by omega)) ?_
 refine qD rfl (zL Tryz.underlying67 sz3 (v := at_) rfl rfl hw48.read (by omega) (by omega)) ?_
 refine qD rfl (zJ (r := ats.getD ((ats.length : Int) - 1).toNat 0) rfl ag3 (z := ((ats.length : Int) - 1)) rfl hw48.read (Gadd.pins hX47.pins at_) (by omega) (by omega)) ?_
 refine qI rfl (zM (vs := [(.pointer (some ⟨b22, 0, none⟩)), (.int .i64 (ats.getD ((ats.length : Int) - 1).toNat 0))]) Tryz.func91 nm91 rfl rfl rfl ?_)
 refine Calls.mono (form_spec hX47.pins ⟨hw52, hw49, hw50, ha59.symm, ha61.symm, ha57⟩ hokb.ar.ok hrt.1) ?_
 rintro _ w204 ⟨u202, G203, rfl, hr205, hx206⟩
 refine ⟨_, rfl, ?_⟩
 have hX207 := hX47.tr hx206
 have hb211 := hw51.ext hx206
 refine q0 rfl rfl rfl (xF (cs' := [u202]) (us := [u202]) (v := (.agg [u202].toArray)) sz32 rfl rfl rfl (yZ hr205.one) hX207.pins hb211 (Nat.le_of_ble_eq_true rfl) rfl (fun w213 hb214 hp215 hg216 hz217 => ?_))
 have hX218 := hX207.write hp215 hg216 ((yW hlo21))
 refine qe (zA ?_)
 refine wp_ret ?_
 refine zX ?_
 refine c_retc (cs := [u202]) rfl rfl rfl ag32 sz32 (fun j u hj => by rw [Nat.zero_add]; exact hb214.cell hj) ?_
 exact ⟨_, _, rfl, (by rw [← hrt.2, ← book_form hokb hrt.1]; exact hr205), hX218⟩

end NF1
end Go.Proofs.YtpknebplcmgnkaaGreatDoor

set_option maxRecDepth 20000
set_option maxHeartbeats 2000000
namespace Go.Proofs.YtpknebplcmgnkaaGreatDoor
namespace SM1
open Go.RowKit Go.GL Go.Proofs
open Go.Proofs.YtpknebplcmgnkaaGreatDoor.B1
open Go.Proofs.YtpknebplcmgnkaaGreatDoor.C1
open Go.Proofs.YtpknebplcmgnkaaGreatDoor.D1
open Go.Proofs.YtpknebplcmgnkaaGreatDoor.E1
open Go.Proofs.YtpknebplcmgnkaaGreatDoor.K1
open Go.Proofs.YtpknebplcmgnkaaGreatDoor.PO1
open Go.Proofs.YtpknebplcmgnkaaGreatDoor.PL1
open Go.Proofs.YtpknebplcmgnkaaGreatDoor.PA1
open Go.Proofs.YtpknebplcmgnkaaGreatDoor.SO1
open Go.Proofs.YtpknebplcmgnkaaGreatDoor.OD1
open Go.Proofs.YtpknebplcmgnkaaGreatDoor.FO1
open Go.Proofs.YtpknebplcmgnkaaGreatDoor.NG1
open Go.Proofs.YtpknebplcmgnkaaGreatDoor.NF1






















theorem pl106 : (Tryz.prog.underlying 106).bind (placesD Tryz.prog) = some [(0, 1), (1, 1)] := by kernel_rfl
theorem pl32 : (Tryz.prog.underlying 32).bind (placesD Tryz.prog) = some [(0, 1)] := by kernel_rfl






theorem l5Sum_spec {w : World} {G : Pin} {u v : Value} {fs gs : List Nd} (hP : Pins G w) (hu : RSl eNode G u fs) (hv : RSl eNode G v gs) (hf : FormOk fs) (hg : FormOk gs) (h1 : 1 ≤ fs.length ∧ 1 ≤ gs.length) (hs : fs.length * gs.length ≤ 524288) (hfl : ∀ k, k < fs.length → (fs.getD k default).l.length ≤ 1000 ∧ (fs.getD k default).r.length ≤ 1000) (hgl : ∀ k, k < gs.length → (gs.getD k default).l.length ≤ 1000 ∧ (gs.getD k default).r.length ≤ 1000) :
  Calls Tryz.prog 84 [(.agg [u].toArray), (.agg [v].toArray)].toArray w fun e w' => ∃ (u : Value) (G' : Pin), e = .returned (.agg [u].toArray) ∧ RSl eNode G' u (formG (addG (gOf fs) (gOf gs))) ∧ Ext noS G w G' w' := by
 refine yB (n := 171) Tryz.func84 Tryz.ntmps84 rfl rfl ?_
 have hX0 : Ext noS G w G w := Ext.refl hP
 have hmu := hu.max
 have hmv := hv.max
 have hfle := hf.len
 have hgle := hg.len
 refine zF (zG ?_)
 refine qI rfl (xO [u] (v := (.agg [u].toArray)) rfl rfl hX0.pins (fun b1 w2 hk3 hb4 hp5 hl6 => ?_))
 have hX7 := hX0.step hp5 hl6
 have hlo8 : w.heap.size ≤ b1 := by have := hX0.size; omega
 obtain ⟨G9, hle10, hX11, hbp12, hf13⟩ := hb4.shut hX7 hlo8
 refine qI rfl (xO [v] (v := (.agg [v].toArray)) rfl rfl hX11.pins (fun b14 w15 hk16 hb17 hp18 hl19 => ?_))
 have hX20 := hX11.step hp18 hl19
 have hlo21 : w.heap.size ≤ b14 := by have := hX11.size; omega
 obtain ⟨G22, hle23, hX24, hbp25, hf26⟩ := hb17.shut hX20 hlo21
 refine qI rfl (xB [(.slice none 0 0)] zr32 rfl hX24.pins (fun b27 w28 hk29 hb30 hp31 hl32 => ?_))
 have hX33 := hX24.step hp31 hl32
 have hlo34 : w.heap.size ≤ b27 := by have := hX24.size; omega
 refine qe (zA (zF (zG ?_)))
 refine qD rfl (xU [(.slice none 0 0), (.slice none 0 0)] [(.slice none 0 0), (.slice none 0 0)] [] Tryz.underlying106 zr106 rfl pl106 rfl (fun _ h => by cases h) rfl) ?_
 refine qI rfl (xO [(.slice none 0 0), (.slice none 0 0)] (v := (.agg [(.slice none 0 0), (.slice none 0 0)].toArray)) rfl rfl hX33.pins (fun b35 w36 hk37 hb38 hp39 hl40 => ?_))
 have hX41 := hX33.step hp39 hl40
 have hb42 := hb30.below hl40
 have ha43 : Apart (some b35) (some b27) := zP (congrArg some hk37) hb30.lt
 have hlo44 : w.heap.size ≤ b35 := by have := hX33.size; omega
 refine qD rfl (zC (v := (.pointer (some ⟨b35, 0, none⟩))) rfl) ?_
 refine qe (zA (zF (zG ?_)))
 refine qD rfl (zR (k := 0) rfl Tryz.underlying32 rfl nz30 rfl) ?_
 refine qD rfl (zS (u := v) ag30 rfl (hX41.pins _ _ _ (hbp25 0 _ rfl))) ?_
 refine qD rfl (zN Tryz.underlying30 (v := v) rfl hv) ?_
 refine qD rfl (zC (v := (.int .i64 (gs.length : Int))) rfl) ?_
 refine qe (zA (zF (zG ?_)))
 refine qI rfl (xH (E := eInt) (e := 3) Tryz.underlying67 sz3 hX41.pins (fun u45 w46 ho47 hp48 hl49 hk50 => ?_))
 have hX51 := hX41.step hp48 hl49
 have hb52 := hb42.below hl49
 have hb53 := hb38.below hl49
 have ha54 : Apart u45.ownBlock (some b27) := zP hk50 hb42.lt
 have ha55 : Apart u45.ownBlock (some b35) := zP hk50 hb38.lt
 have ho56 : Own eInt 3 G22 w46 w.heap.size u45 ([]) := ho47.weaken hX41.size
 refine qD rfl (zC (v := u45) rfl) ?_
 refine qe (zA (zF (zF (zG ?_))))
 refine qD rfl (zC (v := (.int .i64 0)) rfl) ?_
 refine qe (zA ?_)
 refine zY ?_
 refine yN (fun (k : Nat) (en : Nat → Value) (W : World) => ∃ (env1 : Nat → Value) (i5 : Nat) (atA : Value) (atsA : List Int) (uA : Value) (vA : Value) (nsA : List Nd) (bsA : List Int) (GA : Pin), en = (upd (upd (upd (upd (upd (upd (upd env1 2 (.pointer (some ⟨b1, 0, none⟩))) 3 (.pointer (some ⟨b14, 0, none⟩))) 4 (.pointer (some ⟨b27, 0, none⟩))) 5 (.pointer (some ⟨b35, 0, none⟩))) 6 (.int .i64 (gs.length : Int))) 7 atA) 8 (.int .i64 (i5 : Int))) ∧ k = fs.length - i5 ∧ Ext noS G w GA W ∧ Pin.le G22 GA ∧ (i5 ≤ fs.length) ∧ (PoolOk (bkq nsA bsA)) ∧ (NkOk (bkq nsA bsA) atsA (i5 * gs.length) (sumPhi fs gs)) ∧ (nsA.length ≤ i5 * gs.length) ∧ (Own eInt 3 GA W w.heap.size atA (atsA)) ∧ (Own eNode 103 GA W 0 uA (nsA)) ∧ (Own eInt 3 GA W 0 vA (bsA)) ∧ (Bx GA W b27 [(.slice none 0 0)]) ∧ (Bx GA W b35 [uA, vA]) ∧ (Apart atA.ownBlock uA.ownBlock) ∧ (Apart atA.ownBlock vA.ownBlock) ∧ (Apart atA.ownBlock (some b27)) ∧ (Apart atA.ownBlock (some b35)) ∧ (Apart uA.ownBlock vA.ownBlock) ∧ (Apart uA.ownBlock (some b27)) ∧ (Apart uA.ownBlock (some b35)) ∧ (Apart vA.ownBlock (some b27)) ∧ (Apart vA.ownBlock (some b35)) ∧ (Lo w noS uA.ownBlock) ∧ (Lo w noS vA.ownBlock)) _ ⟨_, 0, u45, [], (.slice none 0 0), (.slice none 0 0), [], [], G22, (zD (x := 8) (zD (x := 7) (zD (x := 6) (zD (x := 5) (zD (x := 4) (zD (x := 3) (zU (x := 2) rfl) rfl) rfl) rfl) rfl) rfl) rfl), rfl, hX51, Pin.le_refl _, Nat.zero_le _, (bkq_ok Ar.empty), (by rw [Nat.zero_mul]; exact NkOk.start), (by simp), ho56, (Own.nil _ _ _ _ _), (Own.nil _ _ _ _ _), hb52, hb53, apart_none.symm, apart_none.symm, ha54, ha55, apart_none, apart_none, apart_none, apart_none, apart_none, (lo_none _ _), (lo_none _ _)⟩ ?_
 rintro k57 _ w58 ⟨env1, i5, atA, atsA, uA, vA, nsA, bsA, GA, rfl, hk59, hX60, hlek57, hi5, hokA, hnkA, hblA, hw61, hw62, hw63, hw64, hw65, ha66, ha67, ha68, ha69, ha70, ha71, ha72, ha73, ha74, hlo75, hlo76⟩
 have hnlA := hnkA.len
 refine zF (zF (zG ?_))
 refine qD rfl (zB (v := (.int .i64 (i5 : Int))) rfl) ?_
 refine qD rfl (zR (k := 0) rfl Tryz.underlying32 rfl nz30 rfl) ?_
 refine qD rfl (zS (u := u) ag30 rfl ((Pins.of_le hX60.pins (Pin.le_trans hle23 hlek57)) _ _ _ (hbp12 0 _ rfl))) ?_
 refine qD rfl (zN Tryz.underlying30 (v := u) rfl hu) ?_
 refine qD rfl (yR rfl rfl) ?_
 refine qe (zA ?_)
 refine yD (p := ((i5 : Int) : Int) < (fs.length : Int)) rfl rfl (fun h77 => ?_) (fun h77 => ?_)
 ·skip
  have hmi : i5 * gs.length + gs.length ≤ 524288 := by have h9 := Nat.mul_le_mul_right gs.length (show i5 + 1 ≤ fs.length by omega); rw [Nat.add_mul, Nat.one_mul] at h9; omega
  have hci : ((i5 * gs.length : Nat) : Int) = (i5 : Int) * (gs.length : Int) := Int.natCast_mul ..
  have oo := xD hf.opts (show i5 < fs.length by omega)
  have hfe := hf.lens i5 (by omega)
  have hfe2 := hfl i5 (by omega)
  refine wp_skip ?_
  refine zA (zF ?_)
  refine zY ?_
  refine zF (zG ?_)
  refine qD rfl (zC (v := (.int .i64 0)) rfl) ?_
  refine qe (zA ?_)
  refine zY ?_
  refine yN (fun (k : Nat) (en : Nat → Value) (W : World) => ∃ (env1 : Nat → Value) (j5 : Nat) (atB : Value) (atsB : List Int) (uB : Value) (vB : Value) (nsB : List Nd) (bsB : List Int) (GB : Pin), en = (upd (upd (upd (upd (upd (upd (upd (upd env1 2 (.pointer (some ⟨b1, 0, none⟩))) 3 (.pointer (some ⟨b14, 0, none⟩))) 4 (.pointer (some ⟨b27, 0, none⟩))) 5 (.pointer (some ⟨b35, 0, none⟩))) 6 (.int .i64 (gs.length : Int))) 7 atB) 8 (.int .i64 (i5 : Int))) 9 (.int .i64 (j5 : Int))) ∧ k = gs.length - j5 ∧ Ext noS G w GB W ∧ Pin.le GA GB ∧ (j5 ≤ gs.length) ∧ (PoolOk (bkq nsB bsB)) ∧ (NkOk (bkq nsB bsB) atsB (i5 * gs.length + j5) (sumPhi fs gs)) ∧ (nsB.length ≤ i5 * gs.length + j5) ∧ (Own eInt 3 GB W w.heap.size atB (atsB)) ∧ (Own eNode 103 GB W 0 uB (nsB)) ∧ (Own eInt 3 GB W 0 vB (bsB)) ∧ (Bx GB W b27 [(.slice none 0 0)]) ∧ (Bx GB W b35 [uB, vB]) ∧ (Apart atB.ownBlock uB.ownBlock) ∧ (Apart atB.ownBlock vB.ownBlock) ∧ (Apart atB.ownBlock (some b27)) ∧ (Apart atB.ownBlock (some b35)) ∧ (Apart uB.ownBlock vB.ownBlock) ∧ (Apart uB.ownBlock (some b27)) ∧ (Apart uB.ownBlock (some b35)) ∧ (Apart vB.ownBlock (some b27)) ∧ (Apart vB.ownBlock (some b35)) ∧ (Lo w noS uB.ownBlock) ∧ (Lo w noS vB.ownBlock)) _ ⟨_, 0, atA, atsA, uA, vA, nsA, bsA, GA, (zD (x := 9) (zD (x := 8) (zD (x := 7) (zD (x := 6) (zD (x := 5) (zD (x := 4) (zD (x := 3) (zU (x := 2) rfl) rfl) rfl) rfl) rfl) rfl) rfl) rfl), rfl, hX60, Pin.le_refl _, Nat.zero_le _, hokA, hnkA, hblA, hw61, hw62, hw63, hw64, hw65, ha66, ha67, ha68, ha69, ha70, ha71, ha72, ha73, ha74, hlo75, hlo76⟩ ?_
  rintro k78 _ w79 ⟨env1, j5, atB, atsB, uB, vB, nsB, bsB, GB, rfl, hk80, hX81, hlek78, hj5, hokB, hnkB, hblB, hw82, hw83, hw84, hw85, hw86, ha87, ha88, ha89, ha90, ha91, ha92, ha93, ha94, ha95, hlo96, hlo97⟩
  have hnlB := hnkB.len
  refine zF (zF (zG ?_))
  refine qD rfl (zB (v := (.int .i64 (j5 : Int))) rfl) ?_
  refine qD rfl (zB (v := (.int .i64 (gs.length : Int))) rfl) ?_
  refine qD rfl (yR rfl rfl) ?_
  refine qe (zA ?_)
  refine yD (p := ((j5 : Int) : Int) < (gs.length : Int)) rfl rfl (fun h98 => ?_) (fun h98 => ?_)
  ·skip
   have og := xD hg.opts (show j5 < gs.length by omega)
   have hge := hg.lens j5 (by omega)
   have hge2 := hgl j5 (by omega)
   refine wp_skip ?_
   refine zA (zF ?_)
   refine zY ?_
   refine zF (zG ?_)
   refine qI rfl (xH (E := eInt) (e := 3) Tryz.underlying67 sz3 hX81.pins (fun u99 w100 ho101 hp102 hl103 hk104 => ?_))
   have hX105 := hX81.step hp102 hl103
   have ho106 := hw82.below hl103
   have ho107 := hw83.below hl103
   have ho108 := hw84.below hl103
   have hb109 := hw85.below hl103
   have hb110 := hw86.below hl103
   have ha111 : Apart u99.ownBlock atB.ownBlock := zK hk104 hw82.lt
   have ha112 : Apart u99.ownBlock uB.ownBlock := zK hk104 hw83.lt
   have ha113 : Apart u99.ownBlock vB.ownBlock := zK hk104 hw84.lt
   have ha114 : Apart u99.ownBlock (some b27) := zP hk104 hw85.lt
   have ha115 : Apart u99.ownBlock (some b35) := zP hk104 hw86.lt
   have ho116 : Own eInt 3 GB w100 w.heap.size u99 ([]) := ho101.weaken hX81.size
   refine qI rfl (xH (E := eInt) (e := 3) Tryz.underlying67 sz3 hX105.pins (fun u117 w118 ho119 hp120 hl121 hk122 => ?_))
   have hX123 := hX105.step hp120 hl121
   have ho124 := ho106.below hl121
   have ho125 := ho107.below hl121
   have ho126 := ho108.below hl121
   have ho127 := ho116.below hl121
   have hb128 := hb109.below hl121
   have hb129 := hb110.below hl121
   have ha130 : Apart u117.ownBlock atB.ownBlock := zK hk122 ho106.lt
   have ha131 : Apart u117.ownBlock uB.ownBlock := zK hk122 ho107.lt
   have ha132 : Apart u117.ownBlock vB.ownBlock := zK hk122 ho108.lt
   have ha133 : Apart u117.ownBlock u99.ownBlock := zK hk122 ho116.lt
   have ha134 : Apart u117.ownBlock (some b27) := zP hk122 hb109.lt
   have ha135 : Apart u117.ownBlock (some b35) := zP hk122 hb110.lt
   have ho136 : Own eInt 3 GB w118 w.heap.size u117 ([]) := ho119.weaken hX105.size
   refine qD rfl (zC (v := u99) rfl) ?_
   refine qD rfl (zC (v := u117) rfl) ?_
   refine qe (zA (zF (zF (zG ?_))))
   refine qD rfl (zC (v := (.int .i64 0)) rfl) ?_
   refine qe (zA ?_)
   refine zY ?_
   refine yN (fun (k : Nat) (en : Nat → Value) (W : World) => ∃ (env1 : Nat → Value) (q3 : Nat) (lv3 : Value) (l3 : List Int) (GL3 : Pin), en = (upd (upd (upd (upd (upd (upd (upd (upd (upd (upd (upd env1 2 (.pointer (some ⟨b1, 0, none⟩))) 3 (.pointer (some ⟨b14, 0, none⟩))) 4 (.pointer (some ⟨b27, 0, none⟩))) 5 (.pointer (some ⟨b35, 0, none⟩))) 6 (.int .i64 (gs.length : Int))) 7 atB) 8 (.int .i64 (i5 : Int))) 9 (.int .i64 (j5 : Int))) 10 lv3) 11 u117) 12 (.int .i64 (q3 : Int))) ∧ k = (fs.getD i5 default).l.length - q3 ∧ Ext noS G w GL3 W ∧ Pin.le GB GL3 ∧ (q3 ≤ (fs.getD i5 default).l.length) ∧ (l3 = atL atsB (((fs.getD i5 default).l.take q3).map (fun o => o * (gs.length : Int) + (j5 : Int)))) ∧ (l3.length = q3) ∧ (Own eInt 3 GL3 W w.heap.size lv3 (l3)) ∧ (Own eInt 3 GL3 W w.heap.size atB (atsB)) ∧ (Own eNode 103 GL3 W 0 uB (nsB)) ∧ (Own eInt 3 GL3 W 0 vB (bsB)) ∧ (Own eInt 3 GL3 W w.heap.size u117 ([])) ∧ (Bx GL3 W b27 [(.slice none 0 0)]) ∧ (Bx GL3 W b35 [uB, vB]) ∧ (Apart lv3.ownBlock atB.ownBlock) ∧ (Apart lv3.ownBlock uB.ownBlock) ∧ (Apart lv3.ownBlock vB.ownBlock) ∧ (Apart lv3.ownBlock u117.ownBlock) ∧ (Apart lv3.ownBlock (some b27)) ∧ (Apart lv3.ownBlock (some b35))) _ ⟨_, 0, u99, [], GB, (zD (x := 12) (zD (x := 11) (zD (x := 10) (zD (x := 9) (zD (x := 8) (zD (x := 7) (zD (x := 6) (zD (x := 5) (zD (x := 4) (zD (x := 3) (zU (x := 2) rfl) rfl) rfl) rfl) rfl) rfl) rfl) rfl) rfl) rfl) rfl), rfl, hX123, Pin.le_refl _, Nat.zero_le _, (by simp [atL]), rfl, ho127, ho124, ho125, ho126, ho136, hb128, hb129, ha111, ha112, ha113, ha133.symm, ha114, ha115⟩ ?_
   rintro k137 _ w138 ⟨env1, q3, lv3, l3, GL3, rfl, hk139, hX140, hlek137, hk3, heq3, hll3, hw141, hw142, hw143, hw144, hw145, hw146, hw147, ha148, ha149, ha150, ha151, ha152, ha153⟩
   refine zF (zF (zG ?_))
   refine qD rfl (zB (v := (.int .i64 (q3 : Int))) rfl) ?_
   refine qD rfl (zR (k := 0) rfl Tryz.underlying32 rfl nz30 rfl) ?_
   refine qD rfl (zS (u := u) ag30 rfl ((Pins.of_le hX140.pins (Pin.le_trans (Pin.le_trans (Pin.le_trans hle23 hlek57) hlek78) hlek137)) _ _ _ (hbp12 0 _ rfl))) ?_
   refine qD rfl (zB (v := (.int .i64 (i5 : Int))) rfl) ?_
   refine qD rfl (zL Tryz.underlying30 yQ (v := u) rfl rfl hu (by omega) (by omega)) ?_
   refine qD rfl (xE (off := 0) Tryz.underlying103 rfl rfl nz67 (z := (i5 : Int)) (k := 0) rfl hu (by omega) (by omega)) ?_
   obtain ⟨u154, hr155, hl156⟩ := nm_nl (hu.at (z := (i5 : Int)) (by omega) (by omega)) (j := i5) rfl
   have hm157 := hr155.max
   refine qD rfl (hl156 ag67 rfl (Pins.of_le hX140.pins (Pin.le_trans (Pin.le_trans (Pin.le_trans (Pin.le_trans hle10 hle23) hlek57) hlek78) hlek137))) ?_
   refine qD rfl (zN Tryz.underlying67 (v := u154) rfl hr155) ?_
   refine qD rfl (yR rfl rfl) ?_
   refine qe (zA ?_)
   refine yD (p := ((q3 : Int) : Int) < (((fs.getD i5 default).l).length : Int)) rfl rfl (fun h158 => ?_) (fun h158 => ?_)
   ·skip
    have hq3 := oo.1 _ (yT (d := (0 : Int)) (show q3 < (fs.getD i5 default).l.length by omega))
    have hmm3 := mul_at (n := (gs.length : Int)) hq3.1 hq3.2 (by omega)
    refine wp_skip ?_
    refine zA (zF ?_)
    refine zY ?_
    refine zG ?_
    refine qD rfl (zB (v := lv3) rfl) ?_
    refine qD rfl (zB (v := atB) rfl) ?_
    refine qD rfl (zR (k := 0) rfl Tryz.underlying32 rfl nz30 rfl) ?_
    refine qD rfl (zS (u := u) ag30 rfl ((Pins.of_le hX140.pins (Pin.le_trans (Pin.le_trans (Pin.le_trans hle23 hlek57) hlek78) hlek137)) _ _ _ (hbp12 0 _ rfl))) ?_
    refine qD rfl (zB (v := (.int .i64 (i5 : Int))) rfl) ?_
    refine qD rfl (zL Tryz.underlying30 yQ (v := u) rfl rfl hu (by omega) (by omega)) ?_
    refine qD rfl (xE (off := 0) Tryz.underlying103 rfl rfl nz67 (z := (i5 : Int)) (k := 0) rfl hu (by omega) (by omega)) ?_
    obtain ⟨u159, hr160, hl161⟩ := nm_nl (hu.at (z := (i5 : Int)) (by omega) (by omega)) (j := i5) rfl
    have hm162 := hr160.max
    refine qD rfl (hl161 ag67 rfl (Pins.of_le hX140.pins (Pin.le_trans (Pin.le_trans (Pin.le_trans (Pin.le_trans hle10 hle23) hlek57) hlek78) hlek137))) ?_
    refine qD rfl (zB (v := (.int .i64 (q3 : Int))) rfl) ?_
    refine qD rfl (zL Tryz.underlying67 sz3 (v := u159) rfl rfl hr160 (by omega) (by omega)) ?_
    refine qD rfl (zJ (r := ((fs.getD i5 default).l).getD q3 0) rfl ag3 (z := (q3 : Int)) rfl hr160 (Pins.of_le hX140.pins (Pin.le_trans (Pin.le_trans (Pin.le_trans (Pin.le_trans hle10 hle23) hlek57) hlek78) hlek137)) (by omega) (by omega)) ?_
    refine qD rfl (zB (v := (.int .i64 (gs.length : Int))) rfl) ?_
    refine qD rfl (r_mul rfl rfl (by omega)) ?_
    refine qD rfl (zB (v := (.int .i64 (j5 : Int))) rfl) ?_
    refine qD rfl (yS rfl rfl (by omega)) ?_
    refine qD rfl (zL Tryz.underlying67 sz3 (v := atB) rfl rfl hw142.read (by omega) (by omega)) ?_
    refine qD rfl (zJ (r := atsB.getD (((((fs.getD i5 default).l).getD q3 0) * (gs.length : Int)) + (j5 : Int)).toNat 0) rfl ag3 (z := (((((fs.getD i5 default).l).getD q3 0) * (gs.length : Int)) + (j5 : Int))) rfl hw142.read (Gadd.pins hX140.pins atB) (by omega) (by omega)) ?_
    refine qI rfl (xA (E := eInt) (e := 3) [(.int .i64 (atsB.getD (((((fs.getD i5 default).l).getD q3 0) * (gs.length : Int)) + (j5 : Int)).toNat 0))] [atsB.getD (((((fs.getD i5 default).l).getD q3 0) * (gs.length : Int)) + (j5 : Int)).toNat 0] Tryz.underlying67 sz3 zr3 (by exact xT (by rfl)) (yZ (by rfl)) rfl rfl rfl rfl (by decide) hX140.pins (fun u163 w164 ho165 hp166 hl167 hk168 => ?_))
    have hX169 := hX140.step hp166 hl167
    have ho170 := hw141.below hl167
    have ho171 := hw142.below hl167
    have ho172 := hw143.below hl167
    have ho173 := hw144.below hl167
    have ho174 := hw145.below hl167
    have hb175 := hw146.below hl167
    have hb176 := hw147.below hl167
    have ho184 : Own eInt 3 GL3 w164 w.heap.size u163 ([atsB.getD (((((fs.getD i5 default).l).getD q3 0) * (gs.length : Int)) + (j5 : Int)).toNat 0]) := ho165.weaken hX140.size
    refine qI rfl (zZ (E := eInt) (v := lv3) (u := u163) 8 Tryz.underlying67 ap3 (by decide) rfl rfl hX169.pins ho170 ho184.src (by first | omega | (rw [List.nil_append]; omega) | (rw [List.length_nil]; omega) | (rw [List.length_append]; omega) | (simp; done) | (simp; omega) | (simp only [List.length_append, List.length_cons, List.length_nil]; omega)) (by first | omega | (rw [List.nil_append]; omega) | (rw [List.length_nil]; omega) | (rw [List.length_append]; omega) | (simp; done) | (simp; omega) | (simp only [List.length_append, List.length_cons, List.length_nil]; omega)) (hX169.size) (fun u185 w186 ho187 hp188 hg189 hw190 => ?_))
    have hX191 := hX169.write hp188 hg189 ((yF ho170))
    have ho192 := ho171.keptA hg189 ha148.symm
    have ho193 := ho172.keptA hg189 ha149.symm
    have ho194 := ho173.keptA hg189 ha150.symm
    have ho195 := ho174.keptA hg189 ha151.symm
    have hb197 := hb175.keptA hg189 ha152.symm
    have hb198 := hb176.keptA hg189 ha153.symm
    have ha199 : Apart atB.ownBlock u185.ownBlock := zI ha148.symm hw190 ho171.lt
    have ha200 : Apart uB.ownBlock u185.ownBlock := zI ha149.symm hw190 ho172.lt
    have ha201 : Apart vB.ownBlock u185.ownBlock := zI ha150.symm hw190 ho173.lt
    have ha202 : Apart u117.ownBlock u185.ownBlock := zI ha151.symm hw190 ho174.lt
    have ha204 : Apart (some b27) u185.ownBlock := zO ha152.symm hw190 hb175.lt
    have ha205 : Apart (some b35) u185.ownBlock := zO ha153.symm hw190 hb176.lt
    have hm206 : (l3 ++ ([atsB.getD (((((fs.getD i5 default).l).getD q3 0) * (gs.length : Int)) + (j5 : Int)).toNat 0])).length = l3.length + 1 := List.length_append
    refine qD rfl (zC (v := u185) rfl) ?_
    refine qe ?_
    refine yJ ?_
    refine zA (zG ?_)
    refine qD rfl (zB (v := (.int .i64 (q3 : Int))) rfl) ?_
    refine qD rfl (yS rfl rfl (by omega)) ?_
    refine qD rfl (zC (v := (.int .i64 ((q3 : Int) + 1))) rfl) ?_
    refine qe ?_
    refine yI ?_
    refine ⟨_, ?_, _, rfl, _, q3 + 1, u185, l3 ++ ([atsB.getD (((((fs.getD i5 default).l).getD q3 0) * (gs.length : Int)) + (j5 : Int)).toNat 0]), GL3, (zD (x := 12) (zD (x := 11) (zD (x := 10) (zD (x := 9) (zD (x := 8) (zD (x := 7) (zD (x := 6) (zD (x := 5) (zD (x := 4) (zD (x := 3) (zU (x := 2) rfl) rfl) rfl) rfl) rfl) rfl) rfl) rfl) rfl) rfl) rfl), rfl, hX191, hlek137, (by omega), (by rw [heq3]; exact (ix_next (f := (fun o => o * (gs.length : Int) + (j5 : Int))) ([]) (by omega)).symm), (by rw [List.length_append, hll3]; rfl), ho187, ho192, ho193, ho194, ho195, hb197, hb198, ha199.symm, ha200.symm, ha201.symm, ha202.symm, ha204.symm, ha205.symm⟩
    omega
   refine wp_exit ?_
   refine yA ?_
   refine yL ?_
   refine yK ?_
   refine zA (zF (zF (zG ?_)))
   refine qD rfl (zC (v := (.int .i64 0)) rfl) ?_
   refine qe (zA ?_)
   refine zY ?_
   refine yN (fun (k : Nat) (en : Nat → Value) (W : World) => ∃ (env1 : Nat → Value) (q4 : Nat) (lv4 : Value) (l4 : List Int) (GL4 : Pin), en = (upd (upd (upd (upd (upd (upd (upd (upd (upd (upd (upd env1 2 (.pointer (some ⟨b1, 0, none⟩))) 3 (.pointer (some ⟨b14, 0, none⟩))) 4 (.pointer (some ⟨b27, 0, none⟩))) 5 (.pointer (some ⟨b35, 0, none⟩))) 6 (.int .i64 (gs.length : Int))) 7 atB) 8 (.int .i64 (i5 : Int))) 9 (.int .i64 (j5 : Int))) 10 lv4) 11 u117) 13 (.int .i64 (q4 : Int))) ∧ k = (gs.getD j5 default).l.length - q4 ∧ Ext noS G w GL4 W ∧ Pin.le GL3 GL4 ∧ (q4 ≤ (gs.getD j5 default).l.length) ∧ (l4 = atL atsB ((fs.getD i5 default).l.map (fun o => o * (gs.length : Int) + (j5 : Int))) ++ atL atsB (((gs.getD j5 default).l.take q4).map (fun o => (i5 : Int) * (gs.length : Int) + o))) ∧ (l4.length = (fs.getD i5 default).l.length + q4) ∧ (Own eInt 3 GL4 W w.heap.size lv4 (l4)) ∧ (Own eInt 3 GL4 W w.heap.size atB (atsB)) ∧ (Own eNode 103 GL4 W 0 uB (nsB)) ∧ (Own eInt 3 GL4 W 0 vB (bsB)) ∧ (Own eInt 3 GL4 W w.heap.size u117 ([])) ∧ (Bx GL4 W b27 [(.slice none 0 0)]) ∧ (Bx GL4 W b35 [uB, vB]) ∧ (Apart lv4.ownBlock atB.ownBlock) ∧ (Apart lv4.ownBlock uB.ownBlock) ∧ (Apart lv4.ownBlock vB.ownBlock) ∧ (Apart lv4.ownBlock u117.ownBlock) ∧ (Apart lv4.ownBlock (some b27)) ∧ (Apart lv4.ownBlock (some b35))) _ ⟨_, 0, lv3, l3, GL3, (zD (x := 13) (zD (x := 11) (zD (x := 10) (zD (x := 9) (zD (x := 8) (zD (x := 7) (zD (x := 6) (zD (x := 5) (zD (x := 4) (zD (x := 3) (zU (x := 2) rfl) rfl) rfl) rfl) rfl) rfl) rfl) rfl) rfl) rfl) rfl), rfl, hX140, Pin.le_refl _, Nat.zero_le _, (by rw [heq3, xY (by omega)]; simp [atL]), (by rw [hll3]; omega), hw141, hw142, hw143, hw144, hw145, hw146, hw147, ha148, ha149, ha150, ha151, ha152, ha153⟩ ?_
   rintro k207 _ w208 ⟨env1, q4, lv4, l4, GL4, rfl, hk209, hX210, hlek207, hk4, heq4, hll4, hw211, hw212, hw213, hw214, hw215, hw216, hw217, ha218, ha219, ha220, ha221, ha222, ha223⟩
   refine zF (zF (zG ?_))
   refine qD rfl (zB (v := (.int .i64 (q4 : Int))) rfl) ?_
   refine qD rfl (zR (k := 0) rfl Tryz.underlying32 rfl nz30 rfl) ?_
   refine qD rfl (zS (u := v) ag30 rfl ((Pins.of_le hX210.pins (Pin.le_trans (Pin.le_trans (Pin.le_trans hlek57 hlek78) hlek137) hlek207)) _ _ _ (hbp25 0 _ rfl))) ?_
   refine qD rfl (zB (v := (.int .i64 (j5 : Int))) rfl) ?_
   refine qD rfl (zL Tryz.underlying30 yQ (v := v) rfl rfl hv (by omega) (by omega)) ?_
   refine qD rfl (xE (off := 0) Tryz.underlying103 rfl rfl nz67 (z := (j5 : Int)) (k := 0) rfl hv (by omega) (by omega)) ?_
   obtain ⟨u224, hr225, hl226⟩ := nm_nl (hv.at (z := (j5 : Int)) (by omega) (by omega)) (j := j5) rfl
   have hm227 := hr225.max
   refine qD rfl (hl226 ag67 rfl (Pins.of_le hX210.pins (Pin.le_trans (Pin.le_trans (Pin.le_trans (Pin.le_trans (Pin.le_trans hle10 hle23) hlek57) hlek78) hlek137) hlek207))) ?_
   refine qD rfl (zN Tryz.underlying67 (v := u224) rfl hr225) ?_
   refine qD rfl (yR rfl rfl) ?_
   refine qe (zA ?_)
   refine yD (p := ((q4 : Int) : Int) < (((gs.getD j5 default).l).length : Int)) rfl rfl (fun h228 => ?_) (fun h228 => ?_)
   ·skip
    have hq4 := og.1 _ (yT (d := (0 : Int)) (show q4 < (gs.getD j5 default).l.length by omega))
    have hmm4 := Int.mul_nonneg (show (0 : Int) ≤ (i5 : Int) by omega) (show (0 : Int) ≤ (gs.length : Int) by omega)
    refine wp_skip ?_
    refine zA (zF ?_)
    refine zY ?_
    refine zG ?_
    refine qD rfl (zB (v := lv4) rfl) ?_
    refine qD rfl (zB (v := atB) rfl) ?_
    refine qD rfl (zB (v := (.int .i64 (i5 : Int))) rfl) ?_
    refine qD rfl (zB (v := (.int .i64 (gs.length : Int))) rfl) ?_
    refine qD rfl (r_mul rfl rfl (by omega)) ?_
    refine qD rfl (zR (k := 0) rfl Tryz.underlying32 rfl nz30 rfl) ?_
    refine qD rfl (zS (u := v) ag30 rfl ((Pins.of_le hX210.pins (Pin.le_trans (Pin.le_trans (Pin.le_trans hlek57 hlek78) hlek137) hlek207)) _ _ _ (hbp25 0 _ rfl))) ?_
    refine qD rfl (zB (v := (.int .i64 (j5 : Int))) rfl) ?_
    refine qD rfl (zL Tryz.underlying30 yQ (v := v) rfl rfl hv (by omega) (by omega)) ?_
    refine qD rfl (xE (off := 0) Tryz.underlying103 rfl rfl nz67 (z := (j5 : Int)) (k := 0) rfl hv (by omega) (by omega)) ?_
    obtain ⟨u229, hr230, hl231⟩ := nm_nl (hv.at (z := (j5 : Int)) (by omega) (by omega)) (j := j5) rfl
    have hm232 := hr230.max
    refine qD rfl (hl231 ag67 rfl (Pins.of_le hX210.pins (Pin.le_trans (Pin.le_trans (Pin.le_trans (Pin.le_trans (Pin.le_trans hle10 hle23) hlek57) hlek78) hlek137) hlek207))) ?_
    refine qD rfl (zB (v := (.int .i64 (q4 : Int))) rfl) ?_
    refine qD rfl (zL Tryz.underlying67 sz3 (v := u229) rfl rfl hr230 (by omega) (by omega)) ?_
    refine qD rfl (zJ (r := ((gs.getD j5 default).l).getD q4 0) rfl ag3 (z := (q4 : Int)) rfl hr230 (Pins.of_le hX210.pins (Pin.le_trans (Pin.le_trans (Pin.le_trans (Pin.le_trans (Pin.le_trans hle10 hle23) hlek57) hlek78) hlek137) hlek207)) (by omega) (by omega)) ?_
    refine qD rfl (yS rfl rfl (by omega)) ?_
    refine qD rfl (zL Tryz.underlying67 sz3 (v := atB) rfl rfl hw212.read (by omega) (by omega)) ?_
    refine qD rfl (zJ (r := atsB.getD (((i5 : Int) * (gs.length : Int)) + (((gs.getD j5 default).l).getD q4 0)).toNat 0) rfl ag3 (z := (((i5 : Int) * (gs.length : Int)) + (((gs.getD j5 default).l).getD q4 0))) rfl hw212.read (Gadd.pins hX210.pins atB) (by omega) (by omega)) ?_
    refine qI rfl (xA (E := eInt) (e := 3) [(.int .i64 (atsB.getD (((i5 : Int) * (gs.length : Int)) + (((gs.getD j5 default).l).getD q4 0)).toNat 0))] [atsB.getD (((i5 : Int) * (gs.length : Int)) + (((gs.getD j5 default).l).getD q4 0)).toNat 0] Tryz.underlying67 sz3 zr3 (by exact xT (by rfl)) (yZ (by rfl)) rfl rfl rfl rfl (by decide) hX210.pins (fun u233 w234 ho235 hp236 hl237 hk238 => ?_))
    have hX239 := hX210.step hp236 hl237
    have ho240 := hw211.below hl237
    have ho241 := hw212.below hl237
    have ho242 := hw213.below hl237
    have ho243 := hw214.below hl237
    have ho244 := hw215.below hl237
    have hb245 := hw216.below hl237
    have hb246 := hw217.below hl237
    have ho254 : Own eInt 3 GL4 w234 w.heap.size u233 ([atsB.getD (((i5 : Int) * (gs.length : Int)) + (((gs.getD j5 default).l).getD q4 0)).toNat 0]) := ho235.weaken hX210.size
    refine qI rfl (zZ (E := eInt) (v := lv4) (u := u233) 8 Tryz.underlying67 ap3 (by decide) rfl rfl hX239.pins ho240 ho254.src (by first | omega | (rw [List.nil_append]; omega) | (rw [List.length_nil]; omega) | (rw [List.length_append]; omega) | (simp; done) | (simp; omega) | (simp only [List.length_append, List.length_cons, List.length_nil]; omega)) (by first | omega | (rw [List.nil_append]; omega) | (rw [List.length_nil]; omega) | (rw [List.length_append]; omega) | (simp; done) | (simp; omega) | (simp only [List.length_append, List.length_cons, List.length_nil]; omega)) (hX239.size) (fun u255 w256 ho257 hp258 hg259 hw260 => ?_))
    have hX261 := hX239.write hp258 hg259 ((yF ho240))
    have ho262 := ho241.keptA hg259 ha218.symm
    have ho263 := ho242.keptA hg259 ha219.symm
    have ho264 := ho243.keptA hg259 ha220.symm
    have ho265 := ho244.keptA hg259 ha221.symm
    have hb267 := hb245.keptA hg259 ha222.symm
    have hb268 := hb246.keptA hg259 ha223.symm
    have ha269 : Apart atB.ownBlock u255.ownBlock := zI ha218.symm hw260 ho241.lt
    have ha270 : Apart uB.ownBlock u255.ownBlock := zI ha219.symm hw260 ho242.lt
    have ha271 : Apart vB.ownBlock u255.ownBlock := zI ha220.symm hw260 ho243.lt
    have ha272 : Apart u117.ownBlock u255.ownBlock := zI ha221.symm hw260 ho244.lt
    have ha274 : Apart (some b27) u255.ownBlock := zO ha222.symm hw260 hb245.lt
    have ha275 : Apart (some b35) u255.ownBlock := zO ha223.symm hw260 hb246.lt
    have hm276 : (l4 ++ ([atsB.getD (((i5 : Int) * (gs.length : Int)) + (((gs.getD j5 default).l).getD q4 0)).toNat 0])).length = l4.length + 1 := List.length_append
    refine qD rfl (zC (v := u255) rfl) ?_
    refine qe ?_
    refine yJ ?_
    refine zA (zG ?_)
    refine qD rfl (zB (v := (.int .i64 (q4 : Int))) rfl) ?_
    refine qD rfl (yS rfl rfl (by omega)) ?_
    refine qD rfl (zC (v := (.int .i64 ((q4 : Int) + 1))) rfl) ?_
    refine qe ?_
    refine yI ?_
    refine ⟨_, ?_, _, rfl, _, q4 + 1, u255, l4 ++ ([atsB.getD (((i5 : Int) * (gs.length : Int)) + (((gs.getD j5 default).l).getD q4 0)).toNat 0]), GL4, (zD (x := 13) (zD (x := 11) (zD (x := 10) (zD (x := 9) (zD (x := 8) (zD (x := 7) (zD (x := 6) (zD (x := 5) (zD (x := 4) (zD (x := 3) (zU (x := 2) rfl) rfl) rfl) rfl) rfl) rfl) rfl) rfl) rfl) rfl) rfl), rfl, hX261, hlek207, (by omega), (by rw [heq4]; exact (ix_next (f := (fun o => (i5 : Int) * (gs.length : Int) + o)) (atL atsB ((fs.getD i5 default).l.map (fun o => o * (gs.length : Int) + (j5 : Int)))) (by omega)).symm), (by rw [List.length_append, hll4]; simp; omega), ho257, ho262, ho263, ho264, ho265, hb267, hb268, ha269.symm, ha270.symm, ha271.symm, ha272.symm, ha274.symm, ha275.symm⟩
    omega
   refine wp_exit ?_
   refine yA ?_
   refine yL ?_
   refine yK ?_
   refine zA (zF (zF (zG ?_)))
   refine qD rfl (zC (v := (.int .i64 0)) rfl) ?_
   refine qe (zA ?_)
   refine zY ?_
   refine yN (fun (k : Nat) (en : Nat → Value) (W : World) => ∃ (env1 : Nat → Value) (q5 : Nat) (lv5 : Value) (l5 : List Int) (GL5 : Pin), en = (upd (upd (upd (upd (upd (upd (upd (upd (upd (upd (upd env1 2 (.pointer (some ⟨b1, 0, none⟩))) 3 (.pointer (some ⟨b14, 0, none⟩))) 4 (.pointer (some ⟨b27, 0, none⟩))) 5 (.pointer (some ⟨b35, 0, none⟩))) 6 (.int .i64 (gs.length : Int))) 7 atB) 8 (.int .i64 (i5 : Int))) 9 (.int .i64 (j5 : Int))) 10 lv4) 11 lv5) 14 (.int .i64 (q5 : Int))) ∧ k = (fs.getD i5 default).r.length - q5 ∧ Ext noS G w GL5 W ∧ Pin.le GL4 GL5 ∧ (q5 ≤ (fs.getD i5 default).r.length) ∧ (l5 = atL atsB (((fs.getD i5 default).r.take q5).map (fun o => o * (gs.length : Int) + (j5 : Int)))) ∧ (l5.length = q5) ∧ (Own eInt 3 GL5 W w.heap.size lv5 (l5)) ∧ (Own eInt 3 GL5 W w.heap.size lv4 (l4)) ∧ (Own eInt 3 GL5 W w.heap.size atB (atsB)) ∧ (Own eNode 103 GL5 W 0 uB (nsB)) ∧ (Own eInt 3 GL5 W 0 vB (bsB)) ∧ (Bx GL5 W b27 [(.slice none 0 0)]) ∧ (Bx GL5 W b35 [uB, vB]) ∧ (Apart lv5.ownBlock lv4.ownBlock) ∧ (Apart lv5.ownBlock atB.ownBlock) ∧ (Apart lv5.ownBlock uB.ownBlock) ∧ (Apart lv5.ownBlock vB.ownBlock) ∧ (Apart lv5.ownBlock (some b27)) ∧ (Apart lv5.ownBlock (some b35))) _ ⟨_, 0, u117, [], GL4, (zD (x := 14) (zD (x := 11) (zD (x := 10) (zD (x := 9) (zD (x := 8) (zD (x := 7) (zD (x := 6) (zD (x := 5) (zD (x := 4) (zD (x := 3) (zU (x := 2) rfl) rfl) rfl) rfl) rfl) rfl) rfl) rfl) rfl) rfl) rfl), rfl, hX210, Pin.le_refl _, Nat.zero_le _, (by simp [atL]), rfl, hw215, hw211, hw212, hw213, hw214, hw216, hw217, ha221.symm, ha130, ha131, ha132, ha134, ha135⟩ ?_
   rintro k277 _ w278 ⟨env1, q5, lv5, l5, GL5, rfl, hk279, hX280, hlek277, hk5, heq5, hll5, hw281, hw282, hw283, hw284, hw285, hw286, hw287, ha288, ha289, ha290, ha291, ha292, ha293⟩
   refine zF (zF (zG ?_))
   refine qD rfl (zB (v := (.int .i64 (q5 : Int))) rfl) ?_
   refine qD rfl (zR (k := 0) rfl Tryz.underlying32 rfl nz30 rfl) ?_
   refine qD rfl (zS (u := u) ag30 rfl ((Pins.of_le hX280.pins (Pin.le_trans (Pin.le_trans (Pin.le_trans (Pin.le_trans (Pin.le_trans hle23 hlek57) hlek78) hlek137) hlek207) hlek277)) _ _ _ (hbp12 0 _ rfl))) ?_
   refine qD rfl (zB (v := (.int .i64 (i5 : Int))) rfl) ?_
   refine qD rfl (zL Tryz.underlying30 yQ (v := u) rfl rfl hu (by omega) (by omega)) ?_
   refine qD rfl (xE (off := 1) Tryz.underlying103 rfl rfl nz67 (z := (i5 : Int)) (k := 0) rfl hu (by omega) (by omega)) ?_
   obtain ⟨u294, hr295, hl296⟩ := nm_nr (hu.at (z := (i5 : Int)) (by omega) (by omega)) (j := i5) rfl
   have hm297 := hr295.max
   refine qD rfl (hl296 ag67 rfl (Pins.of_le hX280.pins (Pin.le_trans (Pin.le_trans (Pin.le_trans (Pin.le_trans (Pin.le_trans (Pin.le_trans hle10 hle23) hlek57) hlek78) hlek137) hlek207) hlek277))) ?_
   refine qD rfl (zN Tryz.underlying67 (v := u294) rfl hr295) ?_
   refine qD rfl (yR rfl rfl) ?_
   refine qe (zA ?_)
   refine yD (p := ((q5 : Int) : Int) < (((fs.getD i5 default).r).length : Int)) rfl rfl (fun h298 => ?_) (fun h298 => ?_)
   ·skip
    have hq5 := oo.2 _ (yT (d := (0 : Int)) (show q5 < (fs.getD i5 default).r.length by omega))
    have hmm5 := mul_at (n := (gs.length : Int)) hq5.1 hq5.2 (by omega)
    refine wp_skip ?_
    refine zA (zF ?_)
    refine zY ?_
    refine zG ?_
    refine qD rfl (zB (v := lv5) rfl) ?_
    refine qD rfl (zB (v := atB) rfl) ?_
    refine qD rfl (zR (k := 0) rfl Tryz.underlying32 rfl nz30 rfl) ?_
    refine qD rfl (zS (u := u) ag30 rfl ((Pins.of_le hX280.pins (Pin.le_trans (Pin.le_trans (Pin.le_trans (Pin.le_trans (Pin.le_trans hle23 hlek57) hlek78) hlek137) hlek207) hlek277)) _ _ _ (hbp12 0 _ rfl))) ?_
    refine qD rfl (zB (v := (.int .i64 (i5 : Int))) rfl) ?_
    refine qD rfl (zL Tryz.underlying30 yQ (v := u) rfl rfl hu (by omega) (by omega)) ?_
    refine qD rfl (xE (off := 1) Tryz.underlying103 rfl rfl nz67 (z := (i5 : Int)) (k := 0) rfl hu (by omega) (by omega)) ?_
    obtain ⟨u299, hr300, hl301⟩ := nm_nr (hu.at (z := (i5 : Int)) (by omega) (by omega)) (j := i5) rfl
    have hm302 := hr300.max
    refine qD rfl (hl301 ag67 rfl (Pins.of_le hX280.pins (Pin.le_trans (Pin.le_trans (Pin.le_trans (Pin.le_trans (Pin.le_trans (Pin.le_trans hle10 hle23) hlek57) hlek78) hlek137) hlek207) hlek277))) ?_
    refine qD rfl (zB (v := (.int .i64 (q5 : Int))) rfl) ?_
    refine qD rfl (zL Tryz.underlying67 sz3 (v := u299) rfl rfl hr300 (by omega) (by omega)) ?_
    refine qD rfl (zJ (r := ((fs.getD i5 default).r).getD q5 0) rfl ag3 (z := (q5 : Int)) rfl hr300 (Pins.of_le hX280.pins (Pin.le_trans (Pin.le_trans (Pin.le_trans (Pin.le_trans (Pin.le_trans (Pin.le_trans hle10 hle23) hlek57) hlek78) hlek137) hlek207) hlek277)) (by omega) (by omega)) ?_
    refine qD rfl (zB (v := (.int .i64 (gs.length : Int))) rfl) ?_
    refine qD rfl (r_mul rfl rfl (by omega)) ?_
    refine qD rfl (zB (v := (.int .i64 (j5 : Int))) rfl) ?_
    refine qD rfl (yS rfl rfl (by omega)) ?_
    refine qD rfl (zL Tryz.underlying67 sz3 (v := atB) rfl rfl hw283.read (by omega) (by omega)) ?_
    refine qD rfl (zJ (r := atsB.getD (((((fs.getD i5 default).r).getD q5 0) * (gs.length : Int)) + (j5 : Int)).toNat 0) rfl ag3 (z := (((((fs.getD i5 default).r).getD q5 0) * (gs.length : Int)) + (j5 : Int))) rfl hw283.read (Gadd.pins hX280.pins atB) (by omega) (by omega)) ?_
    refine qI rfl (xA (E := eInt) (e := 3) [(.int .i64 (atsB.getD (((((fs.getD i5 default).r).getD q5 0) * (gs.length : Int)) + (j5 : Int)).toNat 0))] [atsB.getD (((((fs.getD i5 default).r).getD q5 0) * (gs.length : Int)) + (j5 : Int)).toNat 0] Tryz.underlying67 sz3 zr3 (by exact xT (by rfl)) (yZ (by rfl)) rfl rfl rfl rfl (by decide) hX280.pins (fun u303 w304 ho305 hp306 hl307 hk308 => ?_))
    have hX309 := hX280.step hp306 hl307
    have ho310 := hw281.below hl307
    have ho311 := hw282.below hl307
    have ho312 := hw283.below hl307
    have ho313 := hw284.below hl307
    have ho314 := hw285.below hl307
    have hb315 := hw286.below hl307
    have hb316 := hw287.below hl307
    have ho324 : Own eInt 3 GL5 w304 w.heap.size u303 ([atsB.getD (((((fs.getD i5 default).r).getD q5 0) * (gs.length : Int)) + (j5 : Int)).toNat 0]) := ho305.weaken hX280.size
    refine qI rfl (zZ (E := eInt) (v := lv5) (u := u303) 8 Tryz.underlying67 ap3 (by decide) rfl rfl hX309.pins ho310 ho324.src (by first | omega | (rw [List.nil_append]; omega) | (rw [List.length_nil]; omega) | (rw [List.length_append]; omega) | (simp; done) | (simp; omega) | (simp only [List.length_append, List.length_cons, List.length_nil]; omega)) (by first | omega | (rw [List.nil_append]; omega) | (rw [List.length_nil]; omega) | (rw [List.length_append]; omega) | (simp; done) | (simp; omega) | (simp only [List.length_append, List.length_cons, List.length_nil]; omega)) (hX309.size) (fun u325 w326 ho327 hp328 hg329 hw330 => ?_))
    have hX331 := hX309.write hp328 hg329 ((yF ho310))
    have ho332 := ho311.keptA hg329 ha288.symm
    have ho333 := ho312.keptA hg329 ha289.symm
    have ho334 := ho313.keptA hg329 ha290.symm
    have ho335 := ho314.keptA hg329 ha291.symm
    have hb337 := hb315.keptA hg329 ha292.symm
    have hb338 := hb316.keptA hg329 ha293.symm
    have ha339 : Apart lv4.ownBlock u325.ownBlock := zI ha288.symm hw330 ho311.lt
    have ha340 : Apart atB.ownBlock u325.ownBlock := zI ha289.symm hw330 ho312.lt
    have ha341 : Apart uB.ownBlock u325.ownBlock := zI ha290.symm hw330 ho313.lt
    have ha342 : Apart vB.ownBlock u325.ownBlock := zI ha291.symm hw330 ho314.lt
    have ha344 : Apart (some b27) u325.ownBlock := zO ha292.symm hw330 hb315.lt
    have ha345 : Apart (some b35) u325.ownBlock := zO ha293.symm hw330 hb316.lt
    have hm346 : (l5 ++ ([atsB.getD (((((fs.getD i5 default).r).getD q5 0) * (gs.length : Int)) + (j5 : Int)).toNat 0])).length = l5.length + 1 := List.length_append
    refine qD rfl (zC (v := u325) rfl) ?_
    refine qe ?_
    refine yJ ?_
    refine zA (zG ?_)
    refine qD rfl (zB (v := (.int .i64 (q5 : Int))) rfl) ?_
    refine qD rfl (yS rfl rfl (by omega)) ?_
    refine qD rfl (zC (v := (.int .i64 ((q5 : Int) + 1))) rfl) ?_
    refine qe ?_
    refine yI ?_
    refine ⟨_, ?_, _, rfl, _, q5 + 1, u325, l5 ++ ([atsB.getD (((((fs.getD i5 default).r).getD q5 0) * (gs.length : Int)) + (j5 : Int)).toNat 0]), GL5, (zD (x := 14) (zD (x := 11) (zD (x := 10) (zD (x := 9) (zD (x := 8) (zD (x := 7) (zD (x := 6) (zD (x := 5) (zD (x := 4) (zD (x := 3) (zU (x := 2) rfl) rfl) rfl) rfl) rfl) rfl) rfl) rfl) rfl) rfl) rfl), rfl, hX331, hlek277, (by omega), (by rw [heq5]; exact (ix_next (f := (fun o => o * (gs.length : Int) + (j5 : Int))) ([]) (by omega)).symm), (by rw [List.length_append, hll5]; rfl), ho327, ho332, ho333, ho334, ho335, hb337, hb338, ha339.symm, ha340.symm, ha341.symm, ha342.symm, ha344.symm, ha345.symm⟩
    omega
   refine wp_exit ?_
   refine yA ?_
   refine yL ?_
   refine yK ?_
   refine zA (zF (zF (zG ?_)))
   refine qD rfl (zC (v := (.int .i64 0)) rfl) ?_
   refine qe (zA ?_)
   refine zY ?_
   refine yN (fun (k : Nat) (en : Nat → Value) (W : World) => ∃ (env1 : Nat → Value) (q6 : Nat) (lv6 : Value) (l6 : List Int) (GL6 : Pin), en = (upd (upd (upd (upd (upd (upd (upd (upd (upd (upd (upd env1 2 (.pointer (some ⟨b1, 0, none⟩))) 3 (.pointer (some ⟨b14, 0, none⟩))) 4 (.pointer (some ⟨b27, 0, none⟩))) 5 (.pointer (some ⟨b35, 0, none⟩))) 6 (.int .i64 (gs.length : Int))) 7 atB) 8 (.int .i64 (i5 : Int))) 9 (.int .i64 (j5 : Int))) 10 lv4) 11 lv6) 15 (.int .i64 (q6 : Int))) ∧ k = (gs.getD j5 default).r.length - q6 ∧ Ext noS G w GL6 W ∧ Pin.le GL5 GL6 ∧ (q6 ≤ (gs.getD j5 default).r.length) ∧ (l6 = atL atsB ((fs.getD i5 default).r.map (fun o => o * (gs.length : Int) + (j5 : Int))) ++ atL atsB (((gs.getD j5 default).r.take q6).map (fun o => (i5 : Int) * (gs.length : Int) + o))) ∧ (l6.length = (fs.getD i5 default).r.length + q6) ∧ (Own eInt 3 GL6 W w.heap.size lv6 (l6)) ∧ (Own eInt 3 GL6 W w.heap.size lv4 (l4)) ∧ (Own eInt 3 GL6 W w.heap.size atB (atsB)) ∧ (Own eNode 103 GL6 W 0 uB (nsB)) ∧ (Own eInt 3 GL6 W 0 vB (bsB)) ∧ (Bx GL6 W b27 [(.slice none 0 0)]) ∧ (Bx GL6 W b35 [uB, vB]) ∧ (Apart lv6.ownBlock lv4.ownBlock) ∧ (Apart lv6.ownBlock atB.ownBlock) ∧ (Apart lv6.ownBlock uB.ownBlock) ∧ (Apart lv6.ownBlock vB.ownBlock) ∧ (Apart lv6.ownBlock (some b27)) ∧ (Apart lv6.ownBlock (some b35))) _ ⟨_, 0, lv5, l5, GL5, (zD (x := 15) (zD (x := 11) (zD (x := 10) (zD (x := 9) (zD (x := 8) (zD (x := 7) (zD (x := 6) (zD (x := 5) (zD (x := 4) (zD (x := 3) (zU (x := 2) rfl) rfl) rfl) rfl) rfl) rfl) rfl) rfl) rfl) rfl) rfl), rfl, hX280, Pin.le_refl _, Nat.zero_le _, (by rw [heq5, xY (by omega)]; simp [atL]), (by rw [hll5]; omega), hw281, hw282, hw283, hw284, hw285, hw286, hw287, ha288, ha289, ha290, ha291, ha292, ha293⟩ ?_
   rintro k347 _ w348 ⟨env1, q6, lv6, l6, GL6, rfl, hk349, hX350, hlek347, hk6, heq6, hll6, hw351, hw352, hw353, hw354, hw355, hw356, hw357, ha358, ha359, ha360, ha361, ha362, ha363⟩
   refine zF (zF (zG ?_))
   refine qD rfl (zB (v := (.int .i64 (q6 : Int))) rfl) ?_
   refine qD rfl (zR (k := 0) rfl Tryz.underlying32 rfl nz30 rfl) ?_
   refine qD rfl (zS (u := v) ag30 rfl ((Pins.of_le hX350.pins (Pin.le_trans (Pin.le_trans (Pin.le_trans (Pin.le_trans (Pin.le_trans hlek57 hlek78) hlek137) hlek207) hlek277) hlek347)) _ _ _ (hbp25 0 _ rfl))) ?_
   refine qD rfl (zB (v := (.int .i64 (j5 : Int))) rfl) ?_
   refine qD rfl (zL Tryz.underlying30 yQ (v := v) rfl rfl hv (by omega) (by omega)) ?_
   refine qD rfl (xE (off := 1) Tryz.underlying103 rfl rfl nz67 (z := (j5 : Int)) (k := 0) rfl hv (by omega) (by omega)) ?_
   obtain ⟨u364, hr365, hl366⟩ := nm_nr (hv.at (z := (j5 : Int)) (by omega) (by omega)) (j := j5) rfl
   have hm367 := hr365.max
   refine qD rfl (hl366 ag67 rfl (Pins.of_le hX350.pins (Pin.le_trans (Pin.le_trans (Pin.le_trans (Pin.le_trans (Pin.le_trans (Pin.le_trans (Pin.le_trans hle10 hle23) hlek57) hlek78) hlek137) hlek207) hlek277) hlek347))) ?_
   refine qD rfl (zN Tryz.underlying67 (v := u364) rfl hr365) ?_
   refine qD rfl (yR rfl rfl) ?_
   refine qe (zA ?_)
   refine yD (p := ((q6 : Int) : Int) < (((gs.getD j5 default).r).length : Int)) rfl rfl (fun h368 => ?_) (fun h368 => ?_)
   ·skip
    have hq6 := og.2 _ (yT (d := (0 : Int)) (show q6 < (gs.getD j5 default).r.length by omega))
    have hmm6 := Int.mul_nonneg (show (0 : Int) ≤ (i5 : Int) by omega) (show (0 : Int) ≤ (gs.length : Int) by omega)
    refine wp_skip ?_
    refine zA (zF ?_)
    refine zY ?_
    refine zG ?_
    refine qD rfl (zB (v := lv6) rfl) ?_
    refine qD rfl (zB (v := atB) rfl) ?_
    refine qD rfl (zB (v := (.int .i64 (i5 : Int))) rfl) ?_
    refine qD rfl (zB (v := (.int .i64 (gs.length : Int))) rfl) ?_
    refine qD rfl (r_mul rfl rfl (by omega)) ?_
    refine qD rfl (zR (k := 0) rfl Tryz.underlying32 rfl nz30 rfl) ?_
    refine qD rfl (zS (u := v) ag30 rfl ((Pins.of_le hX350.pins (Pin.le_trans (Pin.le_trans (Pin.le_trans (Pin.le_trans (Pin.le_trans hlek57 hlek78) hlek137) hlek207) hlek277) hlek347)) _ _ _ (hbp25 0 _ rfl))) ?_
    refine qD rfl (zB (v := (.int .i64 (j5 : Int))) rfl) ?_
    refine qD rfl (zL Tryz.underlying30 yQ (v := v) rfl rfl hv (by omega) (by omega)) ?_
    refine qD rfl (xE (off := 1) Tryz.underlying103 rfl rfl nz67 (z := (j5 : Int)) (k := 0) rfl hv (by omega) (by omega)) ?_
    obtain ⟨u369, hr370, hl371⟩ := nm_nr (hv.at (z := (j5 : Int)) (by omega) (by omega)) (j := j5) rfl
    have hm372 := hr370.max
    refine qD rfl (hl371 ag67 rfl (Pins.of_le hX350.pins (Pin.le_trans (Pin.le_trans (Pin.le_trans (Pin.le_trans (Pin.le_trans (Pin.le_trans (Pin.le_trans hle10 hle23) hlek57) hlek78) hlek137) hlek207) hlek277) hlek347))) ?_
    refine qD rfl (zB (v := (.int .i64 (q6 : Int))) rfl) ?_
    refine qD rfl (zL Tryz.underlying67 sz3 (v := u369) rfl rfl hr370 (by omega) (by omega)) ?_
    refine qD rfl (zJ (r := ((gs.getD j5 default).r).getD q6 0) rfl ag3 (z := (q6 : Int)) rfl hr370 (Pins.of_le hX350.pins (Pin.le_trans (Pin.le_trans (Pin.le_trans (Pin.le_trans (Pin.le_trans (Pin.le_trans (Pin.le_trans hle10 hle23) hlek57) hlek78) hlek137) hlek207) hlek277) hlek347)) (by omega) (by omega)) ?_
    refine qD rfl (yS rfl rfl (by omega)) ?_
    refine qD rfl (zL Tryz.underlying67 sz3 (v := atB) rfl rfl hw353.read (by omega) (by omega)) ?_
    refine qD rfl (zJ (r := atsB.getD (((i5 : Int) * (gs.length : Int)) + (((gs.getD j5 default).r).getD q6 0)).toNat 0) rfl ag3 (z := (((i5 : Int) * (gs.length : Int)) + (((gs.getD j5 default).r).getD q6 0))) rfl hw353.read (Gadd.pins hX350.pins atB) (by omega) (by omega)) ?_
    refine qI rfl (xA (E := eInt) (e := 3) [(.int .i64 (atsB.getD (((i5 : Int) * (gs.length : Int)) + (((gs.getD j5 default).r).getD q6 0)).toNat 0))] [atsB.getD (((i5 : Int) * (gs.length : Int)) + (((gs.getD j5 default).r).getD q6 0)).toNat 0] Tryz.underlying67 sz3 zr3 (by exact xT (by rfl)) (yZ (by rfl)) rfl rfl rfl rfl (by decide) hX350.pins (fun u373 w374 ho375 hp376 hl377 hk378 => ?_))
    have hX379 := hX350.step hp376 hl377
    have ho380 := hw351.below hl377
    have ho381 := hw352.below hl377
    have ho382 := hw353.below hl377
    have ho383 := hw354.below hl377
    have ho384 := hw355.below hl377
    have hb385 := hw356.below hl377
    have hb386 := hw357.below hl377
    have ho394 : Own eInt 3 GL6 w374 w.heap.size u373 ([atsB.getD (((i5 : Int) * (gs.length : Int)) + (((gs.getD j5 default).r).getD q6 0)).toNat 0]) := ho375.weaken hX350.size
    refine qI rfl (zZ (E := eInt) (v := lv6) (u := u373) 8 Tryz.underlying67 ap3 (by decide) rfl rfl hX379.pins ho380 ho394.src (by first | omega | (rw [List.nil_append]; omega) | (rw [List.length_nil]; omega) | (rw [List.length_append]; omega) | (simp; done) | (simp; omega) | (simp only [List.length_append, List.length_cons, List.length_nil]; omega)) (by first | omega | (rw [List.nil_append]; omega) | (rw [List.length_nil]; omega) | (rw [List.length_append]; omega) | (simp; done) | (simp; omega) | (simp only [List.length_append, List.length_cons, List.length_nil]; omega)) (hX379.size) (fun u395 w396 ho397 hp398 hg399 hw400 => ?_))
    have hX401 := hX379.write hp398 hg399 ((yF ho380))
    have ho402 := ho381.keptA hg399 ha358.symm
    have ho403 := ho382.keptA hg399 ha359.symm
    have ho404 := ho383.keptA hg399 ha360.symm
    have ho405 := ho384.keptA hg399 ha361.symm
    have hb407 := hb385.keptA hg399 ha362.symm
    have hb408 := hb386.keptA hg399 ha363.symm
    have ha409 : Apart lv4.ownBlock u395.ownBlock := zI ha358.symm hw400 ho381.lt
    have ha410 : Apart atB.ownBlock u395.ownBlock := zI ha359.symm hw400 ho382.lt
    have ha411 : Apart uB.ownBlock u395.ownBlock := zI ha360.symm hw400 ho383.lt
    have ha412 : Apart vB.ownBlock u395.ownBlock := zI ha361.symm hw400 ho384.lt
    have ha414 : Apart (some b27) u395.ownBlock := zO ha362.symm hw400 hb385.lt
    have ha415 : Apart (some b35) u395.ownBlock := zO ha363.symm hw400 hb386.lt
    have hm416 : (l6 ++ ([atsB.getD (((i5 : Int) * (gs.length : Int)) + (((gs.getD j5 default).r).getD q6 0)).toNat 0])).length = l6.length + 1 := List.length_append
    refine qD rfl (zC (v := u395) rfl) ?_
    refine qe ?_
    refine yJ ?_
    refine zA (zG ?_)
    refine qD rfl (zB (v := (.int .i64 (q6 : Int))) rfl) ?_
    refine qD rfl (yS rfl rfl (by omega)) ?_
    refine qD rfl (zC (v := (.int .i64 ((q6 : Int) + 1))) rfl) ?_
    refine qe ?_
    refine yI ?_
    refine ⟨_, ?_, _, rfl, _, q6 + 1, u395, l6 ++ ([atsB.getD (((i5 : Int) * (gs.length : Int)) + (((gs.getD j5 default).r).getD q6 0)).toNat 0]), GL6, (zD (x := 15) (zD (x := 11) (zD (x := 10) (zD (x := 9) (zD (x := 8) (zD (x := 7) (zD (x := 6) (zD (x := 5) (zD (x := 4) (zD (x := 3) (zU (x := 2) rfl) rfl) rfl) rfl) rfl) rfl) rfl) rfl) rfl) rfl) rfl), rfl, hX401, hlek347, (by omega), (by rw [heq6]; exact (ix_next (f := (fun o => (i5 : Int) * (gs.length : Int) + o)) (atL atsB ((fs.getD i5 default).r.map (fun o => o * (gs.length : Int) + (j5 : Int)))) (by omega)).symm), (by rw [List.length_append, hll6]; simp; omega), ho397, ho402, ho403, ho404, ho405, hb407, hb408, ha409.symm, ha410.symm, ha411.symm, ha412.symm, ha414.symm, ha415.symm⟩
    omega
   refine wp_exit ?_
   refine yA ?_
   refine yL ?_
   refine yK ?_
   refine zA (zG ?_)
   have e4 : l4 = atL atsB (ixS (gs.length : Int) (fs.getD i5 default).l (gs.getD j5 default).l (i5 : Int) (j5 : Int)) := by rw [heq4, xY (by omega), ← atL_app]; rfl
   have e6 : l6 = atL atsB (ixS (gs.length : Int) (fs.getD i5 default).r (gs.getD j5 default).r (i5 : Int) (j5 : Int)) := by rw [heq6, xY (by omega), ← atL_app]; rfl
   have hol := sum_opts hnkB (by omega) oo.1 og.1
   rw [← e4] at hol
   have hor := sum_opts hnkB (by omega) oo.2 og.2
   rw [← e6] at hor
   have hpt := bk_put (xs := l4) (ys := l6) hokB (by omega) ⟨by omega, by omega⟩ hol.1 hor.1
   refine qD rfl (zB (v := atB) rfl) ?_
   refine qD rfl (zB (v := (.pointer (some ⟨b35, 0, none⟩))) rfl) ?_
   refine qD rfl (zB (v := lv4) rfl) ?_
   refine qD rfl (zB (v := lv6) rfl) ?_
   obtain ⟨G417, hle420, hX419, hr418, hf421⟩ := hw352.sealed hX350
   have ho422 := hw351.moreO hle420 hf421 ha358
   have ho423 := hw353.moreO hle420 hf421 ha218.symm
   have ho424 := hw354.moreO hle420 hf421 ha219.symm
   have ho425 := hw355.moreO hle420 hf421 ha220.symm
   have hb426 := hw356.moreO hf421 ha222.symm
   have hb427 := hw357.moreO hf421 ha223.symm
   obtain ⟨G428, hle431, hX430, hr429, hf432⟩ := ho422.sealed hX419
   have ho433 := ho423.moreO hle431 hf432 ha359.symm
   have ho434 := ho424.moreO hle431 hf432 ha360.symm
   have ho435 := ho425.moreO hle431 hf432 ha361.symm
   have hb436 := hb426.moreO hf432 ha362.symm
   have hb437 := hb427.moreO hf432 ha363.symm
   refine qI rfl (zM (vs := [(.pointer (some ⟨b35, 0, none⟩)), lv4, lv6]) Tryz.func115 nm115 rfl rfl rfl ?_)
   refine Calls.mono (put_spec hX430.pins ⟨hb437, ho434, ho435, ha93.symm, ha95.symm, ha91⟩ hokB.ar.ok (hr418.mono hle431) hr429 ⟨by omega, by omega⟩ (qK hol.1) (qK hor.1)) ?_
   rintro _ w441 ⟨u438, v439, G440, rfl, hbk442, hx443, hlu444, hlv445⟩
   refine ⟨_, rfl, ?_⟩
   have hin448 : ∀ i, inS b35 uB vB i → w.heap.size ≤ i ∨ noS i := inS_lo (yW hlo44) hlo96 hlo97
   have hX449 := hX430.trans hx443 hin448
   have hn450 := notS (u := uB) (v := vB) ha90 ha87 ha88
   have ho451 := ho433.extS hx443 hn450
   have ha452 : Apart atB.ownBlock u438.ownBlock := ap_call hlu444 hn450 (xZ ho433)
   have ha453 : Apart atB.ownBlock v439.ownBlock := ap_call hlv445 hn450 (xZ ho433)
   have hn454 := notS (u := uB) (v := vB) ha43.symm ha92.symm ha94.symm
   have ho455 := hb436.extS hx443 (notSb hn454)
   have ha456 : Apart (some b27) u438.ownBlock := ap_call hlu444 hn454 (box_lt hb436)
   have ha457 : Apart (some b27) v439.ownBlock := ap_call hlv445 hn454 (box_lt hb436)
   have hb458 := hbk442.bx
   have ho459 := hbk442.ou
   have ho460 := hbk442.ov
   have ha461 := hbk442.abu
   have ha462 := hbk442.abv
   have ha463 := hbk442.auv
   have hlo464 := lo_call hlu444 hin448 hX430.size
   have hlo465 := lo_call hlv445 hin448 hX430.size
   refine qI rfl (xA (E := eInt) (e := 3) [(.int .i64 (putK nsB bsB l4 l6))] [putK nsB bsB l4 l6] Tryz.underlying67 sz3 zr3 (by exact xT (by rfl)) (yZ (by rfl)) rfl rfl rfl rfl (by decide) hX449.pins (fun u466 w467 ho468 hp469 hl470 hk471 => ?_))
   have hX472 := hX449.step hp469 hl470
   have ho473 := ho451.below hl470
   have ho474 := ho459.below hl470
   have ho475 := ho460.below hl470
   have hb476 := ho455.below hl470
   have hb477 := hb458.below hl470
   have ho483 : Own eInt 3 G440 w467 w.heap.size u466 ([putK nsB bsB l4 l6]) := ho468.weaken hX449.size
   refine qI rfl (zZ (E := eInt) (v := atB) (u := u466) 8 Tryz.underlying67 ap3 (by decide) rfl rfl hX472.pins ho473 ho483.src (by first | omega | (rw [List.nil_append]; omega) | (rw [List.length_nil]; omega) | (rw [List.length_append]; omega) | (simp; done) | (simp; omega) | (simp only [List.length_append, List.length_cons, List.length_nil]; omega)) (by first | omega | (rw [List.nil_append]; omega) | (rw [List.length_nil]; omega) | (rw [List.length_append]; omega) | (simp; done) | (simp; omega) | (simp only [List.length_append, List.length_cons, List.length_nil]; omega)) (hX472.size) (fun u484 w485 ho486 hp487 hg488 hw489 => ?_))
   have hX490 := hX472.write hp487 hg488 ((yF ho473))
   have ho491 := ho474.keptA hg488 ha452.symm
   have ho492 := ho475.keptA hg488 ha453.symm
   have hb494 := hb476.keptA hg488 ha89.symm
   have hb495 := hb477.keptA hg488 ha90.symm
   have ha496 : Apart u438.ownBlock u484.ownBlock := zI ha452.symm hw489 ho474.lt
   have ha497 : Apart v439.ownBlock u484.ownBlock := zI ha453.symm hw489 ho475.lt
   have ha499 : Apart (some b27) u484.ownBlock := zO ha89.symm hw489 hb476.lt
   have ha500 : Apart (some b35) u484.ownBlock := zO ha90.symm hw489 hb477.lt
   have hm501 : (atsB ++ ([putK nsB bsB l4 l6])).length = atsB.length + 1 := List.length_append
   refine qD rfl (zC (v := u484) rfl) ?_
   refine qe ?_
   refine yJ ?_
   refine zA (zG ?_)
   refine qD rfl (zB (v := (.int .i64 (j5 : Int))) rfl) ?_
   refine qD rfl (yS rfl rfl (by omega)) ?_
   refine qD rfl (zC (v := (.int .i64 ((j5 : Int) + 1))) rfl) ?_
   refine qe ?_
   refine yI ?_
   refine ⟨_, ?_, _, rfl, _, j5 + 1, u484, atsB ++ ([putK nsB bsB l4 l6]), u438, v439, putN nsB bsB l4 l6, putB nsB bsB l4 l6, G440, (zD (x := 9) (zD (x := 8) (zD (x := 7) (zD (x := 6) (zD (x := 5) (zD (x := 4) (zD (x := 3) (zU (x := 2) rfl) rfl) rfl) rfl) rfl) rfl) rfl) rfl), rfl, hX490, (Pin.le_trans (Pin.le_trans (Pin.le_trans (Pin.le_trans (Pin.le_trans (Pin.le_trans (Pin.le_trans hlek78 hlek137) hlek207) hlek277) hlek347) hle420) hle431) hx443.le), (by omega), hpt.ok, (hnkB.snoc hpt.px hokB hpt.ok hpt.pl (hpt.pd.trans (by rw [hol.2, hor.2, sumPhi_at (by omega)]; exact sum_den hf.opts hg.opts (by omega) (by omega)))), (by have := hpt.len; omega), ho486, ho491, ho492, hb494, hb495, ha496.symm, ha497.symm, ha499.symm, ha500.symm, ha463, ha456.symm, ha461.symm, ha457.symm, ha462.symm, hlo464, hlo465⟩
   omega
  refine wp_exit ?_
  refine yA ?_
  refine yL ?_
  refine yK ?_
  refine yJ ?_
  refine zA (zG ?_)
  refine qD rfl (zB (v := (.int .i64 (i5 : Int))) rfl) ?_
  refine qD rfl (yS rfl rfl (by omega)) ?_
  refine qD rfl (zC (v := (.int .i64 ((i5 : Int) + 1))) rfl) ?_
  refine qe ?_
  refine yI ?_
  refine ⟨_, ?_, _, rfl, _, i5 + 1, atB, atsB, uB, vB, nsB, bsB, GB, (zD (x := 8) (zD (x := 7) (zD (x := 6) (zD (x := 5) (zD (x := 4) (zD (x := 3) (zU (x := 2) rfl) rfl) rfl) rfl) rfl) rfl) rfl), rfl, hX81, (Pin.le_trans hlek57 hlek78), (by omega), hokB, (by have e : j5 = gs.length := (by omega); have h9 := hnkB; rw [e] at h9; rw [Nat.add_mul, Nat.one_mul]; exact h9), (by rw [Nat.add_mul, Nat.one_mul]; omega), hw82, hw83, hw84, hw85, hw86, ha87, ha88, ha89, ha90, ha91, ha92, ha93, ha94, ha95, hlo96, hlo97⟩
  omega
 refine wp_exit ?_
 refine yA ?_
 refine yL ?_
 refine yK ?_
 refine zA (zF (zG ?_))
 have hin : i5 = fs.length := by omega
 have hile : i5 * gs.length ≤ 524288 := by rw [hin]; exact hs
 have hlx := last_ix (m := i5) (n := gs.length) (by omega) (by omega)
 have hrt := hnkA.at_ (i := i5 * gs.length - 1) (by omega)
 rw [show i5 * gs.length - 1 = ((atsA.length : Int) - 1).toNat by omega] at hrt
 have hgo : sumPhi fs gs ((atsA.length : Int) - 1).toNat = addG (gOf fs) (gOf gs) := by rw [show ((atsA.length : Int) - 1).toNat = i5 * gs.length - 1 by omega, hlx.1, sumPhi_at (by omega), hin]; rfl
 rw [hgo] at hrt
 refine qD rfl (zB (v := (.pointer (some ⟨b35, 0, none⟩))) rfl) ?_
 refine qD rfl (zB (v := atA) rfl) ?_
 refine qD rfl (zB (v := atA) rfl) ?_
 refine qD rfl (zN Tryz.underlying67 (v := atA) rfl hw61.read) ?_
 refine qD rfl (qV rfl rfl (by omega)) ?_
 refine qD rfl (zL Tryz.underlying67 sz3 (v := atA) rfl rfl hw61.read (by omega) (by omega)) ?_
 refine qD rfl (zJ (r := atsA.getD ((atsA.length : Int) - 1).toNat 0) rfl ag3 (z := ((atsA.length : Int) - 1)) rfl hw61.read (Gadd.pins hX60.pins atA) (by omega) (by omega)) ?_
 refine qI rfl (zM (vs := [(.pointer (some ⟨b35, 0, none⟩)), (.int .i64 (atsA.getD ((atsA.length : Int) - 1).toNat 0))]) Tryz.func91 nm91 rfl rfl rfl ?_)
 refine Calls.mono (form_spec hX60.pins ⟨hw65, hw62, hw63, ha72.symm, ha74.symm, ha70⟩ hokA.ar.ok hrt.1) ?_
 rintro _ w504 ⟨u502, G503, rfl, hr505, hx506⟩
 refine ⟨_, rfl, ?_⟩
 have hX507 := hX60.tr hx506
 have hb511 := hw64.ext hx506
 refine q0 rfl rfl rfl (xF (cs' := [u502]) (us := [u502]) (v := (.agg [u502].toArray)) sz32 rfl rfl rfl (yZ hr505.one) hX507.pins hb511 (Nat.le_of_ble_eq_true rfl) rfl (fun w513 hb514 hp515 hg516 hz517 => ?_))
 have hX518 := hX507.write hp515 hg516 ((yW hlo34))
 refine qe (zA ?_)
 refine wp_ret ?_
 refine zX ?_
 refine c_retc (cs := [u502]) rfl rfl rfl ag32 sz32 (fun j u hj => by rw [Nat.zero_add]; exact hb514.cell hj) ?_
 exact ⟨_, _, rfl, (by rw [← hrt.2, ← book_form hokA hrt.1]; exact hr505), hX518⟩

theorem l5Pair_spec {w : World} {G : Pin} {u v : Value} {fs gs : List Nd} (hP : Pins G w) (hu : RSl eNode G u fs) (hv : RSl eNode G v gs) :
  Calls Tryz.prog 79 [(.agg [u].toArray), (.agg [v].toArray)].toArray w fun e w' => ∃ G', e = .returned (.bool (pairB fs gs)) ∧ Ext noS G w G' w' := by
 refine yB (n := 21) Tryz.func79 Tryz.ntmps79 rfl rfl ?_
 have hX0 : Ext noS G w G w := Ext.refl hP
 have hmu := hu.max
 have hmv := hv.max
 refine zF (zG ?_)
 refine qI rfl (xO [u] (v := (.agg [u].toArray)) rfl rfl hX0.pins (fun b1 w2 hk3 hb4 hp5 hl6 => ?_))
 have hX7 := hX0.step hp5 hl6
 have hlo8 : w.heap.size ≤ b1 := by have := hX0.size; omega
 obtain ⟨G9, hle10, hX11, hbp12, hf13⟩ := hb4.shut hX7 hlo8
 refine qI rfl (xO [v] (v := (.agg [v].toArray)) rfl rfl hX11.pins (fun b14 w15 hk16 hb17 hp18 hl19 => ?_))
 have hX20 := hX11.step hp18 hl19
 have hlo21 : w.heap.size ≤ b14 := by have := hX11.size; omega
 obtain ⟨G22, hle23, hX24, hbp25, hf26⟩ := hb17.shut hX20 hlo21
 refine qD rfl (zC (v := (.bool false)) rfl) ?_
 refine qe (zA (zF (zG ?_)))
 refine qD rfl (yY (cs := [u]) ag32 sz32 rfl (fun j u hj => (Pins.of_le hX24.pins hle23) _ _ _ (hbp12 _ _ (by simpa using hj)))) ?_
 refine qI rfl (zM (vs := [(.agg [u].toArray)]) Tryz.func51 nm51 rfl rfl rfl ?_)
 refine Calls.mono (l3Good_spec hX24.pins (hu.mono (Pin.le_trans hle10 hle23))) ?_
 rintro _ w28 ⟨G27, rfl, hx29⟩
 refine ⟨_, rfl, ?_⟩
 have hX30 := hX24.tr hx29
 refine qD rfl (zB (v := (.bool (decP (GoodS fs)))) rfl) ?_
 refine qb (t := 7) rfl (fun h31 => ?_) (fun h31 => ?_)
 ·skip
  refine qdg rfl rfl rfl rfl rfl rfl (yY (cs := [v]) ag32 sz32 rfl (fun j u hj => (Pins.of_le hX30.pins hx29.le) _ _ _ (hbp25 _ _ (by simpa using hj)))) ?_
  refine q1g rfl rfl rfl rfl rfl rfl (zM (vs := [(.agg [v].toArray)]) Tryz.func51 nm51 rfl rfl rfl ?_)
  refine Calls.mono (l3Good_spec hX30.pins (hv.mono (Pin.le_trans (Pin.le_trans hle10 hle23) hx29.le))) ?_
  rintro _ w33 ⟨G32, rfl, hx34⟩
  refine ⟨_, rfl, ?_⟩
  have hX35 := hX30.tr hx34
  refine qD rfl (xN (v := (.bool (decP (GoodS gs)))) rfl rfl) ?_
  refine qD rfl (zB (v := (.bool (decP (GoodS gs)))) rfl) ?_
  refine qb (t := 11) rfl (fun h36 => ?_) (fun h36 => ?_)
  ·skip
   refine qdg rfl rfl rfl rfl rfl rfl (zR (k := 0) rfl Tryz.underlying32 rfl nz30 rfl) ?_
   refine qdg rfl rfl rfl rfl rfl rfl (zS (u := u) ag30 rfl ((Pins.of_le hX35.pins (Pin.le_trans (Pin.le_trans hle23 hx29.le) hx34.le)) _ _ _ (hbp12 0 _ rfl))) ?_
   refine qdg rfl rfl rfl rfl rfl rfl (zN Tryz.underlying30 (v := u) rfl hu) ?_
   refine qdg rfl rfl rfl rfl rfl rfl (zR (k := 0) rfl Tryz.underlying32 rfl nz30 rfl) ?_
   refine qdg rfl rfl rfl rfl rfl rfl (zS (u := v) ag30 rfl ((Pins.of_le hX35.pins (Pin.le_trans hx29.le hx34.le)) _ _ _ (hbp25 0 _ rfl))) ?_
   refine qdg rfl rfl rfl rfl rfl rfl (zN Tryz.underlying30 (v := v) rfl hv) ?_
   have hx0 : goodB fs = true := (good_eq fs).symm.trans h31
   have hx1 : goodB gs = true := (good_eq gs).symm.trans h36
   have hx2 := (goodB_true.1 hx0).hi
   have hx3 := (goodB_true.1 hx1).hi
   have hx4 := mul_120 hx2 hx3
   refine qdg rfl rfl rfl rfl rfl rfl (r_mul rfl rfl (by omega)) ?_
   refine qdg rfl rfl rfl rfl rfl rfl (r_leq rfl rfl) ?_
   refine qD rfl (xN (v := (.bool (decide (((fs.length : Int) * (gs.length : Int) : Int) ≤ 1600)))) rfl rfl) ?_
   refine qD rfl (zC (v := (.bool (decide (((fs.length : Int) * (gs.length : Int) : Int) ≤ 1600)))) rfl) ?_
   refine qe (zA ?_)
   refine wp_ret ?_
   refine zX ?_
   refine zT (v := (.bool (decide (((fs.length : Int) * (gs.length : Int) : Int) ≤ 1600)))) rfl rfl rfl ?_
   exact ⟨_, congrArg (fun z => Ending.returned (Value.bool z)) (by unfold pairB; rw [hx0, hx1]; exact decide_eq_decide.2 pair_int), hX35⟩
  refine qs rfl rfl rfl rfl rfl rfl ?_
  refine qs rfl rfl rfl rfl rfl rfl ?_
  refine qs rfl rfl rfl rfl rfl rfl ?_
  refine qs rfl rfl rfl rfl rfl rfl ?_
  refine qs rfl rfl rfl rfl rfl rfl ?_
  refine qs rfl rfl rfl rfl rfl rfl ?_
  refine qs rfl rfl rfl rfl rfl rfl ?_
  refine qs rfl rfl rfl rfl rfl rfl ?_
  refine qD rfl (xG (v := (.bool false)) rfl rfl) ?_
  refine qD rfl (zC (v := (.bool false)) rfl) ?_
  refine qe (zA ?_)
  refine wp_ret ?_
  refine zX ?_
  refine zT (v := (.bool false)) rfl rfl rfl ?_
  have hx0 : goodB fs = true := (good_eq fs).symm.trans h31
  have hx1 : goodB gs = false := (good_eq gs).symm.trans h36
  exact ⟨_, congrArg (fun z => Ending.returned (Value.bool z)) (by unfold pairB; rw [hx0, hx1]; rfl), hX35⟩
 refine qs rfl rfl rfl rfl rfl rfl ?_
 refine qs rfl rfl rfl rfl rfl rfl ?_
 refine qD rfl (xG (v := (.bool false)) rfl rfl) ?_
 refine qD rfl (zB (v := (.bool false)) rfl) ?_
 refine qs rfl rfl rfl rfl rfl rfl ?_
 refine qs rfl rfl rfl rfl rfl rfl ?_
 refine qs rfl rfl rfl rfl rfl rfl ?_
 refine qs rfl rfl rfl rfl rfl rfl ?_
 refine qs rfl rfl rfl rfl rfl rfl ?_
 refine qs rfl rfl rfl rfl rfl rfl ?_
 refine qs rfl rfl rfl rfl rfl rfl ?_
 refine qs rfl rfl rfl rfl rfl rfl ?_
 refine qD rfl (xG (v := (.bool false)) rfl rfl) ?_
 refine qD rfl (zC (v := (.bool false)) rfl) ?_
 refine qe (zA ?_)
 refine wp_ret ?_
 refine zX ?_
 refine zT (v := (.bool false)) rfl rfl rfl ?_
 have hx0 : goodB fs = false := (good_eq fs).symm.trans h31
 exact ⟨_, congrArg (fun z => Ending.returned (Value.bool z)) (by unfold pairB; rw [hx0]; rfl), hX30⟩

theorem pairs_spec {w : World} {G : Pin} {u v : Value} {fs gs : List Nd} (hP : Pins G w) (hu : RSl eNode G u fs) (hv : RSl eNode G v gs) :
  Calls Tryz.prog 81 [(.agg [u].toArray), (.agg [v].toArray)].toArray w fun e w' => ∃ G', e = .returned (.bool (pairB fs gs)) ∧ Ext noS G w G' w' := by
 refine yB (n := 21) Tryz.func81 Tryz.ntmps81 rfl rfl ?_
 have hX0 : Ext noS G w G w := Ext.refl hP
 have hmu := hu.max
 have hmv := hv.max
 refine zF (zG ?_)
 refine qI rfl (xO [u] (v := (.agg [u].toArray)) rfl rfl hX0.pins (fun b1 w2 hk3 hb4 hp5 hl6 => ?_))
 have hX7 := hX0.step hp5 hl6
 have hlo8 : w.heap.size ≤ b1 := by have := hX0.size; omega
 obtain ⟨G9, hle10, hX11, hbp12, hf13⟩ := hb4.shut hX7 hlo8
 refine qI rfl (xO [v] (v := (.agg [v].toArray)) rfl rfl hX11.pins (fun b14 w15 hk16 hb17 hp18 hl19 => ?_))
 have hX20 := hX11.step hp18 hl19
 have hlo21 : w.heap.size ≤ b14 := by have := hX11.size; omega
 obtain ⟨G22, hle23, hX24, hbp25, hf26⟩ := hb17.shut hX20 hlo21
 refine qD rfl (zC (v := (.bool false)) rfl) ?_
 refine qe (zA (zF (zG ?_)))
 refine qD rfl (yY (cs := [u]) ag32 sz32 rfl (fun j u hj => (Pins.of_le hX24.pins hle23) _ _ _ (hbp12 _ _ (by simpa using hj)))) ?_
 refine qI rfl (zM (vs := [(.agg [u].toArray)]) Tryz.func54 nm54 rfl rfl rfl ?_)
 refine Calls.mono (goodForm_spec hX24.pins (hu.mono (Pin.le_trans hle10 hle23))) ?_
 rintro _ w28 ⟨G27, rfl, hx29⟩
 refine ⟨_, rfl, ?_⟩
 have hX30 := hX24.tr hx29
 refine qD rfl (zB (v := (.bool (goodB fs))) rfl) ?_
 refine qb (t := 7) rfl (fun h31 => ?_) (fun h31 => ?_)
 ·skip
  refine qdg rfl rfl rfl rfl rfl rfl (yY (cs := [v]) ag32 sz32 rfl (fun j u hj => (Pins.of_le hX30.pins hx29.le) _ _ _ (hbp25 _ _ (by simpa using hj)))) ?_
  refine q1g rfl rfl rfl rfl rfl rfl (zM (vs := [(.agg [v].toArray)]) Tryz.func54 nm54 rfl rfl rfl ?_)
  refine Calls.mono (goodForm_spec hX30.pins (hv.mono (Pin.le_trans (Pin.le_trans hle10 hle23) hx29.le))) ?_
  rintro _ w33 ⟨G32, rfl, hx34⟩
  refine ⟨_, rfl, ?_⟩
  have hX35 := hX30.tr hx34
  refine qD rfl (xN (v := (.bool (goodB gs))) rfl rfl) ?_
  refine qD rfl (zB (v := (.bool (goodB gs))) rfl) ?_
  refine qb (t := 11) rfl (fun h36 => ?_) (fun h36 => ?_)
  ·skip
   refine qdg rfl rfl rfl rfl rfl rfl (zR (k := 0) rfl Tryz.underlying32 rfl nz30 rfl) ?_
   refine qdg rfl rfl rfl rfl rfl rfl (zS (u := u) ag30 rfl ((Pins.of_le hX35.pins (Pin.le_trans (Pin.le_trans hle23 hx29.le) hx34.le)) _ _ _ (hbp12 0 _ rfl))) ?_
   refine qdg rfl rfl rfl rfl rfl rfl (zN Tryz.underlying30 (v := u) rfl hu) ?_
   refine qdg rfl rfl rfl rfl rfl rfl (zR (k := 0) rfl Tryz.underlying32 rfl nz30 rfl) ?_
   refine qdg rfl rfl rfl rfl rfl rfl (zS (u := v) ag30 rfl ((Pins.of_le hX35.pins (Pin.le_trans hx29.le hx34.le)) _ _ _ (hbp25 0 _ rfl))) ?_
   refine qdg rfl rfl rfl rfl rfl rfl (zN Tryz.underlying30 (v := v) rfl hv) ?_
   have hx0 : goodB fs = true := h31
   have hx1 : goodB gs = true := h36
   have hx2 := (goodB_true.1 hx0).hi
   have hx3 := (goodB_true.1 hx1).hi
   have hx4 := mul_120 hx2 hx3
   refine qdg rfl rfl rfl rfl rfl rfl (r_mul rfl rfl (by omega)) ?_
   refine qdg rfl rfl rfl rfl rfl rfl (r_leq rfl rfl) ?_
   refine qD rfl (xN (v := (.bool (decide (((fs.length : Int) * (gs.length : Int) : Int) ≤ 1600)))) rfl rfl) ?_
   refine qD rfl (zC (v := (.bool (decide (((fs.length : Int) * (gs.length : Int) : Int) ≤ 1600)))) rfl) ?_
   refine qe (zA ?_)
   refine wp_ret ?_
   refine zX ?_
   refine zT (v := (.bool (decide (((fs.length : Int) * (gs.length : Int) : Int) ≤ 1600)))) rfl rfl rfl ?_
   exact ⟨_, congrArg (fun z => Ending.returned (Value.bool z)) (by unfold pairB; rw [hx0, hx1]; exact decide_eq_decide.2 pair_int), hX35⟩
  refine qs rfl rfl rfl rfl rfl rfl ?_
  refine qs rfl rfl rfl rfl rfl rfl ?_
  refine qs rfl rfl rfl rfl rfl rfl ?_
  refine qs rfl rfl rfl rfl rfl rfl ?_
  refine qs rfl rfl rfl rfl rfl rfl ?_
  refine qs rfl rfl rfl rfl rfl rfl ?_
  refine qs rfl rfl rfl rfl rfl rfl ?_
  refine qs rfl rfl rfl rfl rfl rfl ?_
  refine qD rfl (xG (v := (.bool false)) rfl rfl) ?_
  refine qD rfl (zC (v := (.bool false)) rfl) ?_
  refine qe (zA ?_)
  refine wp_ret ?_
  refine zX ?_
  refine zT (v := (.bool false)) rfl rfl rfl ?_
  have hx0 : goodB fs = true := h31
  have hx1 : goodB gs = false := h36
  exact ⟨_, congrArg (fun z => Ending.returned (Value.bool z)) (by unfold pairB; rw [hx0, hx1]; rfl), hX35⟩
 refine qs rfl rfl rfl rfl rfl rfl ?_
 refine qs rfl rfl rfl rfl rfl rfl ?_
 refine qD rfl (xG (v := (.bool false)) rfl rfl) ?_
 refine qD rfl (zB (v := (.bool false)) rfl) ?_
 refine qs rfl rfl rfl rfl rfl rfl ?_
 refine qs rfl rfl rfl rfl rfl rfl ?_
 refine qs rfl rfl rfl rfl rfl rfl ?_
 refine qs rfl rfl rfl rfl rfl rfl ?_
 refine qs rfl rfl rfl rfl rfl rfl ?_
 refine qs rfl rfl rfl rfl rfl rfl ?_
 refine qs rfl rfl rfl rfl rfl rfl ?_
 refine qs rfl rfl rfl rfl rfl rfl ?_
 refine qD rfl (xG (v := (.bool false)) rfl rfl) ?_
 refine qD rfl (zC (v := (.bool false)) rfl) ?_
 refine qe (zA ?_)
 refine wp_ret ?_
 refine zX ?_
 refine zT (v := (.bool false)) rfl rfl rfl ?_
 have hx0 : goodB fs = false := h31
 exact ⟨_, congrArg (fun z => Ending.returned (Value.bool z)) (by unfold pairB; rw [hx0]; rfl), hX30⟩

theorem l3If_spec {w : World} {G : Pin} {v : Value} {fs : List Nd} (hP : Pins G w) (hv : RSl eNode G v fs) :
  Calls Tryz.prog 65 [(.agg [v].toArray)].toArray w fun e w' => ∃ (u : Value) (G' : Pin), e = .returned (.tuple #[(.agg [u].toArray), .bool (decP (FitsP fs))]) ∧ RSl eNode G' u (ifF fs) ∧ Ext noS G w G' w' := by
 refine yB (n := 9) Tryz.func65 Tryz.ntmps65 rfl rfl ?_
 have hX0 : Ext noS G w G w := Ext.refl hP
 refine zF (zG ?_)
 refine qI rfl (xO [v] (v := (.agg [v].toArray)) rfl rfl hX0.pins (fun b1 w2 hk3 hb4 hp5 hl6 => ?_))
 have hX7 := hX0.step hp5 hl6
 have hlo8 : w.heap.size ≤ b1 := by have := hX0.size; omega
 obtain ⟨G9, hle10, hX11, hbp12, hf13⟩ := hb4.shut hX7 hlo8
 refine qI rfl (xB [(.slice none 0 0)] zr32 rfl hX11.pins (fun b14 w15 hk16 hb17 hp18 hl19 => ?_))
 have hX20 := hX11.step hp18 hl19
 have hlo21 : w.heap.size ≤ b14 := by have := hX11.size; omega
 refine qD rfl (zC (v := (.bool false)) rfl) ?_
 refine qe (zA (zF (zF (zG ?_))))
 refine qD rfl (yY (cs := [v]) ag32 sz32 rfl (fun j u hj => hX20.pins _ _ _ (hbp12 _ _ (by simpa using hj)))) ?_
 refine qI rfl (zM (vs := [(.agg [v].toArray)]) Tryz.func89 nm89 rfl rfl rfl ?_)
 refine Calls.mono (l3Fits_spec hX20.pins (hv.mono hle10)) ?_
 rintro _ w23 ⟨G22, rfl, hx24⟩
 refine ⟨_, rfl, ?_⟩
 have hX25 := hX20.tr hx24
 have hb26 := hb17.ext hx24
 refine qD rfl (qG rfl) ?_
 refine qe (zA ?_)
 refine c_ifn rfl rfl (fun h27 => ?_) (fun h27 => ?_)
 ·skip
  refine wp_skip ?_
  refine zA (zF (zG ?_))
  refine qD rfl (yY (cs := [v]) ag32 sz32 rfl (fun j u hj => (Pins.of_le hX25.pins hx24.le) _ _ _ (hbp12 _ _ (by simpa using hj)))) ?_
  refine q0 rfl rfl rfl (xF (cs' := [v]) (us := [v]) (v := (.agg [v].toArray)) sz32 rfl rfl rfl (yZ hv.one) hX25.pins hb26 (Nat.le_of_ble_eq_true rfl) rfl (fun w28 hb29 hp30 hg31 hz32 => ?_))
  have hX33 := hX25.write hp30 hg31 ((yW hlo21))
  refine qD rfl (zC (v := (.bool true)) rfl) ?_
  refine qe (zA ?_)
  refine wp_ret ?_
  refine zX ?_
  refine c_retct (cs := [v]) (v := (.bool true)) rfl rfl rfl rfl rfl ag32 sz32 (fun j u hj => by rw [Nat.zero_add]; exact hb29.cell hj) ?_
  exact ⟨_, _, congrArg (fun z => Ending.returned (Value.tuple #[(.agg [v].toArray), Value.bool z])) (h27).symm, (by unfold ifF; rw [h27]; exact (hv.mono (Pin.le_trans hle10 hx24.le))), hX33⟩
 refine zF (zG ?_)
 refine qD rfl (xU [(.slice none 0 0)] [(.slice none 0 0)] [] Tryz.underlying32 zr32 rfl pl32 rfl (fun _ h => by cases h) rfl) ?_
 refine q0 rfl rfl rfl (xF (cs' := [(.slice none 0 0)]) (us := [(.slice none 0 0)]) (v := (.agg [(.slice none 0 0)].toArray)) sz32 rfl rfl rfl (yZ (by rfl)) hX25.pins hb26 (Nat.le_of_ble_eq_true rfl) rfl (fun w34 hb35 hp36 hg37 hz38 => ?_))
 have hX39 := hX25.write hp36 hg37 ((yW hlo21))
 refine qD rfl (zC (v := (.bool false)) rfl) ?_
 refine qe (zA ?_)
 refine wp_ret ?_
 refine zX ?_
 refine c_retct (cs := [(.slice none 0 0)]) (v := (.bool false)) rfl rfl rfl rfl rfl ag32 sz32 (fun j u hj => by rw [Nat.zero_add]; exact hb35.cell hj) ?_
 exact ⟨_, _, congrArg (fun z => Ending.returned (Value.tuple #[(.agg [(.slice none 0 0)].toArray), Value.bool z])) (h27).symm, (by unfold ifF; rw [h27]; exact nil_reads _ _), hX39⟩

theorem qP {w : World} {G : Pin} {u v : Value} {fs gs : List Nd} (hP : Pins G w) (hu : RSl eNode G u fs) (hv : RSl eNode G v gs) :
  Calls Tryz.prog 48 [(.agg [u].toArray), (.agg [v].toArray)].toArray w fun e w' => ∃ (u : Value) (G' : Pin), e = .returned (.tuple #[(.agg [u].toArray), .bool (minB fs gs)]) ∧ RSl eNode G' u (minF fs gs) ∧ Ext noS G w G' w' := by
 refine yB (n := 18) Tryz.func48 Tryz.ntmps48 rfl rfl ?_
 have hX0 : Ext noS G w G w := Ext.refl hP
 refine zF (zG ?_)
 refine qI rfl (xO [u] (v := (.agg [u].toArray)) rfl rfl hX0.pins (fun b1 w2 hk3 hb4 hp5 hl6 => ?_))
 have hX7 := hX0.step hp5 hl6
 have hlo8 : w.heap.size ≤ b1 := by have := hX0.size; omega
 obtain ⟨G9, hle10, hX11, hbp12, hf13⟩ := hb4.shut hX7 hlo8
 refine qI rfl (xO [v] (v := (.agg [v].toArray)) rfl rfl hX11.pins (fun b14 w15 hk16 hb17 hp18 hl19 => ?_))
 have hX20 := hX11.step hp18 hl19
 have hlo21 : w.heap.size ≤ b14 := by have := hX11.size; omega
 obtain ⟨G22, hle23, hX24, hbp25, hf26⟩ := hb17.shut hX20 hlo21
 refine qI rfl (xB [(.slice none 0 0)] zr32 rfl hX24.pins (fun b27 w28 hk29 hb30 hp31 hl32 => ?_))
 have hX33 := hX24.step hp31 hl32
 have hlo34 : w.heap.size ≤ b27 := by have := hX24.size; omega
 refine qD rfl (zC (v := (.bool false)) rfl) ?_
 refine qe (zA (zF (zF (zG ?_))))
 refine qD rfl (yY (cs := [u]) ag32 sz32 rfl (fun j u hj => (Pins.of_le hX33.pins hle23) _ _ _ (hbp12 _ _ (by simpa using hj)))) ?_
 refine qD rfl (yY (cs := [v]) ag32 sz32 rfl (fun j u hj => hX33.pins _ _ _ (hbp25 _ _ (by simpa using hj)))) ?_
 refine qI rfl (zM (vs := [(.agg [u].toArray), (.agg [v].toArray)]) Tryz.func79 nm79 rfl rfl rfl ?_)
 refine Calls.mono (l5Pair_spec hX33.pins (hu.mono (Pin.le_trans hle10 hle23)) (hv.mono (Pin.le_trans hle10 hle23))) ?_
 rintro _ w36 ⟨G35, rfl, hx37⟩
 refine ⟨_, rfl, ?_⟩
 have hX38 := hX33.tr hx37
 have hb39 := hb30.ext hx37
 refine qD rfl (qG rfl) ?_
 refine qe (zA ?_)
 refine c_ifn rfl rfl (fun h40 => ?_) (fun h40 => ?_)
 ·skip
  refine wp_skip ?_
  refine zA (zF ?_)
  have hpp := pair_iff.1 h40
  have hga := hpp.a
  have hgb := hpp.b
  have hle := hpp.le
  have hla := hga.lo
  have hlb := hgb.lo
  have hha := hga.hi
  have hhb := hgb.hi
  have hng := neg_good hgb
  refine xI (S := fun wz => Pins G35 wz) (last := 9) (by kernel_rfl) rfl ?_
  have hl41 : Below w36.heap.size w36 w36.drew := (Below.refl _ _).drew
  have hp42 := hX38.pins.below hl41
  have hX43 := hX38.step hp42 hl41
  have hb44 := hb39.below hl41
  refine dT (i := 0) rfl rfl (by kernel_rfl) (fun _ hS => yY (cs := [u]) ag32 sz32 rfl (fun j u hj => (Pins.of_le hS (Pin.le_trans hle23 hx37.le)) _ _ _ (hbp12 _ _ (by simpa using hj)))) hX43.pins ?_
  refine dT (i := 1) rfl rfl (by kernel_rfl) (fun _ hS => yY (cs := [v]) ag32 sz32 rfl (fun j u hj => (Pins.of_le hS hx37.le) _ _ _ (hbp25 _ _ (by simpa using hj)))) hX43.pins ?_
  refine zQ (i := 2) (by kernel_rfl) (zW (i := 2) rfl rfl rfl (zH rfl _) (zM (vs := [(.agg [v].toArray)]) Tryz.func77 nm77 rfl rfl rfl ?_))
  refine Calls.mono (l5Neg_spec hX43.pins (hv.mono (Pin.le_trans (Pin.le_trans hle10 hle23) hx37.le)) (good_form hgb) ⟨by omega, by omega⟩) ?_
  rintro _ w47 ⟨u45, G46, rfl, hr48, hx49⟩
  refine ⟨_, rfl, ?_⟩
  have hX50 := hX43.tr hx49
  have hb51 := hb44.ext hx49
  refine ⟨fun _ => (Pins.of_le hX50.pins hx49.le), ?_⟩
  refine zQ (i := 3) (by kernel_rfl) (zW (i := 3) rfl rfl rfl (zH rfl _) (zM (vs := [(.agg [u].toArray), (.agg [u45].toArray)]) Tryz.func84 nm84 rfl rfl rfl ?_))
  refine Calls.mono (l5Sum_spec hX50.pins (hu.mono (Pin.le_trans (Pin.le_trans (Pin.le_trans hle10 hle23) hx37.le) hx49.le)) hr48 (good_form hga) (good_form hng.1) ⟨by omega, hng.1.lo⟩ (by have := Nat.mul_le_mul_left fs.length hng.2.2; omega) (good_lensK hga) (good_lensK hng.1)) ?_
  rintro _ w54 ⟨u52, G53, rfl, hr55, hx56⟩
  refine ⟨_, rfl, ?_⟩
  have hX57 := hX50.tr hx56
  have hb58 := hb51.ext hx56
  refine ⟨fun _ => (Pins.of_le hX57.pins (Pin.le_trans hx49.le hx56.le)), ?_⟩
  refine zQ (i := 4) (by kernel_rfl) (zW (i := 4) rfl rfl rfl (zH rfl _) (zM (vs := [(.agg [u52].toArray)]) Tryz.func65 nm65 rfl rfl rfl ?_))
  refine Calls.mono (l3If_spec hX57.pins hr55) ?_
  rintro _ w61 ⟨u59, G60, rfl, hr62, hx63⟩
  refine ⟨_, rfl, ?_⟩
  have hX64 := hX57.tr hx63
  have hb65 := hb58.ext hx63
  refine ⟨fun _ => (Pins.of_le hX64.pins (Pin.le_trans (Pin.le_trans hx49.le hx56.le) hx63.le)), ?_⟩
  refine dT (i := 5) rfl rfl (by kernel_rfl) (fun _ _ => yX (v := (.agg [u59].toArray)) rfl rfl) (Pins.of_le hX64.pins (Pin.le_trans (Pin.le_trans hx49.le hx56.le) hx63.le)) ?_
  refine dT (i := 6) rfl rfl (by kernel_rfl) (fun _ _ => yX (v := (.bool (decP (FitsP (formG (addG (gOf fs) (gOf (formG (negG (gOf gs)))))))))) rfl rfl) (Pins.of_le hX64.pins (Pin.le_trans (Pin.le_trans hx49.le hx56.le) hx63.le)) ?_
  refine zQ (i := 7) (by kernel_rfl) (qJ (i := 7) rfl rfl rfl (zH rfl _) (xF (cs' := [u59]) (us := [u59]) (v := (.agg [u59].toArray)) sz32 rfl rfl rfl (yZ hr62.one) hX64.pins hb65 (Nat.le_of_ble_eq_true rfl) rfl (fun w66 hb67 hp68 hg69 hz70 => ?_)))
  have hX71 := hX64.write hp68 hg69 ((yW hlo34))
  refine ⟨fun _ => (Pins.of_le hX71.pins (Pin.le_trans (Pin.le_trans hx49.le hx56.le) hx63.le)), ?_⟩
  refine dT (i := 8) rfl rfl (by kernel_rfl) (fun _ _ => zC (v := (.bool (decP (FitsP (formG (addG (gOf fs) (gOf (formG (negG (gOf gs)))))))))) rfl) (Pins.of_le hX71.pins (Pin.le_trans (Pin.le_trans hx49.le hx56.le) hx63.le)) ?_
  refine yU (by kernel_rfl) ?_
  refine zA ?_
  refine wp_ret ?_
  refine zX ?_
  refine c_retct (cs := [u59]) (v := (.bool (decP (FitsP (formG (addG (gOf fs) (gOf (formG (negG (gOf gs)))))))))) rfl rfl rfl rfl rfl ag32 sz32 (fun j u hj => by rw [Nat.zero_add]; exact hb67.cell hj) ?_
  obtain ⟨e1, e2⟩ := min_yes (pair_iff.2 hpp)
  rw [e1, e2]
  have hzr := hr62
  rw [hng.2.1] at hzr ⊢
  exact ⟨_, _, rfl, hzr, hX71⟩
 refine zF (zG ?_)
 refine qD rfl (xU [(.slice none 0 0)] [(.slice none 0 0)] [] Tryz.underlying32 zr32 rfl pl32 rfl (fun _ h => by cases h) rfl) ?_
 refine q0 rfl rfl rfl (xF (cs' := [(.slice none 0 0)]) (us := [(.slice none 0 0)]) (v := (.agg [(.slice none 0 0)].toArray)) sz32 rfl rfl rfl (yZ (by rfl)) hX38.pins hb39 (Nat.le_of_ble_eq_true rfl) rfl (fun w72 hb73 hp74 hg75 hz76 => ?_))
 have hX77 := hX38.write hp74 hg75 ((yW hlo34))
 refine qD rfl (zC (v := (.bool false)) rfl) ?_
 refine qe (zA ?_)
 refine wp_ret ?_
 refine zX ?_
 refine c_retct (cs := [(.slice none 0 0)]) (v := (.bool false)) rfl rfl rfl rfl rfl ag32 sz32 (fun j u hj => by rw [Nat.zero_add]; exact hb73.cell hj) ?_
 obtain ⟨e1, e2⟩ := min_no (h40)
 rw [e1, e2]
 exact ⟨_, _, rfl, (nil_reads _ _), hX77⟩

theorem iMinusForms_dspec {w : World} {G : Pin} {u v : Value} {fs gs : List Nd} (hP : Pins G w) (hu : RSl eNode G u fs) (hv : RSl eNode G v gs) :
  Calls Tryz.prog 49 [(.agg [u].toArray), (.agg [v].toArray)].toArray w fun e w' => ∃ (u : Value) (G' : Pin), e = .returned (.tuple #[(.agg [u].toArray), .bool (minB fs gs)]) ∧ DForm 103 3 G' w' w.heap.size w'.heap.size u (minF fs gs) ∧ Ext noS G w G' w' := by
 refine yB (n := 27) Tryz.func49 Tryz.ntmps49 rfl rfl ?_
 have hX0 : Ext noS G w G w := Ext.refl hP
 refine zF (zG ?_)
 refine qI rfl (xO [u] (v := (.agg [u].toArray)) rfl rfl hX0.pins (fun b1 w2 hk3 hb4 hp5 hl6 => ?_))
 have hX7 := hX0.step hp5 hl6
 have hlo8 : w.heap.size ≤ b1 := by have := hX0.size; omega
 obtain ⟨G9, hle10, hX11, hbp12, hf13⟩ := hb4.shut hX7 hlo8
 refine qI rfl (xO [v] (v := (.agg [v].toArray)) rfl rfl hX11.pins (fun b14 w15 hk16 hb17 hp18 hl19 => ?_))
 have hX20 := hX11.step hp18 hl19
 have hlo21 : w.heap.size ≤ b14 := by have := hX11.size; omega
 obtain ⟨G22, hle23, hX24, hbp25, hf26⟩ := hb17.shut hX20 hlo21
 refine qI rfl (xB [(.slice none 0 0)] zr32 rfl hX24.pins (fun b27 w28 hk29 hb30 hp31 hl32 => ?_))
 have hX33 := hX24.step hp31 hl32
 have hlo34 : w.heap.size ≤ b27 := by have := hX24.size; omega
 refine qD rfl (zC (v := (.bool false)) rfl) ?_
 refine qe (zA (zF (zF (zG ?_))))
 refine qD rfl (yY (cs := [u]) ag32 sz32 rfl (fun j u hj => (Pins.of_le hX33.pins hle23) _ _ _ (hbp12 _ _ (by simpa using hj)))) ?_
 refine qD rfl (yY (cs := [v]) ag32 sz32 rfl (fun j u hj => hX33.pins _ _ _ (hbp25 _ _ (by simpa using hj)))) ?_
 refine qI rfl (zM (vs := [(.agg [u].toArray), (.agg [v].toArray)]) Tryz.func81 nm81 rfl rfl rfl ?_)
 refine Calls.mono (pairs_spec hX33.pins (hu.mono (Pin.le_trans hle10 hle23)) (hv.mono (Pin.le_trans hle10 hle23))) ?_
 rintro _ w36 ⟨G35, rfl, hx37⟩
 refine ⟨_, rfl, ?_⟩
 have hX38 := hX33.tr hx37
 have hb39 := hb30.ext hx37
 refine qD rfl (qG rfl) ?_
 refine qe (zA ?_)
 refine c_ifn rfl rfl (fun h40 => ?_) (fun h40 => ?_)
 ·skip
  refine wp_skip ?_
  refine zA (zF (zG ?_))
  have hpp := pair_iff.1 h40
  have hga := hpp.a
  have hgb := hpp.b
  have hle := hpp.le
  have hla := hga.lo
  have hlb := hgb.lo
  have hha := hga.hi
  have hhb := hgb.hi
  refine qI rfl (zM (vs := []) Tryz.func55 nm55 rfl rfl rfl ?_)
  refine Calls.mono (newPool_spec hX38.pins) ?_
  rintro _ w44 ⟨p41, mm42, G43, rfl, hpk45, hfr46, hx47⟩
  refine ⟨_, rfl, ?_⟩
  have hX51 := hX38.tr hx47
  have hb52 := hb39.ext hx47
  have hnp53 := np_fresh hfr46 (x := (some b27)) (box_lt hb39)
  have hpin54 : PIn w (noS) p41 (.slice none 0 0) (.slice none 0 0) (.slice none 0 0) mm42 := PIn.fresh hfr46 hX38.size
  obtain ⟨q48, hq49⟩ : ∃ q, q = (⟨[], [], [], [], [], [], []⟩ : PSt) := ⟨_, rfl⟩
  rw [← hq49] at hpk45
  have hok50 : PoolOk q48 := by rw [hq49]; exact PoolOk.empty
  have hq49l : q48.ns.length = 0 := by rw [hq49]; rfl
  obtain ⟨L55, R56, B57, eL55, eR56, eB57⟩ : ∃ (l r b : Value), l = .slice none 0 0 ∧ r = .slice none 0 0 ∧ b = .slice none 0 0 := ⟨_, _, _, rfl, rfl, rfl⟩
  have hpk452 : Pk 67 3 G43 w44 p41 L55 R56 B57 mm42 q48 := by rw [eL55, eR56, eB57]; exact hpk45
  have hpin542 : PIn w (noS) p41 L55 R56 B57 mm42 := by rw [eL55, eR56, eB57]; exact hpin54
  have hml58 : (q48.ns.map Nd.l).length = q48.ns.length ∧ (q48.ns.map Nd.r).length = q48.ns.length := ⟨List.length_map .., List.length_map ..⟩
  have hml59 : q48.bs.length = q48.ns.length ∧ q48.ns.length ≤ 1048576 := ⟨hok50.ar.ok.len, hok50.ar.ok.lim⟩
  have hnp53x : NP p41 L55 R56 B57 mm42 (some b27) := by rw [eL55, eR56, eB57]; exact hnp53
  refine qD rfl (zC (v := (.pointer (some ⟨p41, 0, none⟩))) rfl) ?_
  refine qe (zA (zF ?_))
  refine xI (S := fun wz => Pins G43 wz) (last := 16) (by kernel_rfl) rfl ?_
  have hl60 : Below w44.heap.size w44 w44.drew := (Below.refl _ _).drew
  have hp61 := hX51.pins.below hl60
  have hX62 := hX51.step hp61 hl60
  have hb63 := hb52.below hl60
  have hpk64 := hpk452.below hl60 hp61
  refine dT (i := 0) rfl rfl (by kernel_rfl) (fun _ _ => zB (v := (.pointer (some ⟨p41, 0, none⟩))) rfl) hX62.pins ?_
  refine dT (i := 1) rfl rfl (by kernel_rfl) (fun _ _ => zB (v := (.pointer (some ⟨p41, 0, none⟩))) rfl) hX62.pins ?_
  refine dT (i := 2) rfl rfl (by kernel_rfl) (fun _ _ => zB (v := (.pointer (some ⟨p41, 0, none⟩))) rfl) hX62.pins ?_
  refine dT (i := 3) rfl rfl (by kernel_rfl) (fun _ hS => yY (cs := [u]) ag32 sz32 rfl (fun j u hj => (Pins.of_le hS (Pin.le_trans (Pin.le_trans hle23 hx37.le) hx47.le)) _ _ _ (hbp12 _ _ (by simpa using hj)))) hX62.pins ?_
  refine dT (i := 5) rfl rfl (by kernel_rfl) (fun _ _ => zB (v := (.pointer (some ⟨p41, 0, none⟩))) rfl) hX62.pins ?_
  refine dT (i := 6) rfl rfl (by kernel_rfl) (fun _ _ => zB (v := (.pointer (some ⟨p41, 0, none⟩))) rfl) hX62.pins ?_
  refine dT (i := 7) rfl rfl (by kernel_rfl) (fun _ hS => yY (cs := [v]) ag32 sz32 rfl (fun j u hj => (Pins.of_le hS (Pin.le_trans hx37.le hx47.le)) _ _ _ (hbp25 _ _ (by simpa using hj)))) hX62.pins ?_
  refine zQ (i := 4) (by kernel_rfl) (zW (i := 4) rfl rfl rfl (zH rfl _) (zM (vs := [(.pointer (some ⟨p41, 0, none⟩)), (.agg [u].toArray)]) Tryz.func57 nm57 rfl rfl rfl ?_))
  refine Calls.mono (root_spec hX62.pins hpk64 hok50 (hu.mono (Pin.le_trans (Pin.le_trans (Pin.le_trans hle10 hle23) hx37.le) hx47.le)) (good_form hga) (by omega) hla) ?_
  rintro _ w74 ⟨z65, L69, R70, B71, q72, G73, rfl, hpk75, hok76, hpx77, hlo78, hx79, hpl66, hpd67, hqn68⟩
  refine ⟨_, rfl, ?_⟩
  have hX80 := hX62.trans hx79 hpin542
  have hb81 := hb63.extS hx79 (NP.notb hnp53x)
  have hnp82 := NP.call hnp53x hlo78 (box_lt hb63)
  have hpin83 := PIn.call hpin542 hlo78 hX62.size
  have hql84 := hpx77.len
  have hml85 : (q72.ns.map Nd.l).length = q72.ns.length ∧ (q72.ns.map Nd.r).length = q72.ns.length := ⟨List.length_map .., List.length_map ..⟩
  have hml86 : q72.bs.length = q72.ns.length ∧ q72.ns.length ≤ 1048576 := ⟨hok76.ar.ok.len, hok76.ar.ok.lim⟩
  refine ⟨fun _ => (Pins.of_le hX80.pins hx79.le), ?_⟩
  refine zQ (i := 8) (by kernel_rfl) (zW (i := 8) rfl rfl rfl (zH rfl _) (zM (vs := [(.pointer (some ⟨p41, 0, none⟩)), (.agg [v].toArray)]) Tryz.func57 nm57 rfl rfl rfl ?_))
  refine Calls.mono (root_spec hX80.pins hpk75 hok76 (hv.mono (Pin.le_trans (Pin.le_trans (Pin.le_trans (Pin.le_trans hle10 hle23) hx37.le) hx47.le) hx79.le)) (good_form hgb) (by omega) hlb) ?_
  rintro _ w96 ⟨z87, L91, R92, B93, q94, G95, rfl, hpk97, hok98, hpx99, hlo100, hx101, hpl88, hpd89, hqn90⟩
  refine ⟨_, rfl, ?_⟩
  have hX102 := hX80.trans hx101 hpin83
  have hb103 := hb81.extS hx101 (NP.notb hnp82)
  have hnp104 := NP.call hnp82 hlo100 (box_lt hb81)
  have hpin105 := PIn.call hpin83 hlo100 hX80.size
  have hql106 := hpx99.len
  have hml107 : (q94.ns.map Nd.l).length = q94.ns.length ∧ (q94.ns.map Nd.r).length = q94.ns.length := ⟨List.length_map .., List.length_map ..⟩
  have hml108 : q94.bs.length = q94.ns.length ∧ q94.ns.length ≤ 1048576 := ⟨hok98.ar.ok.len, hok98.ar.ok.lim⟩
  refine ⟨fun _ => (Pins.of_le hX102.pins (Pin.le_trans hx79.le hx101.le)), ?_⟩
  have hpz := hpd89
  refine zQ (i := 9) (by kernel_rfl) (zW (i := 9) rfl rfl rfl (zH rfl _) (zM (vs := [(.pointer (some ⟨p41, 0, none⟩)), (.int .i64 z87)]) Tryz.func78 nm78 rfl rfl rfl ?_))
  refine Calls.mono (neg_spec hX102.pins hpk97 hok98 hpl88 (qz := q94) (S := (subL gs).map negG) (Bud.start (by rw [List.length_map, subL_len]; omega)) (fun x hx => List.mem_map.2 ⟨x, subL_mem (good_sg hgb) (by rw [hpz] at hx; exact hx), rfl⟩)) ?_
  rintro _ w118 ⟨z109, L113, R114, B115, q116, G117, rfl, hpk119, hok120, hpx121, hlo122, hx123, hpl110, hpd111, hbu112⟩
  refine ⟨_, rfl, ?_⟩
  have hX124 := hX102.trans hx123 hpin105
  have hb125 := hb103.extS hx123 (NP.notb hnp104)
  have hnp126 := NP.call hnp104 hlo122 (box_lt hb103)
  have hpin127 := PIn.call hpin105 hlo122 hX102.size
  have hql128 := hpx121.len
  have hml129 : (q116.ns.map Nd.l).length = q116.ns.length ∧ (q116.ns.map Nd.r).length = q116.ns.length := ⟨List.length_map .., List.length_map ..⟩
  have hml130 : q116.bs.length = q116.ns.length ∧ q116.ns.length ≤ 1048576 := ⟨hok120.ar.ok.len, hok120.ar.ok.lim⟩
  have hpn131 := hpd111.trans (by rw [hpz])
  have hbl132 := hbu112.len hok120
  rw [List.length_map, subL_len] at hbl132
  refine ⟨fun _ => (Pins.of_le hX124.pins (Pin.le_trans (Pin.le_trans hx79.le hx101.le) hx123.le)), ?_⟩
  have hpza := (((PX.trans hpx99 hpx121).pd hok76 hok120 hpl66).trans hpd67)
  have hpzb := hpn131
  have hza := (((PX.trans hpx99 hpx121).place hpl66)).2
  have hzb := (hpl110).2
  refine zQ (i := 10) (by kernel_rfl) (zW (i := 10) rfl rfl rfl (zH rfl _) (zM (vs := [(.pointer (some ⟨p41, 0, none⟩)), (.int .i64 z65), (.int .i64 z109)]) Tryz.func85 nm85 rfl rfl rfl ?_))
  refine Calls.mono (sum_spec hX124.pins hpk119 hok120 (((PX.trans hpx99 hpx121).place hpl66)) (hpl110) (qz := q116) (S := prodL (subL fs) ((subL gs).map negG)) (Bud.start (by rw [prod_len, List.length_map, subL_len, subL_len]; omega)) (fun x y hx hy => prod_mem (subL_mem (good_sg hga) (by rw [hpza] at hx; exact hx)) (List.mem_map.2 (neg_sub_mem hgb (by rw [hpzb] at hy; exact hy)))) ⟨by omega, by omega⟩) ?_
  rintro _ w142 ⟨z133, L137, R138, B139, q140, G141, rfl, hpk143, hok144, hpx145, hlo146, hx147, hpl134, hpd135, hbu136⟩
  refine ⟨_, rfl, ?_⟩
  have hX148 := hX124.trans hx147 hpin127
  have hb149 := hb125.extS hx147 (NP.notb hnp126)
  have hpin151 := PIn.call hpin127 hlo146 hX124.size
  have hql152 := hpx145.len
  have hml153 : (q140.ns.map Nd.l).length = q140.ns.length ∧ (q140.ns.map Nd.r).length = q140.ns.length := ⟨List.length_map .., List.length_map ..⟩
  have hml154 : q140.bs.length = q140.ns.length ∧ q140.ns.length ≤ 1048576 := ⟨hok144.ar.ok.len, hok144.ar.ok.lim⟩
  refine ⟨fun _ => (Pins.of_le hX148.pins (Pin.le_trans (Pin.le_trans (Pin.le_trans hx79.le hx101.le) hx123.le) hx147.le)), ?_⟩
  refine zQ (i := 11) (by kernel_rfl) (zW (i := 11) rfl rfl rfl (zH rfl _) (zM (vs := [(.pointer (some ⟨p41, 0, none⟩)), (.int .i64 z133)]) Tryz.func67 nm67 rfl rfl rfl ?_))
  refine Calls.mono (form_spec hX148.pins hpk143 hok144 hpl134) ?_
  rintro _ w157 ⟨u155, G156, rfl, hd158, hx159⟩
  refine ⟨_, rfl, ?_⟩
  have hX160 := hX148.tr hx159
  have hb161 := hb149.ext hx159
  have hone163 := hd158.one
  refine ⟨fun _ => (Pins.of_le hX160.pins (Pin.le_trans (Pin.le_trans (Pin.le_trans (Pin.le_trans hx79.le hx101.le) hx123.le) hx147.le) hx159.le)), ?_⟩
  refine dT (i := 12) rfl rfl (by kernel_rfl) (fun _ _ => yX (v := (.agg [u155].toArray)) rfl rfl) (Pins.of_le hX160.pins (Pin.le_trans (Pin.le_trans (Pin.le_trans (Pin.le_trans hx79.le hx101.le) hx123.le) hx147.le) hx159.le)) ?_
  refine dT (i := 13) rfl rfl (by kernel_rfl) (fun _ _ => yX (v := (.bool (fitB (pd q140 z133)))) rfl rfl) (Pins.of_le hX160.pins (Pin.le_trans (Pin.le_trans (Pin.le_trans (Pin.le_trans hx79.le hx101.le) hx123.le) hx147.le) hx159.le)) ?_
  refine zQ (i := 14) (by kernel_rfl) (qJ (i := 14) rfl rfl rfl (zH rfl _) (xF (cs' := [u155]) (us := [u155]) (v := (.agg [u155].toArray)) sz32 rfl rfl rfl (yZ hone163) hX160.pins hb161 (Nat.le_of_ble_eq_true rfl) rfl (fun w164 hb165 hp166 hg167 hz168 => ?_)))
  have hX169 := hX160.write hp166 hg167 ((yW hlo34))
  have hd170 := hd158.kept hg167 (Or.inr hb149.lt)
  have hs171 := Nat.le_trans (Nat.le_refl w157.heap.size) hg167.size
  refine ⟨fun _ => (Pins.of_le hX169.pins (Pin.le_trans (Pin.le_trans (Pin.le_trans (Pin.le_trans hx79.le hx101.le) hx123.le) hx147.le) hx159.le)), ?_⟩
  refine dT (i := 15) rfl rfl (by kernel_rfl) (fun _ _ => zC (v := (.bool (fitB (pd q140 z133)))) rfl) (Pins.of_le hX169.pins (Pin.le_trans (Pin.le_trans (Pin.le_trans (Pin.le_trans hx79.le hx101.le) hx123.le) hx147.le) hx159.le)) ?_
  refine yU (by kernel_rfl) ?_
  refine zA ?_
  refine wp_ret ?_
  refine zX ?_
  refine c_retct (cs := [u155]) (v := (.bool (fitB (pd q140 z133)))) rfl rfl rfl rfl rfl ag32 sz32 (fun j u hj => by rw [Nat.zero_add]; exact hb165.cell hj) ?_
  have hgz : pd q140 z133 = addG (gOf fs) (negG (gOf gs)) := hpd135.trans (by rw [hpza, hpzb])
  obtain ⟨e1, e2⟩ := min_yes (pair_iff.2 hpp)
  rw [e1, e2, ← hgz]
  exact ⟨_, _, rfl, (hd170.wide hX148.size hs171), hX169⟩
 refine zF (zG ?_)
 refine qD rfl (xU [(.slice none 0 0)] [(.slice none 0 0)] [] Tryz.underlying32 zr32 rfl pl32 rfl (fun _ h => by cases h) rfl) ?_
 refine q0 rfl rfl rfl (xF (cs' := [(.slice none 0 0)]) (us := [(.slice none 0 0)]) (v := (.agg [(.slice none 0 0)].toArray)) sz32 rfl rfl rfl (yZ (by rfl)) hX38.pins hb39 (Nat.le_of_ble_eq_true rfl) rfl (fun w173 hb174 hp175 hg176 hz177 => ?_))
 have hX178 := hX38.write hp175 hg176 ((yW hlo34))
 refine qD rfl (zC (v := (.bool false)) rfl) ?_
 refine qe (zA ?_)
 refine wp_ret ?_
 refine zX ?_
 refine c_retct (cs := [(.slice none 0 0)]) (v := (.bool false)) rfl rfl rfl rfl rfl ag32 sz32 (fun j u hj => by rw [Nat.zero_add]; exact hb174.cell hj) ?_
 obtain ⟨e1, e2⟩ := min_no (h40)
 rw [e1, e2]
 exact ⟨_, _, rfl, DForm.nil, hX178⟩

end SM1
end Go.Proofs.YtpknebplcmgnkaaGreatDoor

set_option maxRecDepth 20000
set_option maxHeartbeats 2000000
namespace Go.Proofs.YtpknebplcmgnkaaGreatDoor
namespace LM1
open Go.RowKit Go.GL Go.Proofs
open Go.Proofs.YtpknebplcmgnkaaGreatDoor.B1
open Go.Proofs.YtpknebplcmgnkaaGreatDoor.C1
open Go.Proofs.YtpknebplcmgnkaaGreatDoor.D1
open Go.Proofs.YtpknebplcmgnkaaGreatDoor.E1
open Go.Proofs.YtpknebplcmgnkaaGreatDoor.G1
open Go.Proofs.YtpknebplcmgnkaaGreatDoor.L1
open Go.Proofs.YtpknebplcmgnkaaGreatDoor.NF1
open Go.Proofs.YtpknebplcmgnkaaGreatDoor.SM1
























theorem szFormT_spec {w : World} {G : Pin} {v : Value} {ns : List Nd} {left : Int} (hP : Pins G w) (hv : RSl eNode G v ns) (hl : 0 ≤ left ∧ left ≤ 1048576) :
  Calls Tryz.prog 15 [(.agg [v].toArray), (.int .i64 left)].toArray w fun e w' => ∃ z G', e = .returned (.int .i64 z) ∧ (z < 0 ∨ 0 ≤ z ∧ z + totN ns ≤ left ∧ Small ns) ∧ Ext noS G w G' w' := by
 refine yB (n := 12) Tryz.func15 Tryz.ntmps15 rfl rfl ?_
 have hX0 : Ext noS G w G w := Ext.refl hP
 refine zF (zG ?_)
 refine qI rfl (xO [v] (v := (.agg [v].toArray)) rfl rfl hX0.pins (fun b1 w2 hk3 hb4 hp5 hl6 => ?_))
 have hX7 := hX0.step hp5 hl6
 have hlo8 : w.heap.size ≤ b1 := by have := hX0.size; omega
 obtain ⟨G9, hle10, hX11, hbp12, hf13⟩ := hb4.shut hX7 hlo8
 refine qD rfl (zC (v := (.int .i64 0)) rfl) ?_
 refine qe (zA (zF (zG ?_)))
 refine qD rfl (zR (k := 0) rfl Tryz.underlying24 rfl nz22 rfl) ?_
 refine qD rfl (zS (u := v) ag22 rfl (hX11.pins _ _ _ (hbp12 0 _ rfl))) ?_
 refine qD rfl (zB (v := (.int .i64 left)) rfl) ?_
 refine qI rfl (zM (vs := [v, (.int .i64 left)]) Tryz.func50 nm50 rfl rfl rfl ?_)
 refine Calls.mono (szNodeS_spec hX11.pins (hv.mono hle10) (by omega)) ?_
 rintro _ w15 ⟨G14, rfl, hx16⟩
 refine ⟨_, rfl, ?_⟩
 have hX17 := hX11.tr hx16
 refine qD rfl (zC (v := (.int .i64 (szNds ns left))) rfl) ?_
 refine qe (zA (zF (zF (zG ?_))))
 refine qD rfl (zB (v := (.int .i64 (szNds ns left))) rfl) ?_
 refine qD rfl (yR rfl rfl) ?_
 refine qe (zA ?_)
 refine yD (p := (szNds ns left : Int) < 0) rfl rfl (fun h18 => ?_) (fun h18 => ?_)
 ·skip
  refine zF (zG ?_)
  refine qD rfl (zC (v := (.int .i64 (-1))) rfl) ?_
  refine qe (zA ?_)
  refine wp_ret ?_
  refine zX ?_
  refine zT (v := (.int .i64 (-1))) rfl rfl rfl ?_
  exact ⟨_, _, rfl, Or.inl (by omega), hX17⟩
 refine wp_skip ?_
 refine zA (zF (zG ?_))
 refine qD rfl (zB (v := (.int .i64 (szNds ns left))) rfl) ?_
 refine qD rfl (zC (v := (.int .i64 (szNds ns left))) rfl) ?_
 refine qe (zA ?_)
 refine wp_ret ?_
 refine zX ?_
 refine zT (v := (.int .i64 (szNds ns left))) rfl rfl rfl ?_
 have hzl := szNds_le h18
 have hzt := szNds_tot h18
 exact ⟨_, _, rfl, Or.inr ⟨by omega, by omega, small_le h18 hl.2⟩, hX17⟩

theorem markNodeX_spec {w : World} {G : Pin} {v : Value} {ps : List (Value × Value)} {ns : List Nd} {kz : Int} {lo hi : Nat} (hP : Pins G w) (ho : Own eVal2 103 G w 0 v ps) (hpl : ps.length = ns.length) (hav : ∀ u ∈ leafV ps, Apart u.ownBlock v.ownBlock) (hF : Lvs 3 G w lo hi (lvN ps ns)) (hsm : Small ns) (hk : 0 ≤ kz ∧ kz ≤ 1099511627776) :
  Calls Tryz.prog 68 [v, (.int .i64 kz)].toArray w fun e w' => e = .returned (.int .i64 (kz + totN ns)) ∧ Lvs 3 G w' lo hi (lvN ps (markN kz ns)) ∧ Ext (inV (leafV ps)) G w G w' := by
 refine yB (n := 27) Tryz.func68 Tryz.ntmps68 rfl rfl ?_
 have hX0 : Ext (inV (leafV ps)) G w G w := Ext.refl hP
 have hln := hsm.len
 refine zF (zG ?_)
 refine qD rfl (zC (v := (.int .i64 0)) rfl) ?_
 refine qe (zA (zF (zF (zG ?_))))
 refine qD rfl (zC (v := (.int .i64 0)) rfl) ?_
 refine qe (zA ?_)
 refine zY ?_
 refine yN (fun (k : Nat) (en : Nat → Value) (W : World) => ∃ (env1 : Nat → Value) (j : Nat) (q : Int) (A : List Leaf), en = (upd (upd (upd (upd env1 0 v) 1 (.int .i64 q)) 4 (.int .i64 0)) 5 (.int .i64 (j : Int))) ∧ k = ps.length - j ∧ Ext (inV (leafV ps)) G w G W ∧ (j ≤ ps.length) ∧ (0 ≤ q ∧ q ≤ kz + 2097152 * (j : Int)) ∧ (kz + totN ns = q + totN (ns.drop j)) ∧ (lvN ps (markN kz ns) = A ++ lvN (ps.drop j) (markN q (ns.drop j))) ∧ (Lvs 3 G W lo hi (A ++ lvN (ps.drop j) (ns.drop j))) ∧ (Own eVal2 103 G W 0 v (ps))) _ ⟨_, 0, kz, [], (zD (x := 5) (zD (x := 4) (zD (x := 1) (zU (x := 0) rfl) rfl) rfl) rfl), rfl, hX0, Nat.zero_le _, (by omega), rfl, rfl, hF, ho⟩ ?_
 rintro k1 _ w2 ⟨env1, j, q, A, rfl, hk3, hX4, hj, hq, hqt, hA, hF1, hw5⟩
 refine zF (zF (zG ?_))
 refine qD rfl (zB (v := (.int .i64 (j : Int))) rfl) ?_
 refine qD rfl (zB (v := v) rfl) ?_
 refine qD rfl (zN Tryz.underlying30 (v := v) rfl hw5.read) ?_
 refine qD rfl (yR rfl rfl) ?_
 refine qe (zA ?_)
 refine yD (p := ((j : Int) : Int) < (ps.length : Int)) rfl rfl (fun h6 => ?_) (fun h6 => ?_)
 ·skip
  have hso := hsm.opts j (by omega)
  refine wp_skip ?_
  refine zA (zF ?_)
  refine zY ?_
  refine zF (zG ?_)
  refine qD rfl (zB (v := v) rfl) ?_
  refine qD rfl (zB (v := (.int .i64 (j : Int))) rfl) ?_
  refine qD rfl (zL Tryz.underlying30 yQ (v := v) rfl rfl hw5.read (by omega) (by omega)) ?_
  refine qD rfl (xE (off := 0) Tryz.underlying103 rfl rfl nz67 (z := (j : Int)) (k := 0) rfl hw5.read (by omega) (by omega)) ?_
  obtain ⟨cs7, hrep8, hagg9, hcell10⟩ := nm_el (j := j) default (hw5.at (z := (j : Int)) (by omega) (by omega)) rfl
  obtain ⟨rfl, hone13⟩ := hrep8
  obtain ⟨u11, hu12⟩ : ∃ u, u = (ps.getD j default).1 := ⟨_, rfl⟩
  refine qD rfl (hcell10 0 u11 (by rw [hu12]; rfl) ag67 rfl (Gadd.pins hX4.pins v)) ?_
  refine qD rfl (zB (v := (.int .i64 q)) rfl) ?_
  have hmem17 : u11 ∈ leafV ps := by rw [hu12]; exact (leafV_mem (by omega)).1
  have hL18 : Lvs 3 G w2 lo hi (A ++ (u11, (ns.getD j default).l) :: (((ps.getD j default).2, (ns.getD j default).r) :: lvN (ps.drop (j + 1)) (ns.drop (j + 1)))) := by rw [hu12, ← lvN_next (by omega) (by omega)]; exact hF1
  refine qI rfl (zM (vs := [u11, (.int .i64 q)]) Tryz.func111 nm111 rfl rfl rfl ?_)
  refine Calls.mono (markIntS_spec hX4.pins ((hL18.own _ (List.mem_append_right _ List.mem_cons_self)).weaken (Nat.zero_le _)) (by omega) (hso.1)) ?_
  rintro _ w14 ⟨rfl, ho15, hx16⟩
  refine ⟨_, rfl, ?_⟩
  have hg20 := mark_grown hx16
  have hX21 := hX4.write hx16.pins hg20 (fun k hk => Or.inr ⟨_, hmem17, hk⟩)
  have ho22 := hw5.keptA hg20 (hav _ hmem17).symm
  have hL19 := Lvs.step hL18 (ho15.up (fun k hk => ((hL18.own _ (List.mem_append_right _ List.mem_cons_self)).lt k hk).1)) hg20
  refine qD rfl (zC (v := (.int .i64 (q + ((ns.getD j default).l.length : Int)))) rfl) ?_
  refine qe (zA (zG ?_))
  refine qD rfl (zB (v := v) rfl) ?_
  refine qD rfl (zB (v := (.int .i64 (j : Int))) rfl) ?_
  refine qD rfl (zL Tryz.underlying30 yQ (v := v) rfl rfl ho22.read (by omega) (by omega)) ?_
  refine qD rfl (xE (off := 1) Tryz.underlying103 rfl rfl nz67 (z := (j : Int)) (k := 0) rfl ho22.read (by omega) (by omega)) ?_
  obtain ⟨cs23, hrep24, hagg25, hcell26⟩ := nm_el (j := j) default (ho22.at (z := (j : Int)) (by omega) (by omega)) rfl
  obtain ⟨rfl, hone29⟩ := hrep24
  obtain ⟨u27, hu28⟩ : ∃ u, u = (ps.getD j default).2 := ⟨_, rfl⟩
  refine qD rfl (hcell26 1 u27 (by rw [hu28]; rfl) ag67 rfl (Gadd.pins hX21.pins v)) ?_
  refine qD rfl (zB (v := (.int .i64 (q + ((ns.getD j default).l.length : Int)))) rfl) ?_
  have hmem33 : u27 ∈ leafV ps := by rw [hu28]; exact (leafV_mem (by omega)).2
  have hL34 : Lvs 3 G w14 lo hi ((A ++ [(u11, upL (q) (ns.getD j default).l.length)]) ++ (u27, (ns.getD j default).r) :: lvN (ps.drop (j + 1)) (ns.drop (j + 1))) := by rw [hu28, List.append_assoc]; exact hL19
  refine qI rfl (zM (vs := [u27, (.int .i64 (q + ((ns.getD j default).l.length : Int)))]) Tryz.func111 nm111 rfl rfl rfl ?_)
  refine Calls.mono (markIntS_spec hX21.pins ((hL34.own _ (List.mem_append_right _ List.mem_cons_self)).weaken (Nat.zero_le _)) (by omega) (hso.2)) ?_
  rintro _ w30 ⟨rfl, ho31, hx32⟩
  refine ⟨_, rfl, ?_⟩
  have hg36 := mark_grown hx32
  have hX37 := hX21.write hx32.pins hg36 (fun k hk => Or.inr ⟨_, hmem33, hk⟩)
  have ho38 := ho22.keptA hg36 (hav _ hmem33).symm
  have hL35 := Lvs.step hL34 (ho31.up (fun k hk => ((hL34.own _ (List.mem_append_right _ List.mem_cons_self)).lt k hk).1)) hg36
  refine qD rfl (zC (v := (.int .i64 ((q + ((ns.getD j default).l.length : Int)) + ((ns.getD j default).r.length : Int)))) rfl) ?_
  refine qe ?_
  refine yJ ?_
  refine zA (zG ?_)
  refine qD rfl (zB (v := (.int .i64 (j : Int))) rfl) ?_
  refine qD rfl (yS rfl rfl (by omega)) ?_
  refine qD rfl (zC (v := (.int .i64 ((j : Int) + 1))) rfl) ?_
  refine qe ?_
  refine yI ?_
  refine ⟨_, ?_, _, rfl, _, j + 1, (q + ((ns.getD j default).l.length : Int)) + ((ns.getD j default).r.length : Int), A ++ [(u11, upL (q) (ns.getD j default).l.length)] ++ [(u27, upL (q + ((ns.getD j default).l.length : Int)) (ns.getD j default).r.length)], (zD (x := 5) (zD (x := 4) (zD (x := 1) (zU (x := 0) rfl) rfl) rfl) rfl), rfl, hX37, (by omega), (by omega), (hqt.trans (by rw [totN_next (by omega)]; omega)), (hA.trans (by rw [lvN_markN (by omega) (by omega), List.append_assoc, List.append_assoc, ← hu12, ← hu28]; rfl)), (by rw [List.append_assoc]; exact hL35), ho38⟩
  omega
 refine wp_exit ?_
 refine yA ?_
 refine yL ?_
 refine yK ?_
 refine zA (zF (zG ?_))
 refine qD rfl (zB (v := (.int .i64 q)) rfl) ?_
 refine qD rfl (zC (v := (.int .i64 q)) rfl) ?_
 refine qe (zA ?_)
 refine wp_ret ?_
 refine zX ?_
 refine zT (v := (.int .i64 q)) rfl rfl rfl ?_
 rw [lvN_end (by omega), List.append_nil] at hA
 rw [lvN_end (by omega), List.append_nil] at hF1
 exact ⟨congrArg (fun z => Ending.returned (Value.int .i64 z)) (by rw [hqt, totN_end (by omega)]; omega), (by rw [hA]; exact hF1), hX4⟩

theorem markFormX_spec {w : World} {G : Pin} {v : Value} {ns : List Nd} {kz : Int} {lo hi : Nat} (hP : Pins G w) (hd : DForm 103 3 G w lo hi v ns) (hsz : hi ≤ w.heap.size) (hsm : Small ns) (hk : 0 ≤ kz ∧ kz ≤ 1099511627776) :
  Calls Tryz.prog 25 [(.agg [v].toArray), (.int .i64 kz)].toArray w fun e w' => e = .returned (.int .i64 (kz + totN ns)) ∧ DForm 103 3 G w' lo hi v (markN kz ns) ∧ Ext (inR lo hi) G w G w' := by
 refine yB (n := 10) Tryz.func25 Tryz.ntmps25 rfl rfl ?_
 have hX0 : Ext (inR lo hi) G w G w := Ext.refl hP
 refine zF (zG ?_)
 refine qI rfl (xO [v] (v := (.agg [v].toArray)) rfl rfl hX0.pins (fun b1 w2 hk3 hb4 hp5 hl6 => ?_))
 have hX7 := hX0.step hp5 hl6
 have hd8 := hd.below hl6
 have hs9 := Nat.le_trans hsz hl6.size
 have ha10 : hi ≤ b1 ∨ b1 < lo := Or.inl (by have e := Option.some.inj (congrArg some hk3); have := hsz; omega)
 have hlo11 : w.heap.size ≤ b1 := by have := hX0.size; omega
 obtain ⟨G12, hle13, hX14, hbp15, hf16⟩ := hb4.shut hX7 hlo11
 have hd17 := hd8.more hle13 hf16 ha10
 refine qD rfl (zC (v := (.int .i64 0)) rfl) ?_
 refine qe (zA (zF (zG ?_)))
 refine qD rfl (zR (k := 0) rfl Tryz.underlying32 rfl nz30 rfl) ?_
 refine qD rfl (zS (u := v) ag30 rfl (hX14.pins _ _ _ (hbp15 0 _ rfl))) ?_
 refine qD rfl (zB (v := (.int .i64 kz)) rfl) ?_
 obtain ⟨ps18, ho19, hpl20, hav21, hL22, hin23, hst24⟩ := hd17.mark
 refine qI rfl (zM (vs := [v, (.int .i64 kz)]) Tryz.func68 nm68 rfl rfl rfl ?_)
 refine Calls.mono (markNodeX_spec hX14.pins ho19 hpl20 hav21 hL22 hsm hk) ?_
 rintro _ w25 ⟨rfl, hL26, hx27⟩
 refine ⟨_, rfl, ?_⟩
 have hX28 := hX14.trans hx27 (fun i hi => Or.inr (hin23 i hi))
 have hd29 := hst24 (markN_length _ _) hL26 hx27
 refine qD rfl (zC (v := (.int .i64 (kz + totN ns))) rfl) ?_
 refine qe (zA (zF (zG ?_)))
 refine qD rfl (zB (v := (.int .i64 (kz + totN ns))) rfl) ?_
 refine qD rfl (zC (v := (.int .i64 (kz + totN ns))) rfl) ?_
 refine qe (zA ?_)
 refine wp_ret ?_
 refine zX ?_
 refine zT (v := (.int .i64 (kz + totN ns))) rfl rfl rfl ?_
 exact ⟨rfl, hd29.anti hle13, hX28.shrink⟩

theorem heldNodeS_spec {w : World} {G : Pin} {v : Value} {ns : List Nd} {kz : Int} (hP : Pins G w) (hv : RSl eNode G v (markN kz ns)) (hsm : Small ns) (hk : 0 ≤ kz ∧ kz ≤ 1099511627776) :
  Calls Tryz.prog 69 [v, (.int .i64 kz)].toArray w fun e w' => e = .returned (.int .i64 (kz + totN ns)) ∧ w' = w := by
 refine yB (n := 31) Tryz.func69 Tryz.ntmps69 rfl rfl ?_
 have hX0 : Ext noS G w G w := Ext.refl hP
 have hul := markN_length kz ns
 have hln := hsm.len
 refine zF (zG ?_)
 refine qD rfl (zC (v := (.int .i64 0)) rfl) ?_
 refine qe (zA (zF (zF (zG ?_))))
 refine qD rfl (zC (v := (.int .i64 0)) rfl) ?_
 refine qe (zA ?_)
 refine zY ?_
 refine yN (fun (k : Nat) (en : Nat → Value) (W : World) => ∃ (env1 : Nat → Value) (j : Nat) (q : Int), en = (upd (upd (upd env1 0 v) 1 (.int .i64 q)) 5 (.int .i64 (j : Int))) ∧ k = ns.length - j ∧ Ext noS G w G W ∧ (j ≤ ns.length) ∧ (W = w) ∧ (0 ≤ q ∧ q ≤ kz + 2097152 * (j : Int)) ∧ (kz + totN ns = q + totN (ns.drop j)) ∧ (markN kz ns).drop j = markN q (ns.drop j)) _ ⟨_, 0, kz, (zD (x := 5) (zD (x := 1) (zU (x := 0) rfl) rfl) rfl), rfl, hX0, Nat.zero_le _, rfl, (by omega), rfl, rfl⟩ ?_
 rintro k1 _ w2 ⟨env1, j, q, rfl, hk3, hX4, hj, hw, hq, hqt, hA⟩
 subst hw
 refine zF (zF (zG ?_))
 refine qD rfl (zB (v := (.int .i64 (j : Int))) rfl) ?_
 refine qD rfl (zB (v := v) rfl) ?_
 refine qD rfl (zN Tryz.underlying30 (v := v) rfl hv) ?_
 refine qD rfl (yR rfl rfl) ?_
 refine qe (zA ?_)
 refine yD (p := ((j : Int) : Int) < ((markN kz ns).length : Int)) rfl rfl (fun h5 => ?_) (fun h5 => ?_)
 ·skip
  have hso := hsm.opts j (by omega)
  have hAj := markN_at (show j < ns.length by omega) hA
  refine wp_skip ?_
  refine zA (zF ?_)
  refine zY ?_
  refine zF (zG ?_)
  refine qD rfl (zB (v := v) rfl) ?_
  refine qD rfl (zB (v := (.int .i64 (j : Int))) rfl) ?_
  refine qD rfl (zL Tryz.underlying30 yQ (v := v) rfl rfl hv (by omega) (by omega)) ?_
  refine qD rfl (xE (off := 0) Tryz.underlying103 rfl rfl nz67 (z := (j : Int)) (k := 0) rfl hv (by omega) (by omega)) ?_
  obtain ⟨u6, hr7, hl8⟩ := nm_nl (hv.at (z := (j : Int)) (by omega) (by omega)) (j := j) rfl
  have hm9 := hr7.max
  refine qD rfl (hl8 ag67 rfl hX4.pins) ?_
  refine qD rfl (zB (v := (.int .i64 q)) rfl) ?_
  refine qI rfl (zM (vs := [u6, (.int .i64 q)]) Tryz.func112 nm112 rfl rfl rfl ?_)
  refine Calls.mono (heldIntS_spec (n := (ns.getD j default).l.length) hX4.pins (by rw [← hAj.1]; exact hr7) (by omega) (hso.1)) ?_
  rintro _ _ ⟨rfl, rfl⟩
  refine ⟨_, rfl, ?_⟩
  refine qD rfl (zC (v := (.int .i64 (q + (((ns.getD j default).l.length : Int) : Int)))) rfl) ?_
  refine qe (zA (zF (zF (zG ?_))))
  refine qD rfl (zB (v := (.int .i64 (q + (((ns.getD j default).l.length : Int) : Int)))) rfl) ?_
  refine qD rfl (yR rfl rfl) ?_
  refine qe (zA ?_)
  refine yD (p := (q + (((ns.getD j default).l.length : Int) : Int) : Int) < 0) rfl rfl (fun h10 => ?_) (fun h10 => ?_)
  ·skip
   refine zF (zG ?_)
   refine qD rfl (zC (v := (.int .i64 (-1))) rfl) ?_
   refine qe (zA ?_)
   refine wp_ret ?_
   refine zX ?_
   refine zT (v := (.int .i64 (-1))) rfl rfl rfl ?_
   exact absurd h10 (by omega)
  refine wp_skip ?_
  refine zA (zF (zG ?_))
  refine qD rfl (zB (v := v) rfl) ?_
  refine qD rfl (zB (v := (.int .i64 (j : Int))) rfl) ?_
  refine qD rfl (zL Tryz.underlying30 yQ (v := v) rfl rfl hv (by omega) (by omega)) ?_
  refine qD rfl (xE (off := 1) Tryz.underlying103 rfl rfl nz67 (z := (j : Int)) (k := 0) rfl hv (by omega) (by omega)) ?_
  obtain ⟨u11, hr12, hl13⟩ := nm_nr (hv.at (z := (j : Int)) (by omega) (by omega)) (j := j) rfl
  have hm14 := hr12.max
  refine qD rfl (hl13 ag67 rfl hX4.pins) ?_
  refine qD rfl (zB (v := (.int .i64 (q + (((ns.getD j default).l.length : Int) : Int)))) rfl) ?_
  refine qI rfl (zM (vs := [u11, (.int .i64 (q + (((ns.getD j default).l.length : Int) : Int)))]) Tryz.func112 nm112 rfl rfl rfl ?_)
  refine Calls.mono (heldIntS_spec (n := (ns.getD j default).r.length) hX4.pins (by rw [← hAj.2.1]; exact hr12) (by omega) (hso.2)) ?_
  rintro _ _ ⟨rfl, rfl⟩
  refine ⟨_, rfl, ?_⟩
  refine qD rfl (zC (v := (.int .i64 ((q + (((ns.getD j default).l.length : Int) : Int)) + (((ns.getD j default).r.length : Int) : Int)))) rfl) ?_
  refine qe (zA (zF (zG ?_)))
  refine qD rfl (zB (v := (.int .i64 ((q + (((ns.getD j default).l.length : Int) : Int)) + (((ns.getD j default).r.length : Int) : Int)))) rfl) ?_
  refine qD rfl (yR rfl rfl) ?_
  refine qe (zA ?_)
  refine yD (p := ((q + (((ns.getD j default).l.length : Int) : Int)) + (((ns.getD j default).r.length : Int) : Int) : Int) < 0) rfl rfl (fun h15 => ?_) (fun h15 => ?_)
  ·skip
   refine zF (zG ?_)
   refine qD rfl (zC (v := (.int .i64 (-1))) rfl) ?_
   refine qe (zA ?_)
   refine wp_ret ?_
   refine zX ?_
   refine zT (v := (.int .i64 (-1))) rfl rfl rfl ?_
   exact absurd h15 (by omega)
  refine wp_skip ?_
  refine yJ ?_
  refine zA (zG ?_)
  refine qD rfl (zB (v := (.int .i64 (j : Int))) rfl) ?_
  refine qD rfl (yS rfl rfl (by omega)) ?_
  refine qD rfl (zC (v := (.int .i64 ((j : Int) + 1))) rfl) ?_
  refine qe ?_
  refine yI ?_
  refine ⟨_, ?_, _, rfl, _, j + 1, (q + (((ns.getD j default).l.length : Int) : Int)) + (((ns.getD j default).r.length : Int) : Int), (zD (x := 5) (zD (x := 1) (zU (x := 0) rfl) rfl) rfl), rfl, hX4, (by omega), rfl, (by omega), (hqt.trans (by rw [totN_next (by omega)]; omega)), hAj.2.2⟩
  omega
 refine wp_exit ?_
 refine yA ?_
 refine yL ?_
 refine yK ?_
 refine zA (zF (zG ?_))
 refine qD rfl (zB (v := (.int .i64 q)) rfl) ?_
 refine qD rfl (zC (v := (.int .i64 q)) rfl) ?_
 refine qe (zA ?_)
 refine wp_ret ?_
 refine zX ?_
 refine zT (v := (.int .i64 q)) rfl rfl rfl ?_
 exact ⟨congrArg (fun z => Ending.returned (Value.int .i64 z)) (by rw [hqt, totN_end (by omega)]; omega), rfl⟩

theorem heldFormX_spec {w : World} {G : Pin} {v : Value} {ns : List Nd} {kz : Int} (hP : Pins G w) (hv : RSl eNode G v (markN kz ns)) (hsm : Small ns) (hk : 0 ≤ kz ∧ kz ≤ 1099511627776) :
  Calls Tryz.prog 26 [(.agg [v].toArray), (.int .i64 kz)].toArray w fun e w' => ∃ G', e = .returned (.int .i64 (kz + totN ns)) ∧ Ext noS G w G' w' := by
 refine yB (n := 12) Tryz.func26 Tryz.ntmps26 rfl rfl ?_
 have hX0 : Ext noS G w G w := Ext.refl hP
 have htn := qN ns
 refine zF (zG ?_)
 refine qI rfl (xO [v] (v := (.agg [v].toArray)) rfl rfl hX0.pins (fun b1 w2 hk3 hb4 hp5 hl6 => ?_))
 have hX7 := hX0.step hp5 hl6
 have hlo8 : w.heap.size ≤ b1 := by have := hX0.size; omega
 obtain ⟨G9, hle10, hX11, hbp12, hf13⟩ := hb4.shut hX7 hlo8
 refine qD rfl (zC (v := (.int .i64 0)) rfl) ?_
 refine qe (zA (zF (zG ?_)))
 refine qD rfl (zR (k := 0) rfl Tryz.underlying32 rfl nz30 rfl) ?_
 refine qD rfl (zS (u := v) ag30 rfl (hX11.pins _ _ _ (hbp12 0 _ rfl))) ?_
 refine qD rfl (zB (v := (.int .i64 kz)) rfl) ?_
 refine qI rfl (zM (vs := [v, (.int .i64 kz)]) Tryz.func69 nm69 rfl rfl rfl ?_)
 refine Calls.mono (heldNodeS_spec hX11.pins (hv.mono hle10) hsm hk) ?_
 rintro _ _ ⟨rfl, rfl⟩
 refine ⟨_, rfl, ?_⟩
 refine qD rfl (zC (v := (.int .i64 (kz + totN ns))) rfl) ?_
 refine qe (zA (zF (zF (zG ?_))))
 refine qD rfl (zB (v := (.int .i64 (kz + totN ns))) rfl) ?_
 refine qD rfl (yR rfl rfl) ?_
 refine qe (zA ?_)
 refine yD (p := (kz + totN ns : Int) < 0) rfl rfl (fun h14 => ?_) (fun h14 => ?_)
 ·skip
  refine zF (zG ?_)
  refine qD rfl (zC (v := (.int .i64 (-1))) rfl) ?_
  refine qe (zA ?_)
  refine wp_ret ?_
  refine zX ?_
  refine zT (v := (.int .i64 (-1))) rfl rfl rfl ?_
  exact absurd h14 (by omega)
 refine wp_skip ?_
 refine zA (zF (zG ?_))
 refine qD rfl (zB (v := (.int .i64 (kz + totN ns))) rfl) ?_
 refine qD rfl (zC (v := (.int .i64 (kz + totN ns))) rfl) ?_
 refine qe (zA ?_)
 refine wp_ret ?_
 refine zX ?_
 refine zT (v := (.int .i64 (kz + totN ns))) rfl rfl rfl ?_
 exact ⟨_, rfl, hX11⟩

theorem eqForm_same {w : World} {G : Pin} {u v : Value} {xs : List Nd} (hP : Pins G w) (hu : RSl eNode G u xs) (hv : RSl eNode G v xs) :
  Calls Tryz.prog 20 [(.agg [u].toArray), (.agg [v].toArray)].toArray w fun e w' => ∃ G', e = .returned (.bool true) ∧ Ext noS G w G' w' := by
 refine (eqForm_spec hP hu hv).mono ?_
 rintro e w' ⟨G', rfl, hx⟩
 exact ⟨G', by simp, hx⟩

theorem qQ {w : World} {G : Pin} {u : Value} {ns : List Nd} {v : Value} {ms : List Nd} (hP : Pins G w) (hu : RSl eNode G u ns) (hv : RSl eNode G v ms) :
  Calls Tryz.prog 49 [(.agg [u].toArray), (.agg [v].toArray)].toArray w fun e w' => ∃ (u : Value) (G' : Pin), e = .returned (.tuple #[.agg [u].toArray, .bool (minB ns ms)]) ∧ RSl eNode G' u (minF ns ms) ∧ Ext noS G w G' w' := by
 refine (iMinusForms_dspec hP hu hv).mono ?_
 rintro e w' ⟨u, G', rfl, hd, hx⟩
 obtain ⟨G'', h1, h2⟩ := hd.give hx
 exact ⟨u, G'', rfl, h1, h2⟩

theorem law {w : World} {G : Pin} {u v : Value} {ns ms : List Nd} (hP : Pins G w) (hu : RSl eNode G u ns) (hv : RSl eNode G v ms) :
  Calls Tryz.prog 14 [(.agg [u].toArray), (.agg [v].toArray)].toArray w fun e w' => ∃ G', e = .returned (.bool true) ∧ Ext noS G w G' w' := by
 refine yB (n := 119) Tryz.func14 Tryz.ntmps14 rfl rfl ?_
 have hX0 : Ext noS G w G w := Ext.refl hP
 have htzns := qN ns
 have htzms := qN ms
 refine zF (zG ?_)
 refine qI rfl (xO [u] (v := (.agg [u].toArray)) rfl rfl hX0.pins (fun b1 w2 hk3 hb4 hp5 hl6 => ?_))
 have hX7 := hX0.step hp5 hl6
 have hlo8 : w.heap.size ≤ b1 := by have := hX0.size; omega
 obtain ⟨G9, hle10, hX11, hbp12, hf13⟩ := hb4.shut hX7 hlo8
 refine qI rfl (xO [v] (v := (.agg [v].toArray)) rfl rfl hX11.pins (fun b14 w15 hk16 hb17 hp18 hl19 => ?_))
 have hX20 := hX11.step hp18 hl19
 have hlo21 : w.heap.size ≤ b14 := by have := hX11.size; omega
 obtain ⟨G22, hle23, hX24, hbp25, hf26⟩ := hb17.shut hX20 hlo21
 refine qD rfl (zC (v := (.bool false)) rfl) ?_
 refine qe (zA (zF (zG ?_)))
 refine qD rfl (zC (v := (.int .i64 1048576)) rfl) ?_
 refine qe (zA (zF (zG ?_)))
 refine qD rfl (yY (cs := [u]) ag24 sz24 rfl (fun j u hj => (Pins.of_le hX24.pins hle23) _ _ _ (hbp12 _ _ (by simpa using hj)))) ?_
 refine qD rfl (zB (v := (.int .i64 1048576)) rfl) ?_
 refine qI rfl (zM (vs := [(.agg [u].toArray), (.int .i64 1048576)]) Tryz.func15 nm15 rfl rfl rfl ?_)
 refine Calls.mono (szFormT_spec hX24.pins (hu.mono (Pin.le_trans hle10 hle23)) (by omega)) ?_
 rintro _ w29 ⟨z27, G28, rfl, hz30, hx31⟩
 refine ⟨_, rfl, ?_⟩
 have hX32 := hX24.tr hx31
 refine qD rfl (zC (v := (.int .i64 z27)) rfl) ?_
 refine qe (zA (zF (zF (zG ?_))))
 refine qD rfl (zB (v := (.int .i64 z27)) rfl) ?_
 refine qD rfl (yR rfl rfl) ?_
 refine qe (zA ?_)
 refine yD (p := (z27 : Int) < 0) rfl rfl (fun h33 => ?_) (fun h33 => ?_)
 ·skip
  refine zF (zG ?_)
  refine qD rfl (zC (v := (.bool true)) rfl) ?_
  refine qe (zA ?_)
  refine wp_ret ?_
  refine zX ?_
  refine zT (v := (.bool true)) rfl rfl rfl ?_
  exact ⟨_, rfl, hX32⟩
 refine wp_skip ?_
 refine zA (zF (zG ?_))
 refine qD rfl (yY (cs := [v]) ag24 sz24 rfl (fun j u hj => (Pins.of_le hX32.pins hx31.le) _ _ _ (hbp25 _ _ (by simpa using hj)))) ?_
 refine qD rfl (zB (v := (.int .i64 z27)) rfl) ?_
 refine qI rfl (zM (vs := [(.agg [v].toArray), (.int .i64 z27)]) Tryz.func15 nm15 rfl rfl rfl ?_)
 refine Calls.mono (szFormT_spec hX32.pins (hv.mono (Pin.le_trans (Pin.le_trans hle10 hle23) hx31.le)) (by omega)) ?_
 rintro _ w36 ⟨z34, G35, rfl, hz37, hx38⟩
 refine ⟨_, rfl, ?_⟩
 have hX39 := hX32.tr hx38
 refine qD rfl (zC (v := (.int .i64 z34)) rfl) ?_
 refine qe (zA (zF (zF (zG ?_))))
 refine qD rfl (zB (v := (.int .i64 z34)) rfl) ?_
 refine qD rfl (yR rfl rfl) ?_
 refine qe (zA ?_)
 refine yD (p := (z34 : Int) < 0) rfl rfl (fun h40 => ?_) (fun h40 => ?_)
 ·skip
  refine zF (zG ?_)
  refine qD rfl (zC (v := (.bool true)) rfl) ?_
  refine qe (zA ?_)
  refine wp_ret ?_
  refine zX ?_
  refine zT (v := (.bool true)) rfl rfl rfl ?_
  exact ⟨_, rfl, hX39⟩
 refine wp_skip ?_
 refine zA (zF ?_)
 have hsnx : Small ns ∧ totN ns ≤ 1048576 ∧ 0 ≤ totN ns := ⟨by rcases hz30 with h | h <;> first | omega | exact h.2.2, by rcases hz30 with h | h <;> omega, qN _⟩
 have hsn := hsnx.1
 have htxns := hsnx.2
 have hsmx : Small ms ∧ totN ms ≤ 1048576 ∧ 0 ≤ totN ms := ⟨by rcases hz37 with h | h <;> first | omega | exact h.2.2, by rcases hz37 with h | h <;> omega, qN _⟩
 have hsm := hsmx.1
 have htxms := hsmx.2
 have htf := qN (minF ns ms)
 refine c_cut (fun (en : Nat → Value) (W : World) => ∃ (env1 : Nat → Value) (c41 : Nat) (c42 : Value) (G43 : Pin), en = (upd (upd (upd (upd (upd env1 2 (.pointer (some ⟨b1, 0, none⟩))) 3 (.pointer (some ⟨b14, 0, none⟩))) 4 (.bool false)) 6 (.pointer (some ⟨c41, 0, none⟩))) 7 (.bool (minB ns ms))) ∧ Ext noS G w G43 W ∧ Pin.le G35 G43 ∧ (RSl eNode G43 c42 (minF ns ms)) ∧ (BxP G43 c41 [c42])) ?_ ?_
 ·rintro _ w44 ⟨env1, c41, c42, G43, rfl, hX47, hle48, hr45, hb46⟩
  refine zA (zF (zG ?_))
  refine qD rfl (yY (cs := [u]) ag24 sz24 rfl (fun j u hj => (Pins.of_le hX47.pins (Pin.le_trans (Pin.le_trans (Pin.le_trans hle23 hx31.le) hx38.le) hle48)) _ _ _ (hbp12 _ _ (by simpa using hj)))) ?_
  refine qI rfl (zM (vs := [(.agg [u].toArray)]) Tryz.func17 nm17 rfl rfl rfl ?_)
  refine Calls.mono (toForm_dspec hX47.pins (hu.mono (Pin.le_trans (Pin.le_trans (Pin.le_trans (Pin.le_trans hle10 hle23) hx31.le) hx38.le) hle48)) hsn) ?_
  rintro _ w51 ⟨u49, G50, rfl, hd52, hx53⟩
  refine ⟨_, rfl, ?_⟩
  have hX54 := hX47.tr hx53
  have hone55 := hd52.one
  refine qI rfl (xB [(.slice none 0 0)] zr32 rfl hX54.pins (fun b56 w57 hk58 hb59 hp60 hl61 => ?_))
  have hX62 := hX54.step hp60 hl61
  have hd63 := hd52.below hl61
  have hs64 := Nat.le_trans (Nat.le_refl w51.heap.size) hl61.size
  have ha65 : w51.heap.size ≤ b56 ∨ b56 < w44.heap.size := Or.inl (by have e := Option.some.inj (congrArg some hk58); have := (Nat.le_refl w51.heap.size); omega)
  have hlo66 : w.heap.size ≤ b56 := by have := hX54.size; omega
  refine q0 rfl rfl rfl (xF (cs' := [u49]) (us := [u49]) (v := (.agg [u49].toArray)) sz32 rfl rfl rfl (yZ hone55) hX62.pins hb59 (Nat.le_of_ble_eq_true rfl) rfl (fun w67 hb68 hp69 hg70 hz71 => ?_))
  have hX72 := hX62.write hp69 hg70 ((yW hlo66))
  have hd73 := hd63.kept hg70 ha65
  have hs74 := Nat.le_trans hs64 hg70.size
  obtain ⟨G75, hle76, hX77, hbp78, hf79⟩ := hb68.shut hX72 hlo66
  have hd80 := hd73.more hle76 hf79 ha65
  refine qe (zA (zF (zG ?_)))
  refine qD rfl (yY (cs := [v]) ag24 sz24 rfl (fun j u hj => (Pins.of_le hX77.pins (Pin.le_trans (Pin.le_trans (Pin.le_trans (Pin.le_trans hx31.le hx38.le) hle48) hx53.le) hle76)) _ _ _ (hbp25 _ _ (by simpa using hj)))) ?_
  have hgx4 := hs74
  refine qI rfl (zM (vs := [(.agg [v].toArray)]) Tryz.func17 nm17 rfl rfl rfl ?_)
  refine Calls.mono (toForm_dspec hX77.pins (hv.mono (Pin.le_trans (Pin.le_trans (Pin.le_trans (Pin.le_trans (Pin.le_trans (Pin.le_trans hle10 hle23) hx31.le) hx38.le) hle48) hx53.le) hle76)) hsm) ?_
  rintro _ w83 ⟨u81, G82, rfl, hd84, hx85⟩
  refine ⟨_, rfl, ?_⟩
  have hX86 := hX77.tr hx85
  have hd87 := hd80.ext hx85
  have hs88 := Nat.le_trans hs74 hx85.size
  have hone89 := hd84.one
  refine qI rfl (xB [(.slice none 0 0)] zr32 rfl hX86.pins (fun b90 w91 hk92 hb93 hp94 hl95 => ?_))
  have hX96 := hX86.step hp94 hl95
  have hd97 := hd87.below hl95
  have hs98 := Nat.le_trans hs88 hl95.size
  have hd99 := hd84.below hl95
  have hs100 := Nat.le_trans (Nat.le_refl w83.heap.size) hl95.size
  have ha101 : w51.heap.size ≤ b90 ∨ b90 < w44.heap.size := Or.inl (by have e := Option.some.inj (congrArg some hk92); have := hs88; omega)
  have ha102 : w83.heap.size ≤ b90 ∨ b90 < w67.heap.size := Or.inl (by have e := Option.some.inj (congrArg some hk92); have := (Nat.le_refl w83.heap.size); omega)
  have hlo103 : w.heap.size ≤ b90 := by have := hX86.size; omega
  refine q0 rfl rfl rfl (xF (cs' := [u81]) (us := [u81]) (v := (.agg [u81].toArray)) sz32 rfl rfl rfl (yZ hone89) hX96.pins hb93 (Nat.le_of_ble_eq_true rfl) rfl (fun w104 hb105 hp106 hg107 hz108 => ?_))
  have hX109 := hX96.write hp106 hg107 ((yW hlo103))
  have hd110 := hd97.kept hg107 ha101
  have hs111 := Nat.le_trans hs98 hg107.size
  have hd112 := hd99.kept hg107 ha102
  have hs113 := Nat.le_trans hs100 hg107.size
  obtain ⟨G114, hle115, hX116, hbp117, hf118⟩ := hb105.shut hX109 hlo103
  have hd119 := hd110.more hle115 hf118 ha101
  have hd120 := hd112.more hle115 hf118 ha102
  refine qe (zA (zF (zG ?_)))
  refine qD rfl (yY (cs := [u49]) ag32 sz32 rfl (fun j u hj => (Pins.of_le hX116.pins (Pin.le_trans hx85.le hle115)) _ _ _ (hbp78 _ _ (by simpa using hj)))) ?_
  refine qD rfl (yY (cs := [u81]) ag32 sz32 rfl (fun j u hj => hX116.pins _ _ _ (hbp117 _ _ (by simpa using hj)))) ?_
  obtain ⟨G121, hle122, hp123, hr124, hf125⟩ := hd119.read hX116.pins
  obtain ⟨G126, hle127, hp128, hr129, hf130⟩ := hd120.read hX116.pins
  obtain ⟨G131, hc132, hc133, hc134, hc135, hc136⟩ := join_pins hle122 hp123 hp128 hf125 hf130
  refine qI rfl (zM (vs := [(.agg [u49].toArray), (.agg [u81].toArray)]) Tryz.func49 nm49 rfl rfl rfl ?_)
  refine Calls.mono (iMinusForms_dspec hc135 (hr124.mono hc133) (hr129.mono hc134)) ?_
  rintro _ w139 ⟨u137, G138, rfl, hd140, hx141⟩
  refine ⟨_, rfl, ?_⟩
  have hgxu49 := hs111
  have hgxu81 := hs113
  have hx142 := deep_back hX116.pins hx141
  have hX143 := hX116.step hx142.pins hx142.below
  have hd144 := hd119.below hx142.below
  have hs145 := Nat.le_trans hs111 hx142.below.size
  have hd146 := hd120.below hx142.below
  have hs147 := Nat.le_trans hs113 hx142.below.size
  have hd148 := hd140.anti (Pin.le_trans hc132 hx141.le)
  have hone149 := hd148.one
  refine qD rfl (zB (v := (.tuple #[(.agg [u137].toArray), (.bool (minB ns ms))])) rfl) ?_
  refine qD rfl (yX (v := (.agg [u137].toArray)) rfl rfl) ?_
  refine qD rfl (yX (v := (.bool (minB ns ms))) rfl rfl) ?_
  refine qI rfl (xB [(.slice none 0 0)] zr32 rfl hX143.pins (fun b150 w151 hk152 hb153 hp154 hl155 => ?_))
  have hX156 := hX143.step hp154 hl155
  have hd157 := hd144.below hl155
  have hs158 := Nat.le_trans hs145 hl155.size
  have hd159 := hd146.below hl155
  have hs160 := Nat.le_trans hs147 hl155.size
  have hd161 := hd148.below hl155
  have hs162 := Nat.le_trans (Nat.le_refl w139.heap.size) hl155.size
  have ha163 : w51.heap.size ≤ b150 ∨ b150 < w44.heap.size := Or.inl (by have e := Option.some.inj (congrArg some hk152); have := hs145; omega)
  have ha164 : w83.heap.size ≤ b150 ∨ b150 < w67.heap.size := Or.inl (by have e := Option.some.inj (congrArg some hk152); have := hs147; omega)
  have ha165 : w139.heap.size ≤ b150 ∨ b150 < w104.heap.size := Or.inl (by have e := Option.some.inj (congrArg some hk152); have := (Nat.le_refl w139.heap.size); omega)
  have hlo166 : w.heap.size ≤ b150 := by have := hX143.size; omega
  refine q0 rfl rfl rfl (xF (cs' := [u137]) (us := [u137]) (v := (.agg [u137].toArray)) sz32 rfl rfl rfl (yZ hone149) hX156.pins hb153 (Nat.le_of_ble_eq_true rfl) rfl (fun w167 hb168 hp169 hg170 hz171 => ?_))
  have hX172 := hX156.write hp169 hg170 ((yW hlo166))
  have hd173 := hd157.kept hg170 ha163
  have hs174 := Nat.le_trans hs158 hg170.size
  have hd175 := hd159.kept hg170 ha164
  have hs176 := Nat.le_trans hs160 hg170.size
  have hd177 := hd161.kept hg170 ha165
  have hs178 := Nat.le_trans hs162 hg170.size
  obtain ⟨G179, hle180, hX181, hbp182, hf183⟩ := hb168.shut hX172 hlo166
  have hd184 := hd173.more hle180 hf183 ha163
  have hd185 := hd175.more hle180 hf183 ha164
  have hd186 := hd177.more hle180 hf183 ha165
  refine qD rfl (zC (v := (.bool (minB ns ms))) rfl) ?_
  refine qe (zA (zF (zF (zG ?_))))
  refine qD rfl (yY (cs := [u137]) ag32 sz32 rfl (fun j u hj => hX181.pins _ _ _ (hbp182 _ _ (by simpa using hj)))) ?_
  refine qD rfl (yY (cs := [c42]) ag32 sz32 rfl (fun j u hj => (Pins.of_le hX181.pins (Pin.le_trans (Pin.le_trans (Pin.le_trans (Pin.le_trans hx53.le hle76) hx85.le) hle115) hle180)) _ _ _ (hb46 _ _ (by simpa using hj)))) ?_
  obtain ⟨G190, hle191, hp192, hr193, _⟩ := hd186.read hX181.pins
  refine qI rfl (zM (vs := [(.agg [u137].toArray), (.agg [c42].toArray)]) Tryz.func20 nm20 rfl rfl rfl ?_)
  refine Calls.mono (eqForm_same hp192 hr193 ((hr45.mono (Pin.le_trans (Pin.le_trans (Pin.le_trans (Pin.le_trans hx53.le hle76) hx85.le) hle115) hle180)).mono hle191)) ?_
  rintro _ w188 ⟨G187, rfl, hx189⟩
  refine ⟨_, rfl, ?_⟩
  have hx194 := deep_back hX181.pins hx189
  have hX195 := hX181.step hx194.pins hx194.below
  have hd196 := hd184.below hx194.below
  have hs197 := Nat.le_trans hs174 hx194.below.size
  have hd198 := hd185.below hx194.below
  have hs199 := Nat.le_trans hs176 hx194.below.size
  have hd200 := hd186.below hx194.below
  have hs201 := Nat.le_trans hs178 hx194.below.size
  refine qD rfl (qG rfl) ?_
  refine qD rfl (zB (v := (.bool false)) rfl) ?_
  refine qdg rfl rfl rfl rfl rfl rfl (zB (v := (.bool (minB ns ms))) rfl) ?_
  refine qdg rfl rfl rfl rfl rfl rfl (zB (v := (.bool (minB ns ms))) rfl) ?_
  refine qdg rfl rfl rfl rfl rfl rfl (r_neqB_same Tryz.underlying4 rfl rfl) ?_
  refine qD rfl (xG (v := (.bool false)) rfl rfl) ?_
  refine qe (zA ?_)
  refine qS rfl rfl ?_
  refine wp_skip ?_
  refine zA (zF (zF ?_))
  refine xI (S := fun wz => Pins G179 wz) (last := 5) (by kernel_rfl) rfl ?_
  have hl202 : Below w188.heap.size w188 w188.drew := (Below.refl _ _).drew
  have hp203 := hX195.pins.below hl202
  have hX204 := hX195.step hp203 hl202
  have hd205 := hd196.below hl202
  have hs206 := Nat.le_trans hs197 hl202.size
  have hd207 := hd198.below hl202
  have hs208 := Nat.le_trans hs199 hl202.size
  have hd209 := hd200.below hl202
  have hs210 := Nat.le_trans hs201 hl202.size
  refine dT (i := 0) rfl rfl (by kernel_rfl) (fun _ hS => yY (cs := [u49]) ag32 sz32 rfl (fun j u hj => (Pins.of_le hS (Pin.le_trans (Pin.le_trans hx85.le hle115) hle180)) _ _ _ (hbp78 _ _ (by simpa using hj)))) hX204.pins ?_
  refine dT (i := 1) rfl rfl (by kernel_rfl) (fun _ hS => yY (cs := [u]) ag24 sz24 rfl (fun j u hj => (Pins.of_le hS (Pin.le_trans (Pin.le_trans (Pin.le_trans (Pin.le_trans (Pin.le_trans (Pin.le_trans (Pin.le_trans (Pin.le_trans hle23 hx31.le) hx38.le) hle48) hx53.le) hle76) hx85.le) hle115) hle180)) _ _ _ (hbp12 _ _ (by simpa using hj)))) hX204.pins ?_
  refine zQ (i := 2) (by kernel_rfl) (zW (i := 2) rfl rfl rfl (zH rfl _) (zM (vs := [(.agg [u].toArray)]) Tryz.func17 nm17 rfl rfl rfl ?_))
  refine Calls.mono (xQ hX204.pins (hu.mono (Pin.le_trans (Pin.le_trans (Pin.le_trans (Pin.le_trans (Pin.le_trans (Pin.le_trans (Pin.le_trans (Pin.le_trans (Pin.le_trans hle10 hle23) hx31.le) hx38.le) hle48) hx53.le) hle76) hx85.le) hle115) hle180)) hsn) ?_
  rintro _ w213 ⟨u211, G212, rfl, hr214, hx215⟩
  refine ⟨_, rfl, ?_⟩
  have hX216 := hX204.tr hx215
  have hd217 := hd205.ext hx215
  have hs218 := Nat.le_trans hs206 hx215.size
  have hd219 := hd207.ext hx215
  have hs220 := Nat.le_trans hs208 hx215.size
  have hd221 := hd209.ext hx215
  have hs222 := Nat.le_trans hs210 hx215.size
  refine ⟨fun _ => (Pins.of_le hX216.pins hx215.le), ?_⟩
  obtain ⟨G226, hle227, hp228, hr229, _⟩ := hd217.read hX216.pins
  refine zQ (i := 3) (by kernel_rfl) (zW (i := 3) rfl rfl rfl (zH rfl _) (zM (vs := [(.agg [u49].toArray), (.agg [u211].toArray)]) Tryz.func20 nm20 rfl rfl rfl ?_))
  refine Calls.mono (eqForm_same hp228 hr229 (hr214.mono hle227)) ?_
  rintro _ w224 ⟨G223, rfl, hx225⟩
  refine ⟨_, rfl, ?_⟩
  have hx230 := deep_back hX216.pins hx225
  have hX231 := hX216.step hx230.pins hx230.below
  have hd232 := hd217.below hx230.below
  have hs233 := Nat.le_trans hs218 hx230.below.size
  have hd234 := hd219.below hx230.below
  have hs235 := Nat.le_trans hs220 hx230.below.size
  have hd236 := hd221.below hx230.below
  have hs237 := Nat.le_trans hs222 hx230.below.size
  refine ⟨fun _ => (Pins.of_le hX231.pins hx215.le), ?_⟩
  refine dT (i := 4) rfl rfl (by kernel_rfl) (fun _ _ => qG rfl) (Pins.of_le hX231.pins hx215.le) ?_
  refine yU (by kernel_rfl) ?_
  refine zA ?_
  refine qS rfl rfl ?_
  refine wp_skip ?_
  refine zA (zF (zF ?_))
  refine xI (S := fun wz => Pins G212 wz) (last := 5) (by kernel_rfl) rfl ?_
  have hl238 : Below w224.heap.size w224 w224.drew := (Below.refl _ _).drew
  have hp239 := hX231.pins.below hl238
  have hX240 := hX231.step hp239 hl238
  have hd241 := hd232.below hl238
  have hs242 := Nat.le_trans hs233 hl238.size
  have hd243 := hd234.below hl238
  have hs244 := Nat.le_trans hs235 hl238.size
  have hd245 := hd236.below hl238
  have hs246 := Nat.le_trans hs237 hl238.size
  refine dT (i := 0) rfl rfl (by kernel_rfl) (fun _ hS => yY (cs := [u81]) ag32 sz32 rfl (fun j u hj => (Pins.of_le hS (Pin.le_trans hle180 hx215.le)) _ _ _ (hbp117 _ _ (by simpa using hj)))) hX240.pins ?_
  refine dT (i := 1) rfl rfl (by kernel_rfl) (fun _ hS => yY (cs := [v]) ag24 sz24 rfl (fun j u hj => (Pins.of_le hS (Pin.le_trans (Pin.le_trans (Pin.le_trans (Pin.le_trans (Pin.le_trans (Pin.le_trans (Pin.le_trans (Pin.le_trans hx31.le hx38.le) hle48) hx53.le) hle76) hx85.le) hle115) hle180) hx215.le)) _ _ _ (hbp25 _ _ (by simpa using hj)))) hX240.pins ?_
  refine zQ (i := 2) (by kernel_rfl) (zW (i := 2) rfl rfl rfl (zH rfl _) (zM (vs := [(.agg [v].toArray)]) Tryz.func17 nm17 rfl rfl rfl ?_))
  refine Calls.mono (xQ hX240.pins (hv.mono (Pin.le_trans (Pin.le_trans (Pin.le_trans (Pin.le_trans (Pin.le_trans (Pin.le_trans (Pin.le_trans (Pin.le_trans (Pin.le_trans (Pin.le_trans hle10 hle23) hx31.le) hx38.le) hle48) hx53.le) hle76) hx85.le) hle115) hle180) hx215.le)) hsm) ?_
  rintro _ w249 ⟨u247, G248, rfl, hr250, hx251⟩
  refine ⟨_, rfl, ?_⟩
  have hX252 := hX240.tr hx251
  have hd253 := hd241.ext hx251
  have hs254 := Nat.le_trans hs242 hx251.size
  have hd255 := hd243.ext hx251
  have hs256 := Nat.le_trans hs244 hx251.size
  have hd257 := hd245.ext hx251
  have hs258 := Nat.le_trans hs246 hx251.size
  refine ⟨fun _ => (Pins.of_le hX252.pins hx251.le), ?_⟩
  obtain ⟨G262, hle263, hp264, hr265, _⟩ := hd255.read hX252.pins
  refine zQ (i := 3) (by kernel_rfl) (zW (i := 3) rfl rfl rfl (zH rfl _) (zM (vs := [(.agg [u81].toArray), (.agg [u247].toArray)]) Tryz.func20 nm20 rfl rfl rfl ?_))
  refine Calls.mono (eqForm_same hp264 hr265 (hr250.mono hle263)) ?_
  rintro _ w260 ⟨G259, rfl, hx261⟩
  refine ⟨_, rfl, ?_⟩
  have hx266 := deep_back hX252.pins hx261
  have hX267 := hX252.step hx266.pins hx266.below
  have hd268 := hd253.below hx266.below
  have hs269 := Nat.le_trans hs254 hx266.below.size
  have hd270 := hd255.below hx266.below
  have hs271 := Nat.le_trans hs256 hx266.below.size
  have hd272 := hd257.below hx266.below
  have hs273 := Nat.le_trans hs258 hx266.below.size
  refine ⟨fun _ => (Pins.of_le hX267.pins hx251.le), ?_⟩
  refine dT (i := 4) rfl rfl (by kernel_rfl) (fun _ _ => qG rfl) (Pins.of_le hX267.pins hx251.le) ?_
  refine yU (by kernel_rfl) ?_
  refine zA ?_
  refine qS rfl rfl ?_
  refine wp_skip ?_
  refine zA (zF (zG ?_))
  refine qD rfl (zC (v := (.int .i64 1)) rfl) ?_
  refine qe (zA (zF (zG ?_)))
  refine qD rfl (yY (cs := [u49]) ag32 sz32 rfl (fun j u hj => (Pins.of_le hX267.pins (Pin.le_trans (Pin.le_trans (Pin.le_trans (Pin.le_trans hx85.le hle115) hle180) hx215.le) hx251.le)) _ _ _ (hbp78 _ _ (by simpa using hj)))) ?_
  refine qD rfl (zB (v := (.int .i64 1)) rfl) ?_
  refine qI rfl (zM (vs := [(.agg [u49].toArray), (.int .i64 1)]) Tryz.func25 nm25 rfl rfl rfl ?_)
  refine Calls.mono (markFormX_spec (kz := 1) hX267.pins hd268 hs269 hsn (by omega)) ?_
  rintro _ w274 ⟨rfl, hd275, hx276⟩
  refine ⟨_, rfl, ?_⟩
  have hX277 := hX267.trans hx276 (fun i hi => Or.inl (Nat.le_trans hX47.size hi.1))
  have hd278 := hd270.extS hx276 (fun k h1 h2 h3 => by have := h3.1; have := h3.2; omega)
  have hs279 := Nat.le_trans hs271 hx276.size
  have hd280 := hd272.extS hx276 (fun k h1 h2 h3 => by have := h3.1; have := h3.2; omega)
  have hs281 := Nat.le_trans hs273 hx276.size
  refine qD rfl (zC (v := (.int .i64 (1 + totN ns))) rfl) ?_
  refine qe (zA (zF (zG ?_)))
  refine qD rfl (yY (cs := [u81]) ag32 sz32 rfl (fun j u hj => (Pins.of_le hX277.pins (Pin.le_trans (Pin.le_trans hle180 hx215.le) hx251.le)) _ _ _ (hbp117 _ _ (by simpa using hj)))) ?_
  refine qD rfl (zB (v := (.int .i64 (1 + totN ns))) rfl) ?_
  refine qI rfl (zM (vs := [(.agg [u81].toArray), (.int .i64 (1 + totN ns))]) Tryz.func25 nm25 rfl rfl rfl ?_)
  refine Calls.mono (markFormX_spec (kz := 1 + totN ns) hX277.pins hd278 hs279 hsm (by omega)) ?_
  rintro _ w282 ⟨rfl, hd283, hx284⟩
  refine ⟨_, rfl, ?_⟩
  have hX285 := hX277.trans hx284 (fun i hi => Or.inl (Nat.le_trans hX77.size hi.1))
  have hd286 := hd280.extS hx284 (fun k h1 h2 h3 => by have := h3.1; have := h3.2; omega)
  have hs287 := Nat.le_trans hs281 hx284.size
  refine qD rfl (zC (v := (.int .i64 ((1 + totN ns) + totN ms))) rfl) ?_
  refine qe (zA (zF (zF (zG ?_))))
  refine qD rfl (zB (v := (.int .i64 ((1 + totN ns) + totN ms))) rfl) ?_
  refine qD rfl (yR rfl rfl) ?_
  refine qD rfl (zB (v := (.bool (decide (((1 + totN ns) + totN ms : Int) < 0)))) rfl) ?_
  refine qbd (p := ((1 + totN ns) + totN ms : Int) < 0) (t := 72) rfl (fun h288 => ?_) (fun h288 => ?_)
  ·skip
   refine qs rfl rfl rfl rfl rfl rfl ?_
   refine qs rfl rfl rfl rfl rfl rfl ?_
   refine qs rfl rfl rfl rfl rfl rfl ?_
   refine qs rfl rfl rfl rfl rfl rfl ?_
   refine qD rfl (xN (v := (.bool true)) rfl rfl) ?_
   refine qD rfl (zB (v := (.bool true)) rfl) ?_
   refine qs rfl rfl rfl rfl rfl rfl ?_
   refine qs rfl rfl rfl rfl rfl rfl ?_
   refine qs rfl rfl rfl rfl rfl rfl ?_
   refine qD rfl (xN (v := (.bool true)) rfl rfl) ?_
   refine qe (zA ?_)
   refine c_ifT rfl rfl ?_
   refine zF (zG ?_)
   refine qD rfl (zC (v := (.bool false)) rfl) ?_
   refine qe (zA ?_)
   refine wp_ret ?_
   refine zX ?_
   refine zT (v := (.bool false)) rfl rfl rfl ?_
   exfalso; omega
  refine qdg rfl rfl rfl rfl rfl rfl (yY (cs := [u137]) ag32 sz32 rfl (fun j u hj => (Pins.of_le hX285.pins (Pin.le_trans hx215.le hx251.le)) _ _ _ (hbp182 _ _ (by simpa using hj)))) ?_
  refine qdg rfl rfl rfl rfl rfl rfl (yY (cs := [c42]) ag32 sz32 rfl (fun j u hj => (Pins.of_le hX285.pins (Pin.le_trans (Pin.le_trans (Pin.le_trans (Pin.le_trans (Pin.le_trans (Pin.le_trans hx53.le hle76) hx85.le) hle115) hle180) hx215.le) hx251.le)) _ _ _ (hb46 _ _ (by simpa using hj)))) ?_
  obtain ⟨G292, hle293, hp294, hr295, _⟩ := hd286.read hX285.pins
  refine q1g rfl rfl rfl rfl rfl rfl (zM (vs := [(.agg [u137].toArray), (.agg [c42].toArray)]) Tryz.func20 nm20 rfl rfl rfl ?_)
  refine Calls.mono (eqForm_same hp294 hr295 ((hr45.mono (Pin.le_trans (Pin.le_trans (Pin.le_trans (Pin.le_trans (Pin.le_trans (Pin.le_trans hx53.le hle76) hx85.le) hle115) hle180) hx215.le) hx251.le)).mono hle293)) ?_
  rintro _ w290 ⟨G289, rfl, hx291⟩
  refine ⟨_, rfl, ?_⟩
  have hx296 := deep_back hX285.pins hx291
  have hX297 := hX285.step hx296.pins hx296.below
  have hd298 := hd286.below hx296.below
  have hs299 := Nat.le_trans hs287 hx296.below.size
  refine qdg rfl rfl rfl rfl rfl rfl (qG rfl) ?_
  refine qD rfl (xG (v := (.bool false)) rfl rfl) ?_
  refine qD rfl (zB (v := (.bool false)) rfl) ?_
  refine qdg rfl rfl rfl rfl rfl rfl (zB (v := (.bool (minB ns ms))) rfl) ?_
  refine qdg rfl rfl rfl rfl rfl rfl (zB (v := (.bool (minB ns ms))) rfl) ?_
  refine qdg rfl rfl rfl rfl rfl rfl (r_neqB_same Tryz.underlying4 rfl rfl) ?_
  refine qD rfl (xG (v := (.bool false)) rfl rfl) ?_
  refine qe (zA ?_)
  refine qS rfl rfl ?_
  refine wp_skip ?_
  refine zA (zF (zG ?_))
  refine qD rfl (zC (v := (.int .i64 1)) rfl) ?_
  refine qe (zA (zF (zG ?_)))
  refine qD rfl (yY (cs := [u137]) ag32 sz32 rfl (fun j u hj => (Pins.of_le hX297.pins (Pin.le_trans hx215.le hx251.le)) _ _ _ (hbp182 _ _ (by simpa using hj)))) ?_
  refine qD rfl (zB (v := (.int .i64 1)) rfl) ?_
  refine qI rfl (zM (vs := [(.agg [u137].toArray), (.int .i64 1)]) Tryz.func25 nm25 rfl rfl rfl ?_)
  refine Calls.mono (markFormX_spec (kz := 1) hX297.pins hd298 hs299 (min_small _ _) (by omega)) ?_
  rintro _ w300 ⟨rfl, hd301, hx302⟩
  refine ⟨_, rfl, ?_⟩
  have hX303 := hX297.trans hx302 (fun i hi => Or.inl (Nat.le_trans hX116.size hi.1))
  obtain ⟨G304, hle305, hp306, hr307, hf308⟩ := hd301.read hX303.pins
  have hX309 := hX303.promise hle305 hp306 hf308 hX116.size
  refine qD rfl (zC (v := (.int .i64 (1 + totN (minF ns ms)))) rfl) ?_
  refine qe (zA (zF (zG ?_)))
  refine qD rfl (zC (v := (.int .i64 1)) rfl) ?_
  refine qe (zA (zF (zG ?_)))
  refine qD rfl (yY (cs := [u137]) ag32 sz32 rfl (fun j u hj => (Pins.of_le hX309.pins (Pin.le_trans (Pin.le_trans hx215.le hx251.le) hle305)) _ _ _ (hbp182 _ _ (by simpa using hj)))) ?_
  refine qD rfl (zB (v := (.int .i64 1)) rfl) ?_
  refine qI rfl (zM (vs := [(.agg [u137].toArray), (.int .i64 1)]) Tryz.func26 nm26 rfl rfl rfl ?_)
  refine Calls.mono (heldFormX_spec (kz := 1) (ns := minF ns ms) hX309.pins hr307 (min_small _ _) (by omega)) ?_
  rintro _ w311 ⟨G310, rfl, hx312⟩
  refine ⟨_, rfl, ?_⟩
  have hX313 := hX309.tr hx312
  refine qD rfl (zC (v := (.int .i64 (1 + totN (minF ns ms)))) rfl) ?_
  refine qe (zA (zF (zF (zG ?_))))
  refine qD rfl (zB (v := (.int .i64 (1 + totN (minF ns ms)))) rfl) ?_
  refine qD rfl (yR rfl rfl) ?_
  refine qe (zA ?_)
  refine yD (p := (1 + totN (minF ns ms) : Int) < 0) rfl rfl (fun h314 => ?_) (fun h314 => ?_)
  ·skip
   refine zF (zG ?_)
   refine qD rfl (zC (v := (.bool false)) rfl) ?_
   refine qe (zA ?_)
   refine wp_ret ?_
   refine zX ?_
   refine zT (v := (.bool false)) rfl rfl rfl ?_
   exfalso; omega
  refine wp_skip ?_
  refine zA (zF (zF (zG ?_)))
  refine qD rfl (zB (v := (.int .i64 (1 + totN (minF ns ms)))) rfl) ?_
  refine qD rfl (zB (v := (.int .i64 (1 + totN (minF ns ms)))) rfl) ?_
  refine qD rfl (r_neq rfl rfl) ?_
  refine qe (zA ?_)
  refine yD (p := (1 + totN (minF ns ms) : Int) ≠ (1 + totN (minF ns ms))) rfl rfl (fun h315 => ?_) (fun h315 => ?_)
  ·skip
   refine zF (zG ?_)
   refine qD rfl (zC (v := (.bool false)) rfl) ?_
   refine qe (zA ?_)
   refine wp_ret ?_
   refine zX ?_
   refine zT (v := (.bool false)) rfl rfl rfl ?_
   exfalso; omega
  refine wp_skip ?_
  refine zA (zF ?_)
  refine c_cut (fun (en : Nat → Value) (W : World) => ∃ (env1 : Nat → Value) (c316 : Nat) (c317 : Value) (G318 : Pin), en = (upd (upd (upd (upd (upd (upd (upd env1 4 (.bool false)) 6 (.pointer (some ⟨c41, 0, none⟩))) 7 (.bool (minB ns ms))) 10 (.pointer (some ⟨b150, 0, none⟩))) 13 (.int .i64 (1 + totN (minF ns ms)))) 15 (.pointer (some ⟨c316, 0, none⟩))) 16 (.bool (minB ns ms))) ∧ Ext noS G w G318 W ∧ Pin.le G310 G318 ∧ (RSl eNode G318 c317 (minF ns ms)) ∧ (BxP G318 c316 [c317])) ?_ ?_
  ·rintro _ w319 ⟨env1, c316, c317, G318, rfl, hX322, hle323, hr320, hb321⟩
   refine zA (zF (zF (zG ?_)))
   refine qD rfl (yY (cs := [c317]) ag32 sz32 rfl (fun j u hj => hX322.pins _ _ _ (hb321 _ _ (by simpa using hj)))) ?_
   refine qD rfl (yY (cs := [c42]) ag32 sz32 rfl (fun j u hj => (Pins.of_le hX322.pins (Pin.le_trans (Pin.le_trans (Pin.le_trans (Pin.le_trans (Pin.le_trans (Pin.le_trans (Pin.le_trans (Pin.le_trans (Pin.le_trans hx53.le hle76) hx85.le) hle115) hle180) hx215.le) hx251.le) hle305) hx312.le) hle323)) _ _ _ (hb46 _ _ (by simpa using hj)))) ?_
   refine qI rfl (zM (vs := [(.agg [c317].toArray), (.agg [c42].toArray)]) Tryz.func20 nm20 rfl rfl rfl ?_)
   refine Calls.mono (eqForm_same hX322.pins hr320 (hr45.mono (Pin.le_trans (Pin.le_trans (Pin.le_trans (Pin.le_trans (Pin.le_trans (Pin.le_trans (Pin.le_trans (Pin.le_trans (Pin.le_trans hx53.le hle76) hx85.le) hle115) hle180) hx215.le) hx251.le) hle305) hx312.le) hle323))) ?_
   rintro _ w325 ⟨G324, rfl, hx326⟩
   refine ⟨_, rfl, ?_⟩
   have hX327 := hX322.tr hx326
   refine qD rfl (qG rfl) ?_
   refine qD rfl (zB (v := (.bool false)) rfl) ?_
   refine qdg rfl rfl rfl rfl rfl rfl (zB (v := (.bool (minB ns ms))) rfl) ?_
   refine qdg rfl rfl rfl rfl rfl rfl (zB (v := (.bool (minB ns ms))) rfl) ?_
   refine qdg rfl rfl rfl rfl rfl rfl (r_neqB_same Tryz.underlying4 rfl rfl) ?_
   refine qD rfl (xG (v := (.bool false)) rfl rfl) ?_
   refine qe (zA ?_)
   refine qS rfl rfl ?_
   refine wp_skip ?_
   refine zA (zF (zG ?_))
   refine qD rfl (zC (v := (.int .i64 1)) rfl) ?_
   refine qe (zA (zF (zG ?_)))
   refine qD rfl (yY (cs := [u137]) ag32 sz32 rfl (fun j u hj => (Pins.of_le hX327.pins (Pin.le_trans (Pin.le_trans (Pin.le_trans (Pin.le_trans (Pin.le_trans hx215.le hx251.le) hle305) hx312.le) hle323) hx326.le)) _ _ _ (hbp182 _ _ (by simpa using hj)))) ?_
   refine qD rfl (zB (v := (.int .i64 1)) rfl) ?_
   refine qI rfl (zM (vs := [(.agg [u137].toArray), (.int .i64 1)]) Tryz.func26 nm26 rfl rfl rfl ?_)
   refine Calls.mono (heldFormX_spec (kz := 1) (ns := minF ns ms) hX327.pins (hr307.mono (Pin.le_trans (Pin.le_trans hx312.le hle323) hx326.le)) (min_small _ _) (by omega)) ?_
   rintro _ w329 ⟨G328, rfl, hx330⟩
   refine ⟨_, rfl, ?_⟩
   have hX331 := hX327.tr hx330
   refine qD rfl (zC (v := (.int .i64 (1 + totN (minF ns ms)))) rfl) ?_
   refine qe (zA (zF (zF (zG ?_))))
   refine qD rfl (zB (v := (.int .i64 (1 + totN (minF ns ms)))) rfl) ?_
   refine qD rfl (yR rfl rfl) ?_
   refine qe (zA ?_)
   refine yD (p := (1 + totN (minF ns ms) : Int) < 0) rfl rfl (fun h => absurd h h314) (fun _ => ?_)
   refine wp_skip ?_
   refine zA (zF (zF (zG ?_)))
   refine qD rfl (zB (v := (.int .i64 (1 + totN (minF ns ms)))) rfl) ?_
   refine qD rfl (zB (v := (.int .i64 (1 + totN (minF ns ms)))) rfl) ?_
   refine qD rfl (r_neq rfl rfl) ?_
   refine qe (zA ?_)
   refine yD (p := (1 + totN (minF ns ms) : Int) ≠ (1 + totN (minF ns ms))) rfl rfl (fun h => absurd h h315) (fun _ => ?_)
   refine wp_skip ?_
   refine zA (zF (zG ?_))
   refine qD rfl (zC (v := (.bool true)) rfl) ?_
   refine qe (zA ?_)
   refine wp_ret ?_
   refine zX ?_
   refine zT (v := (.bool true)) rfl rfl rfl ?_
   exact ⟨_, rfl, hX331⟩
  ·skip
   refine xI (S := fun wz => Pins G310 wz) (last := 11) (by kernel_rfl) rfl ?_
   have hl334 : Below w311.heap.size w311 w311.drew := (Below.refl _ _).drew
   have hp335 := hX313.pins.below hl334
   have hX336 := hX313.step hp335 hl334
   refine dT (i := 0) rfl rfl (by kernel_rfl) (fun _ hS => yY (cs := [u]) ag24 sz24 rfl (fun j u hj => (Pins.of_le hS (Pin.le_trans (Pin.le_trans (Pin.le_trans (Pin.le_trans (Pin.le_trans (Pin.le_trans (Pin.le_trans (Pin.le_trans (Pin.le_trans (Pin.le_trans (Pin.le_trans (Pin.le_trans hle23 hx31.le) hx38.le) hle48) hx53.le) hle76) hx85.le) hle115) hle180) hx215.le) hx251.le) hle305) hx312.le)) _ _ _ (hbp12 _ _ (by simpa using hj)))) hX336.pins ?_
   refine dT (i := 2) rfl rfl (by kernel_rfl) (fun _ hS => yY (cs := [v]) ag24 sz24 rfl (fun j u hj => (Pins.of_le hS (Pin.le_trans (Pin.le_trans (Pin.le_trans (Pin.le_trans (Pin.le_trans (Pin.le_trans (Pin.le_trans (Pin.le_trans (Pin.le_trans (Pin.le_trans (Pin.le_trans hx31.le hx38.le) hle48) hx53.le) hle76) hx85.le) hle115) hle180) hx215.le) hx251.le) hle305) hx312.le)) _ _ _ (hbp25 _ _ (by simpa using hj)))) hX336.pins ?_
   refine qH (i := 1) (j := 8) (by kernel_rfl) ?_ ?_
   ·skip
    refine (zW (i := 1) rfl rfl rfl (zH rfl _) (zM (vs := [(.agg [u].toArray)]) Tryz.func17 nm17 rfl rfl rfl ?_))
    refine Calls.mono (xQ hX336.pins (hu.mono (Pin.le_trans (Pin.le_trans (Pin.le_trans (Pin.le_trans (Pin.le_trans (Pin.le_trans (Pin.le_trans (Pin.le_trans (Pin.le_trans (Pin.le_trans (Pin.le_trans (Pin.le_trans (Pin.le_trans hle10 hle23) hx31.le) hx38.le) hle48) hx53.le) hle76) hx85.le) hle115) hle180) hx215.le) hx251.le) hle305) hx312.le)) hsn) ?_
    rintro _ w339 ⟨u337, G338, rfl, hr340, hx341⟩
    refine ⟨_, rfl, ?_⟩
    have hX342 := hX336.tr hx341
    refine ⟨fun _ => (Pins.of_le hX342.pins hx341.le), ?_⟩
    refine qH (i := 3) (j := 8) (by kernel_rfl) ?_ ?_
    ·skip
     refine (zW (i := 3) rfl rfl rfl (zH rfl _) (zM (vs := [(.agg [v].toArray)]) Tryz.func17 nm17 rfl rfl rfl ?_))
     refine Calls.mono (xQ hX342.pins (hv.mono (Pin.le_trans (Pin.le_trans (Pin.le_trans (Pin.le_trans (Pin.le_trans (Pin.le_trans (Pin.le_trans (Pin.le_trans (Pin.le_trans (Pin.le_trans (Pin.le_trans (Pin.le_trans (Pin.le_trans (Pin.le_trans hle10 hle23) hx31.le) hx38.le) hle48) hx53.le) hle76) hx85.le) hle115) hle180) hx215.le) hx251.le) hle305) hx312.le) hx341.le)) hsm) ?_
     rintro _ w345 ⟨u343, G344, rfl, hr346, hx347⟩
     refine ⟨_, rfl, ?_⟩
     have hX348 := hX342.tr hx347
     refine ⟨fun _ => (Pins.of_le hX348.pins (Pin.le_trans hx341.le hx347.le)), ?_⟩
     refine qH (i := 4) (j := 8) (by kernel_rfl) ?_ ?_
     ·skip
      refine (zW (i := 4) rfl rfl rfl (zH rfl _) (zM (vs := [(.agg [u337].toArray), (.agg [u343].toArray)]) Tryz.func49 nm49 rfl rfl rfl ?_))
      refine Calls.mono (qQ hX348.pins (hr340.mono hx347.le) hr346) ?_
      rintro _ w351 ⟨u349, G350, rfl, hr352, hx353⟩
      refine ⟨_, rfl, ?_⟩
      have hX354 := hX348.tr hx353
      refine ⟨fun _ => (Pins.of_le hX354.pins (Pin.le_trans (Pin.le_trans hx341.le hx347.le) hx353.le)), ?_⟩
      refine dT (i := 5) rfl rfl (by kernel_rfl) (fun _ _ => zB (v := (.tuple #[(.agg [u349].toArray), (.bool (minB ns ms))])) rfl) (Pins.of_le hX354.pins (Pin.le_trans (Pin.le_trans hx341.le hx347.le) hx353.le)) ?_
      refine dT (i := 6) rfl rfl (by kernel_rfl) (fun _ _ => yX (v := (.agg [u349].toArray)) rfl rfl) (Pins.of_le hX354.pins (Pin.le_trans (Pin.le_trans hx341.le hx347.le) hx353.le)) ?_
      refine dT (i := 7) rfl rfl (by kernel_rfl) (fun _ _ => yX (v := (.bool (minB ns ms))) rfl rfl) (Pins.of_le hX354.pins (Pin.le_trans (Pin.le_trans hx341.le hx347.le) hx353.le)) ?_
      refine zQ (i := 8) (by kernel_rfl) (zW (i := 8) rfl rfl rfl (zH rfl _) (xB [(.slice none 0 0)] zr32 rfl hX354.pins (fun b355 w356 hk357 hb358 hp359 hl360 => ?_)))
      have hX361 := hX354.step hp359 hl360
      have hlo362 : w.heap.size ≤ b355 := by have := hX354.size; omega
      refine ⟨fun _ => (Pins.of_le hX361.pins (Pin.le_trans (Pin.le_trans hx341.le hx347.le) hx353.le)), ?_⟩
      refine zQ (i := 9) (by kernel_rfl) (qJ (i := 9) rfl rfl rfl (zH rfl _) (xF (cs' := [u349]) (us := [u349]) (v := (.agg [u349].toArray)) sz32 rfl rfl rfl (yZ hr352.one) hX361.pins hb358 (Nat.le_of_ble_eq_true rfl) rfl (fun w363 hb364 hp365 hg366 hz367 => ?_)))
      have hX368 := hX361.write hp365 hg366 ((yW hlo362))
      obtain ⟨G369, hle370, hX371, hbp372, hf373⟩ := hb364.shut hX368 hlo362
      refine ⟨fun _ => (Pins.of_le hX371.pins (Pin.le_trans (Pin.le_trans (Pin.le_trans hx341.le hx347.le) hx353.le) hle370)), ?_⟩
      refine dT (i := 10) rfl rfl (by kernel_rfl) (fun _ _ => zC (v := (.bool (minB ns ms))) rfl) (Pins.of_le hX371.pins (Pin.le_trans (Pin.le_trans (Pin.le_trans hx341.le hx347.le) hx353.le) hle370)) ?_
      refine yU (by kernel_rfl) ?_
      exact xS ⟨_, b355, u349, G369, (zD (x := 16) (zD (x := 15) (zD (x := 13) (zD (x := 10) (zD (x := 7) (zD (x := 6) (zU (x := 4) rfl) rfl) rfl) rfl) rfl) rfl) rfl), hX371, (Pin.le_trans (Pin.le_trans (Pin.le_trans hx341.le hx347.le) hx353.le) hle370), (hr352.mono hle370), (hbp372.mono (Pin.le_refl _))⟩
     ·skip
      refine (zW (i := 8) rfl rfl rfl (zH rfl _) (xB [(.slice none 0 0)] zr32 rfl hX348.pins (fun b374 w375 hk376 hb377 hp378 hl379 => ?_)))
      have hX380 := hX348.step hp378 hl379
      have hlo381 : w.heap.size ≤ b374 := by have := hX348.size; omega
      refine ⟨fun _ => (Pins.of_le hX380.pins (Pin.le_trans hx341.le hx347.le)), ?_⟩
      refine zQ (i := 4) (by kernel_rfl) (zW (i := 4) rfl rfl rfl (zH rfl _) (zM (vs := [(.agg [u337].toArray), (.agg [u343].toArray)]) Tryz.func49 nm49 rfl rfl rfl ?_))
      refine Calls.mono (qQ hX380.pins (hr340.mono hx347.le) hr346) ?_
      rintro _ w384 ⟨u382, G383, rfl, hr385, hx386⟩
      refine ⟨_, rfl, ?_⟩
      have hX387 := hX380.tr hx386
      have hb388 := hb377.ext hx386
      refine ⟨fun _ => (Pins.of_le hX387.pins (Pin.le_trans (Pin.le_trans hx341.le hx347.le) hx386.le)), ?_⟩
      refine dT (i := 5) rfl rfl (by kernel_rfl) (fun _ _ => zB (v := (.tuple #[(.agg [u382].toArray), (.bool (minB ns ms))])) rfl) (Pins.of_le hX387.pins (Pin.le_trans (Pin.le_trans hx341.le hx347.le) hx386.le)) ?_
      refine dT (i := 6) rfl rfl (by kernel_rfl) (fun _ _ => yX (v := (.agg [u382].toArray)) rfl rfl) (Pins.of_le hX387.pins (Pin.le_trans (Pin.le_trans hx341.le hx347.le) hx386.le)) ?_
      refine dT (i := 7) rfl rfl (by kernel_rfl) (fun _ _ => yX (v := (.bool (minB ns ms))) rfl rfl) (Pins.of_le hX387.pins (Pin.le_trans (Pin.le_trans hx341.le hx347.le) hx386.le)) ?_
      refine zQ (i := 9) (by kernel_rfl) (qJ (i := 9) rfl rfl rfl (zH rfl _) (xF (cs' := [u382]) (us := [u382]) (v := (.agg [u382].toArray)) sz32 rfl rfl rfl (yZ hr385.one) hX387.pins hb388 (Nat.le_of_ble_eq_true rfl) rfl (fun w389 hb390 hp391 hg392 hz393 => ?_)))
      have hX394 := hX387.write hp391 hg392 ((yW hlo381))
      obtain ⟨G395, hle396, hX397, hbp398, hf399⟩ := hb390.shut hX394 hlo381
      refine ⟨fun _ => (Pins.of_le hX397.pins (Pin.le_trans (Pin.le_trans (Pin.le_trans hx341.le hx347.le) hx386.le) hle396)), ?_⟩
      refine dT (i := 10) rfl rfl (by kernel_rfl) (fun _ _ => zC (v := (.bool (minB ns ms))) rfl) (Pins.of_le hX397.pins (Pin.le_trans (Pin.le_trans (Pin.le_trans hx341.le hx347.le) hx386.le) hle396)) ?_
      refine yU (by kernel_rfl) ?_
      exact xS ⟨_, b374, u382, G395, (zD (x := 16) (zD (x := 15) (zD (x := 13) (zD (x := 10) (zD (x := 7) (zD (x := 6) (zU (x := 4) rfl) rfl) rfl) rfl) rfl) rfl) rfl), hX397, (Pin.le_trans (Pin.le_trans (Pin.le_trans hx341.le hx347.le) hx386.le) hle396), (hr385.mono hle396), (hbp398.mono (Pin.le_refl _))⟩
    ·skip
     refine (zW (i := 8) rfl rfl rfl (zH rfl _) (xB [(.slice none 0 0)] zr32 rfl hX342.pins (fun b400 w401 hk402 hb403 hp404 hl405 => ?_)))
     have hX406 := hX342.step hp404 hl405
     have hlo407 : w.heap.size ≤ b400 := by have := hX342.size; omega
     refine ⟨fun _ => (Pins.of_le hX406.pins hx341.le), ?_⟩
     refine zQ (i := 3) (by kernel_rfl) (zW (i := 3) rfl rfl rfl (zH rfl _) (zM (vs := [(.agg [v].toArray)]) Tryz.func17 nm17 rfl rfl rfl ?_))
     refine Calls.mono (xQ hX406.pins (hv.mono (Pin.le_trans (Pin.le_trans (Pin.le_trans (Pin.le_trans (Pin.le_trans (Pin.le_trans (Pin.le_trans (Pin.le_trans (Pin.le_trans (Pin.le_trans (Pin.le_trans (Pin.le_trans (Pin.le_trans (Pin.le_trans hle10 hle23) hx31.le) hx38.le) hle48) hx53.le) hle76) hx85.le) hle115) hle180) hx215.le) hx251.le) hle305) hx312.le) hx341.le)) hsm) ?_
     rintro _ w410 ⟨u408, G409, rfl, hr411, hx412⟩
     refine ⟨_, rfl, ?_⟩
     have hX413 := hX406.tr hx412
     have hb414 := hb403.ext hx412
     refine ⟨fun _ => (Pins.of_le hX413.pins (Pin.le_trans hx341.le hx412.le)), ?_⟩
     refine zQ (i := 4) (by kernel_rfl) (zW (i := 4) rfl rfl rfl (zH rfl _) (zM (vs := [(.agg [u337].toArray), (.agg [u408].toArray)]) Tryz.func49 nm49 rfl rfl rfl ?_))
     refine Calls.mono (qQ hX413.pins (hr340.mono hx412.le) hr411) ?_
     rintro _ w417 ⟨u415, G416, rfl, hr418, hx419⟩
     refine ⟨_, rfl, ?_⟩
     have hX420 := hX413.tr hx419
     have hb421 := hb414.ext hx419
     refine ⟨fun _ => (Pins.of_le hX420.pins (Pin.le_trans (Pin.le_trans hx341.le hx412.le) hx419.le)), ?_⟩
     refine dT (i := 5) rfl rfl (by kernel_rfl) (fun _ _ => zB (v := (.tuple #[(.agg [u415].toArray), (.bool (minB ns ms))])) rfl) (Pins.of_le hX420.pins (Pin.le_trans (Pin.le_trans hx341.le hx412.le) hx419.le)) ?_
     refine dT (i := 6) rfl rfl (by kernel_rfl) (fun _ _ => yX (v := (.agg [u415].toArray)) rfl rfl) (Pins.of_le hX420.pins (Pin.le_trans (Pin.le_trans hx341.le hx412.le) hx419.le)) ?_
     refine dT (i := 7) rfl rfl (by kernel_rfl) (fun _ _ => yX (v := (.bool (minB ns ms))) rfl rfl) (Pins.of_le hX420.pins (Pin.le_trans (Pin.le_trans hx341.le hx412.le) hx419.le)) ?_
     refine zQ (i := 9) (by kernel_rfl) (qJ (i := 9) rfl rfl rfl (zH rfl _) (xF (cs' := [u415]) (us := [u415]) (v := (.agg [u415].toArray)) sz32 rfl rfl rfl (yZ hr418.one) hX420.pins hb421 (Nat.le_of_ble_eq_true rfl) rfl (fun w422 hb423 hp424 hg425 hz426 => ?_)))
     have hX427 := hX420.write hp424 hg425 ((yW hlo407))
     obtain ⟨G428, hle429, hX430, hbp431, hf432⟩ := hb423.shut hX427 hlo407
     refine ⟨fun _ => (Pins.of_le hX430.pins (Pin.le_trans (Pin.le_trans (Pin.le_trans hx341.le hx412.le) hx419.le) hle429)), ?_⟩
     refine dT (i := 10) rfl rfl (by kernel_rfl) (fun _ _ => zC (v := (.bool (minB ns ms))) rfl) (Pins.of_le hX430.pins (Pin.le_trans (Pin.le_trans (Pin.le_trans hx341.le hx412.le) hx419.le) hle429)) ?_
     refine yU (by kernel_rfl) ?_
     exact xS ⟨_, b400, u415, G428, (zD (x := 16) (zD (x := 15) (zD (x := 13) (zD (x := 10) (zD (x := 7) (zD (x := 6) (zU (x := 4) rfl) rfl) rfl) rfl) rfl) rfl) rfl), hX430, (Pin.le_trans (Pin.le_trans (Pin.le_trans hx341.le hx412.le) hx419.le) hle429), (hr418.mono hle429), (hbp431.mono (Pin.le_refl _))⟩
   ·skip
    refine (zW (i := 8) rfl rfl rfl (zH rfl _) (xB [(.slice none 0 0)] zr32 rfl hX336.pins (fun b433 w434 hk435 hb436 hp437 hl438 => ?_)))
    have hX439 := hX336.step hp437 hl438
    have hlo440 : w.heap.size ≤ b433 := by have := hX336.size; omega
    refine ⟨fun _ => hX439.pins, ?_⟩
    refine zQ (i := 1) (by kernel_rfl) (zW (i := 1) rfl rfl rfl (zH rfl _) (zM (vs := [(.agg [u].toArray)]) Tryz.func17 nm17 rfl rfl rfl ?_))
    refine Calls.mono (xQ hX439.pins (hu.mono (Pin.le_trans (Pin.le_trans (Pin.le_trans (Pin.le_trans (Pin.le_trans (Pin.le_trans (Pin.le_trans (Pin.le_trans (Pin.le_trans (Pin.le_trans (Pin.le_trans (Pin.le_trans (Pin.le_trans hle10 hle23) hx31.le) hx38.le) hle48) hx53.le) hle76) hx85.le) hle115) hle180) hx215.le) hx251.le) hle305) hx312.le)) hsn) ?_
    rintro _ w443 ⟨u441, G442, rfl, hr444, hx445⟩
    refine ⟨_, rfl, ?_⟩
    have hX446 := hX439.tr hx445
    have hb447 := hb436.ext hx445
    refine ⟨fun _ => (Pins.of_le hX446.pins hx445.le), ?_⟩
    refine zQ (i := 3) (by kernel_rfl) (zW (i := 3) rfl rfl rfl (zH rfl _) (zM (vs := [(.agg [v].toArray)]) Tryz.func17 nm17 rfl rfl rfl ?_))
    refine Calls.mono (xQ hX446.pins (hv.mono (Pin.le_trans (Pin.le_trans (Pin.le_trans (Pin.le_trans (Pin.le_trans (Pin.le_trans (Pin.le_trans (Pin.le_trans (Pin.le_trans (Pin.le_trans (Pin.le_trans (Pin.le_trans (Pin.le_trans (Pin.le_trans hle10 hle23) hx31.le) hx38.le) hle48) hx53.le) hle76) hx85.le) hle115) hle180) hx215.le) hx251.le) hle305) hx312.le) hx445.le)) hsm) ?_
    rintro _ w450 ⟨u448, G449, rfl, hr451, hx452⟩
    refine ⟨_, rfl, ?_⟩
    have hX453 := hX446.tr hx452
    have hb454 := hb447.ext hx452
    refine ⟨fun _ => (Pins.of_le hX453.pins (Pin.le_trans hx445.le hx452.le)), ?_⟩
    refine zQ (i := 4) (by kernel_rfl) (zW (i := 4) rfl rfl rfl (zH rfl _) (zM (vs := [(.agg [u441].toArray), (.agg [u448].toArray)]) Tryz.func49 nm49 rfl rfl rfl ?_))
    refine Calls.mono (qQ hX453.pins (hr444.mono hx452.le) hr451) ?_
    rintro _ w457 ⟨u455, G456, rfl, hr458, hx459⟩
    refine ⟨_, rfl, ?_⟩
    have hX460 := hX453.tr hx459
    have hb461 := hb454.ext hx459
    refine ⟨fun _ => (Pins.of_le hX460.pins (Pin.le_trans (Pin.le_trans hx445.le hx452.le) hx459.le)), ?_⟩
    refine dT (i := 5) rfl rfl (by kernel_rfl) (fun _ _ => zB (v := (.tuple #[(.agg [u455].toArray), (.bool (minB ns ms))])) rfl) (Pins.of_le hX460.pins (Pin.le_trans (Pin.le_trans hx445.le hx452.le) hx459.le)) ?_
    refine dT (i := 6) rfl rfl (by kernel_rfl) (fun _ _ => yX (v := (.agg [u455].toArray)) rfl rfl) (Pins.of_le hX460.pins (Pin.le_trans (Pin.le_trans hx445.le hx452.le) hx459.le)) ?_
    refine dT (i := 7) rfl rfl (by kernel_rfl) (fun _ _ => yX (v := (.bool (minB ns ms))) rfl rfl) (Pins.of_le hX460.pins (Pin.le_trans (Pin.le_trans hx445.le hx452.le) hx459.le)) ?_
    refine zQ (i := 9) (by kernel_rfl) (qJ (i := 9) rfl rfl rfl (zH rfl _) (xF (cs' := [u455]) (us := [u455]) (v := (.agg [u455].toArray)) sz32 rfl rfl rfl (yZ hr458.one) hX460.pins hb461 (Nat.le_of_ble_eq_true rfl) rfl (fun w462 hb463 hp464 hg465 hz466 => ?_)))
    have hX467 := hX460.write hp464 hg465 ((yW hlo440))
    obtain ⟨G468, hle469, hX470, hbp471, hf472⟩ := hb463.shut hX467 hlo440
    refine ⟨fun _ => (Pins.of_le hX470.pins (Pin.le_trans (Pin.le_trans (Pin.le_trans hx445.le hx452.le) hx459.le) hle469)), ?_⟩
    refine dT (i := 10) rfl rfl (by kernel_rfl) (fun _ _ => zC (v := (.bool (minB ns ms))) rfl) (Pins.of_le hX470.pins (Pin.le_trans (Pin.le_trans (Pin.le_trans hx445.le hx452.le) hx459.le) hle469)) ?_
    refine yU (by kernel_rfl) ?_
    exact xS ⟨_, b433, u455, G468, (zD (x := 16) (zD (x := 15) (zD (x := 13) (zD (x := 10) (zD (x := 7) (zD (x := 6) (zU (x := 4) rfl) rfl) rfl) rfl) rfl) rfl) rfl), hX470, (Pin.le_trans (Pin.le_trans (Pin.le_trans hx445.le hx452.le) hx459.le) hle469), (hr458.mono hle469), (hbp471.mono (Pin.le_refl _))⟩
 ·skip
  refine xI (S := fun wz => Pins G35 wz) (last := 11) (by kernel_rfl) rfl ?_
  have hl473 : Below w36.heap.size w36 w36.drew := (Below.refl _ _).drew
  have hp474 := hX39.pins.below hl473
  have hX475 := hX39.step hp474 hl473
  refine dT (i := 0) rfl rfl (by kernel_rfl) (fun _ hS => yY (cs := [u]) ag24 sz24 rfl (fun j u hj => (Pins.of_le hS (Pin.le_trans (Pin.le_trans hle23 hx31.le) hx38.le)) _ _ _ (hbp12 _ _ (by simpa using hj)))) hX475.pins ?_
  refine dT (i := 2) rfl rfl (by kernel_rfl) (fun _ hS => yY (cs := [v]) ag24 sz24 rfl (fun j u hj => (Pins.of_le hS (Pin.le_trans hx31.le hx38.le)) _ _ _ (hbp25 _ _ (by simpa using hj)))) hX475.pins ?_
  refine qH (i := 1) (j := 8) (by kernel_rfl) ?_ ?_
  ·skip
   refine (zW (i := 1) rfl rfl rfl (zH rfl _) (zM (vs := [(.agg [u].toArray)]) Tryz.func17 nm17 rfl rfl rfl ?_))
   refine Calls.mono (xQ hX475.pins (hu.mono (Pin.le_trans (Pin.le_trans (Pin.le_trans hle10 hle23) hx31.le) hx38.le)) hsn) ?_
   rintro _ w478 ⟨u476, G477, rfl, hr479, hx480⟩
   refine ⟨_, rfl, ?_⟩
   have hX481 := hX475.tr hx480
   refine ⟨fun _ => (Pins.of_le hX481.pins hx480.le), ?_⟩
   refine qH (i := 3) (j := 8) (by kernel_rfl) ?_ ?_
   ·skip
    refine (zW (i := 3) rfl rfl rfl (zH rfl _) (zM (vs := [(.agg [v].toArray)]) Tryz.func17 nm17 rfl rfl rfl ?_))
    refine Calls.mono (xQ hX481.pins (hv.mono (Pin.le_trans (Pin.le_trans (Pin.le_trans (Pin.le_trans hle10 hle23) hx31.le) hx38.le) hx480.le)) hsm) ?_
    rintro _ w484 ⟨u482, G483, rfl, hr485, hx486⟩
    refine ⟨_, rfl, ?_⟩
    have hX487 := hX481.tr hx486
    refine ⟨fun _ => (Pins.of_le hX487.pins (Pin.le_trans hx480.le hx486.le)), ?_⟩
    refine qH (i := 4) (j := 8) (by kernel_rfl) ?_ ?_
    ·skip
     refine (zW (i := 4) rfl rfl rfl (zH rfl _) (zM (vs := [(.agg [u476].toArray), (.agg [u482].toArray)]) Tryz.func48 nm48 rfl rfl rfl ?_))
     refine Calls.mono (qP hX487.pins (hr479.mono hx486.le) hr485) ?_
     rintro _ w490 ⟨u488, G489, rfl, hr491, hx492⟩
     refine ⟨_, rfl, ?_⟩
     have hX493 := hX487.tr hx492
     refine ⟨fun _ => (Pins.of_le hX493.pins (Pin.le_trans (Pin.le_trans hx480.le hx486.le) hx492.le)), ?_⟩
     refine dT (i := 5) rfl rfl (by kernel_rfl) (fun _ _ => zB (v := (.tuple #[(.agg [u488].toArray), (.bool (minB ns ms))])) rfl) (Pins.of_le hX493.pins (Pin.le_trans (Pin.le_trans hx480.le hx486.le) hx492.le)) ?_
     refine dT (i := 6) rfl rfl (by kernel_rfl) (fun _ _ => yX (v := (.agg [u488].toArray)) rfl rfl) (Pins.of_le hX493.pins (Pin.le_trans (Pin.le_trans hx480.le hx486.le) hx492.le)) ?_
     refine dT (i := 7) rfl rfl (by kernel_rfl) (fun _ _ => yX (v := (.bool (minB ns ms))) rfl rfl) (Pins.of_le hX493.pins (Pin.le_trans (Pin.le_trans hx480.le hx486.le) hx492.le)) ?_
     refine zQ (i := 8) (by kernel_rfl) (zW (i := 8) rfl rfl rfl (zH rfl _) (xB [(.slice none 0 0)] zr32 rfl hX493.pins (fun b494 w495 hk496 hb497 hp498 hl499 => ?_)))
     have hX500 := hX493.step hp498 hl499
     have hlo501 : w.heap.size ≤ b494 := by have := hX493.size; omega
     refine ⟨fun _ => (Pins.of_le hX500.pins (Pin.le_trans (Pin.le_trans hx480.le hx486.le) hx492.le)), ?_⟩
     refine zQ (i := 9) (by kernel_rfl) (qJ (i := 9) rfl rfl rfl (zH rfl _) (xF (cs' := [u488]) (us := [u488]) (v := (.agg [u488].toArray)) sz32 rfl rfl rfl (yZ hr491.one) hX500.pins hb497 (Nat.le_of_ble_eq_true rfl) rfl (fun w502 hb503 hp504 hg505 hz506 => ?_)))
     have hX507 := hX500.write hp504 hg505 ((yW hlo501))
     obtain ⟨G508, hle509, hX510, hbp511, hf512⟩ := hb503.shut hX507 hlo501
     refine ⟨fun _ => (Pins.of_le hX510.pins (Pin.le_trans (Pin.le_trans (Pin.le_trans hx480.le hx486.le) hx492.le) hle509)), ?_⟩
     refine dT (i := 10) rfl rfl (by kernel_rfl) (fun _ _ => zC (v := (.bool (minB ns ms))) rfl) (Pins.of_le hX510.pins (Pin.le_trans (Pin.le_trans (Pin.le_trans hx480.le hx486.le) hx492.le) hle509)) ?_
     refine yU (by kernel_rfl) ?_
     exact xS ⟨_, b494, u488, G508, (zD (x := 7) (zD (x := 6) (zD (x := 4) (zD (x := 3) (zU (x := 2) rfl) rfl) rfl) rfl) rfl), hX510, (Pin.le_trans (Pin.le_trans (Pin.le_trans hx480.le hx486.le) hx492.le) hle509), (hr491.mono hle509), (hbp511.mono (Pin.le_refl _))⟩
    ·skip
     refine (zW (i := 8) rfl rfl rfl (zH rfl _) (xB [(.slice none 0 0)] zr32 rfl hX487.pins (fun b513 w514 hk515 hb516 hp517 hl518 => ?_)))
     have hX519 := hX487.step hp517 hl518
     have hlo520 : w.heap.size ≤ b513 := by have := hX487.size; omega
     refine ⟨fun _ => (Pins.of_le hX519.pins (Pin.le_trans hx480.le hx486.le)), ?_⟩
     refine zQ (i := 4) (by kernel_rfl) (zW (i := 4) rfl rfl rfl (zH rfl _) (zM (vs := [(.agg [u476].toArray), (.agg [u482].toArray)]) Tryz.func48 nm48 rfl rfl rfl ?_))
     refine Calls.mono (qP hX519.pins (hr479.mono hx486.le) hr485) ?_
     rintro _ w523 ⟨u521, G522, rfl, hr524, hx525⟩
     refine ⟨_, rfl, ?_⟩
     have hX526 := hX519.tr hx525
     have hb527 := hb516.ext hx525
     refine ⟨fun _ => (Pins.of_le hX526.pins (Pin.le_trans (Pin.le_trans hx480.le hx486.le) hx525.le)), ?_⟩
     refine dT (i := 5) rfl rfl (by kernel_rfl) (fun _ _ => zB (v := (.tuple #[(.agg [u521].toArray), (.bool (minB ns ms))])) rfl) (Pins.of_le hX526.pins (Pin.le_trans (Pin.le_trans hx480.le hx486.le) hx525.le)) ?_
     refine dT (i := 6) rfl rfl (by kernel_rfl) (fun _ _ => yX (v := (.agg [u521].toArray)) rfl rfl) (Pins.of_le hX526.pins (Pin.le_trans (Pin.le_trans hx480.le hx486.le) hx525.le)) ?_
     refine dT (i := 7) rfl rfl (by kernel_rfl) (fun _ _ => yX (v := (.bool (minB ns ms))) rfl rfl) (Pins.of_le hX526.pins (Pin.le_trans (Pin.le_trans hx480.le hx486.le) hx525.le)) ?_
     refine zQ (i := 9) (by kernel_rfl) (qJ (i := 9) rfl rfl rfl (zH rfl _) (xF (cs' := [u521]) (us := [u521]) (v := (.agg [u521].toArray)) sz32 rfl rfl rfl (yZ hr524.one) hX526.pins hb527 (Nat.le_of_ble_eq_true rfl) rfl (fun w528 hb529 hp530 hg531 hz532 => ?_)))
     have hX533 := hX526.write hp530 hg531 ((yW hlo520))
     obtain ⟨G534, hle535, hX536, hbp537, hf538⟩ := hb529.shut hX533 hlo520
     refine ⟨fun _ => (Pins.of_le hX536.pins (Pin.le_trans (Pin.le_trans (Pin.le_trans hx480.le hx486.le) hx525.le) hle535)), ?_⟩
     refine dT (i := 10) rfl rfl (by kernel_rfl) (fun _ _ => zC (v := (.bool (minB ns ms))) rfl) (Pins.of_le hX536.pins (Pin.le_trans (Pin.le_trans (Pin.le_trans hx480.le hx486.le) hx525.le) hle535)) ?_
     refine yU (by kernel_rfl) ?_
     exact xS ⟨_, b513, u521, G534, (zD (x := 7) (zD (x := 6) (zD (x := 4) (zD (x := 3) (zU (x := 2) rfl) rfl) rfl) rfl) rfl), hX536, (Pin.le_trans (Pin.le_trans (Pin.le_trans hx480.le hx486.le) hx525.le) hle535), (hr524.mono hle535), (hbp537.mono (Pin.le_refl _))⟩
   ·skip
    refine (zW (i := 8) rfl rfl rfl (zH rfl _) (xB [(.slice none 0 0)] zr32 rfl hX481.pins (fun b539 w540 hk541 hb542 hp543 hl544 => ?_)))
    have hX545 := hX481.step hp543 hl544
    have hlo546 : w.heap.size ≤ b539 := by have := hX481.size; omega
    refine ⟨fun _ => (Pins.of_le hX545.pins hx480.le), ?_⟩
    refine zQ (i := 3) (by kernel_rfl) (zW (i := 3) rfl rfl rfl (zH rfl _) (zM (vs := [(.agg [v].toArray)]) Tryz.func17 nm17 rfl rfl rfl ?_))
    refine Calls.mono (xQ hX545.pins (hv.mono (Pin.le_trans (Pin.le_trans (Pin.le_trans (Pin.le_trans hle10 hle23) hx31.le) hx38.le) hx480.le)) hsm) ?_
    rintro _ w549 ⟨u547, G548, rfl, hr550, hx551⟩
    refine ⟨_, rfl, ?_⟩
    have hX552 := hX545.tr hx551
    have hb553 := hb542.ext hx551
    refine ⟨fun _ => (Pins.of_le hX552.pins (Pin.le_trans hx480.le hx551.le)), ?_⟩
    refine zQ (i := 4) (by kernel_rfl) (zW (i := 4) rfl rfl rfl (zH rfl _) (zM (vs := [(.agg [u476].toArray), (.agg [u547].toArray)]) Tryz.func48 nm48 rfl rfl rfl ?_))
    refine Calls.mono (qP hX552.pins (hr479.mono hx551.le) hr550) ?_
    rintro _ w556 ⟨u554, G555, rfl, hr557, hx558⟩
    refine ⟨_, rfl, ?_⟩
    have hX559 := hX552.tr hx558
    have hb560 := hb553.ext hx558
    refine ⟨fun _ => (Pins.of_le hX559.pins (Pin.le_trans (Pin.le_trans hx480.le hx551.le) hx558.le)), ?_⟩
    refine dT (i := 5) rfl rfl (by kernel_rfl) (fun _ _ => zB (v := (.tuple #[(.agg [u554].toArray), (.bool (minB ns ms))])) rfl) (Pins.of_le hX559.pins (Pin.le_trans (Pin.le_trans hx480.le hx551.le) hx558.le)) ?_
    refine dT (i := 6) rfl rfl (by kernel_rfl) (fun _ _ => yX (v := (.agg [u554].toArray)) rfl rfl) (Pins.of_le hX559.pins (Pin.le_trans (Pin.le_trans hx480.le hx551.le) hx558.le)) ?_
    refine dT (i := 7) rfl rfl (by kernel_rfl) (fun _ _ => yX (v := (.bool (minB ns ms))) rfl rfl) (Pins.of_le hX559.pins (Pin.le_trans (Pin.le_trans hx480.le hx551.le) hx558.le)) ?_
    refine zQ (i := 9) (by kernel_rfl) (qJ (i := 9) rfl rfl rfl (zH rfl _) (xF (cs' := [u554]) (us := [u554]) (v := (.agg [u554].toArray)) sz32 rfl rfl rfl (yZ hr557.one) hX559.pins hb560 (Nat.le_of_ble_eq_true rfl) rfl (fun w561 hb562 hp563 hg564 hz565 => ?_)))
    have hX566 := hX559.write hp563 hg564 ((yW hlo546))
    obtain ⟨G567, hle568, hX569, hbp570, hf571⟩ := hb562.shut hX566 hlo546
    refine ⟨fun _ => (Pins.of_le hX569.pins (Pin.le_trans (Pin.le_trans (Pin.le_trans hx480.le hx551.le) hx558.le) hle568)), ?_⟩
    refine dT (i := 10) rfl rfl (by kernel_rfl) (fun _ _ => zC (v := (.bool (minB ns ms))) rfl) (Pins.of_le hX569.pins (Pin.le_trans (Pin.le_trans (Pin.le_trans hx480.le hx551.le) hx558.le) hle568)) ?_
    refine yU (by kernel_rfl) ?_
    exact xS ⟨_, b539, u554, G567, (zD (x := 7) (zD (x := 6) (zD (x := 4) (zD (x := 3) (zU (x := 2) rfl) rfl) rfl) rfl) rfl), hX569, (Pin.le_trans (Pin.le_trans (Pin.le_trans hx480.le hx551.le) hx558.le) hle568), (hr557.mono hle568), (hbp570.mono (Pin.le_refl _))⟩
  ·skip
   refine (zW (i := 8) rfl rfl rfl (zH rfl _) (xB [(.slice none 0 0)] zr32 rfl hX475.pins (fun b572 w573 hk574 hb575 hp576 hl577 => ?_)))
   have hX578 := hX475.step hp576 hl577
   have hlo579 : w.heap.size ≤ b572 := by have := hX475.size; omega
   refine ⟨fun _ => hX578.pins, ?_⟩
   refine zQ (i := 1) (by kernel_rfl) (zW (i := 1) rfl rfl rfl (zH rfl _) (zM (vs := [(.agg [u].toArray)]) Tryz.func17 nm17 rfl rfl rfl ?_))
   refine Calls.mono (xQ hX578.pins (hu.mono (Pin.le_trans (Pin.le_trans (Pin.le_trans hle10 hle23) hx31.le) hx38.le)) hsn) ?_
   rintro _ w582 ⟨u580, G581, rfl, hr583, hx584⟩
   refine ⟨_, rfl, ?_⟩
   have hX585 := hX578.tr hx584
   have hb586 := hb575.ext hx584
   refine ⟨fun _ => (Pins.of_le hX585.pins hx584.le), ?_⟩
   refine zQ (i := 3) (by kernel_rfl) (zW (i := 3) rfl rfl rfl (zH rfl _) (zM (vs := [(.agg [v].toArray)]) Tryz.func17 nm17 rfl rfl rfl ?_))
   refine Calls.mono (xQ hX585.pins (hv.mono (Pin.le_trans (Pin.le_trans (Pin.le_trans (Pin.le_trans hle10 hle23) hx31.le) hx38.le) hx584.le)) hsm) ?_
   rintro _ w589 ⟨u587, G588, rfl, hr590, hx591⟩
   refine ⟨_, rfl, ?_⟩
   have hX592 := hX585.tr hx591
   have hb593 := hb586.ext hx591
   refine ⟨fun _ => (Pins.of_le hX592.pins (Pin.le_trans hx584.le hx591.le)), ?_⟩
   refine zQ (i := 4) (by kernel_rfl) (zW (i := 4) rfl rfl rfl (zH rfl _) (zM (vs := [(.agg [u580].toArray), (.agg [u587].toArray)]) Tryz.func48 nm48 rfl rfl rfl ?_))
   refine Calls.mono (qP hX592.pins (hr583.mono hx591.le) hr590) ?_
   rintro _ w596 ⟨u594, G595, rfl, hr597, hx598⟩
   refine ⟨_, rfl, ?_⟩
   have hX599 := hX592.tr hx598
   have hb600 := hb593.ext hx598
   refine ⟨fun _ => (Pins.of_le hX599.pins (Pin.le_trans (Pin.le_trans hx584.le hx591.le) hx598.le)), ?_⟩
   refine dT (i := 5) rfl rfl (by kernel_rfl) (fun _ _ => zB (v := (.tuple #[(.agg [u594].toArray), (.bool (minB ns ms))])) rfl) (Pins.of_le hX599.pins (Pin.le_trans (Pin.le_trans hx584.le hx591.le) hx598.le)) ?_
   refine dT (i := 6) rfl rfl (by kernel_rfl) (fun _ _ => yX (v := (.agg [u594].toArray)) rfl rfl) (Pins.of_le hX599.pins (Pin.le_trans (Pin.le_trans hx584.le hx591.le) hx598.le)) ?_
   refine dT (i := 7) rfl rfl (by kernel_rfl) (fun _ _ => yX (v := (.bool (minB ns ms))) rfl rfl) (Pins.of_le hX599.pins (Pin.le_trans (Pin.le_trans hx584.le hx591.le) hx598.le)) ?_
   refine zQ (i := 9) (by kernel_rfl) (qJ (i := 9) rfl rfl rfl (zH rfl _) (xF (cs' := [u594]) (us := [u594]) (v := (.agg [u594].toArray)) sz32 rfl rfl rfl (yZ hr597.one) hX599.pins hb600 (Nat.le_of_ble_eq_true rfl) rfl (fun w601 hb602 hp603 hg604 hz605 => ?_)))
   have hX606 := hX599.write hp603 hg604 ((yW hlo579))
   obtain ⟨G607, hle608, hX609, hbp610, hf611⟩ := hb602.shut hX606 hlo579
   refine ⟨fun _ => (Pins.of_le hX609.pins (Pin.le_trans (Pin.le_trans (Pin.le_trans hx584.le hx591.le) hx598.le) hle608)), ?_⟩
   refine dT (i := 10) rfl rfl (by kernel_rfl) (fun _ _ => zC (v := (.bool (minB ns ms))) rfl) (Pins.of_le hX609.pins (Pin.le_trans (Pin.le_trans (Pin.le_trans hx584.le hx591.le) hx598.le) hle608)) ?_
   refine yU (by kernel_rfl) ?_
   exact xS ⟨_, b572, u594, G607, (zD (x := 7) (zD (x := 6) (zD (x := 4) (zD (x := 3) (zU (x := 2) rfl) rfl) rfl) rfl) rfl), hX609, (Pin.le_trans (Pin.le_trans (Pin.le_trans hx584.le hx591.le) hx598.le) hle608), (hr597.mono hle608), (hbp610.mono (Pin.le_refl _))⟩

end LM1
end Go.Proofs.YtpknebplcmgnkaaGreatDoor
